/- Layer 20's functions as plain Lean functions: K stands for calls that come back, n bounds the rounds of loops. Made by a program. -/
import Derived.Test.YtolhpahjgddjkaaCoGt
namespace Go.Proofs.Ytolhpahjgddjkaa
open Go.RowKit
set_option maxRecDepth 20000
set_option linter.all false
set_option linter.unusedVariables false
set_option linter.unusedSimpArgs false
noncomputable section
def mi (K:Kn) (n:Nat) (v1:List (List (V2 Int))) (v122:Int) (v123:List (List ae)) (v124:List TMp) (v139 v141 v142:Int) (v143:List ae) (L1:Int→Int→(List (List ae))→(List TMp)→Option ((List (List ae))×Int)) (L2:Int→Int→Int→Int→(List ae)→Option ((List (List ae))×Int)) (L3:Int→(V2 Int)→Option ((List (List ae))×Int)) (v146:Int) (v147:V2 Int):Option ((List (List ae))×Int) :=
  chk (inb v122 v124.length) (
  (some (mget (List.getD v124 (v122).toNat none) v146)).bind fun v148 =>
  if v148=true then
    L3 (w64 (v146+1)) v147
  else
    (some (min (max v147.a0 1) (w64 ((v1.length:Int) - v122)))).bind fun v149 =>
    chk (fits (v143.length+([(⟨v122,v146,v149,(min (max v147.a1 1) 100)⟩:ae)]:(List ae)).length) 32) (
    L2 (max v139 (w64 (v146+(min (max v147.a1 1) 100)))) (w64 (v146+(min (max v147.a1 1) 100))) v141 (w64 (v142+1)) (v143++[(⟨v122,v146,v149,(min (max v147.a1 1) 100)⟩:ae)])))
def gZ (K:Kn) (n:Nat) (v1:List (List (V2 Int))) (v122:Int) (v123:List (List ae)) (v124:List TMp) (v139 v141 v142:Int) (v143:List ae) (L1:Int→Int→(List (List ae))→(List TMp)→Option ((List (List ae))×Int)) (L2:Int→Int→Int→Int→(List ae)→Option ((List (List ae))×Int)):Nat→Int→(V2 Int)→Option ((List (List ae))×Int)
  | 0=>fun _ _=>none
  | m+1=>mi K n v1 v122 v123 v124 v139 v141 v142 v143 L1 L2 (gZ K n v1 v122 v123 v124 v139 v141 v142 v143 L1 L2 m)
def py (K:Kn) (n:Nat) (v1:List (List (V2 Int))) (v122:Int) (v123:List (List ae)) (v139:Int) (v143:List ae) (v166 v175:Int) (L1:Int→Int→(List (List ae))→(List TMp)→Option ((List (List ae))×Int)) (L4 L5 L6:Int→(List TMp)→Option ((List (List ae))×Int)) (v181:Int) (v182:List TMp):Option ((List (List ae))×Int) :=
  (some (decide (v181<(w64 (((List.getD v143 (v166).toNat default).Col)+((List.getD v143 (v166).toNat default).Cols)))))).bind fun v183 =>
  if v183=true then
    chk (inb v175 v182.length) (
    chk (Option.isSome (List.getD v182 (v175).toNat none)) (
    L6 (w64 (v181+1)) (List.set v182 (v175).toNat (mput (List.getD v182 (v175).toNat none) v181 true))))
  else
    L5 (w64 (v175+1)) v182
def kw (K:Kn) (n:Nat) (v1:List (List (V2 Int))) (v122:Int) (v123:List (List ae)) (v139:Int) (v143:List ae) (v166 v175:Int) (L1:Int→Int→(List (List ae))→(List TMp)→Option ((List (List ae))×Int)) (L4 L5:Int→(List TMp)→Option ((List (List ae))×Int)):Nat→Int→(List TMp)→Option ((List (List ae))×Int)
  | 0=>fun _ _=>none
  | m+1=>py K n v1 v122 v123 v139 v143 v166 v175 L1 L4 L5 (kw K n v1 v122 v123 v139 v143 v166 v175 L1 L4 L5 m)
def l6 (K:Kn) (n:Nat) (v1:List (List (V2 Int))) (v122:Int) (v123:List (List ae)) (v139:Int) (v143:List ae) (v166 v175:Int) (L1:Int→Int→(List (List ae))→(List TMp)→Option ((List (List ae))×Int)) (L4 L5:Int→(List TMp)→Option ((List (List ae))×Int)) (v179:List TMp):Option ((List (List ae))×Int) :=
  kw K n v1 v122 v123 v139 v143 v166 v175 L1 L4 L5 n ((List.getD v143 (v166).toNat default).Col) v179
def oQ (K:Kn) (n:Nat) (v1:List (List (V2 Int))) (v122:Int) (v123:List (List ae)) (v139:Int) (v143:List ae) (v166:Int) (L1:Int→Int→(List (List ae))→(List TMp)→Option ((List (List ae))×Int)) (L4 L5:Int→(List TMp)→Option ((List (List ae))×Int)) (v175:Int) (v176:List TMp):Option ((List (List ae))×Int) :=
  (some (decide (v175<(w64 (v122+((List.getD v143 (v166).toNat default).Rows)))))).bind fun v177 =>
  if v177=true then
    chk (inb v175 v176.length) (
    (some (Option.isNone (List.getD v176 (v175).toNat none))).bind fun v178 =>
    if v178=true then
      chk (inb v175 v176.length) (
      l6 K n v1 v122 v123 v139 v143 v166 v175 L1 L4 L5 (List.set v176 (v175).toNat (some [])))
    else
      l6 K n v1 v122 v123 v139 v143 v166 v175 L1 L4 L5 v176)
  else
    L4 (w64 (v166+1)) v176
def gO (K:Kn) (n:Nat) (v1:List (List (V2 Int))) (v122:Int) (v123:List (List ae)) (v139:Int) (v143:List ae) (v166:Int) (L1:Int→Int→(List (List ae))→(List TMp)→Option ((List (List ae))×Int)) (L4:Int→(List TMp)→Option ((List (List ae))×Int)):Nat→Int→(List TMp)→Option ((List (List ae))×Int)
  | 0=>fun _ _=>none
  | m+1=>oQ K n v1 v122 v123 v139 v143 v166 L1 L4 (gO K n v1 v122 v123 v139 v143 v166 L1 L4 m)
def oq (K:Kn) (n:Nat) (v1:List (List (V2 Int))) (v122:Int) (v123:List (List ae)) (v139:Int) (v143:List ae) (L1:Int→Int→(List (List ae))→(List TMp)→Option ((List (List ae))×Int)) (L4:Int→(List TMp)→Option ((List (List ae))×Int)) (v166:Int) (v167:List TMp):Option ((List (List ae))×Int) :=
  if (decide (v166<(v143.length:Int)))=true then
    chk (inb v166 v143.length) (
    gO K n v1 v122 v123 v139 v143 v166 L1 L4 n (w64 (v122+1)) v167)
  else
    chk (fits (v123.length+([v143]:(List (List ae))).length) 24) (
    L1 v139 (w64 (v122+1)) (v123++[v143]) v167)
def iD (K:Kn) (n:Nat) (v1:List (List (V2 Int))) (v122:Int) (v123:List (List ae)) (v139:Int) (v143:List ae) (L1:Int→Int→(List (List ae))→(List TMp)→Option ((List (List ae))×Int)):Nat→Int→(List TMp)→Option ((List (List ae))×Int)
  | 0=>fun _ _=>none
  | m+1=>oq K n v1 v122 v123 v139 v143 L1 (iD K n v1 v122 v123 v139 v143 L1 m)
def n9 (K:Kn) (n:Nat) (v1:List (List (V2 Int))) (v122:Int) (v123:List (List ae)) (v124:List TMp) (L1:Int→Int→(List (List ae))→(List TMp)→Option ((List (List ae))×Int)) (L2:Int→Int→Int→Int→(List ae)→Option ((List (List ae))×Int)) (v139 v140 v141 v142:Int) (v143:List ae):Option ((List (List ae))×Int) :=
  if (decide (v142<v141))=true then
    chk (inb v142 (List.getD v1 (v122).toNat default).length) (
    gZ K n v1 v122 v123 v124 v139 v141 v142 v143 L1 L2 n v140 (List.getD (List.getD v1 (v122).toNat default) (v142).toNat default))
  else
    iD K n v1 v122 v123 v139 v143 L1 n 0 v124
def jx (K:Kn) (n:Nat) (v1:List (List (V2 Int))) (v122:Int) (v123:List (List ae)) (v124:List TMp) (L1:Int→Int→(List (List ae))→(List TMp)→Option ((List (List ae))×Int)):Nat→Int→Int→Int→Int→(List ae)→Option ((List (List ae))×Int)
  | 0=>fun _ _ _ _ _=>none
  | m+1=>n9 K n v1 v122 v123 v124 L1 (jx K n v1 v122 v123 v124 L1 m)
def oO (K:Kn) (n:Nat) (v1:List (List (V2 Int))) (L1:Int→Int→(List (List ae))→(List TMp)→Option ((List (List ae))×Int)) (v121 v122:Int) (v123:List (List ae)) (v124:List TMp):Option ((List (List ae))×Int) :=
  if (decide (v122<(v1.length:Int)))=true then
    chk (inb v122 v1.length) (
    jx K n v1 v122 v123 v124 L1 n v121 0 ((List.getD v1 (v122).toNat default).length:Int) 0 [])
  else
    some (v123,v121)
def gP (K:Kn) (n:Nat) (v1:List (List (V2 Int))):Nat→Int→Int→(List (List ae))→(List TMp)→Option ((List (List ae))×Int)
  | 0=>fun _ _ _ _=>none
  | m+1=>oO K n v1 (gP K n v1 m)
def jN (K:Kn) (n:Nat) (v1:List (List (V2 Int))):Option ((List (List ae))×Int) :=
  chk (mkb (v1.length:Int) 8) (
  (some (List.replicate ((v1.length:Int)).toNat (none:TMp))).bind fun v2 =>
  gP K n v1 n 0 0 [] v2)
def eZ (K:Kn) (n:Nat) (v1:Int):Option Int :=
  some (min (max v1 0) 1048576)
def gR (K:Kn) (n:Nat) (v1 v2:Int):Option Int :=
  some (min (max v1 0) v2)
def kQ (K:Kn) (n:Nat) (v2 v3:Int) (v4:Fv) (v11 v15:Int) (v16:List Int) (L1 L2:Int→(List Int)→Option (List Int)) (v18:Bool):Option (List Int) :=
  if v18=true then
    chk (inb (w64 (v15 - 1)) v16.length) (
    chk (inb v15 v16.length) (
    chk (inb v15 v16.length) (
    chk (inb (w64 (v15 - 1)) (List.set v16 (v15).toNat (List.getD v16 ((w64 (v15 - 1))).toNat default)).length) (
    L2 (w64 (v15 - 1)) (List.set (List.set v16 (v15).toNat (List.getD v16 ((w64 (v15 - 1))).toNat default)) ((w64 (v15 - 1))).toNat (List.getD v16 (v15).toNat default))))))
  else
    L1 (w64 (v11+1)) v16
def oh (K:Kn) (n:Nat) (v2 v3:Int) (v4:Fv) (v11:Int) (L1 L2:Int→(List Int)→Option (List Int)) (v15:Int) (v16:List Int):Option (List Int) :=
  if (decide (v15>v2))=true then
    chk (inb v15 v16.length) (
    chk (inb (w64 (v15 - 1)) v16.length) (
    (K.dS v4 (List.getD v16 (v15).toNat default) (List.getD v16 ((w64 (v15 - 1))).toNat default)).bind fun v17 =>
    kQ K n v2 v3 v4 v11 v15 v16 L1 L2 (decide (v17<0))))
  else
    kQ K n v2 v3 v4 v11 v15 v16 L1 L2 false
def lU (K:Kn) (n:Nat) (v2 v3:Int) (v4:Fv) (v11:Int) (L1:Int→(List Int)→Option (List Int)):Nat→Int→(List Int)→Option (List Int)
  | 0=>fun _ _=>none
  | m+1=>oh K n v2 v3 v4 v11 L1 (lU K n v2 v3 v4 v11 L1 m)
def lD (K:Kn) (n:Nat) (v2 v3:Int) (v4:Fv) (L1:Int→(List Int)→Option (List Int)) (v11:Int) (v12:List Int):Option (List Int) :=
  if (decide (v11<v3))=true then
    lU K n v2 v3 v4 v11 L1 n v11 v12
  else
    some v12
def ig (K:Kn) (n:Nat) (v2 v3:Int) (v4:Fv):Nat→Int→(List Int)→Option (List Int)
  | 0=>fun _ _=>none
  | m+1=>lD K n v2 v3 v4 (ig K n v2 v3 v4 m)
def jY (K:Kn) (n:Nat) (v1:List Int) (v2 v3:Int) (v4:Fv):Option (List Int) :=
  ig K n v2 v3 v4 n (w64 (v2+1)) v1
def n3 (K:Kn) (n:Nat) (v2 v3 v4:Int) (L1:Int→(List Int)→Option (List Int)) (v6:Int) (v7:List Int):Option (List Int) :=
  if (decide (v6<v4))=true then
    chk (inb (w64 (v3+v6)) v7.length) (
    chk (inb (w64 (v2+v6)) v7.length) (
    chk (inb (w64 (v2+v6)) v7.length) (
    chk (inb (w64 (v3+v6)) (List.set v7 ((w64 (v2+v6))).toNat (List.getD v7 ((w64 (v3+v6))).toNat default)).length) (
    L1 (w64 (v6+1)) (List.set (List.set v7 ((w64 (v2+v6))).toNat (List.getD v7 ((w64 (v3+v6))).toNat default)) ((w64 (v3+v6))).toNat (List.getD v7 ((w64 (v2+v6))).toNat default))))))
  else
    some v7
def le (K:Kn) (n:Nat) (v2 v3 v4:Int):Nat→Int→(List Int)→Option (List Int)
  | 0=>fun _ _=>none
  | m+1=>n3 K n v2 v3 v4 (le K n v2 v3 v4 m)
def jA (K:Kn) (n:Nat) (v1:List Int) (v2 v3 v4:Int) (v5:Fv):Option (List Int) :=
  le K n v2 v3 v4 n 0 v1
def lM (K:Kn) (n:Nat) (v3:Int) (v5:Fv) (L1:Int→Int→(List Int)→Option (List Int)) (v16 v17:Int) (v18:List Int):Option (List Int) :=
  L1 v16 v17 v18
def mN (K:Kn) (n:Nat) (v3:Int) (v5:Fv) (L1:Int→Int→(List Int)→Option (List Int)) (v11 v12:Int) (v13:List Int):Option (List Int) :=
  if (v11 != v12)=true then
    if (decide (v11>v12))=true then
      (jA K n v13 (w64 (v3 - v11)) v3 v12 v5).bind fun v14 =>
      lM K n v3 v5 L1 (w64 (v11 - v12)) v12 v14
    else
      (jA K n v13 (w64 (v3 - v11)) (w64 ((w64 (v3+v12)) - v11)) v11 v5).bind fun v15 =>
      lM K n v3 v5 L1 v11 (w64 (v12 - v11)) v15
  else
    (jA K n v13 (w64 (v3 - v11)) v3 v11 v5).bind fun v19 =>
    some v19
def lg (K:Kn) (n:Nat) (v3:Int) (v5:Fv):Nat→Int→Int→(List Int)→Option (List Int)
  | 0=>fun _ _ _=>none
  | m+1=>mN K n v3 v5 (lg K n v3 v5 m)
def n7 (K:Kn) (n:Nat) (v1:List Int) (v2 v3 v4:Int) (v5:Fv):Option (List Int) :=
  lg K n v3 v5 n (w64 (v3 - v2)) (w64 (v4 - v3)) v1
def pm (K:Kn) (n:Nat) (v1:List Int) (v2:Int) (v5:Fv) (L1:Int→Int→Option (List Int)) (v14 v15:Int):Option (List Int) :=
  L1 v14 v15
def oW (K:Kn) (n:Nat) (v10:Int) (L2:Int→(List Int)→Option (List Int)) (v16:Int) (v17:List Int):Option (List Int) :=
  if (decide (v16<(w64 (v10 - 1))))=true then
    chk (inb (w64 (v16+1)) v17.length) (
    chk (inb v16 v17.length) (
    chk (inb v16 v17.length) (
    chk (inb (w64 (v16+1)) (List.set v17 (v16).toNat (List.getD v17 ((w64 (v16+1))).toNat default)).length) (
    L2 (w64 (v16+1)) (List.set (List.set v17 (v16).toNat (List.getD v17 ((w64 (v16+1))).toNat default)) ((w64 (v16+1))).toNat (List.getD v17 (v16).toNat default))))))
  else
    some v17
def jR (K:Kn) (n:Nat) (v10:Int):Nat→Int→(List Int)→Option (List Int)
  | 0=>fun _ _=>none
  | m+1=>oW K n v10 (jR K n v10 m)
def oY (K:Kn) (n:Nat) (v1:List Int) (v2:Int) (v5:Fv) (L1:Int→Int→Option (List Int)) (v10 v11:Int):Option (List Int) :=
  if (decide (v10<v11))=true then
    (some (w64 ((IntKind.wrap .u64 (w64 (v10+v11))) / 2))).bind fun v12 =>
    chk (inb v12 v1.length) (
    chk (inb v2 v1.length) (
    (K.dS v5 (List.getD v1 (v12).toNat default) (List.getD v1 (v2).toNat default)).bind fun v13 =>
    if (decide (v13<0))=true then
      pm K n v1 v2 v5 L1 (w64 (v12+1)) v11
    else
      pm K n v1 v2 v5 L1 v10 v12))
  else
    jR K n v10 n v2 v1
def kG (K:Kn) (n:Nat) (v1:List Int) (v2:Int) (v5:Fv):Nat→Int→Int→Option (List Int)
  | 0=>fun _ _=>none
  | m+1=>oY K n v1 v2 v5 (kG K n v1 v2 v5 m)
def pa (K:Kn) (n:Nat) (v1:List Int) (v3:Int) (v5:Fv) (L3:Int→Int→Option (List Int)) (v26 v27:Int):Option (List Int) :=
  L3 v26 v27
def nb (K:Kn) (n:Nat) (v22:Int) (L4:Int→(List Int)→Option (List Int)) (v28:Int) (v29:List Int):Option (List Int) :=
  if (decide (v28>v22))=true then
    chk (inb (w64 (v28 - 1)) v29.length) (
    chk (inb v28 v29.length) (
    chk (inb v28 v29.length) (
    chk (inb (w64 (v28 - 1)) (List.set v29 (v28).toNat (List.getD v29 ((w64 (v28 - 1))).toNat default)).length) (
    L4 (w64 (v28 - 1)) (List.set (List.set v29 (v28).toNat (List.getD v29 ((w64 (v28 - 1))).toNat default)) ((w64 (v28 - 1))).toNat (List.getD v29 (v28).toNat default))))))
  else
    some v29
def jJ (K:Kn) (n:Nat) (v22:Int):Nat→Int→(List Int)→Option (List Int)
  | 0=>fun _ _=>none
  | m+1=>nb K n v22 (jJ K n v22 m)
def o9 (K:Kn) (n:Nat) (v1:List Int) (v3:Int) (v5:Fv) (L3:Int→Int→Option (List Int)) (v22 v23:Int):Option (List Int) :=
  if (decide (v22<v23))=true then
    (some (w64 ((IntKind.wrap .u64 (w64 (v22+v23))) / 2))).bind fun v24 =>
    chk (inb v3 v1.length) (
    chk (inb v24 v1.length) (
    (K.dS v5 (List.getD v1 (v3).toNat default) (List.getD v1 (v24).toNat default)).bind fun v25 =>
    if (!(decide (v25<0)))=true then
      pa K n v1 v3 v5 L3 (w64 (v24+1)) v23
    else
      pa K n v1 v3 v5 L3 v22 v24))
  else
    jJ K n v22 n v3 v1
def lQ (K:Kn) (n:Nat) (v1:List Int) (v3:Int) (v5:Fv):Nat→Int→Int→Option (List Int)
  | 0=>fun _ _=>none
  | m+1=>o9 K n v1 v3 v5 (lQ K n v1 v3 v5 m)
def oS (K:Kn) (n:Nat) (v1:List Int) (v2 v3 v4:Int) (v5:Fv) (v30 v31:Int) (L5:Int→Int→Option (List Int)) (v43 v44:Int):Option (List Int) :=
  L5 v43 v44
def nY (K:Kn) (n:Nat) (v53:List Int):Option (List Int) :=
  some v53
def kx (K:Kn) (n:Nat) (v4:Int) (v5:Fv) (v30 v31 v39:Int) (v50:List Int) (v51:Bool):Option (List Int) :=
  if v51=true then
    (K.fS v50 v30 (w64 (v31 - v39)) v4 v5).bind fun v52 =>
    nY K n v52
  else
    nY K n v50
def gH (K:Kn) (n:Nat) (v4:Int) (v5:Fv) (v30 v31 v39:Int) (v50:List Int):Option (List Int) :=
  if (decide (v30<(w64 (v31 - v39))))=true then
    kx K n v4 v5 v30 v31 v39 v50 (decide ((w64 (v31 - v39))<v4))
  else
    kx K n v4 v5 v30 v31 v39 v50 false
def mq (K:Kn) (n:Nat) (v2 v4:Int) (v5:Fv) (v30 v31 v39:Int) (v47:List Int) (v48:Bool):Option (List Int) :=
  if v48=true then
    (K.fS v47 v2 v39 v30 v5).bind fun v49 =>
    gH K n v4 v5 v30 v31 v39 v49
  else
    gH K n v4 v5 v30 v31 v39 v47
def jG (K:Kn) (n:Nat) (v2 v4:Int) (v5:Fv) (v30 v31 v39:Int) (v47:List Int):Option (List Int) :=
  if (decide (v2<v39))=true then
    mq K n v2 v4 v5 v30 v31 v39 v47 (decide (v39<v30))
  else
    mq K n v2 v4 v5 v30 v31 v39 v47 false
def eJ (K:Kn) (n:Nat) (v1:List Int) (v2 v3 v4:Int) (v5:Fv) (v30 v31 v39:Int) (v45:Bool):Option (List Int) :=
  if v45=true then
    (n7 K n v1 v39 v3 (w64 (v31 - v39)) v5).bind fun v46 =>
    jG K n v2 v4 v5 v30 v31 v39 v46
  else
    jG K n v2 v4 v5 v30 v31 v39 v1
def ni (K:Kn) (n:Nat) (v1:List Int) (v2 v3 v4:Int) (v5:Fv) (v30 v31:Int) (L5:Int→Int→Option (List Int)) (v39 v40:Int):Option (List Int) :=
  if (decide (v39<v40))=true then
    (some (w64 ((IntKind.wrap .u64 (w64 (v39+v40))) / 2))).bind fun v41 =>
    chk (inb (w64 ((w64 (v31 - 1)) - v41)) v1.length) (
    chk (inb v41 v1.length) (
    (K.dS v5 (List.getD v1 ((w64 ((w64 (v31 - 1)) - v41))).toNat default) (List.getD v1 (v41).toNat default)).bind fun v42 =>
    if (!(decide (v42<0)))=true then
      oS K n v1 v2 v3 v4 v5 v30 v31 L5 (w64 (v41+1)) v40
    else
      oS K n v1 v2 v3 v4 v5 v30 v31 L5 v39 v41))
  else
    if (decide (v39<v3))=true then
      eJ K n v1 v2 v3 v4 v5 v30 v31 v39 (decide (v3<(w64 (v31 - v39))))
    else
      eJ K n v1 v2 v3 v4 v5 v30 v31 v39 false
def iT (K:Kn) (n:Nat) (v1:List Int) (v2 v3 v4:Int) (v5:Fv) (v30 v31:Int):Nat→Int→Int→Option (List Int)
  | 0=>fun _ _=>none
  | m+1=>ni K n v1 v2 v3 v4 v5 v30 v31 (iT K n v1 v2 v3 v4 v5 v30 v31 m)
def lT (K:Kn) (n:Nat) (v1:List Int) (v2 v3 v4:Int) (v5:Fv) (v30 v31 v33 v34:Int):Option (List Int) :=
  iT K n v1 v2 v3 v4 v5 v30 v31 n v33 v34
def fi (K:Kn) (n:Nat) (v1:List Int) (v2 v3 v4:Int) (v5:Fv):Option (List Int) :=
  if ((w64 (v3 - v2)) == 1)=true then
    kG K n v1 v2 v5 n v3 v4
  else
    if ((w64 (v4 - v3)) == 1)=true then
      lQ K n v1 v3 v5 n v2 v3
    else
      (some (w64 ((IntKind.wrap .u64 (w64 (v2+v4))) / 2))).bind fun v30 =>
      (some (w64 ((w64 ((IntKind.wrap .u64 (w64 (v2+v4))) / 2))+v3))).bind fun v31 =>
      (some (decide (v3>(w64 ((IntKind.wrap .u64 (w64 (v2+v4))) / 2))))).bind fun v32 =>
      if v32=true then
        lT K n v1 v2 v3 v4 v5 v30 v31 (w64 (v31 - v4)) v30
      else
        lT K n v1 v2 v3 v4 v5 v30 v31 v2 v3
def n8 (K:Kn) (n:Nat) (v2:Int) (v3:Fv) (v17:Int) (L2:Int→(List Int)→Option (List Int)) (v25:List Int):Option (List Int) :=
  L2 (w64 (v17*2)) v25
def oT (K:Kn) (n:Nat) (v2:Int) (v3:Fv) (v17:Int) (L2:Int→(List Int)→Option (List Int)) (L3:Int→Int→(List Int)→Option (List Int)) (v20 v21:Int) (v22:List Int):Option (List Int) :=
  if (decide (v21≤v2))=true then
    (fi K n v22 v20 (w64 (v20+v17)) v21 v3).bind fun v23 =>
    L3 v21 (w64 (v21+(w64 (2*v17)))) v23
  else
    if (decide ((w64 (v20+v17))<v2))=true then
      (fi K n v22 v20 (w64 (v20+v17)) v2 v3).bind fun v24 =>
      n8 K n v2 v3 v17 L2 v24
    else
      n8 K n v2 v3 v17 L2 v22
def mj (K:Kn) (n:Nat) (v2:Int) (v3:Fv) (v17:Int) (L2:Int→(List Int)→Option (List Int)):Nat→Int→Int→(List Int)→Option (List Int)
  | 0=>fun _ _ _=>none
  | m+1=>oT K n v2 v3 v17 L2 (mj K n v2 v3 v17 L2 m)
def oD (K:Kn) (n:Nat) (v2:Int) (v3:Fv) (L2:Int→(List Int)→Option (List Int)) (v17:Int) (v18:List Int):Option (List Int) :=
  if (decide (v17<v2))=true then
    mj K n v2 v3 v17 L2 n 0 (w64 (2*v17)) v18
  else
    some v18
def im (K:Kn) (n:Nat) (v2:Int) (v3:Fv):Nat→Int→(List Int)→Option (List Int)
  | 0=>fun _ _=>none
  | m+1=>oD K n v2 v3 (im K n v2 v3 m)
def ot (K:Kn) (n:Nat) (v2:Int) (v3:Fv) (L1:Int→Int→(List Int)→Option (List Int)) (v5 v6:Int) (v7:List Int):Option (List Int) :=
  if (decide (v6≤v2))=true then
    (jY K n v7 v5 v6 v3).bind fun v8 =>
    L1 v6 (w64 (v6+20)) v8
  else
    (jY K n v7 v5 v2 v3).bind fun v9 =>
    im K n v2 v3 n 20 v9
def mh (K:Kn) (n:Nat) (v2:Int) (v3:Fv):Nat→Int→Int→(List Int)→Option (List Int)
  | 0=>fun _ _ _=>none
  | m+1=>ot K n v2 v3 (mh K n v2 v3 m)
def qP (K:Kn) (n:Nat) (v1:List Int) (v2:Int) (v3:Fv):Option (List Int) :=
  mh K n v2 v3 n 0 20 v1
def fP (K:Kn) (n:Nat) (v1:List Int) (v2:Fv):Option (List Int) :=
  (qP K n v1 (v1.length:Int) v2).bind fun v3 =>
  some v3
def l9 (K:Kn) (n:Nat) (v1:Int):Option Bool :=
  some (v1 != v1)
def jU (K:Kn) (n:Nat) (v1 v2:Int):Option Int :=
  (l9 K n v1).bind fun v3 =>
  (l9 K n v2).bind fun v4 =>
  if v3=true then
    if v4=true then
      some 0
    else
      some (-1)
  else
    if v4=true then
      some 1
    else
      if (decide (v1<v2))=true then
        some (-1)
      else
        if (decide (v1>v2))=true then
          some 1
        else
          some 0
def mT (K:Kn) (n:Nat) (v1 v2:Int) (v3:List Int):Option Int :=
  chk (inb v2 v3.length) (
  chk (inb v1 v3.length) (
  (jU K n (List.getD v3 (v2).toNat default) (List.getD v3 (v1).toNat default)).bind fun v4 =>
  some v4))
def nE (K:Kn) (n:Nat) (L3:(List Int)→Int→Int→(List Int)→Option (List Int)) (v26:List Int) (v27 v28:Int) (v29:List Int):Option (List Int) :=
  if (decide (v28<v27))=true then
    chk (inb v28 v26.length) (
    chk (inb (List.getD v26 (v28).toNat default) v29.length) (
    chk (inb (List.getD v26 (v28).toNat default) v29.length) (
    L3 v26 v27 (w64 (v28+1)) (List.set v29 ((List.getD v26 (v28).toNat default)).toNat (w64 ((List.getD v29 ((List.getD v26 (v28).toNat default)).toNat default)+1))))))
  else
    some v29
def iZ (K:Kn) (n:Nat):Nat→(List Int)→Int→Int→(List Int)→Option (List Int)
  | 0=>fun _ _ _ _=>none
  | m+1=>nE K n (iZ K n m)
def pc (K:Kn) (n:Nat) (v2:List Int) (v3 v8:Int) (L2:Int→Int→(List Int)→(List Int)→(List Int)→Option (List Int)) (v14 v15:Int) (v16 v17 v18:List Int):Option (List Int) :=
  if (decide (v15<(v2.length:Int)))=true then
    chk (inb v15 v2.length) (
    (gR K n (List.getD v2 (v15).toNat default) 2147483647).bind fun v19 =>
    chk ((v8 != 0)) (
    chk ((v8 != 0)) (
    chk (inb v15 v16.length) (
    chk (inb v15 v17.length) (
    chk (inb v15 v18.length) (
    (some (List.set v16 (v15).toNat (w64 (Int.tdiv (w64 (v3*v19)) v8)))).bind fun v20 =>
    (some (List.set v17 (v15).toNat (Int.tmod (w64 (v3*v19)) v8))).bind fun v21 =>
    chk (inb v15 v20.length) (
    L2 (w64 (v14 - (List.getD v20 (v15).toNat default))) (w64 (v15+1)) v20 v21 (List.set v18 (v15).toNat v15))))))))
  else
    (fP K n v18 (Fv.c59 v17)).bind fun v22 =>
    chk (slb (0:Int) v14 v22.length) (
    iZ K n n (List.drop ((0:Int)).toNat (List.take (v14).toNat v22)) ((List.drop ((0:Int)).toNat (List.take (v14).toNat v22)).length:Int) 0 v16)
def iX (K:Kn) (n:Nat) (v2:List Int) (v3 v8:Int):Nat→Int→Int→(List Int)→(List Int)→(List Int)→Option (List Int)
  | 0=>fun _ _ _ _ _=>none
  | m+1=>pc K n v2 v3 v8 (iX K n v2 v3 v8 m)
def pt (K:Kn) (n:Nat) (v2:List Int) (v3:Int) (v4 v5 v6:List Int) (L1:Int→Int→Option (List Int)) (v8 v9:Int):Option (List Int) :=
  if (decide (v9<(v2.length:Int)))=true then
    chk (inb v9 v2.length) (
    (gR K n (List.getD v2 (v9).toNat default) 2147483647).bind fun v10 =>
    L1 (w64 (v8+v10)) (w64 (v9+1)))
  else
    if (v8 == 0)=true then
      some v4
    else
      iX K n v2 v3 v8 n v3 0 v4 v5 v6
def kz (K:Kn) (n:Nat) (v2:List Int) (v3:Int) (v4 v5 v6:List Int):Nat→Int→Int→Option (List Int)
  | 0=>fun _ _=>none
  | m+1=>pt K n v2 v3 v4 v5 v6 (kz K n v2 v3 v4 v5 v6 m)
def me (K:Kn) (n:Nat) (v1:Int) (v2:List Int):Option (List Int) :=
  (gR K n v1 2147483647).bind fun v3 =>
  chk (mkb (v2.length:Int) 8) (
  (some (List.replicate ((v2.length:Int)).toNat (0:Int))).bind fun v4 =>
  chk (mkb (v2.length:Int) 8) (
  (some (List.replicate ((v2.length:Int)).toNat (0:Int))).bind fun v5 =>
  chk (mkb (v2.length:Int) 8) (
  (some (List.replicate ((v2.length:Int)).toNat (0:Int))).bind fun v6 =>
  kz K n v2 v3 v4 v5 v6 n 0 0)))
def mP (K:Kn) (n:Nat) (v1:List Int) (v2:Fv) (L1:Int→Option Int) (v4:Int):Option Int :=
  if (decide (v4<(v1.length:Int)))=true then
    chk (inb v4 v1.length) (
    (K.pi v2 (List.getD v1 (v4).toNat default)).bind fun v5 =>
    if v5=true then
      some v4
    else
      L1 (w64 (v4+1)))
  else
    some (-1)
def kO (K:Kn) (n:Nat) (v1:List Int) (v2:Fv):Nat→Int→Option Int
  | 0=>fun _=>none
  | m+1=>mP K n v1 v2 (kO K n v1 v2 m)
def qe (K:Kn) (n:Nat) (v1:List Int) (v2:Fv):Option Int :=
  kO K n v1 v2 n 0
def oI (K:Kn) (n:Nat) (v1:List Int) (v2:Fv):Option Bool :=
  (qe K n v1 v2).bind fun v3 =>
  some (decide (v3≥0))
def qw (K:Kn) (n:Nat) (v1 v2:Int):Option (Int×Int) :=
  some ((IntKind.wrap .u64 ((IntKind.wrap .u64 ((IntKind.wrap .u64 ((v1 / 4294967296)*(v2 / 4294967296)))+((IntKind.wrap .u64 ((IntKind.wrap .u64 ((v1 / 4294967296)*(iand .u64 v2 4294967295)))+((IntKind.wrap .u64 ((iand .u64 v1 4294967295)*(iand .u64 v2 4294967295))) / 4294967296))) / 4294967296)))+((IntKind.wrap .u64 ((iand .u64 (IntKind.wrap .u64 ((IntKind.wrap .u64 ((v1 / 4294967296)*(iand .u64 v2 4294967295)))+((IntKind.wrap .u64 ((iand .u64 v1 4294967295)*(iand .u64 v2 4294967295))) / 4294967296))) 4294967295)+(IntKind.wrap .u64 ((iand .u64 v1 4294967295)*(v2 / 4294967296))))) / 4294967296))),(IntKind.wrap .u64 (v1*v2)))
def pb (K:Kn) (n:Nat) (v1 v2:Int):Option (Int×Int) :=
  (qw K n v1 v2).bind fun v3 =>
  some (v3.1,v3.2)
def mO (K:Kn) (n:Nat) (L1:Int→(List Int)→Option (List Int)) (v7:Int) (v8:List Int):Option (List Int) :=
  if (decide (v7<(v8.length:Int)))=true then
    chk (slb v7 (v8.length:Int) v8.length) (
    chk (slb (0:Int) v7 v8.length) (
    chk (cpb ((v7).toNat) (((v8.length:Int)).toNat - (v7).toNat) v8.length ((0:Int).toNat) ((v7).toNat - (0:Int).toNat) v8.length) (
    L1 (w64 (v7+((min ((v7).toNat - (0:Int).toNat) (((v8.length:Int)).toNat - (v7).toNat):Nat):Int))) (cpy v8 ((v7).toNat) (((v8.length:Int)).toNat - (v7).toNat) v8 ((0:Int).toNat) ((v7).toNat - (0:Int).toNat)))))
  else
    some v8
def kX (K:Kn) (n:Nat):Nat→Int→(List Int)→Option (List Int)
  | 0=>fun _ _=>none
  | m+1=>mO K n (kX K n m)
def pj (K:Kn) (n:Nat) (v1:List Int) (v3:Int×Int) (v4:Bool):Option (List Int) :=
  if v4=true then
    none
  else
    chk (mkb (w64 v3.2) 8) (
    (some (List.replicate ((w64 v3.2)).toNat (0:Int))).bind fun v5 =>
    chk (cpb 0 v5.length v5.length 0 v1.length v1.length) (
    kX K n n ((min v1.length v5.length:Nat):Int) (cpy v5 0 v5.length v1 0 v1.length)))
def pC (K:Kn) (n:Nat) (v1:List Int) (v2:Int):Option (List Int) :=
  if (decide (v2<0))=true then
    none
  else
    (pb K n (IntKind.wrap .u64 (v1.length:Int)) (IntKind.wrap .u64 v2)).bind fun v3 =>
    if (decide (v3.1>0))=true then
      pj K n v1 v3 true
    else
      pj K n v1 v3 (decide (v3.2>9223372036854775807))
def nW (K:Kn) (n:Nat) (v1:Int) (v5:List Int):Option (List Int) :=
  (me K n v1 v5).bind fun v6 =>
  some v6
def gS (K:Kn) (n:Nat) (v1:Int) (v2:List Int):Option (List Int) :=
  (oI K n v2 (Fv.fn 62)).bind fun v3 =>
  if (!v3)=true then
    (pC K n [1] (v2.length:Int)).bind fun v4 =>
    nW K n v1 v4
  else
    nW K n v1 v2
def nh (K:Kn) (n:Nat) (v27:List Int) (L2:Int→(List Int)→Option (List Int)) (v28:Int) (v29:List Int):Option (List Int) :=
  if (decide (v28<(v27.length:Int)))=true then
    chk (inb v28 v27.length) (
    chk (inb v28 v29.length) (
    chk (inb v28 v29.length) (
    L2 (w64 (v28+1)) (List.set v29 (v28).toNat (w64 ((List.getD v29 (v28).toNat default)+(List.getD v27 (v28).toNat default)))))))
  else
    some v29
def mu (K:Kn) (n:Nat) (v27:List Int):Nat→Int→(List Int)→Option (List Int)
  | 0=>fun _ _=>none
  | m+1=>nh K n v27 (mu K n v27 m)
def oV (K:Kn) (n:Nat) (v26 v27:List Int):Option (List Int) :=
  mu K n v27 n 0 v26
def nD (K:Kn) (n:Nat) (v1:List ak) (v2:Int) (L1:Int→Int→Int→(List Int)→(List Int)→(List Int)→Option (List Int)) (v11 v12 v13:Int) (v14 v15 v16:List Int):Option (List Int) :=
  if (decide (v13<(v1.length:Int)))=true then
    chk (inb v13 v1.length) (
    (eZ K n ((List.getD v1 (v13).toNat default).Least)).bind fun v17 =>
    chk (inb v13 v14.length) (
    (eZ K n ((List.getD v1 (v13).toNat default).Most)).bind fun v18 =>
    chk (inb v13 (List.set v14 (v13).toNat v17).length) (
    chk (inb v13 v15.length) (
    (some (List.set v15 (v13).toNat (max v18 (List.getD (List.set v14 (v13).toNat v17) (v13).toNat default)))).bind fun v19 =>
    chk (inb v13 v19.length) (
    chk (inb v13 (List.set v14 (v13).toNat v17).length) (
    chk (inb v13 v16.length) (
    (some (List.set v16 (v13).toNat (w64 ((List.getD v19 (v13).toNat default) - (List.getD (List.set v14 (v13).toNat v17) (v13).toNat default))))).bind fun v20 =>
    chk (inb v13 (List.set v14 (v13).toNat v17).length) (
    (some (w64 (v11+(List.getD (List.set v14 (v13).toNat v17) (v13).toNat default)))).bind fun v21 =>
    chk (inb v13 v19.length) (
    L1 v21 (w64 (v12+(List.getD v19 (v13).toNat default))) (w64 (v13+1)) (List.set v14 (v13).toNat v17) v19 v20)))))))))
  else
    if (decide (v2≤v11))=true then
      some v14
    else
      if (decide (v2<v12))=true then
        (eZ K n (w64 (v2 - v11))).bind fun v22 =>
        (me K n v22 v16).bind fun v23 =>
        oV K n v14 v23
      else
        (eZ K n (w64 (v2 - v12))).bind fun v24 =>
        (gS K n v24 v15).bind fun v25 =>
        oV K n v15 v25
def lp (K:Kn) (n:Nat) (v1:List ak) (v2:Int):Nat→Int→Int→Int→(List Int)→(List Int)→(List Int)→Option (List Int)
  | 0=>fun _ _ _ _ _ _=>none
  | m+1=>nD K n v1 v2 (lp K n v1 v2 m)
def kL (K:Kn) (n:Nat) (v1:List ak) (v2:Int):Option (List Int) :=
  chk (mkb (v1.length:Int) 8) (
  (some (List.replicate ((v1.length:Int)).toNat (0:Int))).bind fun v3 =>
  chk (mkb (v1.length:Int) 8) (
  (some (List.replicate ((v1.length:Int)).toNat (0:Int))).bind fun v4 =>
  chk (mkb (v1.length:Int) 8) (
  (some (List.replicate ((v1.length:Int)).toNat (0:Int))).bind fun v5 =>
  lp K n v1 v2 n 0 0 0 v3 v4 v5)))
def gF (K:Kn) (n:Nat) (v3:Bool):Option Bool :=
  some v3
def ox (K:Kn) (n:Nat):Option Bool :=
  (jN K n [[⟨2,1⟩,⟨1,1⟩],[⟨1,1⟩]]).bind fun v1 =>
  (kL K n [(⟨10,30⟩:ak),(⟨20,40⟩:ak)] 50).bind fun v2 =>
  if (v1.2 == 2)=true then
    if ((v1.1.length:Int) == 2)=true then
      chk (inb (1:Int) v1.1.length) (
      if (((List.getD v1.1 (1:Int).toNat default).length:Int) == 1)=true then
        chk (inb (1:Int) v1.1.length) (
        chk (inb (0:Int) (List.getD v1.1 (1:Int).toNat default).length) (
        if (qTTablePlace (List.getD (List.getD v1.1 (1:Int).toNat default) (0:Int).toNat default) (⟨1,1,1,1⟩:ae))=true then
          if ((v2.length:Int) == 2)=true then
            chk (inb (0:Int) v2.length) (
            if ((List.getD v2 (0:Int).toNat default) == 20)=true then
              chk (inb (1:Int) v2.length) (
              gF K n ((List.getD v2 (1:Int).toNat default) == 30))
            else
              gF K n false)
          else
            gF K n false
        else
          gF K n false))
      else
        gF K n false)
    else
      gF K n false
  else
    gF K n false
def nT (K:Kn) (n:Nat) (v2:Bool):Option Bool :=
  some v2
def da (K:Kn) (n:Nat) (v1:ci):Option Bool :=
  if (decide (v1.Value≥(-16777216)))=true then
    nT K n (decide (v1.Value≤16777216))
  else
    nT K n false
def mf (K:Kn) (n:Nat) (v1:List bM) (v2 v23:Int) (L1:Int→Option Bool) (v43:Bool):Option Bool :=
  if v43=true then
    some false
  else
    L1 (w64 (v23+1))
def pn (K:Kn) (n:Nat) (v1:List bM) (v2 v23:Int) (L1:Int→Option Bool) (v40:Bool):Option Bool :=
  if v40=true then
    some false
  else
    (da K n ((((List.getD v1 (v23).toNat default).Style).Margin).a3)).bind fun v41 =>
    if (!v41)=true then
      mf K n v1 v2 v23 L1 true
    else
      (da K n ((((List.getD v1 (v23).toNat default).Style).Padding).a3)).bind fun v42 =>
      mf K n v1 v2 v23 L1 (!v42)
def nd (K:Kn) (n:Nat) (v1:List bM) (v2 v23:Int) (L1:Int→Option Bool) (v37:Bool):Option Bool :=
  if v37=true then
    some false
  else
    (da K n ((((List.getD v1 (v23).toNat default).Style).Margin).a2)).bind fun v38 =>
    if (!v38)=true then
      pn K n v1 v2 v23 L1 true
    else
      (da K n ((((List.getD v1 (v23).toNat default).Style).Padding).a2)).bind fun v39 =>
      pn K n v1 v2 v23 L1 (!v39)
def nk (K:Kn) (n:Nat) (v1:List bM) (v2 v23:Int) (L1:Int→Option Bool) (v34:Bool):Option Bool :=
  if v34=true then
    some false
  else
    (da K n ((((List.getD v1 (v23).toNat default).Style).Margin).a1)).bind fun v35 =>
    if (!v35)=true then
      nd K n v1 v2 v23 L1 true
    else
      (da K n ((((List.getD v1 (v23).toNat default).Style).Padding).a1)).bind fun v36 =>
      nd K n v1 v2 v23 L1 (!v36)
def cO (K:Kn) (n:Nat) (v1:List bM) (v2 v23:Int) (L1:Int→Option Bool) (v31:Bool):Option Bool :=
  if v31=true then
    some false
  else
    (da K n ((((List.getD v1 (v23).toNat default).Style).Margin).a0)).bind fun v32 =>
    if (!v32)=true then
      nk K n v1 v2 v23 L1 true
    else
      (da K n ((((List.getD v1 (v23).toNat default).Style).Padding).a0)).bind fun v33 =>
      nk K n v1 v2 v23 L1 (!v33)
def gJ (K:Kn) (n:Nat) (v1:List bM) (v2:Int) (L1:Int→Option Bool) (v23:Int):Option Bool :=
  if (decide (v23<(v1.length:Int)))=true then
    chk (inb v23 v1.length) (
    chk (inb v23 v1.length) (
    if (decide ((((List.getD v1 (v23).toNat default).Text).size:Int)>60))=true then
      cO K n v1 v2 v23 L1 true
    else
      (da K n (((List.getD v1 (v23).toNat default).Style).Left)).bind fun v24 =>
      if (!v24)=true then
        cO K n v1 v2 v23 L1 true
      else
        (da K n (((List.getD v1 (v23).toNat default).Style).Top)).bind fun v25 =>
        if (!v25)=true then
          cO K n v1 v2 v23 L1 true
        else
          (da K n (((List.getD v1 (v23).toNat default).Style).Width)).bind fun v26 =>
          if (!v26)=true then
            cO K n v1 v2 v23 L1 true
          else
            (da K n (((List.getD v1 (v23).toNat default).Style).Height)).bind fun v27 =>
            if (!v27)=true then
              cO K n v1 v2 v23 L1 true
            else
              (da K n (((List.getD v1 (v23).toNat default).Style).MinWidth)).bind fun v28 =>
              if (!v28)=true then
                cO K n v1 v2 v23 L1 true
              else
                (da K n (((List.getD v1 (v23).toNat default).Style).MaxWidth)).bind fun v29 =>
                if (!v29)=true then
                  cO K n v1 v2 v23 L1 true
                else
                  (da K n (((List.getD v1 (v23).toNat default).Style).Basis)).bind fun v30 =>
                  if (!v30)=true then
                    cO K n v1 v2 v23 L1 true
                  else
                    if (decide ((((List.getD v1 (v23).toNat default).Style).LineHeight)<0))=true then
                      cO K n v1 v2 v23 L1 true
                    else
                      if (decide ((((List.getD v1 (v23).toNat default).Style).LineHeight)>65536))=true then
                        cO K n v1 v2 v23 L1 true
                      else
                        if (decide ((((List.getD v1 (v23).toNat default).Style).FontSize)<0))=true then
                          cO K n v1 v2 v23 L1 true
                        else
                          if (decide ((((List.getD v1 (v23).toNat default).Style).FontSize)>65536))=true then
                            cO K n v1 v2 v23 L1 true
                          else
                            if (decide ((((List.getD v1 (v23).toNat default).Style).Grow)<0))=true then
                              cO K n v1 v2 v23 L1 true
                            else
                              if (decide ((((List.getD v1 (v23).toNat default).Style).Grow)>1048576))=true then
                                cO K n v1 v2 v23 L1 true
                              else
                                if (decide ((((List.getD v1 (v23).toNat default).Style).Shrink)<0))=true then
                                  cO K n v1 v2 v23 L1 true
                                else
                                  cO K n v1 v2 v23 L1 (decide ((((List.getD v1 (v23).toNat default).Style).Shrink)>1048576))))
  else
    some (decide ((v1.length:Int)≤v2))
def jM (K:Kn) (n:Nat) (v1:List bM) (v2:Int):Nat→Int→Option Bool
  | 0=>fun _=>none
  | m+1=>gJ K n v1 v2 (jM K n v1 v2 m)
def qA (K:Kn) (n:Nat) (v1:List bM) (v2:Int):Option Bool :=
  jM K n v1 v2 n 0
def mS (K:Kn) (n:Nat) (v3:Bool):Option Bool :=
  some v3
def pB (K:Kn) (n:Nat) (v1:List bM):Option Bool :=
  (qA K n v1 20).bind fun v2 =>
  if v2=true then
    mS K n (decide ((v1.length:Int)>0))
  else
    mS K n false
def jh (K:Kn) (n:Nat) (v1:List bM) (v6:Int) (L1:Int→(List (ab×Option (List ab)))→Option ab) (v11:List (ab×Option (List ab))):Option ab :=
  L1 (w64 (v6+1)) v11
def iC (K:Kn) (n:Nat) (v1:List bM) (v6:Int) (v7:List (ab×Option (List ab))) (L1:Int→(List (ab×Option (List ab)))→Option ab) (v8:Bool):Option ab :=
  if v8=true then
    chk (fits (v7.length+1) 520) (
    jh K n v1 v6 L1 (v7++[(({ bD with Kind:=8,Node:=(w64 (10+v6)),Style:=(List.getD v1 (v6).toNat default).Style }:ab),some [])]))
  else
    chk (fits ([({ bD with Kind:=3,Style:=(List.getD v1 (v6).toNat default).Style,Text:=(List.getD v1 (v6).toNat default).Text }:ab)]:(List ab)).length 520) (
    both (true) (
      chk (inb (w64 ((v7.length:Int) - 1)) v7.length) (
      ((List.getD v7 ((w64 ((v7.length:Int) - 1))).toNat default).2).bind fun v9 =>
      chk (inb (w64 ((v7.length:Int) - 1)) v7.length) (
      chk (fits (v9.length+([bD]:(List ab)).length) 520) (
      chk (inb (w64 ((v7.length:Int) - 1)) v7.length) (
      chk (inb (v9.length:Int) (v9++[bD]).length) (
      jh K n v1 v6 L1 (List.set v7 ((w64 ((v7.length:Int) - 1))).toNat ((List.getD v7 ((w64 ((v7.length:Int) - 1))).toNat default).1,some (List.set (v9++[bD]) ((v9.length:Int)).toNat (⟨9,(w64 (10+v6)),(List.getD v1 (v6).toNat default).Style,⟨#[]⟩,(w64 (Int.tmod ((List.getD v1 (v6).toNat default).Rows) 4)),(w64 (Int.tmod ((List.getD v1 (v6).toNat default).Cols) 4)),[({ bD with Kind:=3,Style:=(List.getD v1 (v6).toNat default).Style,Text:=(List.getD v1 (v6).toNat default).Text }:ab)]⟩:ab)))))))))) (
      chk (inb (w64 ((v7.length:Int) - 1)) v7.length) (
      ((List.getD v7 ((w64 ((v7.length:Int) - 1))).toNat default).2).bind fun v10 =>
      chk (inb (w64 ((v7.length:Int) - 1)) v7.length) (
      chk (fits (v10.length+([(⟨9,(w64 (10+v6)),(List.getD v1 (v6).toNat default).Style,⟨#[]⟩,(w64 (Int.tmod ((List.getD v1 (v6).toNat default).Rows) 4)),(w64 (Int.tmod ((List.getD v1 (v6).toNat default).Cols) 4)),[({ bD with Kind:=3,Style:=(List.getD v1 (v6).toNat default).Style,Text:=(List.getD v1 (v6).toNat default).Text }:ab)]⟩:ab)]:(List ab)).length) 520) (
      chk (inb (w64 ((v7.length:Int) - 1)) v7.length) (
      jh K n v1 v6 L1 (List.set v7 ((w64 ((v7.length:Int) - 1))).toNat ((List.getD v7 ((w64 ((v7.length:Int) - 1))).toNat default).1,some (v10++[(⟨9,(w64 (10+v6)),(List.getD v1 (v6).toNat default).Style,⟨#[]⟩,(w64 (Int.tmod ((List.getD v1 (v6).toNat default).Rows) 4)),(w64 (Int.tmod ((List.getD v1 (v6).toNat default).Cols) 4)),[({ bD with Kind:=3,Style:=(List.getD v1 (v6).toNat default).Style,Text:=(List.getD v1 (v6).toNat default).Text }:ab)]⟩:ab)])))))))))
def nN (K:Kn) (n:Nat) (v1:List bM) (L1:Int→(List (ab×Option (List ab)))→Option ab) (v6:Int) (v7:List (ab×Option (List ab))):Option ab :=
  if (decide (v6<(v1.length:Int)))=true then
    chk (inb v6 v1.length) (
    if ((Int.tmod ((List.getD v1 (v6).toNat default).Kind) 4) == 0)=true then
      iC K n v1 v6 v7 L1 true
    else
      iC K n v1 v6 v7 L1 ((v7.length:Int) == 0))
  else
    chk (List.all v7 (fun p=>p.2.isSome)) (
    some (⟨7,10,(List.getD v1 (0:Int).toNat default).Style,⟨#[]⟩,0,0,(List.map wTBoxtreeBox v7)⟩:ab))
def gl (K:Kn) (n:Nat) (v1:List bM):Nat→Int→(List (ab×Option (List ab)))→Option ab
  | 0=>fun _ _=>none
  | m+1=>nN K n v1 (gl K n v1 m)
def j7 (K:Kn) (n:Nat) (v1:List bM):Option ab :=
  chk (inb (0:Int) v1.length) (
  gl K n v1 n 1 [])
def nA (K:Kn) (n:Nat) (v3:Bool):Option Bool :=
  some v3
def nt (K:Kn) (n:Nat) (v1:ae) (v2:Int):Option Bool :=
  if (decide (v1.Row<v2))=true then
    nA K n (decide (v1.Rows≤(w64 (v2 - v1.Row))))
  else
    nA K n false
def pf (K:Kn) (n:Nat) (v1 v2:Int) (v3:Fv) (v4:List ae):Option Int :=
  chk (inb v1 v4.length) (
  (K.fO v3 (List.getD v4 (v1).toNat default)).bind fun v5 =>
  chk (inb v2 v4.length) (
  (K.fO v3 (List.getD v4 (v2).toNat default)).bind fun v6 =>
  (jU K n v5 v6).bind fun v7 =>
  some v7))
def lx (K:Kn) (n:Nat) (v1:List ae) (v2:Int) (v3 v4:Fv) (v11:Int) (L1:Int→(List Int)→Option (List Int)) (v15:List Int):Option (List Int) :=
  L1 (w64 (v11+1)) v15
def fx (K:Kn) (n:Nat) (v1:List ae) (v2:Int) (v3 v4:Fv) (v11:Int) (v12:List Int) (L1:Int→(List Int)→Option (List Int)) (v14:Bool):Option (List Int) :=
  if v14=true then
    chk (fits (v12.length+([v11]:(List Int)).length) 8) (
    lx K n v1 v2 v3 v4 v11 L1 (v12++[v11]))
  else
    lx K n v1 v2 v3 v4 v11 L1 v12
def mJ (K:Kn) (n:Nat) (v1:List ae) (v2:Int) (v3 v4:Fv) (L1:Int→(List Int)→Option (List Int)) (v11:Int) (v12:List Int):Option (List Int) :=
  if (decide (v11<(v1.length:Int)))=true then
    chk (inb v11 v1.length) (
    if (decide (v11<v2))=true then
      if (decide (((List.getD v1 (v11).toNat default).Row)≥0))=true then
        if (decide (((List.getD v1 (v11).toNat default).Col)≥0))=true then
          if (decide (((List.getD v1 (v11).toNat default).Rows)≥1))=true then
            if (decide (((List.getD v1 (v11).toNat default).Cols)≥1))=true then
              (K.kn v3 (List.getD v1 (v11).toNat default)).bind fun v13 =>
              fx K n v1 v2 v3 v4 v11 v12 L1 v13
            else
              fx K n v1 v2 v3 v4 v11 v12 L1 false
          else
            fx K n v1 v2 v3 v4 v11 v12 L1 false
        else
          fx K n v1 v2 v3 v4 v11 v12 L1 false
      else
        fx K n v1 v2 v3 v4 v11 v12 L1 false
    else
      fx K n v1 v2 v3 v4 v11 v12 L1 false)
  else
    (fP K n v12 (Fv.c65 v4 v1)).bind fun v16 =>
    some v16
def i7 (K:Kn) (n:Nat) (v1:List ae) (v2:Int) (v3 v4:Fv):Nat→Int→(List Int)→Option (List Int)
  | 0=>fun _ _=>none
  | m+1=>mJ K n v1 v2 v3 v4 (i7 K n v1 v2 v3 v4 m)
def kM (K:Kn) (n:Nat) (v1:List ae) (v2:Int) (v3 v4:Fv):Option (List Int) :=
  i7 K n v1 v2 v3 v4 n 0 []
def oK (K:Kn) (n:Nat) (v1:List Int) (L1:Int→Int→Option Int) (v2 v3:Int):Option Int :=
  if (decide (v3<(v1.length:Int)))=true then
    chk (inb v3 v1.length) (
    L1 (w64 (v2+(List.getD v1 (v3).toNat default))) (w64 (v3+1)))
  else
    some v2
def j2 (K:Kn) (n:Nat) (v1:List Int):Nat→Int→Int→Option Int
  | 0=>fun _ _=>none
  | m+1=>oK K n v1 (j2 K n v1 m)
def fQ (K:Kn) (n:Nat) (v1:List Int):Option Int :=
  j2 K n v1 n 0 0
def jS (K:Kn) (n:Nat) (v1:List ae) (v2 v5:List Int) (v10:Int) (L1:Int→(List Int)→Option (List Int)) (v15:List Int):Option (List Int) :=
  L1 (w64 (v10+1)) v15
def nX (K:Kn) (n:Nat) (v1:List ae) (v2 v5:List Int) (L1:Int→(List Int)→Option (List Int)) (v10:Int) (v11:List Int):Option (List Int) :=
  if (decide (v10<(v5.length:Int)))=true then
    chk (inb v10 v5.length) (
    chk (inb (List.getD v5 (v10).toNat default) v1.length) (
    chk (inb (List.getD v5 (v10).toNat default) v2.length) (
    (eZ K n (List.getD v2 ((List.getD v5 (v10).toNat default)).toNat default)).bind fun v12 =>
    (some (List.getD v1 ((List.getD v5 (v10).toNat default)).toNat default)).bind fun v13 =>
    chk (slb v13.Row (w64 (v13.Row+v13.Rows)) v11.length) (
    if (v13.Rows == 1)=true then
      chk (inb (0:Int) (((w64 (v13.Row+v13.Rows))).toNat - (v13.Row).toNat)) (
      chk (decide (((v13.Row).toNat+(0:Int).toNat)<v11.length)) (
      chk (inb (0:Int) (((w64 (v13.Row+v13.Rows))).toNat - (v13.Row).toNat)) (
      jS K n v1 v2 v5 v10 L1 (List.set v11 ((v13.Row).toNat+(0:Int).toNat) (max (List.getD v11 ((v13.Row).toNat+(0:Int).toNat) default) v12)))))
    else
      chk (inb (w64 (v13.Rows - 1)) (((w64 (v13.Row+v13.Rows))).toNat - (v13.Row).toNat)) (
      chk (decide (((v13.Row).toNat+((w64 (v13.Rows - 1))).toNat)<v11.length)) (
      (fQ K n (List.take (((w64 (v13.Row+v13.Rows))).toNat - (v13.Row).toNat) (List.drop ((v13.Row).toNat) v11))).bind fun v14 =>
      chk (decide (((v13.Row).toNat)+(((w64 (v13.Row+v13.Rows))).toNat - (v13.Row).toNat)≤v11.length)) (
      chk (inb (w64 (v13.Rows - 1)) (((w64 (v13.Row+v13.Rows))).toNat - (v13.Row).toNat)) (
      jS K n v1 v2 v5 v10 L1 (List.set v11 ((v13.Row).toNat+((w64 (v13.Rows - 1))).toNat) (w64 ((List.getD v11 ((v13.Row).toNat+((w64 (v13.Rows - 1))).toNat) default)+(max (w64 (v12 - v14)) 0))))))))))))
  else
    some v11
def kN (K:Kn) (n:Nat) (v1:List ae) (v2 v5:List Int):Nat→Int→(List Int)→Option (List Int)
  | 0=>fun _ _=>none
  | m+1=>nX K n v1 v2 v5 (kN K n v1 v2 v5 m)
def ou (K:Kn) (n:Nat) (v1:List ae) (v2:List Int) (v3:Int):Option (List Int) :=
  chk (mkb (max v3 0) 8) (
  (some (List.replicate ((max v3 0)).toNat (0:Int))).bind fun v4 =>
  (kM K n v1 (v2.length:Int) (Fv.c31 (max v3 0)) (Fv.fn 33)).bind fun v5 =>
  kN K n v1 v2 v5 n 0 v4)
def n6 (K:Kn) (n:Nat) (v3:Bool):Option Bool :=
  some v3
def nM (K:Kn) (n:Nat) (v1:ae) (v2:Int):Option Bool :=
  if (decide (v1.Col<v2))=true then
    n6 K n (decide (v1.Cols≤(w64 (v2 - v1.Col))))
  else
    n6 K n false
def nq (K:Kn) (n:Nat) (v1:List ae) (v2:List ak) (v5:List Int) (v33:Int) (L1:Int→(List ak)→Option (List ak)) (v61:List ak):Option (List ak) :=
  L1 (w64 (v33+1)) v61
def nU (K:Kn) (n:Nat) (v1:List ae) (v2:List ak) (v5:List Int) (v33:Int) (v37:ae) (v51 v55:List Int) (L1:Int→(List ak)→Option (List ak)) (L5:Int→Int→(List ak)→Option (List ak)) (v58 v59:Int) (v60:List ak):Option (List ak) :=
  if (decide (v59<v58))=true then
    chk (inb v59 v51.length) (
    chk (inb v59 v55.length) (
    chk (inb v59 (((w64 (v37.Col+v37.Cols))).toNat - (v37.Col).toNat)) (
    chk (decide (((v37.Col).toNat+(v59).toNat)<v60.length)) (
    L5 v58 (w64 (v59+1)) (List.set v60 ((v37.Col).toNat+(v59).toNat) (⟨(List.getD v51 (v59).toNat default),(List.getD v55 (v59).toNat default)⟩:ak))))))
  else
    nq K n v1 v2 v5 v33 L1 v60
def lI (K:Kn) (n:Nat) (v1:List ae) (v2:List ak) (v5:List Int) (v33:Int) (v37:ae) (v51 v55:List Int) (L1:Int→(List ak)→Option (List ak)):Nat→Int→Int→(List ak)→Option (List ak)
  | 0=>fun _ _ _=>none
  | m+1=>nU K n v1 v2 v5 v33 v37 v51 v55 L1 (lI K n v1 v2 v5 v33 v37 v51 v55 L1 m)
def jH (K:Kn) (n:Nat) (v1:List ae) (v2:List ak) (v5:List Int) (v33:Int) (v34:List ak) (v37:ae) (v51:List Int) (L1:Int→(List ak)→Option (List ak)) (v55:List Int):Option (List ak) :=
  lI K n v1 v2 v5 v33 v37 v51 v55 L1 n (((((w64 (v37.Col+v37.Cols))).toNat - (v37.Col).toNat):Nat):Int) 0 v34
def mK (K:Kn) (n:Nat) (v1:List ae) (v2:List ak) (v5:List Int) (v33:Int) (v34:List ak) (v37:ae) (v51 v52:List Int) (L1:Int→(List ak)→Option (List ak)) (L4:Int→(List Int)→Option (List ak)) (v53:Int) (v54:List Int):Option (List ak) :=
  if (decide (v53<(v52.length:Int)))=true then
    chk (inb v53 v52.length) (
    chk (inb v53 v54.length) (
    chk (inb v53 v54.length) (
    L4 (w64 (v53+1)) (List.set v54 (v53).toNat (w64 ((List.getD v54 (v53).toNat default)+(List.getD v52 (v53).toNat default)))))))
  else
    jH K n v1 v2 v5 v33 v34 v37 v51 L1 v54
def kD (K:Kn) (n:Nat) (v1:List ae) (v2:List ak) (v5:List Int) (v33:Int) (v34:List ak) (v37:ae) (v51 v52:List Int) (L1:Int→(List ak)→Option (List ak)):Nat→Int→(List Int)→Option (List ak)
  | 0=>fun _ _=>none
  | m+1=>mK K n v1 v2 v5 v33 v34 v37 v51 v52 L1 (kD K n v1 v2 v5 v33 v34 v37 v51 v52 L1 m)
def hJ (K:Kn) (n:Nat) (v1:List ae) (v2:List ak) (v5:List Int) (v33:Int) (v34:List ak) (v37:ae) (v43 v44:Int) (v46:List Int) (L1:Int→(List ak)→Option (List ak)) (v51:List Int):Option (List ak) :=
  if (decide (v44>0))=true then
    (gS K n v44 v51).bind fun v52 =>
    kD K n v1 v2 v5 v33 v34 v37 v51 v52 L1 n 0 v46
  else
    jH K n v1 v2 v5 v33 v34 v37 v51 L1 v46
def oc (K:Kn) (n:Nat) (v1:List ae) (v2:List ak) (v5:List Int) (v33:Int) (v34:List ak) (v37:ae) (v43 v44:Int) (v46 v48:List Int) (L1:Int→(List ak)→Option (List ak)) (L3:Int→(List Int)→Option (List ak)) (v49:Int) (v50:List Int):Option (List ak) :=
  if (decide (v49<(v48.length:Int)))=true then
    chk (inb v49 v48.length) (
    chk (inb v49 v50.length) (
    chk (inb v49 v50.length) (
    L3 (w64 (v49+1)) (List.set v50 (v49).toNat (w64 ((List.getD v50 (v49).toNat default)+(List.getD v48 (v49).toNat default)))))))
  else
    hJ K n v1 v2 v5 v33 v34 v37 v43 v44 v46 L1 v50
def my (K:Kn) (n:Nat) (v1:List ae) (v2:List ak) (v5:List Int) (v33:Int) (v34:List ak) (v37:ae) (v43 v44:Int) (v46 v48:List Int) (L1:Int→(List ak)→Option (List ak)):Nat→Int→(List Int)→Option (List ak)
  | 0=>fun _ _=>none
  | m+1=>oc K n v1 v2 v5 v33 v34 v37 v43 v44 v46 v48 L1 (my K n v1 v2 v5 v33 v34 v37 v43 v44 v46 v48 L1 m)
def po (K:Kn) (n:Nat) (v1:List ae) (v2:List ak) (v5:List Int) (v33:Int) (v34:List ak) (v37:ae) (L1:Int→(List ak)→Option (List ak)) (L2:Int→Int→Int→Int→(List Int)→(List Int)→Option (List ak)) (v41 v42 v43 v44:Int) (v45 v46:List Int):Option (List ak) :=
  if (decide (v42<v41))=true then
    chk (inb v42 (((w64 (v37.Col+v37.Cols))).toNat - (v37.Col).toNat)) (
    chk (decide (((v37.Col).toNat+(v42).toNat)<v34.length)) (
    (some (List.getD v34 ((v37.Col).toNat+(v42).toNat) default)).bind fun v47 =>
    chk (inb v42 v45.length) (
    chk (inb v42 v46.length) (
    L2 v41 (w64 (v42+1)) (w64 (v43 - v47.Least)) (w64 (v44 - v47.Most)) (List.set v45 (v42).toNat v47.Least) (List.set v46 (v42).toNat v47.Most)))))
  else
    if (decide (v43>0))=true then
      (gS K n v43 v46).bind fun v48 =>
      my K n v1 v2 v5 v33 v34 v37 v43 v44 v46 v48 L1 n 0 v45
    else
      hJ K n v1 v2 v5 v33 v34 v37 v43 v44 v46 L1 v45
def kk (K:Kn) (n:Nat) (v1:List ae) (v2:List ak) (v5:List Int) (v33:Int) (v34:List ak) (v37:ae) (L1:Int→(List ak)→Option (List ak)):Nat→Int→Int→Int→Int→(List Int)→(List Int)→Option (List ak)
  | 0=>fun _ _ _ _ _ _=>none
  | m+1=>po K n v1 v2 v5 v33 v34 v37 L1 (kk K n v1 v2 v5 v33 v34 v37 L1 m)
def oX (K:Kn) (n:Nat) (v34:List ak) (L6:Int→(List ak)→Option (List ak)) (v62:Int) (v63:List ak):Option (List ak) :=
  if (decide (v62<(v34.length:Int)))=true then
    chk (inb v62 v63.length) (
    chk (inb v62 v63.length) (
    chk (inb v62 v63.length) (
    L6 (w64 (v62+1)) (List.set v63 (v62).toNat ({ (List.getD v63 (v62).toNat default) with Most:=(max ((List.getD v63 (v62).toNat default).Most) ((List.getD v63 (v62).toNat default).Least)) }:ak)))))
  else
    some v63
def lP (K:Kn) (n:Nat) (v34:List ak):Nat→Int→(List ak)→Option (List ak)
  | 0=>fun _ _=>none
  | m+1=>oX K n v34 (lP K n v34 m)
def n4 (K:Kn) (n:Nat) (v1:List ae) (v2:List ak) (v5:List Int) (L1:Int→(List ak)→Option (List ak)) (v33:Int) (v34:List ak):Option (List ak) :=
  if (decide (v33<(v5.length:Int)))=true then
    chk (inb v33 v5.length) (
    chk (inb (List.getD v5 (v33).toNat default) v1.length) (
    chk (inb (List.getD v5 (v33).toNat default) v2.length) (
    (eZ K n ((List.getD v2 ((List.getD v5 (v33).toNat default)).toNat default).Least)).bind fun v35 =>
    chk (inb (List.getD v5 (v33).toNat default) v2.length) (
    (eZ K n ((List.getD v2 ((List.getD v5 (v33).toNat default)).toNat default).Most)).bind fun v36 =>
    (some (List.getD v1 ((List.getD v5 (v33).toNat default)).toNat default)).bind fun v37 =>
    chk (slb v37.Col (w64 (v37.Col+v37.Cols)) v34.length) (
    if (v37.Cols == 1)=true then
      chk (inb (0:Int) (((w64 (v37.Col+v37.Cols))).toNat - (v37.Col).toNat)) (
      chk (decide (((v37.Col).toNat+(0:Int).toNat)<v34.length)) (
      chk (inb (0:Int) (((w64 (v37.Col+v37.Cols))).toNat - (v37.Col).toNat)) (
      chk (inb (0:Int) (((w64 (v37.Col+v37.Cols))).toNat - (v37.Col).toNat)) (
      nq K n v1 v2 v5 v33 L1 (List.set v34 ((v37.Col).toNat+(0:Int).toNat) (⟨(max ((List.getD v34 ((v37.Col).toNat+(0:Int).toNat) default).Least) v35),(max ((List.getD v34 ((v37.Col).toNat+(0:Int).toNat) default).Most) v36)⟩:ak))))))
    else
      chk (mkb v37.Cols 8) (
      chk (mkb v37.Cols 8) (
      kk K n v1 v2 v5 v33 v34 v37 L1 n (((((w64 (v37.Col+v37.Cols))).toNat - (v37.Col).toNat):Nat):Int) 0 v35 v36 (List.replicate (v37.Cols).toNat (0:Int)) (List.replicate (v37.Cols).toNat (0:Int)))))))))
  else
    lP K n v34 n 0 v34
def ja (K:Kn) (n:Nat) (v1:List ae) (v2:List ak) (v5:List Int):Nat→Int→(List ak)→Option (List ak)
  | 0=>fun _ _=>none
  | m+1=>n4 K n v1 v2 v5 (ja K n v1 v2 v5 m)
def kZ (K:Kn) (n:Nat) (v1:List ae) (v2:List ak) (v3:Int):Option (List ak) :=
  chk (mkb (max v3 0) 16) (
  (some (List.replicate ((max v3 0)).toNat (iv:ak))).bind fun v4 =>
  (kM K n v1 (v2.length:Int) (Fv.c36 (max v3 0)) (Fv.fn 37)).bind fun v5 =>
  ja K n v1 v2 v5 n 0 v4)
def kp (K:Kn) (n:Nat) (v1:ab) (v2 v9:Int) (L1:Int→(List ab)→Option (List ab)) (v12:List ab):Option (List ab) :=
  L1 (w64 (v9+1)) v12
def mZ (K:Kn) (n:Nat) (v1:ab) (v2:Int) (L1:Int→(List ab)→Option (List ab)) (v9:Int) (v10:List ab):Option (List ab) :=
  if (decide (v9<(v1.Kids.length:Int)))=true then
    chk (inb v9 v1.Kids.length) (
    (some (((List.getD v1.Kids (v9).toNat default).Kind) == v2)).bind fun v11 =>
    if v11=true then
      chk (fits (v10.length+([(List.getD v1.Kids (v9).toNat default)]:(List ab)).length) 520) (
      kp K n v1 v2 v9 L1 (v10++[(List.getD v1.Kids (v9).toNat default)]))
    else
      kp K n v1 v2 v9 L1 v10)
  else
    some v10
def lN (K:Kn) (n:Nat) (v1:ab) (v2:Int):Nat→Int→(List ab)→Option (List ab)
  | 0=>fun _ _=>none
  | m+1=>mZ K n v1 v2 (lN K n v1 v2 m)
def o8 (K:Kn) (n:Nat) (v1:ab) (v2:Int):Option (List ab) :=
  lN K n v1 v2 n 0 []
def dT (K:Kn) (n:Nat) (v1:Int):Option Int :=
  some (min (max v1 0) 1048576)
def ly (K:Kn) (n:Nat) (v4:Int):Option (Int×Bool) :=
  some ((min (max v4 (-1048576)) 1048576),true)
def cN (K:Kn) (n:Nat) (v1:ci) (v2:Int):Option (Int×Bool) :=
  if (v1.Kind == 1)=true then
    ly K n v1.Value
  else
    if (v1.Kind == 2)=true then
      (dT K n v2).bind fun v3 =>
      ly K n (w64 (Int.tdiv (w64 (v3*(min (max v1.Value (-1000000)) 1000000))) 10000))
    else
      some (0,false)
def gI (K:Kn) (n:Nat) (v1:aG) (v2 v3:Int):Option aS :=
  (cN K n v1.Margin.a0 v2).bind fun v4 =>
  (dT K n v1.Border.a0).bind fun v5 =>
  (cN K n v1.Padding.a0 v2).bind fun v6 =>
  (cN K n v1.Margin.a1 v2).bind fun v7 =>
  (dT K n v1.Border.a1).bind fun v8 =>
  (cN K n v1.Padding.a1 v2).bind fun v9 =>
  (cN K n v1.Margin.a2 v2).bind fun v10 =>
  (dT K n v1.Border.a2).bind fun v11 =>
  (cN K n v1.Padding.a2 v2).bind fun v12 =>
  (cN K n v1.Margin.a3 v2).bind fun v13 =>
  (dT K n v1.Border.a3).bind fun v14 =>
  (cN K n v1.Padding.a3 v2).bind fun v15 =>
  some (⟨⟨v4.1,v7.1,v10.1,v13.1⟩,⟨v5,v8,v11,v14⟩,⟨(max v6.1 0),(max v9.1 0),(max v12.1 0),(max v15.1 0)⟩,v3⟩:aS)
def gg (K:Kn) (n:Nat) (v1:aS):Option Int :=
  some (w64 ((w64 ((w64 ((w64 ((w64 ((w64 (v1.Content+v1.Margin.a1))+v1.Margin.a3))+v1.Border.a1))+v1.Border.a3))+v1.Padding.a1))+v1.Padding.a3))
def mV (K:Kn) (n:Nat) (v7:Int):Option Int :=
  some v7
def mQ (K:Kn) (n:Nat) (v1:aG) (v2 v5:Int):Option Int :=
  (cN K n v1.MinWidth v2).bind fun v6 =>
  if v6.2=true then
    mV K n (max v5 v6.1)
  else
    mV K n v5
def ir (K:Kn) (n:Nat) (v1:aG) (v2 v3:Int):Option Int :=
  (cN K n v1.MaxWidth v2).bind fun v4 =>
  if v4.2=true then
    mQ K n v1 v2 (min (max v3 0) (max v4.1 0))
  else
    mQ K n v1 v2 (max v3 0)
def ov (K:Kn) (n:Nat) (v13:aG):Option aG :=
  some v13
def kV (K:Kn) (n:Nat) (v12:aG):Option aG :=
  if (v12.Padding.a3.Kind == 2)=true then
    ov K n ({ v12 with Padding:=⟨v12.Padding.a0,v12.Padding.a1,v12.Padding.a2,bK⟩ }:aG)
  else
    ov K n v12
def mD (K:Kn) (n:Nat) (v11:aG):Option aG :=
  if (v11.Margin.a3.Kind == 2)=true then
    kV K n ({ v11 with Margin:=⟨v11.Margin.a0,v11.Margin.a1,v11.Margin.a2,bK⟩ }:aG)
  else
    kV K n v11
def lr (K:Kn) (n:Nat) (v10:aG):Option aG :=
  if (v10.Padding.a2.Kind == 2)=true then
    mD K n ({ v10 with Padding:=⟨v10.Padding.a0,v10.Padding.a1,bK,v10.Padding.a3⟩ }:aG)
  else
    mD K n v10
def lf (K:Kn) (n:Nat) (v9:aG):Option aG :=
  if (v9.Margin.a2.Kind == 2)=true then
    lr K n ({ v9 with Margin:=⟨v9.Margin.a0,v9.Margin.a1,bK,v9.Margin.a3⟩ }:aG)
  else
    lr K n v9
def lH (K:Kn) (n:Nat) (v8:aG):Option aG :=
  if (v8.Padding.a1.Kind == 2)=true then
    lf K n ({ v8 with Padding:=⟨v8.Padding.a0,bK,v8.Padding.a2,v8.Padding.a3⟩ }:aG)
  else
    lf K n v8
def jW (K:Kn) (n:Nat) (v7:aG):Option aG :=
  if (v7.Margin.a1.Kind == 2)=true then
    lH K n ({ v7 with Margin:=⟨v7.Margin.a0,bK,v7.Margin.a2,v7.Margin.a3⟩ }:aG)
  else
    lH K n v7
def kv (K:Kn) (n:Nat) (v6:aG):Option aG :=
  if (v6.Padding.a0.Kind == 2)=true then
    jW K n ({ v6 with Padding:=⟨bK,v6.Padding.a1,v6.Padding.a2,v6.Padding.a3⟩ }:aG)
  else
    jW K n v6
def lV (K:Kn) (n:Nat) (v5:aG):Option aG :=
  if (v5.Margin.a0.Kind == 2)=true then
    kv K n ({ v5 with Margin:=⟨bK,v5.Margin.a1,v5.Margin.a2,v5.Margin.a3⟩ }:aG)
  else
    kv K n v5
def lJ (K:Kn) (n:Nat) (v4:aG):Option aG :=
  if (v4.MaxWidth.Kind == 2)=true then
    lV K n ({ v4 with MaxWidth:=bK }:aG)
  else
    lV K n v4
def kR (K:Kn) (n:Nat) (v3:aG):Option aG :=
  if (v3.MinWidth.Kind == 2)=true then
    lJ K n ({ v3 with MinWidth:=bK }:aG)
  else
    lJ K n v3
def lK (K:Kn) (n:Nat) (v1:aG):Option aG :=
  if (v1.Width.Kind == 2)=true then
    kR K n ({ v1 with Width:=bK }:aG)
  else
    kR K n v1
def oB (K:Kn) (n:Nat) (v2:Bool):Option Bool :=
  some v2
def nj (K:Kn) (n:Nat) (v1:ab):Option Bool :=
  if (v1.Kind == 3)=true then
    oB K n true
  else
    oB K n (v1.Style.Position != 2)
def mU (K:Kn) (n:Nat) (v1:List ab) (v2:Fv) (L1:Int→Option Int) (v4:Int):Option Int :=
  if (decide (v4<(v1.length:Int)))=true then
    chk (inb v4 v1.length) (
    (K.gp v2 (List.getD v1 (v4).toNat default)).bind fun v5 =>
    if v5=true then
      some v4
    else
      L1 (w64 (v4+1)))
  else
    some (-1)
def jb (K:Kn) (n:Nat) (v1:List ab) (v2:Fv):Nat→Int→Option Int
  | 0=>fun _=>none
  | m+1=>mU K n v1 v2 (jb K n v1 v2 m)
def pH (K:Kn) (n:Nat) (v1:List ab) (v2:Fv):Option Int :=
  jb K n v1 v2 n 0
def lS (K:Kn) (n:Nat) (v1:List ab) (v2:Fv):Option Bool :=
  (pH K n v1 v2).bind fun v3 =>
  some (decide (v3≥0))
def oZ (K:Kn) (n:Nat) (v1:ab) (v8:Int) (L1:Int→(List ab)→Option ((List ab)×Bool)) (v11:List ab):Option ((List ab)×Bool) :=
  L1 (w64 (v8+1)) v11
def nP (K:Kn) (n:Nat) (v1:ab) (L1:Int→(List ab)→Option ((List ab)×Bool)) (v8:Int) (v9:List ab):Option ((List ab)×Bool) :=
  if (decide (v8<(v1.Kids.length:Int)))=true then
    chk (inb v8 v1.Kids.length) (
    (nj K n (List.getD v1.Kids (v8).toNat default)).bind fun v10 =>
    if v10=true then
      chk (fits (v9.length+([(List.getD v1.Kids (v8).toNat default)]:(List ab)).length) 520) (
      oZ K n v1 v8 L1 (v9++[(List.getD v1.Kids (v8).toNat default)]))
    else
      oZ K n v1 v8 L1 v9)
  else
    (lS K n v9 (Fv.fn 90)).bind fun v12 =>
    some (v9,v12)
def mE (K:Kn) (n:Nat) (v1:ab):Nat→Int→(List ab)→Option ((List ab)×Bool)
  | 0=>fun _ _=>none
  | m+1=>nP K n v1 (mE K n v1 m)
def jV (K:Kn) (n:Nat) (v1:ab):Option ((List ab)×Bool) :=
  mE K n v1 n 0 []
def pQ (K:Kn) (n:Nat) (v2:bv) (v6:(List ab)×Bool) (L1:Int→Int→Int→Option (Int×Int)) (v11 v12 v13:Int):Option (Int×Int) :=
  if (decide (v13<(v6.1.length:Int)))=true then
    chk (inb v13 v6.1.length) (
    (K.qr v2.Widths (List.getD v6.1 (v13).toNat default)).bind fun v14 =>
    L1 (max v11 v14.1) (max v12 v14.2) (w64 (v13+1)))
  else
    (dT K n v11).bind fun v15 =>
    (dT K n v12).bind fun v16 =>
    some (v15,v16)
def qH (K:Kn) (n:Nat) (v2:bv) (v6:(List ab)×Bool):Nat→Int→Int→Int→Option (Int×Int)
  | 0=>fun _ _ _=>none
  | m+1=>pQ K n v2 v6 (qH K n v2 v6 m)
def m8 (K:Kn) (n:Nat) (v1:ab) (v2:bv):Option (Int×Int) :=
  (lK K n v1.Style).bind fun v3 =>
  (cN K n v3.Width 0).bind fun v4 =>
  if v4.2=true then
    (dT K n v4.1).bind fun v5 =>
    some (v5,v5)
  else
    (jV K n v1).bind fun v6 =>
    if (!v6.2)=true then
      (K.pk v2.Spread v6.1 v1.Style).bind fun v7 =>
      (dT K n v7.1).bind fun v8 =>
      (dT K n v7.2).bind fun v9 =>
      some (v8,v9)
    else
      qH K n v2 v6 n 0 0 0
def lG (K:Kn) (n:Nat) (v1:ab) (v2:bv):Option (Int×Int) :=
  (m8 K n v1 v2).bind fun v3 =>
  (lK K n v1.Style).bind fun v4 =>
  (ir K n v4 0 v3.1).bind fun v5 =>
  (gI K n v4 0 v5).bind fun v6 =>
  (gg K n v6).bind fun v7 =>
  (ir K n v4 0 v3.2).bind fun v8 =>
  (gI K n v4 0 v8).bind fun v9 =>
  (gg K n v9).bind fun v10 =>
  some (v7,v10)
def kT (K:Kn) (n:Nat) (v1:ab):Option ab :=
  some ({ v1 with Style:=({ v1.Style with Margin:=⟨bK,bK,bK,bK⟩ }:aG) }:ab)
def mW (K:Kn) (n:Nat) (v2:bv) (v3:List ab) (v16:Int) (v18:List (List (V2 Int))) (v19:List ab) (L1:Int→(List ab)→(List (List (V2 Int)))→Option bj) (L2:Int→(List (V2 Int))→(List ab)→Option bj) (v21:Int) (v22:List (V2 Int)) (v23:List ab):Option bj :=
  if (decide (v21<(v19.length:Int)))=true then
    chk (inb v21 v19.length) (
    chk (fits (v22.length+([⟨(List.getD v19 (v21).toNat default).Rows,(List.getD v19 (v21).toNat default).Cols⟩]:(List (V2 Int))).length) 16) (
    (some (v22++[⟨(List.getD v19 (v21).toNat default).Rows,(List.getD v19 (v21).toNat default).Cols⟩])).bind fun v24 =>
    chk (fits (v23.length+([(List.getD v19 (v21).toNat default)]:(List ab)).length) 520) (
    L2 (w64 (v21+1)) v24 (v23++[(List.getD v19 (v21).toNat default)]))))
  else
    chk (fits (v18.length+([v22]:(List (List (V2 Int)))).length) 24) (
    L1 (w64 (v16+1)) v23 (v18++[v22]))
def js (K:Kn) (n:Nat) (v2:bv) (v3:List ab) (v16:Int) (v18:List (List (V2 Int))) (v19:List ab) (L1:Int→(List ab)→(List (List (V2 Int)))→Option bj):Nat→Int→(List (V2 Int))→(List ab)→Option bj
  | 0=>fun _ _ _=>none
  | m+1=>mW K n v2 v3 v16 v18 v19 L1 (js K n v2 v3 v16 v18 v19 L1 m)
def oM (K:Kn) (n:Nat) (v2:bv) (v3 v17:List ab) (v25:(List (List ae))×Int) (v27:List ae) (L4:Int→(List ak)→Option bj) (v32:Int) (v33:List ak):Option bj :=
  if (decide (v32<(v17.length:Int)))=true then
    chk (inb v32 v17.length) (
    (kT K n (List.getD v17 (v32).toNat default)).bind fun v34 =>
    (lG K n v34 v2).bind fun v35 =>
    chk (fits (v33.length+([(⟨v35.1,v35.2⟩:ak)]:(List ak)).length) 16) (
    L4 (w64 (v32+1)) (v33++[(⟨v35.1,v35.2⟩:ak)])))
  else
    (kZ K n v27 v33 v25.2).bind fun v36 =>
    some (⟨v3,v17,v27,v36⟩:bj)
def gQ (K:Kn) (n:Nat) (v2:bv) (v3 v17:List ab) (v25:(List (List ae))×Int) (v27:List ae):Nat→Int→(List ak)→Option bj
  | 0=>fun _ _=>none
  | m+1=>oM K n v2 v3 v17 v25 v27 (gQ K n v2 v3 v17 v25 v27 m)
def o7 (K:Kn) (n:Nat) (v2:bv) (v3 v17:List ab) (v25:(List (List ae))×Int) (L3:Int→(List ae)→Option bj) (v26:Int) (v27:List ae):Option bj :=
  if (decide (v26<(v25.1.length:Int)))=true then
    chk (inb v26 v25.1.length) (
    chk (fits (v27.length+(List.getD v25.1 (v26).toNat default).length) 32) (
    L3 (w64 (v26+1)) (v27++(List.getD v25.1 (v26).toNat default))))
  else
    gQ K n v2 v3 v17 v25 v27 n 0 []
def gY (K:Kn) (n:Nat) (v2:bv) (v3 v17:List ab) (v25:(List (List ae))×Int):Nat→Int→(List ae)→Option bj
  | 0=>fun _ _=>none
  | m+1=>o7 K n v2 v3 v17 v25 (gY K n v2 v3 v17 v25 m)
def nS (K:Kn) (n:Nat) (v2:bv) (v3:List ab) (L1:Int→(List ab)→(List (List (V2 Int)))→Option bj) (v16:Int) (v17:List ab) (v18:List (List (V2 Int))):Option bj :=
  if (decide (v16<(v3.length:Int)))=true then
    chk (inb v16 v3.length) (
    (o8 K n (List.getD v3 (v16).toNat default) 9).bind fun v19 =>
    js K n v2 v3 v16 v18 v19 L1 n 0 [] v17)
  else
    (jN K n v18).bind fun v25 =>
    gY K n v2 v3 v17 v25 n 0 []
def gG (K:Kn) (n:Nat) (v2:bv) (v3:List ab):Nat→Int→(List ab)→(List (List (V2 Int)))→Option bj
  | 0=>fun _ _ _=>none
  | m+1=>nS K n v2 v3 (gG K n v2 v3 m)
def m9 (K:Kn) (n:Nat) (v1:ab) (v2:bv):Option bj :=
  (o8 K n v1 8).bind fun v3 =>
  gG K n v2 v3 n 0 [] []
def nr (K:Kn) (n:Nat) (v1:bj) (L1:Int→Int→Int→Option (Int×Int)) (v3 v4 v5:Int):Option (Int×Int) :=
  if (decide (v5<(v1.columns.length:Int)))=true then
    chk (inb v5 v1.columns.length) (
    L1 (w64 (v3+((List.getD v1.columns (v5).toNat default).Least))) (w64 (v4+((List.getD v1.columns (v5).toNat default).Most))) (w64 (v5+1)))
  else
    some (v3,v4)
def kC (K:Kn) (n:Nat) (v1:bj):Nat→Int→Int→Int→Option (Int×Int)
  | 0=>fun _ _ _=>none
  | m+1=>nr K n v1 (kC K n v1 m)
def pD (K:Kn) (n:Nat) (v1:bj):Option (Int×Int) :=
  kC K n v1 n 0 0 0
def nC (K:Kn) (n:Nat) (v1:List ae):Option (List ae) :=
  both (List.isEmpty v1) (
    some []) (
    chk (fits (([]:List ae).length+v1.length) 32) (
    some (([]:List ae)++v1)))
def hH (K:Kn) (n:Nat) (v1:ci):Option (Int×Bool) :=
  if (v1.Kind != 1)=true then
    some (0,false)
  else
    (cN K n v1 0).bind fun v2 =>
    some ((max v2.1 0),true)
def mc (K:Kn) (n:Nat) (v1:aS):Option Int :=
  some (w64 ((w64 ((w64 (v1.Border.a0+v1.Border.a2))+v1.Padding.a0))+v1.Padding.a2))
def gU (K:Kn) (n:Nat) (v1:Int):Option aA :=
  some (⟨(max v1 0),(min v1 0)⟩:aA)
def iP (K:Kn) (n:Nat) (v1 v2:aA):Option aA :=
  some (⟨(max v1.Pos v2.Pos),(min v1.Neg v2.Neg)⟩:aA)
def kF (K:Kn) (n:Nat) (v1:aA):Option Int :=
  some (w64 (v1.Pos+v1.Neg))
def qb (K:Kn) (n:Nat) (v1:List aa) (v18:Int) (v21:List aa) (v24:Int) (L1:Int→Bool→Int→aA→aA→(List aa)→Option ((List aa)×Int×aA×aA×Bool)) (v26:Int) (v27:Bool) (v28 v29:aA):Option ((List aa)×Int×aA×aA×Bool) :=
  chk (fits (v21.length+([({ (List.getD v1 (v18).toNat default) with Y:=v24 }:aa)]:(List aa)).length) 584) (
  L1 v26 v27 (w64 (v18+1)) v28 v29 (v21++[({ (List.getD v1 (v18).toNat default) with Y:=v24 }:aa)]))
def pP (K:Kn) (n:Nat) (v1:List aa) (v18:Int) (v21:List aa) (v22:aA) (v24:Int) (L1:Int→Bool→Int→aA→aA→(List aa)→Option ((List aa)×Int×aA×aA×Bool)) (v25:aA):Option ((List aa)×Int×aA×aA×Bool) :=
  qb K n v1 v18 v21 v24 L1 (w64 (v24+((List.getD v1 (v18).toNat default).H))) false v25 ((List.getD v1 (v18).toNat default).After)
def qL (K:Kn) (n:Nat) (v1:List aa) (v16:Int) (v17:Bool) (v18:Int) (v19:aA) (v21:List aa) (v22:aA) (L1:Int→Bool→Int→aA→aA→(List aa)→Option ((List aa)×Int×aA×aA×Bool)) (v24:Int):Option ((List aa)×Int×aA×aA×Bool) :=
  if (!(List.getD v1 (v18).toNat default).Empty)=true then
    if v17=true then
      pP K n v1 v18 v21 v22 v24 L1 v22
    else
      pP K n v1 v18 v21 v22 v24 L1 v19
  else
    qb K n v1 v18 v21 v24 L1 v16 v17 v19 v22
def pK (K:Kn) (n:Nat) (v16:Int) (v17:Bool) (v20:aA) (v21:List aa) (v30:aA):Option ((List aa)×Int×aA×aA×Bool) :=
  some (v21,v16,v30,v20,v17)
def pT (K:Kn) (n:Nat) (v1:List aa) (L1:Int→Bool→Int→aA→aA→(List aa)→Option ((List aa)×Int×aA×aA×Bool)) (v16:Int) (v17:Bool) (v18:Int) (v19 v20:aA) (v21:List aa):Option ((List aa)×Int×aA×aA×Bool) :=
  if (decide (v18<(v1.length:Int)))=true then
    chk (inb v18 v1.length) (
    (iP K n v20 ((List.getD v1 (v18).toNat default).Before)).bind fun v22 =>
    if (!v17)=true then
      (kF K n v22).bind fun v23 =>
      qL K n v1 v16 v17 v18 v19 v21 v22 L1 (w64 (v16+v23))
    else
      qL K n v1 v16 v17 v18 v19 v21 v22 L1 0)
  else
    if v17=true then
      pK K n v16 v17 v20 v21 v20
    else
      pK K n v16 v17 v20 v21 v19
def qn (K:Kn) (n:Nat) (v1:List aa):Nat→Int→Bool→Int→aA→aA→(List aa)→Option ((List aa)×Int×aA×aA×Bool)
  | 0=>fun _ _ _ _ _ _=>none
  | m+1=>pT K n v1 (qn K n v1 m)
def rr (K:Kn) (n:Nat) (v1:List aa):Option ((List aa)×Int×aA×aA×Bool) :=
  qn K n v1 n 0 true 0 eI eI []
def ns (K:Kn) (n:Nat) (v1:List aa):Option (List aa) :=
  both (List.isEmpty v1) (
    some []) (
    chk (fits (([]:List aa).length+v1.length) 584) (
    some (([]:List aa)++v1)))
def qN (K:Kn) (n:Nat) (v1:aS):Option Int :=
  some (w64 ((w64 ((w64 (v1.Border.a3+v1.Padding.a3))+v1.Border.a1))+v1.Padding.a1))
def mm (K:Kn) (n:Nat) (v2:Bool):Option Bool :=
  some v2
def kq (K:Kn) (n:Nat) (v1:ab):Option Bool :=
  if (v1.Kind == 1)=true then
    mm K n true
  else
    if (v1.Kind == 6)=true then
      mm K n true
    else
      mm K n (v1.Kind == 7)
def oU (K:Kn) (n:Nat) (v1:aa) (v3:Int×Bool) (v5:Int):Option aa :=
  some ({ v1 with X:=(w64 (v1.X+v3.1)),Y:=v5 }:aa)
def nZ (K:Kn) (n:Nat) (v1:aa) (v2:Int):Option aa :=
  if (v1.Style.Position != 1)=true then
    some v1
  else
    (cN K n v1.Style.Left v2).bind fun v3 =>
    if (v1.Style.Top.Kind == 1)=true then
      (cN K n v1.Style.Top 0).bind fun v4 =>
      oU K n v1 v3 (w64 (v1.Y+v4.1))
    else
      oU K n v1 v3 v1.Y
def nL (K:Kn) (n:Nat) (v1:ab) (v2:aS) (v6:(List ab)×Bool) (v19:List aa) (v25:Int) (v33 v34:aA) (v35:Bool) (v39 v40 v47:Int) (L2:Int→(List aa)→Option aa) (v54:List aa):Option aa :=
  L2 (w64 (v47+1)) v54
def oE (K:Kn) (n:Nat) (v1:ab) (v2:aS) (v6:(List ab)×Bool) (v19:List aa) (v25:Int) (v33 v34:aA) (v35:Bool) (v39 v40 v47:Int) (v50:List aa) (L2:Int→(List aa)→Option aa) (v52:Bool):Option aa :=
  if v52=true then
    chk (inb v47 v50.length) (
    (nZ K n (List.getD v50 (v47).toNat default) v2.Content).bind fun v53 =>
    chk (inb v47 v50.length) (
    nL K n v1 v2 v6 v19 v25 v33 v34 v35 v39 v40 v47 L2 (List.set v50 (v47).toNat v53)))
  else
    nL K n v1 v2 v6 v19 v25 v33 v34 v35 v39 v40 v47 L2 v50
def oC (K:Kn) (n:Nat) (v1:ab) (v2:aS) (v6:(List ab)×Bool) (v19:List aa) (v25:Int) (v33 v34:aA) (v35:Bool) (v39 v40:Int) (L2:Int→(List aa)→Option aa) (v47:Int) (v48:List aa):Option aa :=
  if (decide (v47<(v19.length:Int)))=true then
    chk (inb v47 v48.length) (
    chk (inb v47 v48.length) (
    (some (List.set v48 (v47).toNat ({ (List.getD v48 (v47).toNat default) with X:=(w64 (((List.getD v48 (v47).toNat default).X)+(w64 (v2.Border.a3+v2.Padding.a3)))) }:aa))).bind fun v49 =>
    chk (inb v47 v49.length) (
    chk (inb v47 v49.length) (
    (some (List.set v49 (v47).toNat ({ (List.getD v49 (v47).toNat default) with Y:=(w64 (((List.getD v49 (v47).toNat default).Y)+(w64 ((w64 (v2.Border.a0+v2.Padding.a0))+v25)))) }:aa))).bind fun v50 =>
    if v6.2=true then
      chk (inb v47 v6.1.length) (
      (kq K n (List.getD v6.1 (v47).toNat default)).bind fun v51 =>
      oE K n v1 v2 v6 v19 v25 v33 v34 v35 v39 v40 v47 v50 L2 v51)
    else
      oE K n v1 v2 v6 v19 v25 v33 v34 v35 v39 v40 v47 v50 L2 false))))
  else
    some (⟨1,v1.Node,v2.Margin.a3,0,(w64 (v2.Content+v39)),v40,0,⟨#[]⟩,v1.Style,v33,v34,v35,v48⟩:aa)
def kB (K:Kn) (n:Nat) (v1:ab) (v2:aS) (v6:(List ab)×Bool) (v19:List aa) (v25:Int) (v33 v34:aA) (v35:Bool) (v39 v40:Int):Nat→Int→(List aa)→Option aa
  | 0=>fun _ _=>none
  | m+1=>oC K n v1 v2 v6 v19 v25 v33 v34 v35 v39 v40 (kB K n v1 v2 v6 v19 v25 v33 v34 v35 v39 v40 m)
def l3 (K:Kn) (n:Nat) (v1:ab) (v2:aS) (v6:(List ab)×Bool) (v19:List aa) (v25:Int) (v33 v34:aA) (v35:Bool) (v38:Int):Option aa :=
  (qN K n v2).bind fun v39 =>
  (some (w64 ((w64 ((w64 ((w64 (v38+v2.Border.a0))+v2.Padding.a0))+v2.Border.a2))+v2.Padding.a2))).bind fun v40 =>
  kB K n v1 v2 v6 v19 v25 v33 v34 v35 v39 v40 n 0 v19
def oH (K:Kn) (n:Nat) (v1:ab) (v2:aS) (v6:(List ab)×Bool) (v19:List aa) (v25 v32:Int) (v33 v34:aA) (v35:Bool) (v36:Int×Bool) (v37:Bool):Option aa :=
  if v37=true then
    l3 K n v1 v2 v6 v19 v25 v33 v34 v35 (max v36.1 0)
  else
    l3 K n v1 v2 v6 v19 v25 v33 v34 v35 (max v32 0)
def fG (K:Kn) (n:Nat) (v1:ab) (v2:aS) (v6:(List ab)×Bool) (v19:List aa) (v25 v32:Int) (v33 v34:aA) (v35:Bool):Option aa :=
  (cN K n v1.Style.Height 0).bind fun v36 =>
  if v36.2=true then
    oH K n v1 v2 v6 v19 v25 v32 v33 v34 v35 v36 (v1.Style.Height.Kind == 1)
  else
    oH K n v1 v2 v6 v19 v25 v32 v33 v34 v35 v36 false
def lY (K:Kn) (n:Nat) (v1:ab) (v2:aS) (v4:Bool) (v6:(List ab)×Bool) (v15:Int) (v16:Bool) (v17 v18:aA) (v19:List aa) (v21:aA) (v25:Int) (v26:aA) (v27:Bool):Option aa :=
  if v27=true then
    (iP K n v26 v21).bind fun v28 =>
    fG K n v1 v2 v6 v19 v25 0 v28 v28 true
  else
    if v16=true then
      if v4=true then
        (iP K n v21 v17).bind fun v29 =>
        fG K n v1 v2 v6 v19 v25 v25 v26 v29 false
      else
        fG K n v1 v2 v6 v19 v25 v25 v26 v21 false
    else
      if v4=true then
        (iP K n v21 v18).bind fun v30 =>
        fG K n v1 v2 v6 v19 v25 (w64 (v15+v25)) v26 v30 false
      else
        (kF K n v18).bind fun v31 =>
        fG K n v1 v2 v6 v19 v25 (w64 (v15+(w64 (v25+v31)))) v26 v21 false
def lw (K:Kn) (n:Nat) (v1:ab) (v2:aS) (v3 v4:Bool) (v6:(List ab)×Bool) (v15:Int) (v16:Bool) (v17 v18:aA) (v19:List aa) (v21:aA) (v25:Int) (v26:aA):Option aa :=
  if v16=true then
    if v3=true then
      lY K n v1 v2 v4 v6 v15 v16 v17 v18 v19 v21 v25 v26 v4
    else
      lY K n v1 v2 v4 v6 v15 v16 v17 v18 v19 v21 v25 v26 false
  else
    lY K n v1 v2 v4 v6 v15 v16 v17 v18 v19 v21 v25 v26 false
def nn (K:Kn) (n:Nat) (v1:ab) (v2:aS) (v3 v4:Bool) (v6:(List ab)×Bool) (v15:Int) (v16:Bool) (v17 v18:aA) (v19:List aa) (v20 v21:aA) (v23:Bool):Option aa :=
  if v23=true then
    (kF K n v17).bind fun v24 =>
    lw K n v1 v2 v3 v4 v6 v15 v16 v17 v18 v19 v21 v24 v20
  else
    lw K n v1 v2 v3 v4 v6 v15 v16 v17 v18 v19 v21 0 v20
def oz (K:Kn) (n:Nat) (v1:ab) (v2:aS) (v3 v4:Bool) (v6:(List ab)×Bool) (v15:Int) (v16:Bool) (v17 v18:aA) (v19:List aa):Option aa :=
  (gU K n v2.Margin.a0).bind fun v20 =>
  (gU K n v2.Margin.a2).bind fun v21 =>
  if v3=true then
    (iP K n v20 v17).bind fun v22 =>
    lw K n v1 v2 v3 v4 v6 v15 v16 v17 v18 v19 v21 0 v22
  else
    if (!v16)=true then
      nn K n v1 v2 v3 v4 v6 v15 v16 v17 v18 v19 v20 v21 true
    else
      nn K n v1 v2 v3 v4 v6 v15 v16 v17 v18 v19 v20 v21 (!v4)
def qB (K:Kn) (n:Nat) (v1:ab) (v2:aS) (v3 v4:Bool) (v5:bv) (v6:(List ab)×Bool) (L1:Int→(List aa)→Option aa) (v9:Int) (v10:List aa):Option aa :=
  if (decide (v9<(v6.1.length:Int)))=true then
    chk (inb v9 v6.1.length) (
    (K.qO v5.Layout (List.getD v6.1 (v9).toNat default) v2.Content).bind fun v11 =>
    chk (fits (v10.length+([v11]:(List aa)).length) 584) (
    L1 (w64 (v9+1)) (v10++[v11])))
  else
    (rr K n v10).bind fun v12 =>
    oz K n v1 v2 v3 v4 v6 v12.2.1 v12.2.2.2.2 v12.2.2.1 v12.2.2.2.1 v12.1
def pY (K:Kn) (n:Nat) (v1:ab) (v2:aS) (v3 v4:Bool) (v5:bv) (v6:(List ab)×Bool):Nat→Int→(List aa)→Option aa
  | 0=>fun _ _=>none
  | m+1=>qB K n v1 v2 v3 v4 v5 v6 (pY K n v1 v2 v3 v4 v5 v6 m)
def ny (K:Kn) (n:Nat) (v1:ab) (v2:aS) (v3 v4:Bool) (v5:bv):Option aa :=
  (jV K n v1).bind fun v6 =>
  if v6.2=true then
    pY K n v1 v2 v3 v4 v5 v6 n 0 []
  else
    (K.oa v5.Lines v6.1 v1.Style v2.Content).bind fun v13 =>
    (ns K n v13.1).bind fun v14 =>
    oz K n v1 v2 v3 v4 v6 v13.2 ((v14.length:Int) == 0) eI eI v14
def pg (K:Kn) (n:Nat) (v1:ab) (v2:aS) (v3:bv):Option aa :=
  (ny K n v1 v2 false false v3).bind fun v4 =>
  some v4
def oo (K:Kn) (n:Nat) (v1:ab) (v3:Int) (v8:aa) (v11:Int):Option (aa×Int) :=
  some (({ v8 with W:=v3,Style:=v1.Style }:aa),v11)
def jr (K:Kn) (n:Nat) (v1:ab) (v2 v3:Int) (v4:bv):Option (aa×Int) :=
  (kT K n v1).bind fun v5 =>
  (gI K n ({ v5.Style with Height:=bK }:aG) v2 0).bind fun v6 =>
  (gg K n v6).bind fun v7 =>
  (pg K n ({ v5 with Style:=({ v5.Style with Height:=bK }:aG) }:ab) ({ v6 with Content:=(max (w64 (v3 - v7)) 0) }:aS) v4).bind fun v8 =>
  (hH K n v1.Style.Height).bind fun v9 =>
  if v9.2=true then
    (mc K n ({ v6 with Content:=(max (w64 (v3 - v7)) 0) }:aS)).bind fun v10 =>
    oo K n v1 v3 v8 (max v8.H (w64 (v9.1+v10)))
  else
    oo K n v1 v3 v8 v8.H
def nJ (K:Kn) (n:Nat) (v1:List Int):Option (List Int) :=
  both (List.isEmpty v1) (
    some []) (
    chk (fits (([]:List Int).length+v1.length) 8) (
    some (([]:List Int)++v1)))
def jq (K:Kn) (n:Nat) (v4:aS) (v8:Int) (v13:V4 Int):Option aS :=
  some ({ v4 with Margin:=v13,Content:=v8 }:aS)
def nV (K:Kn) (n:Nat) (v3:Int) (v4:aS) (v8 v9:Int) (v10 v11:Int×Bool) (v12:Bool):Option aS :=
  if v12=true then
    jq K n v4 v8 ⟨v4.Margin.a0,(w64 ((w64 (v3 - v9)) - (w64 (Int.tdiv (w64 (v3 - v9)) 2)))),v4.Margin.a2,(w64 (Int.tdiv (w64 (v3 - v9)) 2))⟩
  else
    if (!v10.2)=true then
      jq K n v4 v8 ⟨v4.Margin.a0,v4.Margin.a1,v4.Margin.a2,(w64 (v3 - v9))⟩
    else
      if (!v11.2)=true then
        jq K n v4 v8 ⟨v4.Margin.a0,(w64 (v3 - v9)),v4.Margin.a2,v4.Margin.a3⟩
      else
        jq K n v4 v8 v4.Margin
def jT (K:Kn) (n:Nat) (v1:aG) (v3:Int) (v4:aS) (v7:Int):Option aS :=
  (ir K n v1 v3 v7).bind fun v8 =>
  (gg K n ({ v4 with Content:=v8 }:aS)).bind fun v9 =>
  if (decide ((w64 (v3 - v9))≤0))=true then
    some ({ v4 with Content:=v8 }:aS)
  else
    (cN K n v1.Margin.a3 v3).bind fun v10 =>
    (cN K n v1.Margin.a1 v3).bind fun v11 =>
    if (!v10.2)=true then
      nV K n v3 v4 v8 v9 v10 v11 (!v11.2)
    else
      nV K n v3 v4 v8 v9 v10 v11 false
def jK (K:Kn) (n:Nat) (v1:aG) (v2:Int):Option aS :=
  (dT K n v2).bind fun v3 =>
  (gI K n v1 v3 0).bind fun v4 =>
  (cN K n v1.Width v3).bind fun v5 =>
  if (!v5.2)=true then
    (gg K n v4).bind fun v6 =>
    jT K n v1 v3 v4 (w64 (v3 - v6))
  else
    jT K n v1 v3 v4 v5.1
def o6 (K:Kn) (n:Nat) (v1:ab) (v2:Int) (v4:bj) (v5:Int×Int) (v11:Int) (v25:List Int) (v26:List (aa×Option (List aa))) (v37:Int) (L2:Int→(List ae)→(List Int)→Option aa) (v41:List ae) (v42:List Int):Option aa :=
  L2 (w64 (v37+1)) v41 v42
def px (K:Kn) (n:Nat) (v1:ab) (v2:Int) (v5:Int×Int) (v11:Int) (v25:List Int) (v26:List (aa×Option (List aa))) (v38:List ae) (v43:List Int) (v46 v94:Int) (v102:List (aa×Option (List aa))) (L4:Int→(List (aa×Option (List aa)))→(List (aa×Option (List aa)))→Option aa) (v110:List (aa×Option (List aa))):Option aa :=
  L4 (w64 (v94+1)) v102 v110
def oe (K:Kn) (n:Nat) (v1:ab) (v2:Int) (v5:Int×Int) (v11:Int) (v25:List Int) (v26:List (aa×Option (List aa))) (v38:List ae) (v43:List Int) (v46 v94:Int) (v95 v96:List (aa×Option (List aa))) (v97:List aa) (v98:aG) (v99 v100:aA) (v101:Bool) (v102:List (aa×Option (List aa))) (v103 v105:Int) (L4:Int→(List (aa×Option (List aa)))→(List (aa×Option (List aa)))→Option aa) (L5:Int→(List aa)→Option aa) (v106:Int) (v107:List aa):Option aa :=
  if (decide (v106<(v97.length:Int)))=true then
    chk (inb v106 v107.length) (
    chk (inb v106 v107.length) (
    L5 (w64 (v106+1)) (List.set v107 (v106).toNat ({ (List.getD v107 (v106).toNat default) with Y:=(w64 (((List.getD v107 (v106).toNat default).Y)+v105)) }:aa))))
  else
    both (true) (
      chk (inb ((List.getD v38 (v94).toNat default).Row) v96.length) (
      ((List.getD v96 ((List.getD v38 (v94).toNat default).Row).toNat default).2).bind fun v108 =>
      chk (inb ((List.getD v38 (v94).toNat default).Row) v96.length) (
      chk (fits (v108.length+([aX]:(List aa)).length) 584) (
      chk (inb ((List.getD v38 (v94).toNat default).Row) v96.length) (
      chk (inb (v108.length:Int) (v108++[aX]).length) (
      px K n v1 v2 v5 v11 v25 v26 v38 v43 v46 v94 v102 L4 (List.set v96 ((List.getD v38 (v94).toNat default).Row).toNat ((List.getD v96 ((List.getD v38 (v94).toNat default).Row).toNat default).1,some (List.set (v108++[aX]) ((v108.length:Int)).toNat ({ ((List.getD v95 (v94).toNat default).1) with H:=v103,Style:=v98,Before:=v99,After:=v100,Empty:=v101,Kids:=v107 }:aa)))))))))) (
      chk (inb ((List.getD v38 (v94).toNat default).Row) v96.length) (
      ((List.getD v96 ((List.getD v38 (v94).toNat default).Row).toNat default).2).bind fun v109 =>
      chk (inb ((List.getD v38 (v94).toNat default).Row) v96.length) (
      chk (fits (v109.length+([({ ((List.getD v95 (v94).toNat default).1) with H:=v103,Style:=v98,Before:=v99,After:=v100,Empty:=v101,Kids:=v107 }:aa)]:(List aa)).length) 584) (
      chk (inb ((List.getD v38 (v94).toNat default).Row) v96.length) (
      px K n v1 v2 v5 v11 v25 v26 v38 v43 v46 v94 v102 L4 (List.set v96 ((List.getD v38 (v94).toNat default).Row).toNat ((List.getD v96 ((List.getD v38 (v94).toNat default).Row).toNat default).1,some (v109++[({ ((List.getD v95 (v94).toNat default).1) with H:=v103,Style:=v98,Before:=v99,After:=v100,Empty:=v101,Kids:=v107 }:aa)]))))))))
def mo (K:Kn) (n:Nat) (v1:ab) (v2:Int) (v5:Int×Int) (v11:Int) (v25:List Int) (v26:List (aa×Option (List aa))) (v38:List ae) (v43:List Int) (v46 v94:Int) (v95 v96:List (aa×Option (List aa))) (v97:List aa) (v98:aG) (v99 v100:aA) (v101:Bool) (v102:List (aa×Option (List aa))) (v103 v105:Int) (L4:Int→(List (aa×Option (List aa)))→(List (aa×Option (List aa)))→Option aa):Nat→Int→(List aa)→Option aa
  | 0=>fun _ _=>none
  | m+1=>oe K n v1 v2 v5 v11 v25 v26 v38 v43 v46 v94 v95 v96 v97 v98 v99 v100 v101 v102 v103 v105 L4 (mo K n v1 v2 v5 v11 v25 v26 v38 v43 v46 v94 v95 v96 v97 v98 v99 v100 v101 v102 v103 v105 L4 m)
def jE (K:Kn) (n:Nat) (v1:ab) (v2:Int) (v5:Int×Int) (v11:Int) (v25:List Int) (v26:List (aa×Option (List aa))) (v38:List ae) (v43:List Int) (v46 v94:Int) (v95 v96:List (aa×Option (List aa))) (v97:List aa) (v98:aG) (v99 v100:aA) (v101:Bool) (v102:List (aa×Option (List aa))) (v103:Int) (L4:Int→(List (aa×Option (List aa)))→(List (aa×Option (List aa)))→Option aa) (v105:Int):Option aa :=
  mo K n v1 v2 v5 v11 v25 v26 v38 v43 v46 v94 v95 v96 v97 v98 v99 v100 v101 v102 v103 v105 L4 n 0 v97
def oP (K:Kn) (n:Nat) (v1:ab) (v96:List (aa×Option (List aa))) (v111:aS) (v113:Int) (v114 v115:aA) (v116 v117:Int) (L6:Int→(List (aa×Option (List aa)))→Option aa) (v119:Int) (v120:List (aa×Option (List aa))):Option aa :=
  if (decide (v119<(v96.length:Int)))=true then
    chk (inb v119 v120.length) (
    chk (inb v119 v120.length) (
    (some (List.set v120 (v119).toNat (({ ((List.getD v120 (v119).toNat default).1) with X:=(w64 ((((List.getD v120 (v119).toNat default).1).X)+(w64 (v111.Border.a3+v111.Padding.a3)))) }:aa),(List.getD v120 (v119).toNat default).2))).bind fun v121 =>
    chk (inb v119 v121.length) (
    chk (inb v119 v121.length) (
    L6 (w64 (v119+1)) (List.set v121 (v119).toNat (({ ((List.getD v121 (v119).toNat default).1) with Y:=(w64 ((((List.getD v121 (v119).toNat default).1).Y)+(w64 (v111.Border.a0+v111.Padding.a0)))) }:aa),(List.getD v121 (v119).toNat default).2))))))
  else
    chk (List.all v120 (fun p=>p.2.isSome)) (
    some (⟨1,v1.Node,v111.Margin.a3,0,v116,(w64 (v113+v117)),0,⟨#[]⟩,v1.Style,v114,v115,false,(List.map wTBlockFragment v120)⟩:aa))
def lF (K:Kn) (n:Nat) (v1:ab) (v96:List (aa×Option (List aa))) (v111:aS) (v113:Int) (v114 v115:aA) (v116 v117:Int):Nat→Int→(List (aa×Option (List aa)))→Option aa
  | 0=>fun _ _=>none
  | m+1=>oP K n v1 v96 v111 v113 v114 v115 v116 v117 (lF K n v1 v96 v111 v113 v114 v115 v116 v117 m)
def ia (K:Kn) (n:Nat) (v1:ab) (v96:List (aa×Option (List aa))) (v111:aS) (v113:Int):Option aa :=
  (gU K n v111.Margin.a0).bind fun v114 =>
  (gU K n v111.Margin.a2).bind fun v115 =>
  (some (w64 ((w64 ((w64 ((w64 (v111.Content+v111.Border.a1))+v111.Border.a3))+v111.Padding.a1))+v111.Padding.a3))).bind fun v116 =>
  (mc K n v111).bind fun v117 =>
  lF K n v1 v96 v111 v113 v114 v115 v116 v117 n 0 v96
def o5 (K:Kn) (n:Nat) (v1:ab) (v2:Int) (v5:Int×Int) (v11:Int) (v25:List Int) (v26:List (aa×Option (List aa))) (v38:List ae) (v43:List Int) (v46:Int) (L4:Int→(List (aa×Option (List aa)))→(List (aa×Option (List aa)))→Option aa) (v94:Int) (v95 v96:List (aa×Option (List aa))):Option aa :=
  if (decide (v94<(v26.length:Int)))=true then
    chk (inb v94 v95.length) (
    ((List.getD v95 (v94).toNat default).2).bind fun v97 =>
    (some (((List.getD v95 (v94).toNat default).1).Style)).bind fun v98 =>
    (some (((List.getD v95 (v94).toNat default).1).Before)).bind fun v99 =>
    (some (((List.getD v95 (v94).toNat default).1).After)).bind fun v100 =>
    (some (((List.getD v95 (v94).toNat default).1).Empty)).bind fun v101 =>
    (some (List.set v95 (v94).toNat ((List.getD v95 (v94).toNat default).1,none))).bind fun v102 =>
    chk (inb v94 v38.length) (
    chk (slb ((List.getD v38 (v94).toNat default).Row) (w64 (((List.getD v38 (v94).toNat default).Row)+((List.getD v38 (v94).toNat default).Rows))) v43.length) (
    (fQ K n (List.drop (((List.getD v38 (v94).toNat default).Row)).toNat (List.take ((w64 (((List.getD v38 (v94).toNat default).Row)+((List.getD v38 (v94).toNat default).Rows)))).toNat v43))).bind fun v103 =>
    chk (inb v94 v25.length) (
    (some (max (w64 (v103 - (List.getD v25 (v94).toNat default))) 0)).bind fun v104 =>
    if (v98.VAlign == 2)=true then
      jE K n v1 v2 v5 v11 v25 v26 v38 v43 v46 v94 v95 v96 v97 v98 v99 v100 v101 v102 v103 L4 v104
    else
      if (v98.VAlign == 1)=true then
        jE K n v1 v2 v5 v11 v25 v26 v38 v43 v46 v94 v95 v96 v97 v98 v99 v100 v101 v102 v103 L4 (w64 (Int.tdiv v104 2))
      else
        jE K n v1 v2 v5 v11 v25 v26 v38 v43 v46 v94 v95 v96 v97 v98 v99 v100 v101 v102 v103 L4 0))))
  else
    (jK K n ({ v1.Style with Width:=(⟨1,(max v11 v5.1)⟩:ci),MinWidth:=bK,MaxWidth:=bK }:aG) v2).bind fun v111 =>
    (hH K n v1.Style.Height).bind fun v112 =>
    if v112.2=true then
      ia K n v1 v96 v111 (max v46 v112.1)
    else
      ia K n v1 v96 v111 v46
def gM (K:Kn) (n:Nat) (v1:ab) (v2:Int) (v5:Int×Int) (v11:Int) (v25:List Int) (v26:List (aa×Option (List aa))) (v38:List ae) (v43:List Int) (v46:Int):Nat→Int→(List (aa×Option (List aa)))→(List (aa×Option (List aa)))→Option aa
  | 0=>fun _ _ _=>none
  | m+1=>o5 K n v1 v2 v5 v11 v25 v26 v38 v43 v46 (gM K n v1 v2 v5 v11 v25 v26 v38 v43 v46 m)
def oN (K:Kn) (n:Nat) (v1:ab) (v2:Int) (v4:bj) (v5:Int×Int) (v11:Int) (v25:List Int) (v26:List (aa×Option (List aa))) (v38:List ae) (v43:List Int) (L3:Int→Int→(List (aa×Option (List aa)))→Option aa) (v46 v47:Int) (v48:List (aa×Option (List aa))):Option aa :=
  if (decide (v47<(v4.rows.length:Int)))=true then
    chk (inb v47 v4.rows.length) (
    chk (inb v47 v43.length) (
    chk (fits (v48.length+1) 584) (
    (some (v48++[(({ aX with Kind:=1,Node:=(List.getD v4.rows (v47).toNat default).Node,Y:=v46,W:=(max v11 v5.1),H:=(List.getD v43 (v47).toNat default),Style:=(List.getD v4.rows (v47).toNat default).Style }:aa),some [])])).bind fun v49 =>
    chk (inb v47 v43.length) (
    L3 (w64 (v46+(List.getD v43 (v47).toNat default))) (w64 (v47+1)) v49))))
  else
    gM K n v1 v2 v5 v11 v25 v26 v38 v43 v46 n 0 v26 v48
def jD (K:Kn) (n:Nat) (v1:ab) (v2:Int) (v4:bj) (v5:Int×Int) (v11:Int) (v25:List Int) (v26:List (aa×Option (List aa))) (v38:List ae) (v43:List Int):Nat→Int→Int→(List (aa×Option (List aa)))→Option aa
  | 0=>fun _ _ _=>none
  | m+1=>oN K n v1 v2 v4 v5 v11 v25 v26 v38 v43 (jD K n v1 v2 v4 v5 v11 v25 v26 v38 v43 m)
def oF (K:Kn) (n:Nat) (v1:ab) (v2:Int) (v4:bj) (v5:Int×Int) (v11:Int) (v25:List Int) (v26:List (aa×Option (List aa))) (L2:Int→(List ae)→(List Int)→Option aa) (v37:Int) (v38:List ae) (v39:List Int):Option aa :=
  if (decide (v37<(v4.rows.length:Int)))=true then
    chk (inb v37 v4.rows.length) (
    (hH K n (((List.getD v4.rows (v37).toNat default).Style).Height)).bind fun v40 =>
    if v40.2=true then
      chk (fits (v38.length+([(⟨v37,0,1,1⟩:ae)]:(List ae)).length) 32) (
      chk (fits (v39.length+([v40.1]:(List Int)).length) 8) (
      o6 K n v1 v2 v4 v5 v11 v25 v26 v37 L2 (v38++[(⟨v37,0,1,1⟩:ae)]) (v39++[v40.1])))
    else
      o6 K n v1 v2 v4 v5 v11 v25 v26 v37 L2 v38 v39)
  else
    (ou K n v38 v39 (v4.rows.length:Int)).bind fun v43 =>
    jD K n v1 v2 v4 v5 v11 v25 v26 v38 v43 n 0 0 []
def iV (K:Kn) (n:Nat) (v1:ab) (v2:Int) (v4:bj) (v5:Int×Int) (v11:Int) (v25:List Int) (v26:List (aa×Option (List aa))):Nat→Int→(List ae)→(List Int)→Option aa
  | 0=>fun _ _ _=>none
  | m+1=>oF K n v1 v2 v4 v5 v11 v25 v26 (iV K n v1 v2 v4 v5 v11 v25 v26 m)
def nc (K:Kn) (n:Nat) (v1:ab) (v2:Int) (v3:bv) (v4:bj) (v5:Int×Int) (v11:Int) (v12:List Int) (v13:List ae) (L1:Int→(List Int)→(List (aa×Option (List aa)))→Option aa) (v24:Int) (v25:List Int) (v26:List (aa×Option (List aa))):Option aa :=
  if (decide (v24<(v4.cells.length:Int)))=true then
    chk (inb v24 v4.cells.length) (
    chk (inb v24 v13.length) (
    chk (slb ((List.getD v13 (v24).toNat default).Col) (w64 (((List.getD v13 (v24).toNat default).Col)+((List.getD v13 (v24).toNat default).Cols))) v12.length) (
    (fQ K n (List.drop (((List.getD v13 (v24).toNat default).Col)).toNat (List.take ((w64 (((List.getD v13 (v24).toNat default).Col)+((List.getD v13 (v24).toNat default).Cols)))).toNat v12))).bind fun v27 =>
    (jr K n (List.getD v4.cells (v24).toNat default) (max v11 v5.1) v27 v3).bind fun v28 =>
    chk (slb (0:Int) ((List.getD v13 (v24).toNat default).Col) v12.length) (
    (fQ K n (List.drop ((0:Int)).toNat (List.take (((List.getD v13 (v24).toNat default).Col)).toNat v12))).bind fun v29 =>
    chk (fits (v26.length+1) 584) (
    (some (v26++[(({ v28.1 with X:=v29,Y:=0,Kids:=[] }:aa),some v28.1.Kids)])).bind fun v30 =>
    chk (fits (v25.length+([v28.2]:(List Int)).length) 8) (
    L1 (w64 (v24+1)) (v25++[v28.2]) v30))))))
  else
    (nJ K n v25).bind fun v31 =>
    iV K n v1 v2 v4 v5 v11 v25 v26 n 0 v13 v31
def km (K:Kn) (n:Nat) (v1:ab) (v2:Int) (v3:bv) (v4:bj) (v5:Int×Int) (v11:Int) (v12:List Int) (v13:List ae):Nat→Int→(List Int)→(List (aa×Option (List aa)))→Option aa
  | 0=>fun _ _ _=>none
  | m+1=>nc K n v1 v2 v3 v4 v5 v11 v12 v13 (km K n v1 v2 v3 v4 v5 v11 v12 v13 m)
def l5 (K:Kn) (n:Nat) (v1:ab) (v2:Int) (v3:bv) (v4:bj) (v5:Int×Int) (v10:Int):Option aa :=
  (ir K n v1.Style v2 v10).bind fun v11 =>
  (kL K n v4.columns (max v11 v5.1)).bind fun v12 =>
  (nC K n v4.places).bind fun v13 =>
  km K n v1 v2 v3 v4 v5 v11 v12 v13 n 0 [] []
def j4 (K:Kn) (n:Nat) (v1:ab) (v2:Int) (v3:bv):Option aa :=
  (m9 K n v1 v3).bind fun v4 =>
  (pD K n v4).bind fun v5 =>
  (cN K n v1.Style.Width v2).bind fun v6 =>
  if (!v6.2)=true then
    (eZ K n v2).bind fun v7 =>
    (gI K n v1.Style v2 0).bind fun v8 =>
    (gg K n v8).bind fun v9 =>
    l5 K n v1 v2 v3 v4 v5 (min (w64 (v7 - v9)) v5.2)
  else
    l5 K n v1 v2 v3 v4 v5 v6.1
def jw (K:Kn) (n:Nat):Option bv :=
  some (⟨(Fv.fn 53),(Fv.fn 54),(Fv.fn 55),(Fv.fn 56)⟩:bv)
def nK (K:Kn) (n:Nat) (v1 v2:aa) (L1:Int→Option Bool) (v6:Int):Option Bool :=
  if (decide (v6<(v1.Kids.length:Int)))=true then
    chk (inb v6 v1.Kids.length) (
    chk (inb v6 v2.Kids.length) (
    (K.nR (List.getD v1.Kids (v6).toNat default) (List.getD v2.Kids (v6).toNat default)).bind fun v7 =>
    if (!v7)=true then
      some false
    else
      L1 (w64 (v6+1))))
  else
    some true
def j8 (K:Kn) (n:Nat) (v1 v2:aa):Nat→Int→Option Bool
  | 0=>fun _=>none
  | m+1=>nK K n v1 v2 (j8 K n v1 v2 m)
def dK (K:Kn) (n:Nat) (v1 v2:aa) (v3:Bool):Option Bool :=
  if v3=true then
    some false
  else
    j8 K n v1 v2 n 0
def i8 (K:Kn) (n:Nat) (v1 v2:aa):Option Bool :=
  if (v1.Kind != v2.Kind)=true then
    dK K n v1 v2 true
  else
    if (v1.Node != v2.Node)=true then
      dK K n v1 v2 true
    else
      if (v1.X != v2.X)=true then
        dK K n v1 v2 true
      else
        if (v1.Y != v2.Y)=true then
          dK K n v1 v2 true
        else
          if (v1.W != v2.W)=true then
            dK K n v1 v2 true
          else
            if (v1.H != v2.H)=true then
              dK K n v1 v2 true
            else
              if (v1.Base != v2.Base)=true then
                dK K n v1 v2 true
              else
                if (!(v1.Text.toList == v2.Text.toList))=true then
                  dK K n v1 v2 true
                else
                  if (!(rL v1.Style v2.Style))=true then
                    dK K n v1 v2 true
                  else
                    if (!(qp v1.Before v2.Before))=true then
                      dK K n v1 v2 true
                    else
                      if (!(qp v1.After v2.After))=true then
                        dK K n v1 v2 true
                      else
                        if (!(v1.Empty == v2.Empty))=true then
                          dK K n v1 v2 true
                        else
                          dK K n v1 v2 ((v1.Kids.length:Int) != (v2.Kids.length:Int))
def j9 (K:Kn) (n:Nat) (v2:Int) (v6:ab) (v10:List ab):Option Bool :=
  (jw K n ).bind fun v22 =>
  (j4 K n v6 v2 v22).bind fun v23 =>
  (jw K n ).bind fun v24 =>
  (j4 K n ({ v6 with Kids:=v10 }:ab) v2 v24).bind fun v25 =>
  (i8 K n v23 v25).bind fun v26 =>
  some v26
def qo (K:Kn) (n:Nat) (v1:List bM) (v2 v3:Int):Option Bool :=
  (ox K n ).bind fun v4 =>
  if (!v4)=true then
    some false
  else
    (pB K n v1).bind fun v5 =>
    if (!v5)=true then
      some true
    else
      (j7 K n v1).bind fun v6 =>
      chk (((w64 ((v6.Kids.length:Int)+1)) != 0)) (
      (some (Int.tmod (w64 v3) (w64 ((v6.Kids.length:Int)+1)))).bind fun v7 =>
      chk (slb (0:Int) v7 v6.Kids.length) (
      chk (fits (([]:List ab).length+(List.drop ((0:Int)).toNat (List.take (v7).toNat v6.Kids)).length) 520) (
      chk (fits ((([]:List ab)++(List.drop ((0:Int)).toNat (List.take (v7).toNat v6.Kids))).length+([({ bD with Kind:=1,Node:=9 }:ab)]:(List ab)).length) 520) (
      chk (slb v7 (v6.Kids.length:Int) v6.Kids.length) (
      chk (fits (((([]:List ab)++(List.drop ((0:Int)).toNat (List.take (v7).toNat v6.Kids)))++[({ bD with Kind:=1,Node:=9 }:ab)]).length+(List.drop (v7).toNat (List.take ((v6.Kids.length:Int)).toNat v6.Kids)).length) 520) (
      (some (((([]:List ab)++(List.drop ((0:Int)).toNat (List.take (v7).toNat v6.Kids)))++[({ bD with Kind:=1,Node:=9 }:ab)])++(List.drop (v7).toNat (List.take ((v6.Kids.length:Int)).toNat v6.Kids)))).bind fun v8 =>
      if (decide (v7<(v6.Kids.length:Int)))=true then
        chk (inb v7 v6.Kids.length) (
        chk (fits (([({ bD with Kind:=3,Text:=⟨#[120]⟩ }:ab)]:List ab).length+((List.getD v6.Kids (v7).toNat default).Kids).length) 520) (
        (some (([({ bD with Kind:=3,Text:=⟨#[120]⟩ }:ab)]:List ab)++((List.getD v6.Kids (v7).toNat default).Kids))).bind fun v9 =>
        chk (inb (w64 (v7+1)) v8.length) (
        j9 K n v2 v6 (List.set v8 ((w64 (v7+1))).toNat ({ (List.getD v6.Kids (v7).toNat default) with Kids:=v9 }:ab)))))
      else
        j9 K n v2 v6 v8))))))
def rW (K:Kn) (n:Nat) (v1:ae):Option Int :=
  some v1.Rows
def re (K:Kn) (n:Nat) (v1:ae):Option Int :=
  some v1.Cols
def j0 (K:Kn) (n:Nat) (v1:ab) (v3:bv) (v4:aS) (v5 v6:Bool):Option aa :=
  (ny K n v1 v4 v5 v6 v3).bind fun v7 =>
  some v7
def nB (K:Kn) (n:Nat) (v1:ab) (v3:bv) (v4:aS) (v5:Bool):Option aa :=
  if (v1.Style.Overflow == 0)=true then
    if (v4.Border.a2 == 0)=true then
      if (v4.Padding.a2 == 0)=true then
        j0 K n v1 v3 v4 v5 (v1.Style.Height.Kind != 1)
      else
        j0 K n v1 v3 v4 v5 false
    else
      j0 K n v1 v3 v4 v5 false
  else
    j0 K n v1 v3 v4 v5 false
def rE (K:Kn) (n:Nat) (v1:ab) (v2:Int) (v3:bv):Option aa :=
  (jK K n v1.Style v2).bind fun v4 =>
  if (v1.Style.Overflow == 0)=true then
    if (v4.Border.a0 == 0)=true then
      nB K n v1 v3 v4 (v4.Padding.a0 == 0)
    else
      nB K n v1 v3 v4 false
  else
    nB K n v1 v3 v4 false
def rM (K:Kn) (n:Nat) (v1:ab) (v2:Int):Option aa :=
  (jw K n ).bind fun v3 =>
  (rE K n v1 v2 v3).bind fun v4 =>
  some v4
def rY (K:Kn) (n:Nat) (v1:ab):Option (Int×Int) :=
  (jw K n ).bind fun v2 =>
  (lG K n v1 v2).bind fun v3 =>
  some (v3.1,v3.2)
def nO (K:Kn) (n:Nat) (v1:List ab) (v2:aG) (v3 v11:Int) (L1:Int→Int→(List aa)→Option ((List aa)×Int)) (v14:Int) (v15:List aa):Option ((List aa)×Int) :=
  L1 v14 (w64 (v11+1)) v15
def nz (K:Kn) (n:Nat) (v1:List ab) (v2:aG) (v3:Int) (L1:Int→Int→(List aa)→Option ((List aa)×Int)) (v10 v11:Int) (v12:List aa):Option ((List aa)×Int) :=
  if (decide (v11<(v1.length:Int)))=true then
    chk (inb v11 v1.length) (
    (some (!(((List.getD v1 (v11).toNat default).Text).toList == (⟨#[]⟩:ByteArray).toList))).bind fun v13 =>
    if v13=true then
      chk (inb v11 v1.length) (
      chk (fits (v12.length+([({ aX with Kind:=2,Y:=v10,W:=v3,H:=v2.LineHeight,Text:=(List.getD v1 (v11).toNat default).Text }:aa)]:(List aa)).length) 584) (
      nO K n v1 v2 v3 v11 L1 (w64 (v10+v2.LineHeight)) (v12++[({ aX with Kind:=2,Y:=v10,W:=v3,H:=v2.LineHeight,Text:=(List.getD v1 (v11).toNat default).Text }:aa)])))
    else
      nO K n v1 v2 v3 v11 L1 v10 v12)
  else
    some (v12,v10)
def lj (K:Kn) (n:Nat) (v1:List ab) (v2:aG) (v3:Int):Nat→Int→Int→(List aa)→Option ((List aa)×Int)
  | 0=>fun _ _ _=>none
  | m+1=>nz K n v1 v2 v3 (lj K n v1 v2 v3 m)
def qy (K:Kn) (n:Nat) (v1:List ab) (v2:aG) (v3:Int):Option ((List aa)×Int) :=
  lj K n v1 v2 v3 n 0 0 []
def nI (K:Kn) (n:Nat) (v1:List ab) (L1:Int→Int→Int→Option (Int×Int)) (v3 v4 v5:Int):Option (Int×Int) :=
  if (decide (v5<(v1.length:Int)))=true then
    chk (inb v5 v1.length) (
    L1 (max v3 (w64 (8*(((List.getD v1 (v5).toNat default).Text).size:Int)))) (w64 (v4+(w64 (8*(((List.getD v1 (v5).toNat default).Text).size:Int))))) (w64 (v5+1)))
  else
    some (v3,v4)
def jZ (K:Kn) (n:Nat) (v1:List ab):Nat→Int→Int→Int→Option (Int×Int)
  | 0=>fun _ _ _=>none
  | m+1=>nI K n v1 (jZ K n v1 m)
def qK (K:Kn) (n:Nat) (v1:List ab) (v2:aG):Option (Int×Int) :=
  jZ K n v1 n 0 0 0
def rT (K:Kn) (n:Nat) (v1:Int):Option Bool :=
  some (decide (v1>0))
def KN:Nat→Kn
  | 0=>⟨fun _ _=>none,fun _ _ _ _ _=>none,fun _ _ _=>none,fun _ _=>none,fun _ _ _ _=>none,fun _ _ _=>none,fun _ _ _=>none,fun _ _=>none,fun _ _=>none,fun _ _=>none,fun _ _=>none⟩
  | n+1=>⟨fun a0 a1=>i8 (KN n) n a0 a1,
    fun a0 a1 a2 a3 a4=>fi (KN n) n a0 a1 a2 a3 a4,
    fun f a0 a1=>match f with | .fn i=>none | .c31 x0=>none | .c36 x0=>none | .c59 x0=>mT (KN n) n a0 a1 x0 | .c65 x0 x1=>pf (KN n) n a0 a1 x0 x1,
    fun f a0=>match f with | .fn i=>if Nat.beq i 62=true then rT (KN n) n a0 else none | .c31 x0=>none | .c36 x0=>none | .c59 x0=>none | .c65 x0 x1=>none,
    fun f a0 a1 a2=>match f with | .fn i=>if Nat.beq i 55=true then qy (KN n) n a0 a1 a2 else none | .c31 x0=>none | .c36 x0=>none | .c59 x0=>none | .c65 x0 x1=>none,
    fun f a0 a1=>match f with | .fn i=>if Nat.beq i 56=true then qK (KN n) n a0 a1 else none | .c31 x0=>none | .c36 x0=>none | .c59 x0=>none | .c65 x0 x1=>none,
    fun f a0 a1=>match f with | .fn i=>if Nat.beq i 53=true then rM (KN n) n a0 a1 else none | .c31 x0=>none | .c36 x0=>none | .c59 x0=>none | .c65 x0 x1=>none,
    fun f a0=>match f with | .fn i=>if Nat.beq i 90=true then kq (KN n) n a0 else none | .c31 x0=>none | .c36 x0=>none | .c59 x0=>none | .c65 x0 x1=>none,
    fun f a0=>match f with | .fn i=>if Nat.beq i 54=true then rY (KN n) n a0 else none | .c31 x0=>none | .c36 x0=>none | .c59 x0=>none | .c65 x0 x1=>none,
    fun f a0=>match f with | .fn i=>none | .c31 x0=>nt (KN n) n a0 x0 | .c36 x0=>nM (KN n) n a0 x0 | .c59 x0=>none | .c65 x0 x1=>none,
    fun f a0=>match f with | .fn i=>if Nat.beq i 33=true then rW (KN n) n a0 else if Nat.beq i 37=true then re (KN n) n a0 else none | .c31 x0=>none | .c36 x0=>none | .c59 x0=>none | .c65 x0 x1=>none⟩
end
end Go.Proofs.Ytolhpahjgddjkaa
