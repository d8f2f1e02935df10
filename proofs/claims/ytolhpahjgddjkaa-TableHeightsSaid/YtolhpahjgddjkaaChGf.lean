/- Layer 20's functions as plain Lean functions: K stands for calls that come back, n bounds the rounds of loops. Made by a program. -/
import Derived.Test.YtolhpahjgddjkaaChGt
namespace Go.Proofs.Ytolhpahjgddjkaa
open Go.RowKit
set_option maxRecDepth 20000
set_option linter.all false
set_option linter.unusedVariables false
set_option linter.unusedSimpArgs false
noncomputable section
def fM (K:Kn) (n:Nat) (v1:List (List (V2 Int))) (v122:Int) (v123:List (List aa)) (v124:List TMp) (v139 v141 v142:Int) (v143:List aa) (L1:Int→Int→(List (List aa))→(List TMp)→Option ((List (List aa))×Int)) (L2:Int→Int→Int→Int→(List aa)→Option ((List (List aa))×Int)) (L3:Int→(V2 Int)→Option ((List (List aa))×Int)) (v146:Int) (v147:V2 Int):Option ((List (List aa))×Int) :=
  chk (inb v122 v124.length) (
  (some (mget (List.getD v124 (v122).toNat none) v146)).bind fun v148 =>
  if v148=true then
    L3 (w64 (v146+1)) v147
  else
    (some (min (max v147.a0 1) (w64 ((v1.length:Int) - v122)))).bind fun v149 =>
    chk (fits (v143.length+([(⟨v122,v146,v149,(min (max v147.a1 1) 100)⟩:aa)]:(List aa)).length) 32) (
    L2 (max v139 (w64 (v146+(min (max v147.a1 1) 100)))) (w64 (v146+(min (max v147.a1 1) 100))) v141 (w64 (v142+1)) (v143++[(⟨v122,v146,v149,(min (max v147.a1 1) 100)⟩:aa)])))
def fO (K:Kn) (n:Nat) (v1:List (List (V2 Int))) (v122:Int) (v123:List (List aa)) (v124:List TMp) (v139 v141 v142:Int) (v143:List aa) (L1:Int→Int→(List (List aa))→(List TMp)→Option ((List (List aa))×Int)) (L2:Int→Int→Int→Int→(List aa)→Option ((List (List aa))×Int)):Nat→Int→(V2 Int)→Option ((List (List aa))×Int)
  | 0=>fun _ _=>none
  | m+1=>fM K n v1 v122 v123 v124 v139 v141 v142 v143 L1 L2 (fO K n v1 v122 v123 v124 v139 v141 v142 v143 L1 L2 m)
def gc (K:Kn) (n:Nat) (v1:List (List (V2 Int))) (v122:Int) (v123:List (List aa)) (v139:Int) (v143:List aa) (v166 v175:Int) (L1:Int→Int→(List (List aa))→(List TMp)→Option ((List (List aa))×Int)) (L4 L5 L6:Int→(List TMp)→Option ((List (List aa))×Int)) (v181:Int) (v182:List TMp):Option ((List (List aa))×Int) :=
  (some (decide (v181<(w64 (((List.getD v143 (v166).toNat default).Col)+((List.getD v143 (v166).toNat default).Cols)))))).bind fun v183 =>
  if v183=true then
    chk (inb v175 v182.length) (
    chk (Option.isSome (List.getD v182 (v175).toNat none)) (
    L6 (w64 (v181+1)) (List.set v182 (v175).toNat (mput (List.getD v182 (v175).toNat none) v181 true))))
  else
    L5 (w64 (v175+1)) v182
def gx (K:Kn) (n:Nat) (v1:List (List (V2 Int))) (v122:Int) (v123:List (List aa)) (v139:Int) (v143:List aa) (v166 v175:Int) (L1:Int→Int→(List (List aa))→(List TMp)→Option ((List (List aa))×Int)) (L4 L5:Int→(List TMp)→Option ((List (List aa))×Int)):Nat→Int→(List TMp)→Option ((List (List aa))×Int)
  | 0=>fun _ _=>none
  | m+1=>gc K n v1 v122 v123 v139 v143 v166 v175 L1 L4 L5 (gx K n v1 v122 v123 v139 v143 v166 v175 L1 L4 L5 m)
def ga (K:Kn) (n:Nat) (v1:List (List (V2 Int))) (v122:Int) (v123:List (List aa)) (v139:Int) (v143:List aa) (v166 v175:Int) (L1:Int→Int→(List (List aa))→(List TMp)→Option ((List (List aa))×Int)) (L4 L5:Int→(List TMp)→Option ((List (List aa))×Int)) (v179:List TMp):Option ((List (List aa))×Int) :=
  gx K n v1 v122 v123 v139 v143 v166 v175 L1 L4 L5 n ((List.getD v143 (v166).toNat default).Col) v179
def gz (K:Kn) (n:Nat) (v1:List (List (V2 Int))) (v122:Int) (v123:List (List aa)) (v139:Int) (v143:List aa) (v166:Int) (L1:Int→Int→(List (List aa))→(List TMp)→Option ((List (List aa))×Int)) (L4 L5:Int→(List TMp)→Option ((List (List aa))×Int)) (v175:Int) (v176:List TMp):Option ((List (List aa))×Int) :=
  (some (decide (v175<(w64 (v122+((List.getD v143 (v166).toNat default).Rows)))))).bind fun v177 =>
  if v177=true then
    chk (inb v175 v176.length) (
    (some (Option.isNone (List.getD v176 (v175).toNat none))).bind fun v178 =>
    if v178=true then
      chk (inb v175 v176.length) (
      ga K n v1 v122 v123 v139 v143 v166 v175 L1 L4 L5 (List.set v176 (v175).toNat (some [])))
    else
      ga K n v1 v122 v123 v139 v143 v166 v175 L1 L4 L5 v176)
  else
    L4 (w64 (v166+1)) v176
def gG (K:Kn) (n:Nat) (v1:List (List (V2 Int))) (v122:Int) (v123:List (List aa)) (v139:Int) (v143:List aa) (v166:Int) (L1:Int→Int→(List (List aa))→(List TMp)→Option ((List (List aa))×Int)) (L4:Int→(List TMp)→Option ((List (List aa))×Int)):Nat→Int→(List TMp)→Option ((List (List aa))×Int)
  | 0=>fun _ _=>none
  | m+1=>gz K n v1 v122 v123 v139 v143 v166 L1 L4 (gG K n v1 v122 v123 v139 v143 v166 L1 L4 m)
def gg (K:Kn) (n:Nat) (v1:List (List (V2 Int))) (v122:Int) (v123:List (List aa)) (v139:Int) (v143:List aa) (L1:Int→Int→(List (List aa))→(List TMp)→Option ((List (List aa))×Int)) (L4:Int→(List TMp)→Option ((List (List aa))×Int)) (v166:Int) (v167:List TMp):Option ((List (List aa))×Int) :=
  if (decide (v166<(v143.length:Int)))=true then
    chk (inb v166 v143.length) (
    gG K n v1 v122 v123 v139 v143 v166 L1 L4 n (w64 (v122+1)) v167)
  else
    chk (fits (v123.length+([v143]:(List (List aa))).length) 24) (
    L1 v139 (w64 (v122+1)) (v123++[v143]) v167)
def gK (K:Kn) (n:Nat) (v1:List (List (V2 Int))) (v122:Int) (v123:List (List aa)) (v139:Int) (v143:List aa) (L1:Int→Int→(List (List aa))→(List TMp)→Option ((List (List aa))×Int)):Nat→Int→(List TMp)→Option ((List (List aa))×Int)
  | 0=>fun _ _=>none
  | m+1=>gg K n v1 v122 v123 v139 v143 L1 (gK K n v1 v122 v123 v139 v143 L1 m)
def fN (K:Kn) (n:Nat) (v1:List (List (V2 Int))) (v122:Int) (v123:List (List aa)) (v124:List TMp) (L1:Int→Int→(List (List aa))→(List TMp)→Option ((List (List aa))×Int)) (L2:Int→Int→Int→Int→(List aa)→Option ((List (List aa))×Int)) (v139 v140 v141 v142:Int) (v143:List aa):Option ((List (List aa))×Int) :=
  if (decide (v142<v141))=true then
    chk (inb v142 (List.getD v1 (v122).toNat default).length) (
    fO K n v1 v122 v123 v124 v139 v141 v142 v143 L1 L2 n v140 (List.getD (List.getD v1 (v122).toNat default) (v142).toNat default))
  else
    gK K n v1 v122 v123 v139 v143 L1 n 0 v124
def fR (K:Kn) (n:Nat) (v1:List (List (V2 Int))) (v122:Int) (v123:List (List aa)) (v124:List TMp) (L1:Int→Int→(List (List aa))→(List TMp)→Option ((List (List aa))×Int)):Nat→Int→Int→Int→Int→(List aa)→Option ((List (List aa))×Int)
  | 0=>fun _ _ _ _ _=>none
  | m+1=>fN K n v1 v122 v123 v124 L1 (fR K n v1 v122 v123 v124 L1 m)
def gk (K:Kn) (n:Nat) (v1:List (List (V2 Int))) (L1:Int→Int→(List (List aa))→(List TMp)→Option ((List (List aa))×Int)) (v121 v122:Int) (v123:List (List aa)) (v124:List TMp):Option ((List (List aa))×Int) :=
  if (decide (v122<(v1.length:Int)))=true then
    chk (inb v122 v1.length) (
    fR K n v1 v122 v123 v124 L1 n v121 0 ((List.getD v1 (v122).toNat default).length:Int) 0 [])
  else
    some (v123,v121)
def fU (K:Kn) (n:Nat) (v1:List (List (V2 Int))):Nat→Int→Int→(List (List aa))→(List TMp)→Option ((List (List aa))×Int)
  | 0=>fun _ _ _ _=>none
  | m+1=>gk K n v1 (fU K n v1 m)
def iK (K:Kn) (n:Nat) (v1:List (List (V2 Int))):Option ((List (List aa))×Int) :=
  chk (mkb (v1.length:Int) 8) (
  (some (List.replicate ((v1.length:Int)).toNat (none:TMp))).bind fun v2 =>
  fU K n v1 n 0 0 [] v2)
def cJ (K:Kn) (n:Nat) (v1:Int):Option Int :=
  some (min (max v1 0) 1048576)
def ff (K:Kn) (n:Nat) (v1 v2:Int):Option Int :=
  some (min (max v1 0) v2)
def dN (K:Kn) (n:Nat) (v2 v3:Int) (v4:Fv) (v11 v15:Int) (v16:List Int) (L1 L2:Int→(List Int)→Option (List Int)) (v18:Bool):Option (List Int) :=
  if v18=true then
    chk (inb (w64 (v15 - 1)) v16.length) (
    chk (inb v15 v16.length) (
    chk (inb v15 v16.length) (
    chk (inb (w64 (v15 - 1)) (List.set v16 (v15).toNat (List.getD v16 ((w64 (v15 - 1))).toNat default)).length) (
    L2 (w64 (v15 - 1)) (List.set (List.set v16 (v15).toNat (List.getD v16 ((w64 (v15 - 1))).toNat default)) ((w64 (v15 - 1))).toNat (List.getD v16 (v15).toNat default))))))
  else
    L1 (w64 (v11+1)) v16
def fG (K:Kn) (n:Nat) (v2 v3:Int) (v4:Fv) (v11:Int) (L1 L2:Int→(List Int)→Option (List Int)) (v15:Int) (v16:List Int):Option (List Int) :=
  if (decide (v15>v2))=true then
    chk (inb v15 v16.length) (
    chk (inb (w64 (v15 - 1)) v16.length) (
    (K.bC v4 (List.getD v16 (v15).toNat default) (List.getD v16 ((w64 (v15 - 1))).toNat default)).bind fun v17 =>
    dN K n v2 v3 v4 v11 v15 v16 L1 L2 (decide (v17<0))))
  else
    dN K n v2 v3 v4 v11 v15 v16 L1 L2 false
def d6 (K:Kn) (n:Nat) (v2 v3:Int) (v4:Fv) (v11:Int) (L1:Int→(List Int)→Option (List Int)):Nat→Int→(List Int)→Option (List Int)
  | 0=>fun _ _=>none
  | m+1=>fG K n v2 v3 v4 v11 L1 (d6 K n v2 v3 v4 v11 L1 m)
def dS (K:Kn) (n:Nat) (v2 v3:Int) (v4:Fv) (L1:Int→(List Int)→Option (List Int)) (v11:Int) (v12:List Int):Option (List Int) :=
  if (decide (v11<v3))=true then
    d6 K n v2 v3 v4 v11 L1 n v11 v12
  else
    some v12
def cN (K:Kn) (n:Nat) (v2 v3:Int) (v4:Fv):Nat→Int→(List Int)→Option (List Int)
  | 0=>fun _ _=>none
  | m+1=>dS K n v2 v3 v4 (cN K n v2 v3 v4 m)
def dJ (K:Kn) (n:Nat) (v1:List Int) (v2 v3:Int) (v4:Fv):Option (List Int) :=
  cN K n v2 v3 v4 n (w64 (v2+1)) v1
def eG (K:Kn) (n:Nat) (v2 v3 v4:Int) (L1:Int→(List Int)→Option (List Int)) (v6:Int) (v7:List Int):Option (List Int) :=
  if (decide (v6<v4))=true then
    chk (inb (w64 (v3+v6)) v7.length) (
    chk (inb (w64 (v2+v6)) v7.length) (
    chk (inb (w64 (v2+v6)) v7.length) (
    chk (inb (w64 (v3+v6)) (List.set v7 ((w64 (v2+v6))).toNat (List.getD v7 ((w64 (v3+v6))).toNat default)).length) (
    L1 (w64 (v6+1)) (List.set (List.set v7 ((w64 (v2+v6))).toNat (List.getD v7 ((w64 (v3+v6))).toNat default)) ((w64 (v3+v6))).toNat (List.getD v7 ((w64 (v2+v6))).toNat default))))))
  else
    some v7
def dU (K:Kn) (n:Nat) (v2 v3 v4:Int):Nat→Int→(List Int)→Option (List Int)
  | 0=>fun _ _=>none
  | m+1=>eG K n v2 v3 v4 (dU K n v2 v3 v4 m)
def dm (K:Kn) (n:Nat) (v1:List Int) (v2 v3 v4:Int) (v5:Fv):Option (List Int) :=
  dU K n v2 v3 v4 n 0 v1
def ex (K:Kn) (n:Nat) (v3:Int) (v5:Fv) (L1:Int→Int→(List Int)→Option (List Int)) (v16 v17:Int) (v18:List Int):Option (List Int) :=
  L1 v16 v17 v18
def eS (K:Kn) (n:Nat) (v3:Int) (v5:Fv) (L1:Int→Int→(List Int)→Option (List Int)) (v11 v12:Int) (v13:List Int):Option (List Int) :=
  if (v11 != v12)=true then
    if (decide (v11>v12))=true then
      (dm K n v13 (w64 (v3 - v11)) v3 v12 v5).bind fun v14 =>
      ex K n v3 v5 L1 (w64 (v11 - v12)) v12 v14
    else
      (dm K n v13 (w64 (v3 - v11)) (w64 ((w64 (v3+v12)) - v11)) v11 v5).bind fun v15 =>
      ex K n v3 v5 L1 v11 (w64 (v12 - v11)) v15
  else
    (dm K n v13 (w64 (v3 - v11)) v3 v11 v5).bind fun v19 =>
    some v19
def eb (K:Kn) (n:Nat) (v3:Int) (v5:Fv):Nat→Int→Int→(List Int)→Option (List Int)
  | 0=>fun _ _ _=>none
  | m+1=>eS K n v3 v5 (eb K n v3 v5 m)
def fA (K:Kn) (n:Nat) (v1:List Int) (v2 v3 v4:Int) (v5:Fv):Option (List Int) :=
  eb K n v3 v5 n (w64 (v3 - v2)) (w64 (v4 - v3)) v1
def fh (K:Kn) (n:Nat) (v1:List Int) (v2:Int) (v5:Fv) (L1:Int→Int→Option (List Int)) (v14 v15:Int):Option (List Int) :=
  L1 v14 v15
def eR (K:Kn) (n:Nat) (v10:Int) (L2:Int→(List Int)→Option (List Int)) (v16:Int) (v17:List Int):Option (List Int) :=
  if (decide (v16<(w64 (v10 - 1))))=true then
    chk (inb (w64 (v16+1)) v17.length) (
    chk (inb v16 v17.length) (
    chk (inb v16 v17.length) (
    chk (inb (w64 (v16+1)) (List.set v17 (v16).toNat (List.getD v17 ((w64 (v16+1))).toNat default)).length) (
    L2 (w64 (v16+1)) (List.set (List.set v17 (v16).toNat (List.getD v17 ((w64 (v16+1))).toNat default)) ((w64 (v16+1))).toNat (List.getD v17 (v16).toNat default))))))
  else
    some v17
def de (K:Kn) (n:Nat) (v10:Int):Nat→Int→(List Int)→Option (List Int)
  | 0=>fun _ _=>none
  | m+1=>eR K n v10 (de K n v10 m)
def fH (K:Kn) (n:Nat) (v1:List Int) (v2:Int) (v5:Fv) (L1:Int→Int→Option (List Int)) (v10 v11:Int):Option (List Int) :=
  if (decide (v10<v11))=true then
    (some (w64 ((IntKind.wrap .u64 (w64 (v10+v11))) / 2))).bind fun v12 =>
    chk (inb v12 v1.length) (
    chk (inb v2 v1.length) (
    (K.bC v5 (List.getD v1 (v12).toNat default) (List.getD v1 (v2).toNat default)).bind fun v13 =>
    if (decide (v13<0))=true then
      fh K n v1 v2 v5 L1 (w64 (v12+1)) v11
    else
      fh K n v1 v2 v5 L1 v10 v12))
  else
    de K n v10 n v2 v1
def dF (K:Kn) (n:Nat) (v1:List Int) (v2:Int) (v5:Fv):Nat→Int→Int→Option (List Int)
  | 0=>fun _ _=>none
  | m+1=>fH K n v1 v2 v5 (dF K n v1 v2 v5 m)
def ft (K:Kn) (n:Nat) (v1:List Int) (v3:Int) (v5:Fv) (L3:Int→Int→Option (List Int)) (v26 v27:Int):Option (List Int) :=
  L3 v26 v27
def fb (K:Kn) (n:Nat) (v22:Int) (L4:Int→(List Int)→Option (List Int)) (v28:Int) (v29:List Int):Option (List Int) :=
  if (decide (v28>v22))=true then
    chk (inb (w64 (v28 - 1)) v29.length) (
    chk (inb v28 v29.length) (
    chk (inb v28 v29.length) (
    chk (inb (w64 (v28 - 1)) (List.set v29 (v28).toNat (List.getD v29 ((w64 (v28 - 1))).toNat default)).length) (
    L4 (w64 (v28 - 1)) (List.set (List.set v29 (v28).toNat (List.getD v29 ((w64 (v28 - 1))).toNat default)) ((w64 (v28 - 1))).toNat (List.getD v29 (v28).toNat default))))))
  else
    some v29
def c9 (K:Kn) (n:Nat) (v22:Int):Nat→Int→(List Int)→Option (List Int)
  | 0=>fun _ _=>none
  | m+1=>fb K n v22 (c9 K n v22 m)
def fJ (K:Kn) (n:Nat) (v1:List Int) (v3:Int) (v5:Fv) (L3:Int→Int→Option (List Int)) (v22 v23:Int):Option (List Int) :=
  if (decide (v22<v23))=true then
    (some (w64 ((IntKind.wrap .u64 (w64 (v22+v23))) / 2))).bind fun v24 =>
    chk (inb v3 v1.length) (
    chk (inb v24 v1.length) (
    (K.bC v5 (List.getD v1 (v3).toNat default) (List.getD v1 (v24).toNat default)).bind fun v25 =>
    if (!(decide (v25<0)))=true then
      ft K n v1 v3 v5 L3 (w64 (v24+1)) v23
    else
      ft K n v1 v3 v5 L3 v22 v24))
  else
    c9 K n v22 n v3 v1
def ez (K:Kn) (n:Nat) (v1:List Int) (v3:Int) (v5:Fv):Nat→Int→Int→Option (List Int)
  | 0=>fun _ _=>none
  | m+1=>fJ K n v1 v3 v5 (ez K n v1 v3 v5 m)
def eX (K:Kn) (n:Nat) (v1:List Int) (v2 v3 v4:Int) (v5:Fv) (v30 v31:Int) (L5:Int→Int→Option (List Int)) (v43 v44:Int):Option (List Int) :=
  L5 v43 v44
def eN (K:Kn) (n:Nat) (v53:List Int):Option (List Int) :=
  some v53
def dD (K:Kn) (n:Nat) (v4:Int) (v5:Fv) (v30 v31 v39:Int) (v50:List Int) (v51:Bool):Option (List Int) :=
  if v51=true then
    (K.ce v50 v30 (w64 (v31 - v39)) v4 v5).bind fun v52 =>
    eN K n v52
  else
    eN K n v50
def cA (K:Kn) (n:Nat) (v4:Int) (v5:Fv) (v30 v31 v39:Int) (v50:List Int):Option (List Int) :=
  if (decide (v30<(w64 (v31 - v39))))=true then
    dD K n v4 v5 v30 v31 v39 v50 (decide ((w64 (v31 - v39))<v4))
  else
    dD K n v4 v5 v30 v31 v39 v50 false
def dT (K:Kn) (n:Nat) (v2 v4:Int) (v5:Fv) (v30 v31 v39:Int) (v47:List Int) (v48:Bool):Option (List Int) :=
  if v48=true then
    (K.ce v47 v2 v39 v30 v5).bind fun v49 =>
    cA K n v4 v5 v30 v31 v39 v49
  else
    cA K n v4 v5 v30 v31 v39 v47
def dt (K:Kn) (n:Nat) (v2 v4:Int) (v5:Fv) (v30 v31 v39:Int) (v47:List Int):Option (List Int) :=
  if (decide (v2<v39))=true then
    dT K n v2 v4 v5 v30 v31 v39 v47 (decide (v39<v30))
  else
    dT K n v2 v4 v5 v30 v31 v39 v47 false
def bT (K:Kn) (n:Nat) (v1:List Int) (v2 v3 v4:Int) (v5:Fv) (v30 v31 v39:Int) (v45:Bool):Option (List Int) :=
  if v45=true then
    (fA K n v1 v39 v3 (w64 (v31 - v39)) v5).bind fun v46 =>
    dt K n v2 v4 v5 v30 v31 v39 v46
  else
    dt K n v2 v4 v5 v30 v31 v39 v1
def eO (K:Kn) (n:Nat) (v1:List Int) (v2 v3 v4:Int) (v5:Fv) (v30 v31:Int) (L5:Int→Int→Option (List Int)) (v39 v40:Int):Option (List Int) :=
  if (decide (v39<v40))=true then
    (some (w64 ((IntKind.wrap .u64 (w64 (v39+v40))) / 2))).bind fun v41 =>
    chk (inb (w64 ((w64 (v31 - 1)) - v41)) v1.length) (
    chk (inb v41 v1.length) (
    (K.bC v5 (List.getD v1 ((w64 ((w64 (v31 - 1)) - v41))).toNat default) (List.getD v1 (v41).toNat default)).bind fun v42 =>
    if (!(decide (v42<0)))=true then
      eX K n v1 v2 v3 v4 v5 v30 v31 L5 (w64 (v41+1)) v40
    else
      eX K n v1 v2 v3 v4 v5 v30 v31 L5 v39 v41))
  else
    if (decide (v39<v3))=true then
      bT K n v1 v2 v3 v4 v5 v30 v31 v39 (decide (v3<(w64 (v31 - v39))))
    else
      bT K n v1 v2 v3 v4 v5 v30 v31 v39 false
def dn (K:Kn) (n:Nat) (v1:List Int) (v2 v3 v4:Int) (v5:Fv) (v30 v31:Int):Nat→Int→Int→Option (List Int)
  | 0=>fun _ _=>none
  | m+1=>eO K n v1 v2 v3 v4 v5 v30 v31 (dn K n v1 v2 v3 v4 v5 v30 v31 m)
def dV (K:Kn) (n:Nat) (v1:List Int) (v2 v3 v4:Int) (v5:Fv) (v30 v31 v33 v34:Int):Option (List Int) :=
  dn K n v1 v2 v3 v4 v5 v30 v31 n v33 v34
def b6 (K:Kn) (n:Nat) (v1:List Int) (v2 v3 v4:Int) (v5:Fv):Option (List Int) :=
  if ((w64 (v3 - v2)) == 1)=true then
    dF K n v1 v2 v5 n v3 v4
  else
    if ((w64 (v4 - v3)) == 1)=true then
      ez K n v1 v3 v5 n v2 v3
    else
      (some (w64 ((IntKind.wrap .u64 (w64 (v2+v4))) / 2))).bind fun v30 =>
      (some (w64 ((w64 ((IntKind.wrap .u64 (w64 (v2+v4))) / 2))+v3))).bind fun v31 =>
      (some (decide (v3>(w64 ((IntKind.wrap .u64 (w64 (v2+v4))) / 2))))).bind fun v32 =>
      if v32=true then
        dV K n v1 v2 v3 v4 v5 v30 v31 (w64 (v31 - v4)) v30
      else
        dV K n v1 v2 v3 v4 v5 v30 v31 v2 v3
def e9 (K:Kn) (n:Nat) (v2:Int) (v3:Fv) (v17:Int) (L2:Int→(List Int)→Option (List Int)) (v25:List Int):Option (List Int) :=
  L2 (w64 (v17*2)) v25
def fF (K:Kn) (n:Nat) (v2:Int) (v3:Fv) (v17:Int) (L2:Int→(List Int)→Option (List Int)) (L3:Int→Int→(List Int)→Option (List Int)) (v20 v21:Int) (v22:List Int):Option (List Int) :=
  if (decide (v21≤v2))=true then
    (b6 K n v22 v20 (w64 (v20+v17)) v21 v3).bind fun v23 =>
    L3 v21 (w64 (v21+(w64 (2*v17)))) v23
  else
    if (decide ((w64 (v20+v17))<v2))=true then
      (b6 K n v22 v20 (w64 (v20+v17)) v2 v3).bind fun v24 =>
      e9 K n v2 v3 v17 L2 v24
    else
      e9 K n v2 v3 v17 L2 v22
def dQ (K:Kn) (n:Nat) (v2:Int) (v3:Fv) (v17:Int) (L2:Int→(List Int)→Option (List Int)):Nat→Int→Int→(List Int)→Option (List Int)
  | 0=>fun _ _ _=>none
  | m+1=>fF K n v2 v3 v17 L2 (dQ K n v2 v3 v17 L2 m)
def eJ (K:Kn) (n:Nat) (v2:Int) (v3:Fv) (L2:Int→(List Int)→Option (List Int)) (v17:Int) (v18:List Int):Option (List Int) :=
  if (decide (v17<v2))=true then
    dQ K n v2 v3 v17 L2 n 0 (w64 (2*v17)) v18
  else
    some v18
def cR (K:Kn) (n:Nat) (v2:Int) (v3:Fv):Nat→Int→(List Int)→Option (List Int)
  | 0=>fun _ _=>none
  | m+1=>eJ K n v2 v3 (cR K n v2 v3 m)
def eY (K:Kn) (n:Nat) (v2:Int) (v3:Fv) (L1:Int→Int→(List Int)→Option (List Int)) (v5 v6:Int) (v7:List Int):Option (List Int) :=
  if (decide (v6≤v2))=true then
    (dJ K n v7 v5 v6 v3).bind fun v8 =>
    L1 v6 (w64 (v6+20)) v8
  else
    (dJ K n v7 v5 v2 v3).bind fun v9 =>
    cR K n v2 v3 n 20 v9
def dW (K:Kn) (n:Nat) (v2:Int) (v3:Fv):Nat→Int→Int→(List Int)→Option (List Int)
  | 0=>fun _ _ _=>none
  | m+1=>eY K n v2 v3 (dW K n v2 v3 m)
def gL (K:Kn) (n:Nat) (v1:List Int) (v2:Int) (v3:Fv):Option (List Int) :=
  dW K n v2 v3 n 0 20 v1
def cV (K:Kn) (n:Nat) (v1:List Int) (v2:Fv):Option (List Int) :=
  (gL K n v1 (v1.length:Int) v2).bind fun v3 =>
  some v3
def fy (K:Kn) (n:Nat) (v1:Int):Option Bool :=
  some (v1 != v1)
def e8 (K:Kn) (n:Nat) (v1 v2:Int):Option Int :=
  (fy K n v1).bind fun v3 =>
  (fy K n v2).bind fun v4 =>
  if v3=true then
    if v4=true then
      some 0
    else
      some (-1)
  else
    if v4=true then
      some 1
    else
      if (decide (v1<v2))=true then
        some (-1)
      else
        if (decide (v1>v2))=true then
          some 1
        else
          some 0
def gT (K:Kn) (n:Nat) (v1 v2:Int) (v3:List Int):Option Int :=
  chk (inb v2 v3.length) (
  chk (inb v1 v3.length) (
  (e8 K n (List.getD v3 (v2).toNat default) (List.getD v3 (v1).toNat default)).bind fun v4 =>
  some v4))
def gb (K:Kn) (n:Nat) (L3:(List Int)→Int→Int→(List Int)→Option (List Int)) (v26:List Int) (v27 v28:Int) (v29:List Int):Option (List Int) :=
  if (decide (v28<v27))=true then
    chk (inb v28 v26.length) (
    chk (inb (List.getD v26 (v28).toNat default) v29.length) (
    chk (inb (List.getD v26 (v28).toNat default) v29.length) (
    L3 v26 v27 (w64 (v28+1)) (List.set v29 ((List.getD v26 (v28).toNat default)).toNat (w64 ((List.getD v29 ((List.getD v26 (v28).toNat default)).toNat default)+1))))))
  else
    some v29
def gj (K:Kn) (n:Nat):Nat→(List Int)→Int→Int→(List Int)→Option (List Int)
  | 0=>fun _ _ _ _=>none
  | m+1=>gb K n (gj K n m)
def gE (K:Kn) (n:Nat) (v2:List Int) (v3 v8:Int) (L2:Int→Int→(List Int)→(List Int)→(List Int)→Option (List Int)) (v14 v15:Int) (v16 v17 v18:List Int):Option (List Int) :=
  if (decide (v15<(v2.length:Int)))=true then
    chk (inb v15 v2.length) (
    (ff K n (List.getD v2 (v15).toNat default) 2147483647).bind fun v19 =>
    chk ((v8 != 0)) (
    chk ((v8 != 0)) (
    chk (inb v15 v16.length) (
    chk (inb v15 v17.length) (
    chk (inb v15 v18.length) (
    (some (List.set v16 (v15).toNat (w64 (Int.tdiv (w64 (v3*v19)) v8)))).bind fun v20 =>
    (some (List.set v17 (v15).toNat (Int.tmod (w64 (v3*v19)) v8))).bind fun v21 =>
    chk (inb v15 v20.length) (
    L2 (w64 (v14 - (List.getD v20 (v15).toNat default))) (w64 (v15+1)) v20 v21 (List.set v18 (v15).toNat v15))))))))
  else
    (cV K n v18 (Fv.c59 v17)).bind fun v22 =>
    chk (slb (0:Int) v14 v22.length) (
    gj K n n (List.drop ((0:Int)).toNat (List.take (v14).toNat v22)) ((List.drop ((0:Int)).toNat (List.take (v14).toNat v22)).length:Int) 0 v16)
def gH (K:Kn) (n:Nat) (v2:List Int) (v3 v8:Int):Nat→Int→Int→(List Int)→(List Int)→(List Int)→Option (List Int)
  | 0=>fun _ _ _ _ _=>none
  | m+1=>gE K n v2 v3 v8 (gH K n v2 v3 v8 m)
def gw (K:Kn) (n:Nat) (v2:List Int) (v3:Int) (v4 v5 v6:List Int) (L1:Int→Int→Option (List Int)) (v8 v9:Int):Option (List Int) :=
  if (decide (v9<(v2.length:Int)))=true then
    chk (inb v9 v2.length) (
    (ff K n (List.getD v2 (v9).toNat default) 2147483647).bind fun v10 =>
    L1 (w64 (v8+v10)) (w64 (v9+1)))
  else
    if (v8 == 0)=true then
      some v4
    else
      gH K n v2 v3 v8 n v3 0 v4 v5 v6
def gi (K:Kn) (n:Nat) (v2:List Int) (v3:Int) (v4 v5 v6:List Int):Nat→Int→Int→Option (List Int)
  | 0=>fun _ _=>none
  | m+1=>gw K n v2 v3 v4 v5 v6 (gi K n v2 v3 v4 v5 v6 m)
def gl (K:Kn) (n:Nat) (v1:Int) (v2:List Int):Option (List Int) :=
  (ff K n v1 2147483647).bind fun v3 =>
  chk (mkb (v2.length:Int) 8) (
  (some (List.replicate ((v2.length:Int)).toNat (0:Int))).bind fun v4 =>
  chk (mkb (v2.length:Int) 8) (
  (some (List.replicate ((v2.length:Int)).toNat (0:Int))).bind fun v5 =>
  chk (mkb (v2.length:Int) 8) (
  (some (List.replicate ((v2.length:Int)).toNat (0:Int))).bind fun v6 =>
  gi K n v2 v3 v4 v5 v6 n 0 0)))
def fP (K:Kn) (n:Nat) (v1:List Int) (v2:Fv) (L1:Int→Option Int) (v4:Int):Option Int :=
  if (decide (v4<(v1.length:Int)))=true then
    chk (inb v4 v1.length) (
    (K.gf v2 (List.getD v1 (v4).toNat default)).bind fun v5 =>
    if v5=true then
      some v4
    else
      L1 (w64 (v4+1)))
  else
    some (-1)
def fT (K:Kn) (n:Nat) (v1:List Int) (v2:Fv):Nat→Int→Option Int
  | 0=>fun _=>none
  | m+1=>fP K n v1 v2 (fT K n v1 v2 m)
def gZ (K:Kn) (n:Nat) (v1:List Int) (v2:Fv):Option Int :=
  fT K n v1 v2 n 0
def iz (K:Kn) (n:Nat) (v1:List Int) (v2:Fv):Option Bool :=
  (gZ K n v1 v2).bind fun v3 =>
  some (decide (v3≥0))
def hI (K:Kn) (n:Nat) (v1 v2:Int):Option (Int×Int) :=
  some ((IntKind.wrap .u64 ((IntKind.wrap .u64 ((IntKind.wrap .u64 ((v1 / 4294967296)*(v2 / 4294967296)))+((IntKind.wrap .u64 ((IntKind.wrap .u64 ((v1 / 4294967296)*(iand .u64 v2 4294967295)))+((IntKind.wrap .u64 ((iand .u64 v1 4294967295)*(iand .u64 v2 4294967295))) / 4294967296))) / 4294967296)))+((IntKind.wrap .u64 ((iand .u64 (IntKind.wrap .u64 ((IntKind.wrap .u64 ((v1 / 4294967296)*(iand .u64 v2 4294967295)))+((IntKind.wrap .u64 ((iand .u64 v1 4294967295)*(iand .u64 v2 4294967295))) / 4294967296))) 4294967295)+(IntKind.wrap .u64 ((iand .u64 v1 4294967295)*(v2 / 4294967296))))) / 4294967296))),(IntKind.wrap .u64 (v1*v2)))
def g7 (K:Kn) (n:Nat) (v1 v2:Int):Option (Int×Int) :=
  (hI K n v1 v2).bind fun v3 =>
  some (v3.1,v3.2)
def gm (K:Kn) (n:Nat) (L1:Int→(List Int)→Option (List Int)) (v7:Int) (v8:List Int):Option (List Int) :=
  if (decide (v7<(v8.length:Int)))=true then
    chk (slb v7 (v8.length:Int) v8.length) (
    chk (slb (0:Int) v7 v8.length) (
    chk (cpb ((v7).toNat) (((v8.length:Int)).toNat - (v7).toNat) v8.length ((0:Int).toNat) ((v7).toNat - (0:Int).toNat) v8.length) (
    L1 (w64 (v7+((min ((v7).toNat - (0:Int).toNat) (((v8.length:Int)).toNat - (v7).toNat):Nat):Int))) (cpy v8 ((v7).toNat) (((v8.length:Int)).toNat - (v7).toNat) v8 ((0:Int).toNat) ((v7).toNat - (0:Int).toNat)))))
  else
    some v8
def gF (K:Kn) (n:Nat):Nat→Int→(List Int)→Option (List Int)
  | 0=>fun _ _=>none
  | m+1=>gm K n (gF K n m)
def gp (K:Kn) (n:Nat) (v1:List Int) (v3:Int×Int) (v4:Bool):Option (List Int) :=
  if v4=true then
    none
  else
    chk (mkb (w64 v3.2) 8) (
    (some (List.replicate ((w64 v3.2)).toNat (0:Int))).bind fun v5 =>
    chk (cpb 0 v5.length v5.length 0 v1.length v1.length) (
    gF K n n ((min v1.length v5.length:Nat):Int) (cpy v5 0 v5.length v1 0 v1.length)))
def iv (K:Kn) (n:Nat) (v1:List Int) (v2:Int):Option (List Int) :=
  if (decide (v2<0))=true then
    none
  else
    (g7 K n (IntKind.wrap .u64 (v1.length:Int)) (IntKind.wrap .u64 v2)).bind fun v3 =>
    if (decide (v3.1>0))=true then
      gp K n v1 v3 true
    else
      gp K n v1 v3 (decide (v3.2>9223372036854775807))
def gJ (K:Kn) (n:Nat) (v1:Int) (v5:List Int):Option (List Int) :=
  (gl K n v1 v5).bind fun v6 =>
  some v6
def iC (K:Kn) (n:Nat) (v1:Int) (v2:List Int):Option (List Int) :=
  (iz K n v2 (Fv.fn 62)).bind fun v3 =>
  if (!v3)=true then
    (iv K n [1] (v2.length:Int)).bind fun v4 =>
    gJ K n v1 v4
  else
    gJ K n v1 v2
def gr (K:Kn) (n:Nat) (v27:List Int) (L2:Int→(List Int)→Option (List Int)) (v28:Int) (v29:List Int):Option (List Int) :=
  if (decide (v28<(v27.length:Int)))=true then
    chk (inb v28 v27.length) (
    chk (inb v28 v29.length) (
    chk (inb v28 v29.length) (
    L2 (w64 (v28+1)) (List.set v29 (v28).toNat (w64 ((List.getD v29 (v28).toNat default)+(List.getD v27 (v28).toNat default)))))))
  else
    some v29
def gA (K:Kn) (n:Nat) (v27:List Int):Nat→Int→(List Int)→Option (List Int)
  | 0=>fun _ _=>none
  | m+1=>gr K n v27 (gA K n v27 m)
def fZ (K:Kn) (n:Nat) (v26 v27:List Int):Option (List Int) :=
  gA K n v27 n 0 v26
def go (K:Kn) (n:Nat) (v1:List bO) (v2:Int) (L1:Int→Int→Int→(List Int)→(List Int)→(List Int)→Option (List Int)) (v11 v12 v13:Int) (v14 v15 v16:List Int):Option (List Int) :=
  if (decide (v13<(v1.length:Int)))=true then
    chk (inb v13 v1.length) (
    (cJ K n ((List.getD v1 (v13).toNat default).Least)).bind fun v17 =>
    chk (inb v13 v14.length) (
    (cJ K n ((List.getD v1 (v13).toNat default).Most)).bind fun v18 =>
    chk (inb v13 (List.set v14 (v13).toNat v17).length) (
    chk (inb v13 v15.length) (
    (some (List.set v15 (v13).toNat (max v18 (List.getD (List.set v14 (v13).toNat v17) (v13).toNat default)))).bind fun v19 =>
    chk (inb v13 v19.length) (
    chk (inb v13 (List.set v14 (v13).toNat v17).length) (
    chk (inb v13 v16.length) (
    (some (List.set v16 (v13).toNat (w64 ((List.getD v19 (v13).toNat default) - (List.getD (List.set v14 (v13).toNat v17) (v13).toNat default))))).bind fun v20 =>
    chk (inb v13 (List.set v14 (v13).toNat v17).length) (
    (some (w64 (v11+(List.getD (List.set v14 (v13).toNat v17) (v13).toNat default)))).bind fun v21 =>
    chk (inb v13 v19.length) (
    L1 v21 (w64 (v12+(List.getD v19 (v13).toNat default))) (w64 (v13+1)) (List.set v14 (v13).toNat v17) v19 v20)))))))))
  else
    if (decide (v2≤v11))=true then
      some v14
    else
      if (decide (v2<v12))=true then
        (cJ K n (w64 (v2 - v11))).bind fun v22 =>
        (gl K n v22 v16).bind fun v23 =>
        fZ K n v14 v23
      else
        (cJ K n (w64 (v2 - v12))).bind fun v24 =>
        (iC K n v24 v15).bind fun v25 =>
        fZ K n v15 v25
def gP (K:Kn) (n:Nat) (v1:List bO) (v2:Int):Nat→Int→Int→Int→(List Int)→(List Int)→(List Int)→Option (List Int)
  | 0=>fun _ _ _ _ _ _=>none
  | m+1=>go K n v1 v2 (gP K n v1 v2 m)
def g8 (K:Kn) (n:Nat) (v1:List bO) (v2:Int):Option (List Int) :=
  chk (mkb (v1.length:Int) 8) (
  (some (List.replicate ((v1.length:Int)).toNat (0:Int))).bind fun v3 =>
  chk (mkb (v1.length:Int) 8) (
  (some (List.replicate ((v1.length:Int)).toNat (0:Int))).bind fun v4 =>
  chk (mkb (v1.length:Int) 8) (
  (some (List.replicate ((v1.length:Int)).toNat (0:Int))).bind fun v5 =>
  gP K n v1 v2 n 0 0 0 v3 v4 v5)))
def cC (K:Kn) (n:Nat) (v3:Bool):Option Bool :=
  some v3
def fq (K:Kn) (n:Nat):Option Bool :=
  (iK K n [[⟨2,1⟩,⟨1,1⟩],[⟨1,1⟩]]).bind fun v1 =>
  (g8 K n [(⟨10,30⟩:bO),(⟨20,40⟩:bO)] 50).bind fun v2 =>
  if (v1.2 == 2)=true then
    if ((v1.1.length:Int) == 2)=true then
      chk (inb (1:Int) v1.1.length) (
      if (((List.getD v1.1 (1:Int).toNat default).length:Int) == 1)=true then
        chk (inb (1:Int) v1.1.length) (
        chk (inb (0:Int) (List.getD v1.1 (1:Int).toNat default).length) (
        if (qTTablePlace (List.getD (List.getD v1.1 (1:Int).toNat default) (0:Int).toNat default) (⟨1,1,1,1⟩:aa))=true then
          if ((v2.length:Int) == 2)=true then
            chk (inb (0:Int) v2.length) (
            if ((List.getD v2 (0:Int).toNat default) == 20)=true then
              chk (inb (1:Int) v2.length) (
              cC K n ((List.getD v2 (1:Int).toNat default) == 30))
            else
              cC K n false)
          else
            cC K n false
        else
          cC K n false))
      else
        cC K n false)
    else
      cC K n false
  else
    cC K n false
def fW (K:Kn) (n:Nat) (v1:Int):Option Int :=
  some (min (max v1 0) 1048576)
def eP (K:Kn) (n:Nat) (v1:List aa) (v2 v11 v16 v17:Int) (L1:Int→Option Bool) (L2:Int→Int→Option Bool) (v19:Bool):Option Bool :=
  if v19=true then
    some false
  else
    L2 v16 (w64 (v17+1))
def fw (K:Kn) (n:Nat) (v1:List aa) (v2 v11:Int) (L1:Int→Option Bool) (L2:Int→Int→Option Bool) (v16 v17:Int):Option Bool :=
  if (decide (v17<v16))=true then
    chk (inb v17 ([(List.getD v1 (v11).toNat default).Row,(List.getD v1 (v11).toNat default).Col,(List.getD v1 (v11).toNat default).Rows,(List.getD v1 (v11).toNat default).Cols]:List Int).length) (
    (some (List.getD ([(List.getD v1 (v11).toNat default).Row,(List.getD v1 (v11).toNat default).Col,(List.getD v1 (v11).toNat default).Rows,(List.getD v1 (v11).toNat default).Cols]:List Int) (v17).toNat default)).bind fun v18 =>
    if (decide (v18<(-1048576)))=true then
      eP K n v1 v2 v11 v16 v17 L1 L2 true
    else
      eP K n v1 v2 v11 v16 v17 L1 L2 (decide (v18>1048576)))
  else
    L1 (w64 (v11+1))
def dr (K:Kn) (n:Nat) (v1:List aa) (v2 v11:Int) (L1:Int→Option Bool):Nat→Int→Int→Option Bool
  | 0=>fun _ _=>none
  | m+1=>fw K n v1 v2 v11 L1 (dr K n v1 v2 v11 L1 m)
def eW (K:Kn) (n:Nat) (v20:Bool):Option Bool :=
  some v20
def fa (K:Kn) (n:Nat) (v1:List aa) (v2:Int) (L1:Int→Option Bool) (v11:Int):Option Bool :=
  if (decide (v11<(v1.length:Int)))=true then
    chk (inb v11 v1.length) (
    dr K n v1 v2 v11 L1 n (([(List.getD v1 (v11).toNat default).Row,(List.getD v1 (v11).toNat default).Col,(List.getD v1 (v11).toNat default).Rows,(List.getD v1 (v11).toNat default).Cols]:List Int).length:Int) 0)
  else
    if (decide ((v1.length:Int)≤30))=true then
      eW K n (decide (v2≤30))
    else
      eW K n false
def c6 (K:Kn) (n:Nat) (v1:List aa) (v2:Int):Nat→Int→Option Bool
  | 0=>fun _=>none
  | m+1=>fa K n v1 v2 (c6 K n v1 v2 m)
def fL (K:Kn) (n:Nat) (v1:List aa) (v2:Int):Option Bool :=
  c6 K n v1 v2 n 0
def eK (K:Kn) (n:Nat) (v3:Bool):Option Bool :=
  some v3
def eU (K:Kn) (n:Nat) (v1:aa) (v2:Int):Option Bool :=
  if (decide (v1.Row<v2))=true then
    eK K n (decide (v1.Rows≤(w64 (v2 - v1.Row))))
  else
    eK K n false
def fB (K:Kn) (n:Nat) (v1 v2:Int) (v3:Fv) (v4:List aa):Option Int :=
  chk (inb v1 v4.length) (
  (K.cf v3 (List.getD v4 (v1).toNat default)).bind fun v5 =>
  chk (inb v2 v4.length) (
  (K.cf v3 (List.getD v4 (v2).toNat default)).bind fun v6 =>
  (e8 K n v5 v6).bind fun v7 =>
  some v7))
def ek (K:Kn) (n:Nat) (v1:List aa) (v2:Int) (v3 v4:Fv) (v11:Int) (L1:Int→(List Int)→Option (List Int)) (v15:List Int):Option (List Int) :=
  L1 (w64 (v11+1)) v15
def bZ (K:Kn) (n:Nat) (v1:List aa) (v2:Int) (v3 v4:Fv) (v11:Int) (v12:List Int) (L1:Int→(List Int)→Option (List Int)) (v14:Bool):Option (List Int) :=
  if v14=true then
    chk (fits (v12.length+([v11]:(List Int)).length) 8) (
    ek K n v1 v2 v3 v4 v11 L1 (v12++[v11]))
  else
    ek K n v1 v2 v3 v4 v11 L1 v12
def eQ (K:Kn) (n:Nat) (v1:List aa) (v2:Int) (v3 v4:Fv) (L1:Int→(List Int)→Option (List Int)) (v11:Int) (v12:List Int):Option (List Int) :=
  if (decide (v11<(v1.length:Int)))=true then
    chk (inb v11 v1.length) (
    if (decide (v11<v2))=true then
      if (decide (((List.getD v1 (v11).toNat default).Row)≥0))=true then
        if (decide (((List.getD v1 (v11).toNat default).Col)≥0))=true then
          if (decide (((List.getD v1 (v11).toNat default).Rows)≥1))=true then
            if (decide (((List.getD v1 (v11).toNat default).Cols)≥1))=true then
              (K.ee v3 (List.getD v1 (v11).toNat default)).bind fun v13 =>
              bZ K n v1 v2 v3 v4 v11 v12 L1 v13
            else
              bZ K n v1 v2 v3 v4 v11 v12 L1 false
          else
            bZ K n v1 v2 v3 v4 v11 v12 L1 false
        else
          bZ K n v1 v2 v3 v4 v11 v12 L1 false
      else
        bZ K n v1 v2 v3 v4 v11 v12 L1 false
    else
      bZ K n v1 v2 v3 v4 v11 v12 L1 false)
  else
    (cV K n v12 (Fv.c65 v4 v1)).bind fun v16 =>
    some v16
def di (K:Kn) (n:Nat) (v1:List aa) (v2:Int) (v3 v4:Fv):Nat→Int→(List Int)→Option (List Int)
  | 0=>fun _ _=>none
  | m+1=>eQ K n v1 v2 v3 v4 (di K n v1 v2 v3 v4 m)
def fE (K:Kn) (n:Nat) (v1:List aa) (v2:Int) (v3 v4:Fv):Option (List Int) :=
  di K n v1 v2 v3 v4 n 0 []
def fl (K:Kn) (n:Nat) (v1:List Int) (L1:Int→Int→Option Int) (v2 v3:Int):Option Int :=
  if (decide (v3<(v1.length:Int)))=true then
    chk (inb v3 v1.length) (
    L1 (w64 (v2+(List.getD v1 (v3).toNat default))) (w64 (v3+1)))
  else
    some v2
def eC (K:Kn) (n:Nat) (v1:List Int):Nat→Int→Int→Option Int
  | 0=>fun _ _=>none
  | m+1=>fl K n v1 (eC K n v1 m)
def fi (K:Kn) (n:Nat) (v1:List Int):Option Int :=
  eC K n v1 n 0 0
def dC (K:Kn) (n:Nat) (v1:List aa) (v2 v5:List Int) (v10:Int) (L1:Int→(List Int)→Option (List Int)) (v15:List Int):Option (List Int) :=
  L1 (w64 (v10+1)) v15
def eD (K:Kn) (n:Nat) (v1:List aa) (v2 v5:List Int) (L1:Int→(List Int)→Option (List Int)) (v10:Int) (v11:List Int):Option (List Int) :=
  if (decide (v10<(v5.length:Int)))=true then
    chk (inb v10 v5.length) (
    chk (inb (List.getD v5 (v10).toNat default) v1.length) (
    chk (inb (List.getD v5 (v10).toNat default) v2.length) (
    (cJ K n (List.getD v2 ((List.getD v5 (v10).toNat default)).toNat default)).bind fun v12 =>
    (some (List.getD v1 ((List.getD v5 (v10).toNat default)).toNat default)).bind fun v13 =>
    chk (slb v13.Row (w64 (v13.Row+v13.Rows)) v11.length) (
    if (v13.Rows == 1)=true then
      chk (inb (0:Int) (((w64 (v13.Row+v13.Rows))).toNat - (v13.Row).toNat)) (
      chk (decide (((v13.Row).toNat+(0:Int).toNat)<v11.length)) (
      chk (inb (0:Int) (((w64 (v13.Row+v13.Rows))).toNat - (v13.Row).toNat)) (
      dC K n v1 v2 v5 v10 L1 (List.set v11 ((v13.Row).toNat+(0:Int).toNat) (max (List.getD v11 ((v13.Row).toNat+(0:Int).toNat) default) v12)))))
    else
      chk (inb (w64 (v13.Rows - 1)) (((w64 (v13.Row+v13.Rows))).toNat - (v13.Row).toNat)) (
      chk (decide (((v13.Row).toNat+((w64 (v13.Rows - 1))).toNat)<v11.length)) (
      (fi K n (List.take (((w64 (v13.Row+v13.Rows))).toNat - (v13.Row).toNat) (List.drop ((v13.Row).toNat) v11))).bind fun v14 =>
      chk (decide (((v13.Row).toNat)+(((w64 (v13.Row+v13.Rows))).toNat - (v13.Row).toNat)≤v11.length)) (
      chk (inb (w64 (v13.Rows - 1)) (((w64 (v13.Row+v13.Rows))).toNat - (v13.Row).toNat)) (
      dC K n v1 v2 v5 v10 L1 (List.set v11 ((v13.Row).toNat+((w64 (v13.Rows - 1))).toNat) (w64 ((List.getD v11 ((v13.Row).toNat+((w64 (v13.Rows - 1))).toNat) default)+(max (w64 (v12 - v14)) 0))))))))))))
  else
    some v11
def eu (K:Kn) (n:Nat) (v1:List aa) (v2 v5:List Int):Nat→Int→(List Int)→Option (List Int)
  | 0=>fun _ _=>none
  | m+1=>eD K n v1 v2 v5 (eu K n v1 v2 v5 m)
def fz (K:Kn) (n:Nat) (v1:List aa) (v2:List Int) (v3:Int):Option (List Int) :=
  chk (mkb (max v3 0) 8) (
  (some (List.replicate ((max v3 0)).toNat (0:Int))).bind fun v4 =>
  (fE K n v1 (v2.length:Int) (Fv.c31 (max v3 0)) (Fv.fn 33)).bind fun v5 =>
  eu K n v1 v2 v5 n 0 v4)
def fV (K:Kn) (n:Nat) (v1:Int):Option Int :=
  some (min (max v1 0) 1048576)
def cW (K:Kn) (n:Nat) (v4:Bool):Option Bool :=
  some v4
def eV (K:Kn) (n:Nat) (v1 v2 v3:Int):Option Bool :=
  if (decide (v1≥0))=true then
    if (decide (v2≥1))=true then
      if (decide (v1<v3))=true then
        cW K n (decide (v2≤(w64 (v3 - v1))))
      else
        cW K n false
    else
      cW K n false
  else
    cW K n false
def dE (K:Kn) (n:Nat) (v1:List aa) (v2:List Int) (v25 v36:Int) (L1 L2:Int→(List Int)→Option (List Int)) (v46:List Int):Option (List Int) :=
  L2 (w64 (v36+1)) v46
def fc (K:Kn) (n:Nat) (v1:List aa) (v2:List Int) (v25 v36:Int) (v37:List Int) (L1 L2:Int→(List Int)→Option (List Int)) (L3:Int→Int→Option (List Int)) (v43 v44:Int):Option (List Int) :=
  (some (decide (v44<(w64 (((List.getD v1 (v36).toNat default).Row)+v25))))).bind fun v45 =>
  if v45=true then
    chk (inb v44 v37.length) (
    L3 (w64 (v43 - (List.getD v37 (v44).toNat default))) (w64 (v44+1)))
  else
    chk (inb (w64 ((w64 (((List.getD v1 (v36).toNat default).Row)+v25)) - 1)) v37.length) (
    chk (inb (w64 ((w64 (((List.getD v1 (v36).toNat default).Row)+v25)) - 1)) v37.length) (
    dE K n v1 v2 v25 v36 L1 L2 (List.set v37 ((w64 ((w64 (((List.getD v1 (v36).toNat default).Row)+v25)) - 1))).toNat (w64 ((List.getD v37 ((w64 ((w64 (((List.getD v1 (v36).toNat default).Row)+v25)) - 1))).toNat default)+(max v43 0))))))
def d9 (K:Kn) (n:Nat) (v1:List aa) (v2:List Int) (v25 v36:Int) (v37:List Int) (L1 L2:Int→(List Int)→Option (List Int)):Nat→Int→Int→Option (List Int)
  | 0=>fun _ _=>none
  | m+1=>fc K n v1 v2 v25 v36 v37 L1 L2 (d9 K n v1 v2 v25 v36 v37 L1 L2 m)
def cj (K:Kn) (n:Nat) (v1:List aa) (v2:List Int) (v25 v36:Int) (v37:List Int) (L1 L2:Int→(List Int)→Option (List Int)) (v40:Bool):Option (List Int) :=
  if v40=true then
    dE K n v1 v2 v25 v36 L1 L2 v37
  else
    chk (inb v36 v2.length) (
    (fV K n (List.getD v2 (v36).toNat default)).bind fun v41 =>
    d9 K n v1 v2 v25 v36 v37 L1 L2 n v41 ((List.getD v1 (v36).toNat default).Row))
def dj (K:Kn) (n:Nat) (v1:List aa) (v2:List Int) (v25 v36:Int) (v37:List Int) (L1 L2:Int→(List Int)→Option (List Int)) (v38:Bool):Option (List Int) :=
  if v38=true then
    chk (inb v36 v1.length) (
    if (((List.getD v1 (v36).toNat default).Rows) != v25)=true then
      cj K n v1 v2 v25 v36 v37 L1 L2 true
    else
      if (decide (((List.getD v1 (v36).toNat default).Cols)<1))=true then
        cj K n v1 v2 v25 v36 v37 L1 L2 true
      else
        if (decide (((List.getD v1 (v36).toNat default).Col)<0))=true then
          cj K n v1 v2 v25 v36 v37 L1 L2 true
        else
          (eV K n ((List.getD v1 (v36).toNat default).Row) ((List.getD v1 (v36).toNat default).Rows) (v37.length:Int)).bind fun v39 =>
          cj K n v1 v2 v25 v36 v37 L1 L2 (!v39))
  else
    L1 (w64 (v25+1)) v37
def fp (K:Kn) (n:Nat) (v1:List aa) (v2:List Int) (v25:Int) (L1 L2:Int→(List Int)→Option (List Int)) (v36:Int) (v37:List Int):Option (List Int) :=
  if (decide (v36<(v1.length:Int)))=true then
    dj K n v1 v2 v25 v36 v37 L1 L2 (decide (v36<(v2.length:Int)))
  else
    dj K n v1 v2 v25 v36 v37 L1 L2 false
def cm (K:Kn) (n:Nat) (v1:List aa) (v2:List Int) (v25:Int) (L1:Int→(List Int)→Option (List Int)):Nat→Int→(List Int)→Option (List Int)
  | 0=>fun _ _=>none
  | m+1=>fp K n v1 v2 v25 L1 (cm K n v1 v2 v25 L1 m)
def eZ (K:Kn) (n:Nat) (v1:List aa) (v2:List Int) (L1:Int→(List Int)→Option (List Int)) (v25:Int) (v26:List Int):Option (List Int) :=
  if (decide (v25≤(v26.length:Int)))=true then
    cm K n v1 v2 v25 L1 n 0 v26
  else
    some v26
def da (K:Kn) (n:Nat) (v1:List aa) (v2:List Int):Nat→Int→(List Int)→Option (List Int)
  | 0=>fun _ _=>none
  | m+1=>eZ K n v1 v2 (da K n v1 v2 m)
def fj (K:Kn) (n:Nat) (v1:List aa) (v2 v3:List Int):Option (List Int) :=
  chk (fits (([]:List Int).length+v3.length) 8) (
  da K n v1 v2 n 1 (([]:List Int)++v3))
def ew (K:Kn) (n:Nat) (v1:List aa) (v2 v7:List Int) (v30:Int) (L2:Int→Option Bool):Option Bool :=
  L2 (w64 (v30+1))
def fC (K:Kn) (n:Nat) (v1:List aa) (v2 v7:List Int) (v30:Int) (L2:Int→Option Bool) (L3:Int→(List Int)→Int→Int→Option Bool) (v35:Int) (v36:List Int) (v37 v38:Int):Option Bool :=
  if (decide (v38<v37))=true then
    chk (inb v38 v36.length) (
    L3 (w64 (v35+(List.getD v36 (v38).toNat default))) v36 v37 (w64 (v38+1)))
  else
    chk (inb v30 v2.length) (
    (fW K n (List.getD v2 (v30).toNat default)).bind fun v39 =>
    if (decide (v35<v39))=true then
      some false
    else
      ew K n v1 v2 v7 v30 L2)
def dX (K:Kn) (n:Nat) (v1:List aa) (v2 v7:List Int) (v30:Int) (L2:Int→Option Bool):Nat→Int→(List Int)→Int→Int→Option Bool
  | 0=>fun _ _ _ _=>none
  | m+1=>fC K n v1 v2 v7 v30 L2 (dX K n v1 v2 v7 v30 L2 m)
def bX (K:Kn) (n:Nat) (v1:List aa) (v2 v7:List Int) (v30:Int) (L2:Int→Option Bool) (v31:Bool):Option Bool :=
  if v31=true then
    ew K n v1 v2 v7 v30 L2
  else
    chk (slb ((List.getD v1 (v30).toNat default).Row) (w64 (((List.getD v1 (v30).toNat default).Row)+((List.getD v1 (v30).toNat default).Rows))) v7.length) (
    dX K n v1 v2 v7 v30 L2 n 0 (List.drop (((List.getD v1 (v30).toNat default).Row)).toNat (List.take ((w64 (((List.getD v1 (v30).toNat default).Row)+((List.getD v1 (v30).toNat default).Rows)))).toNat v7)) ((List.drop (((List.getD v1 (v30).toNat default).Row)).toNat (List.take ((w64 (((List.getD v1 (v30).toNat default).Row)+((List.getD v1 (v30).toNat default).Rows)))).toNat v7)).length:Int) 0)
def fg (K:Kn) (n:Nat) (v1:List aa) (v2 v7:List Int) (L2:Int→Option Bool) (v30:Int):Option Bool :=
  if (decide (v30<(v1.length:Int)))=true then
    chk (inb v30 v1.length) (
    if (decide (v30≥(v2.length:Int)))=true then
      bX K n v1 v2 v7 v30 L2 true
    else
      if (decide (((List.getD v1 (v30).toNat default).Row)<0))=true then
        bX K n v1 v2 v7 v30 L2 true
      else
        if (decide (((List.getD v1 (v30).toNat default).Rows)<1))=true then
          bX K n v1 v2 v7 v30 L2 true
        else
          if (decide (((List.getD v1 (v30).toNat default).Col)<0))=true then
            bX K n v1 v2 v7 v30 L2 true
          else
            if (decide (((List.getD v1 (v30).toNat default).Cols)<1))=true then
              bX K n v1 v2 v7 v30 L2 true
            else
              bX K n v1 v2 v7 v30 L2 (decide ((w64 (((List.getD v1 (v30).toNat default).Row)+((List.getD v1 (v30).toNat default).Rows)))>(v7.length:Int))))
  else
    some true
def cH (K:Kn) (n:Nat) (v1:List aa) (v2 v7:List Int):Nat→Int→Option Bool
  | 0=>fun _=>none
  | m+1=>fg K n v1 v2 v7 (cH K n v1 v2 v7 m)
def fD (K:Kn) (n:Nat) (v1:List aa) (v2 v7 v8:List Int) (L1:Int→Option Bool) (v10:Int):Option Bool :=
  if (decide (v10<(v7.length:Int)))=true then
    chk (inb v10 v7.length) (
    chk (inb v10 v8.length) (
    (some ((List.getD v7 (v10).toNat default) != (List.getD v8 (v10).toNat default))).bind fun v11 =>
    if v11=true then
      some false
    else
      L1 (w64 (v10+1))))
  else
    cH K n v1 v2 v7 n 0
def dA (K:Kn) (n:Nat) (v1:List aa) (v2 v7 v8:List Int):Nat→Int→Option Bool
  | 0=>fun _=>none
  | m+1=>fD K n v1 v2 v7 v8 (dA K n v1 v2 v7 v8 m)
def gu (K:Kn) (n:Nat) (v1:List aa) (v2:List Int) (v3:Int):Option Bool :=
  (fq K n ).bind fun v4 =>
  if (!v4)=true then
    some false
  else
    (fL K n v1 v3).bind fun v5 =>
    if (!v5)=true then
      some true
    else
      (fz K n v1 v2 v3).bind fun v7 =>
      chk (mkb (max v3 0) 8) (
      (fj K n v1 v2 (List.replicate ((max v3 0)).toNat (0:Int))).bind fun v8 =>
      if ((v7.length:Int) != (v8.length:Int))=true then
        some false
      else
        dA K n v1 v2 v7 v8 n 0)
def iB (K:Kn) (n:Nat) (v1:aa):Option Int :=
  some v1.Rows
def gY (K:Kn) (n:Nat) (v1:Int):Option Bool :=
  some (decide (v1>0))
def KN:Nat→Kn
  | 0=>⟨fun _ _ _ _ _=>none,fun _ _ _=>none,fun _ _=>none,fun _ _=>none,fun _ _=>none⟩
  | n+1=>⟨fun a0 a1 a2 a3 a4=>b6 (KN n) n a0 a1 a2 a3 a4,
    fun f a0 a1=>match f with | .fn i=>none | .c31 x0=>none | .c59 x0=>gT (KN n) n a0 a1 x0 | .c65 x0 x1=>fB (KN n) n a0 a1 x0 x1,
    fun f a0=>match f with | .fn i=>if Nat.beq i 62=true then gY (KN n) n a0 else none | .c31 x0=>none | .c59 x0=>none | .c65 x0 x1=>none,
    fun f a0=>match f with | .fn i=>none | .c31 x0=>eU (KN n) n a0 x0 | .c59 x0=>none | .c65 x0 x1=>none,
    fun f a0=>match f with | .fn i=>if Nat.beq i 33=true then iB (KN n) n a0 else none | .c31 x0=>none | .c59 x0=>none | .c65 x0 x1=>none⟩
end
end Go.Proofs.Ytolhpahjgddjkaa
