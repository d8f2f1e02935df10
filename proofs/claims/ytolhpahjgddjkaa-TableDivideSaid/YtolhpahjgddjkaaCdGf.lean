/- Layer 20's functions as plain Lean functions: K stands for calls that come back, n bounds the rounds of loops. Made by a program. -/
import Derived.Test.YtolhpahjgddjkaaCdGt
namespace Go.Proofs.Ytolhpahjgddjkaa
open Go.RowKit
set_option maxRecDepth 20000
set_option linter.all false
set_option linter.unusedVariables false
set_option linter.unusedSimpArgs false
noncomputable section
def hF (K:Kn) (n:Nat) (v1:List (List (V2 Int))) (v122:Int) (v123:List (List ac)) (v124:List TMp) (v139 v141 v142:Int) (v143:List ac) (L1:Int→Int→(List (List ac))→(List TMp)→Option ((List (List ac))×Int)) (L2:Int→Int→Int→Int→(List ac)→Option ((List (List ac))×Int)) (L3:Int→(V2 Int)→Option ((List (List ac))×Int)) (v146:Int) (v147:V2 Int):Option ((List (List ac))×Int) :=
  chk (inb v122 v124.length) (
  (some (mget (List.getD v124 (v122).toNat none) v146)).bind fun v148 =>
  if v148=true then
    L3 (w64 (v146+1)) v147
  else
    (some (min (max v147.a0 1) (w64 ((v1.length:Int) - v122)))).bind fun v149 =>
    chk (fits (v143.length+([(⟨v122,v146,v149,(min (max v147.a1 1) 100)⟩:ac)]:(List ac)).length) 32) (
    L2 (max v139 (w64 (v146+(min (max v147.a1 1) 100)))) (w64 (v146+(min (max v147.a1 1) 100))) v141 (w64 (v142+1)) (v143++[(⟨v122,v146,v149,(min (max v147.a1 1) 100)⟩:ac)])))
def gX (K:Kn) (n:Nat) (v1:List (List (V2 Int))) (v122:Int) (v123:List (List ac)) (v124:List TMp) (v139 v141 v142:Int) (v143:List ac) (L1:Int→Int→(List (List ac))→(List TMp)→Option ((List (List ac))×Int)) (L2:Int→Int→Int→Int→(List ac)→Option ((List (List ac))×Int)):Nat→Int→(V2 Int)→Option ((List (List ac))×Int)
  | 0=>fun _ _=>none
  | m+1=>hF K n v1 v122 v123 v124 v139 v141 v142 v143 L1 L2 (gX K n v1 v122 v123 v124 v139 v141 v142 v143 L1 L2 m)
def gK (K:Kn) (n:Nat) (v1:List (List (V2 Int))) (v122:Int) (v123:List (List ac)) (v139:Int) (v143:List ac) (v166 v175:Int) (L1:Int→Int→(List (List ac))→(List TMp)→Option ((List (List ac))×Int)) (L4 L5 L6:Int→(List TMp)→Option ((List (List ac))×Int)) (v181:Int) (v182:List TMp):Option ((List (List ac))×Int) :=
  (some (decide (v181<(w64 (((List.getD v143 (v166).toNat default).Col)+((List.getD v143 (v166).toNat default).Cols)))))).bind fun v183 =>
  if v183=true then
    chk (inb v175 v182.length) (
    chk (Option.isSome (List.getD v182 (v175).toNat none)) (
    L6 (w64 (v181+1)) (List.set v182 (v175).toNat (mput (List.getD v182 (v175).toNat none) v181 true))))
  else
    L5 (w64 (v175+1)) v182
def gL (K:Kn) (n:Nat) (v1:List (List (V2 Int))) (v122:Int) (v123:List (List ac)) (v139:Int) (v143:List ac) (v166 v175:Int) (L1:Int→Int→(List (List ac))→(List TMp)→Option ((List (List ac))×Int)) (L4 L5:Int→(List TMp)→Option ((List (List ac))×Int)):Nat→Int→(List TMp)→Option ((List (List ac))×Int)
  | 0=>fun _ _=>none
  | m+1=>gK K n v1 v122 v123 v139 v143 v166 v175 L1 L4 L5 (gL K n v1 v122 v123 v139 v143 v166 v175 L1 L4 L5 m)
def g7 (K:Kn) (n:Nat) (v1:List (List (V2 Int))) (v122:Int) (v123:List (List ac)) (v139:Int) (v143:List ac) (v166 v175:Int) (L1:Int→Int→(List (List ac))→(List TMp)→Option ((List (List ac))×Int)) (L4 L5:Int→(List TMp)→Option ((List (List ac))×Int)) (v179:List TMp):Option ((List (List ac))×Int) :=
  gL K n v1 v122 v123 v139 v143 v166 v175 L1 L4 L5 n ((List.getD v143 (v166).toNat default).Col) v179
def hJ (K:Kn) (n:Nat) (v1:List (List (V2 Int))) (v122:Int) (v123:List (List ac)) (v139:Int) (v143:List ac) (v166:Int) (L1:Int→Int→(List (List ac))→(List TMp)→Option ((List (List ac))×Int)) (L4 L5:Int→(List TMp)→Option ((List (List ac))×Int)) (v175:Int) (v176:List TMp):Option ((List (List ac))×Int) :=
  (some (decide (v175<(w64 (v122+((List.getD v143 (v166).toNat default).Rows)))))).bind fun v177 =>
  if v177=true then
    chk (inb v175 v176.length) (
    (some (Option.isNone (List.getD v176 (v175).toNat none))).bind fun v178 =>
    if v178=true then
      chk (inb v175 v176.length) (
      g7 K n v1 v122 v123 v139 v143 v166 v175 L1 L4 L5 (List.set v176 (v175).toNat (some [])))
    else
      g7 K n v1 v122 v123 v139 v143 v166 v175 L1 L4 L5 v176)
  else
    L4 (w64 (v166+1)) v176
def gU (K:Kn) (n:Nat) (v1:List (List (V2 Int))) (v122:Int) (v123:List (List ac)) (v139:Int) (v143:List ac) (v166:Int) (L1:Int→Int→(List (List ac))→(List TMp)→Option ((List (List ac))×Int)) (L4:Int→(List TMp)→Option ((List (List ac))×Int)):Nat→Int→(List TMp)→Option ((List (List ac))×Int)
  | 0=>fun _ _=>none
  | m+1=>hJ K n v1 v122 v123 v139 v143 v166 L1 L4 (gU K n v1 v122 v123 v139 v143 v166 L1 L4 m)
def ic (K:Kn) (n:Nat) (v1:List (List (V2 Int))) (v122:Int) (v123:List (List ac)) (v139:Int) (v143:List ac) (L1:Int→Int→(List (List ac))→(List TMp)→Option ((List (List ac))×Int)) (L4:Int→(List TMp)→Option ((List (List ac))×Int)) (v166:Int) (v167:List TMp):Option ((List (List ac))×Int) :=
  if (decide (v166<(v143.length:Int)))=true then
    chk (inb v166 v143.length) (
    gU K n v1 v122 v123 v139 v143 v166 L1 L4 n (w64 (v122+1)) v167)
  else
    chk (fits (v123.length+([v143]:(List (List ac))).length) 24) (
    L1 v139 (w64 (v122+1)) (v123++[v143]) v167)
def gN (K:Kn) (n:Nat) (v1:List (List (V2 Int))) (v122:Int) (v123:List (List ac)) (v139:Int) (v143:List ac) (L1:Int→Int→(List (List ac))→(List TMp)→Option ((List (List ac))×Int)):Nat→Int→(List TMp)→Option ((List (List ac))×Int)
  | 0=>fun _ _=>none
  | m+1=>ic K n v1 v122 v123 v139 v143 L1 (gN K n v1 v122 v123 v139 v143 L1 m)
def gG (K:Kn) (n:Nat) (v1:List (List (V2 Int))) (v122:Int) (v123:List (List ac)) (v124:List TMp) (L1:Int→Int→(List (List ac))→(List TMp)→Option ((List (List ac))×Int)) (L2:Int→Int→Int→Int→(List ac)→Option ((List (List ac))×Int)) (v139 v140 v141 v142:Int) (v143:List ac):Option ((List (List ac))×Int) :=
  if (decide (v142<v141))=true then
    chk (inb v142 (List.getD v1 (v122).toNat default).length) (
    gX K n v1 v122 v123 v124 v139 v141 v142 v143 L1 L2 n v140 (List.getD (List.getD v1 (v122).toNat default) (v142).toNat default))
  else
    gN K n v1 v122 v123 v139 v143 L1 n 0 v124
def ii (K:Kn) (n:Nat) (v1:List (List (V2 Int))) (v122:Int) (v123:List (List ac)) (v124:List TMp) (L1:Int→Int→(List (List ac))→(List TMp)→Option ((List (List ac))×Int)):Nat→Int→Int→Int→Int→(List ac)→Option ((List (List ac))×Int)
  | 0=>fun _ _ _ _ _=>none
  | m+1=>gG K n v1 v122 v123 v124 L1 (ii K n v1 v122 v123 v124 L1 m)
def g0 (K:Kn) (n:Nat) (v1:List (List (V2 Int))) (L1:Int→Int→(List (List ac))→(List TMp)→Option ((List (List ac))×Int)) (v121 v122:Int) (v123:List (List ac)) (v124:List TMp):Option ((List (List ac))×Int) :=
  if (decide (v122<(v1.length:Int)))=true then
    chk (inb v122 v1.length) (
    ii K n v1 v122 v123 v124 L1 n v121 0 ((List.getD v1 (v122).toNat default).length:Int) 0 [])
  else
    some (v123,v121)
def ib (K:Kn) (n:Nat) (v1:List (List (V2 Int))):Nat→Int→Int→(List (List ac))→(List TMp)→Option ((List (List ac))×Int)
  | 0=>fun _ _ _ _=>none
  | m+1=>g0 K n v1 (ib K n v1 m)
def iM (K:Kn) (n:Nat) (v1:List (List (V2 Int))):Option ((List (List ac))×Int) :=
  chk (mkb (v1.length:Int) 8) (
  (some (List.replicate ((v1.length:Int)).toNat (none:TMp))).bind fun v2 =>
  ib K n v1 n 0 0 [] v2)
def dK (K:Kn) (n:Nat) (v1:Int):Option Int :=
  some (min (max v1 0) 1048576)
def cQ (K:Kn) (n:Nat) (v1 v2:Int):Option Int :=
  some (min (max v1 0) v2)
def ff (K:Kn) (n:Nat) (v2 v3:Int) (v4:Fv) (v11 v15:Int) (v16:List Int) (L1 L2:Int→(List Int)→Option (List Int)) (v18:Bool):Option (List Int) :=
  if v18=true then
    chk (inb (w64 (v15 - 1)) v16.length) (
    chk (inb v15 v16.length) (
    chk (inb v15 v16.length) (
    chk (inb (w64 (v15 - 1)) (List.set v16 (v15).toNat (List.getD v16 ((w64 (v15 - 1))).toNat default)).length) (
    L2 (w64 (v15 - 1)) (List.set (List.set v16 (v15).toNat (List.getD v16 ((w64 (v15 - 1))).toNat default)) ((w64 (v15 - 1))).toNat (List.getD v16 (v15).toNat default))))))
  else
    L1 (w64 (v11+1)) v16
def fk (K:Kn) (n:Nat) (v2 v3:Int) (v4:Fv) (v11:Int) (L1 L2:Int→(List Int)→Option (List Int)) (v15:Int) (v16:List Int):Option (List Int) :=
  if (decide (v15>v2))=true then
    chk (inb v15 v16.length) (
    chk (inb (w64 (v15 - 1)) v16.length) (
    (K.bM v4 (List.getD v16 (v15).toNat default) (List.getD v16 ((w64 (v15 - 1))).toNat default)).bind fun v17 =>
    ff K n v2 v3 v4 v11 v15 v16 L1 L2 (decide (v17<0))))
  else
    ff K n v2 v3 v4 v11 v15 v16 L1 L2 false
def ef (K:Kn) (n:Nat) (v2 v3:Int) (v4:Fv) (v11:Int) (L1:Int→(List Int)→Option (List Int)):Nat→Int→(List Int)→Option (List Int)
  | 0=>fun _ _=>none
  | m+1=>fk K n v2 v3 v4 v11 L1 (ef K n v2 v3 v4 v11 L1 m)
def eJ (K:Kn) (n:Nat) (v2 v3:Int) (v4:Fv) (L1:Int→(List Int)→Option (List Int)) (v11:Int) (v12:List Int):Option (List Int) :=
  if (decide (v11<v3))=true then
    ef K n v2 v3 v4 v11 L1 n v11 v12
  else
    some v12
def cW (K:Kn) (n:Nat) (v2 v3:Int) (v4:Fv):Nat→Int→(List Int)→Option (List Int)
  | 0=>fun _ _=>none
  | m+1=>eJ K n v2 v3 v4 (cW K n v2 v3 v4 m)
def eE (K:Kn) (n:Nat) (v1:List Int) (v2 v3:Int) (v4:Fv):Option (List Int) :=
  cW K n v2 v3 v4 n (w64 (v2+1)) v1
def fL (K:Kn) (n:Nat) (v2 v3 v4:Int) (L1:Int→(List Int)→Option (List Int)) (v6:Int) (v7:List Int):Option (List Int) :=
  if (decide (v6<v4))=true then
    chk (inb (w64 (v3+v6)) v7.length) (
    chk (inb (w64 (v2+v6)) v7.length) (
    chk (inb (w64 (v2+v6)) v7.length) (
    chk (inb (w64 (v3+v6)) (List.set v7 ((w64 (v2+v6))).toNat (List.getD v7 ((w64 (v3+v6))).toNat default)).length) (
    L1 (w64 (v6+1)) (List.set (List.set v7 ((w64 (v2+v6))).toNat (List.getD v7 ((w64 (v3+v6))).toNat default)) ((w64 (v3+v6))).toNat (List.getD v7 ((w64 (v2+v6))).toNat default))))))
  else
    some v7
def eW (K:Kn) (n:Nat) (v2 v3 v4:Int):Nat→Int→(List Int)→Option (List Int)
  | 0=>fun _ _=>none
  | m+1=>fL K n v2 v3 v4 (eW K n v2 v3 v4 m)
def dP (K:Kn) (n:Nat) (v1:List Int) (v2 v3 v4:Int) (v5:Fv):Option (List Int) :=
  eW K n v2 v3 v4 n 0 v1
def eF (K:Kn) (n:Nat) (v3:Int) (v5:Fv) (L1:Int→Int→(List Int)→Option (List Int)) (v16 v17:Int) (v18:List Int):Option (List Int) :=
  L1 v16 v17 v18
def fJ (K:Kn) (n:Nat) (v3:Int) (v5:Fv) (L1:Int→Int→(List Int)→Option (List Int)) (v11 v12:Int) (v13:List Int):Option (List Int) :=
  if (v11 != v12)=true then
    if (decide (v11>v12))=true then
      (dP K n v13 (w64 (v3 - v11)) v3 v12 v5).bind fun v14 =>
      eF K n v3 v5 L1 (w64 (v11 - v12)) v12 v14
    else
      (dP K n v13 (w64 (v3 - v11)) (w64 ((w64 (v3+v12)) - v11)) v11 v5).bind fun v15 =>
      eF K n v3 v5 L1 v11 (w64 (v12 - v11)) v15
  else
    (dP K n v13 (w64 (v3 - v11)) v3 v11 v5).bind fun v19 =>
    some v19
def ez (K:Kn) (n:Nat) (v3:Int) (v5:Fv):Nat→Int→Int→(List Int)→Option (List Int)
  | 0=>fun _ _ _=>none
  | m+1=>fJ K n v3 v5 (ez K n v3 v5 m)
def gp (K:Kn) (n:Nat) (v1:List Int) (v2 v3 v4:Int) (v5:Fv):Option (List Int) :=
  ez K n v3 v5 n (w64 (v3 - v2)) (w64 (v4 - v3)) v1
def gl (K:Kn) (n:Nat) (v1:List Int) (v2:Int) (v5:Fv) (L1:Int→Int→Option (List Int)) (v14 v15:Int):Option (List Int) :=
  L1 v14 v15
def gv (K:Kn) (n:Nat) (v10:Int) (L2:Int→(List Int)→Option (List Int)) (v16:Int) (v17:List Int):Option (List Int) :=
  if (decide (v16<(w64 (v10 - 1))))=true then
    chk (inb (w64 (v16+1)) v17.length) (
    chk (inb v16 v17.length) (
    chk (inb v16 v17.length) (
    chk (inb (w64 (v16+1)) (List.set v17 (v16).toNat (List.getD v17 ((w64 (v16+1))).toNat default)).length) (
    L2 (w64 (v16+1)) (List.set (List.set v17 (v16).toNat (List.getD v17 ((w64 (v16+1))).toNat default)) ((w64 (v16+1))).toNat (List.getD v17 (v16).toNat default))))))
  else
    some v17
def dt (K:Kn) (n:Nat) (v10:Int):Nat→Int→(List Int)→Option (List Int)
  | 0=>fun _ _=>none
  | m+1=>gv K n v10 (dt K n v10 m)
def gb (K:Kn) (n:Nat) (v1:List Int) (v2:Int) (v5:Fv) (L1:Int→Int→Option (List Int)) (v10 v11:Int):Option (List Int) :=
  if (decide (v10<v11))=true then
    (some (w64 ((IntKind.wrap .u64 (w64 (v10+v11))) / 2))).bind fun v12 =>
    chk (inb v12 v1.length) (
    chk (inb v2 v1.length) (
    (K.bM v5 (List.getD v1 (v12).toNat default) (List.getD v1 (v2).toNat default)).bind fun v13 =>
    if (decide (v13<0))=true then
      gl K n v1 v2 v5 L1 (w64 (v12+1)) v11
    else
      gl K n v1 v2 v5 L1 v10 v12))
  else
    dt K n v10 n v2 v1
def eg (K:Kn) (n:Nat) (v1:List Int) (v2:Int) (v5:Fv):Nat→Int→Int→Option (List Int)
  | 0=>fun _ _=>none
  | m+1=>gb K n v1 v2 v5 (eg K n v1 v2 v5 m)
def fD (K:Kn) (n:Nat) (v1:List Int) (v3:Int) (v5:Fv) (L3:Int→Int→Option (List Int)) (v26 v27:Int):Option (List Int) :=
  L3 v26 v27
def fy (K:Kn) (n:Nat) (v22:Int) (L4:Int→(List Int)→Option (List Int)) (v28:Int) (v29:List Int):Option (List Int) :=
  if (decide (v28>v22))=true then
    chk (inb (w64 (v28 - 1)) v29.length) (
    chk (inb v28 v29.length) (
    chk (inb v28 v29.length) (
    chk (inb (w64 (v28 - 1)) (List.set v29 (v28).toNat (List.getD v29 ((w64 (v28 - 1))).toNat default)).length) (
    L4 (w64 (v28 - 1)) (List.set (List.set v29 (v28).toNat (List.getD v29 ((w64 (v28 - 1))).toNat default)) ((w64 (v28 - 1))).toNat (List.getD v29 (v28).toNat default))))))
  else
    some v29
def dM (K:Kn) (n:Nat) (v22:Int):Nat→Int→(List Int)→Option (List Int)
  | 0=>fun _ _=>none
  | m+1=>fy K n v22 (dM K n v22 m)
def fp (K:Kn) (n:Nat) (v1:List Int) (v3:Int) (v5:Fv) (L3:Int→Int→Option (List Int)) (v22 v23:Int):Option (List Int) :=
  if (decide (v22<v23))=true then
    (some (w64 ((IntKind.wrap .u64 (w64 (v22+v23))) / 2))).bind fun v24 =>
    chk (inb v3 v1.length) (
    chk (inb v24 v1.length) (
    (K.bM v5 (List.getD v1 (v3).toNat default) (List.getD v1 (v24).toNat default)).bind fun v25 =>
    if (!(decide (v25<0)))=true then
      fD K n v1 v3 v5 L3 (w64 (v24+1)) v23
    else
      fD K n v1 v3 v5 L3 v22 v24))
  else
    dM K n v22 n v3 v1
def en (K:Kn) (n:Nat) (v1:List Int) (v3:Int) (v5:Fv):Nat→Int→Int→Option (List Int)
  | 0=>fun _ _=>none
  | m+1=>fp K n v1 v3 v5 (en K n v1 v3 v5 m)
def gr (K:Kn) (n:Nat) (v1:List Int) (v2 v3 v4:Int) (v5:Fv) (v30 v31:Int) (L5:Int→Int→Option (List Int)) (v43 v44:Int):Option (List Int) :=
  L5 v43 v44
def gw (K:Kn) (n:Nat) (v53:List Int):Option (List Int) :=
  some v53
def dU (K:Kn) (n:Nat) (v4:Int) (v5:Fv) (v30 v31 v39:Int) (v50:List Int) (v51:Bool):Option (List Int) :=
  if v51=true then
    (K.co v50 v30 (w64 (v31 - v39)) v4 v5).bind fun v52 =>
    gw K n v52
  else
    gw K n v50
def cH (K:Kn) (n:Nat) (v4:Int) (v5:Fv) (v30 v31 v39:Int) (v50:List Int):Option (List Int) :=
  if (decide (v30<(w64 (v31 - v39))))=true then
    dU K n v4 v5 v30 v31 v39 v50 (decide ((w64 (v31 - v39))<v4))
  else
    dU K n v4 v5 v30 v31 v39 v50 false
def dW (K:Kn) (n:Nat) (v2 v4:Int) (v5:Fv) (v30 v31 v39:Int) (v47:List Int) (v48:Bool):Option (List Int) :=
  if v48=true then
    (K.co v47 v2 v39 v30 v5).bind fun v49 =>
    cH K n v4 v5 v30 v31 v39 v49
  else
    cH K n v4 v5 v30 v31 v39 v47
def dn (K:Kn) (n:Nat) (v2 v4:Int) (v5:Fv) (v30 v31 v39:Int) (v47:List Int):Option (List Int) :=
  if (decide (v2<v39))=true then
    dW K n v2 v4 v5 v30 v31 v39 v47 (decide (v39<v30))
  else
    dW K n v2 v4 v5 v30 v31 v39 v47 false
def bW (K:Kn) (n:Nat) (v1:List Int) (v2 v3 v4:Int) (v5:Fv) (v30 v31 v39:Int) (v45:Bool):Option (List Int) :=
  if v45=true then
    (gp K n v1 v39 v3 (w64 (v31 - v39)) v5).bind fun v46 =>
    dn K n v2 v4 v5 v30 v31 v39 v46
  else
    dn K n v2 v4 v5 v30 v31 v39 v1
def gE (K:Kn) (n:Nat) (v1:List Int) (v2 v3 v4:Int) (v5:Fv) (v30 v31:Int) (L5:Int→Int→Option (List Int)) (v39 v40:Int):Option (List Int) :=
  if (decide (v39<v40))=true then
    (some (w64 ((IntKind.wrap .u64 (w64 (v39+v40))) / 2))).bind fun v41 =>
    chk (inb (w64 ((w64 (v31 - 1)) - v41)) v1.length) (
    chk (inb v41 v1.length) (
    (K.bM v5 (List.getD v1 ((w64 ((w64 (v31 - 1)) - v41))).toNat default) (List.getD v1 (v41).toNat default)).bind fun v42 =>
    if (!(decide (v42<0)))=true then
      gr K n v1 v2 v3 v4 v5 v30 v31 L5 (w64 (v41+1)) v40
    else
      gr K n v1 v2 v3 v4 v5 v30 v31 L5 v39 v41))
  else
    if (decide (v39<v3))=true then
      bW K n v1 v2 v3 v4 v5 v30 v31 v39 (decide (v3<(w64 (v31 - v39))))
    else
      bW K n v1 v2 v3 v4 v5 v30 v31 v39 false
def dk (K:Kn) (n:Nat) (v1:List Int) (v2 v3 v4:Int) (v5:Fv) (v30 v31:Int):Nat→Int→Int→Option (List Int)
  | 0=>fun _ _=>none
  | m+1=>gE K n v1 v2 v3 v4 v5 v30 v31 (dk K n v1 v2 v3 v4 v5 v30 v31 m)
def dQ (K:Kn) (n:Nat) (v1:List Int) (v2 v3 v4:Int) (v5:Fv) (v30 v31 v33 v34:Int):Option (List Int) :=
  dk K n v1 v2 v3 v4 v5 v30 v31 n v33 v34
def b9 (K:Kn) (n:Nat) (v1:List Int) (v2 v3 v4:Int) (v5:Fv):Option (List Int) :=
  if ((w64 (v3 - v2)) == 1)=true then
    eg K n v1 v2 v5 n v3 v4
  else
    if ((w64 (v4 - v3)) == 1)=true then
      en K n v1 v3 v5 n v2 v3
    else
      (some (w64 ((IntKind.wrap .u64 (w64 (v2+v4))) / 2))).bind fun v30 =>
      (some (w64 ((w64 ((IntKind.wrap .u64 (w64 (v2+v4))) / 2))+v3))).bind fun v31 =>
      (some (decide (v3>(w64 ((IntKind.wrap .u64 (w64 (v2+v4))) / 2))))).bind fun v32 =>
      if v32=true then
        dQ K n v1 v2 v3 v4 v5 v30 v31 (w64 (v31 - v4)) v30
      else
        dQ K n v1 v2 v3 v4 v5 v30 v31 v2 v3
def gg (K:Kn) (n:Nat) (v2:Int) (v3:Fv) (v17:Int) (L2:Int→(List Int)→Option (List Int)) (v25:List Int):Option (List Int) :=
  L2 (w64 (v17*2)) v25
def gj (K:Kn) (n:Nat) (v2:Int) (v3:Fv) (v17:Int) (L2:Int→(List Int)→Option (List Int)) (L3:Int→Int→(List Int)→Option (List Int)) (v20 v21:Int) (v22:List Int):Option (List Int) :=
  if (decide (v21≤v2))=true then
    (b9 K n v22 v20 (w64 (v20+v17)) v21 v3).bind fun v23 =>
    L3 v21 (w64 (v21+(w64 (2*v17)))) v23
  else
    if (decide ((w64 (v20+v17))<v2))=true then
      (b9 K n v22 v20 (w64 (v20+v17)) v2 v3).bind fun v24 =>
      gg K n v2 v3 v17 L2 v24
    else
      gg K n v2 v3 v17 L2 v22
def fg (K:Kn) (n:Nat) (v2:Int) (v3:Fv) (v17:Int) (L2:Int→(List Int)→Option (List Int)):Nat→Int→Int→(List Int)→Option (List Int)
  | 0=>fun _ _ _=>none
  | m+1=>gj K n v2 v3 v17 L2 (fg K n v2 v3 v17 L2 m)
def fq (K:Kn) (n:Nat) (v2:Int) (v3:Fv) (L2:Int→(List Int)→Option (List Int)) (v17:Int) (v18:List Int):Option (List Int) :=
  if (decide (v17<v2))=true then
    fg K n v2 v3 v17 L2 n 0 (w64 (2*v17)) v18
  else
    some v18
def cN (K:Kn) (n:Nat) (v2:Int) (v3:Fv):Nat→Int→(List Int)→Option (List Int)
  | 0=>fun _ _=>none
  | m+1=>fq K n v2 v3 (cN K n v2 v3 m)
def ge (K:Kn) (n:Nat) (v2:Int) (v3:Fv) (L1:Int→Int→(List Int)→Option (List Int)) (v5 v6:Int) (v7:List Int):Option (List Int) :=
  if (decide (v6≤v2))=true then
    (eE K n v7 v5 v6 v3).bind fun v8 =>
    L1 v6 (w64 (v6+20)) v8
  else
    (eE K n v7 v5 v2 v3).bind fun v9 =>
    cN K n v2 v3 n 20 v9
def eN (K:Kn) (n:Nat) (v2:Int) (v3:Fv):Nat→Int→Int→(List Int)→Option (List Int)
  | 0=>fun _ _ _=>none
  | m+1=>ge K n v2 v3 (eN K n v2 v3 m)
def ik (K:Kn) (n:Nat) (v1:List Int) (v2:Int) (v3:Fv):Option (List Int) :=
  eN K n v2 v3 n 0 20 v1
def dD (K:Kn) (n:Nat) (v1:List Int) (v2:Fv):Option (List Int) :=
  (ik K n v1 (v1.length:Int) v2).bind fun v3 =>
  some v3
def fx (K:Kn) (n:Nat) (v1:Int):Option Bool :=
  some (v1 != v1)
def gH (K:Kn) (n:Nat) (v1 v2:Int):Option Int :=
  (fx K n v1).bind fun v3 =>
  (fx K n v2).bind fun v4 =>
  if v3=true then
    if v4=true then
      some 0
    else
      some (-1)
  else
    if v4=true then
      some 1
    else
      if (decide (v1<v2))=true then
        some (-1)
      else
        if (decide (v1>v2))=true then
          some 1
        else
          some 0
def gt (K:Kn) (n:Nat) (v1 v2:Int) (v3:List Int):Option Int :=
  chk (inb v2 v3.length) (
  chk (inb v1 v3.length) (
  (gH K n (List.getD v3 (v2).toNat default) (List.getD v3 (v1).toNat default)).bind fun v4 =>
  some v4))
def fw (K:Kn) (n:Nat) (L3:(List Int)→Int→Int→(List Int)→Option (List Int)) (v26:List Int) (v27 v28:Int) (v29:List Int):Option (List Int) :=
  if (decide (v28<v27))=true then
    chk (inb v28 v26.length) (
    chk (inb (List.getD v26 (v28).toNat default) v29.length) (
    chk (inb (List.getD v26 (v28).toNat default) v29.length) (
    L3 v26 v27 (w64 (v28+1)) (List.set v29 ((List.getD v26 (v28).toNat default)).toNat (w64 ((List.getD v29 ((List.getD v26 (v28).toNat default)).toNat default)+1))))))
  else
    some v29
def dB (K:Kn) (n:Nat):Nat→(List Int)→Int→Int→(List Int)→Option (List Int)
  | 0=>fun _ _ _ _=>none
  | m+1=>fw K n (dB K n m)
def fW (K:Kn) (n:Nat) (v2:List Int) (v3 v8:Int) (L2:Int→Int→(List Int)→(List Int)→(List Int)→Option (List Int)) (v14 v15:Int) (v16 v17 v18:List Int):Option (List Int) :=
  if (decide (v15<(v2.length:Int)))=true then
    chk (inb v15 v2.length) (
    (cQ K n (List.getD v2 (v15).toNat default) 2147483647).bind fun v19 =>
    chk ((v8 != 0)) (
    chk ((v8 != 0)) (
    chk (inb v15 v16.length) (
    chk (inb v15 v17.length) (
    chk (inb v15 v18.length) (
    (some (List.set v16 (v15).toNat (w64 (Int.tdiv (w64 (v3*v19)) v8)))).bind fun v20 =>
    (some (List.set v17 (v15).toNat (Int.tmod (w64 (v3*v19)) v8))).bind fun v21 =>
    chk (inb v15 v20.length) (
    L2 (w64 (v14 - (List.getD v20 (v15).toNat default))) (w64 (v15+1)) v20 v21 (List.set v18 (v15).toNat v15))))))))
  else
    (dD K n v18 (Fv.c59 v17)).bind fun v22 =>
    chk (slb (0:Int) v14 v22.length) (
    dB K n n (List.drop ((0:Int)).toNat (List.take (v14).toNat v22)) ((List.drop ((0:Int)).toNat (List.take (v14).toNat v22)).length:Int) 0 v16)
def du (K:Kn) (n:Nat) (v2:List Int) (v3 v8:Int):Nat→Int→Int→(List Int)→(List Int)→(List Int)→Option (List Int)
  | 0=>fun _ _ _ _ _=>none
  | m+1=>fW K n v2 v3 v8 (du K n v2 v3 v8 m)
def gi (K:Kn) (n:Nat) (v2:List Int) (v3:Int) (v4 v5 v6:List Int) (L1:Int→Int→Option (List Int)) (v8 v9:Int):Option (List Int) :=
  if (decide (v9<(v2.length:Int)))=true then
    chk (inb v9 v2.length) (
    (cQ K n (List.getD v2 (v9).toNat default) 2147483647).bind fun v10 =>
    L1 (w64 (v8+v10)) (w64 (v9+1)))
  else
    if (v8 == 0)=true then
      some v4
    else
      du K n v2 v3 v8 n v3 0 v4 v5 v6
def d6 (K:Kn) (n:Nat) (v2:List Int) (v3:Int) (v4 v5 v6:List Int):Nat→Int→Int→Option (List Int)
  | 0=>fun _ _=>none
  | m+1=>gi K n v2 v3 v4 v5 v6 (d6 K n v2 v3 v4 v5 v6 m)
def eo (K:Kn) (n:Nat) (v1:Int) (v2:List Int):Option (List Int) :=
  (cQ K n v1 2147483647).bind fun v3 =>
  chk (mkb (v2.length:Int) 8) (
  (some (List.replicate ((v2.length:Int)).toNat (0:Int))).bind fun v4 =>
  chk (mkb (v2.length:Int) 8) (
  (some (List.replicate ((v2.length:Int)).toNat (0:Int))).bind fun v5 =>
  chk (mkb (v2.length:Int) 8) (
  (some (List.replicate ((v2.length:Int)).toNat (0:Int))).bind fun v6 =>
  d6 K n v2 v3 v4 v5 v6 n 0 0)))
def fj (K:Kn) (n:Nat) (v1:List Int) (v2:Fv) (L1:Int→Option Int) (v4:Int):Option Int :=
  if (decide (v4<(v1.length:Int)))=true then
    chk (inb v4 v1.length) (
    (K.gq v2 (List.getD v1 (v4).toNat default)).bind fun v5 =>
    if v5=true then
      some v4
    else
      L1 (w64 (v4+1)))
  else
    some (-1)
def eM (K:Kn) (n:Nat) (v1:List Int) (v2:Fv):Nat→Int→Option Int
  | 0=>fun _=>none
  | m+1=>fj K n v1 v2 (eM K n v1 v2 m)
def gW (K:Kn) (n:Nat) (v1:List Int) (v2:Fv):Option Int :=
  eM K n v1 v2 n 0
def fP (K:Kn) (n:Nat) (v1:List Int) (v2:Fv):Option Bool :=
  (gW K n v1 v2).bind fun v3 =>
  some (decide (v3≥0))
def gS (K:Kn) (n:Nat) (v1 v2:Int):Option (Int×Int) :=
  some ((IntKind.wrap .u64 ((IntKind.wrap .u64 ((IntKind.wrap .u64 ((v1 / 4294967296)*(v2 / 4294967296)))+((IntKind.wrap .u64 ((IntKind.wrap .u64 ((v1 / 4294967296)*(iand .u64 v2 4294967295)))+((IntKind.wrap .u64 ((iand .u64 v1 4294967295)*(iand .u64 v2 4294967295))) / 4294967296))) / 4294967296)))+((IntKind.wrap .u64 ((iand .u64 (IntKind.wrap .u64 ((IntKind.wrap .u64 ((v1 / 4294967296)*(iand .u64 v2 4294967295)))+((IntKind.wrap .u64 ((iand .u64 v1 4294967295)*(iand .u64 v2 4294967295))) / 4294967296))) 4294967295)+(IntKind.wrap .u64 ((iand .u64 v1 4294967295)*(v2 / 4294967296))))) / 4294967296))),(IntKind.wrap .u64 (v1*v2)))
def go (K:Kn) (n:Nat) (v1 v2:Int):Option (Int×Int) :=
  (gS K n v1 v2).bind fun v3 =>
  some (v3.1,v3.2)
def ga (K:Kn) (n:Nat) (L1:Int→(List Int)→Option (List Int)) (v7:Int) (v8:List Int):Option (List Int) :=
  if (decide (v7<(v8.length:Int)))=true then
    chk (slb v7 (v8.length:Int) v8.length) (
    chk (slb (0:Int) v7 v8.length) (
    chk (cpb ((v7).toNat) (((v8.length:Int)).toNat - (v7).toNat) v8.length ((0:Int).toNat) ((v7).toNat - (0:Int).toNat) v8.length) (
    L1 (w64 (v7+((min ((v7).toNat - (0:Int).toNat) (((v8.length:Int)).toNat - (v7).toNat):Nat):Int))) (cpy v8 ((v7).toNat) (((v8.length:Int)).toNat - (v7).toNat) v8 ((0:Int).toNat) ((v7).toNat - (0:Int).toNat)))))
  else
    some v8
def eU (K:Kn) (n:Nat):Nat→Int→(List Int)→Option (List Int)
  | 0=>fun _ _=>none
  | m+1=>ga K n (eU K n m)
def gh (K:Kn) (n:Nat) (v1:List Int) (v3:Int×Int) (v4:Bool):Option (List Int) :=
  if v4=true then
    none
  else
    chk (mkb (w64 v3.2) 8) (
    (some (List.replicate ((w64 v3.2)).toNat (0:Int))).bind fun v5 =>
    chk (cpb 0 v5.length v5.length 0 v1.length v1.length) (
    eU K n n ((min v1.length v5.length:Nat):Int) (cpy v5 0 v5.length v1 0 v1.length)))
def fF (K:Kn) (n:Nat) (v1:List Int) (v2:Int):Option (List Int) :=
  if (decide (v2<0))=true then
    none
  else
    (go K n (IntKind.wrap .u64 (v1.length:Int)) (IntKind.wrap .u64 v2)).bind fun v3 =>
    if (decide (v3.1>0))=true then
      gh K n v1 v3 true
    else
      gh K n v1 v3 (decide (v3.2>9223372036854775807))
def fE (K:Kn) (n:Nat) (v1:Int) (v5:List Int):Option (List Int) :=
  (eo K n v1 v5).bind fun v6 =>
  some v6
def fz (K:Kn) (n:Nat) (v1:Int) (v2:List Int):Option (List Int) :=
  (fP K n v2 (Fv.fn 62)).bind fun v3 =>
  if (!v3)=true then
    (fF K n [1] (v2.length:Int)).bind fun v4 =>
    fE K n v1 v4
  else
    fE K n v1 v2
def fV (K:Kn) (n:Nat) (v27:List Int) (L2:Int→(List Int)→Option (List Int)) (v28:Int) (v29:List Int):Option (List Int) :=
  if (decide (v28<(v27.length:Int)))=true then
    chk (inb v28 v27.length) (
    chk (inb v28 v29.length) (
    chk (inb v28 v29.length) (
    L2 (w64 (v28+1)) (List.set v29 (v28).toNat (w64 ((List.getD v29 (v28).toNat default)+(List.getD v27 (v28).toNat default)))))))
  else
    some v29
def fa (K:Kn) (n:Nat) (v27:List Int):Nat→Int→(List Int)→Option (List Int)
  | 0=>fun _ _=>none
  | m+1=>fV K n v27 (fa K n v27 m)
def fM (K:Kn) (n:Nat) (v26 v27:List Int):Option (List Int) :=
  fa K n v27 n 0 v26
def fi (K:Kn) (n:Nat) (v1:List aw) (v2:Int) (L1:Int→Int→Int→(List Int)→(List Int)→(List Int)→Option (List Int)) (v11 v12 v13:Int) (v14 v15 v16:List Int):Option (List Int) :=
  if (decide (v13<(v1.length:Int)))=true then
    chk (inb v13 v1.length) (
    (dK K n ((List.getD v1 (v13).toNat default).Least)).bind fun v17 =>
    chk (inb v13 v14.length) (
    (dK K n ((List.getD v1 (v13).toNat default).Most)).bind fun v18 =>
    chk (inb v13 (List.set v14 (v13).toNat v17).length) (
    chk (inb v13 v15.length) (
    (some (List.set v15 (v13).toNat (max v18 (List.getD (List.set v14 (v13).toNat v17) (v13).toNat default)))).bind fun v19 =>
    chk (inb v13 v19.length) (
    chk (inb v13 (List.set v14 (v13).toNat v17).length) (
    chk (inb v13 v16.length) (
    (some (List.set v16 (v13).toNat (w64 ((List.getD v19 (v13).toNat default) - (List.getD (List.set v14 (v13).toNat v17) (v13).toNat default))))).bind fun v20 =>
    chk (inb v13 (List.set v14 (v13).toNat v17).length) (
    (some (w64 (v11+(List.getD (List.set v14 (v13).toNat v17) (v13).toNat default)))).bind fun v21 =>
    chk (inb v13 v19.length) (
    L1 v21 (w64 (v12+(List.getD v19 (v13).toNat default))) (w64 (v13+1)) (List.set v14 (v13).toNat v17) v19 v20)))))))))
  else
    if (decide (v2≤v11))=true then
      some v14
    else
      if (decide (v2<v12))=true then
        (dK K n (w64 (v2 - v11))).bind fun v22 =>
        (eo K n v22 v16).bind fun v23 =>
        fM K n v14 v23
      else
        (dK K n (w64 (v2 - v12))).bind fun v24 =>
        (fz K n v24 v15).bind fun v25 =>
        fM K n v15 v25
def ex (K:Kn) (n:Nat) (v1:List aw) (v2:Int):Nat→Int→Int→Int→(List Int)→(List Int)→(List Int)→Option (List Int)
  | 0=>fun _ _ _ _ _ _=>none
  | m+1=>fi K n v1 v2 (ex K n v1 v2 m)
def eZ (K:Kn) (n:Nat) (v1:List aw) (v2:Int):Option (List Int) :=
  chk (mkb (v1.length:Int) 8) (
  (some (List.replicate ((v1.length:Int)).toNat (0:Int))).bind fun v3 =>
  chk (mkb (v1.length:Int) 8) (
  (some (List.replicate ((v1.length:Int)).toNat (0:Int))).bind fun v4 =>
  chk (mkb (v1.length:Int) 8) (
  (some (List.replicate ((v1.length:Int)).toNat (0:Int))).bind fun v5 =>
  ex K n v1 v2 n 0 0 0 v3 v4 v5)))
def cw (K:Kn) (n:Nat) (v3:Bool):Option Bool :=
  some v3
def fI (K:Kn) (n:Nat):Option Bool :=
  (iM K n [[⟨2,1⟩,⟨1,1⟩],[⟨1,1⟩]]).bind fun v1 =>
  (eZ K n [(⟨10,30⟩:aw),(⟨20,40⟩:aw)] 50).bind fun v2 =>
  if (v1.2 == 2)=true then
    if ((v1.1.length:Int) == 2)=true then
      chk (inb (1:Int) v1.1.length) (
      if (((List.getD v1.1 (1:Int).toNat default).length:Int) == 1)=true then
        chk (inb (1:Int) v1.1.length) (
        chk (inb (0:Int) (List.getD v1.1 (1:Int).toNat default).length) (
        if (qTTablePlace (List.getD (List.getD v1.1 (1:Int).toNat default) (0:Int).toNat default) (⟨1,1,1,1⟩:ac))=true then
          if ((v2.length:Int) == 2)=true then
            chk (inb (0:Int) v2.length) (
            if ((List.getD v2 (0:Int).toNat default) == 20)=true then
              chk (inb (1:Int) v2.length) (
              cw K n ((List.getD v2 (1:Int).toNat default) == 30))
            else
              cw K n false)
          else
            cw K n false
        else
          cw K n false))
      else
        cw K n false)
    else
      cw K n false
  else
    cw K n false
def cZ (K:Kn) (n:Nat) (v1:Int):Option Int :=
  some (min (max v1 0) 1048576)
def cP (K:Kn) (n:Nat) (v1 v2:Int):Option Int :=
  some (min (max v1 0) v2)
def fu (K:Kn) (n:Nat) (v27:Int) (v28 v29:List Int) (v33:Int) (L3:Int→(List Int)→(List Int)→Option (List Int)) (L4:Int→Int→Option (List Int)) (v35:Int):Option (List Int) :=
  L4 v35 (w64 (v33+1))
def fm (K:Kn) (n:Nat) (v27:Int) (v28 v29:List Int) (L3:Int→(List Int)→(List Int)→Option (List Int)) (L4:Int→Int→Option (List Int)) (v32 v33:Int):Option (List Int) :=
  if (decide (v33<(v29.length:Int)))=true then
    chk (inb v33 v29.length) (
    chk (inb v32 v29.length) (
    (some (decide ((List.getD v29 (v33).toNat default)>(List.getD v29 (v32).toNat default)))).bind fun v34 =>
    if v34=true then
      fu K n v27 v28 v29 v33 L3 L4 v33
    else
      fu K n v27 v28 v29 v33 L3 L4 v32))
  else
    chk (inb v32 v28.length) (
    chk (inb v32 v28.length) (
    (some (List.set v28 (v32).toNat (w64 ((List.getD v28 (v32).toNat default)+1)))).bind fun v36 =>
    chk (inb v32 v29.length) (
    L3 (w64 (v27 - 1)) v36 (List.set v29 (v32).toNat (-1)))))
def eQ (K:Kn) (n:Nat) (v27:Int) (v28 v29:List Int) (L3:Int→(List Int)→(List Int)→Option (List Int)):Nat→Int→Int→Option (List Int)
  | 0=>fun _ _=>none
  | m+1=>fm K n v27 v28 v29 L3 (eQ K n v27 v28 v29 L3 m)
def gx (K:Kn) (n:Nat) (L3:Int→(List Int)→(List Int)→Option (List Int)) (v27:Int) (v28 v29:List Int):Option (List Int) :=
  if (decide (v27>0))=true then
    eQ K n v27 v28 v29 L3 n 0 1
  else
    some v28
def cV (K:Kn) (n:Nat):Nat→Int→(List Int)→(List Int)→Option (List Int)
  | 0=>fun _ _ _=>none
  | m+1=>gx K n (cV K n m)
def fQ (K:Kn) (n:Nat) (v2:List Int) (v3 v5:Int) (L2:Int→Int→(List Int)→(List Int)→Option (List Int)) (v13 v14:Int) (v15 v16:List Int):Option (List Int) :=
  if (decide (v14<(v2.length:Int)))=true then
    chk (inb v14 v2.length) (
    (cP K n (List.getD v2 (v14).toNat default) 2147483647).bind fun v17 =>
    chk ((v5 != 0)) (
    chk (inb v14 v15.length) (
    (some (List.set v15 (v14).toNat (w64 (Int.tdiv (w64 (v3*v17)) v5)))).bind fun v18 =>
    chk ((v5 != 0)) (
    chk (inb v14 v16.length) (
    (some (List.set v16 (v14).toNat (Int.tmod (w64 (v3*v17)) v5))).bind fun v19 =>
    chk (inb v14 v18.length) (
    L2 (w64 (v13 - (List.getD v18 (v14).toNat default))) (w64 (v14+1)) v18 v19))))))
  else
    cV K n n v13 v15 v16
def dr (K:Kn) (n:Nat) (v2:List Int) (v3 v5:Int):Nat→Int→Int→(List Int)→(List Int)→Option (List Int)
  | 0=>fun _ _ _ _=>none
  | m+1=>fQ K n v2 v3 v5 (dr K n v2 v3 v5 m)
def fK (K:Kn) (n:Nat) (v2:List Int) (v3:Int) (L1:Int→Int→Option (List Int)) (v5 v6:Int):Option (List Int) :=
  if (decide (v6<(v2.length:Int)))=true then
    chk (inb v6 v2.length) (
    (cP K n (List.getD v2 (v6).toNat default) 2147483647).bind fun v7 =>
    L1 (w64 (v5+v7)) (w64 (v6+1)))
  else
    chk (mkb (v2.length:Int) 8) (
    (some (List.replicate ((v2.length:Int)).toNat (0:Int))).bind fun v8 =>
    chk (mkb (v2.length:Int) 8) (
    (some (List.replicate ((v2.length:Int)).toNat (0:Int))).bind fun v9 =>
    if (v5 == 0)=true then
      some v8
    else
      dr K n v2 v3 v5 n v3 0 v8 v9))
def eG (K:Kn) (n:Nat) (v2:List Int) (v3:Int):Nat→Int→Int→Option (List Int)
  | 0=>fun _ _=>none
  | m+1=>fK K n v2 v3 (eG K n v2 v3 m)
def dj (K:Kn) (n:Nat) (v1:Int) (v2:List Int):Option (List Int) :=
  (cP K n v1 2147483647).bind fun v3 =>
  eG K n v2 v3 n 0 0
def dT (K:Kn) (n:Nat) (v1:List aw) (v2 v8 v9 v11:Int) (v12 v13 v14:List Int) (v15 v16:Int) (L1:Int→Int→Bool→Int→(List Int)→(List Int)→(List Int)→Option (List Int)) (v17:Bool):Option (List Int) :=
  chk (fits (v12.length+([v15]:(List Int)).length) 8) (
  chk (fits (v13.length+([(w64 ((max v16 v15) - v15))]:(List Int)).length) 8) (
  chk (fits (v14.length+([(max v16 v15)]:(List Int)).length) 8) (
  L1 (w64 (v8+v15)) (w64 (v9+(max v16 v15))) v17 (w64 (v11+1)) (v12++[v15]) (v13++[(w64 ((max v16 v15) - v15))]) (v14++[(max v16 v15)]))))
def fU (K:Kn) (n:Nat) (v19:List Int) (L2:Int→(List Int)→Option (List Int)) (v20:Int) (v21:List Int):Option (List Int) :=
  if (decide (v20<(v21.length:Int)))=true then
    chk (inb v20 v21.length) (
    chk (inb v20 v19.length) (
    chk (inb v20 v21.length) (
    L2 (w64 (v20+1)) (List.set v21 (v20).toNat (w64 ((List.getD v21 (v20).toNat default)+(List.getD v19 (v20).toNat default)))))))
  else
    some v21
def dN (K:Kn) (n:Nat) (v19:List Int):Nat→Int→(List Int)→Option (List Int)
  | 0=>fun _ _=>none
  | m+1=>fU K n v19 (dN K n v19 m)
def gf (K:Kn) (n:Nat) (v27:List Int) (L4:Int→(List Int)→Option (List Int)) (v28:Int) (v29:List Int):Option (List Int) :=
  if (decide (v28<(v29.length:Int)))=true then
    chk (inb v28 v29.length) (
    chk (inb v28 v27.length) (
    chk (inb v28 v29.length) (
    L4 (w64 (v28+1)) (List.set v29 (v28).toNat (w64 ((List.getD v29 (v28).toNat default)+(List.getD v27 (v28).toNat default)))))))
  else
    some v29
def cS (K:Kn) (n:Nat) (v27:List Int):Nat→Int→(List Int)→Option (List Int)
  | 0=>fun _ _=>none
  | m+1=>gf K n v27 (cS K n v27 m)
def eO (K:Kn) (n:Nat) (v2 v9:Int) (v10:Bool) (v14:List Int) (v23:Int) (v24:List Int) (L3:Int→(List Int)→Option (List Int)) (v25:Bool):Option (List Int) :=
  if v25=true then
    chk (inb v23 v24.length) (
    L3 (w64 (v23+1)) (List.set v24 (v23).toNat 1))
  else
    (cZ K n (w64 (v2 - v9))).bind fun v26 =>
    (dj K n v26 v24).bind fun v27 =>
    cS K n v27 n 0 v14
def fX (K:Kn) (n:Nat) (v2 v9:Int) (v10:Bool) (v14:List Int) (L3:Int→(List Int)→Option (List Int)) (v23:Int) (v24:List Int):Option (List Int) :=
  if v10=true then
    eO K n v2 v9 v10 v14 v23 v24 L3 (decide (v23<(v24.length:Int)))
  else
    eO K n v2 v9 v10 v14 v23 v24 L3 false
def fc (K:Kn) (n:Nat) (v2 v9:Int) (v10:Bool) (v14:List Int):Nat→Int→(List Int)→Option (List Int)
  | 0=>fun _ _=>none
  | m+1=>fX K n v2 v9 v10 v14 (fc K n v2 v9 v10 v14 m)
def gc (K:Kn) (n:Nat) (v1:List aw) (v2:Int) (L1:Int→Int→Bool→Int→(List Int)→(List Int)→(List Int)→Option (List Int)) (v8 v9:Int) (v10:Bool) (v11:Int) (v12 v13 v14:List Int):Option (List Int) :=
  if (decide (v11<(v1.length:Int)))=true then
    chk (inb v11 v1.length) (
    (cZ K n ((List.getD v1 (v11).toNat default).Least)).bind fun v15 =>
    chk (inb v11 v1.length) (
    (cZ K n ((List.getD v1 (v11).toNat default).Most)).bind fun v16 =>
    if v10=true then
      dT K n v1 v2 v8 v9 v11 v12 v13 v14 v15 v16 L1 ((max v16 v15) == 0)
    else
      dT K n v1 v2 v8 v9 v11 v12 v13 v14 v15 v16 L1 false))
  else
    if (decide (v2≤v8))=true then
      some v12
    else
      if (decide (v2<v9))=true then
        (cZ K n (w64 (v2 - v8))).bind fun v18 =>
        (dj K n v18 v13).bind fun v19 =>
        dN K n v19 n 0 v12
      else
        chk (fits (([]:List Int).length+v14.length) 8) (
        fc K n v2 v9 v10 v14 n 0 (([]:List Int)++v14))
def dI (K:Kn) (n:Nat) (v1:List aw) (v2:Int):Nat→Int→Int→Bool→Int→(List Int)→(List Int)→(List Int)→Option (List Int)
  | 0=>fun _ _ _ _ _ _ _=>none
  | m+1=>gc K n v1 v2 (dI K n v1 v2 m)
def f8 (K:Kn) (n:Nat) (v1:List aw) (v2:Int):Option (List Int) :=
  dI K n v1 v2 n 0 0 true 0 [] [] []
def dq (K:Kn) (n:Nat) (v1:Int):Option Int :=
  some (min (max v1 0) 1048576)
def fH (K:Kn) (n:Nat) (v1:List aw) (v2:Int) (v4 v5:List Int) (v10 v11 v13 v14 v15 v16:Int) (L1:Int→Int→Int→Int→Option Bool) (v17:Bool):Option Bool :=
  if v17=true then
    some false
  else
    L1 (w64 (v10+v14)) (w64 (v11+(max v15 v14))) v16 (w64 (v13+1))
def eD (K:Kn) (n:Nat) (v1:List aw) (v2:Int) (v4:List Int) (v10 v11 v12 v21:Int) (L2:Int→Option Bool) (v24:Bool):Option Bool :=
  if v24=true then
    some false
  else
    L2 (w64 (v21+1))
def gy (K:Kn) (n:Nat) (v2 v10 v12:Int) (v25:Bool):Option Bool :=
  if v25=true then
    some true
  else
    some (v12 == (max v2 v10))
def fZ (K:Kn) (n:Nat) (v1:List aw) (v2:Int) (v4:List Int) (v10 v11 v12:Int) (L2:Int→Option Bool) (v21:Int):Option Bool :=
  if (decide (v21<(v1.length:Int)))=true then
    chk (inb v21 v1.length) (
    if (decide (v2≤v11))=true then
      chk (inb v21 v4.length) (
      (dq K n ((List.getD v1 (v21).toNat default).Most)).bind fun v22 =>
      (dq K n ((List.getD v1 (v21).toNat default).Least)).bind fun v23 =>
      eD K n v1 v2 v4 v10 v11 v12 v21 L2 (decide ((List.getD v4 (v21).toNat default)>(max v22 v23))))
    else
      eD K n v1 v2 v4 v10 v11 v12 v21 L2 false)
  else
    if ((v1.length:Int) == 0)=true then
      gy K n v2 v10 v12 true
    else
      gy K n v2 v10 v12 (decide (v2>1048576))
def dv (K:Kn) (n:Nat) (v1:List aw) (v2:Int) (v4:List Int) (v10 v11 v12:Int):Nat→Int→Option Bool
  | 0=>fun _=>none
  | m+1=>fZ K n v1 v2 v4 v10 v11 v12 (dv K n v1 v2 v4 v10 v11 v12 m)
def gz (K:Kn) (n:Nat) (v1:List aw) (v2:Int) (v4 v5:List Int) (L1:Int→Int→Int→Int→Option Bool) (v10 v11 v12 v13:Int):Option Bool :=
  if (decide (v13<(v1.length:Int)))=true then
    chk (inb v13 v1.length) (
    (dq K n ((List.getD v1 (v13).toNat default).Least)).bind fun v14 =>
    (dq K n ((List.getD v1 (v13).toNat default).Most)).bind fun v15 =>
    chk (inb v13 v4.length) (
    (some (w64 (v12+(List.getD v4 (v13).toNat default)))).bind fun v16 =>
    chk (inb v13 v4.length) (
    chk (inb v13 v5.length) (
    if ((List.getD v4 (v13).toNat default) != (List.getD v5 (v13).toNat default))=true then
      fH K n v1 v2 v4 v5 v10 v11 v13 v14 v15 v16 L1 true
    else
      chk (inb v13 v4.length) (
      fH K n v1 v2 v4 v5 v10 v11 v13 v14 v15 v16 L1 (decide ((List.getD v4 (v13).toNat default)<v14)))))))
  else
    dv K n v1 v2 v4 v10 v11 v12 n 0
def eH (K:Kn) (n:Nat) (v1:List aw) (v2:Int) (v4 v5:List Int):Nat→Int→Int→Int→Int→Option Bool
  | 0=>fun _ _ _ _=>none
  | m+1=>gz K n v1 v2 v4 v5 (eH K n v1 v2 v4 v5 m)
def ig (K:Kn) (n:Nat) (v1:List aw) (v2:Int):Option Bool :=
  (fI K n ).bind fun v3 =>
  if (!v3)=true then
    some false
  else
    if (decide ((v1.length:Int)>30))=true then
      some true
    else
      (eZ K n v1 v2).bind fun v4 =>
      (f8 K n v1 v2).bind fun v5 =>
      if ((v4.length:Int) != (v1.length:Int))=true then
        some false
      else
        eH K n v1 v2 v4 v5 n 0 0 0 0
def iA (K:Kn) (n:Nat) (v1:Int):Option Bool :=
  some (decide (v1>0))
def KN:Nat→Kn
  | 0=>⟨fun _ _ _ _ _=>none,fun _ _ _=>none,fun _ _=>none⟩
  | n+1=>⟨fun a0 a1 a2 a3 a4=>b9 (KN n) n a0 a1 a2 a3 a4,
    fun f a0 a1=>match f with | .fn i=>none | .c59 x0=>gt (KN n) n a0 a1 x0,
    fun f a0=>match f with | .fn i=>if Nat.beq i 62=true then iA (KN n) n a0 else none | .c59 x0=>none⟩
end
end Go.Proofs.Ytolhpahjgddjkaa
