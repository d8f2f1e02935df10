/- Layer 20's functions as plain Lean functions: K stands for calls that come back, n bounds the rounds of loops. Made by a program. -/
import Derived.Test.YtolhpahjgddjkaaCmGt
namespace Go.Proofs.Ytolhpahjgddjkaa
open Go.RowKit
set_option maxRecDepth 20000
set_option linter.all false
set_option linter.unusedVariables false
set_option linter.unusedSimpArgs false
noncomputable section
def kf (K:Kn) (n:Nat) (v1:List (List (V2 Int))) (v122:Int) (v123:List (List ab)) (v124:List TMp) (v139 v141 v142:Int) (v143:List ab) (L1:Int→Int→(List (List ab))→(List TMp)→Option ((List (List ab))×Int)) (L2:Int→Int→Int→Int→(List ab)→Option ((List (List ab))×Int)) (L3:Int→(V2 Int)→Option ((List (List ab))×Int)) (v146:Int) (v147:V2 Int):Option ((List (List ab))×Int) :=
  chk (inb v122 v124.length) (
  (some (mget (List.getD v124 (v122).toNat none) v146)).bind fun v148 =>
  if v148=true then
    L3 (w64 (v146+1)) v147
  else
    (some (min (max v147.a0 1) (w64 ((v1.length:Int) - v122)))).bind fun v149 =>
    chk (fits (v143.length+([(⟨v122,v146,v149,(min (max v147.a1 1) 100)⟩:ab)]:(List ab)).length) 32) (
    L2 (max v139 (w64 (v146+(min (max v147.a1 1) 100)))) (w64 (v146+(min (max v147.a1 1) 100))) v141 (w64 (v142+1)) (v143++[(⟨v122,v146,v149,(min (max v147.a1 1) 100)⟩:ab)])))
def jI (K:Kn) (n:Nat) (v1:List (List (V2 Int))) (v122:Int) (v123:List (List ab)) (v124:List TMp) (v139 v141 v142:Int) (v143:List ab) (L1:Int→Int→(List (List ab))→(List TMp)→Option ((List (List ab))×Int)) (L2:Int→Int→Int→Int→(List ab)→Option ((List (List ab))×Int)):Nat→Int→(V2 Int)→Option ((List (List ab))×Int)
  | 0=>fun _ _=>none
  | m+1=>kf K n v1 v122 v123 v124 v139 v141 v142 v143 L1 L2 (jI K n v1 v122 v123 v124 v139 v141 v142 v143 L1 L2 m)
def jy (K:Kn) (n:Nat) (v1:List (List (V2 Int))) (v122:Int) (v123:List (List ab)) (v139:Int) (v143:List ab) (v166 v175:Int) (L1:Int→Int→(List (List ab))→(List TMp)→Option ((List (List ab))×Int)) (L4 L5 L6:Int→(List TMp)→Option ((List (List ab))×Int)) (v181:Int) (v182:List TMp):Option ((List (List ab))×Int) :=
  (some (decide (v181<(w64 (((List.getD v143 (v166).toNat default).Col)+((List.getD v143 (v166).toNat default).Cols)))))).bind fun v183 =>
  if v183=true then
    chk (inb v175 v182.length) (
    chk (Option.isSome (List.getD v182 (v175).toNat none)) (
    L6 (w64 (v181+1)) (List.set v182 (v175).toNat (mput (List.getD v182 (v175).toNat none) v181 true))))
  else
    L5 (w64 (v175+1)) v182
def j7 (K:Kn) (n:Nat) (v1:List (List (V2 Int))) (v122:Int) (v123:List (List ab)) (v139:Int) (v143:List ab) (v166 v175:Int) (L1:Int→Int→(List (List ab))→(List TMp)→Option ((List (List ab))×Int)) (L4 L5:Int→(List TMp)→Option ((List (List ab))×Int)):Nat→Int→(List TMp)→Option ((List (List ab))×Int)
  | 0=>fun _ _=>none
  | m+1=>jy K n v1 v122 v123 v139 v143 v166 v175 L1 L4 L5 (j7 K n v1 v122 v123 v139 v143 v166 v175 L1 L4 L5 m)
def jw (K:Kn) (n:Nat) (v1:List (List (V2 Int))) (v122:Int) (v123:List (List ab)) (v139:Int) (v143:List ab) (v166 v175:Int) (L1:Int→Int→(List (List ab))→(List TMp)→Option ((List (List ab))×Int)) (L4 L5:Int→(List TMp)→Option ((List (List ab))×Int)) (v179:List TMp):Option ((List (List ab))×Int) :=
  j7 K n v1 v122 v123 v139 v143 v166 v175 L1 L4 L5 n ((List.getD v143 (v166).toNat default).Col) v179
def jz (K:Kn) (n:Nat) (v1:List (List (V2 Int))) (v122:Int) (v123:List (List ab)) (v139:Int) (v143:List ab) (v166:Int) (L1:Int→Int→(List (List ab))→(List TMp)→Option ((List (List ab))×Int)) (L4 L5:Int→(List TMp)→Option ((List (List ab))×Int)) (v175:Int) (v176:List TMp):Option ((List (List ab))×Int) :=
  (some (decide (v175<(w64 (v122+((List.getD v143 (v166).toNat default).Rows)))))).bind fun v177 =>
  if v177=true then
    chk (inb v175 v176.length) (
    (some (Option.isNone (List.getD v176 (v175).toNat none))).bind fun v178 =>
    if v178=true then
      chk (inb v175 v176.length) (
      jw K n v1 v122 v123 v139 v143 v166 v175 L1 L4 L5 (List.set v176 (v175).toNat (some [])))
    else
      jw K n v1 v122 v123 v139 v143 v166 v175 L1 L4 L5 v176)
  else
    L4 (w64 (v166+1)) v176
def jP (K:Kn) (n:Nat) (v1:List (List (V2 Int))) (v122:Int) (v123:List (List ab)) (v139:Int) (v143:List ab) (v166:Int) (L1:Int→Int→(List (List ab))→(List TMp)→Option ((List (List ab))×Int)) (L4:Int→(List TMp)→Option ((List (List ab))×Int)):Nat→Int→(List TMp)→Option ((List (List ab))×Int)
  | 0=>fun _ _=>none
  | m+1=>jz K n v1 v122 v123 v139 v143 v166 L1 L4 (jP K n v1 v122 v123 v139 v143 v166 L1 L4 m)
def jD (K:Kn) (n:Nat) (v1:List (List (V2 Int))) (v122:Int) (v123:List (List ab)) (v139:Int) (v143:List ab) (L1:Int→Int→(List (List ab))→(List TMp)→Option ((List (List ab))×Int)) (L4:Int→(List TMp)→Option ((List (List ab))×Int)) (v166:Int) (v167:List TMp):Option ((List (List ab))×Int) :=
  if (decide (v166<(v143.length:Int)))=true then
    chk (inb v166 v143.length) (
    jP K n v1 v122 v123 v139 v143 v166 L1 L4 n (w64 (v122+1)) v167)
  else
    chk (fits (v123.length+([v143]:(List (List ab))).length) 24) (
    L1 v139 (w64 (v122+1)) (v123++[v143]) v167)
def kb (K:Kn) (n:Nat) (v1:List (List (V2 Int))) (v122:Int) (v123:List (List ab)) (v139:Int) (v143:List ab) (L1:Int→Int→(List (List ab))→(List TMp)→Option ((List (List ab))×Int)):Nat→Int→(List TMp)→Option ((List (List ab))×Int)
  | 0=>fun _ _=>none
  | m+1=>jD K n v1 v122 v123 v139 v143 L1 (kb K n v1 v122 v123 v139 v143 L1 m)
def ju (K:Kn) (n:Nat) (v1:List (List (V2 Int))) (v122:Int) (v123:List (List ab)) (v124:List TMp) (L1:Int→Int→(List (List ab))→(List TMp)→Option ((List (List ab))×Int)) (L2:Int→Int→Int→Int→(List ab)→Option ((List (List ab))×Int)) (v139 v140 v141 v142:Int) (v143:List ab):Option ((List (List ab))×Int) :=
  if (decide (v142<v141))=true then
    chk (inb v142 (List.getD v1 (v122).toNat default).length) (
    jI K n v1 v122 v123 v124 v139 v141 v142 v143 L1 L2 n v140 (List.getD (List.getD v1 (v122).toNat default) (v142).toNat default))
  else
    kb K n v1 v122 v123 v139 v143 L1 n 0 v124
def j8 (K:Kn) (n:Nat) (v1:List (List (V2 Int))) (v122:Int) (v123:List (List ab)) (v124:List TMp) (L1:Int→Int→(List (List ab))→(List TMp)→Option ((List (List ab))×Int)):Nat→Int→Int→Int→Int→(List ab)→Option ((List (List ab))×Int)
  | 0=>fun _ _ _ _ _=>none
  | m+1=>ju K n v1 v122 v123 v124 L1 (j8 K n v1 v122 v123 v124 L1 m)
def jS (K:Kn) (n:Nat) (v1:List (List (V2 Int))) (L1:Int→Int→(List (List ab))→(List TMp)→Option ((List (List ab))×Int)) (v121 v122:Int) (v123:List (List ab)) (v124:List TMp):Option ((List (List ab))×Int) :=
  if (decide (v122<(v1.length:Int)))=true then
    chk (inb v122 v1.length) (
    j8 K n v1 v122 v123 v124 L1 n v121 0 ((List.getD v1 (v122).toNat default).length:Int) 0 [])
  else
    some (v123,v121)
def kh (K:Kn) (n:Nat) (v1:List (List (V2 Int))):Nat→Int→Int→(List (List ab))→(List TMp)→Option ((List (List ab))×Int)
  | 0=>fun _ _ _ _=>none
  | m+1=>jS K n v1 (kh K n v1 m)
def kB (K:Kn) (n:Nat) (v1:List (List (V2 Int))):Option ((List (List ab))×Int) :=
  chk (mkb (v1.length:Int) 8) (
  (some (List.replicate ((v1.length:Int)).toNat (none:TMp))).bind fun v2 =>
  kh K n v1 n 0 0 [] v2)
def c9 (K:Kn) (n:Nat) (v1:Int):Option Int :=
  some (min (max v1 0) 1048576)
def dN (K:Kn) (n:Nat) (v1 v2:Int):Option Int :=
  some (min (max v1 0) v2)
def gj (K:Kn) (n:Nat) (v2 v3:Int) (v4:Fv) (v11 v15:Int) (v16:List Int) (L1 L2:Int→(List Int)→Option (List Int)) (v18:Bool):Option (List Int) :=
  if v18=true then
    chk (inb (w64 (v15 - 1)) v16.length) (
    chk (inb v15 v16.length) (
    chk (inb v15 v16.length) (
    chk (inb (w64 (v15 - 1)) (List.set v16 (v15).toNat (List.getD v16 ((w64 (v15 - 1))).toNat default)).length) (
    L2 (w64 (v15 - 1)) (List.set (List.set v16 (v15).toNat (List.getD v16 ((w64 (v15 - 1))).toNat default)) ((w64 (v15 - 1))).toNat (List.getD v16 (v15).toNat default))))))
  else
    L1 (w64 (v11+1)) v16
def iR (K:Kn) (n:Nat) (v2 v3:Int) (v4:Fv) (v11:Int) (L1 L2:Int→(List Int)→Option (List Int)) (v15:Int) (v16:List Int):Option (List Int) :=
  if (decide (v15>v2))=true then
    chk (inb v15 v16.length) (
    chk (inb (w64 (v15 - 1)) v16.length) (
    (K.bZ v4 (List.getD v16 (v15).toNat default) (List.getD v16 ((w64 (v15 - 1))).toNat default)).bind fun v17 =>
    gj K n v2 v3 v4 v11 v15 v16 L1 L2 (decide (v17<0))))
  else
    gj K n v2 v3 v4 v11 v15 v16 L1 L2 false
def fU (K:Kn) (n:Nat) (v2 v3:Int) (v4:Fv) (v11:Int) (L1:Int→(List Int)→Option (List Int)):Nat→Int→(List Int)→Option (List Int)
  | 0=>fun _ _=>none
  | m+1=>iR K n v2 v3 v4 v11 L1 (fU K n v2 v3 v4 v11 L1 m)
def gl (K:Kn) (n:Nat) (v2 v3:Int) (v4:Fv) (L1:Int→(List Int)→Option (List Int)) (v11:Int) (v12:List Int):Option (List Int) :=
  if (decide (v11<v3))=true then
    fU K n v2 v3 v4 v11 L1 n v11 v12
  else
    some v12
def d6 (K:Kn) (n:Nat) (v2 v3:Int) (v4:Fv):Nat→Int→(List Int)→Option (List Int)
  | 0=>fun _ _=>none
  | m+1=>gl K n v2 v3 v4 (d6 K n v2 v3 v4 m)
def fA (K:Kn) (n:Nat) (v1:List Int) (v2 v3:Int) (v4:Fv):Option (List Int) :=
  d6 K n v2 v3 v4 n (w64 (v2+1)) v1
def i8 (K:Kn) (n:Nat) (v2 v3 v4:Int) (L1:Int→(List Int)→Option (List Int)) (v6:Int) (v7:List Int):Option (List Int) :=
  if (decide (v6<v4))=true then
    chk (inb (w64 (v3+v6)) v7.length) (
    chk (inb (w64 (v2+v6)) v7.length) (
    chk (inb (w64 (v2+v6)) v7.length) (
    chk (inb (w64 (v3+v6)) (List.set v7 ((w64 (v2+v6))).toNat (List.getD v7 ((w64 (v3+v6))).toNat default)).length) (
    L1 (w64 (v6+1)) (List.set (List.set v7 ((w64 (v2+v6))).toNat (List.getD v7 ((w64 (v3+v6))).toNat default)) ((w64 (v3+v6))).toNat (List.getD v7 ((w64 (v2+v6))).toNat default))))))
  else
    some v7
def fg (K:Kn) (n:Nat) (v2 v3 v4:Int):Nat→Int→(List Int)→Option (List Int)
  | 0=>fun _ _=>none
  | m+1=>i8 K n v2 v3 v4 (fg K n v2 v3 v4 m)
def eU (K:Kn) (n:Nat) (v1:List Int) (v2 v3 v4:Int) (v5:Fv):Option (List Int) :=
  fg K n v2 v3 v4 n 0 v1
def gu (K:Kn) (n:Nat) (v3:Int) (v5:Fv) (L1:Int→Int→(List Int)→Option (List Int)) (v16 v17:Int) (v18:List Int):Option (List Int) :=
  L1 v16 v17 v18
def iS (K:Kn) (n:Nat) (v3:Int) (v5:Fv) (L1:Int→Int→(List Int)→Option (List Int)) (v11 v12:Int) (v13:List Int):Option (List Int) :=
  if (v11 != v12)=true then
    if (decide (v11>v12))=true then
      (eU K n v13 (w64 (v3 - v11)) v3 v12 v5).bind fun v14 =>
      gu K n v3 v5 L1 (w64 (v11 - v12)) v12 v14
    else
      (eU K n v13 (w64 (v3 - v11)) (w64 ((w64 (v3+v12)) - v11)) v11 v5).bind fun v15 =>
      gu K n v3 v5 L1 v11 (w64 (v12 - v11)) v15
  else
    (eU K n v13 (w64 (v3 - v11)) v3 v11 v5).bind fun v19 =>
    some v19
def fv (K:Kn) (n:Nat) (v3:Int) (v5:Fv):Nat→Int→Int→(List Int)→Option (List Int)
  | 0=>fun _ _ _=>none
  | m+1=>iS K n v3 v5 (fv K n v3 v5 m)
def i7 (K:Kn) (n:Nat) (v1:List Int) (v2 v3 v4:Int) (v5:Fv):Option (List Int) :=
  fv K n v3 v5 n (w64 (v3 - v2)) (w64 (v4 - v3)) v1
def gQ (K:Kn) (n:Nat) (v1:List Int) (v2:Int) (v5:Fv) (L1:Int→Int→Option (List Int)) (v14 v15:Int):Option (List Int) :=
  L1 v14 v15
def jl (K:Kn) (n:Nat) (v10:Int) (L2:Int→(List Int)→Option (List Int)) (v16:Int) (v17:List Int):Option (List Int) :=
  if (decide (v16<(w64 (v10 - 1))))=true then
    chk (inb (w64 (v16+1)) v17.length) (
    chk (inb v16 v17.length) (
    chk (inb v16 v17.length) (
    chk (inb (w64 (v16+1)) (List.set v17 (v16).toNat (List.getD v17 ((w64 (v16+1))).toNat default)).length) (
    L2 (w64 (v16+1)) (List.set (List.set v17 (v16).toNat (List.getD v17 ((w64 (v16+1))).toNat default)) ((w64 (v16+1))).toNat (List.getD v17 (v16).toNat default))))))
  else
    some v17
def fd (K:Kn) (n:Nat) (v10:Int):Nat→Int→(List Int)→Option (List Int)
  | 0=>fun _ _=>none
  | m+1=>jl K n v10 (fd K n v10 m)
def jq (K:Kn) (n:Nat) (v1:List Int) (v2:Int) (v5:Fv) (L1:Int→Int→Option (List Int)) (v10 v11:Int):Option (List Int) :=
  if (decide (v10<v11))=true then
    (some (w64 ((IntKind.wrap .u64 (w64 (v10+v11))) / 2))).bind fun v12 =>
    chk (inb v12 v1.length) (
    chk (inb v2 v1.length) (
    (K.bZ v5 (List.getD v1 (v12).toNat default) (List.getD v1 (v2).toNat default)).bind fun v13 =>
    if (decide (v13<0))=true then
      gQ K n v1 v2 v5 L1 (w64 (v12+1)) v11
    else
      gQ K n v1 v2 v5 L1 v10 v12))
  else
    fd K n v10 n v2 v1
def gz (K:Kn) (n:Nat) (v1:List Int) (v2:Int) (v5:Fv):Nat→Int→Int→Option (List Int)
  | 0=>fun _ _=>none
  | m+1=>jq K n v1 v2 v5 (gz K n v1 v2 v5 m)
def gG (K:Kn) (n:Nat) (v1:List Int) (v3:Int) (v5:Fv) (L3:Int→Int→Option (List Int)) (v26 v27:Int):Option (List Int) :=
  L3 v26 v27
def im (K:Kn) (n:Nat) (v22:Int) (L4:Int→(List Int)→Option (List Int)) (v28:Int) (v29:List Int):Option (List Int) :=
  if (decide (v28>v22))=true then
    chk (inb (w64 (v28 - 1)) v29.length) (
    chk (inb v28 v29.length) (
    chk (inb v28 v29.length) (
    chk (inb (w64 (v28 - 1)) (List.set v29 (v28).toNat (List.getD v29 ((w64 (v28 - 1))).toNat default)).length) (
    L4 (w64 (v28 - 1)) (List.set (List.set v29 (v28).toNat (List.getD v29 ((w64 (v28 - 1))).toNat default)) ((w64 (v28 - 1))).toNat (List.getD v29 (v28).toNat default))))))
  else
    some v29
def eC (K:Kn) (n:Nat) (v22:Int):Nat→Int→(List Int)→Option (List Int)
  | 0=>fun _ _=>none
  | m+1=>im K n v22 (eC K n v22 m)
def ii (K:Kn) (n:Nat) (v1:List Int) (v3:Int) (v5:Fv) (L3:Int→Int→Option (List Int)) (v22 v23:Int):Option (List Int) :=
  if (decide (v22<v23))=true then
    (some (w64 ((IntKind.wrap .u64 (w64 (v22+v23))) / 2))).bind fun v24 =>
    chk (inb v3 v1.length) (
    chk (inb v24 v1.length) (
    (K.bZ v5 (List.getD v1 (v3).toNat default) (List.getD v1 (v24).toNat default)).bind fun v25 =>
    if (!(decide (v25<0)))=true then
      gG K n v1 v3 v5 L3 (w64 (v24+1)) v23
    else
      gG K n v1 v3 v5 L3 v22 v24))
  else
    eC K n v22 n v3 v1
def fi (K:Kn) (n:Nat) (v1:List Int) (v3:Int) (v5:Fv):Nat→Int→Int→Option (List Int)
  | 0=>fun _ _=>none
  | m+1=>ii K n v1 v3 v5 (fi K n v1 v3 v5 m)
def ik (K:Kn) (n:Nat) (v1:List Int) (v2 v3 v4:Int) (v5:Fv) (v30 v31:Int) (L5:Int→Int→Option (List Int)) (v43 v44:Int):Option (List Int) :=
  L5 v43 v44
def iK (K:Kn) (n:Nat) (v53:List Int):Option (List Int) :=
  some v53
def fr (K:Kn) (n:Nat) (v4:Int) (v5:Fv) (v30 v31 v39:Int) (v50:List Int) (v51:Bool):Option (List Int) :=
  if v51=true then
    (K.cS v50 v30 (w64 (v31 - v39)) v4 v5).bind fun v52 =>
    iK K n v52
  else
    iK K n v50
def dq (K:Kn) (n:Nat) (v4:Int) (v5:Fv) (v30 v31 v39:Int) (v50:List Int):Option (List Int) :=
  if (decide (v30<(w64 (v31 - v39))))=true then
    fr K n v4 v5 v30 v31 v39 v50 (decide ((w64 (v31 - v39))<v4))
  else
    fr K n v4 v5 v30 v31 v39 v50 false
def ft (K:Kn) (n:Nat) (v2 v4:Int) (v5:Fv) (v30 v31 v39:Int) (v47:List Int) (v48:Bool):Option (List Int) :=
  if v48=true then
    (K.cS v47 v2 v39 v30 v5).bind fun v49 =>
    dq K n v4 v5 v30 v31 v39 v49
  else
    dq K n v4 v5 v30 v31 v39 v47
def e7 (K:Kn) (n:Nat) (v2 v4:Int) (v5:Fv) (v30 v31 v39:Int) (v47:List Int):Option (List Int) :=
  if (decide (v2<v39))=true then
    ft K n v2 v4 v5 v30 v31 v39 v47 (decide (v39<v30))
  else
    ft K n v2 v4 v5 v30 v31 v39 v47 false
def cv (K:Kn) (n:Nat) (v1:List Int) (v2 v3 v4:Int) (v5:Fv) (v30 v31 v39:Int) (v45:Bool):Option (List Int) :=
  if v45=true then
    (i7 K n v1 v39 v3 (w64 (v31 - v39)) v5).bind fun v46 =>
    e7 K n v2 v4 v5 v30 v31 v39 v46
  else
    e7 K n v2 v4 v5 v30 v31 v39 v1
def gN (K:Kn) (n:Nat) (v1:List Int) (v2 v3 v4:Int) (v5:Fv) (v30 v31:Int) (L5:Int→Int→Option (List Int)) (v39 v40:Int):Option (List Int) :=
  if (decide (v39<v40))=true then
    (some (w64 ((IntKind.wrap .u64 (w64 (v39+v40))) / 2))).bind fun v41 =>
    chk (inb (w64 ((w64 (v31 - 1)) - v41)) v1.length) (
    chk (inb v41 v1.length) (
    (K.bZ v5 (List.getD v1 ((w64 ((w64 (v31 - 1)) - v41))).toNat default) (List.getD v1 (v41).toNat default)).bind fun v42 =>
    if (!(decide (v42<0)))=true then
      ik K n v1 v2 v3 v4 v5 v30 v31 L5 (w64 (v41+1)) v40
    else
      ik K n v1 v2 v3 v4 v5 v30 v31 L5 v39 v41))
  else
    if (decide (v39<v3))=true then
      cv K n v1 v2 v3 v4 v5 v30 v31 v39 (decide (v3<(w64 (v31 - v39))))
    else
      cv K n v1 v2 v3 v4 v5 v30 v31 v39 false
def eb (K:Kn) (n:Nat) (v1:List Int) (v2 v3 v4:Int) (v5:Fv) (v30 v31:Int):Nat→Int→Int→Option (List Int)
  | 0=>fun _ _=>none
  | m+1=>gN K n v1 v2 v3 v4 v5 v30 v31 (eb K n v1 v2 v3 v4 v5 v30 v31 m)
def gp (K:Kn) (n:Nat) (v1:List Int) (v2 v3 v4:Int) (v5:Fv) (v30 v31 v33 v34:Int):Option (List Int) :=
  eb K n v1 v2 v3 v4 v5 v30 v31 n v33 v34
def cJ (K:Kn) (n:Nat) (v1:List Int) (v2 v3 v4:Int) (v5:Fv):Option (List Int) :=
  if ((w64 (v3 - v2)) == 1)=true then
    gz K n v1 v2 v5 n v3 v4
  else
    if ((w64 (v4 - v3)) == 1)=true then
      fi K n v1 v3 v5 n v2 v3
    else
      (some (w64 ((IntKind.wrap .u64 (w64 (v2+v4))) / 2))).bind fun v30 =>
      (some (w64 ((w64 ((IntKind.wrap .u64 (w64 (v2+v4))) / 2))+v3))).bind fun v31 =>
      (some (decide (v3>(w64 ((IntKind.wrap .u64 (w64 (v2+v4))) / 2))))).bind fun v32 =>
      if v32=true then
        gp K n v1 v2 v3 v4 v5 v30 v31 (w64 (v31 - v4)) v30
      else
        gp K n v1 v2 v3 v4 v5 v30 v31 v2 v3
def il (K:Kn) (n:Nat) (v2:Int) (v3:Fv) (v17:Int) (L2:Int→(List Int)→Option (List Int)) (v25:List Int):Option (List Int) :=
  L2 (w64 (v17*2)) v25
def ix (K:Kn) (n:Nat) (v2:Int) (v3:Fv) (v17:Int) (L2:Int→(List Int)→Option (List Int)) (L3:Int→Int→(List Int)→Option (List Int)) (v20 v21:Int) (v22:List Int):Option (List Int) :=
  if (decide (v21≤v2))=true then
    (cJ K n v22 v20 (w64 (v20+v17)) v21 v3).bind fun v23 =>
    L3 v21 (w64 (v21+(w64 (2*v17)))) v23
  else
    if (decide ((w64 (v20+v17))<v2))=true then
      (cJ K n v22 v20 (w64 (v20+v17)) v2 v3).bind fun v24 =>
      il K n v2 v3 v17 L2 v24
    else
      il K n v2 v3 v17 L2 v22
def fI (K:Kn) (n:Nat) (v2:Int) (v3:Fv) (v17:Int) (L2:Int→(List Int)→Option (List Int)):Nat→Int→Int→(List Int)→Option (List Int)
  | 0=>fun _ _ _=>none
  | m+1=>ix K n v2 v3 v17 L2 (fI K n v2 v3 v17 L2 m)
def iU (K:Kn) (n:Nat) (v2:Int) (v3:Fv) (L2:Int→(List Int)→Option (List Int)) (v17:Int) (v18:List Int):Option (List Int) :=
  if (decide (v17<v2))=true then
    fI K n v2 v3 v17 L2 n 0 (w64 (2*v17)) v18
  else
    some v18
def dC (K:Kn) (n:Nat) (v2:Int) (v3:Fv):Nat→Int→(List Int)→Option (List Int)
  | 0=>fun _ _=>none
  | m+1=>iU K n v2 v3 (dC K n v2 v3 m)
def je (K:Kn) (n:Nat) (v2:Int) (v3:Fv) (L1:Int→Int→(List Int)→Option (List Int)) (v5 v6:Int) (v7:List Int):Option (List Int) :=
  if (decide (v6≤v2))=true then
    (fA K n v7 v5 v6 v3).bind fun v8 =>
    L1 v6 (w64 (v6+20)) v8
  else
    (fA K n v7 v5 v2 v3).bind fun v9 =>
    dC K n v2 v3 n 20 v9
def fF (K:Kn) (n:Nat) (v2:Int) (v3:Fv):Nat→Int→Int→(List Int)→Option (List Int)
  | 0=>fun _ _ _=>none
  | m+1=>je K n v2 v3 (fF K n v2 v3 m)
def jZ (K:Kn) (n:Nat) (v1:List Int) (v2:Int) (v3:Fv):Option (List Int) :=
  fF K n v2 v3 n 0 20 v1
def cY (K:Kn) (n:Nat) (v1:List Int) (v2:Fv):Option (List Int) :=
  (jZ K n v1 (v1.length:Int) v2).bind fun v3 =>
  some v3
def gc (K:Kn) (n:Nat) (v1:Int):Option Bool :=
  some (v1 != v1)
def gb (K:Kn) (n:Nat) (v1 v2:Int):Option Int :=
  (gc K n v1).bind fun v3 =>
  (gc K n v2).bind fun v4 =>
  if v3=true then
    if v4=true then
      some 0
    else
      some (-1)
  else
    if v4=true then
      some 1
    else
      if (decide (v1<v2))=true then
        some (-1)
      else
        if (decide (v1>v2))=true then
          some 1
        else
          some 0
def gC (K:Kn) (n:Nat) (v1 v2:Int) (v3:List Int):Option Int :=
  chk (inb v2 v3.length) (
  chk (inb v1 v3.length) (
  (gb K n (List.getD v3 (v2).toNat default) (List.getD v3 (v1).toNat default)).bind fun v4 =>
  some v4))
def iC (K:Kn) (n:Nat) (L3:(List Int)→Int→Int→(List Int)→Option (List Int)) (v26:List Int) (v27 v28:Int) (v29:List Int):Option (List Int) :=
  if (decide (v28<v27))=true then
    chk (inb v28 v26.length) (
    chk (inb (List.getD v26 (v28).toNat default) v29.length) (
    chk (inb (List.getD v26 (v28).toNat default) v29.length) (
    L3 v26 v27 (w64 (v28+1)) (List.set v29 ((List.getD v26 (v28).toNat default)).toNat (w64 ((List.getD v29 ((List.getD v26 (v28).toNat default)).toNat default)+1))))))
  else
    some v29
def eG (K:Kn) (n:Nat):Nat→(List Int)→Int→Int→(List Int)→Option (List Int)
  | 0=>fun _ _ _ _=>none
  | m+1=>iC K n (eG K n m)
def iT (K:Kn) (n:Nat) (v2:List Int) (v3 v8:Int) (L2:Int→Int→(List Int)→(List Int)→(List Int)→Option (List Int)) (v14 v15:Int) (v16 v17 v18:List Int):Option (List Int) :=
  if (decide (v15<(v2.length:Int)))=true then
    chk (inb v15 v2.length) (
    (dN K n (List.getD v2 (v15).toNat default) 2147483647).bind fun v19 =>
    chk ((v8 != 0)) (
    chk ((v8 != 0)) (
    chk (inb v15 v16.length) (
    chk (inb v15 v17.length) (
    chk (inb v15 v18.length) (
    (some (List.set v16 (v15).toNat (w64 (Int.tdiv (w64 (v3*v19)) v8)))).bind fun v20 =>
    (some (List.set v17 (v15).toNat (Int.tmod (w64 (v3*v19)) v8))).bind fun v21 =>
    chk (inb v15 v20.length) (
    L2 (w64 (v14 - (List.getD v20 (v15).toNat default))) (w64 (v15+1)) v20 v21 (List.set v18 (v15).toNat v15))))))))
  else
    (cY K n v18 (Fv.c59 v17)).bind fun v22 =>
    chk (slb (0:Int) v14 v22.length) (
    eG K n n (List.drop ((0:Int)).toNat (List.take (v14).toNat v22)) ((List.drop ((0:Int)).toNat (List.take (v14).toNat v22)).length:Int) 0 v16)
def eP (K:Kn) (n:Nat) (v2:List Int) (v3 v8:Int):Nat→Int→Int→(List Int)→(List Int)→(List Int)→Option (List Int)
  | 0=>fun _ _ _ _ _=>none
  | m+1=>iT K n v2 v3 v8 (eP K n v2 v3 v8 m)
def jh (K:Kn) (n:Nat) (v2:List Int) (v3:Int) (v4 v5 v6:List Int) (L1:Int→Int→Option (List Int)) (v8 v9:Int):Option (List Int) :=
  if (decide (v9<(v2.length:Int)))=true then
    chk (inb v9 v2.length) (
    (dN K n (List.getD v2 (v9).toNat default) 2147483647).bind fun v10 =>
    L1 (w64 (v8+v10)) (w64 (v9+1)))
  else
    if (v8 == 0)=true then
      some v4
    else
      eP K n v2 v3 v8 n v3 0 v4 v5 v6
def gr (K:Kn) (n:Nat) (v2:List Int) (v3:Int) (v4 v5 v6:List Int):Nat→Int→Int→Option (List Int)
  | 0=>fun _ _=>none
  | m+1=>jh K n v2 v3 v4 v5 v6 (gr K n v2 v3 v4 v5 v6 m)
def fE (K:Kn) (n:Nat) (v1:Int) (v2:List Int):Option (List Int) :=
  (dN K n v1 2147483647).bind fun v3 =>
  chk (mkb (v2.length:Int) 8) (
  (some (List.replicate ((v2.length:Int)).toNat (0:Int))).bind fun v4 =>
  chk (mkb (v2.length:Int) 8) (
  (some (List.replicate ((v2.length:Int)).toNat (0:Int))).bind fun v5 =>
  chk (mkb (v2.length:Int) 8) (
  (some (List.replicate ((v2.length:Int)).toNat (0:Int))).bind fun v6 =>
  gr K n v2 v3 v4 v5 v6 n 0 0)))
def gP (K:Kn) (n:Nat) (v1:List Int) (v2:Fv) (L1:Int→Option Int) (v4:Int):Option Int :=
  if (decide (v4<(v1.length:Int)))=true then
    chk (inb v4 v1.length) (
    (K.gH v2 (List.getD v1 (v4).toNat default)).bind fun v5 =>
    if v5=true then
      some v4
    else
      L1 (w64 (v4+1)))
  else
    some (-1)
def fH (K:Kn) (n:Nat) (v1:List Int) (v2:Fv):Nat→Int→Option Int
  | 0=>fun _=>none
  | m+1=>gP K n v1 v2 (fH K n v1 v2 m)
def kg (K:Kn) (n:Nat) (v1:List Int) (v2:Fv):Option Int :=
  fH K n v1 v2 n 0
def gO (K:Kn) (n:Nat) (v1:List Int) (v2:Fv):Option Bool :=
  (kg K n v1 v2).bind fun v3 =>
  some (decide (v3≥0))
def jY (K:Kn) (n:Nat) (v1 v2:Int):Option (Int×Int) :=
  some ((IntKind.wrap .u64 ((IntKind.wrap .u64 ((IntKind.wrap .u64 ((v1 / 4294967296)*(v2 / 4294967296)))+((IntKind.wrap .u64 ((IntKind.wrap .u64 ((v1 / 4294967296)*(iand .u64 v2 4294967295)))+((IntKind.wrap .u64 ((iand .u64 v1 4294967295)*(iand .u64 v2 4294967295))) / 4294967296))) / 4294967296)))+((IntKind.wrap .u64 ((iand .u64 (IntKind.wrap .u64 ((IntKind.wrap .u64 ((v1 / 4294967296)*(iand .u64 v2 4294967295)))+((IntKind.wrap .u64 ((iand .u64 v1 4294967295)*(iand .u64 v2 4294967295))) / 4294967296))) 4294967295)+(IntKind.wrap .u64 ((iand .u64 v1 4294967295)*(v2 / 4294967296))))) / 4294967296))),(IntKind.wrap .u64 (v1*v2)))
def gA (K:Kn) (n:Nat) (v1 v2:Int):Option (Int×Int) :=
  (jY K n v1 v2).bind fun v3 =>
  some (v3.1,v3.2)
def jk (K:Kn) (n:Nat) (L1:Int→(List Int)→Option (List Int)) (v7:Int) (v8:List Int):Option (List Int) :=
  if (decide (v7<(v8.length:Int)))=true then
    chk (slb v7 (v8.length:Int) v8.length) (
    chk (slb (0:Int) v7 v8.length) (
    chk (cpb ((v7).toNat) (((v8.length:Int)).toNat - (v7).toNat) v8.length ((0:Int).toNat) ((v7).toNat - (0:Int).toNat) v8.length) (
    L1 (w64 (v7+((min ((v7).toNat - (0:Int).toNat) (((v8.length:Int)).toNat - (v7).toNat):Nat):Int))) (cpy v8 ((v7).toNat) (((v8.length:Int)).toNat - (v7).toNat) v8 ((0:Int).toNat) ((v7).toNat - (0:Int).toNat)))))
  else
    some v8
def gy (K:Kn) (n:Nat):Nat→Int→(List Int)→Option (List Int)
  | 0=>fun _ _=>none
  | m+1=>jk K n (gy K n m)
def gL (K:Kn) (n:Nat) (v1:List Int) (v3:Int×Int) (v4:Bool):Option (List Int) :=
  if v4=true then
    none
  else
    chk (mkb (w64 v3.2) 8) (
    (some (List.replicate ((w64 v3.2)).toNat (0:Int))).bind fun v5 =>
    chk (cpb 0 v5.length v5.length 0 v1.length v1.length) (
    gy K n n ((min v1.length v5.length:Nat):Int) (cpy v5 0 v5.length v1 0 v1.length)))
def gI (K:Kn) (n:Nat) (v1:List Int) (v2:Int):Option (List Int) :=
  if (decide (v2<0))=true then
    none
  else
    (gA K n (IntKind.wrap .u64 (v1.length:Int)) (IntKind.wrap .u64 v2)).bind fun v3 =>
    if (decide (v3.1>0))=true then
      gL K n v1 v3 true
    else
      gL K n v1 v3 (decide (v3.2>9223372036854775807))
def ib (K:Kn) (n:Nat) (v1:Int) (v5:List Int):Option (List Int) :=
  (fE K n v1 v5).bind fun v6 =>
  some v6
def dQ (K:Kn) (n:Nat) (v1:Int) (v2:List Int):Option (List Int) :=
  (gO K n v2 (Fv.fn 62)).bind fun v3 =>
  if (!v3)=true then
    (gI K n [1] (v2.length:Int)).bind fun v4 =>
    ib K n v1 v4
  else
    ib K n v1 v2
def j9 (K:Kn) (n:Nat) (v27:List Int) (L2:Int→(List Int)→Option (List Int)) (v28:Int) (v29:List Int):Option (List Int) :=
  if (decide (v28<(v27.length:Int)))=true then
    chk (inb v28 v27.length) (
    chk (inb v28 v29.length) (
    chk (inb v28 v29.length) (
    L2 (w64 (v28+1)) (List.set v29 (v28).toNat (w64 ((List.getD v29 (v28).toNat default)+(List.getD v27 (v28).toNat default)))))))
  else
    some v29
def ka (K:Kn) (n:Nat) (v27:List Int):Nat→Int→(List Int)→Option (List Int)
  | 0=>fun _ _=>none
  | m+1=>j9 K n v27 (ka K n v27 m)
def jJ (K:Kn) (n:Nat) (v26 v27:List Int):Option (List Int) :=
  ka K n v27 n 0 v26
def j3 (K:Kn) (n:Nat) (v1:List aa) (v2:Int) (L1:Int→Int→Int→(List Int)→(List Int)→(List Int)→Option (List Int)) (v11 v12 v13:Int) (v14 v15 v16:List Int):Option (List Int) :=
  if (decide (v13<(v1.length:Int)))=true then
    chk (inb v13 v1.length) (
    (c9 K n ((List.getD v1 (v13).toNat default).Least)).bind fun v17 =>
    chk (inb v13 v14.length) (
    (c9 K n ((List.getD v1 (v13).toNat default).Most)).bind fun v18 =>
    chk (inb v13 (List.set v14 (v13).toNat v17).length) (
    chk (inb v13 v15.length) (
    (some (List.set v15 (v13).toNat (max v18 (List.getD (List.set v14 (v13).toNat v17) (v13).toNat default)))).bind fun v19 =>
    chk (inb v13 v19.length) (
    chk (inb v13 (List.set v14 (v13).toNat v17).length) (
    chk (inb v13 v16.length) (
    (some (List.set v16 (v13).toNat (w64 ((List.getD v19 (v13).toNat default) - (List.getD (List.set v14 (v13).toNat v17) (v13).toNat default))))).bind fun v20 =>
    chk (inb v13 (List.set v14 (v13).toNat v17).length) (
    (some (w64 (v11+(List.getD (List.set v14 (v13).toNat v17) (v13).toNat default)))).bind fun v21 =>
    chk (inb v13 v19.length) (
    L1 v21 (w64 (v12+(List.getD v19 (v13).toNat default))) (w64 (v13+1)) (List.set v14 (v13).toNat v17) v19 v20)))))))))
  else
    if (decide (v2≤v11))=true then
      some v14
    else
      if (decide (v2<v12))=true then
        (c9 K n (w64 (v2 - v11))).bind fun v22 =>
        (fE K n v22 v16).bind fun v23 =>
        jJ K n v14 v23
      else
        (c9 K n (w64 (v2 - v12))).bind fun v24 =>
        (dQ K n v24 v15).bind fun v25 =>
        jJ K n v15 v25
def jW (K:Kn) (n:Nat) (v1:List aa) (v2:Int):Nat→Int→Int→Int→(List Int)→(List Int)→(List Int)→Option (List Int)
  | 0=>fun _ _ _ _ _ _=>none
  | m+1=>j3 K n v1 v2 (jW K n v1 v2 m)
def kv (K:Kn) (n:Nat) (v1:List aa) (v2:Int):Option (List Int) :=
  chk (mkb (v1.length:Int) 8) (
  (some (List.replicate ((v1.length:Int)).toNat (0:Int))).bind fun v3 =>
  chk (mkb (v1.length:Int) 8) (
  (some (List.replicate ((v1.length:Int)).toNat (0:Int))).bind fun v4 =>
  chk (mkb (v1.length:Int) 8) (
  (some (List.replicate ((v1.length:Int)).toNat (0:Int))).bind fun v5 =>
  jW K n v1 v2 n 0 0 0 v3 v4 v5)))
def db (K:Kn) (n:Nat) (v3:Bool):Option Bool :=
  some v3
def gW (K:Kn) (n:Nat):Option Bool :=
  (kB K n [[⟨2,1⟩,⟨1,1⟩],[⟨1,1⟩]]).bind fun v1 =>
  (kv K n [(⟨10,30⟩:aa),(⟨20,40⟩:aa)] 50).bind fun v2 =>
  if (v1.2 == 2)=true then
    if ((v1.1.length:Int) == 2)=true then
      chk (inb (1:Int) v1.1.length) (
      if (((List.getD v1.1 (1:Int).toNat default).length:Int) == 1)=true then
        chk (inb (1:Int) v1.1.length) (
        chk (inb (0:Int) (List.getD v1.1 (1:Int).toNat default).length) (
        if (qTTablePlace (List.getD (List.getD v1.1 (1:Int).toNat default) (0:Int).toNat default) (⟨1,1,1,1⟩:ab))=true then
          if ((v2.length:Int) == 2)=true then
            chk (inb (0:Int) v2.length) (
            if ((List.getD v2 (0:Int).toNat default) == 20)=true then
              chk (inb (1:Int) v2.length) (
              db K n ((List.getD v2 (1:Int).toNat default) == 30))
            else
              db K n false)
          else
            db K n false
        else
          db K n false))
      else
        db K n false)
    else
      db K n false
  else
    db K n false
def gY (K:Kn) (n:Nat) (v1:Int):Option Int :=
  some (min (max v1 0) 1048576)
def ji (K:Kn) (n:Nat) (v1:List ab) (v2 v11 v16 v17:Int) (L1:Int→Option Bool) (L2:Int→Int→Option Bool) (v19:Bool):Option Bool :=
  if v19=true then
    some false
  else
    L2 v16 (w64 (v17+1))
def iy (K:Kn) (n:Nat) (v1:List ab) (v2 v11:Int) (L1:Int→Option Bool) (L2:Int→Int→Option Bool) (v16 v17:Int):Option Bool :=
  if (decide (v17<v16))=true then
    chk (inb v17 ([(List.getD v1 (v11).toNat default).Row,(List.getD v1 (v11).toNat default).Col,(List.getD v1 (v11).toNat default).Rows,(List.getD v1 (v11).toNat default).Cols]:List Int).length) (
    (some (List.getD ([(List.getD v1 (v11).toNat default).Row,(List.getD v1 (v11).toNat default).Col,(List.getD v1 (v11).toNat default).Rows,(List.getD v1 (v11).toNat default).Cols]:List Int) (v17).toNat default)).bind fun v18 =>
    if (decide (v18<(-1048576)))=true then
      ji K n v1 v2 v11 v16 v17 L1 L2 true
    else
      ji K n v1 v2 v11 v16 v17 L1 L2 (decide (v18>1048576)))
  else
    L1 (w64 (v11+1))
def eF (K:Kn) (n:Nat) (v1:List ab) (v2 v11:Int) (L1:Int→Option Bool):Nat→Int→Int→Option Bool
  | 0=>fun _ _=>none
  | m+1=>iy K n v1 v2 v11 L1 (eF K n v1 v2 v11 L1 m)
def iY (K:Kn) (n:Nat) (v20:Bool):Option Bool :=
  some v20
def iB (K:Kn) (n:Nat) (v1:List ab) (v2:Int) (L1:Int→Option Bool) (v11:Int):Option Bool :=
  if (decide (v11<(v1.length:Int)))=true then
    chk (inb v11 v1.length) (
    eF K n v1 v2 v11 L1 n (([(List.getD v1 (v11).toNat default).Row,(List.getD v1 (v11).toNat default).Col,(List.getD v1 (v11).toNat default).Rows,(List.getD v1 (v11).toNat default).Cols]:List Int).length:Int) 0)
  else
    if (decide ((v1.length:Int)≤30))=true then
      iY K n (decide (v2≤30))
    else
      iY K n false
def eY (K:Kn) (n:Nat) (v1:List ab) (v2:Int):Nat→Int→Option Bool
  | 0=>fun _=>none
  | m+1=>iB K n v1 v2 (eY K n v1 v2 m)
def jC (K:Kn) (n:Nat) (v1:List ab) (v2:Int):Option Bool :=
  eY K n v1 v2 n 0
def iz (K:Kn) (n:Nat) (v1 v2:Int) (v3:Fv) (v4:List ab):Option Int :=
  chk (inb v1 v4.length) (
  (K.cX v3 (List.getD v4 (v1).toNat default)).bind fun v5 =>
  chk (inb v2 v4.length) (
  (K.cX v3 (List.getD v4 (v2).toNat default)).bind fun v6 =>
  (gb K n v5 v6).bind fun v7 =>
  some v7))
def fp (K:Kn) (n:Nat) (v1:List ab) (v2:Int) (v3 v4:Fv) (v11:Int) (L1:Int→(List Int)→Option (List Int)) (v15:List Int):Option (List Int) :=
  L1 (w64 (v11+1)) v15
def cD (K:Kn) (n:Nat) (v1:List ab) (v2:Int) (v3 v4:Fv) (v11:Int) (v12:List Int) (L1:Int→(List Int)→Option (List Int)) (v14:Bool):Option (List Int) :=
  if v14=true then
    chk (fits (v12.length+([v11]:(List Int)).length) 8) (
    fp K n v1 v2 v3 v4 v11 L1 (v12++[v11]))
  else
    fp K n v1 v2 v3 v4 v11 L1 v12
def gJ (K:Kn) (n:Nat) (v1:List ab) (v2:Int) (v3 v4:Fv) (L1:Int→(List Int)→Option (List Int)) (v11:Int) (v12:List Int):Option (List Int) :=
  if (decide (v11<(v1.length:Int)))=true then
    chk (inb v11 v1.length) (
    if (decide (v11<v2))=true then
      if (decide (((List.getD v1 (v11).toNat default).Row)≥0))=true then
        if (decide (((List.getD v1 (v11).toNat default).Col)≥0))=true then
          if (decide (((List.getD v1 (v11).toNat default).Rows)≥1))=true then
            if (decide (((List.getD v1 (v11).toNat default).Cols)≥1))=true then
              (K.fP v3 (List.getD v1 (v11).toNat default)).bind fun v13 =>
              cD K n v1 v2 v3 v4 v11 v12 L1 v13
            else
              cD K n v1 v2 v3 v4 v11 v12 L1 false
          else
            cD K n v1 v2 v3 v4 v11 v12 L1 false
        else
          cD K n v1 v2 v3 v4 v11 v12 L1 false
      else
        cD K n v1 v2 v3 v4 v11 v12 L1 false
    else
      cD K n v1 v2 v3 v4 v11 v12 L1 false)
  else
    (cY K n v12 (Fv.c65 v4 v1)).bind fun v16 =>
    some v16
def d7 (K:Kn) (n:Nat) (v1:List ab) (v2:Int) (v3 v4:Fv):Nat→Int→(List Int)→Option (List Int)
  | 0=>fun _ _=>none
  | m+1=>gJ K n v1 v2 v3 v4 (d7 K n v1 v2 v3 v4 m)
def jp (K:Kn) (n:Nat) (v1:List ab) (v2:Int) (v3 v4:Fv):Option (List Int) :=
  d7 K n v1 v2 v3 v4 n 0 []
def gF (K:Kn) (n:Nat) (v3:Bool):Option Bool :=
  some v3
def gV (K:Kn) (n:Nat) (v1:ab) (v2:Int):Option Bool :=
  if (decide (v1.Col<v2))=true then
    gF K n (decide (v1.Cols≤(w64 (v2 - v1.Col))))
  else
    gF K n false
def iG (K:Kn) (n:Nat) (v1:List ab) (v2:List aa) (v5:List Int) (v33:Int) (L1:Int→(List aa)→Option (List aa)) (v61:List aa):Option (List aa) :=
  L1 (w64 (v33+1)) v61
def ic (K:Kn) (n:Nat) (v1:List ab) (v2:List aa) (v5:List Int) (v33:Int) (v37:ab) (v51 v55:List Int) (L1:Int→(List aa)→Option (List aa)) (L5:Int→Int→(List aa)→Option (List aa)) (v58 v59:Int) (v60:List aa):Option (List aa) :=
  if (decide (v59<v58))=true then
    chk (inb v59 v51.length) (
    chk (inb v59 v55.length) (
    chk (inb v59 (((w64 (v37.Col+v37.Cols))).toNat - (v37.Col).toNat)) (
    chk (decide (((v37.Col).toNat+(v59).toNat)<v60.length)) (
    L5 v58 (w64 (v59+1)) (List.set v60 ((v37.Col).toNat+(v59).toNat) (⟨(List.getD v51 (v59).toNat default),(List.getD v55 (v59).toNat default)⟩:aa))))))
  else
    iG K n v1 v2 v5 v33 L1 v60
def go (K:Kn) (n:Nat) (v1:List ab) (v2:List aa) (v5:List Int) (v33:Int) (v37:ab) (v51 v55:List Int) (L1:Int→(List aa)→Option (List aa)):Nat→Int→Int→(List aa)→Option (List aa)
  | 0=>fun _ _ _=>none
  | m+1=>ic K n v1 v2 v5 v33 v37 v51 v55 L1 (go K n v1 v2 v5 v33 v37 v51 v55 L1 m)
def eN (K:Kn) (n:Nat) (v1:List ab) (v2:List aa) (v5:List Int) (v33:Int) (v34:List aa) (v37:ab) (v51:List Int) (L1:Int→(List aa)→Option (List aa)) (v55:List Int):Option (List aa) :=
  go K n v1 v2 v5 v33 v37 v51 v55 L1 n (((((w64 (v37.Col+v37.Cols))).toNat - (v37.Col).toNat):Nat):Int) 0 v34
def iA (K:Kn) (n:Nat) (v1:List ab) (v2:List aa) (v5:List Int) (v33:Int) (v34:List aa) (v37:ab) (v51 v52:List Int) (L1:Int→(List aa)→Option (List aa)) (L4:Int→(List Int)→Option (List aa)) (v53:Int) (v54:List Int):Option (List aa) :=
  if (decide (v53<(v52.length:Int)))=true then
    chk (inb v53 v52.length) (
    chk (inb v53 v54.length) (
    chk (inb v53 v54.length) (
    L4 (w64 (v53+1)) (List.set v54 (v53).toNat (w64 ((List.getD v54 (v53).toNat default)+(List.getD v52 (v53).toNat default)))))))
  else
    eN K n v1 v2 v5 v33 v34 v37 v51 L1 v54
def gn (K:Kn) (n:Nat) (v1:List ab) (v2:List aa) (v5:List Int) (v33:Int) (v34:List aa) (v37:ab) (v51 v52:List Int) (L1:Int→(List aa)→Option (List aa)):Nat→Int→(List Int)→Option (List aa)
  | 0=>fun _ _=>none
  | m+1=>iA K n v1 v2 v5 v33 v34 v37 v51 v52 L1 (gn K n v1 v2 v5 v33 v34 v37 v51 v52 L1 m)
def dG (K:Kn) (n:Nat) (v1:List ab) (v2:List aa) (v5:List Int) (v33:Int) (v34:List aa) (v37:ab) (v43 v44:Int) (v46:List Int) (L1:Int→(List aa)→Option (List aa)) (v51:List Int):Option (List aa) :=
  if (decide (v44>0))=true then
    (dQ K n v44 v51).bind fun v52 =>
    gn K n v1 v2 v5 v33 v34 v37 v51 v52 L1 n 0 v46
  else
    eN K n v1 v2 v5 v33 v34 v37 v51 L1 v46
def jd (K:Kn) (n:Nat) (v1:List ab) (v2:List aa) (v5:List Int) (v33:Int) (v34:List aa) (v37:ab) (v43 v44:Int) (v46 v48:List Int) (L1:Int→(List aa)→Option (List aa)) (L3:Int→(List Int)→Option (List aa)) (v49:Int) (v50:List Int):Option (List aa) :=
  if (decide (v49<(v48.length:Int)))=true then
    chk (inb v49 v48.length) (
    chk (inb v49 v50.length) (
    chk (inb v49 v50.length) (
    L3 (w64 (v49+1)) (List.set v50 (v49).toNat (w64 ((List.getD v50 (v49).toNat default)+(List.getD v48 (v49).toNat default)))))))
  else
    dG K n v1 v2 v5 v33 v34 v37 v43 v44 v46 L1 v50
def fR (K:Kn) (n:Nat) (v1:List ab) (v2:List aa) (v5:List Int) (v33:Int) (v34:List aa) (v37:ab) (v43 v44:Int) (v46 v48:List Int) (L1:Int→(List aa)→Option (List aa)):Nat→Int→(List Int)→Option (List aa)
  | 0=>fun _ _=>none
  | m+1=>jd K n v1 v2 v5 v33 v34 v37 v43 v44 v46 v48 L1 (fR K n v1 v2 v5 v33 v34 v37 v43 v44 v46 v48 L1 m)
def iZ (K:Kn) (n:Nat) (v1:List ab) (v2:List aa) (v5:List Int) (v33:Int) (v34:List aa) (v37:ab) (L1:Int→(List aa)→Option (List aa)) (L2:Int→Int→Int→Int→(List Int)→(List Int)→Option (List aa)) (v41 v42 v43 v44:Int) (v45 v46:List Int):Option (List aa) :=
  if (decide (v42<v41))=true then
    chk (inb v42 (((w64 (v37.Col+v37.Cols))).toNat - (v37.Col).toNat)) (
    chk (decide (((v37.Col).toNat+(v42).toNat)<v34.length)) (
    (some (List.getD v34 ((v37.Col).toNat+(v42).toNat) default)).bind fun v47 =>
    chk (inb v42 v45.length) (
    chk (inb v42 v46.length) (
    L2 v41 (w64 (v42+1)) (w64 (v43 - v47.Least)) (w64 (v44 - v47.Most)) (List.set v45 (v42).toNat v47.Least) (List.set v46 (v42).toNat v47.Most)))))
  else
    if (decide (v43>0))=true then
      (dQ K n v43 v46).bind fun v48 =>
      fR K n v1 v2 v5 v33 v34 v37 v43 v44 v46 v48 L1 n 0 v45
    else
      dG K n v1 v2 v5 v33 v34 v37 v43 v44 v46 L1 v45
def fu (K:Kn) (n:Nat) (v1:List ab) (v2:List aa) (v5:List Int) (v33:Int) (v34:List aa) (v37:ab) (L1:Int→(List aa)→Option (List aa)):Nat→Int→Int→Int→Int→(List Int)→(List Int)→Option (List aa)
  | 0=>fun _ _ _ _ _ _=>none
  | m+1=>iZ K n v1 v2 v5 v33 v34 v37 L1 (fu K n v1 v2 v5 v33 v34 v37 L1 m)
def iq (K:Kn) (n:Nat) (v34:List aa) (L6:Int→(List aa)→Option (List aa)) (v62:Int) (v63:List aa):Option (List aa) :=
  if (decide (v62<(v34.length:Int)))=true then
    chk (inb v62 v63.length) (
    chk (inb v62 v63.length) (
    chk (inb v62 v63.length) (
    L6 (w64 (v62+1)) (List.set v63 (v62).toNat ({ (List.getD v63 (v62).toNat default) with Most:=(max ((List.getD v63 (v62).toNat default).Most) ((List.getD v63 (v62).toNat default).Least)) }:aa)))))
  else
    some v63
def gx (K:Kn) (n:Nat) (v34:List aa):Nat→Int→(List aa)→Option (List aa)
  | 0=>fun _ _=>none
  | m+1=>iq K n v34 (gx K n v34 m)
def jo (K:Kn) (n:Nat) (v1:List ab) (v2:List aa) (v5:List Int) (L1:Int→(List aa)→Option (List aa)) (v33:Int) (v34:List aa):Option (List aa) :=
  if (decide (v33<(v5.length:Int)))=true then
    chk (inb v33 v5.length) (
    chk (inb (List.getD v5 (v33).toNat default) v1.length) (
    chk (inb (List.getD v5 (v33).toNat default) v2.length) (
    (c9 K n ((List.getD v2 ((List.getD v5 (v33).toNat default)).toNat default).Least)).bind fun v35 =>
    chk (inb (List.getD v5 (v33).toNat default) v2.length) (
    (c9 K n ((List.getD v2 ((List.getD v5 (v33).toNat default)).toNat default).Most)).bind fun v36 =>
    (some (List.getD v1 ((List.getD v5 (v33).toNat default)).toNat default)).bind fun v37 =>
    chk (slb v37.Col (w64 (v37.Col+v37.Cols)) v34.length) (
    if (v37.Cols == 1)=true then
      chk (inb (0:Int) (((w64 (v37.Col+v37.Cols))).toNat - (v37.Col).toNat)) (
      chk (decide (((v37.Col).toNat+(0:Int).toNat)<v34.length)) (
      chk (inb (0:Int) (((w64 (v37.Col+v37.Cols))).toNat - (v37.Col).toNat)) (
      chk (inb (0:Int) (((w64 (v37.Col+v37.Cols))).toNat - (v37.Col).toNat)) (
      iG K n v1 v2 v5 v33 L1 (List.set v34 ((v37.Col).toNat+(0:Int).toNat) (⟨(max ((List.getD v34 ((v37.Col).toNat+(0:Int).toNat) default).Least) v35),(max ((List.getD v34 ((v37.Col).toNat+(0:Int).toNat) default).Most) v36)⟩:aa))))))
    else
      chk (mkb v37.Cols 8) (
      chk (mkb v37.Cols 8) (
      fu K n v1 v2 v5 v33 v34 v37 L1 n (((((w64 (v37.Col+v37.Cols))).toNat - (v37.Col).toNat):Nat):Int) 0 v35 v36 (List.replicate (v37.Cols).toNat (0:Int)) (List.replicate (v37.Cols).toNat (0:Int)))))))))
  else
    gx K n v34 n 0 v34
def eM (K:Kn) (n:Nat) (v1:List ab) (v2:List aa) (v5:List Int):Nat→Int→(List aa)→Option (List aa)
  | 0=>fun _ _=>none
  | m+1=>jo K n v1 v2 v5 (eM K n v1 v2 v5 m)
def hH (K:Kn) (n:Nat) (v1:List ab) (v2:List aa) (v3:Int):Option (List aa) :=
  chk (mkb (max v3 0) 16) (
  (some (List.replicate ((max v3 0)).toNat (ct:aa))).bind fun v4 =>
  (jp K n v1 (v2.length:Int) (Fv.c36 (max v3 0)) (Fv.fn 37)).bind fun v5 =>
  eM K n v1 v2 v5 n 0 v4)
def eS (K:Kn) (n:Nat) (v1:Int):Option Int :=
  some (min (max v1 0) 1048576)
def ey (K:Kn) (n:Nat) (v4:Bool):Option Bool :=
  some v4
def g9 (K:Kn) (n:Nat) (v1 v2 v3:Int):Option Bool :=
  if (decide (v1≥0))=true then
    if (decide (v2≥1))=true then
      if (decide (v1<v3))=true then
        ey K n (decide (v2≤(w64 (v3 - v1))))
      else
        ey K n false
    else
      ey K n false
  else
    ey K n false
def dY (K:Kn) (n:Nat) (v1 v2:Int):Option Int :=
  some (min (max v1 0) v2)
def gX (K:Kn) (n:Nat) (v27:Int) (v28 v29:List Int) (v33:Int) (L3:Int→(List Int)→(List Int)→Option (List Int)) (L4:Int→Int→Option (List Int)) (v35:Int):Option (List Int) :=
  L4 v35 (w64 (v33+1))
def hE (K:Kn) (n:Nat) (v27:Int) (v28 v29:List Int) (L3:Int→(List Int)→(List Int)→Option (List Int)) (L4:Int→Int→Option (List Int)) (v32 v33:Int):Option (List Int) :=
  if (decide (v33<(v29.length:Int)))=true then
    chk (inb v33 v29.length) (
    chk (inb v32 v29.length) (
    (some (decide ((List.getD v29 (v33).toNat default)>(List.getD v29 (v32).toNat default)))).bind fun v34 =>
    if v34=true then
      gX K n v27 v28 v29 v33 L3 L4 v33
    else
      gX K n v27 v28 v29 v33 L3 L4 v32))
  else
    chk (inb v32 v28.length) (
    chk (inb v32 v28.length) (
    (some (List.set v28 (v32).toNat (w64 ((List.getD v28 (v32).toNat default)+1)))).bind fun v36 =>
    chk (inb v32 v29.length) (
    L3 (w64 (v27 - 1)) v36 (List.set v29 (v32).toNat (-1)))))
def gi (K:Kn) (n:Nat) (v27:Int) (v28 v29:List Int) (L3:Int→(List Int)→(List Int)→Option (List Int)):Nat→Int→Int→Option (List Int)
  | 0=>fun _ _=>none
  | m+1=>hE K n v27 v28 v29 L3 (gi K n v27 v28 v29 L3 m)
def ia (K:Kn) (n:Nat) (L3:Int→(List Int)→(List Int)→Option (List Int)) (v27:Int) (v28 v29:List Int):Option (List Int) :=
  if (decide (v27>0))=true then
    gi K n v27 v28 v29 L3 n 0 1
  else
    some v28
def dv (K:Kn) (n:Nat):Nat→Int→(List Int)→(List Int)→Option (List Int)
  | 0=>fun _ _ _=>none
  | m+1=>ia K n (dv K n m)
def ip (K:Kn) (n:Nat) (v2:List Int) (v3 v5:Int) (L2:Int→Int→(List Int)→(List Int)→Option (List Int)) (v13 v14:Int) (v15 v16:List Int):Option (List Int) :=
  if (decide (v14<(v2.length:Int)))=true then
    chk (inb v14 v2.length) (
    (dY K n (List.getD v2 (v14).toNat default) 2147483647).bind fun v17 =>
    chk ((v5 != 0)) (
    chk (inb v14 v15.length) (
    (some (List.set v15 (v14).toNat (w64 (Int.tdiv (w64 (v3*v17)) v5)))).bind fun v18 =>
    chk ((v5 != 0)) (
    chk (inb v14 v16.length) (
    (some (List.set v16 (v14).toNat (Int.tmod (w64 (v3*v17)) v5))).bind fun v19 =>
    chk (inb v14 v18.length) (
    L2 (w64 (v13 - (List.getD v18 (v14).toNat default))) (w64 (v14+1)) v18 v19))))))
  else
    dv K n n v13 v15 v16
def e9 (K:Kn) (n:Nat) (v2:List Int) (v3 v5:Int):Nat→Int→Int→(List Int)→(List Int)→Option (List Int)
  | 0=>fun _ _ _ _=>none
  | m+1=>ip K n v2 v3 v5 (e9 K n v2 v3 v5 m)
def js (K:Kn) (n:Nat) (v2:List Int) (v3:Int) (L1:Int→Int→Option (List Int)) (v5 v6:Int):Option (List Int) :=
  if (decide (v6<(v2.length:Int)))=true then
    chk (inb v6 v2.length) (
    (dY K n (List.getD v2 (v6).toNat default) 2147483647).bind fun v7 =>
    L1 (w64 (v5+v7)) (w64 (v6+1)))
  else
    chk (mkb (v2.length:Int) 8) (
    (some (List.replicate ((v2.length:Int)).toNat (0:Int))).bind fun v8 =>
    chk (mkb (v2.length:Int) 8) (
    (some (List.replicate ((v2.length:Int)).toNat (0:Int))).bind fun v9 =>
    if (v5 == 0)=true then
      some v8
    else
      e9 K n v2 v3 v5 n v3 0 v8 v9))
def gk (K:Kn) (n:Nat) (v2:List Int) (v3:Int):Nat→Int→Int→Option (List Int)
  | 0=>fun _ _=>none
  | m+1=>js K n v2 v3 (gk K n v2 v3 m)
def gK (K:Kn) (n:Nat) (v1:Int) (v2:List Int):Option (List Int) :=
  (dY K n v1 2147483647).bind fun v3 =>
  gk K n v2 v3 n 0 0
def jm (K:Kn) (n:Nat) (v1:List Int) (v2 v3:Int) (v5:List Int) (v10 v11:Int) (L1:Int→Bool→Int→Option (List Int)) (v12:Bool):Option (List Int) :=
  L1 v11 v12 (w64 (v10+1))
def gf (K:Kn) (n:Nat) (v1:List Int) (v2 v3:Int) (v5:List Int) (v8:Int) (v9:Bool) (v15:Int) (v16:List Int) (L2:Int→(List Int)→Option (List Int)) (v17:Int):Option (List Int) :=
  chk (fits (v16.length+([v17]:(List Int)).length) 8) (
  L2 (w64 (v15+1)) (v16++[v17]))
def iD (K:Kn) (n:Nat) (v2 v3:Int) (v18:List Int) (L3:Int→(List Int)→Option (List Int)) (v19:Int) (v20:List Int):Option (List Int) :=
  if (decide (v19<v3))=true then
    chk (inb (w64 (v2+v19)) v20.length) (
    chk (inb v19 v18.length) (
    chk (inb (w64 (v2+v19)) v20.length) (
    L3 (w64 (v19+1)) (List.set v20 ((w64 (v2+v19))).toNat (w64 ((List.getD v20 ((w64 (v2+v19))).toNat default)+(List.getD v18 (v19).toNat default)))))))
  else
    some v20
def fB (K:Kn) (n:Nat) (v2 v3:Int) (v18:List Int):Nat→Int→(List Int)→Option (List Int)
  | 0=>fun _ _=>none
  | m+1=>iD K n v2 v3 v18 (fB K n v2 v3 v18 m)
def iw (K:Kn) (n:Nat) (v1:List Int) (v2 v3:Int) (v5:List Int) (v8:Int) (v9:Bool) (L2:Int→(List Int)→Option (List Int)) (v15:Int) (v16:List Int):Option (List Int) :=
  if (decide (v15<(w64 (v2+v3))))=true then
    chk (inb v15 v5.length) (
    if v9=true then
      gf K n v1 v2 v3 v5 v8 v9 v15 v16 L2 1
    else
      gf K n v1 v2 v3 v5 v8 v9 v15 v16 L2 (List.getD v5 (v15).toNat default))
  else
    (gK K n v8 v16).bind fun v18 =>
    fB K n v2 v3 v18 n 0 v1
def d8 (K:Kn) (n:Nat) (v1:List Int) (v2 v3:Int) (v5:List Int) (v8:Int) (v9:Bool):Nat→Int→(List Int)→Option (List Int)
  | 0=>fun _ _=>none
  | m+1=>iw K n v1 v2 v3 v5 v8 v9 (d8 K n v1 v2 v3 v5 v8 v9 m)
def jb (K:Kn) (n:Nat) (v1:List Int) (v2 v3:Int) (v5:List Int) (L1:Int→Bool→Int→Option (List Int)) (v8:Int) (v9:Bool) (v10:Int):Option (List Int) :=
  if (decide (v10<(w64 (v2+v3))))=true then
    chk (inb v10 v1.length) (
    (some (w64 (v8 - (List.getD v1 (v10).toNat default)))).bind fun v11 =>
    chk (inb v10 v5.length) (
    if ((List.getD v5 (v10).toNat default) != 0)=true then
      jm K n v1 v2 v3 v5 v10 v11 L1 false
    else
      jm K n v1 v2 v3 v5 v10 v11 L1 v9))
  else
    if (decide (v8≤0))=true then
      some v1
    else
      d8 K n v1 v2 v3 v5 v8 v9 n v2 []
def gg (K:Kn) (n:Nat) (v1:List Int) (v2 v3:Int) (v5:List Int):Nat→Int→Bool→Int→Option (List Int)
  | 0=>fun _ _ _=>none
  | m+1=>jb K n v1 v2 v3 v5 (gg K n v1 v2 v3 v5 m)
def jf (K:Kn) (n:Nat) (v1:List Int) (v2 v3 v4:Int) (v5:List Int):Option (List Int) :=
  gg K n v1 v2 v3 v5 n v4 true v2
def ff (K:Kn) (n:Nat) (v1:List ab) (v2:List aa) (v3 v25 v40:Int) (L1 L2:Int→(List Int)→(List Int)→Option (List aa)) (v53 v54:List Int):Option (List aa) :=
  L2 (w64 (v40+1)) v53 v54
def dr (K:Kn) (n:Nat) (v1:List ab) (v2:List aa) (v3 v25 v40:Int) (v41 v42:List Int) (L1 L2:Int→(List Int)→(List Int)→Option (List aa)) (v45:Bool):Option (List aa) :=
  if v45=true then
    ff K n v1 v2 v3 v25 v40 L1 L2 v41 v42
  else
    if (v25 == 1)=true then
      chk (inb ((List.getD v1 (v40).toNat default).Col) v41.length) (
      chk (inb v40 v2.length) (
      (eS K n ((List.getD v2 (v40).toNat default).Least)).bind fun v46 =>
      chk (inb ((List.getD v1 (v40).toNat default).Col) v41.length) (
      (some (List.set v41 ((List.getD v1 (v40).toNat default).Col).toNat (max (List.getD v41 ((List.getD v1 (v40).toNat default).Col).toNat default) v46))).bind fun v47 =>
      chk (inb ((List.getD v1 (v40).toNat default).Col) v42.length) (
      chk (inb v40 v2.length) (
      (eS K n ((List.getD v2 (v40).toNat default).Most)).bind fun v48 =>
      chk (inb ((List.getD v1 (v40).toNat default).Col) v42.length) (
      ff K n v1 v2 v3 v25 v40 L1 L2 v47 (List.set v42 ((List.getD v1 (v40).toNat default).Col).toNat (max (List.getD v42 ((List.getD v1 (v40).toNat default).Col).toNat default) v48))))))))
    else
      chk (inb v40 v2.length) (
      (eS K n ((List.getD v2 (v40).toNat default).Least)).bind fun v49 =>
      (jf K n v41 ((List.getD v1 (v40).toNat default).Col) v25 v49 v42).bind fun v50 =>
      chk (inb v40 v2.length) (
      (eS K n ((List.getD v2 (v40).toNat default).Most)).bind fun v51 =>
      (jf K n v42 ((List.getD v1 (v40).toNat default).Col) v25 v51 v50).bind fun v52 =>
      ff K n v1 v2 v3 v25 v40 L1 L2 v50 v52))
def eO (K:Kn) (n:Nat) (v1:List ab) (v2:List aa) (v3 v25 v40:Int) (v41 v42:List Int) (L1 L2:Int→(List Int)→(List Int)→Option (List aa)) (v43:Bool):Option (List aa) :=
  if v43=true then
    chk (inb v40 v1.length) (
    if (((List.getD v1 (v40).toNat default).Cols) != v25)=true then
      dr K n v1 v2 v3 v25 v40 v41 v42 L1 L2 true
    else
      if (decide (((List.getD v1 (v40).toNat default).Rows)<1))=true then
        dr K n v1 v2 v3 v25 v40 v41 v42 L1 L2 true
      else
        if (decide (((List.getD v1 (v40).toNat default).Row)<0))=true then
          dr K n v1 v2 v3 v25 v40 v41 v42 L1 L2 true
        else
          (g9 K n ((List.getD v1 (v40).toNat default).Col) ((List.getD v1 (v40).toNat default).Cols) (max v3 0)).bind fun v44 =>
          dr K n v1 v2 v3 v25 v40 v41 v42 L1 L2 (!v44))
  else
    L1 (w64 (v25+1)) v41 v42
def g8 (K:Kn) (n:Nat) (v1:List ab) (v2:List aa) (v3 v25:Int) (L1 L2:Int→(List Int)→(List Int)→Option (List aa)) (v40:Int) (v41 v42:List Int):Option (List aa) :=
  if (decide (v40<(v1.length:Int)))=true then
    eO K n v1 v2 v3 v25 v40 v41 v42 L1 L2 (decide (v40<(v2.length:Int)))
  else
    eO K n v1 v2 v3 v25 v40 v41 v42 L1 L2 false
def dx (K:Kn) (n:Nat) (v1:List ab) (v2:List aa) (v3 v25:Int) (L1:Int→(List Int)→(List Int)→Option (List aa)):Nat→Int→(List Int)→(List Int)→Option (List aa)
  | 0=>fun _ _ _=>none
  | m+1=>g8 K n v1 v2 v3 v25 L1 (dx K n v1 v2 v3 v25 L1 m)
def gE (K:Kn) (n:Nat) (v3:Int) (v26 v27:List Int) (L3:Int→(List aa)→Option (List aa)) (v55:Int) (v56:List aa):Option (List aa) :=
  if (decide (v55<(max v3 0)))=true then
    chk (inb v55 v26.length) (
    chk (inb v55 v27.length) (
    chk (inb v55 v26.length) (
    chk (fits (v56.length+([(⟨(List.getD v26 (v55).toNat default),(max (List.getD v27 (v55).toNat default) (List.getD v26 (v55).toNat default))⟩:aa)]:(List aa)).length) 16) (
    L3 (w64 (v55+1)) (v56++[(⟨(List.getD v26 (v55).toNat default),(max (List.getD v27 (v55).toNat default) (List.getD v26 (v55).toNat default))⟩:aa)])))))
  else
    some v56
def gh (K:Kn) (n:Nat) (v3:Int) (v26 v27:List Int):Nat→Int→(List aa)→Option (List aa)
  | 0=>fun _ _=>none
  | m+1=>gE K n v3 v26 v27 (gh K n v3 v26 v27 m)
def g6 (K:Kn) (n:Nat) (v1:List ab) (v2:List aa) (v3:Int) (L1:Int→(List Int)→(List Int)→Option (List aa)) (v25:Int) (v26 v27:List Int):Option (List aa) :=
  if (decide (v25≤(max v3 0)))=true then
    dx K n v1 v2 v3 v25 L1 n 0 v26 v27
  else
    gh K n v3 v26 v27 n 0 []
def eg (K:Kn) (n:Nat) (v1:List ab) (v2:List aa) (v3:Int):Nat→Int→(List Int)→(List Int)→Option (List aa)
  | 0=>fun _ _ _=>none
  | m+1=>g6 K n v1 v2 v3 (eg K n v1 v2 v3 m)
def gR (K:Kn) (n:Nat) (v1:List ab) (v2:List aa) (v3:Int):Option (List aa) :=
  chk (mkb (max v3 0) 8) (
  (some (List.replicate ((max v3 0)).toNat (0:Int))).bind fun v4 =>
  chk (mkb (max v3 0) 8) (
  eg K n v1 v2 v3 n 1 v4 (List.replicate ((max v3 0)).toNat (0:Int))))
def fD (K:Kn) (n:Nat) (v1:List ab) (v2 v6 v7:List aa) (v9:Int) (L1:Int→Option Bool) (v10:Bool):Option Bool :=
  if v10=true then
    some false
  else
    L1 (w64 (v9+1))
def fh (K:Kn) (n:Nat) (v1:List ab) (v2 v6:List aa) (v35:Int) (L2:Int→Option Bool):Option Bool :=
  L2 (w64 (v35+1))
def jc (K:Kn) (n:Nat) (v1:List ab) (v2 v6:List aa) (v35:Int) (L2:Int→Option Bool) (v47:Bool):Option Bool :=
  if v47=true then
    some false
  else
    fh K n v1 v2 v6 v35 L2
def hJ (K:Kn) (n:Nat) (v1:List ab) (v2 v6:List aa) (v35:Int) (L2:Int→Option Bool) (L3:Int→Int→(List aa)→Int→Int→Option Bool) (v40 v41:Int) (v42:List aa) (v43 v44:Int):Option Bool :=
  if (decide (v44<v43))=true then
    chk (inb v44 v42.length) (
    L3 (w64 (v40+((List.getD v42 (v44).toNat default).Least))) (w64 (v41+((List.getD v42 (v44).toNat default).Most))) v42 v43 (w64 (v44+1)))
  else
    chk (inb v35 v2.length) (
    (gY K n ((List.getD v2 (v35).toNat default).Least)).bind fun v45 =>
    if (decide (v40<v45))=true then
      jc K n v1 v2 v6 v35 L2 true
    else
      chk (inb v35 v2.length) (
      (gY K n ((List.getD v2 (v35).toNat default).Most)).bind fun v46 =>
      jc K n v1 v2 v6 v35 L2 (decide (v41<v46))))
def fm (K:Kn) (n:Nat) (v1:List ab) (v2 v6:List aa) (v35:Int) (L2:Int→Option Bool):Nat→Int→Int→(List aa)→Int→Int→Option Bool
  | 0=>fun _ _ _ _ _=>none
  | m+1=>hJ K n v1 v2 v6 v35 L2 (fm K n v1 v2 v6 v35 L2 m)
def cM (K:Kn) (n:Nat) (v1:List ab) (v2 v6:List aa) (v35:Int) (L2:Int→Option Bool) (v36:Bool):Option Bool :=
  if v36=true then
    fh K n v1 v2 v6 v35 L2
  else
    chk (slb ((List.getD v1 (v35).toNat default).Col) (w64 (((List.getD v1 (v35).toNat default).Col)+((List.getD v1 (v35).toNat default).Cols))) v6.length) (
    fm K n v1 v2 v6 v35 L2 n 0 0 (List.drop (((List.getD v1 (v35).toNat default).Col)).toNat (List.take ((w64 (((List.getD v1 (v35).toNat default).Col)+((List.getD v1 (v35).toNat default).Cols)))).toNat v6)) ((List.drop (((List.getD v1 (v35).toNat default).Col)).toNat (List.take ((w64 (((List.getD v1 (v35).toNat default).Col)+((List.getD v1 (v35).toNat default).Cols)))).toNat v6)).length:Int) 0)
def gB (K:Kn) (n:Nat) (v1:List ab) (v2 v6:List aa) (L2:Int→Option Bool) (v35:Int):Option Bool :=
  if (decide (v35<(v1.length:Int)))=true then
    chk (inb v35 v1.length) (
    if (decide (v35≥(v2.length:Int)))=true then
      cM K n v1 v2 v6 v35 L2 true
    else
      if (decide (((List.getD v1 (v35).toNat default).Row)<0))=true then
        cM K n v1 v2 v6 v35 L2 true
      else
        if (decide (((List.getD v1 (v35).toNat default).Rows)<1))=true then
          cM K n v1 v2 v6 v35 L2 true
        else
          if (decide (((List.getD v1 (v35).toNat default).Col)<0))=true then
            cM K n v1 v2 v6 v35 L2 true
          else
            if (decide (((List.getD v1 (v35).toNat default).Cols)<1))=true then
              cM K n v1 v2 v6 v35 L2 true
            else
              cM K n v1 v2 v6 v35 L2 (decide ((w64 (((List.getD v1 (v35).toNat default).Col)+((List.getD v1 (v35).toNat default).Cols)))>(v6.length:Int))))
  else
    some true
def dj (K:Kn) (n:Nat) (v1:List ab) (v2 v6:List aa):Nat→Int→Option Bool
  | 0=>fun _=>none
  | m+1=>gB K n v1 v2 v6 (dj K n v1 v2 v6 m)
def iE (K:Kn) (n:Nat) (v1:List ab) (v2 v6 v7:List aa) (L1:Int→Option Bool) (v9:Int):Option Bool :=
  if (decide (v9<(v6.length:Int)))=true then
    chk (inb v9 v6.length) (
    chk (inb v9 v7.length) (
    if (!(df (List.getD v6 (v9).toNat default) (List.getD v7 (v9).toNat default)))=true then
      fD K n v1 v2 v6 v7 v9 L1 true
    else
      if (decide (((List.getD v6 (v9).toNat default).Least)<0))=true then
        fD K n v1 v2 v6 v7 v9 L1 true
      else
        fD K n v1 v2 v6 v7 v9 L1 (decide (((List.getD v6 (v9).toNat default).Most)<((List.getD v6 (v9).toNat default).Least)))))
  else
    dj K n v1 v2 v6 n 0
def fz (K:Kn) (n:Nat) (v1:List ab) (v2 v6 v7:List aa):Nat→Int→Option Bool
  | 0=>fun _=>none
  | m+1=>iE K n v1 v2 v6 v7 (fz K n v1 v2 v6 v7 m)
def kj (K:Kn) (n:Nat) (v1:List ab) (v2:List aa) (v3:Int):Option Bool :=
  (gW K n ).bind fun v4 =>
  if (!v4)=true then
    some false
  else
    (jC K n v1 v3).bind fun v5 =>
    if (!v5)=true then
      some true
    else
      (hH K n v1 v2 v3).bind fun v6 =>
      (gR K n v1 v2 v3).bind fun v7 =>
      if ((v6.length:Int) != (v7.length:Int))=true then
        some false
      else
        fz K n v1 v2 v6 v7 n 0
def ku (K:Kn) (n:Nat) (v1:ab):Option Int :=
  some v1.Cols
def kW (K:Kn) (n:Nat) (v1:Int):Option Bool :=
  some (decide (v1>0))
def KN:Nat→Kn
  | 0=>⟨fun _ _ _ _ _=>none,fun _ _ _=>none,fun _ _=>none,fun _ _=>none,fun _ _=>none⟩
  | n+1=>⟨fun a0 a1 a2 a3 a4=>cJ (KN n) n a0 a1 a2 a3 a4,
    fun f a0 a1=>match f with | .fn i=>none | .c36 x0=>none | .c59 x0=>gC (KN n) n a0 a1 x0 | .c65 x0 x1=>iz (KN n) n a0 a1 x0 x1,
    fun f a0=>match f with | .fn i=>if Nat.beq i 62=true then kW (KN n) n a0 else none | .c36 x0=>none | .c59 x0=>none | .c65 x0 x1=>none,
    fun f a0=>match f with | .fn i=>none | .c36 x0=>gV (KN n) n a0 x0 | .c59 x0=>none | .c65 x0 x1=>none,
    fun f a0=>match f with | .fn i=>if Nat.beq i 37=true then ku (KN n) n a0 else none | .c36 x0=>none | .c59 x0=>none | .c65 x0 x1=>none⟩
end
end Go.Proofs.Ytolhpahjgddjkaa
