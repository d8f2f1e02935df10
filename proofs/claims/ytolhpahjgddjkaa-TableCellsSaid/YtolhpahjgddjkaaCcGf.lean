/- Layer 20's functions as plain Lean functions: K stands for calls that come back, n bounds the rounds of loops. Made by a program. -/
import Derived.Test.YtolhpahjgddjkaaCcGt
namespace Go.Proofs.Ytolhpahjgddjkaa
open Go.RowKit
set_option maxRecDepth 20000
set_option linter.all false
set_option linter.unusedVariables false
set_option linter.unusedSimpArgs false
noncomputable section
def mJ (K:Kn) (n:Nat) (v1:List (List (V2 Int))) (v122:Int) (v123:List (List ae)) (v124:List TMp) (v139 v141 v142:Int) (v143:List ae) (L1:Int→Int→(List (List ae))→(List TMp)→Option ((List (List ae))×Int)) (L2:Int→Int→Int→Int→(List ae)→Option ((List (List ae))×Int)) (L3:Int→(V2 Int)→Option ((List (List ae))×Int)) (v146:Int) (v147:V2 Int):Option ((List (List ae))×Int) :=
  chk (inb v122 v124.length) (
  (some (mget (List.getD v124 (v122).toNat none) v146)).bind fun v148 =>
  if v148=true then
    L3 (w64 (v146+1)) v147
  else
    (some (min (max v147.a0 1) (w64 ((v1.length:Int) - v122)))).bind fun v149 =>
    chk (fits (v143.length+([(⟨v122,v146,v149,(min (max v147.a1 1) 100)⟩:ae)]:(List ae)).length) 32) (
    L2 (max v139 (w64 (v146+(min (max v147.a1 1) 100)))) (w64 (v146+(min (max v147.a1 1) 100))) v141 (w64 (v142+1)) (v143++[(⟨v122,v146,v149,(min (max v147.a1 1) 100)⟩:ae)])))
def im (K:Kn) (n:Nat) (v1:List (List (V2 Int))) (v122:Int) (v123:List (List ae)) (v124:List TMp) (v139 v141 v142:Int) (v143:List ae) (L1:Int→Int→(List (List ae))→(List TMp)→Option ((List (List ae))×Int)) (L2:Int→Int→Int→Int→(List ae)→Option ((List (List ae))×Int)):Nat→Int→(V2 Int)→Option ((List (List ae))×Int)
  | 0=>fun _ _=>none
  | m+1=>mJ K n v1 v122 v123 v124 v139 v141 v142 v143 L1 L2 (im K n v1 v122 v123 v124 v139 v141 v142 v143 L1 L2 m)
def oF (K:Kn) (n:Nat) (v1:List (List (V2 Int))) (v122:Int) (v123:List (List ae)) (v139:Int) (v143:List ae) (v166 v175:Int) (L1:Int→Int→(List (List ae))→(List TMp)→Option ((List (List ae))×Int)) (L4 L5 L6:Int→(List TMp)→Option ((List (List ae))×Int)) (v181:Int) (v182:List TMp):Option ((List (List ae))×Int) :=
  (some (decide (v181<(w64 (((List.getD v143 (v166).toNat default).Col)+((List.getD v143 (v166).toNat default).Cols)))))).bind fun v183 =>
  if v183=true then
    chk (inb v175 v182.length) (
    chk (Option.isSome (List.getD v182 (v175).toNat none)) (
    L6 (w64 (v181+1)) (List.set v182 (v175).toNat (mput (List.getD v182 (v175).toNat none) v181 true))))
  else
    L5 (w64 (v175+1)) v182
def kn (K:Kn) (n:Nat) (v1:List (List (V2 Int))) (v122:Int) (v123:List (List ae)) (v139:Int) (v143:List ae) (v166 v175:Int) (L1:Int→Int→(List (List ae))→(List TMp)→Option ((List (List ae))×Int)) (L4 L5:Int→(List TMp)→Option ((List (List ae))×Int)):Nat→Int→(List TMp)→Option ((List (List ae))×Int)
  | 0=>fun _ _=>none
  | m+1=>oF K n v1 v122 v123 v139 v143 v166 v175 L1 L4 L5 (kn K n v1 v122 v123 v139 v143 v166 v175 L1 L4 L5 m)
def mI (K:Kn) (n:Nat) (v1:List (List (V2 Int))) (v122:Int) (v123:List (List ae)) (v139:Int) (v143:List ae) (v166 v175:Int) (L1:Int→Int→(List (List ae))→(List TMp)→Option ((List (List ae))×Int)) (L4 L5:Int→(List TMp)→Option ((List (List ae))×Int)) (v179:List TMp):Option ((List (List ae))×Int) :=
  kn K n v1 v122 v123 v139 v143 v166 v175 L1 L4 L5 n ((List.getD v143 (v166).toNat default).Col) v179
def pq (K:Kn) (n:Nat) (v1:List (List (V2 Int))) (v122:Int) (v123:List (List ae)) (v139:Int) (v143:List ae) (v166:Int) (L1:Int→Int→(List (List ae))→(List TMp)→Option ((List (List ae))×Int)) (L4 L5:Int→(List TMp)→Option ((List (List ae))×Int)) (v175:Int) (v176:List TMp):Option ((List (List ae))×Int) :=
  (some (decide (v175<(w64 (v122+((List.getD v143 (v166).toNat default).Rows)))))).bind fun v177 =>
  if v177=true then
    chk (inb v175 v176.length) (
    (some (Option.isNone (List.getD v176 (v175).toNat none))).bind fun v178 =>
    if v178=true then
      chk (inb v175 v176.length) (
      mI K n v1 v122 v123 v139 v143 v166 v175 L1 L4 L5 (List.set v176 (v175).toNat (some [])))
    else
      mI K n v1 v122 v123 v139 v143 v166 v175 L1 L4 L5 v176)
  else
    L4 (w64 (v166+1)) v176
def ii (K:Kn) (n:Nat) (v1:List (List (V2 Int))) (v122:Int) (v123:List (List ae)) (v139:Int) (v143:List ae) (v166:Int) (L1:Int→Int→(List (List ae))→(List TMp)→Option ((List (List ae))×Int)) (L4:Int→(List TMp)→Option ((List (List ae))×Int)):Nat→Int→(List TMp)→Option ((List (List ae))×Int)
  | 0=>fun _ _=>none
  | m+1=>pq K n v1 v122 v123 v139 v143 v166 L1 L4 (ii K n v1 v122 v123 v139 v143 v166 L1 L4 m)
def ou (K:Kn) (n:Nat) (v1:List (List (V2 Int))) (v122:Int) (v123:List (List ae)) (v139:Int) (v143:List ae) (L1:Int→Int→(List (List ae))→(List TMp)→Option ((List (List ae))×Int)) (L4:Int→(List TMp)→Option ((List (List ae))×Int)) (v166:Int) (v167:List TMp):Option ((List (List ae))×Int) :=
  if (decide (v166<(v143.length:Int)))=true then
    chk (inb v166 v143.length) (
    ii K n v1 v122 v123 v139 v143 v166 L1 L4 n (w64 (v122+1)) v167)
  else
    chk (fits (v123.length+([v143]:(List (List ae))).length) 24) (
    L1 v139 (w64 (v122+1)) (v123++[v143]) v167)
def ig (K:Kn) (n:Nat) (v1:List (List (V2 Int))) (v122:Int) (v123:List (List ae)) (v139:Int) (v143:List ae) (L1:Int→Int→(List (List ae))→(List TMp)→Option ((List (List ae))×Int)):Nat→Int→(List TMp)→Option ((List (List ae))×Int)
  | 0=>fun _ _=>none
  | m+1=>ou K n v1 v122 v123 v139 v143 L1 (ig K n v1 v122 v123 v139 v143 L1 m)
def nC (K:Kn) (n:Nat) (v1:List (List (V2 Int))) (v122:Int) (v123:List (List ae)) (v124:List TMp) (L1:Int→Int→(List (List ae))→(List TMp)→Option ((List (List ae))×Int)) (L2:Int→Int→Int→Int→(List ae)→Option ((List (List ae))×Int)) (v139 v140 v141 v142:Int) (v143:List ae):Option ((List (List ae))×Int) :=
  if (decide (v142<v141))=true then
    chk (inb v142 (List.getD v1 (v122).toNat default).length) (
    im K n v1 v122 v123 v124 v139 v141 v142 v143 L1 L2 n v140 (List.getD (List.getD v1 (v122).toNat default) (v142).toNat default))
  else
    ig K n v1 v122 v123 v139 v143 L1 n 0 v124
def jq (K:Kn) (n:Nat) (v1:List (List (V2 Int))) (v122:Int) (v123:List (List ae)) (v124:List TMp) (L1:Int→Int→(List (List ae))→(List TMp)→Option ((List (List ae))×Int)):Nat→Int→Int→Int→Int→(List ae)→Option ((List (List ae))×Int)
  | 0=>fun _ _ _ _ _=>none
  | m+1=>nC K n v1 v122 v123 v124 L1 (jq K n v1 v122 v123 v124 L1 m)
def ov (K:Kn) (n:Nat) (v1:List (List (V2 Int))) (L1:Int→Int→(List (List ae))→(List TMp)→Option ((List (List ae))×Int)) (v121 v122:Int) (v123:List (List ae)) (v124:List TMp):Option ((List (List ae))×Int) :=
  if (decide (v122<(v1.length:Int)))=true then
    chk (inb v122 v1.length) (
    jq K n v1 v122 v123 v124 L1 n v121 0 ((List.getD v1 (v122).toNat default).length:Int) 0 [])
  else
    some (v123,v121)
def iv (K:Kn) (n:Nat) (v1:List (List (V2 Int))):Nat→Int→Int→(List (List ae))→(List TMp)→Option ((List (List ae))×Int)
  | 0=>fun _ _ _ _=>none
  | m+1=>ov K n v1 (iv K n v1 m)
def jn (K:Kn) (n:Nat) (v1:List (List (V2 Int))):Option ((List (List ae))×Int) :=
  chk (mkb (v1.length:Int) 8) (
  (some (List.replicate ((v1.length:Int)).toNat (none:TMp))).bind fun v2 =>
  iv K n v1 n 0 0 [] v2)
def fl (K:Kn) (n:Nat) (v1:Int):Option Int :=
  some (min (max v1 0) 1048576)
def iM (K:Kn) (n:Nat) (v1 v2:Int):Option Int :=
  some (min (max v1 0) v2)
def kq (K:Kn) (n:Nat) (v2 v3:Int) (v4:Fv) (v11 v15:Int) (v16:List Int) (L1 L2:Int→(List Int)→Option (List Int)) (v18:Bool):Option (List Int) :=
  if v18=true then
    chk (inb (w64 (v15 - 1)) v16.length) (
    chk (inb v15 v16.length) (
    chk (inb v15 v16.length) (
    chk (inb (w64 (v15 - 1)) (List.set v16 (v15).toNat (List.getD v16 ((w64 (v15 - 1))).toNat default)).length) (
    L2 (w64 (v15 - 1)) (List.set (List.set v16 (v15).toNat (List.getD v16 ((w64 (v15 - 1))).toNat default)) ((w64 (v15 - 1))).toNat (List.getD v16 (v15).toNat default))))))
  else
    L1 (w64 (v11+1)) v16
def pn (K:Kn) (n:Nat) (v2 v3:Int) (v4:Fv) (v11:Int) (L1 L2:Int→(List Int)→Option (List Int)) (v15:Int) (v16:List Int):Option (List Int) :=
  if (decide (v15>v2))=true then
    chk (inb v15 v16.length) (
    chk (inb (w64 (v15 - 1)) v16.length) (
    (K.dP v4 (List.getD v16 (v15).toNat default) (List.getD v16 ((w64 (v15 - 1))).toNat default)).bind fun v17 =>
    kq K n v2 v3 v4 v11 v15 v16 L1 L2 (decide (v17<0))))
  else
    kq K n v2 v3 v4 v11 v15 v16 L1 L2 false
def jZ (K:Kn) (n:Nat) (v2 v3:Int) (v4:Fv) (v11:Int) (L1:Int→(List Int)→Option (List Int)):Nat→Int→(List Int)→Option (List Int)
  | 0=>fun _ _=>none
  | m+1=>pn K n v2 v3 v4 v11 L1 (jZ K n v2 v3 v4 v11 L1 m)
def kA (K:Kn) (n:Nat) (v2 v3:Int) (v4:Fv) (L1:Int→(List Int)→Option (List Int)) (v11:Int) (v12:List Int):Option (List Int) :=
  if (decide (v11<v3))=true then
    jZ K n v2 v3 v4 v11 L1 n v11 v12
  else
    some v12
def gZ (K:Kn) (n:Nat) (v2 v3:Int) (v4:Fv):Nat→Int→(List Int)→Option (List Int)
  | 0=>fun _ _=>none
  | m+1=>kA K n v2 v3 v4 (gZ K n v2 v3 v4 m)
def l7 (K:Kn) (n:Nat) (v1:List Int) (v2 v3:Int) (v4:Fv):Option (List Int) :=
  gZ K n v2 v3 v4 n (w64 (v2+1)) v1
def oI (K:Kn) (n:Nat) (v2 v3 v4:Int) (L1:Int→(List Int)→Option (List Int)) (v6:Int) (v7:List Int):Option (List Int) :=
  if (decide (v6<v4))=true then
    chk (inb (w64 (v3+v6)) v7.length) (
    chk (inb (w64 (v2+v6)) v7.length) (
    chk (inb (w64 (v2+v6)) v7.length) (
    chk (inb (w64 (v3+v6)) (List.set v7 ((w64 (v2+v6))).toNat (List.getD v7 ((w64 (v3+v6))).toNat default)).length) (
    L1 (w64 (v6+1)) (List.set (List.set v7 ((w64 (v2+v6))).toNat (List.getD v7 ((w64 (v3+v6))).toNat default)) ((w64 (v3+v6))).toNat (List.getD v7 ((w64 (v2+v6))).toNat default))))))
  else
    some v7
def lY (K:Kn) (n:Nat) (v2 v3 v4:Int):Nat→Int→(List Int)→Option (List Int)
  | 0=>fun _ _=>none
  | m+1=>oI K n v2 v3 v4 (lY K n v2 v3 v4 m)
def jS (K:Kn) (n:Nat) (v1:List Int) (v2 v3 v4:Int) (v5:Fv):Option (List Int) :=
  lY K n v2 v3 v4 n 0 v1
def mH (K:Kn) (n:Nat) (v3:Int) (v5:Fv) (L1:Int→Int→(List Int)→Option (List Int)) (v16 v17:Int) (v18:List Int):Option (List Int) :=
  L1 v16 v17 v18
def nk (K:Kn) (n:Nat) (v3:Int) (v5:Fv) (L1:Int→Int→(List Int)→Option (List Int)) (v11 v12:Int) (v13:List Int):Option (List Int) :=
  if (v11 != v12)=true then
    if (decide (v11>v12))=true then
      (jS K n v13 (w64 (v3 - v11)) v3 v12 v5).bind fun v14 =>
      mH K n v3 v5 L1 (w64 (v11 - v12)) v12 v14
    else
      (jS K n v13 (w64 (v3 - v11)) (w64 ((w64 (v3+v12)) - v11)) v11 v5).bind fun v15 =>
      mH K n v3 v5 L1 v11 (w64 (v12 - v11)) v15
  else
    (jS K n v13 (w64 (v3 - v11)) v3 v11 v5).bind fun v19 =>
    some v19
def km (K:Kn) (n:Nat) (v3:Int) (v5:Fv):Nat→Int→Int→(List Int)→Option (List Int)
  | 0=>fun _ _ _=>none
  | m+1=>nk K n v3 v5 (km K n v3 v5 m)
def ob (K:Kn) (n:Nat) (v1:List Int) (v2 v3 v4:Int) (v5:Fv):Option (List Int) :=
  km K n v3 v5 n (w64 (v3 - v2)) (w64 (v4 - v3)) v1
def ot (K:Kn) (n:Nat) (v1:List Int) (v2:Int) (v5:Fv) (L1:Int→Int→Option (List Int)) (v14 v15:Int):Option (List Int) :=
  L1 v14 v15
def oJ (K:Kn) (n:Nat) (v10:Int) (L2:Int→(List Int)→Option (List Int)) (v16:Int) (v17:List Int):Option (List Int) :=
  if (decide (v16<(w64 (v10 - 1))))=true then
    chk (inb (w64 (v16+1)) v17.length) (
    chk (inb v16 v17.length) (
    chk (inb v16 v17.length) (
    chk (inb (w64 (v16+1)) (List.set v17 (v16).toNat (List.getD v17 ((w64 (v16+1))).toNat default)).length) (
    L2 (w64 (v16+1)) (List.set (List.set v17 (v16).toNat (List.getD v17 ((w64 (v16+1))).toNat default)) ((w64 (v16+1))).toNat (List.getD v17 (v16).toNat default))))))
  else
    some v17
def jb (K:Kn) (n:Nat) (v10:Int):Nat→Int→(List Int)→Option (List Int)
  | 0=>fun _ _=>none
  | m+1=>oJ K n v10 (jb K n v10 m)
def nI (K:Kn) (n:Nat) (v1:List Int) (v2:Int) (v5:Fv) (L1:Int→Int→Option (List Int)) (v10 v11:Int):Option (List Int) :=
  if (decide (v10<v11))=true then
    (some (w64 ((IntKind.wrap .u64 (w64 (v10+v11))) / 2))).bind fun v12 =>
    chk (inb v12 v1.length) (
    chk (inb v2 v1.length) (
    (K.dP v5 (List.getD v1 (v12).toNat default) (List.getD v1 (v2).toNat default)).bind fun v13 =>
    if (decide (v13<0))=true then
      ot K n v1 v2 v5 L1 (w64 (v12+1)) v11
    else
      ot K n v1 v2 v5 L1 v10 v12))
  else
    jb K n v10 n v2 v1
def ln (K:Kn) (n:Nat) (v1:List Int) (v2:Int) (v5:Fv):Nat→Int→Int→Option (List Int)
  | 0=>fun _ _=>none
  | m+1=>nI K n v1 v2 v5 (ln K n v1 v2 v5 m)
def nU (K:Kn) (n:Nat) (v1:List Int) (v3:Int) (v5:Fv) (L3:Int→Int→Option (List Int)) (v26 v27:Int):Option (List Int) :=
  L3 v26 v27
def nW (K:Kn) (n:Nat) (v22:Int) (L4:Int→(List Int)→Option (List Int)) (v28:Int) (v29:List Int):Option (List Int) :=
  if (decide (v28>v22))=true then
    chk (inb (w64 (v28 - 1)) v29.length) (
    chk (inb v28 v29.length) (
    chk (inb v28 v29.length) (
    chk (inb (w64 (v28 - 1)) (List.set v29 (v28).toNat (List.getD v29 ((w64 (v28 - 1))).toNat default)).length) (
    L4 (w64 (v28 - 1)) (List.set (List.set v29 (v28).toNat (List.getD v29 ((w64 (v28 - 1))).toNat default)) ((w64 (v28 - 1))).toNat (List.getD v29 (v28).toNat default))))))
  else
    some v29
def jh (K:Kn) (n:Nat) (v22:Int):Nat→Int→(List Int)→Option (List Int)
  | 0=>fun _ _=>none
  | m+1=>nW K n v22 (jh K n v22 m)
def pk (K:Kn) (n:Nat) (v1:List Int) (v3:Int) (v5:Fv) (L3:Int→Int→Option (List Int)) (v22 v23:Int):Option (List Int) :=
  if (decide (v22<v23))=true then
    (some (w64 ((IntKind.wrap .u64 (w64 (v22+v23))) / 2))).bind fun v24 =>
    chk (inb v3 v1.length) (
    chk (inb v24 v1.length) (
    (K.dP v5 (List.getD v1 (v3).toNat default) (List.getD v1 (v24).toNat default)).bind fun v25 =>
    if (!(decide (v25<0)))=true then
      nU K n v1 v3 v5 L3 (w64 (v24+1)) v23
    else
      nU K n v1 v3 v5 L3 v22 v24))
  else
    jh K n v22 n v3 v1
def kQ (K:Kn) (n:Nat) (v1:List Int) (v3:Int) (v5:Fv):Nat→Int→Int→Option (List Int)
  | 0=>fun _ _=>none
  | m+1=>pk K n v1 v3 v5 (kQ K n v1 v3 v5 m)
def pC (K:Kn) (n:Nat) (v1:List Int) (v2 v3 v4:Int) (v5:Fv) (v30 v31:Int) (L5:Int→Int→Option (List Int)) (v43 v44:Int):Option (List Int) :=
  L5 v43 v44
def n7 (K:Kn) (n:Nat) (v53:List Int):Option (List Int) :=
  some v53
def kj (K:Kn) (n:Nat) (v4:Int) (v5:Fv) (v30 v31 v39:Int) (v50:List Int) (v51:Bool):Option (List Int) :=
  if v51=true then
    (K.fT v50 v30 (w64 (v31 - v39)) v4 v5).bind fun v52 =>
    n7 K n v52
  else
    n7 K n v50
def gi (K:Kn) (n:Nat) (v4:Int) (v5:Fv) (v30 v31 v39:Int) (v50:List Int):Option (List Int) :=
  if (decide (v30<(w64 (v31 - v39))))=true then
    kj K n v4 v5 v30 v31 v39 v50 (decide ((w64 (v31 - v39))<v4))
  else
    kj K n v4 v5 v30 v31 v39 v50 false
def mr (K:Kn) (n:Nat) (v2 v4:Int) (v5:Fv) (v30 v31 v39:Int) (v47:List Int) (v48:Bool):Option (List Int) :=
  if v48=true then
    (K.fT v47 v2 v39 v30 v5).bind fun v49 =>
    gi K n v4 v5 v30 v31 v39 v49
  else
    gi K n v4 v5 v30 v31 v39 v47
def jB (K:Kn) (n:Nat) (v2 v4:Int) (v5:Fv) (v30 v31 v39:Int) (v47:List Int):Option (List Int) :=
  if (decide (v2<v39))=true then
    mr K n v2 v4 v5 v30 v31 v39 v47 (decide (v39<v30))
  else
    mr K n v2 v4 v5 v30 v31 v39 v47 false
def eJ (K:Kn) (n:Nat) (v1:List Int) (v2 v3 v4:Int) (v5:Fv) (v30 v31 v39:Int) (v45:Bool):Option (List Int) :=
  if v45=true then
    (ob K n v1 v39 v3 (w64 (v31 - v39)) v5).bind fun v46 =>
    jB K n v2 v4 v5 v30 v31 v39 v46
  else
    jB K n v2 v4 v5 v30 v31 v39 v1
def o8 (K:Kn) (n:Nat) (v1:List Int) (v2 v3 v4:Int) (v5:Fv) (v30 v31:Int) (L5:Int→Int→Option (List Int)) (v39 v40:Int):Option (List Int) :=
  if (decide (v39<v40))=true then
    (some (w64 ((IntKind.wrap .u64 (w64 (v39+v40))) / 2))).bind fun v41 =>
    chk (inb (w64 ((w64 (v31 - 1)) - v41)) v1.length) (
    chk (inb v41 v1.length) (
    (K.dP v5 (List.getD v1 ((w64 ((w64 (v31 - 1)) - v41))).toNat default) (List.getD v1 (v41).toNat default)).bind fun v42 =>
    if (!(decide (v42<0)))=true then
      pC K n v1 v2 v3 v4 v5 v30 v31 L5 (w64 (v41+1)) v40
    else
      pC K n v1 v2 v3 v4 v5 v30 v31 L5 v39 v41))
  else
    if (decide (v39<v3))=true then
      eJ K n v1 v2 v3 v4 v5 v30 v31 v39 (decide (v3<(w64 (v31 - v39))))
    else
      eJ K n v1 v2 v3 v4 v5 v30 v31 v39 false
def iU (K:Kn) (n:Nat) (v1:List Int) (v2 v3 v4:Int) (v5:Fv) (v30 v31:Int):Nat→Int→Int→Option (List Int)
  | 0=>fun _ _=>none
  | m+1=>o8 K n v1 v2 v3 v4 v5 v30 v31 (iU K n v1 v2 v3 v4 v5 v30 v31 m)
def lN (K:Kn) (n:Nat) (v1:List Int) (v2 v3 v4:Int) (v5:Fv) (v30 v31 v33 v34:Int):Option (List Int) :=
  iU K n v1 v2 v3 v4 v5 v30 v31 n v33 v34
def fg (K:Kn) (n:Nat) (v1:List Int) (v2 v3 v4:Int) (v5:Fv):Option (List Int) :=
  if ((w64 (v3 - v2)) == 1)=true then
    ln K n v1 v2 v5 n v3 v4
  else
    if ((w64 (v4 - v3)) == 1)=true then
      kQ K n v1 v3 v5 n v2 v3
    else
      (some (w64 ((IntKind.wrap .u64 (w64 (v2+v4))) / 2))).bind fun v30 =>
      (some (w64 ((w64 ((IntKind.wrap .u64 (w64 (v2+v4))) / 2))+v3))).bind fun v31 =>
      (some (decide (v3>(w64 ((IntKind.wrap .u64 (w64 (v2+v4))) / 2))))).bind fun v32 =>
      if v32=true then
        lN K n v1 v2 v3 v4 v5 v30 v31 (w64 (v31 - v4)) v30
      else
        lN K n v1 v2 v3 v4 v5 v30 v31 v2 v3
def nD (K:Kn) (n:Nat) (v2:Int) (v3:Fv) (v17:Int) (L2:Int→(List Int)→Option (List Int)) (v25:List Int):Option (List Int) :=
  L2 (w64 (v17*2)) v25
def nt (K:Kn) (n:Nat) (v2:Int) (v3:Fv) (v17:Int) (L2:Int→(List Int)→Option (List Int)) (L3:Int→Int→(List Int)→Option (List Int)) (v20 v21:Int) (v22:List Int):Option (List Int) :=
  if (decide (v21≤v2))=true then
    (fg K n v22 v20 (w64 (v20+v17)) v21 v3).bind fun v23 =>
    L3 v21 (w64 (v21+(w64 (2*v17)))) v23
  else
    if (decide ((w64 (v20+v17))<v2))=true then
      (fg K n v22 v20 (w64 (v20+v17)) v2 v3).bind fun v24 =>
      nD K n v2 v3 v17 L2 v24
    else
      nD K n v2 v3 v17 L2 v22
def kv (K:Kn) (n:Nat) (v2:Int) (v3:Fv) (v17:Int) (L2:Int→(List Int)→Option (List Int)):Nat→Int→Int→(List Int)→Option (List Int)
  | 0=>fun _ _ _=>none
  | m+1=>nt K n v2 v3 v17 L2 (kv K n v2 v3 v17 L2 m)
def mY (K:Kn) (n:Nat) (v2:Int) (v3:Fv) (L2:Int→(List Int)→Option (List Int)) (v17:Int) (v18:List Int):Option (List Int) :=
  if (decide (v17<v2))=true then
    kv K n v2 v3 v17 L2 n 0 (w64 (2*v17)) v18
  else
    some v18
def ia (K:Kn) (n:Nat) (v2:Int) (v3:Fv):Nat→Int→(List Int)→Option (List Int)
  | 0=>fun _ _=>none
  | m+1=>mY K n v2 v3 (ia K n v2 v3 m)
def nQ (K:Kn) (n:Nat) (v2:Int) (v3:Fv) (L1:Int→Int→(List Int)→Option (List Int)) (v5 v6:Int) (v7:List Int):Option (List Int) :=
  if (decide (v6≤v2))=true then
    (l7 K n v7 v5 v6 v3).bind fun v8 =>
    L1 v6 (w64 (v6+20)) v8
  else
    (l7 K n v7 v5 v2 v3).bind fun v9 =>
    ia K n v2 v3 n 20 v9
def lj (K:Kn) (n:Nat) (v2:Int) (v3:Fv):Nat→Int→Int→(List Int)→Option (List Int)
  | 0=>fun _ _ _=>none
  | m+1=>nQ K n v2 v3 (lj K n v2 v3 m)
def pZ (K:Kn) (n:Nat) (v1:List Int) (v2:Int) (v3:Fv):Option (List Int) :=
  lj K n v2 v3 n 0 20 v1
def gh (K:Kn) (n:Nat) (v1:List Int) (v2:Fv):Option (List Int) :=
  (pZ K n v1 (v1.length:Int) v2).bind fun v3 =>
  some v3
def kR (K:Kn) (n:Nat) (v1:Int):Option Bool :=
  some (v1 != v1)
def j2 (K:Kn) (n:Nat) (v1 v2:Int):Option Int :=
  (kR K n v1).bind fun v3 =>
  (kR K n v2).bind fun v4 =>
  if v3=true then
    if v4=true then
      some 0
    else
      some (-1)
  else
    if v4=true then
      some 1
    else
      if (decide (v1<v2))=true then
        some (-1)
      else
        if (decide (v1>v2))=true then
          some 1
        else
          some 0
def mU (K:Kn) (n:Nat) (v1 v2:Int) (v3:List Int):Option Int :=
  chk (inb v2 v3.length) (
  chk (inb v1 v3.length) (
  (j2 K n (List.getD v3 (v2).toNat default) (List.getD v3 (v1).toNat default)).bind fun v4 =>
  some v4))
def oi (K:Kn) (n:Nat) (L3:(List Int)→Int→Int→(List Int)→Option (List Int)) (v26:List Int) (v27 v28:Int) (v29:List Int):Option (List Int) :=
  if (decide (v28<v27))=true then
    chk (inb v28 v26.length) (
    chk (inb (List.getD v26 (v28).toNat default) v29.length) (
    chk (inb (List.getD v26 (v28).toNat default) v29.length) (
    L3 v26 v27 (w64 (v28+1)) (List.set v29 ((List.getD v26 (v28).toNat default)).toNat (w64 ((List.getD v29 ((List.getD v26 (v28).toNat default)).toNat default)+1))))))
  else
    some v29
def iX (K:Kn) (n:Nat):Nat→(List Int)→Int→Int→(List Int)→Option (List Int)
  | 0=>fun _ _ _ _=>none
  | m+1=>oi K n (iX K n m)
def pK (K:Kn) (n:Nat) (v2:List Int) (v3 v8:Int) (L2:Int→Int→(List Int)→(List Int)→(List Int)→Option (List Int)) (v14 v15:Int) (v16 v17 v18:List Int):Option (List Int) :=
  if (decide (v15<(v2.length:Int)))=true then
    chk (inb v15 v2.length) (
    (iM K n (List.getD v2 (v15).toNat default) 2147483647).bind fun v19 =>
    chk ((v8 != 0)) (
    chk ((v8 != 0)) (
    chk (inb v15 v16.length) (
    chk (inb v15 v17.length) (
    chk (inb v15 v18.length) (
    (some (List.set v16 (v15).toNat (w64 (Int.tdiv (w64 (v3*v19)) v8)))).bind fun v20 =>
    (some (List.set v17 (v15).toNat (Int.tmod (w64 (v3*v19)) v8))).bind fun v21 =>
    chk (inb v15 v20.length) (
    L2 (w64 (v14 - (List.getD v20 (v15).toNat default))) (w64 (v15+1)) v20 v21 (List.set v18 (v15).toNat v15))))))))
  else
    (gh K n v18 (Fv.c59 v17)).bind fun v22 =>
    chk (slb (0:Int) v14 v22.length) (
    iX K n n (List.drop ((0:Int)).toNat (List.take (v14).toNat v22)) ((List.drop ((0:Int)).toNat (List.take (v14).toNat v22)).length:Int) 0 v16)
def jc (K:Kn) (n:Nat) (v2:List Int) (v3 v8:Int):Nat→Int→Int→(List Int)→(List Int)→(List Int)→Option (List Int)
  | 0=>fun _ _ _ _ _=>none
  | m+1=>pK K n v2 v3 v8 (jc K n v2 v3 v8 m)
def oE (K:Kn) (n:Nat) (v2:List Int) (v3:Int) (v4 v5 v6:List Int) (L1:Int→Int→Option (List Int)) (v8 v9:Int):Option (List Int) :=
  if (decide (v9<(v2.length:Int)))=true then
    chk (inb v9 v2.length) (
    (iM K n (List.getD v2 (v9).toNat default) 2147483647).bind fun v10 =>
    L1 (w64 (v8+v10)) (w64 (v9+1)))
  else
    if (v8 == 0)=true then
      some v4
    else
      jc K n v2 v3 v8 n v3 0 v4 v5 v6
def kF (K:Kn) (n:Nat) (v2:List Int) (v3:Int) (v4 v5 v6:List Int):Nat→Int→Int→Option (List Int)
  | 0=>fun _ _=>none
  | m+1=>oE K n v2 v3 v4 v5 v6 (kF K n v2 v3 v4 v5 v6 m)
def lM (K:Kn) (n:Nat) (v1:Int) (v2:List Int):Option (List Int) :=
  (iM K n v1 2147483647).bind fun v3 =>
  chk (mkb (v2.length:Int) 8) (
  (some (List.replicate ((v2.length:Int)).toNat (0:Int))).bind fun v4 =>
  chk (mkb (v2.length:Int) 8) (
  (some (List.replicate ((v2.length:Int)).toNat (0:Int))).bind fun v5 =>
  chk (mkb (v2.length:Int) 8) (
  (some (List.replicate ((v2.length:Int)).toNat (0:Int))).bind fun v6 =>
  kF K n v2 v3 v4 v5 v6 n 0 0)))
def nR (K:Kn) (n:Nat) (v1:List Int) (v2:Fv) (L1:Int→Option Int) (v4:Int):Option Int :=
  if (decide (v4<(v1.length:Int)))=true then
    chk (inb v4 v1.length) (
    (K.oA v2 (List.getD v1 (v4).toNat default)).bind fun v5 =>
    if v5=true then
      some v4
    else
      L1 (w64 (v4+1)))
  else
    some (-1)
def jY (K:Kn) (n:Nat) (v1:List Int) (v2:Fv):Nat→Int→Option Int
  | 0=>fun _=>none
  | m+1=>nR K n v1 v2 (jY K n v1 v2 m)
def qV (K:Kn) (n:Nat) (v1:List Int) (v2:Fv):Option Int :=
  jY K n v1 v2 n 0
def oq (K:Kn) (n:Nat) (v1:List Int) (v2:Fv):Option Bool :=
  (qV K n v1 v2).bind fun v3 =>
  some (decide (v3≥0))
def ra (K:Kn) (n:Nat) (v1 v2:Int):Option (Int×Int) :=
  some ((IntKind.wrap .u64 ((IntKind.wrap .u64 ((IntKind.wrap .u64 ((v1 / 4294967296)*(v2 / 4294967296)))+((IntKind.wrap .u64 ((IntKind.wrap .u64 ((v1 / 4294967296)*(iand .u64 v2 4294967295)))+((IntKind.wrap .u64 ((iand .u64 v1 4294967295)*(iand .u64 v2 4294967295))) / 4294967296))) / 4294967296)))+((IntKind.wrap .u64 ((iand .u64 (IntKind.wrap .u64 ((IntKind.wrap .u64 ((v1 / 4294967296)*(iand .u64 v2 4294967295)))+((IntKind.wrap .u64 ((iand .u64 v1 4294967295)*(iand .u64 v2 4294967295))) / 4294967296))) 4294967295)+(IntKind.wrap .u64 ((iand .u64 v1 4294967295)*(v2 / 4294967296))))) / 4294967296))),(IntKind.wrap .u64 (v1*v2)))
def pJ (K:Kn) (n:Nat) (v1 v2:Int):Option (Int×Int) :=
  (ra K n v1 v2).bind fun v3 =>
  some (v3.1,v3.2)
def m9 (K:Kn) (n:Nat) (L1:Int→(List Int)→Option (List Int)) (v7:Int) (v8:List Int):Option (List Int) :=
  if (decide (v7<(v8.length:Int)))=true then
    chk (slb v7 (v8.length:Int) v8.length) (
    chk (slb (0:Int) v7 v8.length) (
    chk (cpb ((v7).toNat) (((v8.length:Int)).toNat - (v7).toNat) v8.length ((0:Int).toNat) ((v7).toNat - (0:Int).toNat) v8.length) (
    L1 (w64 (v7+((min ((v7).toNat - (0:Int).toNat) (((v8.length:Int)).toNat - (v7).toNat):Nat):Int))) (cpy v8 ((v7).toNat) (((v8.length:Int)).toNat - (v7).toNat) v8 ((0:Int).toNat) ((v7).toNat - (0:Int).toNat)))))
  else
    some v8
def mc (K:Kn) (n:Nat):Nat→Int→(List Int)→Option (List Int)
  | 0=>fun _ _=>none
  | m+1=>m9 K n (mc K n m)
def nZ (K:Kn) (n:Nat) (v1:List Int) (v3:Int×Int) (v4:Bool):Option (List Int) :=
  if v4=true then
    none
  else
    chk (mkb (w64 v3.2) 8) (
    (some (List.replicate ((w64 v3.2)).toNat (0:Int))).bind fun v5 =>
    chk (cpb 0 v5.length v5.length 0 v1.length v1.length) (
    mc K n n ((min v1.length v5.length:Nat):Int) (cpy v5 0 v5.length v1 0 v1.length)))
def mN (K:Kn) (n:Nat) (v1:List Int) (v2:Int):Option (List Int) :=
  if (decide (v2<0))=true then
    none
  else
    (pJ K n (IntKind.wrap .u64 (v1.length:Int)) (IntKind.wrap .u64 v2)).bind fun v3 =>
    if (decide (v3.1>0))=true then
      nZ K n v1 v3 true
    else
      nZ K n v1 v3 (decide (v3.2>9223372036854775807))
def pL (K:Kn) (n:Nat) (v1:Int) (v5:List Int):Option (List Int) :=
  (lM K n v1 v5).bind fun v6 =>
  some v6
def g8 (K:Kn) (n:Nat) (v1:Int) (v2:List Int):Option (List Int) :=
  (oq K n v2 (Fv.fn 62)).bind fun v3 =>
  if (!v3)=true then
    (mN K n [1] (v2.length:Int)).bind fun v4 =>
    pL K n v1 v4
  else
    pL K n v1 v2
def oC (K:Kn) (n:Nat) (v27:List Int) (L2:Int→(List Int)→Option (List Int)) (v28:Int) (v29:List Int):Option (List Int) :=
  if (decide (v28<(v27.length:Int)))=true then
    chk (inb v28 v27.length) (
    chk (inb v28 v29.length) (
    chk (inb v28 v29.length) (
    L2 (w64 (v28+1)) (List.set v29 (v28).toNat (w64 ((List.getD v29 (v28).toNat default)+(List.getD v27 (v28).toNat default)))))))
  else
    some v29
def lw (K:Kn) (n:Nat) (v27:List Int):Nat→Int→(List Int)→Option (List Int)
  | 0=>fun _ _=>none
  | m+1=>oC K n v27 (lw K n v27 m)
def ny (K:Kn) (n:Nat) (v26 v27:List Int):Option (List Int) :=
  lw K n v27 n 0 v26
def oM (K:Kn) (n:Nat) (v1:List am) (v2:Int) (L1:Int→Int→Int→(List Int)→(List Int)→(List Int)→Option (List Int)) (v11 v12 v13:Int) (v14 v15 v16:List Int):Option (List Int) :=
  if (decide (v13<(v1.length:Int)))=true then
    chk (inb v13 v1.length) (
    (fl K n ((List.getD v1 (v13).toNat default).Least)).bind fun v17 =>
    chk (inb v13 v14.length) (
    (fl K n ((List.getD v1 (v13).toNat default).Most)).bind fun v18 =>
    chk (inb v13 (List.set v14 (v13).toNat v17).length) (
    chk (inb v13 v15.length) (
    (some (List.set v15 (v13).toNat (max v18 (List.getD (List.set v14 (v13).toNat v17) (v13).toNat default)))).bind fun v19 =>
    chk (inb v13 v19.length) (
    chk (inb v13 (List.set v14 (v13).toNat v17).length) (
    chk (inb v13 v16.length) (
    (some (List.set v16 (v13).toNat (w64 ((List.getD v19 (v13).toNat default) - (List.getD (List.set v14 (v13).toNat v17) (v13).toNat default))))).bind fun v20 =>
    chk (inb v13 (List.set v14 (v13).toNat v17).length) (
    (some (w64 (v11+(List.getD (List.set v14 (v13).toNat v17) (v13).toNat default)))).bind fun v21 =>
    chk (inb v13 v19.length) (
    L1 v21 (w64 (v12+(List.getD v19 (v13).toNat default))) (w64 (v13+1)) (List.set v14 (v13).toNat v17) v19 v20)))))))))
  else
    if (decide (v2≤v11))=true then
      some v14
    else
      if (decide (v2<v12))=true then
        (fl K n (w64 (v2 - v11))).bind fun v22 =>
        (lM K n v22 v16).bind fun v23 =>
        ny K n v14 v23
      else
        (fl K n (w64 (v2 - v12))).bind fun v24 =>
        (g8 K n v24 v15).bind fun v25 =>
        ny K n v15 v25
def lV (K:Kn) (n:Nat) (v1:List am) (v2:Int):Nat→Int→Int→Int→(List Int)→(List Int)→(List Int)→Option (List Int)
  | 0=>fun _ _ _ _ _ _=>none
  | m+1=>oM K n v1 v2 (lV K n v1 v2 m)
def kO (K:Kn) (n:Nat) (v1:List am) (v2:Int):Option (List Int) :=
  chk (mkb (v1.length:Int) 8) (
  (some (List.replicate ((v1.length:Int)).toNat (0:Int))).bind fun v3 =>
  chk (mkb (v1.length:Int) 8) (
  (some (List.replicate ((v1.length:Int)).toNat (0:Int))).bind fun v4 =>
  chk (mkb (v1.length:Int) 8) (
  (some (List.replicate ((v1.length:Int)).toNat (0:Int))).bind fun v5 =>
  lV K n v1 v2 n 0 0 0 v3 v4 v5)))
def gj (K:Kn) (n:Nat) (v3:Bool):Option Bool :=
  some v3
def pd (K:Kn) (n:Nat):Option Bool :=
  (jn K n [[⟨2,1⟩,⟨1,1⟩],[⟨1,1⟩]]).bind fun v1 =>
  (kO K n [(⟨10,30⟩:am),(⟨20,40⟩:am)] 50).bind fun v2 =>
  if (v1.2 == 2)=true then
    if ((v1.1.length:Int) == 2)=true then
      chk (inb (1:Int) v1.1.length) (
      if (((List.getD v1.1 (1:Int).toNat default).length:Int) == 1)=true then
        chk (inb (1:Int) v1.1.length) (
        chk (inb (0:Int) (List.getD v1.1 (1:Int).toNat default).length) (
        if (qTTablePlace (List.getD (List.getD v1.1 (1:Int).toNat default) (0:Int).toNat default) (⟨1,1,1,1⟩:ae))=true then
          if ((v2.length:Int) == 2)=true then
            chk (inb (0:Int) v2.length) (
            if ((List.getD v2 (0:Int).toNat default) == 20)=true then
              chk (inb (1:Int) v2.length) (
              gj K n ((List.getD v2 (1:Int).toNat default) == 30))
            else
              gj K n false)
          else
            gj K n false
        else
          gj K n false))
      else
        gj K n false)
    else
      gj K n false
  else
    gj K n false
def pi (K:Kn) (n:Nat) (v2:Bool):Option Bool :=
  some v2
def dg (K:Kn) (n:Nat) (v1:cn):Option Bool :=
  if (decide (v1.Value≥(-16777216)))=true then
    pi K n (decide (v1.Value≤16777216))
  else
    pi K n false
def ky (K:Kn) (n:Nat) (v1:List bN) (v2 v23:Int) (L1:Int→Option Bool) (v43:Bool):Option Bool :=
  if v43=true then
    some false
  else
    L1 (w64 (v23+1))
def oH (K:Kn) (n:Nat) (v1:List bN) (v2 v23:Int) (L1:Int→Option Bool) (v40:Bool):Option Bool :=
  if v40=true then
    some false
  else
    (dg K n ((((List.getD v1 (v23).toNat default).Style).Margin).a3)).bind fun v41 =>
    if (!v41)=true then
      ky K n v1 v2 v23 L1 true
    else
      (dg K n ((((List.getD v1 (v23).toNat default).Style).Padding).a3)).bind fun v42 =>
      ky K n v1 v2 v23 L1 (!v42)
def ow (K:Kn) (n:Nat) (v1:List bN) (v2 v23:Int) (L1:Int→Option Bool) (v37:Bool):Option Bool :=
  if v37=true then
    some false
  else
    (dg K n ((((List.getD v1 (v23).toNat default).Style).Margin).a2)).bind fun v38 =>
    if (!v38)=true then
      oH K n v1 v2 v23 L1 true
    else
      (dg K n ((((List.getD v1 (v23).toNat default).Style).Padding).a2)).bind fun v39 =>
      oH K n v1 v2 v23 L1 (!v39)
def mS (K:Kn) (n:Nat) (v1:List bN) (v2 v23:Int) (L1:Int→Option Bool) (v34:Bool):Option Bool :=
  if v34=true then
    some false
  else
    (dg K n ((((List.getD v1 (v23).toNat default).Style).Margin).a1)).bind fun v35 =>
    if (!v35)=true then
      ow K n v1 v2 v23 L1 true
    else
      (dg K n ((((List.getD v1 (v23).toNat default).Style).Padding).a1)).bind fun v36 =>
      ow K n v1 v2 v23 L1 (!v36)
def cU (K:Kn) (n:Nat) (v1:List bN) (v2 v23:Int) (L1:Int→Option Bool) (v31:Bool):Option Bool :=
  if v31=true then
    some false
  else
    (dg K n ((((List.getD v1 (v23).toNat default).Style).Margin).a0)).bind fun v32 =>
    if (!v32)=true then
      mS K n v1 v2 v23 L1 true
    else
      (dg K n ((((List.getD v1 (v23).toNat default).Style).Padding).a0)).bind fun v33 =>
      mS K n v1 v2 v23 L1 (!v33)
def gx (K:Kn) (n:Nat) (v1:List bN) (v2:Int) (L1:Int→Option Bool) (v23:Int):Option Bool :=
  if (decide (v23<(v1.length:Int)))=true then
    chk (inb v23 v1.length) (
    chk (inb v23 v1.length) (
    if (decide ((((List.getD v1 (v23).toNat default).Text).size:Int)>60))=true then
      cU K n v1 v2 v23 L1 true
    else
      (dg K n (((List.getD v1 (v23).toNat default).Style).Left)).bind fun v24 =>
      if (!v24)=true then
        cU K n v1 v2 v23 L1 true
      else
        (dg K n (((List.getD v1 (v23).toNat default).Style).Top)).bind fun v25 =>
        if (!v25)=true then
          cU K n v1 v2 v23 L1 true
        else
          (dg K n (((List.getD v1 (v23).toNat default).Style).Width)).bind fun v26 =>
          if (!v26)=true then
            cU K n v1 v2 v23 L1 true
          else
            (dg K n (((List.getD v1 (v23).toNat default).Style).Height)).bind fun v27 =>
            if (!v27)=true then
              cU K n v1 v2 v23 L1 true
            else
              (dg K n (((List.getD v1 (v23).toNat default).Style).MinWidth)).bind fun v28 =>
              if (!v28)=true then
                cU K n v1 v2 v23 L1 true
              else
                (dg K n (((List.getD v1 (v23).toNat default).Style).MaxWidth)).bind fun v29 =>
                if (!v29)=true then
                  cU K n v1 v2 v23 L1 true
                else
                  (dg K n (((List.getD v1 (v23).toNat default).Style).Basis)).bind fun v30 =>
                  if (!v30)=true then
                    cU K n v1 v2 v23 L1 true
                  else
                    if (decide ((((List.getD v1 (v23).toNat default).Style).LineHeight)<0))=true then
                      cU K n v1 v2 v23 L1 true
                    else
                      if (decide ((((List.getD v1 (v23).toNat default).Style).LineHeight)>65536))=true then
                        cU K n v1 v2 v23 L1 true
                      else
                        if (decide ((((List.getD v1 (v23).toNat default).Style).FontSize)<0))=true then
                          cU K n v1 v2 v23 L1 true
                        else
                          if (decide ((((List.getD v1 (v23).toNat default).Style).FontSize)>65536))=true then
                            cU K n v1 v2 v23 L1 true
                          else
                            if (decide ((((List.getD v1 (v23).toNat default).Style).Grow)<0))=true then
                              cU K n v1 v2 v23 L1 true
                            else
                              if (decide ((((List.getD v1 (v23).toNat default).Style).Grow)>1048576))=true then
                                cU K n v1 v2 v23 L1 true
                              else
                                if (decide ((((List.getD v1 (v23).toNat default).Style).Shrink)<0))=true then
                                  cU K n v1 v2 v23 L1 true
                                else
                                  cU K n v1 v2 v23 L1 (decide ((((List.getD v1 (v23).toNat default).Style).Shrink)>1048576))))
  else
    some (decide ((v1.length:Int)≤v2))
def jj (K:Kn) (n:Nat) (v1:List bN) (v2:Int):Nat→Int→Option Bool
  | 0=>fun _=>none
  | m+1=>gx K n v1 v2 (jj K n v1 v2 m)
def qp (K:Kn) (n:Nat) (v1:List bN) (v2:Int):Option Bool :=
  jj K n v1 v2 n 0
def nK (K:Kn) (n:Nat) (v3:Bool):Option Bool :=
  some v3
def oo (K:Kn) (n:Nat) (v1:List bN):Option Bool :=
  (qp K n v1 20).bind fun v2 =>
  if v2=true then
    nK K n (decide ((v1.length:Int)>0))
  else
    nK K n false
def jK (K:Kn) (n:Nat) (v1:List bN) (v6:Int) (L1:Int→(List (ab×Option (List ab)))→Option ab) (v11:List (ab×Option (List ab))):Option ab :=
  L1 (w64 (v6+1)) v11
def gS (K:Kn) (n:Nat) (v1:List bN) (v6:Int) (v7:List (ab×Option (List ab))) (L1:Int→(List (ab×Option (List ab)))→Option ab) (v8:Bool):Option ab :=
  if v8=true then
    chk (fits (v7.length+1) 520) (
    jK K n v1 v6 L1 (v7++[(({ cf with Kind:=8,Node:=(w64 (10+v6)),Style:=(List.getD v1 (v6).toNat default).Style }:ab),some [])]))
  else
    chk (fits ([({ cf with Kind:=3,Style:=(List.getD v1 (v6).toNat default).Style,Text:=(List.getD v1 (v6).toNat default).Text }:ab)]:(List ab)).length 520) (
    both (true) (
      chk (inb (w64 ((v7.length:Int) - 1)) v7.length) (
      ((List.getD v7 ((w64 ((v7.length:Int) - 1))).toNat default).2).bind fun v9 =>
      chk (inb (w64 ((v7.length:Int) - 1)) v7.length) (
      chk (fits (v9.length+([cf]:(List ab)).length) 520) (
      chk (inb (w64 ((v7.length:Int) - 1)) v7.length) (
      chk (inb (v9.length:Int) (v9++[cf]).length) (
      jK K n v1 v6 L1 (List.set v7 ((w64 ((v7.length:Int) - 1))).toNat ((List.getD v7 ((w64 ((v7.length:Int) - 1))).toNat default).1,some (List.set (v9++[cf]) ((v9.length:Int)).toNat (⟨9,(w64 (10+v6)),(List.getD v1 (v6).toNat default).Style,⟨#[]⟩,(w64 (Int.tmod ((List.getD v1 (v6).toNat default).Rows) 4)),(w64 (Int.tmod ((List.getD v1 (v6).toNat default).Cols) 4)),[({ cf with Kind:=3,Style:=(List.getD v1 (v6).toNat default).Style,Text:=(List.getD v1 (v6).toNat default).Text }:ab)]⟩:ab)))))))))) (
      chk (inb (w64 ((v7.length:Int) - 1)) v7.length) (
      ((List.getD v7 ((w64 ((v7.length:Int) - 1))).toNat default).2).bind fun v10 =>
      chk (inb (w64 ((v7.length:Int) - 1)) v7.length) (
      chk (fits (v10.length+([(⟨9,(w64 (10+v6)),(List.getD v1 (v6).toNat default).Style,⟨#[]⟩,(w64 (Int.tmod ((List.getD v1 (v6).toNat default).Rows) 4)),(w64 (Int.tmod ((List.getD v1 (v6).toNat default).Cols) 4)),[({ cf with Kind:=3,Style:=(List.getD v1 (v6).toNat default).Style,Text:=(List.getD v1 (v6).toNat default).Text }:ab)]⟩:ab)]:(List ab)).length) 520) (
      chk (inb (w64 ((v7.length:Int) - 1)) v7.length) (
      jK K n v1 v6 L1 (List.set v7 ((w64 ((v7.length:Int) - 1))).toNat ((List.getD v7 ((w64 ((v7.length:Int) - 1))).toNat default).1,some (v10++[(⟨9,(w64 (10+v6)),(List.getD v1 (v6).toNat default).Style,⟨#[]⟩,(w64 (Int.tmod ((List.getD v1 (v6).toNat default).Rows) 4)),(w64 (Int.tmod ((List.getD v1 (v6).toNat default).Cols) 4)),[({ cf with Kind:=3,Style:=(List.getD v1 (v6).toNat default).Style,Text:=(List.getD v1 (v6).toNat default).Text }:ab)]⟩:ab)])))))))))
def oX (K:Kn) (n:Nat) (v1:List bN) (L1:Int→(List (ab×Option (List ab)))→Option ab) (v6:Int) (v7:List (ab×Option (List ab))):Option ab :=
  if (decide (v6<(v1.length:Int)))=true then
    chk (inb v6 v1.length) (
    if ((Int.tmod ((List.getD v1 (v6).toNat default).Kind) 4) == 0)=true then
      gS K n v1 v6 v7 L1 true
    else
      gS K n v1 v6 v7 L1 ((v7.length:Int) == 0))
  else
    chk (List.all v7 (fun p=>p.2.isSome)) (
    some (⟨7,10,(List.getD v1 (0:Int).toNat default).Style,⟨#[]⟩,0,0,(List.map wTBoxtreeBox v7)⟩:ab))
def gk (K:Kn) (n:Nat) (v1:List bN):Nat→Int→(List (ab×Option (List ab)))→Option ab
  | 0=>fun _ _=>none
  | m+1=>oX K n v1 (gk K n v1 m)
def md (K:Kn) (n:Nat) (v1:List bN):Option ab :=
  chk (inb (0:Int) v1.length) (
  gk K n v1 n 1 [])
def pB (K:Kn) (n:Nat) (v3:Bool):Option Bool :=
  some v3
def pt (K:Kn) (n:Nat) (v1:ae) (v2:Int):Option Bool :=
  if (decide (v1.Row<v2))=true then
    pB K n (decide (v1.Rows≤(w64 (v2 - v1.Row))))
  else
    pB K n false
def ng (K:Kn) (n:Nat) (v1 v2:Int) (v3:Fv) (v4:List ae):Option Int :=
  chk (inb v1 v4.length) (
  (K.fW v3 (List.getD v4 (v1).toNat default)).bind fun v5 =>
  chk (inb v2 v4.length) (
  (K.fW v3 (List.getD v4 (v2).toNat default)).bind fun v6 =>
  (j2 K n v5 v6).bind fun v7 =>
  some v7))
def kf (K:Kn) (n:Nat) (v1:List ae) (v2:Int) (v3 v4:Fv) (v11:Int) (L1:Int→(List Int)→Option (List Int)) (v15:List Int):Option (List Int) :=
  L1 (w64 (v11+1)) v15
def fw (K:Kn) (n:Nat) (v1:List ae) (v2:Int) (v3 v4:Fv) (v11:Int) (v12:List Int) (L1:Int→(List Int)→Option (List Int)) (v14:Bool):Option (List Int) :=
  if v14=true then
    chk (fits (v12.length+([v11]:(List Int)).length) 8) (
    kf K n v1 v2 v3 v4 v11 L1 (v12++[v11]))
  else
    kf K n v1 v2 v3 v4 v11 L1 v12
def oG (K:Kn) (n:Nat) (v1:List ae) (v2:Int) (v3 v4:Fv) (L1:Int→(List Int)→Option (List Int)) (v11:Int) (v12:List Int):Option (List Int) :=
  if (decide (v11<(v1.length:Int)))=true then
    chk (inb v11 v1.length) (
    if (decide (v11<v2))=true then
      if (decide (((List.getD v1 (v11).toNat default).Row)≥0))=true then
        if (decide (((List.getD v1 (v11).toNat default).Col)≥0))=true then
          if (decide (((List.getD v1 (v11).toNat default).Rows)≥1))=true then
            if (decide (((List.getD v1 (v11).toNat default).Cols)≥1))=true then
              (K.l4 v3 (List.getD v1 (v11).toNat default)).bind fun v13 =>
              fw K n v1 v2 v3 v4 v11 v12 L1 v13
            else
              fw K n v1 v2 v3 v4 v11 v12 L1 false
          else
            fw K n v1 v2 v3 v4 v11 v12 L1 false
        else
          fw K n v1 v2 v3 v4 v11 v12 L1 false
      else
        fw K n v1 v2 v3 v4 v11 v12 L1 false
    else
      fw K n v1 v2 v3 v4 v11 v12 L1 false)
  else
    (gh K n v12 (Fv.c65 v4 v1)).bind fun v16 =>
    some v16
def jR (K:Kn) (n:Nat) (v1:List ae) (v2:Int) (v3 v4:Fv):Nat→Int→(List Int)→Option (List Int)
  | 0=>fun _ _=>none
  | m+1=>oG K n v1 v2 v3 v4 (jR K n v1 v2 v3 v4 m)
def kG (K:Kn) (n:Nat) (v1:List ae) (v2:Int) (v3 v4:Fv):Option (List Int) :=
  jR K n v1 v2 v3 v4 n 0 []
def ni (K:Kn) (n:Nat) (v1:List Int) (L1:Int→Int→Option Int) (v2 v3:Int):Option Int :=
  if (decide (v3<(v1.length:Int)))=true then
    chk (inb v3 v1.length) (
    L1 (w64 (v2+(List.getD v1 (v3).toNat default))) (w64 (v3+1)))
  else
    some v2
def li (K:Kn) (n:Nat) (v1:List Int):Nat→Int→Int→Option Int
  | 0=>fun _ _=>none
  | m+1=>ni K n v1 (li K n v1 m)
def fN (K:Kn) (n:Nat) (v1:List Int):Option Int :=
  li K n v1 n 0 0
def kX (K:Kn) (n:Nat) (v1:List ae) (v2 v5:List Int) (v10:Int) (L1:Int→(List Int)→Option (List Int)) (v15:List Int):Option (List Int) :=
  L1 (w64 (v10+1)) v15
def nO (K:Kn) (n:Nat) (v1:List ae) (v2 v5:List Int) (L1:Int→(List Int)→Option (List Int)) (v10:Int) (v11:List Int):Option (List Int) :=
  if (decide (v10<(v5.length:Int)))=true then
    chk (inb v10 v5.length) (
    chk (inb (List.getD v5 (v10).toNat default) v1.length) (
    chk (inb (List.getD v5 (v10).toNat default) v2.length) (
    (fl K n (List.getD v2 ((List.getD v5 (v10).toNat default)).toNat default)).bind fun v12 =>
    (some (List.getD v1 ((List.getD v5 (v10).toNat default)).toNat default)).bind fun v13 =>
    chk (slb v13.Row (w64 (v13.Row+v13.Rows)) v11.length) (
    if (v13.Rows == 1)=true then
      chk (inb (0:Int) (((w64 (v13.Row+v13.Rows))).toNat - (v13.Row).toNat)) (
      chk (decide (((v13.Row).toNat+(0:Int).toNat)<v11.length)) (
      chk (inb (0:Int) (((w64 (v13.Row+v13.Rows))).toNat - (v13.Row).toNat)) (
      kX K n v1 v2 v5 v10 L1 (List.set v11 ((v13.Row).toNat+(0:Int).toNat) (max (List.getD v11 ((v13.Row).toNat+(0:Int).toNat) default) v12)))))
    else
      chk (inb (w64 (v13.Rows - 1)) (((w64 (v13.Row+v13.Rows))).toNat - (v13.Row).toNat)) (
      chk (decide (((v13.Row).toNat+((w64 (v13.Rows - 1))).toNat)<v11.length)) (
      (fN K n (List.take (((w64 (v13.Row+v13.Rows))).toNat - (v13.Row).toNat) (List.drop ((v13.Row).toNat) v11))).bind fun v14 =>
      chk (decide (((v13.Row).toNat)+(((w64 (v13.Row+v13.Rows))).toNat - (v13.Row).toNat)≤v11.length)) (
      chk (inb (w64 (v13.Rows - 1)) (((w64 (v13.Row+v13.Rows))).toNat - (v13.Row).toNat)) (
      kX K n v1 v2 v5 v10 L1 (List.set v11 ((v13.Row).toNat+((w64 (v13.Rows - 1))).toNat) (w64 ((List.getD v11 ((v13.Row).toNat+((w64 (v13.Rows - 1))).toNat) default)+(max (w64 (v12 - v14)) 0))))))))))))
  else
    some v11
def lI (K:Kn) (n:Nat) (v1:List ae) (v2 v5:List Int):Nat→Int→(List Int)→Option (List Int)
  | 0=>fun _ _=>none
  | m+1=>nO K n v1 v2 v5 (lI K n v1 v2 v5 m)
def m8 (K:Kn) (n:Nat) (v1:List ae) (v2:List Int) (v3:Int):Option (List Int) :=
  chk (mkb (max v3 0) 8) (
  (some (List.replicate ((max v3 0)).toNat (0:Int))).bind fun v4 =>
  (kG K n v1 (v2.length:Int) (Fv.c31 (max v3 0)) (Fv.fn 33)).bind fun v5 =>
  lI K n v1 v2 v5 n 0 v4)
def nl (K:Kn) (n:Nat) (v3:Bool):Option Bool :=
  some v3
def o6 (K:Kn) (n:Nat) (v1:ae) (v2:Int):Option Bool :=
  if (decide (v1.Col<v2))=true then
    nl K n (decide (v1.Cols≤(w64 (v2 - v1.Col))))
  else
    nl K n false
def nE (K:Kn) (n:Nat) (v1:List ae) (v2:List am) (v5:List Int) (v33:Int) (L1:Int→(List am)→Option (List am)) (v61:List am):Option (List am) :=
  L1 (w64 (v33+1)) v61
def o4 (K:Kn) (n:Nat) (v1:List ae) (v2:List am) (v5:List Int) (v33:Int) (v37:ae) (v51 v55:List Int) (L1:Int→(List am)→Option (List am)) (L5:Int→Int→(List am)→Option (List am)) (v58 v59:Int) (v60:List am):Option (List am) :=
  if (decide (v59<v58))=true then
    chk (inb v59 v51.length) (
    chk (inb v59 v55.length) (
    chk (inb v59 (((w64 (v37.Col+v37.Cols))).toNat - (v37.Col).toNat)) (
    chk (decide (((v37.Col).toNat+(v59).toNat)<v60.length)) (
    L5 v58 (w64 (v59+1)) (List.set v60 ((v37.Col).toNat+(v59).toNat) (⟨(List.getD v51 (v59).toNat default),(List.getD v55 (v59).toNat default)⟩:am))))))
  else
    nE K n v1 v2 v5 v33 L1 v60
def jV (K:Kn) (n:Nat) (v1:List ae) (v2:List am) (v5:List Int) (v33:Int) (v37:ae) (v51 v55:List Int) (L1:Int→(List am)→Option (List am)):Nat→Int→Int→(List am)→Option (List am)
  | 0=>fun _ _ _=>none
  | m+1=>o4 K n v1 v2 v5 v33 v37 v51 v55 L1 (jV K n v1 v2 v5 v33 v37 v51 v55 L1 m)
def jz (K:Kn) (n:Nat) (v1:List ae) (v2:List am) (v5:List Int) (v33:Int) (v34:List am) (v37:ae) (v51:List Int) (L1:Int→(List am)→Option (List am)) (v55:List Int):Option (List am) :=
  jV K n v1 v2 v5 v33 v37 v51 v55 L1 n (((((w64 (v37.Col+v37.Cols))).toNat - (v37.Col).toNat):Nat):Int) 0 v34
def oc (K:Kn) (n:Nat) (v1:List ae) (v2:List am) (v5:List Int) (v33:Int) (v34:List am) (v37:ae) (v51 v52:List Int) (L1:Int→(List am)→Option (List am)) (L4:Int→(List Int)→Option (List am)) (v53:Int) (v54:List Int):Option (List am) :=
  if (decide (v53<(v52.length:Int)))=true then
    chk (inb v53 v52.length) (
    chk (inb v53 v54.length) (
    chk (inb v53 v54.length) (
    L4 (w64 (v53+1)) (List.set v54 (v53).toNat (w64 ((List.getD v54 (v53).toNat default)+(List.getD v52 (v53).toNat default)))))))
  else
    jz K n v1 v2 v5 v33 v34 v37 v51 L1 v54
def jX (K:Kn) (n:Nat) (v1:List ae) (v2:List am) (v5:List Int) (v33:Int) (v34:List am) (v37:ae) (v51 v52:List Int) (L1:Int→(List am)→Option (List am)):Nat→Int→(List Int)→Option (List am)
  | 0=>fun _ _=>none
  | m+1=>oc K n v1 v2 v5 v33 v34 v37 v51 v52 L1 (jX K n v1 v2 v5 v33 v34 v37 v51 v52 L1 m)
def iy (K:Kn) (n:Nat) (v1:List ae) (v2:List am) (v5:List Int) (v33:Int) (v34:List am) (v37:ae) (v43 v44:Int) (v46:List Int) (L1:Int→(List am)→Option (List am)) (v51:List Int):Option (List am) :=
  if (decide (v44>0))=true then
    (g8 K n v44 v51).bind fun v52 =>
    jX K n v1 v2 v5 v33 v34 v37 v51 v52 L1 n 0 v46
  else
    jz K n v1 v2 v5 v33 v34 v37 v51 L1 v46
def oa (K:Kn) (n:Nat) (v1:List ae) (v2:List am) (v5:List Int) (v33:Int) (v34:List am) (v37:ae) (v43 v44:Int) (v46 v48:List Int) (L1:Int→(List am)→Option (List am)) (L3:Int→(List Int)→Option (List am)) (v49:Int) (v50:List Int):Option (List am) :=
  if (decide (v49<(v48.length:Int)))=true then
    chk (inb v49 v48.length) (
    chk (inb v49 v50.length) (
    chk (inb v49 v50.length) (
    L3 (w64 (v49+1)) (List.set v50 (v49).toNat (w64 ((List.getD v50 (v49).toNat default)+(List.getD v48 (v49).toNat default)))))))
  else
    iy K n v1 v2 v5 v33 v34 v37 v43 v44 v46 L1 v50
def mG (K:Kn) (n:Nat) (v1:List ae) (v2:List am) (v5:List Int) (v33:Int) (v34:List am) (v37:ae) (v43 v44:Int) (v46 v48:List Int) (L1:Int→(List am)→Option (List am)):Nat→Int→(List Int)→Option (List am)
  | 0=>fun _ _=>none
  | m+1=>oa K n v1 v2 v5 v33 v34 v37 v43 v44 v46 v48 L1 (mG K n v1 v2 v5 v33 v34 v37 v43 v44 v46 v48 L1 m)
def po (K:Kn) (n:Nat) (v1:List ae) (v2:List am) (v5:List Int) (v33:Int) (v34:List am) (v37:ae) (L1:Int→(List am)→Option (List am)) (L2:Int→Int→Int→Int→(List Int)→(List Int)→Option (List am)) (v41 v42 v43 v44:Int) (v45 v46:List Int):Option (List am) :=
  if (decide (v42<v41))=true then
    chk (inb v42 (((w64 (v37.Col+v37.Cols))).toNat - (v37.Col).toNat)) (
    chk (decide (((v37.Col).toNat+(v42).toNat)<v34.length)) (
    (some (List.getD v34 ((v37.Col).toNat+(v42).toNat) default)).bind fun v47 =>
    chk (inb v42 v45.length) (
    chk (inb v42 v46.length) (
    L2 v41 (w64 (v42+1)) (w64 (v43 - v47.Least)) (w64 (v44 - v47.Most)) (List.set v45 (v42).toNat v47.Least) (List.set v46 (v42).toNat v47.Most)))))
  else
    if (decide (v43>0))=true then
      (g8 K n v43 v46).bind fun v48 =>
      mG K n v1 v2 v5 v33 v34 v37 v43 v44 v46 v48 L1 n 0 v45
    else
      iy K n v1 v2 v5 v33 v34 v37 v43 v44 v46 L1 v45
def lT (K:Kn) (n:Nat) (v1:List ae) (v2:List am) (v5:List Int) (v33:Int) (v34:List am) (v37:ae) (L1:Int→(List am)→Option (List am)):Nat→Int→Int→Int→Int→(List Int)→(List Int)→Option (List am)
  | 0=>fun _ _ _ _ _ _=>none
  | m+1=>po K n v1 v2 v5 v33 v34 v37 L1 (lT K n v1 v2 v5 v33 v34 v37 L1 m)
def oL (K:Kn) (n:Nat) (v34:List am) (L6:Int→(List am)→Option (List am)) (v62:Int) (v63:List am):Option (List am) :=
  if (decide (v62<(v34.length:Int)))=true then
    chk (inb v62 v63.length) (
    chk (inb v62 v63.length) (
    chk (inb v62 v63.length) (
    L6 (w64 (v62+1)) (List.set v63 (v62).toNat ({ (List.getD v63 (v62).toNat default) with Most:=(max ((List.getD v63 (v62).toNat default).Most) ((List.getD v63 (v62).toNat default).Least)) }:am)))))
  else
    some v63
def kT (K:Kn) (n:Nat) (v34:List am):Nat→Int→(List am)→Option (List am)
  | 0=>fun _ _=>none
  | m+1=>oL K n v34 (kT K n v34 m)
def pa (K:Kn) (n:Nat) (v1:List ae) (v2:List am) (v5:List Int) (L1:Int→(List am)→Option (List am)) (v33:Int) (v34:List am):Option (List am) :=
  if (decide (v33<(v5.length:Int)))=true then
    chk (inb v33 v5.length) (
    chk (inb (List.getD v5 (v33).toNat default) v1.length) (
    chk (inb (List.getD v5 (v33).toNat default) v2.length) (
    (fl K n ((List.getD v2 ((List.getD v5 (v33).toNat default)).toNat default).Least)).bind fun v35 =>
    chk (inb (List.getD v5 (v33).toNat default) v2.length) (
    (fl K n ((List.getD v2 ((List.getD v5 (v33).toNat default)).toNat default).Most)).bind fun v36 =>
    (some (List.getD v1 ((List.getD v5 (v33).toNat default)).toNat default)).bind fun v37 =>
    chk (slb v37.Col (w64 (v37.Col+v37.Cols)) v34.length) (
    if (v37.Cols == 1)=true then
      chk (inb (0:Int) (((w64 (v37.Col+v37.Cols))).toNat - (v37.Col).toNat)) (
      chk (decide (((v37.Col).toNat+(0:Int).toNat)<v34.length)) (
      chk (inb (0:Int) (((w64 (v37.Col+v37.Cols))).toNat - (v37.Col).toNat)) (
      chk (inb (0:Int) (((w64 (v37.Col+v37.Cols))).toNat - (v37.Col).toNat)) (
      nE K n v1 v2 v5 v33 L1 (List.set v34 ((v37.Col).toNat+(0:Int).toNat) (⟨(max ((List.getD v34 ((v37.Col).toNat+(0:Int).toNat) default).Least) v35),(max ((List.getD v34 ((v37.Col).toNat+(0:Int).toNat) default).Most) v36)⟩:am))))))
    else
      chk (mkb v37.Cols 8) (
      chk (mkb v37.Cols 8) (
      lT K n v1 v2 v5 v33 v34 v37 L1 n (((((w64 (v37.Col+v37.Cols))).toNat - (v37.Col).toNat):Nat):Int) 0 v35 v36 (List.replicate (v37.Cols).toNat (0:Int)) (List.replicate (v37.Cols).toNat (0:Int)))))))))
  else
    kT K n v34 n 0 v34
def jk (K:Kn) (n:Nat) (v1:List ae) (v2:List am) (v5:List Int):Nat→Int→(List am)→Option (List am)
  | 0=>fun _ _=>none
  | m+1=>pa K n v1 v2 v5 (jk K n v1 v2 v5 m)
def mw (K:Kn) (n:Nat) (v1:List ae) (v2:List am) (v3:Int):Option (List am) :=
  chk (mkb (max v3 0) 16) (
  (some (List.replicate ((max v3 0)).toNat (ix:am))).bind fun v4 =>
  (kG K n v1 (v2.length:Int) (Fv.c36 (max v3 0)) (Fv.fn 37)).bind fun v5 =>
  jk K n v1 v2 v5 n 0 v4)
def lW (K:Kn) (n:Nat) (v1:ab) (v2 v9:Int) (L1:Int→(List ab)→Option (List ab)) (v12:List ab):Option (List ab) :=
  L1 (w64 (v9+1)) v12
def oz (K:Kn) (n:Nat) (v1:ab) (v2:Int) (L1:Int→(List ab)→Option (List ab)) (v9:Int) (v10:List ab):Option (List ab) :=
  if (decide (v9<(v1.Kids.length:Int)))=true then
    chk (inb v9 v1.Kids.length) (
    (some (((List.getD v1.Kids (v9).toNat default).Kind) == v2)).bind fun v11 =>
    if v11=true then
      chk (fits (v10.length+([(List.getD v1.Kids (v9).toNat default)]:(List ab)).length) 520) (
      lW K n v1 v2 v9 L1 (v10++[(List.getD v1.Kids (v9).toNat default)]))
    else
      lW K n v1 v2 v9 L1 v10)
  else
    some v10
def lp (K:Kn) (n:Nat) (v1:ab) (v2:Int):Nat→Int→(List ab)→Option (List ab)
  | 0=>fun _ _=>none
  | m+1=>oz K n v1 v2 (lp K n v1 v2 m)
def oO (K:Kn) (n:Nat) (v1:ab) (v2:Int):Option (List ab) :=
  lp K n v1 v2 n 0 []
def dT (K:Kn) (n:Nat) (v1:Int):Option Int :=
  some (min (max v1 0) 1048576)
def ld (K:Kn) (n:Nat) (v4:Int):Option (Int×Bool) :=
  some ((min (max v4 (-1048576)) 1048576),true)
def cS (K:Kn) (n:Nat) (v1:cn) (v2:Int):Option (Int×Bool) :=
  if (v1.Kind == 1)=true then
    ld K n v1.Value
  else
    if (v1.Kind == 2)=true then
      (dT K n v2).bind fun v3 =>
      ld K n (w64 (Int.tdiv (w64 (v3*(min (max v1.Value (-1000000)) 1000000))) 10000))
    else
      some (0,false)
def gp (K:Kn) (n:Nat) (v1:aG) (v2 v3:Int):Option aS :=
  (cS K n v1.Margin.a0 v2).bind fun v4 =>
  (dT K n v1.Border.a0).bind fun v5 =>
  (cS K n v1.Padding.a0 v2).bind fun v6 =>
  (cS K n v1.Margin.a1 v2).bind fun v7 =>
  (dT K n v1.Border.a1).bind fun v8 =>
  (cS K n v1.Padding.a1 v2).bind fun v9 =>
  (cS K n v1.Margin.a2 v2).bind fun v10 =>
  (dT K n v1.Border.a2).bind fun v11 =>
  (cS K n v1.Padding.a2 v2).bind fun v12 =>
  (cS K n v1.Margin.a3 v2).bind fun v13 =>
  (dT K n v1.Border.a3).bind fun v14 =>
  (cS K n v1.Padding.a3 v2).bind fun v15 =>
  some (⟨⟨v4.1,v7.1,v10.1,v13.1⟩,⟨v5,v8,v11,v14⟩,⟨(max v6.1 0),(max v9.1 0),(max v12.1 0),(max v15.1 0)⟩,v3⟩:aS)
def gv (K:Kn) (n:Nat) (v1:aS):Option Int :=
  some (w64 ((w64 ((w64 ((w64 ((w64 ((w64 (v1.Content+v1.Margin.a1))+v1.Margin.a3))+v1.Border.a1))+v1.Border.a3))+v1.Padding.a1))+v1.Padding.a3))
def nS (K:Kn) (n:Nat) (v7:Int):Option Int :=
  some v7
def oh (K:Kn) (n:Nat) (v1:aG) (v2 v5:Int):Option Int :=
  (cS K n v1.MinWidth v2).bind fun v6 =>
  if v6.2=true then
    nS K n (max v5 v6.1)
  else
    nS K n v5
def g6 (K:Kn) (n:Nat) (v1:aG) (v2 v3:Int):Option Int :=
  (cS K n v1.MaxWidth v2).bind fun v4 =>
  if v4.2=true then
    oh K n v1 v2 (min (max v3 0) (max v4.1 0))
  else
    oh K n v1 v2 (max v3 0)
def nA (K:Kn) (n:Nat) (v13:aG):Option aG :=
  some v13
def lf (K:Kn) (n:Nat) (v12:aG):Option aG :=
  if (v12.Padding.a3.Kind == 2)=true then
    nA K n ({ v12 with Padding:=⟨v12.Padding.a0,v12.Padding.a1,v12.Padding.a2,bH⟩ }:aG)
  else
    nA K n v12
def lU (K:Kn) (n:Nat) (v11:aG):Option aG :=
  if (v11.Margin.a3.Kind == 2)=true then
    lf K n ({ v11 with Margin:=⟨v11.Margin.a0,v11.Margin.a1,v11.Margin.a2,bH⟩ }:aG)
  else
    lf K n v11
def mD (K:Kn) (n:Nat) (v10:aG):Option aG :=
  if (v10.Padding.a2.Kind == 2)=true then
    lU K n ({ v10 with Padding:=⟨v10.Padding.a0,v10.Padding.a1,bH,v10.Padding.a3⟩ }:aG)
  else
    lU K n v10
def ml (K:Kn) (n:Nat) (v9:aG):Option aG :=
  if (v9.Margin.a2.Kind == 2)=true then
    mD K n ({ v9 with Margin:=⟨v9.Margin.a0,v9.Margin.a1,bH,v9.Margin.a3⟩ }:aG)
  else
    mD K n v9
def kV (K:Kn) (n:Nat) (v8:aG):Option aG :=
  if (v8.Padding.a1.Kind == 2)=true then
    ml K n ({ v8 with Padding:=⟨v8.Padding.a0,bH,v8.Padding.a2,v8.Padding.a3⟩ }:aG)
  else
    ml K n v8
def lZ (K:Kn) (n:Nat) (v7:aG):Option aG :=
  if (v7.Margin.a1.Kind == 2)=true then
    kV K n ({ v7 with Margin:=⟨v7.Margin.a0,bH,v7.Margin.a2,v7.Margin.a3⟩ }:aG)
  else
    kV K n v7
def my (K:Kn) (n:Nat) (v6:aG):Option aG :=
  if (v6.Padding.a0.Kind == 2)=true then
    lZ K n ({ v6 with Padding:=⟨bH,v6.Padding.a1,v6.Padding.a2,v6.Padding.a3⟩ }:aG)
  else
    lZ K n v6
def mj (K:Kn) (n:Nat) (v5:aG):Option aG :=
  if (v5.Margin.a0.Kind == 2)=true then
    my K n ({ v5 with Margin:=⟨bH,v5.Margin.a1,v5.Margin.a2,v5.Margin.a3⟩ }:aG)
  else
    my K n v5
def lE (K:Kn) (n:Nat) (v4:aG):Option aG :=
  if (v4.MaxWidth.Kind == 2)=true then
    mj K n ({ v4 with MaxWidth:=bH }:aG)
  else
    mj K n v4
def lv (K:Kn) (n:Nat) (v3:aG):Option aG :=
  if (v3.MinWidth.Kind == 2)=true then
    lE K n ({ v3 with MinWidth:=bH }:aG)
  else
    lE K n v3
def kx (K:Kn) (n:Nat) (v1:aG):Option aG :=
  if (v1.Width.Kind == 2)=true then
    lv K n ({ v1 with Width:=bH }:aG)
  else
    lv K n v1
def nV (K:Kn) (n:Nat) (v2:Bool):Option Bool :=
  some v2
def mV (K:Kn) (n:Nat) (v1:ab):Option Bool :=
  if (v1.Kind == 3)=true then
    nV K n true
  else
    nV K n (v1.Style.Position != 2)
def mP (K:Kn) (n:Nat) (v1:List ab) (v2:Fv) (L1:Int→Option Int) (v4:Int):Option Int :=
  if (decide (v4<(v1.length:Int)))=true then
    chk (inb v4 v1.length) (
    (K.gM v2 (List.getD v1 (v4).toNat default)).bind fun v5 =>
    if v5=true then
      some v4
    else
      L1 (w64 (v4+1)))
  else
    some (-1)
def jE (K:Kn) (n:Nat) (v1:List ab) (v2:Fv):Nat→Int→Option Int
  | 0=>fun _=>none
  | m+1=>mP K n v1 v2 (jE K n v1 v2 m)
def pR (K:Kn) (n:Nat) (v1:List ab) (v2:Fv):Option Int :=
  jE K n v1 v2 n 0
def mz (K:Kn) (n:Nat) (v1:List ab) (v2:Fv):Option Bool :=
  (pR K n v1 v2).bind fun v3 =>
  some (decide (v3≥0))
def mO (K:Kn) (n:Nat) (v1:ab) (v8:Int) (L1:Int→(List ab)→Option ((List ab)×Bool)) (v11:List ab):Option ((List ab)×Bool) :=
  L1 (w64 (v8+1)) v11
def oV (K:Kn) (n:Nat) (v1:ab) (L1:Int→(List ab)→Option ((List ab)×Bool)) (v8:Int) (v9:List ab):Option ((List ab)×Bool) :=
  if (decide (v8<(v1.Kids.length:Int)))=true then
    chk (inb v8 v1.Kids.length) (
    (mV K n (List.getD v1.Kids (v8).toNat default)).bind fun v10 =>
    if v10=true then
      chk (fits (v9.length+([(List.getD v1.Kids (v8).toNat default)]:(List ab)).length) 520) (
      mO K n v1 v8 L1 (v9++[(List.getD v1.Kids (v8).toNat default)]))
    else
      mO K n v1 v8 L1 v9)
  else
    (mz K n v9 (Fv.fn 90)).bind fun v12 =>
    some (v9,v12)
def kg (K:Kn) (n:Nat) (v1:ab):Nat→Int→(List ab)→Option ((List ab)×Bool)
  | 0=>fun _ _=>none
  | m+1=>oV K n v1 (kg K n v1 m)
def ly (K:Kn) (n:Nat) (v1:ab):Option ((List ab)×Bool) :=
  kg K n v1 n 0 []
def qN (K:Kn) (n:Nat) (v2:bw) (v6:(List ab)×Bool) (L1:Int→Int→Int→Option (Int×Int)) (v11 v12 v13:Int):Option (Int×Int) :=
  if (decide (v13<(v6.1.length:Int)))=true then
    chk (inb v13 v6.1.length) (
    (K.qc v2.Widths (List.getD v6.1 (v13).toNat default)).bind fun v14 =>
    L1 (max v11 v14.1) (max v12 v14.2) (w64 (v13+1)))
  else
    (dT K n v11).bind fun v15 =>
    (dT K n v12).bind fun v16 =>
    some (v15,v16)
def q8 (K:Kn) (n:Nat) (v2:bw) (v6:(List ab)×Bool):Nat→Int→Int→Int→Option (Int×Int)
  | 0=>fun _ _ _=>none
  | m+1=>qN K n v2 v6 (q8 K n v2 v6 m)
def oe (K:Kn) (n:Nat) (v1:ab) (v2:bw):Option (Int×Int) :=
  (kx K n v1.Style).bind fun v3 =>
  (cS K n v3.Width 0).bind fun v4 =>
  if v4.2=true then
    (dT K n v4.1).bind fun v5 =>
    some (v5,v5)
  else
    (ly K n v1).bind fun v6 =>
    if (!v6.2)=true then
      (K.nz v2.Spread v6.1 v1.Style).bind fun v7 =>
      (dT K n v7.1).bind fun v8 =>
      (dT K n v7.2).bind fun v9 =>
      some (v8,v9)
    else
      q8 K n v2 v6 n 0 0 0
def kk (K:Kn) (n:Nat) (v1:ab) (v2:bw):Option (Int×Int) :=
  (oe K n v1 v2).bind fun v3 =>
  (kx K n v1.Style).bind fun v4 =>
  (g6 K n v4 0 v3.1).bind fun v5 =>
  (gp K n v4 0 v5).bind fun v6 =>
  (gv K n v6).bind fun v7 =>
  (g6 K n v4 0 v3.2).bind fun v8 =>
  (gp K n v4 0 v8).bind fun v9 =>
  (gv K n v9).bind fun v10 =>
  some (v7,v10)
def l3 (K:Kn) (n:Nat) (v1:ab):Option ab :=
  some ({ v1 with Style:=({ v1.Style with Margin:=⟨bH,bH,bH,bH⟩ }:aG) }:ab)
def nX (K:Kn) (n:Nat) (v2:bw) (v3:List ab) (v16:Int) (v18:List (List (V2 Int))) (v19:List ab) (L1:Int→(List ab)→(List (List (V2 Int)))→Option bp) (L2:Int→(List (V2 Int))→(List ab)→Option bp) (v21:Int) (v22:List (V2 Int)) (v23:List ab):Option bp :=
  if (decide (v21<(v19.length:Int)))=true then
    chk (inb v21 v19.length) (
    chk (fits (v22.length+([⟨(List.getD v19 (v21).toNat default).Rows,(List.getD v19 (v21).toNat default).Cols⟩]:(List (V2 Int))).length) 16) (
    (some (v22++[⟨(List.getD v19 (v21).toNat default).Rows,(List.getD v19 (v21).toNat default).Cols⟩])).bind fun v24 =>
    chk (fits (v23.length+([(List.getD v19 (v21).toNat default)]:(List ab)).length) 520) (
    L2 (w64 (v21+1)) v24 (v23++[(List.getD v19 (v21).toNat default)]))))
  else
    chk (fits (v18.length+([v22]:(List (List (V2 Int)))).length) 24) (
    L1 (w64 (v16+1)) v23 (v18++[v22]))
def jH (K:Kn) (n:Nat) (v2:bw) (v3:List ab) (v16:Int) (v18:List (List (V2 Int))) (v19:List ab) (L1:Int→(List ab)→(List (List (V2 Int)))→Option bp):Nat→Int→(List (V2 Int))→(List ab)→Option bp
  | 0=>fun _ _ _=>none
  | m+1=>nX K n v2 v3 v16 v18 v19 L1 (jH K n v2 v3 v16 v18 v19 L1 m)
def nh (K:Kn) (n:Nat) (v2:bw) (v3 v17:List ab) (v25:(List (List ae))×Int) (v27:List ae) (L4:Int→(List am)→Option bp) (v32:Int) (v33:List am):Option bp :=
  if (decide (v32<(v17.length:Int)))=true then
    chk (inb v32 v17.length) (
    (l3 K n (List.getD v17 (v32).toNat default)).bind fun v34 =>
    (kk K n v34 v2).bind fun v35 =>
    chk (fits (v33.length+([(⟨v35.1,v35.2⟩:am)]:(List am)).length) 16) (
    L4 (w64 (v32+1)) (v33++[(⟨v35.1,v35.2⟩:am)])))
  else
    (mw K n v27 v33 v25.2).bind fun v36 =>
    some (⟨v3,v17,v27,v36⟩:bp)
def gW (K:Kn) (n:Nat) (v2:bw) (v3 v17:List ab) (v25:(List (List ae))×Int) (v27:List ae):Nat→Int→(List am)→Option bp
  | 0=>fun _ _=>none
  | m+1=>nh K n v2 v3 v17 v25 v27 (gW K n v2 v3 v17 v25 v27 m)
def n9 (K:Kn) (n:Nat) (v2:bw) (v3 v17:List ab) (v25:(List (List ae))×Int) (L3:Int→(List ae)→Option bp) (v26:Int) (v27:List ae):Option bp :=
  if (decide (v26<(v25.1.length:Int)))=true then
    chk (inb v26 v25.1.length) (
    chk (fits (v27.length+(List.getD v25.1 (v26).toNat default).length) 32) (
    L3 (w64 (v26+1)) (v27++(List.getD v25.1 (v26).toNat default))))
  else
    gW K n v2 v3 v17 v25 v27 n 0 []
def iK (K:Kn) (n:Nat) (v2:bw) (v3 v17:List ab) (v25:(List (List ae))×Int):Nat→Int→(List ae)→Option bp
  | 0=>fun _ _=>none
  | m+1=>n9 K n v2 v3 v17 v25 (iK K n v2 v3 v17 v25 m)
def pE (K:Kn) (n:Nat) (v2:bw) (v3:List ab) (L1:Int→(List ab)→(List (List (V2 Int)))→Option bp) (v16:Int) (v17:List ab) (v18:List (List (V2 Int))):Option bp :=
  if (decide (v16<(v3.length:Int)))=true then
    chk (inb v16 v3.length) (
    (oO K n (List.getD v3 (v16).toNat default) 9).bind fun v19 =>
    jH K n v2 v3 v16 v18 v19 L1 n 0 [] v17)
  else
    (jn K n v18).bind fun v25 =>
    iK K n v2 v3 v17 v25 n 0 []
def gL (K:Kn) (n:Nat) (v2:bw) (v3:List ab):Nat→Int→(List ab)→(List (List (V2 Int)))→Option bp
  | 0=>fun _ _ _=>none
  | m+1=>pE K n v2 v3 (gL K n v2 v3 m)
def nT (K:Kn) (n:Nat) (v1:ab) (v2:bw):Option bp :=
  (oO K n v1 8).bind fun v3 =>
  gL K n v2 v3 n 0 [] []
def oY (K:Kn) (n:Nat) (v1:bp) (L1:Int→Int→Int→Option (Int×Int)) (v3 v4 v5:Int):Option (Int×Int) :=
  if (decide (v5<(v1.columns.length:Int)))=true then
    chk (inb v5 v1.columns.length) (
    L1 (w64 (v3+((List.getD v1.columns (v5).toNat default).Least))) (w64 (v4+((List.getD v1.columns (v5).toNat default).Most))) (w64 (v5+1)))
  else
    some (v3,v4)
def mm (K:Kn) (n:Nat) (v1:bp):Nat→Int→Int→Int→Option (Int×Int)
  | 0=>fun _ _ _=>none
  | m+1=>oY K n v1 (mm K n v1 m)
def qy (K:Kn) (n:Nat) (v1:bp):Option (Int×Int) :=
  mm K n v1 n 0 0 0
def nr (K:Kn) (n:Nat) (v1:List ae):Option (List ae) :=
  both (List.isEmpty v1) (
    some []) (
    chk (fits (([]:List ae).length+v1.length) 32) (
    some (([]:List ae)++v1)))
def iE (K:Kn) (n:Nat) (v1:cn):Option (Int×Bool) :=
  if (v1.Kind != 1)=true then
    some (0,false)
  else
    (cS K n v1 0).bind fun v2 =>
    some ((max v2.1 0),true)
def l9 (K:Kn) (n:Nat) (v1:aS):Option Int :=
  some (w64 ((w64 ((w64 (v1.Border.a0+v1.Border.a2))+v1.Padding.a0))+v1.Padding.a2))
def iT (K:Kn) (n:Nat) (v1:Int):Option aB :=
  some (⟨(max v1 0),(min v1 0)⟩:aB)
def jM (K:Kn) (n:Nat) (v1 v2:aB):Option aB :=
  some (⟨(max v1.Pos v2.Pos),(min v1.Neg v2.Neg)⟩:aB)
def mg (K:Kn) (n:Nat) (v1:aB):Option Int :=
  some (w64 (v1.Pos+v1.Neg))
def rb (K:Kn) (n:Nat) (v1:List aa) (v18:Int) (v21:List aa) (v24:Int) (L1:Int→Bool→Int→aB→aB→(List aa)→Option ((List aa)×Int×aB×aB×Bool)) (v26:Int) (v27:Bool) (v28 v29:aB):Option ((List aa)×Int×aB×aB×Bool) :=
  chk (fits (v21.length+([({ (List.getD v1 (v18).toNat default) with Y:=v24 }:aa)]:(List aa)).length) 584) (
  L1 v26 v27 (w64 (v18+1)) v28 v29 (v21++[({ (List.getD v1 (v18).toNat default) with Y:=v24 }:aa)]))
def qz (K:Kn) (n:Nat) (v1:List aa) (v18:Int) (v21:List aa) (v22:aB) (v24:Int) (L1:Int→Bool→Int→aB→aB→(List aa)→Option ((List aa)×Int×aB×aB×Bool)) (v25:aB):Option ((List aa)×Int×aB×aB×Bool) :=
  rb K n v1 v18 v21 v24 L1 (w64 (v24+((List.getD v1 (v18).toNat default).H))) false v25 ((List.getD v1 (v18).toNat default).After)
def pY (K:Kn) (n:Nat) (v1:List aa) (v16:Int) (v17:Bool) (v18:Int) (v19:aB) (v21:List aa) (v22:aB) (L1:Int→Bool→Int→aB→aB→(List aa)→Option ((List aa)×Int×aB×aB×Bool)) (v24:Int):Option ((List aa)×Int×aB×aB×Bool) :=
  if (!(List.getD v1 (v18).toNat default).Empty)=true then
    if v17=true then
      qz K n v1 v18 v21 v22 v24 L1 v22
    else
      qz K n v1 v18 v21 v22 v24 L1 v19
  else
    rb K n v1 v18 v21 v24 L1 v16 v17 v19 v22
def qP (K:Kn) (n:Nat) (v16:Int) (v17:Bool) (v20:aB) (v21:List aa) (v30:aB):Option ((List aa)×Int×aB×aB×Bool) :=
  some (v21,v16,v30,v20,v17)
def rc (K:Kn) (n:Nat) (v1:List aa) (L1:Int→Bool→Int→aB→aB→(List aa)→Option ((List aa)×Int×aB×aB×Bool)) (v16:Int) (v17:Bool) (v18:Int) (v19 v20:aB) (v21:List aa):Option ((List aa)×Int×aB×aB×Bool) :=
  if (decide (v18<(v1.length:Int)))=true then
    chk (inb v18 v1.length) (
    (jM K n v20 ((List.getD v1 (v18).toNat default).Before)).bind fun v22 =>
    if (!v17)=true then
      (mg K n v22).bind fun v23 =>
      pY K n v1 v16 v17 v18 v19 v21 v22 L1 (w64 (v16+v23))
    else
      pY K n v1 v16 v17 v18 v19 v21 v22 L1 0)
  else
    if v17=true then
      qP K n v16 v17 v20 v21 v20
    else
      qP K n v16 v17 v20 v21 v19
def qf (K:Kn) (n:Nat) (v1:List aa):Nat→Int→Bool→Int→aB→aB→(List aa)→Option ((List aa)×Int×aB×aB×Bool)
  | 0=>fun _ _ _ _ _ _=>none
  | m+1=>rc K n v1 (qf K n v1 m)
def sx (K:Kn) (n:Nat) (v1:List aa):Option ((List aa)×Int×aB×aB×Bool) :=
  qf K n v1 n 0 true 0 eX eX []
def n3 (K:Kn) (n:Nat) (v1:List aa):Option (List aa) :=
  both (List.isEmpty v1) (
    some []) (
    chk (fits (([]:List aa).length+v1.length) 584) (
    some (([]:List aa)++v1)))
def qo (K:Kn) (n:Nat) (v1:aS):Option Int :=
  some (w64 ((w64 ((w64 (v1.Border.a3+v1.Padding.a3))+v1.Border.a1))+v1.Padding.a1))
def l5 (K:Kn) (n:Nat) (v2:Bool):Option Bool :=
  some v2
def l6 (K:Kn) (n:Nat) (v1:ab):Option Bool :=
  if (v1.Kind == 1)=true then
    l5 K n true
  else
    if (v1.Kind == 6)=true then
      l5 K n true
    else
      l5 K n (v1.Kind == 7)
def nL (K:Kn) (n:Nat) (v1:aa) (v3:Int×Bool) (v5:Int):Option aa :=
  some ({ v1 with X:=(w64 (v1.X+v3.1)),Y:=v5 }:aa)
def nM (K:Kn) (n:Nat) (v1:aa) (v2:Int):Option aa :=
  if (v1.Style.Position != 1)=true then
    some v1
  else
    (cS K n v1.Style.Left v2).bind fun v3 =>
    if (v1.Style.Top.Kind == 1)=true then
      (cS K n v1.Style.Top 0).bind fun v4 =>
      nL K n v1 v3 (w64 (v1.Y+v4.1))
    else
      nL K n v1 v3 v1.Y
def oU (K:Kn) (n:Nat) (v1:ab) (v2:aS) (v6:(List ab)×Bool) (v19:List aa) (v25:Int) (v33 v34:aB) (v35:Bool) (v39 v40 v47:Int) (L2:Int→(List aa)→Option aa) (v54:List aa):Option aa :=
  L2 (w64 (v47+1)) v54
def nq (K:Kn) (n:Nat) (v1:ab) (v2:aS) (v6:(List ab)×Bool) (v19:List aa) (v25:Int) (v33 v34:aB) (v35:Bool) (v39 v40 v47:Int) (v50:List aa) (L2:Int→(List aa)→Option aa) (v52:Bool):Option aa :=
  if v52=true then
    chk (inb v47 v50.length) (
    (nM K n (List.getD v50 (v47).toNat default) v2.Content).bind fun v53 =>
    chk (inb v47 v50.length) (
    oU K n v1 v2 v6 v19 v25 v33 v34 v35 v39 v40 v47 L2 (List.set v50 (v47).toNat v53)))
  else
    oU K n v1 v2 v6 v19 v25 v33 v34 v35 v39 v40 v47 L2 v50
def nb (K:Kn) (n:Nat) (v1:ab) (v2:aS) (v6:(List ab)×Bool) (v19:List aa) (v25:Int) (v33 v34:aB) (v35:Bool) (v39 v40:Int) (L2:Int→(List aa)→Option aa) (v47:Int) (v48:List aa):Option aa :=
  if (decide (v47<(v19.length:Int)))=true then
    chk (inb v47 v48.length) (
    chk (inb v47 v48.length) (
    (some (List.set v48 (v47).toNat ({ (List.getD v48 (v47).toNat default) with X:=(w64 (((List.getD v48 (v47).toNat default).X)+(w64 (v2.Border.a3+v2.Padding.a3)))) }:aa))).bind fun v49 =>
    chk (inb v47 v49.length) (
    chk (inb v47 v49.length) (
    (some (List.set v49 (v47).toNat ({ (List.getD v49 (v47).toNat default) with Y:=(w64 (((List.getD v49 (v47).toNat default).Y)+(w64 ((w64 (v2.Border.a0+v2.Padding.a0))+v25)))) }:aa))).bind fun v50 =>
    if v6.2=true then
      chk (inb v47 v6.1.length) (
      (l6 K n (List.getD v6.1 (v47).toNat default)).bind fun v51 =>
      nq K n v1 v2 v6 v19 v25 v33 v34 v35 v39 v40 v47 v50 L2 v51)
    else
      nq K n v1 v2 v6 v19 v25 v33 v34 v35 v39 v40 v47 v50 L2 false))))
  else
    some (⟨1,v1.Node,v2.Margin.a3,0,(w64 (v2.Content+v39)),v40,0,⟨#[]⟩,v1.Style,v33,v34,v35,v48⟩:aa)
def kY (K:Kn) (n:Nat) (v1:ab) (v2:aS) (v6:(List ab)×Bool) (v19:List aa) (v25:Int) (v33 v34:aB) (v35:Bool) (v39 v40:Int):Nat→Int→(List aa)→Option aa
  | 0=>fun _ _=>none
  | m+1=>nb K n v1 v2 v6 v19 v25 v33 v34 v35 v39 v40 (kY K n v1 v2 v6 v19 v25 v33 v34 v35 v39 v40 m)
def kU (K:Kn) (n:Nat) (v1:ab) (v2:aS) (v6:(List ab)×Bool) (v19:List aa) (v25:Int) (v33 v34:aB) (v35:Bool) (v38:Int):Option aa :=
  (qo K n v2).bind fun v39 =>
  (some (w64 ((w64 ((w64 ((w64 (v38+v2.Border.a0))+v2.Padding.a0))+v2.Border.a2))+v2.Padding.a2))).bind fun v40 =>
  kY K n v1 v2 v6 v19 v25 v33 v34 v35 v39 v40 n 0 v19
def nd (K:Kn) (n:Nat) (v1:ab) (v2:aS) (v6:(List ab)×Bool) (v19:List aa) (v25 v32:Int) (v33 v34:aB) (v35:Bool) (v36:Int×Bool) (v37:Bool):Option aa :=
  if v37=true then
    kU K n v1 v2 v6 v19 v25 v33 v34 v35 (max v36.1 0)
  else
    kU K n v1 v2 v6 v19 v25 v33 v34 v35 (max v32 0)
def fJ (K:Kn) (n:Nat) (v1:ab) (v2:aS) (v6:(List ab)×Bool) (v19:List aa) (v25 v32:Int) (v33 v34:aB) (v35:Bool):Option aa :=
  (cS K n v1.Style.Height 0).bind fun v36 =>
  if v36.2=true then
    nd K n v1 v2 v6 v19 v25 v32 v33 v34 v35 v36 (v1.Style.Height.Kind == 1)
  else
    nd K n v1 v2 v6 v19 v25 v32 v33 v34 v35 v36 false
def kz (K:Kn) (n:Nat) (v1:ab) (v2:aS) (v4:Bool) (v6:(List ab)×Bool) (v15:Int) (v16:Bool) (v17 v18:aB) (v19:List aa) (v21:aB) (v25:Int) (v26:aB) (v27:Bool):Option aa :=
  if v27=true then
    (jM K n v26 v21).bind fun v28 =>
    fJ K n v1 v2 v6 v19 v25 0 v28 v28 true
  else
    if v16=true then
      if v4=true then
        (jM K n v21 v17).bind fun v29 =>
        fJ K n v1 v2 v6 v19 v25 v25 v26 v29 false
      else
        fJ K n v1 v2 v6 v19 v25 v25 v26 v21 false
    else
      if v4=true then
        (jM K n v21 v18).bind fun v30 =>
        fJ K n v1 v2 v6 v19 v25 (w64 (v15+v25)) v26 v30 false
      else
        (mg K n v18).bind fun v31 =>
        fJ K n v1 v2 v6 v19 v25 (w64 (v15+(w64 (v25+v31)))) v26 v21 false
def lK (K:Kn) (n:Nat) (v1:ab) (v2:aS) (v3 v4:Bool) (v6:(List ab)×Bool) (v15:Int) (v16:Bool) (v17 v18:aB) (v19:List aa) (v21:aB) (v25:Int) (v26:aB):Option aa :=
  if v16=true then
    if v3=true then
      kz K n v1 v2 v4 v6 v15 v16 v17 v18 v19 v21 v25 v26 v4
    else
      kz K n v1 v2 v4 v6 v15 v16 v17 v18 v19 v21 v25 v26 false
  else
    kz K n v1 v2 v4 v6 v15 v16 v17 v18 v19 v21 v25 v26 false
def oK (K:Kn) (n:Nat) (v1:ab) (v2:aS) (v3 v4:Bool) (v6:(List ab)×Bool) (v15:Int) (v16:Bool) (v17 v18:aB) (v19:List aa) (v20 v21:aB) (v23:Bool):Option aa :=
  if v23=true then
    (mg K n v17).bind fun v24 =>
    lK K n v1 v2 v3 v4 v6 v15 v16 v17 v18 v19 v21 v24 v20
  else
    lK K n v1 v2 v3 v4 v6 v15 v16 v17 v18 v19 v21 0 v20
def pI (K:Kn) (n:Nat) (v1:ab) (v2:aS) (v3 v4:Bool) (v6:(List ab)×Bool) (v15:Int) (v16:Bool) (v17 v18:aB) (v19:List aa):Option aa :=
  (iT K n v2.Margin.a0).bind fun v20 =>
  (iT K n v2.Margin.a2).bind fun v21 =>
  if v3=true then
    (jM K n v20 v17).bind fun v22 =>
    lK K n v1 v2 v3 v4 v6 v15 v16 v17 v18 v19 v21 0 v22
  else
    if (!v16)=true then
      oK K n v1 v2 v3 v4 v6 v15 v16 v17 v18 v19 v20 v21 true
    else
      oK K n v1 v2 v3 v4 v6 v15 v16 v17 v18 v19 v20 v21 (!v4)
def qC (K:Kn) (n:Nat) (v1:ab) (v2:aS) (v3 v4:Bool) (v5:bw) (v6:(List ab)×Bool) (L1:Int→(List aa)→Option aa) (v9:Int) (v10:List aa):Option aa :=
  if (decide (v9<(v6.1.length:Int)))=true then
    chk (inb v9 v6.1.length) (
    (K.q6 v5.Layout (List.getD v6.1 (v9).toNat default) v2.Content).bind fun v11 =>
    chk (fits (v10.length+([v11]:(List aa)).length) 584) (
    L1 (w64 (v9+1)) (v10++[v11])))
  else
    (sx K n v10).bind fun v12 =>
    pI K n v1 v2 v3 v4 v6 v12.2.1 v12.2.2.2.2 v12.2.2.1 v12.2.2.2.1 v12.1
def pS (K:Kn) (n:Nat) (v1:ab) (v2:aS) (v3 v4:Bool) (v5:bw) (v6:(List ab)×Bool):Nat→Int→(List aa)→Option aa
  | 0=>fun _ _=>none
  | m+1=>qC K n v1 v2 v3 v4 v5 v6 (pS K n v1 v2 v3 v4 v5 v6 m)
def nH (K:Kn) (n:Nat) (v1:ab) (v2:aS) (v3 v4:Bool) (v5:bw):Option aa :=
  (ly K n v1).bind fun v6 =>
  if v6.2=true then
    pS K n v1 v2 v3 v4 v5 v6 n 0 []
  else
    (K.oZ v5.Lines v6.1 v1.Style v2.Content).bind fun v13 =>
    (n3 K n v13.1).bind fun v14 =>
    pI K n v1 v2 v3 v4 v6 v13.2 ((v14.length:Int) == 0) eX eX v14
def oQ (K:Kn) (n:Nat) (v1:ab) (v2:aS) (v3:bw):Option aa :=
  (nH K n v1 v2 false false v3).bind fun v4 =>
  some v4
def ph (K:Kn) (n:Nat) (v1:ab) (v3:Int) (v8:aa) (v11:Int):Option (aa×Int) :=
  some (({ v8 with W:=v3,Style:=v1.Style }:aa),v11)
def jI (K:Kn) (n:Nat) (v1:ab) (v2 v3:Int) (v4:bw):Option (aa×Int) :=
  (l3 K n v1).bind fun v5 =>
  (gp K n ({ v5.Style with Height:=bH }:aG) v2 0).bind fun v6 =>
  (gv K n v6).bind fun v7 =>
  (oQ K n ({ v5 with Style:=({ v5.Style with Height:=bH }:aG) }:ab) ({ v6 with Content:=(max (w64 (v3 - v7)) 0) }:aS) v4).bind fun v8 =>
  (iE K n v1.Style.Height).bind fun v9 =>
  if v9.2=true then
    (l9 K n ({ v6 with Content:=(max (w64 (v3 - v7)) 0) }:aS)).bind fun v10 =>
    ph K n v1 v3 v8 (max v8.H (w64 (v9.1+v10)))
  else
    ph K n v1 v3 v8 v8.H
def mM (K:Kn) (n:Nat) (v1:List Int):Option (List Int) :=
  both (List.isEmpty v1) (
    some []) (
    chk (fits (([]:List Int).length+v1.length) 8) (
    some (([]:List Int)++v1)))
def jv (K:Kn) (n:Nat) (v4:aS) (v8:Int) (v13:V4 Int):Option aS :=
  some ({ v4 with Margin:=v13,Content:=v8 }:aS)
def m7 (K:Kn) (n:Nat) (v3:Int) (v4:aS) (v8 v9:Int) (v10 v11:Int×Bool) (v12:Bool):Option aS :=
  if v12=true then
    jv K n v4 v8 ⟨v4.Margin.a0,(w64 ((w64 (v3 - v9)) - (w64 (Int.tdiv (w64 (v3 - v9)) 2)))),v4.Margin.a2,(w64 (Int.tdiv (w64 (v3 - v9)) 2))⟩
  else
    if (!v10.2)=true then
      jv K n v4 v8 ⟨v4.Margin.a0,v4.Margin.a1,v4.Margin.a2,(w64 (v3 - v9))⟩
    else
      if (!v11.2)=true then
        jv K n v4 v8 ⟨v4.Margin.a0,(w64 (v3 - v9)),v4.Margin.a2,v4.Margin.a3⟩
      else
        jv K n v4 v8 v4.Margin
def kM (K:Kn) (n:Nat) (v1:aG) (v3:Int) (v4:aS) (v7:Int):Option aS :=
  (g6 K n v1 v3 v7).bind fun v8 =>
  (gv K n ({ v4 with Content:=v8 }:aS)).bind fun v9 =>
  if (decide ((w64 (v3 - v9))≤0))=true then
    some ({ v4 with Content:=v8 }:aS)
  else
    (cS K n v1.Margin.a3 v3).bind fun v10 =>
    (cS K n v1.Margin.a1 v3).bind fun v11 =>
    if (!v10.2)=true then
      m7 K n v3 v4 v8 v9 v10 v11 (!v11.2)
    else
      m7 K n v3 v4 v8 v9 v10 v11 false
def jg (K:Kn) (n:Nat) (v1:aG) (v2:Int):Option aS :=
  (dT K n v2).bind fun v3 =>
  (gp K n v1 v3 0).bind fun v4 =>
  (cS K n v1.Width v3).bind fun v5 =>
  if (!v5.2)=true then
    (gv K n v4).bind fun v6 =>
    kM K n v1 v3 v4 (w64 (v3 - v6))
  else
    kM K n v1 v3 v4 v5.1
def mT (K:Kn) (n:Nat) (v1:ab) (v2:Int) (v4:bp) (v5:Int×Int) (v11:Int) (v25:List Int) (v26:List (aa×Option (List aa))) (v37:Int) (L2:Int→(List ae)→(List Int)→Option aa) (v41:List ae) (v42:List Int):Option aa :=
  L2 (w64 (v37+1)) v41 v42
def o9 (K:Kn) (n:Nat) (v1:ab) (v2:Int) (v5:Int×Int) (v11:Int) (v25:List Int) (v26:List (aa×Option (List aa))) (v38:List ae) (v43:List Int) (v46 v94:Int) (v102:List (aa×Option (List aa))) (L4:Int→(List (aa×Option (List aa)))→(List (aa×Option (List aa)))→Option aa) (v110:List (aa×Option (List aa))):Option aa :=
  L4 (w64 (v94+1)) v102 v110
def pF (K:Kn) (n:Nat) (v1:ab) (v2:Int) (v5:Int×Int) (v11:Int) (v25:List Int) (v26:List (aa×Option (List aa))) (v38:List ae) (v43:List Int) (v46 v94:Int) (v95 v96:List (aa×Option (List aa))) (v97:List aa) (v98:aG) (v99 v100:aB) (v101:Bool) (v102:List (aa×Option (List aa))) (v103 v105:Int) (L4:Int→(List (aa×Option (List aa)))→(List (aa×Option (List aa)))→Option aa) (L5:Int→(List aa)→Option aa) (v106:Int) (v107:List aa):Option aa :=
  if (decide (v106<(v97.length:Int)))=true then
    chk (inb v106 v107.length) (
    chk (inb v106 v107.length) (
    L5 (w64 (v106+1)) (List.set v107 (v106).toNat ({ (List.getD v107 (v106).toNat default) with Y:=(w64 (((List.getD v107 (v106).toNat default).Y)+v105)) }:aa))))
  else
    both (true) (
      chk (inb ((List.getD v38 (v94).toNat default).Row) v96.length) (
      ((List.getD v96 ((List.getD v38 (v94).toNat default).Row).toNat default).2).bind fun v108 =>
      chk (inb ((List.getD v38 (v94).toNat default).Row) v96.length) (
      chk (fits (v108.length+([aX]:(List aa)).length) 584) (
      chk (inb ((List.getD v38 (v94).toNat default).Row) v96.length) (
      chk (inb (v108.length:Int) (v108++[aX]).length) (
      o9 K n v1 v2 v5 v11 v25 v26 v38 v43 v46 v94 v102 L4 (List.set v96 ((List.getD v38 (v94).toNat default).Row).toNat ((List.getD v96 ((List.getD v38 (v94).toNat default).Row).toNat default).1,some (List.set (v108++[aX]) ((v108.length:Int)).toNat ({ ((List.getD v95 (v94).toNat default).1) with H:=v103,Style:=v98,Before:=v99,After:=v100,Empty:=v101,Kids:=v107 }:aa)))))))))) (
      chk (inb ((List.getD v38 (v94).toNat default).Row) v96.length) (
      ((List.getD v96 ((List.getD v38 (v94).toNat default).Row).toNat default).2).bind fun v109 =>
      chk (inb ((List.getD v38 (v94).toNat default).Row) v96.length) (
      chk (fits (v109.length+([({ ((List.getD v95 (v94).toNat default).1) with H:=v103,Style:=v98,Before:=v99,After:=v100,Empty:=v101,Kids:=v107 }:aa)]:(List aa)).length) 584) (
      chk (inb ((List.getD v38 (v94).toNat default).Row) v96.length) (
      o9 K n v1 v2 v5 v11 v25 v26 v38 v43 v46 v94 v102 L4 (List.set v96 ((List.getD v38 (v94).toNat default).Row).toNat ((List.getD v96 ((List.getD v38 (v94).toNat default).Row).toNat default).1,some (v109++[({ ((List.getD v95 (v94).toNat default).1) with H:=v103,Style:=v98,Before:=v99,After:=v100,Empty:=v101,Kids:=v107 }:aa)]))))))))
def mu (K:Kn) (n:Nat) (v1:ab) (v2:Int) (v5:Int×Int) (v11:Int) (v25:List Int) (v26:List (aa×Option (List aa))) (v38:List ae) (v43:List Int) (v46 v94:Int) (v95 v96:List (aa×Option (List aa))) (v97:List aa) (v98:aG) (v99 v100:aB) (v101:Bool) (v102:List (aa×Option (List aa))) (v103 v105:Int) (L4:Int→(List (aa×Option (List aa)))→(List (aa×Option (List aa)))→Option aa):Nat→Int→(List aa)→Option aa
  | 0=>fun _ _=>none
  | m+1=>pF K n v1 v2 v5 v11 v25 v26 v38 v43 v46 v94 v95 v96 v97 v98 v99 v100 v101 v102 v103 v105 L4 (mu K n v1 v2 v5 v11 v25 v26 v38 v43 v46 v94 v95 v96 v97 v98 v99 v100 v101 v102 v103 v105 L4 m)
def ja (K:Kn) (n:Nat) (v1:ab) (v2:Int) (v5:Int×Int) (v11:Int) (v25:List Int) (v26:List (aa×Option (List aa))) (v38:List ae) (v43:List Int) (v46 v94:Int) (v95 v96:List (aa×Option (List aa))) (v97:List aa) (v98:aG) (v99 v100:aB) (v101:Bool) (v102:List (aa×Option (List aa))) (v103:Int) (L4:Int→(List (aa×Option (List aa)))→(List (aa×Option (List aa)))→Option aa) (v105:Int):Option aa :=
  mu K n v1 v2 v5 v11 v25 v26 v38 v43 v46 v94 v95 v96 v97 v98 v99 v100 v101 v102 v103 v105 L4 n 0 v97
def pu (K:Kn) (n:Nat) (v1:ab) (v96:List (aa×Option (List aa))) (v111:aS) (v113:Int) (v114 v115:aB) (v116 v117:Int) (L6:Int→(List (aa×Option (List aa)))→Option aa) (v119:Int) (v120:List (aa×Option (List aa))):Option aa :=
  if (decide (v119<(v96.length:Int)))=true then
    chk (inb v119 v120.length) (
    chk (inb v119 v120.length) (
    (some (List.set v120 (v119).toNat (({ ((List.getD v120 (v119).toNat default).1) with X:=(w64 ((((List.getD v120 (v119).toNat default).1).X)+(w64 (v111.Border.a3+v111.Padding.a3)))) }:aa),(List.getD v120 (v119).toNat default).2))).bind fun v121 =>
    chk (inb v119 v121.length) (
    chk (inb v119 v121.length) (
    L6 (w64 (v119+1)) (List.set v121 (v119).toNat (({ ((List.getD v121 (v119).toNat default).1) with Y:=(w64 ((((List.getD v121 (v119).toNat default).1).Y)+(w64 (v111.Border.a0+v111.Padding.a0)))) }:aa),(List.getD v121 (v119).toNat default).2))))))
  else
    chk (List.all v120 (fun p=>p.2.isSome)) (
    some (⟨1,v1.Node,v111.Margin.a3,0,v116,(w64 (v113+v117)),0,⟨#[]⟩,v1.Style,v114,v115,false,(List.map wTBlockFragment v120)⟩:aa))
def kw (K:Kn) (n:Nat) (v1:ab) (v96:List (aa×Option (List aa))) (v111:aS) (v113:Int) (v114 v115:aB) (v116 v117:Int):Nat→Int→(List (aa×Option (List aa)))→Option aa
  | 0=>fun _ _=>none
  | m+1=>pu K n v1 v96 v111 v113 v114 v115 v116 v117 (kw K n v1 v96 v111 v113 v114 v115 v116 v117 m)
def gR (K:Kn) (n:Nat) (v1:ab) (v96:List (aa×Option (List aa))) (v111:aS) (v113:Int):Option aa :=
  (iT K n v111.Margin.a0).bind fun v114 =>
  (iT K n v111.Margin.a2).bind fun v115 =>
  (some (w64 ((w64 ((w64 ((w64 (v111.Content+v111.Border.a1))+v111.Border.a3))+v111.Padding.a1))+v111.Padding.a3))).bind fun v116 =>
  (l9 K n v111).bind fun v117 =>
  kw K n v1 v96 v111 v113 v114 v115 v116 v117 n 0 v96
def oN (K:Kn) (n:Nat) (v1:ab) (v2:Int) (v5:Int×Int) (v11:Int) (v25:List Int) (v26:List (aa×Option (List aa))) (v38:List ae) (v43:List Int) (v46:Int) (L4:Int→(List (aa×Option (List aa)))→(List (aa×Option (List aa)))→Option aa) (v94:Int) (v95 v96:List (aa×Option (List aa))):Option aa :=
  if (decide (v94<(v26.length:Int)))=true then
    chk (inb v94 v95.length) (
    ((List.getD v95 (v94).toNat default).2).bind fun v97 =>
    (some (((List.getD v95 (v94).toNat default).1).Style)).bind fun v98 =>
    (some (((List.getD v95 (v94).toNat default).1).Before)).bind fun v99 =>
    (some (((List.getD v95 (v94).toNat default).1).After)).bind fun v100 =>
    (some (((List.getD v95 (v94).toNat default).1).Empty)).bind fun v101 =>
    (some (List.set v95 (v94).toNat ((List.getD v95 (v94).toNat default).1,none))).bind fun v102 =>
    chk (inb v94 v38.length) (
    chk (slb ((List.getD v38 (v94).toNat default).Row) (w64 (((List.getD v38 (v94).toNat default).Row)+((List.getD v38 (v94).toNat default).Rows))) v43.length) (
    (fN K n (List.drop (((List.getD v38 (v94).toNat default).Row)).toNat (List.take ((w64 (((List.getD v38 (v94).toNat default).Row)+((List.getD v38 (v94).toNat default).Rows)))).toNat v43))).bind fun v103 =>
    chk (inb v94 v25.length) (
    (some (max (w64 (v103 - (List.getD v25 (v94).toNat default))) 0)).bind fun v104 =>
    if (v98.VAlign == 2)=true then
      ja K n v1 v2 v5 v11 v25 v26 v38 v43 v46 v94 v95 v96 v97 v98 v99 v100 v101 v102 v103 L4 v104
    else
      if (v98.VAlign == 1)=true then
        ja K n v1 v2 v5 v11 v25 v26 v38 v43 v46 v94 v95 v96 v97 v98 v99 v100 v101 v102 v103 L4 (w64 (Int.tdiv v104 2))
      else
        ja K n v1 v2 v5 v11 v25 v26 v38 v43 v46 v94 v95 v96 v97 v98 v99 v100 v101 v102 v103 L4 0))))
  else
    (jg K n ({ v1.Style with Width:=(⟨1,(max v11 v5.1)⟩:cn),MinWidth:=bH,MaxWidth:=bH }:aG) v2).bind fun v111 =>
    (iE K n v1.Style.Height).bind fun v112 =>
    if v112.2=true then
      gR K n v1 v96 v111 (max v46 v112.1)
    else
      gR K n v1 v96 v111 v46
def gl (K:Kn) (n:Nat) (v1:ab) (v2:Int) (v5:Int×Int) (v11:Int) (v25:List Int) (v26:List (aa×Option (List aa))) (v38:List ae) (v43:List Int) (v46:Int):Nat→Int→(List (aa×Option (List aa)))→(List (aa×Option (List aa)))→Option aa
  | 0=>fun _ _ _=>none
  | m+1=>oN K n v1 v2 v5 v11 v25 v26 v38 v43 v46 (gl K n v1 v2 v5 v11 v25 v26 v38 v43 v46 m)
def pr (K:Kn) (n:Nat) (v1:ab) (v2:Int) (v4:bp) (v5:Int×Int) (v11:Int) (v25:List Int) (v26:List (aa×Option (List aa))) (v38:List ae) (v43:List Int) (L3:Int→Int→(List (aa×Option (List aa)))→Option aa) (v46 v47:Int) (v48:List (aa×Option (List aa))):Option aa :=
  if (decide (v47<(v4.rows.length:Int)))=true then
    chk (inb v47 v4.rows.length) (
    chk (inb v47 v43.length) (
    chk (fits (v48.length+1) 584) (
    (some (v48++[(({ aX with Kind:=1,Node:=(List.getD v4.rows (v47).toNat default).Node,Y:=v46,W:=(max v11 v5.1),H:=(List.getD v43 (v47).toNat default),Style:=(List.getD v4.rows (v47).toNat default).Style }:aa),some [])])).bind fun v49 =>
    chk (inb v47 v43.length) (
    L3 (w64 (v46+(List.getD v43 (v47).toNat default))) (w64 (v47+1)) v49))))
  else
    gl K n v1 v2 v5 v11 v25 v26 v38 v43 v46 n 0 v26 v48
def jG (K:Kn) (n:Nat) (v1:ab) (v2:Int) (v4:bp) (v5:Int×Int) (v11:Int) (v25:List Int) (v26:List (aa×Option (List aa))) (v38:List ae) (v43:List Int):Nat→Int→Int→(List (aa×Option (List aa)))→Option aa
  | 0=>fun _ _ _=>none
  | m+1=>pr K n v1 v2 v4 v5 v11 v25 v26 v38 v43 (jG K n v1 v2 v4 v5 v11 v25 v26 v38 v43 m)
def nJ (K:Kn) (n:Nat) (v1:ab) (v2:Int) (v4:bp) (v5:Int×Int) (v11:Int) (v25:List Int) (v26:List (aa×Option (List aa))) (L2:Int→(List ae)→(List Int)→Option aa) (v37:Int) (v38:List ae) (v39:List Int):Option aa :=
  if (decide (v37<(v4.rows.length:Int)))=true then
    chk (inb v37 v4.rows.length) (
    (iE K n (((List.getD v4.rows (v37).toNat default).Style).Height)).bind fun v40 =>
    if v40.2=true then
      chk (fits (v38.length+([(⟨v37,0,1,1⟩:ae)]:(List ae)).length) 32) (
      chk (fits (v39.length+([v40.1]:(List Int)).length) 8) (
      mT K n v1 v2 v4 v5 v11 v25 v26 v37 L2 (v38++[(⟨v37,0,1,1⟩:ae)]) (v39++[v40.1])))
    else
      mT K n v1 v2 v4 v5 v11 v25 v26 v37 L2 v38 v39)
  else
    (m8 K n v38 v39 (v4.rows.length:Int)).bind fun v43 =>
    jG K n v1 v2 v4 v5 v11 v25 v26 v38 v43 n 0 0 []
def jl (K:Kn) (n:Nat) (v1:ab) (v2:Int) (v4:bp) (v5:Int×Int) (v11:Int) (v25:List Int) (v26:List (aa×Option (List aa))):Nat→Int→(List ae)→(List Int)→Option aa
  | 0=>fun _ _ _=>none
  | m+1=>nJ K n v1 v2 v4 v5 v11 v25 v26 (jl K n v1 v2 v4 v5 v11 v25 v26 m)
def n6 (K:Kn) (n:Nat) (v1:ab) (v2:Int) (v3:bw) (v4:bp) (v5:Int×Int) (v11:Int) (v12:List Int) (v13:List ae) (L1:Int→(List Int)→(List (aa×Option (List aa)))→Option aa) (v24:Int) (v25:List Int) (v26:List (aa×Option (List aa))):Option aa :=
  if (decide (v24<(v4.cells.length:Int)))=true then
    chk (inb v24 v4.cells.length) (
    chk (inb v24 v13.length) (
    chk (slb ((List.getD v13 (v24).toNat default).Col) (w64 (((List.getD v13 (v24).toNat default).Col)+((List.getD v13 (v24).toNat default).Cols))) v12.length) (
    (fN K n (List.drop (((List.getD v13 (v24).toNat default).Col)).toNat (List.take ((w64 (((List.getD v13 (v24).toNat default).Col)+((List.getD v13 (v24).toNat default).Cols)))).toNat v12))).bind fun v27 =>
    (jI K n (List.getD v4.cells (v24).toNat default) (max v11 v5.1) v27 v3).bind fun v28 =>
    chk (slb (0:Int) ((List.getD v13 (v24).toNat default).Col) v12.length) (
    (fN K n (List.drop ((0:Int)).toNat (List.take (((List.getD v13 (v24).toNat default).Col)).toNat v12))).bind fun v29 =>
    chk (fits (v26.length+1) 584) (
    (some (v26++[(({ v28.1 with X:=v29,Y:=0,Kids:=[] }:aa),some v28.1.Kids)])).bind fun v30 =>
    chk (fits (v25.length+([v28.2]:(List Int)).length) 8) (
    L1 (w64 (v24+1)) (v25++[v28.2]) v30))))))
  else
    (mM K n v25).bind fun v31 =>
    jl K n v1 v2 v4 v5 v11 v25 v26 n 0 v13 v31
def kI (K:Kn) (n:Nat) (v1:ab) (v2:Int) (v3:bw) (v4:bp) (v5:Int×Int) (v11:Int) (v12:List Int) (v13:List ae):Nat→Int→(List Int)→(List (aa×Option (List aa)))→Option aa
  | 0=>fun _ _ _=>none
  | m+1=>n6 K n v1 v2 v3 v4 v5 v11 v12 v13 (kI K n v1 v2 v3 v4 v5 v11 v12 v13 m)
def lO (K:Kn) (n:Nat) (v1:ab) (v2:Int) (v3:bw) (v4:bp) (v5:Int×Int) (v10:Int):Option aa :=
  (g6 K n v1.Style v2 v10).bind fun v11 =>
  (kO K n v4.columns (max v11 v5.1)).bind fun v12 =>
  (nr K n v4.places).bind fun v13 =>
  kI K n v1 v2 v3 v4 v5 v11 v12 v13 n 0 [] []
def pg (K:Kn) (n:Nat) (v1:ab) (v2:Int) (v3:bw):Option aa :=
  (nT K n v1 v3).bind fun v4 =>
  (qy K n v4).bind fun v5 =>
  (cS K n v1.Style.Width v2).bind fun v6 =>
  if (!v6.2)=true then
    (fl K n v2).bind fun v7 =>
    (gp K n v1.Style v2 0).bind fun v8 =>
    (gv K n v8).bind fun v9 =>
    lO K n v1 v2 v3 v4 v5 (min (w64 (v7 - v9)) v5.2)
  else
    lO K n v1 v2 v3 v4 v5 v6.1
def j8 (K:Kn) (n:Nat):Option bw :=
  some (⟨(Fv.fn 53),(Fv.fn 54),(Fv.fn 55),(Fv.fn 56)⟩:bw)
def ib (K:Kn) (n:Nat) (v5:ab) (v8:aa) (v28 v30 v36 v37:Int) (v38:aa) (L1:Int→Int→Option Bool) (L2:Int→Int→Int→Option Bool) (v39:Bool):Option Bool :=
  if v39=true then
    some false
  else
    L2 (w64 (v38.X+v38.W)) v36 (w64 (v37+1))
def oW (K:Kn) (n:Nat) (v5:ab) (v8:aa) (v28 v30:Int) (L1:Int→Int→Option Bool) (L2:Int→Int→Int→Option Bool) (v35 v36 v37:Int):Option Bool :=
  if (decide (v37<v36))=true then
    chk (inb v37 ((List.getD v8.Kids (v28).toNat default).Kids).length) (
    (some (List.getD ((List.getD v8.Kids (v28).toNat default).Kids) (v37).toNat default)).bind fun v38 =>
    if (decide (v38.X<v35))=true then
      ib K n v5 v8 v28 v30 v36 v37 v38 L1 L2 true
    else
      if (decide ((w64 (v38.X+v38.W))>((List.getD v8.Kids (v28).toNat default).W)))=true then
        ib K n v5 v8 v28 v30 v36 v37 v38 L1 L2 true
      else
        if (v38.Y != 0)=true then
          ib K n v5 v8 v28 v30 v36 v37 v38 L1 L2 true
        else
          if (decide (v38.H<((List.getD v8.Kids (v28).toNat default).H)))=true then
            ib K n v5 v8 v28 v30 v36 v37 v38 L1 L2 true
          else
            chk (inb v28 v5.Kids.length) (
            chk (inb v37 ((List.getD v5.Kids (v28).toNat default).Kids).length) (
            ib K n v5 v8 v28 v30 v36 v37 v38 L1 L2 (v38.Node != ((List.getD ((List.getD v5.Kids (v28).toNat default).Kids) (v37).toNat default).Node)))))
  else
    L1 v30 (w64 (v28+1))
def mE (K:Kn) (n:Nat) (v5:ab) (v8:aa) (v28 v30:Int) (L1:Int→Int→Option Bool):Nat→Int→Int→Int→Option Bool
  | 0=>fun _ _ _=>none
  | m+1=>oW K n v5 v8 v28 v30 L1 (mE K n v5 v8 v28 v30 L1 m)
def gm (K:Kn) (n:Nat) (v5:ab) (v8:aa) (v28:Int) (L1:Int→Int→Option Bool) (v29:Bool):Option Bool :=
  if v29=true then
    some false
  else
    (some (w64 (((List.getD v8.Kids (v28).toNat default).Y)+((List.getD v8.Kids (v28).toNat default).H)))).bind fun v30 =>
    mE K n v5 v8 v28 v30 L1 n 0 (((List.getD v8.Kids (v28).toNat default).Kids).length:Int) 0
def n4 (K:Kn) (n:Nat) (v5:ab) (v8:aa) (L1:Int→Int→Option Bool) (v27 v28:Int):Option Bool :=
  if (decide (v28<(v8.Kids.length:Int)))=true then
    chk (inb v28 v8.Kids.length) (
    if (decide (v28>0))=true then
      if (((List.getD v8.Kids (v28).toNat default).Y) != v27)=true then
        gm K n v5 v8 v28 L1 true
      else
        chk (inb v28 v5.Kids.length) (
        if ((((List.getD v8.Kids (v28).toNat default).Kids).length:Int) != (((List.getD v5.Kids (v28).toNat default).Kids).length:Int))=true then
          gm K n v5 v8 v28 L1 true
        else
          gm K n v5 v8 v28 L1 (((List.getD v8.Kids (v28).toNat default).Kind) != 1))
    else
      chk (inb v28 v5.Kids.length) (
      if ((((List.getD v8.Kids (v28).toNat default).Kids).length:Int) != (((List.getD v5.Kids (v28).toNat default).Kids).length:Int))=true then
        gm K n v5 v8 v28 L1 true
      else
        gm K n v5 v8 v28 L1 (((List.getD v8.Kids (v28).toNat default).Kind) != 1)))
  else
    some true
def gQ (K:Kn) (n:Nat) (v5:ab) (v8:aa):Nat→Int→Int→Option Bool
  | 0=>fun _ _=>none
  | m+1=>n4 K n v5 v8 (gQ K n v5 v8 m)
def pP (K:Kn) (n:Nat) (v1:List bN) (v2:Int):Option Bool :=
  (pd K n ).bind fun v3 =>
  if (!v3)=true then
    some false
  else
    (oo K n v1).bind fun v4 =>
    if (!v4)=true then
      some true
    else
      (md K n v1).bind fun v5 =>
      (j8 K n ).bind fun v7 =>
      (pg K n v5 v2 v7).bind fun v8 =>
      (some ((v8.Kids.length:Int) != (v5.Kids.length:Int))).bind fun v9 =>
      if v9=true then
        some false
      else
        gQ K n v5 v8 n 0 0
def sa (K:Kn) (n:Nat) (v1:ae):Option Int :=
  some v1.Rows
def rJ (K:Kn) (n:Nat) (v1:ae):Option Int :=
  some v1.Cols
def mh (K:Kn) (n:Nat) (v1:ab) (v3:bw) (v4:aS) (v5 v6:Bool):Option aa :=
  (nH K n v1 v4 v5 v6 v3).bind fun v7 =>
  some v7
def nc (K:Kn) (n:Nat) (v1:ab) (v3:bw) (v4:aS) (v5:Bool):Option aa :=
  if (v1.Style.Overflow == 0)=true then
    if (v4.Border.a2 == 0)=true then
      if (v4.Padding.a2 == 0)=true then
        mh K n v1 v3 v4 v5 (v1.Style.Height.Kind != 1)
      else
        mh K n v1 v3 v4 v5 false
    else
      mh K n v1 v3 v4 v5 false
  else
    mh K n v1 v3 v4 v5 false
def rP (K:Kn) (n:Nat) (v1:ab) (v2:Int) (v3:bw):Option aa :=
  (jg K n v1.Style v2).bind fun v4 =>
  if (v1.Style.Overflow == 0)=true then
    if (v4.Border.a0 == 0)=true then
      nc K n v1 v3 v4 (v4.Padding.a0 == 0)
    else
      nc K n v1 v3 v4 false
  else
    nc K n v1 v3 v4 false
def rr (K:Kn) (n:Nat) (v1:ab) (v2:Int):Option aa :=
  (j8 K n ).bind fun v3 =>
  (rP K n v1 v2 v3).bind fun v4 =>
  some v4
def rY (K:Kn) (n:Nat) (v1:ab):Option (Int×Int) :=
  (j8 K n ).bind fun v2 =>
  (kk K n v1 v2).bind fun v3 =>
  some (v3.1,v3.2)
def ox (K:Kn) (n:Nat) (v1:List ab) (v2:aG) (v3 v11:Int) (L1:Int→Int→(List aa)→Option ((List aa)×Int)) (v14:Int) (v15:List aa):Option ((List aa)×Int) :=
  L1 v14 (w64 (v11+1)) v15
def mW (K:Kn) (n:Nat) (v1:List ab) (v2:aG) (v3:Int) (L1:Int→Int→(List aa)→Option ((List aa)×Int)) (v10 v11:Int) (v12:List aa):Option ((List aa)×Int) :=
  if (decide (v11<(v1.length:Int)))=true then
    chk (inb v11 v1.length) (
    (some (!(((List.getD v1 (v11).toNat default).Text).toList == (⟨#[]⟩:ByteArray).toList))).bind fun v13 =>
    if v13=true then
      chk (inb v11 v1.length) (
      chk (fits (v12.length+([({ aX with Kind:=2,Y:=v10,W:=v3,H:=v2.LineHeight,Text:=(List.getD v1 (v11).toNat default).Text }:aa)]:(List aa)).length) 584) (
      ox K n v1 v2 v3 v11 L1 (w64 (v10+v2.LineHeight)) (v12++[({ aX with Kind:=2,Y:=v10,W:=v3,H:=v2.LineHeight,Text:=(List.getD v1 (v11).toNat default).Text }:aa)])))
    else
      ox K n v1 v2 v3 v11 L1 v10 v12)
  else
    some (v12,v10)
def lP (K:Kn) (n:Nat) (v1:List ab) (v2:aG) (v3:Int):Nat→Int→Int→(List aa)→Option ((List aa)×Int)
  | 0=>fun _ _ _=>none
  | m+1=>mW K n v1 v2 v3 (lP K n v1 v2 v3 m)
def pM (K:Kn) (n:Nat) (v1:List ab) (v2:aG) (v3:Int):Option ((List aa)×Int) :=
  lP K n v1 v2 v3 n 0 0 []
def nN (K:Kn) (n:Nat) (v1:List ab) (L1:Int→Int→Int→Option (Int×Int)) (v3 v4 v5:Int):Option (Int×Int) :=
  if (decide (v5<(v1.length:Int)))=true then
    chk (inb v5 v1.length) (
    L1 (max v3 (w64 (8*(((List.getD v1 (v5).toNat default).Text).size:Int)))) (w64 (v4+(w64 (8*(((List.getD v1 (v5).toNat default).Text).size:Int))))) (w64 (v5+1)))
  else
    some (v3,v4)
def j0 (K:Kn) (n:Nat) (v1:List ab):Nat→Int→Int→Int→Option (Int×Int)
  | 0=>fun _ _ _=>none
  | m+1=>nN K n v1 (j0 K n v1 m)
def qA (K:Kn) (n:Nat) (v1:List ab) (v2:aG):Option (Int×Int) :=
  j0 K n v1 n 0 0 0
def rt (K:Kn) (n:Nat) (v1:Int):Option Bool :=
  some (decide (v1>0))
def KN:Nat→Kn
  | 0=>⟨fun _ _ _ _ _=>none,fun _ _ _=>none,fun _ _=>none,fun _ _ _ _=>none,fun _ _ _=>none,fun _ _ _=>none,fun _ _=>none,fun _ _=>none,fun _ _=>none,fun _ _=>none⟩
  | n+1=>⟨fun a0 a1 a2 a3 a4=>fg (KN n) n a0 a1 a2 a3 a4,
    fun f a0 a1=>match f with | .fn i=>none | .c31 x0=>none | .c36 x0=>none | .c59 x0=>mU (KN n) n a0 a1 x0 | .c65 x0 x1=>ng (KN n) n a0 a1 x0 x1,
    fun f a0=>match f with | .fn i=>if Nat.beq i 62=true then rt (KN n) n a0 else none | .c31 x0=>none | .c36 x0=>none | .c59 x0=>none | .c65 x0 x1=>none,
    fun f a0 a1 a2=>match f with | .fn i=>if Nat.beq i 55=true then pM (KN n) n a0 a1 a2 else none | .c31 x0=>none | .c36 x0=>none | .c59 x0=>none | .c65 x0 x1=>none,
    fun f a0 a1=>match f with | .fn i=>if Nat.beq i 56=true then qA (KN n) n a0 a1 else none | .c31 x0=>none | .c36 x0=>none | .c59 x0=>none | .c65 x0 x1=>none,
    fun f a0 a1=>match f with | .fn i=>if Nat.beq i 53=true then rr (KN n) n a0 a1 else none | .c31 x0=>none | .c36 x0=>none | .c59 x0=>none | .c65 x0 x1=>none,
    fun f a0=>match f with | .fn i=>if Nat.beq i 90=true then l6 (KN n) n a0 else none | .c31 x0=>none | .c36 x0=>none | .c59 x0=>none | .c65 x0 x1=>none,
    fun f a0=>match f with | .fn i=>if Nat.beq i 54=true then rY (KN n) n a0 else none | .c31 x0=>none | .c36 x0=>none | .c59 x0=>none | .c65 x0 x1=>none,
    fun f a0=>match f with | .fn i=>none | .c31 x0=>pt (KN n) n a0 x0 | .c36 x0=>o6 (KN n) n a0 x0 | .c59 x0=>none | .c65 x0 x1=>none,
    fun f a0=>match f with | .fn i=>if Nat.beq i 33=true then sa (KN n) n a0 else if Nat.beq i 37=true then rJ (KN n) n a0 else none | .c31 x0=>none | .c36 x0=>none | .c59 x0=>none | .c65 x0 x1=>none⟩
end
end Go.Proofs.Ytolhpahjgddjkaa
