/- Layer 19's functions as plain Lean functions: K stands for calls that come back, n bounds the rounds of loops. Made by a program. -/
import Derived.Test.YtlpndemhnpajiaaSnGt
namespace Go.Proofs.Ytlpndemhnpajiaa
open Go.RowKit
set_option maxRecDepth 20000
set_option linter.all false
set_option linter.unusedVariables false
set_option linter.unusedSimpArgs false
noncomputable section
def tu (K:Kn) (n:Nat) (v1 v2:List Int) (L1:Int→Option Bool) (v4:Int):Option Bool :=
  if (decide (v4<(v1.length:Int)))=true then
    chk (inb v4 v1.length) (
    chk (inb v4 v2.length) (
    (some ((List.getD v1 (v4).toNat default) != (List.getD v2 (v4).toNat default))).bind fun v5 =>
    if v5=true then
      some false
    else
      L1 (w64 (v4+1))))
  else
    some true
def ta (K:Kn) (n:Nat) (v1 v2:List Int):Nat→Int→Option Bool
  | 0=>fun _=>none
  | m+1=>tu K n v1 v2 (ta K n v1 v2 m)
def tq (K:Kn) (n:Nat) (v1 v2:List Int):Option Bool :=
  if ((v1.length:Int) != (v2.length:Int))=true then
    some false
  else
    ta K n v1 v2 n 0
def fu (K:Kn) (n:Nat) (v1 v2:Int):Option Int :=
  some (min (max v1 0) v2)
def nW (K:Kn) (n:Nat) (v2 v3:Int) (v4:Fv) (v11 v15:Int) (v16:List Int) (L1 L2:Int→(List Int)→Option (List Int)) (v18:Bool):Option (List Int) :=
  if v18=true then
    chk (inb (w64 (v15 - 1)) v16.length) (
    chk (inb v15 v16.length) (
    chk (inb v15 v16.length) (
    chk (inb (w64 (v15 - 1)) (List.set v16 (v15).toNat (List.getD v16 ((w64 (v15 - 1))).toNat default)).length) (
    L2 (w64 (v15 - 1)) (List.set (List.set v16 (v15).toNat (List.getD v16 ((w64 (v15 - 1))).toNat default)) ((w64 (v15 - 1))).toNat (List.getD v16 (v15).toNat default))))))
  else
    L1 (w64 (v11+1)) v16
def rX (K:Kn) (n:Nat) (v2 v3:Int) (v4:Fv) (v11:Int) (L1 L2:Int→(List Int)→Option (List Int)) (v15:Int) (v16:List Int):Option (List Int) :=
  if (decide (v15>v2))=true then
    chk (inb v15 v16.length) (
    chk (inb (w64 (v15 - 1)) v16.length) (
    (K.eF v4 (List.getD v16 (v15).toNat default) (List.getD v16 ((w64 (v15 - 1))).toNat default)).bind fun v17 =>
    nW K n v2 v3 v4 v11 v15 v16 L1 L2 (decide (v17<0))))
  else
    nW K n v2 v3 v4 v11 v15 v16 L1 L2 false
def pI (K:Kn) (n:Nat) (v2 v3:Int) (v4:Fv) (v11:Int) (L1:Int→(List Int)→Option (List Int)):Nat→Int→(List Int)→Option (List Int)
  | 0=>fun _ _=>none
  | m+1=>rX K n v2 v3 v4 v11 L1 (pI K n v2 v3 v4 v11 L1 m)
def oX (K:Kn) (n:Nat) (v2 v3:Int) (v4:Fv) (L1:Int→(List Int)→Option (List Int)) (v11:Int) (v12:List Int):Option (List Int) :=
  if (decide (v11<v3))=true then
    pI K n v2 v3 v4 v11 L1 n v11 v12
  else
    some v12
def j0 (K:Kn) (n:Nat) (v2 v3:Int) (v4:Fv):Nat→Int→(List Int)→Option (List Int)
  | 0=>fun _ _=>none
  | m+1=>oX K n v2 v3 v4 (j0 K n v2 v3 v4 m)
def oY (K:Kn) (n:Nat) (v1:List Int) (v2 v3:Int) (v4:Fv):Option (List Int) :=
  j0 K n v2 v3 v4 n (w64 (v2+1)) v1
def rd (K:Kn) (n:Nat) (v2 v3 v4:Int) (L1:Int→(List Int)→Option (List Int)) (v6:Int) (v7:List Int):Option (List Int) :=
  if (decide (v6<v4))=true then
    chk (inb (w64 (v3+v6)) v7.length) (
    chk (inb (w64 (v2+v6)) v7.length) (
    chk (inb (w64 (v2+v6)) v7.length) (
    chk (inb (w64 (v3+v6)) (List.set v7 ((w64 (v2+v6))).toNat (List.getD v7 ((w64 (v3+v6))).toNat default)).length) (
    L1 (w64 (v6+1)) (List.set (List.set v7 ((w64 (v2+v6))).toNat (List.getD v7 ((w64 (v3+v6))).toNat default)) ((w64 (v3+v6))).toNat (List.getD v7 ((w64 (v2+v6))).toNat default))))))
  else
    some v7
def pU (K:Kn) (n:Nat) (v2 v3 v4:Int):Nat→Int→(List Int)→Option (List Int)
  | 0=>fun _ _=>none
  | m+1=>rd K n v2 v3 v4 (pU K n v2 v3 v4 m)
def md (K:Kn) (n:Nat) (v1:List Int) (v2 v3 v4:Int) (v5:Fv):Option (List Int) :=
  pU K n v2 v3 v4 n 0 v1
def pH (K:Kn) (n:Nat) (v3:Int) (v5:Fv) (L1:Int→Int→(List Int)→Option (List Int)) (v16 v17:Int) (v18:List Int):Option (List Int) :=
  L1 v16 v17 v18
def sd (K:Kn) (n:Nat) (v3:Int) (v5:Fv) (L1:Int→Int→(List Int)→Option (List Int)) (v11 v12:Int) (v13:List Int):Option (List Int) :=
  if (v11 != v12)=true then
    if (decide (v11>v12))=true then
      (md K n v13 (w64 (v3 - v11)) v3 v12 v5).bind fun v14 =>
      pH K n v3 v5 L1 (w64 (v11 - v12)) v12 v14
    else
      (md K n v13 (w64 (v3 - v11)) (w64 ((w64 (v3+v12)) - v11)) v11 v5).bind fun v15 =>
      pH K n v3 v5 L1 v11 (w64 (v12 - v11)) v15
  else
    (md K n v13 (w64 (v3 - v11)) v3 v11 v5).bind fun v19 =>
    some v19
def oF (K:Kn) (n:Nat) (v3:Int) (v5:Fv):Nat→Int→Int→(List Int)→Option (List Int)
  | 0=>fun _ _ _=>none
  | m+1=>sd K n v3 v5 (oF K n v3 v5 m)
def rI (K:Kn) (n:Nat) (v1:List Int) (v2 v3 v4:Int) (v5:Fv):Option (List Int) :=
  oF K n v3 v5 n (w64 (v3 - v2)) (w64 (v4 - v3)) v1
def rx (K:Kn) (n:Nat) (v1:List Int) (v2:Int) (v5:Fv) (L1:Int→Int→Option (List Int)) (v14 v15:Int):Option (List Int) :=
  L1 v14 v15
def rJ (K:Kn) (n:Nat) (v10:Int) (L2:Int→(List Int)→Option (List Int)) (v16:Int) (v17:List Int):Option (List Int) :=
  if (decide (v16<(w64 (v10 - 1))))=true then
    chk (inb (w64 (v16+1)) v17.length) (
    chk (inb v16 v17.length) (
    chk (inb v16 v17.length) (
    chk (inb (w64 (v16+1)) (List.set v17 (v16).toNat (List.getD v17 ((w64 (v16+1))).toNat default)).length) (
    L2 (w64 (v16+1)) (List.set (List.set v17 (v16).toNat (List.getD v17 ((w64 (v16+1))).toNat default)) ((w64 (v16+1))).toNat (List.getD v17 (v16).toNat default))))))
  else
    some v17
def nC (K:Kn) (n:Nat) (v10:Int):Nat→Int→(List Int)→Option (List Int)
  | 0=>fun _ _=>none
  | m+1=>rJ K n v10 (nC K n v10 m)
def rS (K:Kn) (n:Nat) (v1:List Int) (v2:Int) (v5:Fv) (L1:Int→Int→Option (List Int)) (v10 v11:Int):Option (List Int) :=
  if (decide (v10<v11))=true then
    (some (w64 ((IntKind.wrap .u64 (w64 (v10+v11))) / 2))).bind fun v12 =>
    chk (inb v12 v1.length) (
    chk (inb v2 v1.length) (
    (K.eF v5 (List.getD v1 (v12).toNat default) (List.getD v1 (v2).toNat default)).bind fun v13 =>
    if (decide (v13<0))=true then
      rx K n v1 v2 v5 L1 (w64 (v12+1)) v11
    else
      rx K n v1 v2 v5 L1 v10 v12))
  else
    nC K n v10 n v2 v1
def nI (K:Kn) (n:Nat) (v1:List Int) (v2:Int) (v5:Fv):Nat→Int→Int→Option (List Int)
  | 0=>fun _ _=>none
  | m+1=>rS K n v1 v2 v5 (nI K n v1 v2 v5 m)
def qI (K:Kn) (n:Nat) (v1:List Int) (v3:Int) (v5:Fv) (L3:Int→Int→Option (List Int)) (v26 v27:Int):Option (List Int) :=
  L3 v26 v27
def sg (K:Kn) (n:Nat) (v22:Int) (L4:Int→(List Int)→Option (List Int)) (v28:Int) (v29:List Int):Option (List Int) :=
  if (decide (v28>v22))=true then
    chk (inb (w64 (v28 - 1)) v29.length) (
    chk (inb v28 v29.length) (
    chk (inb v28 v29.length) (
    chk (inb (w64 (v28 - 1)) (List.set v29 (v28).toNat (List.getD v29 ((w64 (v28 - 1))).toNat default)).length) (
    L4 (w64 (v28 - 1)) (List.set (List.set v29 (v28).toNat (List.getD v29 ((w64 (v28 - 1))).toNat default)) ((w64 (v28 - 1))).toNat (List.getD v29 (v28).toNat default))))))
  else
    some v29
def nf (K:Kn) (n:Nat) (v22:Int):Nat→Int→(List Int)→Option (List Int)
  | 0=>fun _ _=>none
  | m+1=>sg K n v22 (nf K n v22 m)
def rO (K:Kn) (n:Nat) (v1:List Int) (v3:Int) (v5:Fv) (L3:Int→Int→Option (List Int)) (v22 v23:Int):Option (List Int) :=
  if (decide (v22<v23))=true then
    (some (w64 ((IntKind.wrap .u64 (w64 (v22+v23))) / 2))).bind fun v24 =>
    chk (inb v3 v1.length) (
    chk (inb v24 v1.length) (
    (K.eF v5 (List.getD v1 (v3).toNat default) (List.getD v1 (v24).toNat default)).bind fun v25 =>
    if (!(decide (v25<0)))=true then
      qI K n v1 v3 v5 L3 (w64 (v24+1)) v23
    else
      qI K n v1 v3 v5 L3 v22 v24))
  else
    nf K n v22 n v3 v1
def nT (K:Kn) (n:Nat) (v1:List Int) (v3:Int) (v5:Fv):Nat→Int→Int→Option (List Int)
  | 0=>fun _ _=>none
  | m+1=>rO K n v1 v3 v5 (nT K n v1 v3 v5 m)
def so (K:Kn) (n:Nat) (v1:List Int) (v2 v3 v4:Int) (v5:Fv) (v30 v31:Int) (L5:Int→Int→Option (List Int)) (v43 v44:Int):Option (List Int) :=
  L5 v43 v44
def rc (K:Kn) (n:Nat) (v53:List Int):Option (List Int) :=
  some v53
def py (K:Kn) (n:Nat) (v4:Int) (v5:Fv) (v30 v31 v39:Int) (v50:List Int) (v51:Bool):Option (List Int) :=
  if v51=true then
    (K.ik v50 v30 (w64 (v31 - v39)) v4 v5).bind fun v52 =>
    rc K n v52
  else
    rc K n v50
def jh (K:Kn) (n:Nat) (v4:Int) (v5:Fv) (v30 v31 v39:Int) (v50:List Int):Option (List Int) :=
  if (decide (v30<(w64 (v31 - v39))))=true then
    py K n v4 v5 v30 v31 v39 v50 (decide ((w64 (v31 - v39))<v4))
  else
    py K n v4 v5 v30 v31 v39 v50 false
def qd (K:Kn) (n:Nat) (v2 v4:Int) (v5:Fv) (v30 v31 v39:Int) (v47:List Int) (v48:Bool):Option (List Int) :=
  if v48=true then
    (K.ik v47 v2 v39 v30 v5).bind fun v49 =>
    jh K n v4 v5 v30 v31 v39 v49
  else
    jh K n v4 v5 v30 v31 v39 v47
def mo (K:Kn) (n:Nat) (v2 v4:Int) (v5:Fv) (v30 v31 v39:Int) (v47:List Int):Option (List Int) :=
  if (decide (v2<v39))=true then
    qd K n v2 v4 v5 v30 v31 v39 v47 (decide (v39<v30))
  else
    qd K n v2 v4 v5 v30 v31 v39 v47 false
def fN (K:Kn) (n:Nat) (v1:List Int) (v2 v3 v4:Int) (v5:Fv) (v30 v31 v39:Int) (v45:Bool):Option (List Int) :=
  if v45=true then
    (rI K n v1 v39 v3 (w64 (v31 - v39)) v5).bind fun v46 =>
    mo K n v2 v4 v5 v30 v31 v39 v46
  else
    mo K n v2 v4 v5 v30 v31 v39 v1
def rh (K:Kn) (n:Nat) (v1:List Int) (v2 v3 v4:Int) (v5:Fv) (v30 v31:Int) (L5:Int→Int→Option (List Int)) (v39 v40:Int):Option (List Int) :=
  if (decide (v39<v40))=true then
    (some (w64 ((IntKind.wrap .u64 (w64 (v39+v40))) / 2))).bind fun v41 =>
    chk (inb (w64 ((w64 (v31 - 1)) - v41)) v1.length) (
    chk (inb v41 v1.length) (
    (K.eF v5 (List.getD v1 ((w64 ((w64 (v31 - 1)) - v41))).toNat default) (List.getD v1 (v41).toNat default)).bind fun v42 =>
    if (!(decide (v42<0)))=true then
      so K n v1 v2 v3 v4 v5 v30 v31 L5 (w64 (v41+1)) v40
    else
      so K n v1 v2 v3 v4 v5 v30 v31 L5 v39 v41))
  else
    if (decide (v39<v3))=true then
      fN K n v1 v2 v3 v4 v5 v30 v31 v39 (decide (v3<(w64 (v31 - v39))))
    else
      fN K n v1 v2 v3 v4 v5 v30 v31 v39 false
def mC (K:Kn) (n:Nat) (v1:List Int) (v2 v3 v4:Int) (v5:Fv) (v30 v31:Int):Nat→Int→Int→Option (List Int)
  | 0=>fun _ _=>none
  | m+1=>rh K n v1 v2 v3 v4 v5 v30 v31 (mC K n v1 v2 v3 v4 v5 v30 v31 m)
def oA (K:Kn) (n:Nat) (v1:List Int) (v2 v3 v4:Int) (v5:Fv) (v30 v31 v33 v34:Int):Option (List Int) :=
  mC K n v1 v2 v3 v4 v5 v30 v31 n v33 v34
def gg (K:Kn) (n:Nat) (v1:List Int) (v2 v3 v4:Int) (v5:Fv):Option (List Int) :=
  if ((w64 (v3 - v2)) == 1)=true then
    nI K n v1 v2 v5 n v3 v4
  else
    if ((w64 (v4 - v3)) == 1)=true then
      nT K n v1 v3 v5 n v2 v3
    else
      (some (w64 ((IntKind.wrap .u64 (w64 (v2+v4))) / 2))).bind fun v30 =>
      (some (w64 ((w64 ((IntKind.wrap .u64 (w64 (v2+v4))) / 2))+v3))).bind fun v31 =>
      (some (decide (v3>(w64 ((IntKind.wrap .u64 (w64 (v2+v4))) / 2))))).bind fun v32 =>
      if v32=true then
        oA K n v1 v2 v3 v4 v5 v30 v31 (w64 (v31 - v4)) v30
      else
        oA K n v1 v2 v3 v4 v5 v30 v31 v2 v3
def rK (K:Kn) (n:Nat) (v2:Int) (v3:Fv) (v17:Int) (L2:Int→(List Int)→Option (List Int)) (v25:List Int):Option (List Int) :=
  L2 (w64 (v17*2)) v25
def rC (K:Kn) (n:Nat) (v2:Int) (v3:Fv) (v17:Int) (L2:Int→(List Int)→Option (List Int)) (L3:Int→Int→(List Int)→Option (List Int)) (v20 v21:Int) (v22:List Int):Option (List Int) :=
  if (decide (v21≤v2))=true then
    (gg K n v22 v20 (w64 (v20+v17)) v21 v3).bind fun v23 =>
    L3 v21 (w64 (v21+(w64 (2*v17)))) v23
  else
    if (decide ((w64 (v20+v17))<v2))=true then
      (gg K n v22 v20 (w64 (v20+v17)) v2 v3).bind fun v24 =>
      rK K n v2 v3 v17 L2 v24
    else
      rK K n v2 v3 v17 L2 v22
def qm (K:Kn) (n:Nat) (v2:Int) (v3:Fv) (v17:Int) (L2:Int→(List Int)→Option (List Int)):Nat→Int→Int→(List Int)→Option (List Int)
  | 0=>fun _ _ _=>none
  | m+1=>rC K n v2 v3 v17 L2 (qm K n v2 v3 v17 L2 m)
def sS (K:Kn) (n:Nat) (v2:Int) (v3:Fv) (L2:Int→(List Int)→Option (List Int)) (v17:Int) (v18:List Int):Option (List Int) :=
  if (decide (v17<v2))=true then
    qm K n v2 v3 v17 L2 n 0 (w64 (2*v17)) v18
  else
    some v18
def kY (K:Kn) (n:Nat) (v2:Int) (v3:Fv):Nat→Int→(List Int)→Option (List Int)
  | 0=>fun _ _=>none
  | m+1=>sS K n v2 v3 (kY K n v2 v3 m)
def rP (K:Kn) (n:Nat) (v2:Int) (v3:Fv) (L1:Int→Int→(List Int)→Option (List Int)) (v5 v6:Int) (v7:List Int):Option (List Int) :=
  if (decide (v6≤v2))=true then
    (oY K n v7 v5 v6 v3).bind fun v8 =>
    L1 v6 (w64 (v6+20)) v8
  else
    (oY K n v7 v5 v2 v3).bind fun v9 =>
    kY K n v2 v3 n 20 v9
def pS (K:Kn) (n:Nat) (v2:Int) (v3:Fv):Nat→Int→Int→(List Int)→Option (List Int)
  | 0=>fun _ _ _=>none
  | m+1=>rP K n v2 v3 (pS K n v2 v3 m)
def tn (K:Kn) (n:Nat) (v1:List Int) (v2:Int) (v3:Fv):Option (List Int) :=
  pS K n v2 v3 n 0 20 v1
def iK (K:Kn) (n:Nat) (v1:List Int) (v2:Fv):Option (List Int) :=
  (tn K n v1 (v1.length:Int) v2).bind fun v3 =>
  some v3
def pW (K:Kn) (n:Nat) (v1:Int):Option Bool :=
  some (v1 != v1)
def oV (K:Kn) (n:Nat) (v1 v2:Int):Option Int :=
  (pW K n v1).bind fun v3 =>
  (pW K n v2).bind fun v4 =>
  if v3=true then
    if v4=true then
      some 0
    else
      some (-1)
  else
    if v4=true then
      some 1
    else
      if (decide (v1<v2))=true then
        some (-1)
      else
        if (decide (v1>v2))=true then
          some 1
        else
          some 0
def qr (K:Kn) (n:Nat) (v1 v2:Int) (v3:List Int):Option Int :=
  chk (inb v2 v3.length) (
  chk (inb v1 v3.length) (
  (oV K n (List.getD v3 (v2).toNat default) (List.getD v3 (v1).toNat default)).bind fun v4 =>
  some v4))
def sT (K:Kn) (n:Nat) (L3:(List Int)→Int→Int→(List Int)→Option (List Int)) (v26:List Int) (v27 v28:Int) (v29:List Int):Option (List Int) :=
  if (decide (v28<v27))=true then
    chk (inb v28 v26.length) (
    chk (inb (List.getD v26 (v28).toNat default) v29.length) (
    chk (inb (List.getD v26 (v28).toNat default) v29.length) (
    L3 v26 v27 (w64 (v28+1)) (List.set v29 ((List.getD v26 (v28).toNat default)).toNat (w64 ((List.getD v29 ((List.getD v26 (v28).toNat default)).toNat default)+1))))))
  else
    some v29
def mP (K:Kn) (n:Nat):Nat→(List Int)→Int→Int→(List Int)→Option (List Int)
  | 0=>fun _ _ _ _=>none
  | m+1=>sT K n (mP K n m)
def qV (K:Kn) (n:Nat) (v2:List Int) (v3 v8:Int) (L2:Int→Int→(List Int)→(List Int)→(List Int)→Option (List Int)) (v14 v15:Int) (v16 v17 v18:List Int):Option (List Int) :=
  if (decide (v15<(v2.length:Int)))=true then
    chk (inb v15 v2.length) (
    (fu K n (List.getD v2 (v15).toNat default) 2147483647).bind fun v19 =>
    chk ((v8 != 0)) (
    chk ((v8 != 0)) (
    chk (inb v15 v16.length) (
    chk (inb v15 v17.length) (
    chk (inb v15 v18.length) (
    (some (List.set v16 (v15).toNat (w64 (Int.tdiv (w64 (v3*v19)) v8)))).bind fun v20 =>
    (some (List.set v17 (v15).toNat (Int.tmod (w64 (v3*v19)) v8))).bind fun v21 =>
    chk (inb v15 v20.length) (
    L2 (w64 (v14 - (List.getD v20 (v15).toNat default))) (w64 (v15+1)) v20 v21 (List.set v18 (v15).toNat v15))))))))
  else
    (iK K n v18 (Fv.c36 v17)).bind fun v22 =>
    chk (slb (0:Int) v14 v22.length) (
    mP K n n (List.drop ((0:Int)).toNat (List.take (v14).toNat v22)) ((List.drop ((0:Int)).toNat (List.take (v14).toNat v22)).length:Int) 0 v16)
def mg (K:Kn) (n:Nat) (v2:List Int) (v3 v8:Int):Nat→Int→Int→(List Int)→(List Int)→(List Int)→Option (List Int)
  | 0=>fun _ _ _ _ _=>none
  | m+1=>qV K n v2 v3 v8 (mg K n v2 v3 v8 m)
def qC (K:Kn) (n:Nat) (v2:List Int) (v3:Int) (v4 v5 v6:List Int) (L1:Int→Int→Option (List Int)) (v8 v9:Int):Option (List Int) :=
  if (decide (v9<(v2.length:Int)))=true then
    chk (inb v9 v2.length) (
    (fu K n (List.getD v2 (v9).toNat default) 2147483647).bind fun v10 =>
    L1 (w64 (v8+v10)) (w64 (v9+1)))
  else
    if (v8 == 0)=true then
      some v4
    else
      mg K n v2 v3 v8 n v3 0 v4 v5 v6
def pX (K:Kn) (n:Nat) (v2:List Int) (v3:Int) (v4 v5 v6:List Int):Nat→Int→Int→Option (List Int)
  | 0=>fun _ _=>none
  | m+1=>qC K n v2 v3 v4 v5 v6 (pX K n v2 v3 v4 v5 v6 m)
def pe (K:Kn) (n:Nat) (v1:Int) (v2:List Int):Option (List Int) :=
  (fu K n v1 2147483647).bind fun v3 =>
  chk (mkb (v2.length:Int) 8) (
  (some (List.replicate ((v2.length:Int)).toNat (0:Int))).bind fun v4 =>
  chk (mkb (v2.length:Int) 8) (
  (some (List.replicate ((v2.length:Int)).toNat (0:Int))).bind fun v5 =>
  chk (mkb (v2.length:Int) 8) (
  (some (List.replicate ((v2.length:Int)).toNat (0:Int))).bind fun v6 =>
  pX K n v2 v3 v4 v5 v6 n 0 0)))
def qE (K:Kn) (n:Nat) (v1:aw):Option aw :=
  (fu K n v1.Base 1048576).bind fun v2 =>
  (fu K n v1.Grow 1048576).bind fun v3 =>
  (fu K n v1.Shrink 1048576).bind fun v4 =>
  (fu K n v1.Min 1048576).bind fun v5 =>
  (fu K n v1.Max 1048576).bind fun v6 =>
  some (⟨v2,v3,v4,v5,(max v6 v5)⟩:aw)
def nh (K:Kn) (n:Nat) (v1:aw) (v2:Int):Option Int :=
  some (min (max v2 v1.Min) v1.Max)
def pC (K:Kn) (n:Nat) (v1:aw):Option Int :=
  (qE K n v1).bind fun v2 =>
  (nh K n v2 v2.Base).bind fun v3 =>
  some v3
def qY (K:Kn) (n:Nat) (v1:List aI) (v3 v18:Int) (L1:Int→Int→Int→(List Int)→(List Int)→Option (Bool×(List aI))) (v23 v24:Int) (v25 v26:List Int):Option (Bool×(List aI)) :=
  L1 v23 v24 (w64 (v18+1)) v25 v26
def sI (K:Kn) (n:Nat) (v19:List Int) (v31:Int) (v33:List Int) (v39:Int) (L3:Int→(List aI)→Option (Bool×(List aI))) (v43:List aI):Option (Bool×(List aI)) :=
  L3 (w64 (v39+1)) v43
def js (K:Kn) (n:Nat) (v19:List Int) (v31:Int) (v33:List Int) (v39:Int) (v40:List aI) (v41:Int) (L3:Int→(List aI)→Option (Bool×(List aI))) (v42:Bool):Option (Bool×(List aI)) :=
  if v42=true then
    chk (decide (((List.getD v19 (v39).toNat default)).toNat<v40.length)) (
    sI K n v19 v31 v33 v39 L3 (List.set (List.set v40 ((List.getD v19 (v39).toNat default)).toNat ({ (List.getD v40 ((List.getD v19 (v39).toNat default)).toNat default) with size:=v41 }:aI)) ((List.getD v19 (v39).toNat default)).toNat ({ (List.getD (List.set v40 ((List.getD v19 (v39).toNat default)).toNat ({ (List.getD v40 ((List.getD v19 (v39).toNat default)).toNat default) with size:=v41 }:aI)) ((List.getD v19 (v39).toNat default)).toNat default) with fixed:=true }:aI)))
  else
    sI K n v19 v31 v33 v39 L3 v40
def qO (K:Kn) (n:Nat) (v19:List Int) (v31:Int) (v33:List Int) (L3:Int→(List aI)→Option (Bool×(List aI))) (v39:Int) (v40:List aI):Option (Bool×(List aI)) :=
  if (decide (v39<(v19.length:Int)))=true then
    chk (inb v39 v19.length) (
    chk (inb (List.getD v19 (v39).toNat default) v40.length) (
    chk (inb v39 v33.length) (
    (nh K n ((List.getD v40 ((List.getD v19 (v39).toNat default)).toNat default).Item) (List.getD v33 (v39).toNat default)).bind fun v41 =>
    if (v31 == 0)=true then
      js K n v19 v31 v33 v39 v40 v41 L3 true
    else
      if (decide (v31>0))=true then
        chk (inb v39 v33.length) (
        if (decide (v41>(List.getD v33 (v39).toNat default)))=true then
          js K n v19 v31 v33 v39 v40 v41 L3 true
        else
          if (decide (v31<0))=true then
            chk (inb v39 v33.length) (
            js K n v19 v31 v33 v39 v40 v41 L3 (decide (v41<(List.getD v33 (v39).toNat default))))
          else
            js K n v19 v31 v33 v39 v40 v41 L3 false)
      else
        if (decide (v31<0))=true then
          chk (inb v39 v33.length) (
          js K n v19 v31 v33 v39 v40 v41 L3 (decide (v41<(List.getD v33 (v39).toNat default))))
        else
          js K n v19 v31 v33 v39 v40 v41 L3 false)))
  else
    some (true,v40)
def mU (K:Kn) (n:Nat) (v19:List Int) (v31:Int) (v33:List Int):Nat→Int→(List aI)→Option (Bool×(List aI))
  | 0=>fun _ _=>none
  | m+1=>qO K n v19 v31 v33 (mU K n v19 v31 v33 m)
def sH (K:Kn) (n:Nat) (v1:List aI) (v3:Int) (v19:List Int) (L2:Int→Int→(List Int)→Option (Bool×(List aI))) (v31 v32:Int) (v33:List Int):Option (Bool×(List aI)) :=
  if (decide (v32<(v19.length:Int)))=true then
    chk (inb v32 v19.length) (
    chk (inb (List.getD v19 (v32).toNat default) v1.length) (
    chk (inb v32 v33.length) (
    chk (inb v32 v33.length) (
    (some (List.set v33 (v32).toNat (w64 ((((List.getD v1 ((List.getD v19 (v32).toNat default)).toNat default).Item).Base)+(w64 (v3*(List.getD v33 (v32).toNat default))))))).bind fun v34 =>
    chk (inb (List.getD v19 (v32).toNat default) v1.length) (
    chk (inb v32 v34.length) (
    (nh K n ((List.getD v1 ((List.getD v19 (v32).toNat default)).toNat default).Item) (List.getD v34 (v32).toNat default)).bind fun v35 =>
    chk (inb v32 v34.length) (
    L2 (w64 (v31+(w64 (v35 - (List.getD v34 (v32).toNat default))))) (w64 (v32+1)) v34)))))))
  else
    mU K n v19 v31 v33 n 0 v1
def o8 (K:Kn) (n:Nat) (v1:List aI) (v3:Int) (v19:List Int):Nat→Int→Int→(List Int)→Option (Bool×(List aI))
  | 0=>fun _ _ _=>none
  | m+1=>sH K n v1 v3 v19 (o8 K n v1 v3 v19 m)
def qe (K:Kn) (n:Nat) (v1:List aI) (v3:Int) (v19 v20:List Int) (v27:Int):Option (Bool×(List aI)) :=
  (pe K n v27 v20).bind fun v28 =>
  o8 K n v1 v3 v19 n 0 0 v28
def qT (K:Kn) (n:Nat) (v1:List aI) (v3:Int) (L1:Int→Int→Int→(List Int)→(List Int)→Option (Bool×(List aI))) (v16 v17 v18:Int) (v19 v20:List Int):Option (Bool×(List aI)) :=
  if (decide (v18<(v1.length:Int)))=true then
    chk (inb v18 v1.length) (
    if (List.getD v1 (v18).toNat default).fixed=true then
      qY K n v1 v3 v18 L1 (w64 (v16 - ((List.getD v1 (v18).toNat default).size))) v17 v19 v20
    else
      (some (w64 (v16 - (((List.getD v1 (v18).toNat default).Item).Base)))).bind fun v21 =>
      (some (w64 (v17+((List.getD v1 (v18).toNat default).factor)))).bind fun v22 =>
      chk (fits (v19.length+([v18]:(List Int)).length) 8) (
      chk (fits (v20.length+([(List.getD v1 (v18).toNat default).weight]:(List Int)).length) 8) (
      qY K n v1 v3 v18 L1 v21 v22 (v19++[v18]) (v20++[(List.getD v1 (v18).toNat default).weight]))))
  else
    if ((v19.length:Int) == 0)=true then
      some (false,v1)
    else
      if (decide (v17<1000))=true then
        qe K n v1 v3 v19 v20 (w64 ((w64 ((w64 (Int.tdiv (max (w64 (v16*v3)) 0) 1000))*v17))+(w64 (Int.tdiv (w64 ((Int.tmod (max (w64 (v16*v3)) 0) 1000)*v17)) 1000))))
      else
        qe K n v1 v3 v19 v20 (max (w64 (v16*v3)) 0)
def pt (K:Kn) (n:Nat) (v1:List aI) (v3:Int):Nat→Int→Int→Int→(List Int)→(List Int)→Option (Bool×(List aI))
  | 0=>fun _ _ _ _ _=>none
  | m+1=>qT K n v1 v3 (pt K n v1 v3 m)
def pV (K:Kn) (n:Nat) (v1:List aI) (v2 v3:Int):Option (Bool×(List aI)) :=
  pt K n v1 v3 n v2 0 0 [] []
def rN (K:Kn) (n:Nat) (v3:Int) (v10:List aI) (v14 v19:Int) (L2:Int→(List aI)→Option (List Int)) (v24:List aI):Option (List Int) :=
  L2 (w64 (v19+1)) v24
def rA (K:Kn) (n:Nat) (v3:Int) (v10:List aI) (v14 v19:Int) (L2:Int→(List aI)→Option (List Int)) (v23:List aI):Option (List Int) :=
  chk (decide ((v19).toNat<v23.length)) (
  if (List.getD v23 (v19).toNat default).fixed=true then
    rN K n v3 v10 v14 v19 L2 (List.set v23 (v19).toNat ({ (List.getD v23 (v19).toNat default) with fixed:=true }:aI))
  else
    rN K n v3 v10 v14 v19 L2 (List.set v23 (v19).toNat ({ (List.getD v23 (v19).toNat default) with fixed:=(((List.getD v23 (v19).toNat default).factor) == 0) }:aI)))
def sj (K:Kn) (n:Nat) (v27:Bool×(List aI)) (L4:Int→(List Int)→Option (List Int)) (v29:Int) (v30:List Int):Option (List Int) :=
  if (decide (v29<(v27.2.length:Int)))=true then
    chk (inb v29 v27.2.length) (
    chk (inb v29 v30.length) (
    L4 (w64 (v29+1)) (List.set v30 (v29).toNat ((List.getD v27.2 (v29).toNat default).size))))
  else
    some v30
def n7 (K:Kn) (n:Nat) (v27:Bool×(List aI)):Nat→Int→(List Int)→Option (List Int)
  | 0=>fun _ _=>none
  | m+1=>sj K n v27 (n7 K n v27 m)
def rf (K:Kn) (n:Nat) (v3 v14:Int) (L3:(List aI)→Option (List Int)) (v26:List aI):Option (List Int) :=
  (pV K n v26 v3 v14).bind fun v27 =>
  if v27.1=true then
    L3 v27.2
  else
    chk (mkb (v27.2.length:Int) 8) (
    (some (List.replicate ((v27.2.length:Int)).toNat (0:Int))).bind fun v28 =>
    n7 K n v27 n 0 v28)
def mV (K:Kn) (n:Nat) (v3 v14:Int):Nat→(List aI)→Option (List Int)
  | 0=>fun _=>none
  | m+1=>rf K n v3 v14 (mV K n v3 v14 m)
def rG (K:Kn) (n:Nat) (v3:Int) (v10:List aI) (v14:Int) (L2:Int→(List aI)→Option (List Int)) (v19:Int) (v20:List aI):Option (List Int) :=
  if (decide (v19<(v10.length:Int)))=true then
    chk (inb v19 v20.length) (
    if (decide (v14>0))=true then
      (some (List.set (List.set v20 (v19).toNat ({ (List.getD v20 (v19).toNat default) with factor:=((List.getD v20 (v19).toNat default).Item).Grow }:aI)) (v19).toNat ({ (List.getD (List.set v20 (v19).toNat ({ (List.getD v20 (v19).toNat default) with factor:=((List.getD v20 (v19).toNat default).Item).Grow }:aI)) (v19).toNat default) with weight:=((List.getD v20 (v19).toNat default).Item).Grow }:aI))).bind fun v21 =>
      rA K n v3 v10 v14 v19 L2 (List.set v21 (v19).toNat ({ (List.getD v21 (v19).toNat default) with fixed:=(decide ((((List.getD v21 (v19).toNat default).Item).Base)>((List.getD v21 (v19).toNat default).size))) }:aI))
    else
      (some (List.set (List.set v20 (v19).toNat ({ (List.getD v20 (v19).toNat default) with factor:=((List.getD v20 (v19).toNat default).Item).Shrink }:aI)) (v19).toNat ({ (List.getD (List.set v20 (v19).toNat ({ (List.getD v20 (v19).toNat default) with factor:=((List.getD v20 (v19).toNat default).Item).Shrink }:aI)) (v19).toNat default) with weight:=(w64 (Int.tdiv (w64 ((((List.getD v20 (v19).toNat default).Item).Base)*(((List.getD v20 (v19).toNat default).Item).Shrink))) 1000)) }:aI))).bind fun v22 =>
      rA K n v3 v10 v14 v19 L2 (List.set v22 (v19).toNat ({ (List.getD v22 (v19).toNat default) with fixed:=(decide ((((List.getD v22 (v19).toNat default).Item).Base)<((List.getD v22 (v19).toNat default).size))) }:aI)))
  else
    mV K n v3 v14 n v20
def nZ (K:Kn) (n:Nat) (v3:Int) (v10:List aI) (v14:Int):Nat→Int→(List aI)→Option (List Int)
  | 0=>fun _ _=>none
  | m+1=>rG K n v3 v10 v14 (nZ K n v3 v10 v14 m)
def qb (K:Kn) (n:Nat) (v3:Int) (v10:List aI) (v14:Int):Option (List Int) :=
  nZ K n v3 v10 v14 n 0 v10
def rp (K:Kn) (n:Nat) (v1:List aw) (v3:Int) (L1:Int→Int→(List aI)→Option (List Int)) (v8 v9:Int) (v10:List aI):Option (List Int) :=
  if (decide (v9<(v1.length:Int)))=true then
    chk (inb v9 v1.length) (
    (qE K n (List.getD v1 (v9).toNat default)).bind fun v11 =>
    (pC K n (List.getD v1 (v9).toNat default)).bind fun v12 =>
    chk (inb v9 v10.length) (
    (some (List.set v10 (v9).toNat ({ eh with Item:=v11,size:=v12 }:aI))).bind fun v13 =>
    chk (inb v9 v13.length) (
    L1 (w64 (v8+((List.getD v13 (v9).toNat default).size))) (w64 (v9+1)) v13)))
  else
    if (decide (v8<v3))=true then
      qb K n v3 v10 1
    else
      qb K n v3 v10 (-1)
def oI (K:Kn) (n:Nat) (v1:List aw) (v3:Int):Nat→Int→Int→(List aI)→Option (List Int)
  | 0=>fun _ _ _=>none
  | m+1=>rp K n v1 v3 (oI K n v1 v3 m)
def g9 (K:Kn) (n:Nat) (v1:List aw) (v2:Int):Option (List Int) :=
  (some (min (max v2 (-1125899906842624)) 1125899906842624)).bind fun v3 =>
  chk (mkb (v1.length:Int) 72) (
  (some (List.replicate ((v1.length:Int)).toNat (eh:aI))).bind fun v4 =>
  oI K n v1 v3 n 0 0 v4)
def tv (K:Kn) (n:Nat) (v5:Bool):Option Bool :=
  some v5
def sV (K:Kn) (n:Nat):Option Bool :=
  (pe K n 10 [1,2,4]).bind fun v1 =>
  (g9 K n [(⟨50,1000,0,0,60⟩:aw),(⟨50,3000,0,0,900⟩:aw)] 200).bind fun v2 =>
  (tq K n v1 [1,3,6]).bind fun v3 =>
  if v3=true then
    (tq K n v2 [60,140]).bind fun v4 =>
    tv K n v4
  else
    tv K n false
def qA (K:Kn) (n:Nat) (v2:Bool):Option Bool :=
  some v2
def dm (K:Kn) (n:Nat) (v1:aQ):Option Bool :=
  if (decide (v1.Value≥(-16777216)))=true then
    qA K n (decide (v1.Value≤16777216))
  else
    qA K n false
def n4 (K:Kn) (n:Nat) (v1:List bU) (v2 v23:Int) (L1:Int→Option Bool) (v43:Bool):Option Bool :=
  if v43=true then
    some false
  else
    L1 (w64 (v23+1))
def qq (K:Kn) (n:Nat) (v1:List bU) (v2 v23:Int) (L1:Int→Option Bool) (v40:Bool):Option Bool :=
  if v40=true then
    some false
  else
    (dm K n ((((List.getD v1 (v23).toNat default).Style).Margin).a3)).bind fun v41 =>
    if (!v41)=true then
      n4 K n v1 v2 v23 L1 true
    else
      (dm K n ((((List.getD v1 (v23).toNat default).Style).Padding).a3)).bind fun v42 =>
      n4 K n v1 v2 v23 L1 (!v42)
def rq (K:Kn) (n:Nat) (v1:List bU) (v2 v23:Int) (L1:Int→Option Bool) (v37:Bool):Option Bool :=
  if v37=true then
    some false
  else
    (dm K n ((((List.getD v1 (v23).toNat default).Style).Margin).a2)).bind fun v38 =>
    if (!v38)=true then
      qq K n v1 v2 v23 L1 true
    else
      (dm K n ((((List.getD v1 (v23).toNat default).Style).Padding).a2)).bind fun v39 =>
      qq K n v1 v2 v23 L1 (!v39)
def si (K:Kn) (n:Nat) (v1:List bU) (v2 v23:Int) (L1:Int→Option Bool) (v34:Bool):Option Bool :=
  if v34=true then
    some false
  else
    (dm K n ((((List.getD v1 (v23).toNat default).Style).Margin).a1)).bind fun v35 =>
    if (!v35)=true then
      rq K n v1 v2 v23 L1 true
    else
      (dm K n ((((List.getD v1 (v23).toNat default).Style).Padding).a1)).bind fun v36 =>
      rq K n v1 v2 v23 L1 (!v36)
def c8 (K:Kn) (n:Nat) (v1:List bU) (v2 v23:Int) (L1:Int→Option Bool) (v31:Bool):Option Bool :=
  if v31=true then
    some false
  else
    (dm K n ((((List.getD v1 (v23).toNat default).Style).Margin).a0)).bind fun v32 =>
    if (!v32)=true then
      si K n v1 v2 v23 L1 true
    else
      (dm K n ((((List.getD v1 (v23).toNat default).Style).Padding).a0)).bind fun v33 =>
      si K n v1 v2 v23 L1 (!v33)
def jd (K:Kn) (n:Nat) (v1:List bU) (v2:Int) (L1:Int→Option Bool) (v23:Int):Option Bool :=
  if (decide (v23<(v1.length:Int)))=true then
    chk (inb v23 v1.length) (
    chk (inb v23 v1.length) (
    if (decide ((((List.getD v1 (v23).toNat default).Text).size:Int)>60))=true then
      c8 K n v1 v2 v23 L1 true
    else
      (dm K n (((List.getD v1 (v23).toNat default).Style).Left)).bind fun v24 =>
      if (!v24)=true then
        c8 K n v1 v2 v23 L1 true
      else
        (dm K n (((List.getD v1 (v23).toNat default).Style).Top)).bind fun v25 =>
        if (!v25)=true then
          c8 K n v1 v2 v23 L1 true
        else
          (dm K n (((List.getD v1 (v23).toNat default).Style).Width)).bind fun v26 =>
          if (!v26)=true then
            c8 K n v1 v2 v23 L1 true
          else
            (dm K n (((List.getD v1 (v23).toNat default).Style).Height)).bind fun v27 =>
            if (!v27)=true then
              c8 K n v1 v2 v23 L1 true
            else
              (dm K n (((List.getD v1 (v23).toNat default).Style).MinWidth)).bind fun v28 =>
              if (!v28)=true then
                c8 K n v1 v2 v23 L1 true
              else
                (dm K n (((List.getD v1 (v23).toNat default).Style).MaxWidth)).bind fun v29 =>
                if (!v29)=true then
                  c8 K n v1 v2 v23 L1 true
                else
                  (dm K n (((List.getD v1 (v23).toNat default).Style).Basis)).bind fun v30 =>
                  if (!v30)=true then
                    c8 K n v1 v2 v23 L1 true
                  else
                    if (decide ((((List.getD v1 (v23).toNat default).Style).LineHeight)<0))=true then
                      c8 K n v1 v2 v23 L1 true
                    else
                      if (decide ((((List.getD v1 (v23).toNat default).Style).LineHeight)>65536))=true then
                        c8 K n v1 v2 v23 L1 true
                      else
                        if (decide ((((List.getD v1 (v23).toNat default).Style).FontSize)<0))=true then
                          c8 K n v1 v2 v23 L1 true
                        else
                          if (decide ((((List.getD v1 (v23).toNat default).Style).FontSize)>65536))=true then
                            c8 K n v1 v2 v23 L1 true
                          else
                            if (decide ((((List.getD v1 (v23).toNat default).Style).Grow)<0))=true then
                              c8 K n v1 v2 v23 L1 true
                            else
                              if (decide ((((List.getD v1 (v23).toNat default).Style).Grow)>1048576))=true then
                                c8 K n v1 v2 v23 L1 true
                              else
                                if (decide ((((List.getD v1 (v23).toNat default).Style).Shrink)<0))=true then
                                  c8 K n v1 v2 v23 L1 true
                                else
                                  c8 K n v1 v2 v23 L1 (decide ((((List.getD v1 (v23).toNat default).Style).Shrink)>1048576))))
  else
    some (decide ((v1.length:Int)≤v2))
def nc (K:Kn) (n:Nat) (v1:List bU) (v2:Int):Nat→Int→Option Bool
  | 0=>fun _=>none
  | m+1=>jd K n v1 v2 (nc K n v1 v2 m)
def tB (K:Kn) (n:Nat) (v1:List bU) (v2:Int):Option Bool :=
  nc K n v1 v2 n 0
def mM (K:Kn) (n:Nat) (v3:Bool):Option Bool :=
  some v3
def sG (K:Kn) (n:Nat) (v1:List bU):Option Bool :=
  (tB K n v1 16).bind fun v2 =>
  if v2=true then
    if (decide ((v1.length:Int)>1))=true then
      chk (inb (1:Int) v1.length) (
      chk (inb (0:Int) v1.length) (
      if (decide (((List.getD v1 (1:Int).toNat default).Depth)>((List.getD v1 (0:Int).toNat default).Depth)))=true then
        chk (inb (1:Int) v1.length) (
        mM K n ((Int.tmod ((List.getD v1 (1:Int).toNat default).Kind) 2) == 0))
      else
        mM K n false))
    else
      mM K n false
  else
    mM K n false
def gT (K:Kn) (n:Nat) (v1:List bU) (v2:Int) (v3:Bool) (v8:Int) (v9:List ab) (L1:Int→(List ab)→Option (ab×Int)) (v10:Bool):Option (ab×Int) :=
  if v10=true then
    if v3=true then
      (K.ox v1 v8).bind fun v11 =>
      chk (fits (v9.length+([v11.1]:(List ab)).length) 520) (
      L1 v11.2 (v9++[v11.1]))
    else
      chk (inb v8 v1.length) (
      chk (inb v8 v1.length) (
      chk (fits (v9.length+([({ co with Kind:=3,Style:=(List.getD v1 (v8).toNat default).Style,Text:=(List.getD v1 (v8).toNat default).Text }:ab)]:(List ab)).length) 520) (
      L1 (w64 (v8+1)) (v9++[({ co with Kind:=3,Style:=(List.getD v1 (v8).toNat default).Style,Text:=(List.getD v1 (v8).toNat default).Text }:ab)]))))
  else
    some ((⟨1,(w64 (10+v2)),(List.getD v1 (v2).toNat default).Style,⟨#[]⟩,0,0,v9⟩:ab),v8)
def qn (K:Kn) (n:Nat) (v1:List bU) (v2:Int) (v3:Bool) (L1:Int→(List ab)→Option (ab×Int)) (v8:Int) (v9:List ab):Option (ab×Int) :=
  if (decide (v8<(v1.length:Int)))=true then
    chk (inb v8 v1.length) (
    gT K n v1 v2 v3 v8 v9 L1 (decide (((List.getD v1 (v8).toNat default).Depth)>((List.getD v1 (v2).toNat default).Depth))))
  else
    gT K n v1 v2 v3 v8 v9 L1 false
def fT (K:Kn) (n:Nat) (v1:List bU) (v2:Int) (v3:Bool):Nat→Int→(List ab)→Option (ab×Int)
  | 0=>fun _ _=>none
  | m+1=>qn K n v1 v2 v3 (fT K n v1 v2 v3 m)
def mw (K:Kn) (n:Nat) (v1:List bU) (v2:Int) (v3:Bool):Option (ab×Int) :=
  fT K n v1 v2 v3 n (w64 (v2+1)) []
def mZ (K:Kn) (n:Nat) (v1:List bU) (v2:Int):Option (ab×Int) :=
  chk (inb v2 v1.length) (
  chk (inb v2 v1.length) (
  if (decide ((w64 (v2+1))<(v1.length:Int)))=true then
    chk (inb (w64 (v2+1)) v1.length) (
    if (decide (((List.getD v1 ((w64 (v2+1))).toNat default).Depth)>((List.getD v1 (v2).toNat default).Depth)))=true then
      chk (inb (w64 (v2+1)) v1.length) (
      mw K n v1 v2 ((Int.tmod ((List.getD v1 ((w64 (v2+1))).toNat default).Kind) 2) == 0))
    else
      mw K n v1 v2 false)
  else
    mw K n v1 v2 false))
def nJ (K:Kn) (n:Nat) (v1:List bU):Option ab :=
  (mZ K n v1 0).bind fun v2 =>
  some ({ v2.1 with Kind:=6 }:ab)
def ff (K:Kn) (n:Nat):Option bw :=
  some (⟨(Fv.fn 54),(Fv.fn 55),(Fv.fn 56),(Fv.fn 57)⟩:bw)
def qL (K:Kn) (n:Nat) (v1 v2:aa) (L1:Int→Option Bool) (v6:Int):Option Bool :=
  if (decide (v6<(v1.Kids.length:Int)))=true then
    chk (inb v6 v1.Kids.length) (
    chk (inb v6 v2.Kids.length) (
    (K.sX (List.getD v1.Kids (v6).toNat default) (List.getD v2.Kids (v6).toNat default)).bind fun v7 =>
    if (!v7)=true then
      some false
    else
      L1 (w64 (v6+1))))
  else
    some true
def oK (K:Kn) (n:Nat) (v1 v2:aa):Nat→Int→Option Bool
  | 0=>fun _=>none
  | m+1=>qL K n v1 v2 (oK K n v1 v2 m)
def dZ (K:Kn) (n:Nat) (v1 v2:aa) (v3:Bool):Option Bool :=
  if v3=true then
    some false
  else
    oK K n v1 v2 n 0
def nD (K:Kn) (n:Nat) (v1 v2:aa):Option Bool :=
  if (v1.Kind != v2.Kind)=true then
    dZ K n v1 v2 true
  else
    if (v1.Node != v2.Node)=true then
      dZ K n v1 v2 true
    else
      if (v1.X != v2.X)=true then
        dZ K n v1 v2 true
      else
        if (v1.Y != v2.Y)=true then
          dZ K n v1 v2 true
        else
          if (v1.W != v2.W)=true then
            dZ K n v1 v2 true
          else
            if (v1.H != v2.H)=true then
              dZ K n v1 v2 true
            else
              if (v1.Base != v2.Base)=true then
                dZ K n v1 v2 true
              else
                if (!(v1.Text.toList == v2.Text.toList))=true then
                  dZ K n v1 v2 true
                else
                  if (!(uZ v1.Style v2.Style))=true then
                    dZ K n v1 v2 true
                  else
                    if (!(tz v1.Before v2.Before))=true then
                      dZ K n v1 v2 true
                    else
                      if (!(tz v1.After v2.After))=true then
                        dZ K n v1 v2 true
                      else
                        if (!(v1.Empty == v2.Empty))=true then
                          dZ K n v1 v2 true
                        else
                          dZ K n v1 v2 ((v1.Kids.length:Int) != (v2.Kids.length:Int))
def dw (K:Kn) (n:Nat) (v1:Int):Option Int :=
  some (min (max v1 0) 1048576)
def iR (K:Kn) (n:Nat) (v4:Int):Option (Int×Bool) :=
  some ((min (max v4 (-1048576)) 1048576),true)
def cA (K:Kn) (n:Nat) (v1:aQ) (v2:Int):Option (Int×Bool) :=
  if (v1.Kind == 1)=true then
    iR K n v1.Value
  else
    if (v1.Kind == 2)=true then
      (dw K n v2).bind fun v3 =>
      iR K n (w64 (Int.tdiv (w64 (v3*(min (max v1.Value (-1000000)) 1000000))) 10000))
    else
      some (0,false)
def fq (K:Kn) (n:Nat) (v1:aE) (v2 v3:Int):Option ay :=
  (cA K n v1.Margin.a0 v2).bind fun v4 =>
  (dw K n v1.Border.a0).bind fun v5 =>
  (cA K n v1.Padding.a0 v2).bind fun v6 =>
  (cA K n v1.Margin.a1 v2).bind fun v7 =>
  (dw K n v1.Border.a1).bind fun v8 =>
  (cA K n v1.Padding.a1 v2).bind fun v9 =>
  (cA K n v1.Margin.a2 v2).bind fun v10 =>
  (dw K n v1.Border.a2).bind fun v11 =>
  (cA K n v1.Padding.a2 v2).bind fun v12 =>
  (cA K n v1.Margin.a3 v2).bind fun v13 =>
  (dw K n v1.Border.a3).bind fun v14 =>
  (cA K n v1.Padding.a3 v2).bind fun v15 =>
  some (⟨⟨v4.1,v7.1,v10.1,v13.1⟩,⟨v5,v8,v11,v14⟩,⟨(max v6.1 0),(max v9.1 0),(max v12.1 0),(max v15.1 0)⟩,v3⟩:ay)
def lD (K:Kn) (n:Nat) (v7:Int):Option Int :=
  some v7
def kf (K:Kn) (n:Nat) (v1:aE) (v2 v5:Int):Option Int :=
  (cA K n v1.MinWidth v2).bind fun v6 =>
  if v6.2=true then
    lD K n (max v5 v6.1)
  else
    lD K n v5
def ib (K:Kn) (n:Nat) (v1:aE) (v2 v3:Int):Option Int :=
  (cA K n v1.MaxWidth v2).bind fun v4 =>
  if v4.2=true then
    kf K n v1 v2 (min (max v3 0) (max v4.1 0))
  else
    kf K n v1 v2 (max v3 0)
def fC (K:Kn) (n:Nat) (v1:ay):Option Int :=
  some (w64 ((w64 ((w64 ((w64 ((w64 ((w64 (v1.Content+v1.Margin.a1))+v1.Margin.a3))+v1.Border.a1))+v1.Border.a3))+v1.Padding.a1))+v1.Padding.a3))
def gN (K:Kn) (n:Nat) (v4:ay) (v8:Int) (v13:V4 Int):Option ay :=
  some ({ v4 with Margin:=v13,Content:=v8 }:ay)
def kF (K:Kn) (n:Nat) (v3:Int) (v4:ay) (v8 v9:Int) (v10 v11:Int×Bool) (v12:Bool):Option ay :=
  if v12=true then
    gN K n v4 v8 ⟨v4.Margin.a0,(w64 ((w64 (v3 - v9)) - (w64 (Int.tdiv (w64 (v3 - v9)) 2)))),v4.Margin.a2,(w64 (Int.tdiv (w64 (v3 - v9)) 2))⟩
  else
    if (!v10.2)=true then
      gN K n v4 v8 ⟨v4.Margin.a0,v4.Margin.a1,v4.Margin.a2,(w64 (v3 - v9))⟩
    else
      if (!v11.2)=true then
        gN K n v4 v8 ⟨v4.Margin.a0,(w64 (v3 - v9)),v4.Margin.a2,v4.Margin.a3⟩
      else
        gN K n v4 v8 v4.Margin
def jO (K:Kn) (n:Nat) (v1:aE) (v3:Int) (v4:ay) (v7:Int):Option ay :=
  (ib K n v1 v3 v7).bind fun v8 =>
  (fC K n ({ v4 with Content:=v8 }:ay)).bind fun v9 =>
  if (decide ((w64 (v3 - v9))≤0))=true then
    some ({ v4 with Content:=v8 }:ay)
  else
    (cA K n v1.Margin.a3 v3).bind fun v10 =>
    (cA K n v1.Margin.a1 v3).bind fun v11 =>
    if (!v10.2)=true then
      kF K n v3 v4 v8 v9 v10 v11 (!v11.2)
    else
      kF K n v3 v4 v8 v9 v10 v11 false
def jL (K:Kn) (n:Nat) (v1:aE) (v2:Int):Option ay :=
  (dw K n v2).bind fun v3 =>
  (fq K n v1 v3 0).bind fun v4 =>
  (cA K n v1.Width v3).bind fun v5 =>
  if (!v5.2)=true then
    (fC K n v4).bind fun v6 =>
    jO K n v1 v3 v4 (w64 (v3 - v6))
  else
    jO K n v1 v3 v4 v5.1
def gL (K:Kn) (n:Nat) (v1:Int):Option ah :=
  some (⟨(max v1 0),(min v1 0)⟩:ah)
def kX (K:Kn) (n:Nat) (v2:Bool):Option Bool :=
  some v2
def jB (K:Kn) (n:Nat) (v1:ab):Option Bool :=
  if (v1.Kind == 3)=true then
    kX K n true
  else
    kX K n (v1.Style.Position != 2)
def rn (K:Kn) (n:Nat) (v1 v2:Int) (v3:List ab):Option Int :=
  chk (inb v1 v3.length) (
  chk (inb v2 v3.length) (
  (oV K n (((List.getD v3 (v1).toNat default).Style).Order) (((List.getD v3 (v2).toNat default).Style).Order)).bind fun v4 =>
  some v4))
def qo (K:Kn) (n:Nat) (v1:List ab) (v6:Int) (L1:Int→(List Int)→Option (List Int)) (v9:List Int):Option (List Int) :=
  L1 (w64 (v6+1)) v9
def rt (K:Kn) (n:Nat) (v1:List ab) (L1:Int→(List Int)→Option (List Int)) (v6:Int) (v7:List Int):Option (List Int) :=
  if (decide (v6<(v1.length:Int)))=true then
    chk (inb v6 v1.length) (
    (jB K n (List.getD v1 (v6).toNat default)).bind fun v8 =>
    if v8=true then
      chk (fits (v7.length+([v6]:(List Int)).length) 8) (
      qo K n v1 v6 L1 (v7++[v6]))
    else
      qo K n v1 v6 L1 v7)
  else
    (iK K n v7 (Fv.c45 v1)).bind fun v10 =>
    some v10
def pG (K:Kn) (n:Nat) (v1:List ab):Nat→Int→(List Int)→Option (List Int)
  | 0=>fun _ _=>none
  | m+1=>rt K n v1 (pG K n v1 m)
def mG (K:Kn) (n:Nat) (v1:List ab):Option (List Int) :=
  pG K n v1 n 0 []
def qU (K:Kn) (n:Nat) (v1:ab) (v2:List Int) (L1:Int→(List ab)→Option (List ab)) (v3:Int) (v4:List ab):Option (List ab) :=
  if (decide (v3<(v2.length:Int)))=true then
    chk (inb v3 v2.length) (
    chk (inb (List.getD v2 (v3).toNat default) v1.Kids.length) (
    chk (fits (v4.length+([(List.getD v1.Kids ((List.getD v2 (v3).toNat default)).toNat default)]:(List ab)).length) 520) (
    L1 (w64 (v3+1)) (v4++[(List.getD v1.Kids ((List.getD v2 (v3).toNat default)).toNat default)]))))
  else
    some v4
def nK (K:Kn) (n:Nat) (v1:ab) (v2:List Int):Nat→Int→(List ab)→Option (List ab)
  | 0=>fun _ _=>none
  | m+1=>qU K n v1 v2 (nK K n v1 v2 m)
def lV (K:Kn) (n:Nat) (v1:ab):Option (List ab) :=
  (mG K n v1.Kids).bind fun v2 =>
  nK K n v1 v2 n 0 []
def jN (K:Kn) (n:Nat) (v1:aQ) (v2 v3:Int):Option Int :=
  (cA K n v1 v2).bind fun v4 =>
  if v4.2=true then
    some v4.1
  else
    some v3
def dc (K:Kn) (n:Nat) (v1:ah):Option Int :=
  some (w64 (v1.Pos+v1.Neg))
def pj (K:Kn) (n:Nat) (v1:aa):Option Int :=
  if v1.Empty=true then
    some 0
  else
    (dc K n v1.After).bind fun v2 =>
    some v2
def nF (K:Kn) (n:Nat) (v1:ab) (v2:Int) (v3:bw) (v5:List ab) (v34 v35:Int) (v36:List Int) (v37:List aw) (v38 v39:List Int) (v40:List aa) (v41:aa) (v43 v46 v47:Int) (L1:Int→Int→(List Int)→(List aw)→(List Int)→(List Int)→(List aa)→Option ((List aa)×Int)) (v49:Int):Option ((List aa)×Int) :=
  chk (fits (v37.length+([(⟨v49,v46,v47,0,1048576⟩:aw)]:(List aw)).length) 40) (
  (some (v37++[(⟨v49,v46,v47,0,1048576⟩:aw)])).bind fun v50 =>
  chk (fits (v38.length+([v43]:(List Int)).length) 8) (
  (dc K n v41.Before).bind fun v51 =>
  (pj K n v41).bind fun v52 =>
  chk (fits (v39.length+([(w64 ((w64 (v51+v52))+v43))]:(List Int)).length) 8) (
  chk (inb (w64 (((v39++[(w64 ((w64 (v51+v52))+v43))]).length:Int) - 1)) (v39++[(w64 ((w64 (v51+v52))+v43))]).length) (
  (some (w64 (v34 - (List.getD (v39++[(w64 ((w64 (v51+v52))+v43))]) ((w64 (((v39++[(w64 ((w64 (v51+v52))+v43))]).length:Int) - 1))).toNat default)))).bind fun v53 =>
  (pC K n (⟨v49,v46,v47,0,1048576⟩:aw)).bind fun v54 =>
  chk (fits (v36.length+([v54]:(List Int)).length) 8) (
  chk (fits (v40.length+([v41]:(List aa)).length) 584) (
  L1 v53 (w64 (v35+1)) (v36++[v54]) v50 (v38++[v43]) (v39++[(w64 ((w64 (v51+v52))+v43))]) (v40++[v41])))))))
def rF (K:Kn) (n:Nat) (v38 v39:List Int) (v40:List aa) (v56:List Int) (L2:Int→Int→(List aa)→Option ((List aa)×Int)) (v60 v61:Int) (v62:List aa):Option ((List aa)×Int) :=
  if (decide (v61<(v40.length:Int)))=true then
    chk (inb v61 v56.length) (
    chk (inb v61 v38.length) (
    chk (inb v61 v62.length) (
    (some (List.set v62 (v61).toNat ({ (List.getD v62 (v61).toNat default) with H:=(w64 ((List.getD v56 (v61).toNat default)+(List.getD v38 (v61).toNat default))) }:aa))).bind fun v63 =>
    chk (inb v61 v63.length) (
    (dc K n ((List.getD v63 (v61).toNat default).Before)).bind fun v64 =>
    chk (inb v61 v63.length) (
    (some (List.set v63 (v61).toNat ({ (List.getD v63 (v61).toNat default) with Y:=(w64 (v60+v64)) }:aa))).bind fun v65 =>
    chk (inb v61 v56.length) (
    chk (inb v61 v39.length) (
    L2 (w64 (v60+(w64 ((List.getD v56 (v61).toNat default)+(List.getD v39 (v61).toNat default))))) (w64 (v61+1)) v65)))))))
  else
    some (v62,v60)
def ov (K:Kn) (n:Nat) (v38 v39:List Int) (v40:List aa) (v56:List Int):Nat→Int→Int→(List aa)→Option ((List aa)×Int)
  | 0=>fun _ _ _=>none
  | m+1=>rF K n v38 v39 v40 v56 (ov K n v38 v39 v40 v56 m)
def gP (K:Kn) (n:Nat) (v38 v39:List Int) (v40:List aa) (v56:List Int):Option ((List aa)×Int) :=
  ov K n v38 v39 v40 v56 n 0 0 v40
def ry (K:Kn) (n:Nat) (v1:ab) (v2:Int) (v3:bw) (v5:List ab) (L1:Int→Int→(List Int)→(List aw)→(List Int)→(List Int)→(List aa)→Option ((List aa)×Int)) (v34 v35:Int) (v36:List Int) (v37:List aw) (v38 v39:List Int) (v40:List aa):Option ((List aa)×Int) :=
  if (decide (v35<(v5.length:Int)))=true then
    chk (inb v35 v5.length) (
    (K.dD v3.Layout (List.getD v5 (v35).toNat default) v2).bind fun v41 =>
    (fq K n ((List.getD v5 (v35).toNat default).Style) v2 0).bind fun v42 =>
    (some (w64 ((w64 ((w64 (v42.Border.a0+v42.Border.a2))+v42.Padding.a0))+v42.Padding.a2))).bind fun v43 =>
    (some (((((List.getD v5 (v35).toNat default).Style).Basis).Kind) == 1)).bind fun v44 =>
    (some (w64 (v41.H - (w64 ((w64 ((w64 (v42.Border.a0+v42.Border.a2))+v42.Padding.a0))+v42.Padding.a2))))).bind fun v45 =>
    (some (((List.getD v5 (v35).toNat default).Style).Grow)).bind fun v46 =>
    (some (((List.getD v5 (v35).toNat default).Style).Shrink)).bind fun v47 =>
    if v44=true then
      (jN K n (((List.getD v5 (v35).toNat default).Style).Basis) 0 0).bind fun v48 =>
      nF K n v1 v2 v3 v5 v34 v35 v36 v37 v38 v39 v40 v41 v43 v46 v47 L1 v48
    else
      nF K n v1 v2 v3 v5 v34 v35 v36 v37 v38 v39 v40 v41 v43 v46 v47 L1 v45)
  else
    if (v1.Style.Height.Kind == 1)=true then
      (g9 K n v37 v34).bind fun v55 =>
      gP K n v38 v39 v40 v55
    else
      gP K n v38 v39 v40 v36
def mI (K:Kn) (n:Nat) (v1:ab) (v2:Int) (v3:bw) (v5:List ab):Nat→Int→Int→(List Int)→(List aw)→(List Int)→(List Int)→(List aa)→Option ((List aa)×Int)
  | 0=>fun _ _ _ _ _ _ _=>none
  | m+1=>ry K n v1 v2 v3 v5 (mI K n v1 v2 v3 v5 m)
def rM (K:Kn) (n:Nat) (v1:ab) (v2:Int) (v3:bw):Option ((List aa)×Int) :=
  (jN K n v1.Style.Height 0 0).bind fun v4 =>
  (lV K n v1).bind fun v5 =>
  mI K n v1 v2 v3 v5 n (max v4 0) 0 [] [] [] [] []
def o9 (K:Kn) (n:Nat) (v1:List Int) (v2 v4:Int) (L1:Int→Int→(List Int)→Option (List Int)) (v8:Int) (v9:List Int):Option (List Int) :=
  L1 v8 (w64 (v4+1)) v9
def oc (K:Kn) (n:Nat) (v1:List Int) (v2 v4:Int) (v5:List Int) (v6:Int) (L1:Int→Int→(List Int)→Option (List Int)) (v7:Bool):Option (List Int) :=
  if v7=true then
    chk (fits (v5.length+([v4]:(List Int)).length) 8) (
    o9 K n v1 v2 v4 L1 (List.getD v1 (v4).toNat default) (v5++[v4]))
  else
    o9 K n v1 v2 v4 L1 v6 v5
def oS (K:Kn) (n:Nat) (v1:List Int) (v2:Int) (L1:Int→Int→(List Int)→Option (List Int)) (v3 v4:Int) (v5:List Int):Option (List Int) :=
  if (decide (v4<(v1.length:Int)))=true then
    chk (inb v4 v1.length) (
    (some (w64 (v3+(List.getD v1 (v4).toNat default)))).bind fun v6 =>
    if (v4 == 0)=true then
      oc K n v1 v2 v4 v5 v6 L1 true
    else
      oc K n v1 v2 v4 v5 v6 L1 (decide (v6>v2)))
  else
    some v5
def nq (K:Kn) (n:Nat) (v1:List Int) (v2:Int):Nat→Int→Int→(List Int)→Option (List Int)
  | 0=>fun _ _ _=>none
  | m+1=>oS K n v1 v2 (nq K n v1 v2 m)
def ny (K:Kn) (n:Nat) (v1:List Int) (v2:Int):Option (List Int) :=
  nq K n v1 v2 n 0 0 []
def qS (K:Kn) (n:Nat) (v1:ab) (v2:Int) (v10:V4 aQ):Option ab :=
  some ({ v1 with Style:=({ v1.Style with Width:=(⟨1,v2⟩:aQ),MinWidth:=bz,MaxWidth:=bz,Margin:=v10 }:aE) }:ab)
def pm (K:Kn) (n:Nat) (v1:ab) (v2:Int) (v8:V4 aQ):Option ab :=
  (cA K n v1.Style.Margin.a3 0).bind fun v9 =>
  if (!v9.2)=true then
    qS K n v1 v2 ⟨v8.a0,v8.a1,v8.a2,({ bz with Kind:=1 }:aQ)⟩
  else
    qS K n v1 v2 v8
def nY (K:Kn) (n:Nat) (v1:ab) (v2:Int) (v6:V4 aQ):Option ab :=
  (cA K n v1.Style.Margin.a2 0).bind fun v7 =>
  if (!v7.2)=true then
    pm K n v1 v2 ⟨v6.a0,v6.a1,({ bz with Kind:=1 }:aQ),v6.a3⟩
  else
    pm K n v1 v2 v6
def pQ (K:Kn) (n:Nat) (v1:ab) (v2:Int) (v4:V4 aQ):Option ab :=
  (cA K n v1.Style.Margin.a1 0).bind fun v5 =>
  if (!v5.2)=true then
    nY K n v1 v2 ⟨v4.a0,({ bz with Kind:=1 }:aQ),v4.a2,v4.a3⟩
  else
    nY K n v1 v2 v4
def qB (K:Kn) (n:Nat) (v1:ab) (v2:Int):Option ab :=
  (cA K n v1.Style.Margin.a0 0).bind fun v3 =>
  if (!v3.2)=true then
    pQ K n v1 v2 ⟨({ bz with Kind:=1 }:aQ),v1.Style.Margin.a1,v1.Style.Margin.a2,v1.Style.Margin.a3⟩
  else
    pQ K n v1 v2 v1.Style.Margin
def n0 (K:Kn) (n:Nat) (v1:ab) (v2:Int) (v3:bw) (v4:List ab) (v24:Int) (v25:List aw) (v26 v27:List Int) (v29 v30 v31 v32 v33:Int) (L1:Int→(List aw)→(List Int)→(List Int)→Option ((List aa)×Int)) (v41:Int):Option ((List aa)×Int) :=
  chk (inb v24 v25.length) (
  (some (List.set v25 (v24).toNat (⟨v41,v32,v33,v30,v31⟩:aw))).bind fun v42 =>
  (pC K n (⟨v41,v32,v33,v30,v31⟩:aw)).bind fun v43 =>
  chk (inb v24 (List.set v26 (v24).toNat v29).length) (
  chk (inb v24 v27.length) (
  L1 (w64 (v24+1)) v42 (List.set v26 (v24).toNat v29) (List.set v27 (v24).toNat (w64 (v43+(List.getD (List.set v26 (v24).toNat v29) (v24).toNat default)))))))
def q7 (K:Kn) (n:Nat) (v1:ab) (v2:Int) (v3:bw) (v4:List ab) (v24:Int) (v25:List aw) (v26 v27:List Int) (v29 v30 v31 v32 v33:Int) (L1:Int→(List aw)→(List Int)→(List Int)→Option ((List aa)×Int)) (v36:Int) (v37:Bool):Option ((List aa)×Int) :=
  if (!v37)=true then
    (K.eM v3.Widths (List.getD v4 (v24).toNat default)).bind fun v38 =>
    (fq K n ((List.getD v4 (v24).toNat default).Style) 0 0).bind fun v39 =>
    (fC K n v39).bind fun v40 =>
    n0 K n v1 v2 v3 v4 v24 v25 v26 v27 v29 v30 v31 v32 v33 L1 (w64 (v38.2 - v40))
  else
    n0 K n v1 v2 v3 v4 v24 v25 v26 v27 v29 v30 v31 v32 v33 L1 v36
def sk (K:Kn) (n:Nat) (v2:Int) (v3:bw) (v4:List ab) (v25:List aw) (v26 v45:List Int) (v102 v103:Int) (v114:List Int) (L2:Int→Int→(List aa)→Option ((List aa)×Int)) (L4:Int→Int→Int→(List aa)→Option ((List aa)×Int)) (v121 v122 v123:Int) (v124:List aa):Option ((List aa)×Int) :=
  if (decide (v123<(v114.length:Int)))=true then
    chk (inb v123 v114.length) (
    chk (inb (w64 ((List.getD v45 (v103).toNat default)+v123)) v4.length) (
    (qB K n (List.getD v4 ((w64 ((List.getD v45 (v103).toNat default)+v123))).toNat default) (List.getD v114 (v123).toNat default)).bind fun v125 =>
    (K.dD v3.Layout v125 v2).bind fun v126 =>
    (dc K n v126.Before).bind fun v127 =>
    (pj K n v126).bind fun v128 =>
    (some (max v122 (w64 ((w64 (v127+v126.H))+v128)))).bind fun v129 =>
    (dc K n v126.Before).bind fun v130 =>
    chk (inb (w64 ((List.getD v45 (v103).toNat default)+v123)) v26.length) (
    (some (w64 (v121+(w64 ((List.getD v114 (v123).toNat default)+(List.getD v26 ((w64 ((List.getD v45 (v103).toNat default)+v123))).toNat default)))))).bind fun v131 =>
    chk (fits (v124.length+([({ v126 with X:=(w64 (v126.X+v121)),Y:=(w64 (v102+v130)) }:aa)]:(List aa)).length) 584) (
    L4 v131 v129 (w64 (v123+1)) (v124++[({ v126 with X:=(w64 (v126.X+v121)),Y:=(w64 (v102+v130)) }:aa)])))))
  else
    L2 (w64 (v102+v122)) (w64 (v103+1)) v124
def nn (K:Kn) (n:Nat) (v2:Int) (v3:bw) (v4:List ab) (v25:List aw) (v26 v45:List Int) (v102 v103:Int) (v114:List Int) (L2:Int→Int→(List aa)→Option ((List aa)×Int)):Nat→Int→Int→Int→(List aa)→Option ((List aa)×Int)
  | 0=>fun _ _ _ _=>none
  | m+1=>sk K n v2 v3 v4 v25 v26 v45 v102 v103 v114 L2 (nn K n v2 v3 v4 v25 v26 v45 v102 v103 v114 L2 m)
def rZ (K:Kn) (n:Nat) (v2:Int) (v3:bw) (v4:List ab) (v25:List aw) (v26 v45:List Int) (v102 v103:Int) (v104:List aa) (v106:Int) (L2:Int→Int→(List aa)→Option ((List aa)×Int)) (L3:Int→(List Int)→Int→Int→Option ((List aa)×Int)) (v110:Int) (v111:List Int) (v112 v113:Int):Option ((List aa)×Int) :=
  if (decide (v113<v112))=true then
    chk (inb v113 v111.length) (
    L3 (w64 (v110 - (List.getD v111 (v113).toNat default))) v111 v112 (w64 (v113+1)))
  else
    chk (slb (List.getD v45 (v103).toNat default) v106 v25.length) (
    (g9 K n (List.drop ((List.getD v45 (v103).toNat default)).toNat (List.take (v106).toNat v25)) v110).bind fun v114 =>
    nn K n v2 v3 v4 v25 v26 v45 v102 v103 v114 L2 n 0 0 0 v104)
def pf (K:Kn) (n:Nat) (v2:Int) (v3:bw) (v4:List ab) (v25:List aw) (v26 v45:List Int) (v102 v103:Int) (v104:List aa) (v106:Int) (L2:Int→Int→(List aa)→Option ((List aa)×Int)):Nat→Int→(List Int)→Int→Int→Option ((List aa)×Int)
  | 0=>fun _ _ _ _=>none
  | m+1=>rZ K n v2 v3 v4 v25 v26 v45 v102 v103 v104 v106 L2 (pf K n v2 v3 v4 v25 v26 v45 v102 v103 v104 v106 L2 m)
def kJ (K:Kn) (n:Nat) (v2:Int) (v3:bw) (v4:List ab) (v25:List aw) (v26 v45:List Int) (v102 v103:Int) (v104:List aa) (L2:Int→Int→(List aa)→Option ((List aa)×Int)) (v106:Int):Option ((List aa)×Int) :=
  chk (slb (List.getD v45 (v103).toNat default) v106 v26.length) (
  pf K n v2 v3 v4 v25 v26 v45 v102 v103 v104 v106 L2 n v2 (List.drop ((List.getD v45 (v103).toNat default)).toNat (List.take (v106).toNat v26)) ((List.drop ((List.getD v45 (v103).toNat default)).toNat (List.take (v106).toNat v26)).length:Int) 0)
def rV (K:Kn) (n:Nat) (v2:Int) (v3:bw) (v4:List ab) (v25:List aw) (v26 v45:List Int) (L2:Int→Int→(List aa)→Option ((List aa)×Int)) (v102 v103:Int) (v104:List aa):Option ((List aa)×Int) :=
  if (decide (v103<(v45.length:Int)))=true then
    chk (inb v103 v45.length) (
    (some (decide ((w64 (v103+1))<(v45.length:Int)))).bind fun v105 =>
    if v105=true then
      chk (inb (w64 (v103+1)) v45.length) (
      kJ K n v2 v3 v4 v25 v26 v45 v102 v103 v104 L2 (List.getD v45 ((w64 (v103+1))).toNat default))
    else
      kJ K n v2 v3 v4 v25 v26 v45 v102 v103 v104 L2 (v4.length:Int))
  else
    some (v104,v102)
def gz (K:Kn) (n:Nat) (v2:Int) (v3:bw) (v4:List ab) (v25:List aw) (v26 v45:List Int):Nat→Int→Int→(List aa)→Option ((List aa)×Int)
  | 0=>fun _ _ _=>none
  | m+1=>rV K n v2 v3 v4 v25 v26 v45 (gz K n v2 v3 v4 v25 v26 v45 m)
def gZ (K:Kn) (n:Nat) (v2:Int) (v3:bw) (v4:List ab) (v25:List aw) (v26 v45:List Int):Option ((List aa)×Int) :=
  gz K n v2 v3 v4 v25 v26 v45 n 0 0 []
def q8 (K:Kn) (n:Nat) (v1:ab) (v2:Int) (v3:bw) (v4:List ab) (L1:Int→(List aw)→(List Int)→(List Int)→Option ((List aa)×Int)) (v24:Int) (v25:List aw) (v26 v27:List Int):Option ((List aa)×Int) :=
  if (decide (v24<(v4.length:Int)))=true then
    chk (inb v24 v4.length) (
    (fq K n ((List.getD v4 (v24).toNat default).Style) v2 0).bind fun v28 =>
    (fC K n v28).bind fun v29 =>
    chk (inb v24 v26.length) (
    (jN K n (((List.getD v4 (v24).toNat default).Style).MinWidth) v2 0).bind fun v30 =>
    (jN K n (((List.getD v4 (v24).toNat default).Style).MaxWidth) v2 1048576).bind fun v31 =>
    (some (((List.getD v4 (v24).toNat default).Style).Grow)).bind fun v32 =>
    (some (((List.getD v4 (v24).toNat default).Style).Shrink)).bind fun v33 =>
    (cA K n (((List.getD v4 (v24).toNat default).Style).Basis) v2).bind fun v34 =>
    if (!v34.2)=true then
      (cA K n (((List.getD v4 (v24).toNat default).Style).Width) v2).bind fun v35 =>
      q7 K n v1 v2 v3 v4 v24 v25 v26 v27 v29 v30 v31 v32 v33 L1 v35.1 v35.2
    else
      q7 K n v1 v2 v3 v4 v24 v25 v26 v27 v29 v30 v31 v32 v33 L1 v34.1 v34.2))
  else
    if v1.Style.Wrap=true then
      (ny K n v27 v2).bind fun v44 =>
      gZ K n v2 v3 v4 v25 v26 v44
    else
      gZ K n v2 v3 v4 v25 v26 [0]
def ni (K:Kn) (n:Nat) (v1:ab) (v2:Int) (v3:bw) (v4:List ab):Nat→Int→(List aw)→(List Int)→(List Int)→Option ((List aa)×Int)
  | 0=>fun _ _ _ _=>none
  | m+1=>q8 K n v1 v2 v3 v4 (ni K n v1 v2 v3 v4 m)
def sv (K:Kn) (n:Nat) (v1:ab) (v2:Int) (v3:bw):Option ((List aa)×Int) :=
  (lV K n v1).bind fun v4 =>
  chk (mkb (v4.length:Int) 40) (
  (some (List.replicate ((v4.length:Int)).toNat (gp:aw))).bind fun v5 =>
  chk (mkb (v4.length:Int) 8) (
  (some (List.replicate ((v4.length:Int)).toNat (0:Int))).bind fun v6 =>
  chk (mkb (v4.length:Int) 8) (
  (some (List.replicate ((v4.length:Int)).toNat (0:Int))).bind fun v7 =>
  ni K n v1 v2 v3 v4 n 0 v5 v6 v7)))
def km (K:Kn) (n:Nat) (v1:aa) (v3:Int×Bool) (v5:Int):Option aa :=
  some ({ v1 with X:=(w64 (v1.X+v3.1)),Y:=v5 }:aa)
def jP (K:Kn) (n:Nat) (v1:aa) (v2:Int):Option aa :=
  if (v1.Style.Position != 1)=true then
    some v1
  else
    (cA K n v1.Style.Left v2).bind fun v3 =>
    if (v1.Style.Top.Kind == 1)=true then
      (cA K n v1.Style.Top 0).bind fun v4 =>
      km K n v1 v3 (w64 (v1.Y+v4.1))
    else
      km K n v1 v3 v1.Y
def sF (K:Kn) (n:Nat) (v1:ab) (v4:ay) (v5 v6:ah) (v10:List aa) (v13 v14:Int) (L1:Int→(List aa)→Option aa) (v18:Int) (v19:List aa):Option aa :=
  if (decide (v18<(v10.length:Int)))=true then
    chk (inb v18 v19.length) (
    chk (inb v18 v19.length) (
    (some (List.set v19 (v18).toNat ({ (List.getD v19 (v18).toNat default) with X:=(w64 (((List.getD v19 (v18).toNat default).X)+(w64 (v4.Border.a3+v4.Padding.a3)))) }:aa))).bind fun v20 =>
    chk (inb v18 v20.length) (
    chk (inb v18 v20.length) (
    (some (List.set v20 (v18).toNat ({ (List.getD v20 (v18).toNat default) with Y:=(w64 (((List.getD v20 (v18).toNat default).Y)+(w64 (v4.Border.a0+v4.Padding.a0)))) }:aa))).bind fun v21 =>
    chk (inb v18 v21.length) (
    (jP K n (List.getD v21 (v18).toNat default) v4.Content).bind fun v22 =>
    chk (inb v18 v21.length) (
    L1 (w64 (v18+1)) (List.set v21 (v18).toNat v22)))))))
  else
    some (⟨1,v1.Node,v4.Margin.a3,0,v13,v14,0,⟨#[]⟩,v1.Style,v5,v6,false,v19⟩:aa)
def pM (K:Kn) (n:Nat) (v1:ab) (v4:ay) (v5 v6:ah) (v10:List aa) (v13 v14:Int):Nat→Int→(List aa)→Option aa
  | 0=>fun _ _=>none
  | m+1=>sF K n v1 v4 v5 v6 v10 v13 v14 (pM K n v1 v4 v5 v6 v10 v13 v14 m)
def oO (K:Kn) (n:Nat) (v1:ab) (v4:ay) (v5 v6:ah) (v10:List aa) (v12:Int):Option aa :=
  (some (w64 ((w64 ((w64 ((w64 (v4.Content+v4.Border.a1))+v4.Border.a3))+v4.Padding.a1))+v4.Padding.a3))).bind fun v13 =>
  (some (w64 ((w64 ((w64 ((w64 (v12+v4.Border.a0))+v4.Border.a2))+v4.Padding.a0))+v4.Padding.a2))).bind fun v14 =>
  pM K n v1 v4 v5 v6 v10 v13 v14 n 0 v10
def ph (K:Kn) (n:Nat) (v1:ab) (v4:ay) (v5 v6:ah) (v9:Int) (v10:List aa):Option aa :=
  if (v1.Style.Height.Kind == 1)=true then
    (jN K n v1.Style.Height 0 0).bind fun v11 =>
    oO K n v1 v4 v5 v6 v10 (max v11 0)
  else
    oO K n v1 v4 v5 v6 v10 (max v9 0)
def rE (K:Kn) (n:Nat) (v1:ab) (v2:Int) (v3:bw):Option aa :=
  (jL K n v1.Style v2).bind fun v4 =>
  (gL K n v4.Margin.a0).bind fun v5 =>
  (gL K n v4.Margin.a2).bind fun v6 =>
  if (v1.Style.Direction == 1)=true then
    (rM K n v1 v4.Content v3).bind fun v7 =>
    ph K n v1 v4 v5 v6 v7.2 v7.1
  else
    (sv K n v1 v4.Content v3).bind fun v8 =>
    ph K n v1 v4 v5 v6 v8.2 v8.1
def kI (K:Kn) (n:Nat) (v2:Bool):Option Bool :=
  some v2
def i7 (K:Kn) (n:Nat) (v1:ab):Option Bool :=
  if (v1.Kind == 3)=true then
    kI K n true
  else
    kI K n (v1.Style.Position != 2)
def oQ (K:Kn) (n:Nat) (v1:List ab) (v10:Int) (L1:Int→(List Int)→Option (List Int)) (v17:List Int):Option (List Int) :=
  L1 (w64 (v10+1)) v17
def mF (K:Kn) (n:Nat) (v1:List ab) (v10:Int) (v11:List Int) (v14:Int) (L1:Int→(List Int)→Option (List Int)) (L2:Int→Option (List Int)) (v15:Bool):Option (List Int) :=
  if v15=true then
    L2 (w64 (v14 - 1))
  else
    chk (slb (0:Int) v14 v11.length) (
    chk (fits (List.drop ((0:Int)).toNat (List.take (v14).toNat v11)).length 8) (
    (some (List.drop ((0:Int)).toNat (List.take (v14).toNat v11))).bind fun v16 =>
    chk (fits (v16.length+([v10]:(List Int)).length) 8) (
    chk (slb v14 (v11.length:Int) v11.length) (
    chk (fits ((v16++[v10]).length+(List.drop (v14).toNat (List.take ((v11.length:Int)).toNat v11)).length) 8) (
    oQ K n v1 v10 L1 ((v16++[v10])++(List.drop (v14).toNat (List.take ((v11.length:Int)).toNat v11))))))))
def qz (K:Kn) (n:Nat) (v1:List ab) (v10:Int) (v11:List Int) (L1:Int→(List Int)→Option (List Int)) (L2:Int→Option (List Int)) (v14:Int):Option (List Int) :=
  if (decide (v14>0))=true then
    chk (inb (w64 (v14 - 1)) v11.length) (
    chk (inb (List.getD v11 ((w64 (v14 - 1))).toNat default) v1.length) (
    chk (inb v10 v1.length) (
    mF K n v1 v10 v11 v14 L1 L2 (decide ((((List.getD v1 ((List.getD v11 ((w64 (v14 - 1))).toNat default)).toNat default).Style).Order)>(((List.getD v1 (v10).toNat default).Style).Order))))))
  else
    mF K n v1 v10 v11 v14 L1 L2 false
def mQ (K:Kn) (n:Nat) (v1:List ab) (v10:Int) (v11:List Int) (L1:Int→(List Int)→Option (List Int)):Nat→Int→Option (List Int)
  | 0=>fun _=>none
  | m+1=>qz K n v1 v10 v11 L1 (mQ K n v1 v10 v11 L1 m)
def qF (K:Kn) (n:Nat) (v1:List ab) (L1:Int→(List Int)→Option (List Int)) (v10:Int) (v11:List Int):Option (List Int) :=
  if (decide (v10<(v1.length:Int)))=true then
    chk (inb v10 v1.length) (
    (i7 K n (List.getD v1 (v10).toNat default)).bind fun v12 =>
    if (!v12)=true then
      oQ K n v1 v10 L1 v11
    else
      mQ K n v1 v10 v11 L1 n (v11.length:Int))
  else
    some v11
def mW (K:Kn) (n:Nat) (v1:List ab):Nat→Int→(List Int)→Option (List Int)
  | 0=>fun _ _=>none
  | m+1=>qF K n v1 (mW K n v1 m)
def qW (K:Kn) (n:Nat) (v1:List ab):Option (List Int) :=
  mW K n v1 n 0 []
def dk (K:Kn) (n:Nat) (v1:Int):Option Int :=
  some (min (max v1 0) 1048576)
def gq (K:Kn) (n:Nat) (v1:ay):Option Int :=
  some (w64 ((w64 ((w64 ((w64 ((w64 ((w64 (v1.Content+v1.Margin.a1))+v1.Margin.a3))+v1.Border.a1))+v1.Border.a3))+v1.Padding.a1))+v1.Padding.a3))
def gh (K:Kn) (n:Nat) (v1:Int):Option Int :=
  some (min (max v1 (-1048576)) 1048576)
def cW (K:Kn) (n:Nat) (v1:aQ) (v2:Int):Option (Int×Bool) :=
  if (v1.Kind == 1)=true then
    (gh K n v1.Value).bind fun v3 =>
    some (v3,true)
  else
    if (v1.Kind == 2)=true then
      (dk K n v2).bind fun v4 =>
      (gh K n (w64 (Int.tdiv (w64 (v4*(min (max v1.Value (-1000000)) 1000000))) 10000))).bind fun v5 =>
      some (v5,true)
    else
      some (0,false)
def fH (K:Kn) (n:Nat) (v1:aE) (v2 v3:Int):Option ay :=
  (cW K n v1.Margin.a0 v2).bind fun v4 =>
  (cW K n v1.Padding.a0 v2).bind fun v5 =>
  (dk K n v1.Border.a0).bind fun v6 =>
  (cW K n v1.Margin.a1 v2).bind fun v7 =>
  (cW K n v1.Padding.a1 v2).bind fun v8 =>
  (dk K n v1.Border.a1).bind fun v9 =>
  (cW K n v1.Margin.a2 v2).bind fun v10 =>
  (cW K n v1.Padding.a2 v2).bind fun v11 =>
  (dk K n v1.Border.a2).bind fun v12 =>
  (cW K n v1.Margin.a3 v2).bind fun v13 =>
  (cW K n v1.Padding.a3 v2).bind fun v14 =>
  (dk K n v1.Border.a3).bind fun v15 =>
  some (⟨⟨v4.1,v7.1,v10.1,v13.1⟩,⟨v6,v9,v12,v15⟩,⟨(max v5.1 0),(max v8.1 0),(max v11.1 0),(max v14.1 0)⟩,v3⟩:ay)
def ld (K:Kn) (n:Nat) (v7:Int):Option Int :=
  some v7
def lW (K:Kn) (n:Nat) (v1:aE) (v2 v5:Int):Option Int :=
  (cW K n v1.MinWidth v2).bind fun v6 =>
  if v6.2=true then
    ld K n (max v5 v6.1)
  else
    ld K n v5
def ia (K:Kn) (n:Nat) (v1:aE) (v2 v3:Int):Option Int :=
  (cW K n v1.MaxWidth v2).bind fun v4 =>
  if v4.2=true then
    lW K n v1 v2 (min (max v3 0) (max v4.1 0))
  else
    lW K n v1 v2 (max v3 0)
def gS (K:Kn) (n:Nat) (v4:ay) (v8:Int) (v13:V4 Int):Option ay :=
  some ({ v4 with Margin:=v13,Content:=v8 }:ay)
def lO (K:Kn) (n:Nat) (v3:Int) (v4:ay) (v8 v9:Int) (v10 v11:Int×Bool) (v12:Bool):Option ay :=
  if v12=true then
    gS K n v4 v8 ⟨v4.Margin.a0,(w64 ((w64 (v3 - v9)) - (w64 (Int.tdiv (w64 (v3 - v9)) 2)))),v4.Margin.a2,(w64 (Int.tdiv (w64 (v3 - v9)) 2))⟩
  else
    if (!v10.2)=true then
      gS K n v4 v8 ⟨v4.Margin.a0,v4.Margin.a1,v4.Margin.a2,(w64 (v3 - v9))⟩
    else
      if (!v11.2)=true then
        gS K n v4 v8 ⟨v4.Margin.a0,(w64 (v3 - v9)),v4.Margin.a2,v4.Margin.a3⟩
      else
        gS K n v4 v8 v4.Margin
def iM (K:Kn) (n:Nat) (v1:aE) (v3:Int) (v4:ay) (v7:Int):Option ay :=
  (ia K n v1 v3 v7).bind fun v8 =>
  (gq K n ({ v4 with Content:=v8 }:ay)).bind fun v9 =>
  (cW K n v1.Margin.a3 v3).bind fun v10 =>
  (cW K n v1.Margin.a1 v3).bind fun v11 =>
  if (decide ((w64 (v3 - v9))≤0))=true then
    some ({ v4 with Content:=v8 }:ay)
  else
    if (!v10.2)=true then
      lO K n v3 v4 v8 v9 v10 v11 (!v11.2)
    else
      lO K n v3 v4 v8 v9 v10 v11 false
def jl (K:Kn) (n:Nat) (v1:aE) (v2:Int):Option ay :=
  (dk K n v2).bind fun v3 =>
  (fH K n v1 v3 0).bind fun v4 =>
  (cW K n v1.Width v3).bind fun v5 =>
  if (!v5.2)=true then
    (gq K n v4).bind fun v6 =>
    iM K n v1 v3 v4 (w64 (v3 - v6))
  else
    iM K n v1 v3 v4 v5.1
def gI (K:Kn) (n:Nat) (v1:Int):Option ah :=
  some (⟨(max v1 0),(min v1 0)⟩:ah)
def f8 (K:Kn) (n:Nat) (v1:aQ) (v2 v3:Int):Option Int :=
  (cW K n v1 v2).bind fun v4 =>
  if (!v4.2)=true then
    some v3
  else
    some v4.1
def fk (K:Kn) (n:Nat) (v1 v2:Int):Option Int :=
  some (min (max v1 0) v2)
def rU (K:Kn) (n:Nat) (v27:Int) (v28 v29:List Int) (v33:Int) (L3:Int→(List Int)→(List Int)→Option (List Int)) (L4:Int→Int→Option (List Int)) (v35:Int):Option (List Int) :=
  L4 v35 (w64 (v33+1))
def rg (K:Kn) (n:Nat) (v27:Int) (v28 v29:List Int) (L3:Int→(List Int)→(List Int)→Option (List Int)) (L4:Int→Int→Option (List Int)) (v32 v33:Int):Option (List Int) :=
  if (decide (v33<(v29.length:Int)))=true then
    chk (inb v33 v29.length) (
    chk (inb v32 v29.length) (
    (some (decide ((List.getD v29 (v33).toNat default)>(List.getD v29 (v32).toNat default)))).bind fun v34 =>
    if v34=true then
      rU K n v27 v28 v29 v33 L3 L4 v33
    else
      rU K n v27 v28 v29 v33 L3 L4 v32))
  else
    chk (inb v32 v28.length) (
    chk (inb v32 v28.length) (
    (some (List.set v28 (v32).toNat (w64 ((List.getD v28 (v32).toNat default)+1)))).bind fun v36 =>
    chk (inb v32 v29.length) (
    L3 (w64 (v27 - 1)) v36 (List.set v29 (v32).toNat (-1)))))
def oa (K:Kn) (n:Nat) (v27:Int) (v28 v29:List Int) (L3:Int→(List Int)→(List Int)→Option (List Int)):Nat→Int→Int→Option (List Int)
  | 0=>fun _ _=>none
  | m+1=>rg K n v27 v28 v29 L3 (oa K n v27 v28 v29 L3 m)
def qK (K:Kn) (n:Nat) (L3:Int→(List Int)→(List Int)→Option (List Int)) (v27:Int) (v28 v29:List Int):Option (List Int) :=
  if (decide (v27>0))=true then
    oa K n v27 v28 v29 L3 n 0 1
  else
    some v28
def jW (K:Kn) (n:Nat):Nat→Int→(List Int)→(List Int)→Option (List Int)
  | 0=>fun _ _ _=>none
  | m+1=>qK K n (jW K n m)
def qD (K:Kn) (n:Nat) (v2:List Int) (v3 v5:Int) (L2:Int→Int→(List Int)→(List Int)→Option (List Int)) (v13 v14:Int) (v15 v16:List Int):Option (List Int) :=
  if (decide (v14<(v2.length:Int)))=true then
    chk (inb v14 v2.length) (
    (fk K n (List.getD v2 (v14).toNat default) 2147483647).bind fun v17 =>
    chk ((v5 != 0)) (
    chk (inb v14 v15.length) (
    (some (List.set v15 (v14).toNat (w64 (Int.tdiv (w64 (v3*v17)) v5)))).bind fun v18 =>
    chk ((v5 != 0)) (
    chk (inb v14 v16.length) (
    (some (List.set v16 (v14).toNat (Int.tmod (w64 (v3*v17)) v5))).bind fun v19 =>
    chk (inb v14 v18.length) (
    L2 (w64 (v13 - (List.getD v18 (v14).toNat default))) (w64 (v14+1)) v18 v19))))))
  else
    jW K n n v13 v15 v16
def mq (K:Kn) (n:Nat) (v2:List Int) (v3 v5:Int):Nat→Int→Int→(List Int)→(List Int)→Option (List Int)
  | 0=>fun _ _ _ _=>none
  | m+1=>qD K n v2 v3 v5 (mq K n v2 v3 v5 m)
def qG (K:Kn) (n:Nat) (v2:List Int) (v3:Int) (L1:Int→Int→Option (List Int)) (v5 v6:Int):Option (List Int) :=
  if (decide (v6<(v2.length:Int)))=true then
    chk (inb v6 v2.length) (
    (fk K n (List.getD v2 (v6).toNat default) 2147483647).bind fun v7 =>
    L1 (w64 (v5+v7)) (w64 (v6+1)))
  else
    chk (mkb (v2.length:Int) 8) (
    (some (List.replicate ((v2.length:Int)).toNat (0:Int))).bind fun v8 =>
    chk (mkb (v2.length:Int) 8) (
    (some (List.replicate ((v2.length:Int)).toNat (0:Int))).bind fun v9 =>
    if (v5 == 0)=true then
      some v8
    else
      mq K n v2 v3 v5 n v3 0 v8 v9))
def qa (K:Kn) (n:Nat) (v2:List Int) (v3:Int):Nat→Int→Int→Option (List Int)
  | 0=>fun _ _=>none
  | m+1=>qG K n v2 v3 (qa K n v2 v3 m)
def rB (K:Kn) (n:Nat) (v1:Int) (v2:List Int):Option (List Int) :=
  (fk K n v1 2147483647).bind fun v3 =>
  qa K n v2 v3 n 0 0
def qX (K:Kn) (n:Nat) (v1:aw):Option aw :=
  (fk K n v1.Base 1048576).bind fun v2 =>
  (fk K n v1.Min 1048576).bind fun v3 =>
  (fk K n v1.Max 1048576).bind fun v4 =>
  (fk K n v1.Grow 1048576).bind fun v5 =>
  (fk K n v1.Shrink 1048576).bind fun v6 =>
  some (⟨v2,v5,v6,v3,(max v4 v3)⟩:aw)
def o5 (K:Kn) (n:Nat) (v1:aw):Option Int :=
  (qX K n v1).bind fun v2 =>
  some (min (max v2.Base v2.Min) v2.Max)
def su (K:Kn) (n:Nat) (v2 v7:Int) (v9:List aw) (v10:List Int) (v20:Int) (v21:List Bool) (v23:Bool) (L2:Int→Int→(List Bool)→Option (List Int)) (v24:Int):Option (List Int) :=
  L2 v24 (w64 (v20+1)) (v21++[v23])
def mi (K:Kn) (n:Nat) (v2 v7:Int) (v9:List aw) (v10:List Int) (v19 v20:Int) (v21:List Bool) (L2:Int→Int→(List Bool)→Option (List Int)) (v23:Bool):Option (List Int) :=
  chk (fits (v21.length+([v23]:(List Bool)).length) 1) (
  if (!v23)=true then
    su K n v2 v7 v9 v10 v20 v21 v23 L2 (w64 (v19+1))
  else
    su K n v2 v7 v9 v10 v20 v21 v23 L2 v19)
def sx (K:Kn) (n:Nat) (v2 v7:Int) (v9:List aw) (v10:List Int) (v19 v20:Int) (v21:List Bool) (L2:Int→Int→(List Bool)→Option (List Int)) (v22:Bool):Option (List Int) :=
  if (decide (v7<v2))=true then
    chk (inb v20 v9.length) (
    if (((List.getD v9 (v20).toNat default).Grow) == 0)=true then
      mi K n v2 v7 v9 v10 v19 v20 v21 L2 true
    else
      chk (inb v20 v9.length) (
      chk (inb v20 v10.length) (
      mi K n v2 v7 v9 v10 v19 v20 v21 L2 (decide (((List.getD v9 (v20).toNat default).Base)>(List.getD v10 (v20).toNat default))))))
  else
    mi K n v2 v7 v9 v10 v19 v20 v21 L2 v22
def rr (K:Kn) (n:Nat) (v2 v7:Int) (v9:List aw) (v78:Int) (v79:List Int) (v80:List Bool) (v92:Int) (L3:Int→(List Int)→(List Bool)→Option (List Int)) (L4:Int→Int→Int→(List Int)→Option (List Int)) (v99 v100:Int) (v101:List Int):Option (List Int) :=
  L4 v99 v100 (w64 (v92+1)) v101
def sy (K:Kn) (n:Nat) (v2 v7:Int) (v9:List aw) (v78:Int) (v79:List Int) (v80:List Bool) (v92 v94:Int) (L3:Int→(List Int)→(List Bool)→Option (List Int)) (L4:Int→Int→Int→(List Int)→Option (List Int)) (v97:Int) (v98:List Int):Option (List Int) :=
  rr K n v2 v7 v9 v78 v79 v80 v92 L3 L4 v94 v97 v98
def sO (K:Kn) (n:Nat) (v2 v7:Int) (v9:List aw) (v78:Int) (v80:List Bool) (v104:List Int) (v113:Int) (L3:Int→(List Int)→(List Bool)→Option (List Int)) (L5:Int→Int→(List Int)→(List Int)→Option (List Int)) (v119:Int) (v120 v121:List Int):Option (List Int) :=
  L5 v119 (w64 (v113+1)) v120 v121
def rH (K:Kn) (n:Nat) (v2 v7:Int) (v9:List aw) (v78:Int) (v80:List Bool) (v104:List Int) (v112 v113:Int) (v115:List Int) (L3:Int→(List Int)→(List Bool)→Option (List Int)) (L5:Int→Int→(List Int)→(List Int)→Option (List Int)) (v117:List Int):Option (List Int) :=
  chk (inb v113 v117.length) (
  chk (inb v113 v9.length) (
  chk (inb v113 v9.length) (
  chk (inb v113 v115.length) (
  (some (List.set v115 (v113).toNat (min (max (List.getD v117 (v113).toNat default) ((List.getD v9 (v113).toNat default).Min)) ((List.getD v9 (v113).toNat default).Max)))).bind fun v118 =>
  chk (inb v113 v118.length) (
  chk (inb v113 v117.length) (
  sO K n v2 v7 v9 v78 v80 v104 v113 L3 L5 (w64 (v112+(w64 ((List.getD v118 (v113).toNat default) - (List.getD v117 (v113).toNat default))))) v117 v118))))))
def qy (K:Kn) (n:Nat) (v2 v7:Int) (v9:List aw) (v112:Int) (v115:List Int) (v127:Int) (L3:Int→(List Int)→(List Bool)→Option (List Int)) (L6:Int→Int→(List Int)→(List Bool)→Option (List Int)) (v131:Int) (v132:List Int) (v133:List Bool):Option (List Int) :=
  L6 v131 (w64 (v127+1)) v132 v133
def im (K:Kn) (n:Nat) (v2 v7:Int) (v9:List aw) (v112:Int) (v115:List Int) (v126 v127:Int) (v128:List Int) (v129:List Bool) (L3:Int→(List Int)→(List Bool)→Option (List Int)) (L6:Int→Int→(List Int)→(List Bool)→Option (List Int)) (v130:Bool):Option (List Int) :=
  if v130=true then
    chk (inb v127 v129.length) (
    chk (inb v127 v115.length) (
    chk (inb v127 v128.length) (
    qy K n v2 v7 v9 v112 v115 v127 L3 L6 (w64 (v126 - 1)) (List.set v128 (v127).toNat (List.getD v115 (v127).toNat default)) (List.set v129 (v127).toNat true))))
  else
    qy K n v2 v7 v9 v112 v115 v127 L3 L6 v126 v128 v129
def q9 (K:Kn) (n:Nat) (v2 v7:Int) (v9:List aw) (v112:Int) (v115:List Int) (L3:Int→(List Int)→(List Bool)→Option (List Int)) (L6:Int→Int→(List Int)→(List Bool)→Option (List Int)) (v126 v127:Int) (v128:List Int) (v129:List Bool):Option (List Int) :=
  if (decide (v127<(v9.length:Int)))=true then
    chk (inb v127 v129.length) (
    if (!(List.getD v129 (v127).toNat default))=true then
      if (v112 == 0)=true then
        im K n v2 v7 v9 v112 v115 v126 v127 v128 v129 L3 L6 true
      else
        if (decide (v112>0))=true then
          chk (inb v127 v115.length) (
          chk (inb v127 v128.length) (
          if (decide ((List.getD v115 (v127).toNat default)>(List.getD v128 (v127).toNat default)))=true then
            im K n v2 v7 v9 v112 v115 v126 v127 v128 v129 L3 L6 true
          else
            if (decide (v112<0))=true then
              chk (inb v127 v115.length) (
              chk (inb v127 v128.length) (
              im K n v2 v7 v9 v112 v115 v126 v127 v128 v129 L3 L6 (decide ((List.getD v115 (v127).toNat default)<(List.getD v128 (v127).toNat default)))))
            else
              im K n v2 v7 v9 v112 v115 v126 v127 v128 v129 L3 L6 false))
        else
          if (decide (v112<0))=true then
            chk (inb v127 v115.length) (
            chk (inb v127 v128.length) (
            im K n v2 v7 v9 v112 v115 v126 v127 v128 v129 L3 L6 (decide ((List.getD v115 (v127).toNat default)<(List.getD v128 (v127).toNat default)))))
          else
            im K n v2 v7 v9 v112 v115 v126 v127 v128 v129 L3 L6 false
    else
      im K n v2 v7 v9 v112 v115 v126 v127 v128 v129 L3 L6 false)
  else
    L3 v126 v128 v129
def j4 (K:Kn) (n:Nat) (v2 v7:Int) (v9:List aw) (v112:Int) (v115:List Int) (L3:Int→(List Int)→(List Bool)→Option (List Int)):Nat→Int→Int→(List Int)→(List Bool)→Option (List Int)
  | 0=>fun _ _ _ _=>none
  | m+1=>q9 K n v2 v7 v9 v112 v115 L3 (j4 K n v2 v7 v9 v112 v115 L3 m)
def rm (K:Kn) (n:Nat) (v2 v7:Int) (v9:List aw) (v78:Int) (v80:List Bool) (v104:List Int) (L3:Int→(List Int)→(List Bool)→Option (List Int)) (L5:Int→Int→(List Int)→(List Int)→Option (List Int)) (v112 v113:Int) (v114 v115:List Int):Option (List Int) :=
  if (decide (v113<(v9.length:Int)))=true then
    chk (inb v113 v80.length) (
    if (List.getD v80 (v113).toNat default)=true then
      sO K n v2 v7 v9 v78 v80 v104 v113 L3 L5 v112 v114 v115
    else
      chk (inb v113 v9.length) (
      chk (inb v113 v104.length) (
      chk (inb v113 v114.length) (
      (some (List.set v114 (v113).toNat (w64 (((List.getD v9 (v113).toNat default).Base) - (List.getD v104 (v113).toNat default))))).bind fun v116 =>
      if (decide (v7<v2))=true then
        chk (inb v113 v9.length) (
        chk (inb v113 v104.length) (
        chk (inb v113 v116.length) (
        rH K n v2 v7 v9 v78 v80 v104 v112 v113 v115 L3 L5 (List.set v116 (v113).toNat (w64 (((List.getD v9 (v113).toNat default).Base)+(List.getD v104 (v113).toNat default)))))))
      else
        rH K n v2 v7 v9 v78 v80 v104 v112 v113 v115 L3 L5 v116))))
  else
    j4 K n v2 v7 v9 v112 v115 L3 n v78 0 v114 v80
def mn (K:Kn) (n:Nat) (v2 v7:Int) (v9:List aw) (v78:Int) (v80:List Bool) (v104:List Int) (L3:Int→(List Int)→(List Bool)→Option (List Int)):Nat→Int→Int→(List Int)→(List Int)→Option (List Int)
  | 0=>fun _ _ _ _=>none
  | m+1=>rm K n v2 v7 v9 v78 v80 v104 L3 (mn K n v2 v7 v9 v78 v80 v104 L3 m)
def jk (K:Kn) (n:Nat) (v2 v7:Int) (v9:List aw) (v78:Int) (v79:List Int) (v80:List Bool) (v93:List Int) (L3:Int→(List Int)→(List Bool)→Option (List Int)) (v103:Int):Option (List Int) :=
  (rB K n v103 v93).bind fun v104 =>
  chk (mkb (v9.length:Int) 8) (
  mn K n v2 v7 v9 v78 v80 v104 L3 n 0 0 v79 (List.replicate ((v9.length:Int)).toNat (0:Int)))
def sB (K:Kn) (n:Nat) (v2 v7:Int) (v9:List aw) (v78:Int) (v79:List Int) (v80:List Bool) (v91:Int) (v93:List Int) (L3:Int→(List Int)→(List Bool)→Option (List Int)) (v102:Int):Option (List Int) :=
  if (decide (v91<1000))=true then
    jk K n v2 v7 v9 v78 v79 v80 v93 L3 (w64 (Int.tdiv (w64 ((max v102 0)*v91)) 1000))
  else
    jk K n v2 v7 v9 v78 v79 v80 v93 L3 (max v102 0)
def sa (K:Kn) (n:Nat) (v2 v7:Int) (v9:List aw) (v78:Int) (v79:List Int) (v80:List Bool) (L3:Int→(List Int)→(List Bool)→Option (List Int)) (L4:Int→Int→Int→(List Int)→Option (List Int)) (v90 v91 v92:Int) (v93:List Int):Option (List Int) :=
  if (decide (v92<(v9.length:Int)))=true then
    chk (inb v92 v80.length) (
    if (List.getD v80 (v92).toNat default)=true then
      chk (inb v92 v79.length) (
      rr K n v2 v7 v9 v78 v79 v80 v92 L3 L4 (w64 (v90 - (List.getD v79 (v92).toNat default))) v91 v93)
    else
      chk (inb v92 v9.length) (
      (some (w64 (v90 - ((List.getD v9 (v92).toNat default).Base)))).bind fun v94 =>
      chk (inb v92 v9.length) (
      chk (inb v92 v9.length) (
      chk (inb v92 v93.length) (
      (some (List.set v93 (v92).toNat (w64 (Int.tdiv (w64 (((List.getD v9 (v92).toNat default).Base)*((List.getD v9 (v92).toNat default).Shrink))) 1000)))).bind fun v95 =>
      if (decide (v7<v2))=true then
        chk (inb v92 v9.length) (
        chk (inb v92 v95.length) (
        (some (List.set v95 (v92).toNat ((List.getD v9 (v92).toNat default).Grow))).bind fun v96 =>
        chk (inb v92 v9.length) (
        sy K n v2 v7 v9 v78 v79 v80 v92 v94 L3 L4 (w64 (v91+((List.getD v9 (v92).toNat default).Grow))) v96)))
      else
        chk (inb v92 v9.length) (
        sy K n v2 v7 v9 v78 v79 v80 v92 v94 L3 L4 (w64 (v91+((List.getD v9 (v92).toNat default).Shrink))) v95))))))
  else
    if (!(decide (v7<v2)))=true then
      sB K n v2 v7 v9 v78 v79 v80 v91 v93 L3 (w64 (0 - v90))
    else
      sB K n v2 v7 v9 v78 v79 v80 v91 v93 L3 v90
def nL (K:Kn) (n:Nat) (v2 v7:Int) (v9:List aw) (v78:Int) (v79:List Int) (v80:List Bool) (L3:Int→(List Int)→(List Bool)→Option (List Int)):Nat→Int→Int→Int→(List Int)→Option (List Int)
  | 0=>fun _ _ _ _=>none
  | m+1=>sa K n v2 v7 v9 v78 v79 v80 L3 (nL K n v2 v7 v9 v78 v79 v80 L3 m)
def qt (K:Kn) (n:Nat) (v2 v7:Int) (v9:List aw) (L3:Int→(List Int)→(List Bool)→Option (List Int)) (v78:Int) (v79:List Int) (v80:List Bool):Option (List Int) :=
  if (decide (v78>0))=true then
    chk (mkb (v9.length:Int) 8) (
    nL K n v2 v7 v9 v78 v79 v80 L3 n v2 0 0 (List.replicate ((v9.length:Int)).toNat (0:Int)))
  else
    some v79
def go (K:Kn) (n:Nat) (v2 v7:Int) (v9:List aw):Nat→Int→(List Int)→(List Bool)→Option (List Int)
  | 0=>fun _ _ _=>none
  | m+1=>qt K n v2 v7 v9 (go K n v2 v7 v9 m)
def qH (K:Kn) (n:Nat) (v2 v7:Int) (v9:List aw) (v10:List Int) (L2:Int→Int→(List Bool)→Option (List Int)) (v19 v20:Int) (v21:List Bool):Option (List Int) :=
  if (decide (v20<(v9.length:Int)))=true then
    chk (inb v20 v9.length) (
    if (((List.getD v9 (v20).toNat default).Shrink) == 0)=true then
      sx K n v2 v7 v9 v10 v19 v20 v21 L2 true
    else
      chk (inb v20 v9.length) (
      chk (inb v20 v10.length) (
      sx K n v2 v7 v9 v10 v19 v20 v21 L2 (decide (((List.getD v9 (v20).toNat default).Base)<(List.getD v10 (v20).toNat default))))))
  else
    go K n v2 v7 v9 n v19 v10 v21
def lS (K:Kn) (n:Nat) (v2 v7:Int) (v9:List aw) (v10:List Int):Nat→Int→Int→(List Bool)→Option (List Int)
  | 0=>fun _ _ _=>none
  | m+1=>qH K n v2 v7 v9 v10 (lS K n v2 v7 v9 v10 m)
def qM (K:Kn) (n:Nat) (v1:List aw) (v2:Int) (L1:Int→Int→(List aw)→(List Int)→Option (List Int)) (v7 v8:Int) (v9:List aw) (v10:List Int):Option (List Int) :=
  if (decide (v8<(v1.length:Int)))=true then
    chk (inb v8 v1.length) (
    (qX K n (List.getD v1 (v8).toNat default)).bind fun v11 =>
    chk (fits (v9.length+([v11]:(List aw)).length) 40) (
    chk (inb v8 v1.length) (
    (o5 K n (List.getD v1 (v8).toNat default)).bind fun v12 =>
    chk (fits (v10.length+([v12]:(List Int)).length) 8) (
    chk (inb v8 (v10++[v12]).length) (
    L1 (w64 (v7+(List.getD (v10++[v12]) (v8).toNat default))) (w64 (v8+1)) (v9++[v11]) (v10++[v12]))))))
  else
    lS K n v2 v7 v9 v10 n 0 0 []
def pN (K:Kn) (n:Nat) (v1:List aw) (v2:Int):Nat→Int→Int→(List aw)→(List Int)→Option (List Int)
  | 0=>fun _ _ _ _=>none
  | m+1=>qM K n v1 v2 (pN K n v1 v2 m)
def iW (K:Kn) (n:Nat) (v1:List aw) (v2:Int):Option (List Int) :=
  pN K n v1 v2 n 0 0 [] []
def l6 (K:Kn) (n:Nat) (v1:List ab) (v2:aE) (v3 v11:Int) (L1:Int→Int→(List aa)→Option ((List aa)×Int)) (v14:Int) (v15:List aa):Option ((List aa)×Int) :=
  L1 v14 (w64 (v11+1)) v15
def kp (K:Kn) (n:Nat) (v1:List ab) (v2:aE) (v3:Int) (L1:Int→Int→(List aa)→Option ((List aa)×Int)) (v10 v11:Int) (v12:List aa):Option ((List aa)×Int) :=
  if (decide (v11<(v1.length:Int)))=true then
    chk (inb v11 v1.length) (
    (some (!(((List.getD v1 (v11).toNat default).Text).toList == (⟨#[]⟩:ByteArray).toList))).bind fun v13 =>
    if v13=true then
      chk (inb v11 v1.length) (
      chk (fits (v12.length+([({ bv with Kind:=2,Y:=v10,W:=v3,H:=v2.LineHeight,Text:=(List.getD v1 (v11).toNat default).Text }:aa)]:(List aa)).length) 584) (
      l6 K n v1 v2 v3 v11 L1 (w64 (v10+v2.LineHeight)) (v12++[({ bv with Kind:=2,Y:=v10,W:=v3,H:=v2.LineHeight,Text:=(List.getD v1 (v11).toNat default).Text }:aa)])))
    else
      l6 K n v1 v2 v3 v11 L1 v10 v12)
  else
    some (v12,v10)
def lE (K:Kn) (n:Nat) (v1:List ab) (v2:aE) (v3:Int):Nat→Int→Int→(List aa)→Option ((List aa)×Int)
  | 0=>fun _ _ _=>none
  | m+1=>kp K n v1 v2 v3 (lE K n v1 v2 v3 m)
def iC (K:Kn) (n:Nat) (v1:List ab) (v2:aE) (v3:Int):Option ((List aa)×Int) :=
  lE K n v1 v2 v3 n 0 0 []
def jY (K:Kn) (n:Nat) (v1:ab) (v8:Int) (L1:Int→(List ab)→Option (List ab)) (v11:List ab):Option (List ab) :=
  L1 (w64 (v8+1)) v11
def lv (K:Kn) (n:Nat) (v1:ab) (L1:Int→(List ab)→Option (List ab)) (v8:Int) (v9:List ab):Option (List ab) :=
  if (decide (v8<(v1.Kids.length:Int)))=true then
    chk (inb v8 v1.Kids.length) (
    (i7 K n (List.getD v1.Kids (v8).toNat default)).bind fun v10 =>
    if v10=true then
      chk (inb v8 v1.Kids.length) (
      chk (fits (v9.length+([(List.getD v1.Kids (v8).toNat default)]:(List ab)).length) 520) (
      jY K n v1 v8 L1 (v9++[(List.getD v1.Kids (v8).toNat default)])))
    else
      jY K n v1 v8 L1 v9)
  else
    some v9
def kG (K:Kn) (n:Nat) (v1:ab):Nat→Int→(List ab)→Option (List ab)
  | 0=>fun _ _=>none
  | m+1=>lv K n v1 (kG K n v1 m)
def iQ (K:Kn) (n:Nat) (v1:ab):Option (List ab) :=
  kG K n v1 n 0 []
def lq (K:Kn) (n:Nat) (v1:aa) (v3:Int×Bool) (v5:Int):Option aa :=
  some ({ v1 with X:=(w64 (v1.X+v3.1)),Y:=v5 }:aa)
def jf (K:Kn) (n:Nat) (v1:aa) (v2:Int):Option aa :=
  if (v1.Style.Position != 1)=true then
    some v1
  else
    (cW K n v1.Style.Left v2).bind fun v3 =>
    if (v1.Style.Top.Kind == 1)=true then
      (cW K n v1.Style.Top 0).bind fun v4 =>
      lq K n v1 v3 (w64 (v1.Y+v4.1))
    else
      lq K n v1 v3 v1.Y
def i8 (K:Kn) (n:Nat) (v1:aQ):Option (Int×Bool) :=
  if (v1.Kind != 1)=true then
    some (0,false)
  else
    (gh K n v1.Value).bind fun v2 =>
    some ((max v2 0),true)
def dr (K:Kn) (n:Nat) (v1:ah):Option Int :=
  some (w64 (v1.Pos+v1.Neg))
def lY (K:Kn) (n:Nat) (v2:List ab) (L1:Int→Option Bool) (v4:Int):Option Bool :=
  if (decide (v4<(v2.length:Int)))=true then
    chk (inb v4 v2.length) (
    (some (((List.getD v2 (v4).toNat default).Kind) == 1)).bind fun v5 =>
    if v5=true then
      some true
    else
      L1 (w64 (v4+1)))
  else
    some false
def lw (K:Kn) (n:Nat) (v2:List ab):Nat→Int→Option Bool
  | 0=>fun _=>none
  | m+1=>lY K n v2 (lw K n v2 m)
def jM (K:Kn) (n:Nat) (v1:ab):Option Bool :=
  (iQ K n v1).bind fun v2 =>
  lw K n v2 n 0
def fG (K:Kn) (n:Nat) (v1 v2:ah):Option ah :=
  some (⟨(max v1.Pos v2.Pos),(min v1.Neg v2.Neg)⟩:ah)
def ke (K:Kn) (n:Nat) (v1:List aa) (v16:Int) (v21:List aa) (v24:Int) (L1:Int→Int→ah→Bool→ah→(List aa)→Option bZ) (v26:Int) (v27:ah) (v28:Bool) (v29:ah):Option bZ :=
  chk (fits (v21.length+([({ (List.getD v1 (v16).toNat default) with Y:=v24 }:aa)]:(List aa)).length) 584) (
  L1 (w64 (v16+1)) v26 v27 v28 v29 (v21++[({ (List.getD v1 (v16).toNat default) with Y:=v24 }:aa)]))
def li (K:Kn) (n:Nat) (v1:List aa) (v16 v17:Int) (v19:Bool) (v21:List aa) (v22:ah) (v24:Int) (L1:Int→Int→ah→Bool→ah→(List aa)→Option bZ) (v25:ah):Option bZ :=
  ke K n v1 v16 v21 v24 L1 (w64 (v24+((List.getD v1 (v16).toNat default).H))) v25 false ((List.getD v1 (v16).toNat default).After)
def lk (K:Kn) (n:Nat) (v1:List aa) (v16 v17:Int) (v18:ah) (v19:Bool) (v21:List aa) (v22:ah) (L1:Int→Int→ah→Bool→ah→(List aa)→Option bZ) (v24:Int):Option bZ :=
  if (!(List.getD v1 (v16).toNat default).Empty)=true then
    if v19=true then
      li K n v1 v16 v17 v19 v21 v22 v24 L1 v22
    else
      li K n v1 v16 v17 v19 v21 v22 v24 L1 v18
  else
    ke K n v1 v16 v21 v24 L1 v17 v18 v19 v22
def j6 (K:Kn) (n:Nat) (v17:Int) (v19:Bool) (v20:ah) (v21:List aa) (v30:ah):Option bZ :=
  some (⟨v21,v17,v30,v20,v19⟩:bZ)
def kC (K:Kn) (n:Nat) (v1:List aa) (L1:Int→Int→ah→Bool→ah→(List aa)→Option bZ) (v16 v17:Int) (v18:ah) (v19:Bool) (v20:ah) (v21:List aa):Option bZ :=
  if (decide (v16<(v1.length:Int)))=true then
    chk (inb v16 v1.length) (
    (fG K n v20 ((List.getD v1 (v16).toNat default).Before)).bind fun v22 =>
    if (!v19)=true then
      (dr K n v22).bind fun v23 =>
      lk K n v1 v16 v17 v18 v19 v21 v22 L1 (w64 (v17+v23))
    else
      lk K n v1 v16 v17 v18 v19 v21 v22 L1 0)
  else
    if v19=true then
      j6 K n v17 v19 v20 v21 v20
    else
      j6 K n v17 v19 v20 v21 v18
def ky (K:Kn) (n:Nat) (v1:List aa):Nat→Int→Int→ah→Bool→ah→(List aa)→Option bZ
  | 0=>fun _ _ _ _ _ _=>none
  | m+1=>kC K n v1 (ky K n v1 m)
def lR (K:Kn) (n:Nat) (v1:List aa):Option bZ :=
  ky K n v1 n 0 0 cR true cR []
def kS (K:Kn) (n:Nat) (v1:ab) (v2:ay) (v4:Int) (v5:Bool) (v14:Int) (v15 v16:ah) (v17:Bool) (v18:List aa) (v28:Int) (v37 v38:ah) (v39:Bool) (v59 v60:Int) (v61:List aa) (L2:Int→Int→(List aa)→Option aa) (v65:aa):Option aa :=
  chk (fits (v61.length+([v65]:(List aa)).length) 584) (
  L2 (w64 (v59+1)) v60 (v61++[v65]))
def kx (K:Kn) (n:Nat) (v1:ab) (v2:ay) (v4:Int) (v5:Bool) (v14:Int) (v15 v16:ah) (v17:Bool) (v18:List aa) (v28:Int) (v37 v38:ah) (v39:Bool) (L2:Int→Int→(List aa)→Option aa) (v59 v60:Int) (v61:List aa):Option aa :=
  if (decide (v59<(v18.length:Int)))=true then
    chk (inb v59 v18.length) (
    (some (w64 (((List.getD v18 (v59).toNat default).X)+(w64 (v2.Border.a3+v2.Padding.a3))))).bind fun v62 =>
    (some (w64 (((List.getD v18 (v59).toNat default).Y)+(w64 ((w64 (v2.Border.a0+v2.Padding.a0))+v28))))).bind fun v63 =>
    if v5=true then
      (jf K n ({ (List.getD v18 (v59).toNat default) with X:=v62,Y:=v63 }:aa) v2.Content).bind fun v64 =>
      kS K n v1 v2 v4 v5 v14 v15 v16 v17 v18 v28 v37 v38 v39 v59 v60 v61 L2 v64
    else
      kS K n v1 v2 v4 v5 v14 v15 v16 v17 v18 v28 v37 v38 v39 v59 v60 v61 L2 ({ (List.getD v18 (v59).toNat default) with X:=v62,Y:=v63 }:aa))
  else
    some (⟨1,v1.Node,v2.Margin.a3,0,v4,v60,0,⟨#[]⟩,v1.Style,v37,v38,v39,v61⟩:aa)
def lU (K:Kn) (n:Nat) (v1:ab) (v2:ay) (v4:Int) (v5:Bool) (v14:Int) (v15 v16:ah) (v17:Bool) (v18:List aa) (v28:Int) (v37 v38:ah) (v39:Bool):Nat→Int→Int→(List aa)→Option aa
  | 0=>fun _ _ _=>none
  | m+1=>kx K n v1 v2 v4 v5 v14 v15 v16 v17 v18 v28 v37 v38 v39 (lU K n v1 v2 v4 v5 v14 v15 v16 v17 v18 v28 v37 v38 v39 m)
def jp (K:Kn) (n:Nat) (v1:ab) (v2:ay) (v4:Int) (v5:Bool) (v14:Int) (v15 v16:ah) (v17:Bool) (v18:List aa) (v28:Int) (v37 v38:ah) (v39:Bool) (v40:Int):Option aa :=
  lU K n v1 v2 v4 v5 v14 v15 v16 v17 v18 v28 v37 v38 v39 n 0 (w64 ((w64 ((w64 ((w64 (v40+v2.Border.a0))+v2.Border.a2))+v2.Padding.a0))+v2.Padding.a2)) []
def fi (K:Kn) (n:Nat) (v1:ab) (v2:ay) (v4:Int) (v5:Bool) (v14:Int) (v15 v16:ah) (v17:Bool) (v18:List aa) (v19:Int×Bool) (v28 v36:Int) (v37 v38:ah) (v39:Bool):Option aa :=
  if v19.2=true then
    jp K n v1 v2 v4 v5 v14 v15 v16 v17 v18 v28 v37 v38 v39 v19.1
  else
    jp K n v1 v2 v4 v5 v14 v15 v16 v17 v18 v28 v37 v38 v39 (max v36 0)
def lP (K:Kn) (n:Nat) (v1:ab) (v2:ay) (v4:Int) (v5:Bool) (v14:Int) (v15 v16:ah) (v17:Bool) (v18:List aa) (v19:Int×Bool) (v21 v22:Bool) (v24:ah) (v28:Int) (v29:ah) (v33:Bool):Option aa :=
  if v33=true then
    (fG K n v29 v24).bind fun v34 =>
    fi K n v1 v2 v4 v5 v14 v15 v16 v17 v18 v19 v28 0 v34 v34 true
  else
    if v22=true then
      (fG K n v24 v15).bind fun v35 =>
      fi K n v1 v2 v4 v5 v14 v15 v16 v17 v18 v19 v28 0 v29 v35 false
    else
      if (!v21)=true then
        fi K n v1 v2 v4 v5 v14 v15 v16 v17 v18 v19 v28 v28 v29 v24 false
      else
        fi K n v1 v2 v4 v5 v14 v15 v16 v17 v18 v19 v28 0 v29 v24 false
def l7 (K:Kn) (n:Nat) (v1:ab) (v2:ay) (v4:Int) (v5:Bool) (v14:Int) (v15 v16:ah) (v17:Bool) (v18:List aa) (v19:Int×Bool) (v21 v22:Bool) (v24:ah) (v28:Int) (v29:ah) (v30:Bool):Option aa :=
  if v30=true then
    (fG K n v24 v16).bind fun v31 =>
    fi K n v1 v2 v4 v5 v14 v15 v16 v17 v18 v19 v28 (w64 (v28+v14)) v29 v31 false
  else
    if (!v17)=true then
      (dr K n v16).bind fun v32 =>
      fi K n v1 v2 v4 v5 v14 v15 v16 v17 v18 v19 v28 (w64 ((w64 (v28+v14))+v32)) v29 v24 false
    else
      if v21=true then
        lP K n v1 v2 v4 v5 v14 v15 v16 v17 v18 v19 v21 v22 v24 v28 v29 v22
      else
        lP K n v1 v2 v4 v5 v14 v15 v16 v17 v18 v19 v21 v22 v24 v28 v29 false
def jw (K:Kn) (n:Nat) (v1:ab) (v2:ay) (v4:Int) (v5:Bool) (v14:Int) (v15 v16:ah) (v17:Bool) (v18:List aa) (v19:Int×Bool) (v21 v22:Bool) (v24:ah) (v28:Int) (v29:ah):Option aa :=
  if (!v17)=true then
    l7 K n v1 v2 v4 v5 v14 v15 v16 v17 v18 v19 v21 v22 v24 v28 v29 v22
  else
    l7 K n v1 v2 v4 v5 v14 v15 v16 v17 v18 v19 v21 v22 v24 v28 v29 false
def ln (K:Kn) (n:Nat) (v1:ab) (v2:ay) (v4:Int) (v5:Bool) (v14:Int) (v15 v16:ah) (v17:Bool) (v18:List aa) (v19:Int×Bool) (v21 v22:Bool) (v23 v24:ah) (v26:Bool):Option aa :=
  if v26=true then
    (dr K n v15).bind fun v27 =>
    jw K n v1 v2 v4 v5 v14 v15 v16 v17 v18 v19 v21 v22 v24 v27 v23
  else
    jw K n v1 v2 v4 v5 v14 v15 v16 v17 v18 v19 v21 v22 v24 0 v23
def gi (K:Kn) (n:Nat) (v1:ab) (v2:ay) (v4:Int) (v5:Bool) (v14:Int) (v15 v16:ah) (v17:Bool) (v18:List aa) (v19:Int×Bool) (v21 v22:Bool):Option aa :=
  (gI K n v2.Margin.a0).bind fun v23 =>
  (gI K n v2.Margin.a2).bind fun v24 =>
  if v21=true then
    (fG K n v23 v15).bind fun v25 =>
    jw K n v1 v2 v4 v5 v14 v15 v16 v17 v18 v19 v21 v22 v24 0 v25
  else
    if (!v17)=true then
      ln K n v1 v2 v4 v5 v14 v15 v16 v17 v18 v19 v21 v22 v23 v24 true
    else
      ln K n v1 v2 v4 v5 v14 v15 v16 v17 v18 v19 v21 v22 v23 v24 (!v22)
def lQ (K:Kn) (n:Nat) (v1:ab) (v2:ay) (v4:Int) (v5:Bool) (v14:Int) (v15 v16:ah) (v17:Bool) (v18:List aa) (v19:Int×Bool) (v20 v21:Bool):Option aa :=
  if v20=true then
    if ((w64 (v2.Border.a2+v2.Padding.a2)) == 0)=true then
      gi K n v1 v2 v4 v5 v14 v15 v16 v17 v18 v19 v21 (!v19.2)
    else
      gi K n v1 v2 v4 v5 v14 v15 v16 v17 v18 v19 v21 false
  else
    gi K n v1 v2 v4 v5 v14 v15 v16 v17 v18 v19 v21 false
def kD (K:Kn) (n:Nat) (v1:ab) (v2:ay) (v4:Int) (v5:Bool) (v14:Int) (v15 v16:ah) (v17:Bool) (v18:List aa) (v19:Int×Bool) (v20:Bool):Option aa :=
  if v20=true then
    lQ K n v1 v2 v4 v5 v14 v15 v16 v17 v18 v19 v20 ((w64 (v2.Border.a0+v2.Padding.a0)) == 0)
  else
    lQ K n v1 v2 v4 v5 v14 v15 v16 v17 v18 v19 v20 false
def gj (K:Kn) (n:Nat) (v1:ab) (v2:ay) (v3:Bool) (v4:Int) (v5:Bool) (v14:Int) (v15 v16:ah) (v17:Bool) (v18:List aa):Option aa :=
  (i8 K n v1.Style.Height).bind fun v19 =>
  if v3=true then
    kD K n v1 v2 v4 v5 v14 v15 v16 v17 v18 v19 (v1.Style.Overflow == 0)
  else
    kD K n v1 v2 v4 v5 v14 v15 v16 v17 v18 v19 false
def lN (K:Kn) (n:Nat) (v1:ab) (v2:ay) (v3:Bool) (v4:Int) (v5:Bool) (v6:List ab) (L1:Int→(List aa)→Option aa) (v9:Int) (v10:List aa):Option aa :=
  if (decide (v9<(v6.length:Int)))=true then
    chk (inb v9 v6.length) (
    (K.dq (List.getD v6 (v9).toNat default) v2.Content).bind fun v11 =>
    chk (fits (v10.length+([v11]:(List aa)).length) 584) (
    L1 (w64 (v9+1)) (v10++[v11])))
  else
    (lR K n v10).bind fun v12 =>
    gj K n v1 v2 v3 v4 v5 v12.Height v12.Before v12.After v12.Through v12.List
def jI (K:Kn) (n:Nat) (v1:ab) (v2:ay) (v3:Bool) (v4:Int) (v5:Bool) (v6:List ab):Nat→Int→(List aa)→Option aa
  | 0=>fun _ _=>none
  | m+1=>lN K n v1 v2 v3 v4 v5 v6 (jI K n v1 v2 v3 v4 v5 v6 m)
def kR (K:Kn) (n:Nat) (v1:ab) (v2:ay) (v3:Bool):Option aa :=
  (some (w64 ((w64 ((w64 ((w64 (v2.Content+v2.Border.a1))+v2.Border.a3))+v2.Padding.a1))+v2.Padding.a3))).bind fun v4 =>
  (jM K n v1).bind fun v5 =>
  (iQ K n v1).bind fun v6 =>
  if v5=true then
    jI K n v1 v2 v3 v4 v5 v6 n 0 []
  else
    (iC K n v6 v1.Style v2.Content).bind fun v13 =>
    gj K n v1 v2 v3 v4 v5 v13.2 cR cR ((v13.1.length:Int) == 0) v13.1
def eY (K:Kn) (n:Nat) (v1:ab) (v2:Int):Option aa :=
  (jl K n v1.Style v2).bind fun v3 =>
  (kR K n v1 v3 true).bind fun v4 =>
  some v4
def pK (K:Kn) (n:Nat) (v1:aa):Option Int :=
  if v1.Empty=true then
    some 0
  else
    (dr K n v1.After).bind fun v2 =>
    some v2
def oP (K:Kn) (n:Nat) (v1:List ab) (v2:Int) (v3:Bool) (v31:Int) (v34:List aw) (v35:List Int) (v36:List aa) (v37:aa) (v39 v43:List Int) (v44:Int) (L1:Int→Int→(List Int)→(List Int)→(List aw)→(List Int)→(List aa)→Option ((List aa)×Int)) (v48:Int):Option ((List aa)×Int) :=
  chk (inb v31 v1.length) (
  chk (inb v31 v1.length) (
  chk (fits (v34.length+([(⟨v48,((List.getD v1 (v31).toNat default).Style).Grow,((List.getD v1 (v31).toNat default).Style).Shrink,0,1048576⟩:aw)]:(List aw)).length) 40) (
  (some (v34++[(⟨v48,((List.getD v1 (v31).toNat default).Style).Grow,((List.getD v1 (v31).toNat default).Style).Shrink,0,1048576⟩:aw)])).bind fun v49 =>
  chk (inb v31 v49.length) (
  (o5 K n (List.getD v49 (v31).toNat default)).bind fun v50 =>
  chk (fits (v35.length+([v50]:(List Int)).length) 8) (
  chk (fits (v36.length+([v37]:(List aa)).length) 584) (
  L1 v44 (w64 (v31+1)) v39 v43 v49 (v35++[v50]) (v36++[v37])))))))
def sM (K:Kn) (n:Nat) (v32 v33 v52:List Int) (L2:Int→Int→(List aa)→Option ((List aa)×Int)) (v56 v57:Int) (v58:List aa):Option ((List aa)×Int) :=
  if (decide (v57<(v58.length:Int)))=true then
    chk (inb v57 v52.length) (
    chk (inb v57 v32.length) (
    chk (inb v57 v58.length) (
    (some (List.set v58 (v57).toNat ({ (List.getD v58 (v57).toNat default) with H:=(w64 ((List.getD v52 (v57).toNat default)+(List.getD v32 (v57).toNat default))) }:aa))).bind fun v59 =>
    chk (inb v57 v59.length) (
    (dr K n ((List.getD v59 (v57).toNat default).Before)).bind fun v60 =>
    chk (inb v57 v59.length) (
    (some (List.set v59 (v57).toNat ({ (List.getD v59 (v57).toNat default) with Y:=(w64 (v56+v60)) }:aa))).bind fun v61 =>
    chk (inb v57 v52.length) (
    chk (inb v57 v33.length) (
    L2 (w64 (v56+(w64 ((List.getD v52 (v57).toNat default)+(List.getD v33 (v57).toNat default))))) (w64 (v57+1)) v61)))))))
  else
    some (v58,v56)
def oe (K:Kn) (n:Nat) (v32 v33 v52:List Int):Nat→Int→Int→(List aa)→Option ((List aa)×Int)
  | 0=>fun _ _ _=>none
  | m+1=>sM K n v32 v33 v52 (oe K n v32 v33 v52 m)
def gR (K:Kn) (n:Nat) (v32 v33:List Int) (v36:List aa) (v52:List Int):Option ((List aa)×Int) :=
  oe K n v32 v33 v52 n 0 0 v36
def sJ (K:Kn) (n:Nat) (v1:List ab) (v2:Int) (v3:Bool) (L1:Int→Int→(List Int)→(List Int)→(List aw)→(List Int)→(List aa)→Option ((List aa)×Int)) (v30 v31:Int) (v32 v33:List Int) (v34:List aw) (v35:List Int) (v36:List aa):Option ((List aa)×Int) :=
  if (decide (v31<(v1.length:Int)))=true then
    chk (inb v31 v1.length) (
    (eY K n (List.getD v1 (v31).toNat default) v2).bind fun v37 =>
    chk (inb v31 v1.length) (
    (fH K n ((List.getD v1 (v31).toNat default).Style) v2 0).bind fun v38 =>
    chk (fits (v32.length+([(w64 ((w64 ((w64 (v38.Border.a0+v38.Border.a2))+v38.Padding.a0))+v38.Padding.a2))]:(List Int)).length) 8) (
    (some (v32++[(w64 ((w64 ((w64 (v38.Border.a0+v38.Border.a2))+v38.Padding.a0))+v38.Padding.a2))])).bind fun v39 =>
    (dr K n v37.Before).bind fun v41 =>
    (pK K n v37).bind fun v42 =>
    chk (inb v31 v39.length) (
    chk (fits (v33.length+([(w64 ((w64 (v41+v42))+(List.getD v39 (v31).toNat default)))]:(List Int)).length) 8) (
    (some (v33++[(w64 ((w64 (v41+v42))+(List.getD v39 (v31).toNat default)))])).bind fun v43 =>
    chk (inb v31 v43.length) (
    (some (w64 (v30 - (List.getD v43 (v31).toNat default)))).bind fun v44 =>
    chk (inb v31 v39.length) (
    (some (w64 (v37.H - (List.getD v39 (v31).toNat default)))).bind fun v45 =>
    chk (inb v31 v1.length) (
    (some (((((List.getD v1 (v31).toNat default).Style).Basis).Kind) == 1)).bind fun v46 =>
    if v46=true then
      chk (inb v31 v1.length) (
      (f8 K n (((List.getD v1 (v31).toNat default).Style).Basis) 0 0).bind fun v47 =>
      oP K n v1 v2 v3 v31 v34 v35 v36 v37 v39 v43 v44 L1 v47)
    else
      oP K n v1 v2 v3 v31 v34 v35 v36 v37 v39 v43 v44 L1 v45))))))))
  else
    if v3=true then
      (iW K n v34 v30).bind fun v51 =>
      gR K n v32 v33 v36 v51
    else
      gR K n v32 v33 v36 v35
def mY (K:Kn) (n:Nat) (v1:List ab) (v2:Int) (v3:Bool):Nat→Int→Int→(List Int)→(List Int)→(List aw)→(List Int)→(List aa)→Option ((List aa)×Int)
  | 0=>fun _ _ _ _ _ _ _=>none
  | m+1=>sJ K n v1 v2 v3 (mY K n v1 v2 v3 m)
def pk (K:Kn) (n:Nat) (v1:List ab) (v2:Int) (v3:Bool) (v4:Int):Option ((List aa)×Int) :=
  mY K n v1 v2 v3 n v4 0 [] [] [] [] []
def oC (K:Kn) (n:Nat) (v1:List Int) (v2 v4:Int) (L1:Int→Int→(List Int)→Option (List Int)) (v7:Int) (v8:List Int):Option (List Int) :=
  chk (inb v4 v1.length) (
  L1 (w64 (v7+(List.getD v1 (v4).toNat default))) (w64 (v4+1)) v8)
def o7 (K:Kn) (n:Nat) (v1:List Int) (v2 v3 v4:Int) (v5:List Int) (L1:Int→Int→(List Int)→Option (List Int)) (v6:Bool):Option (List Int) :=
  if v6=true then
    chk (fits (v5.length+([v4]:(List Int)).length) 8) (
    oC K n v1 v2 v4 L1 0 (v5++[v4]))
  else
    oC K n v1 v2 v4 L1 v3 v5
def oy (K:Kn) (n:Nat) (v1:List Int) (v2:Int) (L1:Int→Int→(List Int)→Option (List Int)) (v3 v4:Int) (v5:List Int):Option (List Int) :=
  if (decide (v4<(v1.length:Int)))=true then
    if (v4 == 0)=true then
      o7 K n v1 v2 v3 v4 v5 L1 true
    else
      chk (inb v4 v1.length) (
      o7 K n v1 v2 v3 v4 v5 L1 (decide ((w64 (v3+(List.getD v1 (v4).toNat default)))>v2)))
  else
    some v5
def mu (K:Kn) (n:Nat) (v1:List Int) (v2:Int):Nat→Int→Int→(List Int)→Option (List Int)
  | 0=>fun _ _ _=>none
  | m+1=>oy K n v1 v2 (mu K n v1 v2 m)
def qk (K:Kn) (n:Nat) (v1:List Int) (v2:Int):Option (List Int) :=
  mu K n v1 v2 n 0 0 []
def du (K:Kn) (n:Nat) (v1:aQ):Option aQ :=
  if (v1.Kind == 2)=true then
    some bz
  else
    some v1
def kQ (K:Kn) (n:Nat) (v1:aE):Option aE :=
  (du K n v1.Margin.a0).bind fun v2 =>
  (du K n v1.Padding.a0).bind fun v3 =>
  (du K n v1.Margin.a1).bind fun v4 =>
  (du K n v1.Padding.a1).bind fun v5 =>
  (du K n v1.Margin.a2).bind fun v6 =>
  (du K n v1.Padding.a2).bind fun v7 =>
  (du K n v1.Margin.a3).bind fun v8 =>
  (du K n v1.Padding.a3).bind fun v9 =>
  (du K n v1.Width).bind fun v10 =>
  (du K n v1.MinWidth).bind fun v11 =>
  (du K n v1.MaxWidth).bind fun v12 =>
  some ({ v1 with Width:=v10,MinWidth:=v11,MaxWidth:=v12,Margin:=⟨v2,v4,v6,v8⟩,Padding:=⟨v3,v5,v7,v9⟩ }:aE)
def jq (K:Kn) (n:Nat) (v4:aE) (v8 v9:Int):Option (Int×Int) :=
  (fH K n v4 0 0).bind fun v10 =>
  (gq K n v10).bind fun v11 =>
  (ia K n v4 0 v8).bind fun v12 =>
  (ia K n v4 0 v9).bind fun v13 =>
  some ((w64 (v12+v11)),(w64 (v13+v11)))
def ng (K:Kn) (n:Nat) (v1:aE) (v2 v3:Int):Option (Int×Int) :=
  (kQ K n v1).bind fun v4 =>
  (dk K n v2).bind fun v5 =>
  (dk K n v3).bind fun v6 =>
  (i8 K n v4.Width).bind fun v7 =>
  if v7.2=true then
    jq K n v4 v7.1 v7.1
  else
    jq K n v4 v5 v6
def kv (K:Kn) (n:Nat) (v1:List ab) (L1:Int→Int→Int→Option (Int×Int)) (v3 v4 v5:Int):Option (Int×Int) :=
  if (decide (v5<(v1.length:Int)))=true then
    chk (inb v5 v1.length) (
    L1 (max v3 (w64 (8*(((List.getD v1 (v5).toNat default).Text).size:Int)))) (w64 (v4+(w64 (8*(((List.getD v1 (v5).toNat default).Text).size:Int))))) (w64 (v5+1)))
  else
    some (v3,v4)
def ki (K:Kn) (n:Nat) (v1:List ab):Nat→Int→Int→Int→Option (Int×Int)
  | 0=>fun _ _ _=>none
  | m+1=>kv K n v1 (ki K n v1 m)
def fP (K:Kn) (n:Nat) (v1:List ab) (v2:aE):Option (Int×Int) :=
  ki K n v1 n 0 0 0
def lZ (K:Kn) (n:Nat) (v2:List ab) (L1:Int→Int→Int→Option (Int×Int)) (v8 v9 v10:Int):Option (Int×Int) :=
  if (decide (v10<(v2.length:Int)))=true then
    chk (inb v10 v2.length) (
    (K.gJ (List.getD v2 (v10).toNat default)).bind fun v11 =>
    L1 (max v8 v11.1) (max v9 v11.2) (w64 (v10+1)))
  else
    (dk K n v8).bind fun v12 =>
    (dk K n v9).bind fun v13 =>
    some (v12,v13)
def i9 (K:Kn) (n:Nat) (v2:List ab):Nat→Int→Int→Int→Option (Int×Int)
  | 0=>fun _ _ _=>none
  | m+1=>lZ K n v2 (i9 K n v2 m)
def iz (K:Kn) (n:Nat) (v1:ab):Option (Int×Int) :=
  (iQ K n v1).bind fun v2 =>
  (jM K n v1).bind fun v3 =>
  if (!v3)=true then
    (fP K n v2 v1.Style).bind fun v4 =>
    (dk K n v4.1).bind fun v5 =>
    (dk K n v4.2).bind fun v6 =>
    some (v5,v6)
  else
    i9 K n v2 n 0 0 0
def eQ (K:Kn) (n:Nat) (v1:ab):Option (Int×Int) :=
  (iz K n v1).bind fun v2 =>
  (ng K n v1.Style v2.1 v2.2).bind fun v3 =>
  some (v3.1,v3.2)
def sQ (K:Kn) (n:Nat) (v1:ab) (v2:Int):Option aw :=
  (eQ K n v1).bind fun v3 =>
  (fH K n v1.Style 0 0).bind fun v4 =>
  (gq K n v4).bind fun v5 =>
  (f8 K n v1.Style.Width v2 (w64 (v3.2 - v5))).bind fun v6 =>
  (f8 K n v1.Style.Basis v2 v6).bind fun v7 =>
  (f8 K n v1.Style.MinWidth v2 0).bind fun v8 =>
  (f8 K n v1.Style.MaxWidth v2 1048576).bind fun v9 =>
  some (⟨v7,v1.Style.Grow,v1.Style.Shrink,v8,v9⟩:aw)
def qZ (K:Kn) (n:Nat) (v1:ab) (v2:Int) (v10:V4 aQ):Option ab :=
  some ({ v1 with Style:=({ v1.Style with Width:=(⟨1,v2⟩:aQ),MinWidth:=bz,MaxWidth:=bz,Margin:=v10 }:aE) }:ab)
def sU (K:Kn) (n:Nat) (v1:ab) (v2:Int) (v8:V4 aQ) (v9:Bool):Option ab :=
  if v9=true then
    qZ K n v1 v2 ⟨v8.a0,v8.a1,v8.a2,({ bz with Kind:=1 }:aQ)⟩
  else
    qZ K n v1 v2 v8
def ql (K:Kn) (n:Nat) (v1:ab) (v2:Int) (v8:V4 aQ):Option ab :=
  if (v8.a3.Kind != 1)=true then
    sU K n v1 v2 v8 (v8.a3.Kind != 2)
  else
    sU K n v1 v2 v8 false
def qx (K:Kn) (n:Nat) (v1:ab) (v2:Int) (v6:V4 aQ) (v7:Bool):Option ab :=
  if v7=true then
    ql K n v1 v2 ⟨v6.a0,v6.a1,({ bz with Kind:=1 }:aQ),v6.a3⟩
  else
    ql K n v1 v2 v6
def n8 (K:Kn) (n:Nat) (v1:ab) (v2:Int) (v6:V4 aQ):Option ab :=
  if (v6.a2.Kind != 1)=true then
    qx K n v1 v2 v6 (v6.a2.Kind != 2)
  else
    qx K n v1 v2 v6 false
def qv (K:Kn) (n:Nat) (v1:ab) (v2:Int) (v4:V4 aQ) (v5:Bool):Option ab :=
  if v5=true then
    n8 K n v1 v2 ⟨v4.a0,({ bz with Kind:=1 }:aQ),v4.a2,v4.a3⟩
  else
    n8 K n v1 v2 v4
def pO (K:Kn) (n:Nat) (v1:ab) (v2:Int) (v4:V4 aQ):Option ab :=
  if (v4.a1.Kind != 1)=true then
    qv K n v1 v2 v4 (v4.a1.Kind != 2)
  else
    qv K n v1 v2 v4 false
def qu (K:Kn) (n:Nat) (v1:ab) (v2:Int) (v3:Bool):Option ab :=
  if v3=true then
    pO K n v1 v2 ⟨({ bz with Kind:=1 }:aQ),v1.Style.Margin.a1,v1.Style.Margin.a2,v1.Style.Margin.a3⟩
  else
    pO K n v1 v2 v1.Style.Margin
def rb (K:Kn) (n:Nat) (v1:ab) (v2:Int):Option ab :=
  if (v1.Style.Margin.a0.Kind != 1)=true then
    qu K n v1 v2 (v1.Style.Margin.a0.Kind != 2)
  else
    qu K n v1 v2 false
def sn (K:Kn) (n:Nat) (v1:List ab) (v3:Int) (v13:List aw) (v14 v21:List Int) (v81 v82 v85 v88:Int) (v91:List Int) (L3:Int→Int→(List aa)→Option ((List aa)×Int)) (L5:Int→Int→Int→(List aa)→Option ((List aa)×Int)) (v99 v100 v101:Int) (v102:List aa):Option ((List aa)×Int) :=
  if (decide (v101<v88))=true then
    chk (inb v101 v1.length) (
    chk (inb (w64 (v101 - v85)) v91.length) (
    (rb K n (List.getD v1 (v101).toNat default) (List.getD v91 ((w64 (v101 - v85))).toNat default)).bind fun v103 =>
    (eY K n v103 v3).bind fun v104 =>
    (dr K n v104.Before).bind fun v105 =>
    (dr K n v104.Before).bind fun v107 =>
    (pK K n ({ v104 with X:=(w64 (v104.X+v99)),Y:=(w64 (v81+v105)) }:aa)).bind fun v108 =>
    (some (max v100 (w64 ((w64 (v107+v104.H))+v108)))).bind fun v109 =>
    chk (inb (w64 (v101 - v85)) v91.length) (
    chk (inb v101 v14.length) (
    (some (w64 (v99+(w64 ((List.getD v91 ((w64 (v101 - v85))).toNat default)+(List.getD v14 (v101).toNat default)))))).bind fun v110 =>
    chk (fits (v102.length+([({ v104 with X:=(w64 (v104.X+v99)),Y:=(w64 (v81+v105)) }:aa)]:(List aa)).length) 584) (
    L5 v110 v109 (w64 (v101+1)) (v102++[({ v104 with X:=(w64 (v104.X+v99)),Y:=(w64 (v81+v105)) }:aa)]))))))
  else
    L3 (w64 (v81+v100)) (w64 (v82+1)) v102
def ne (K:Kn) (n:Nat) (v1:List ab) (v3:Int) (v13:List aw) (v14 v21:List Int) (v81 v82 v85 v88:Int) (v91:List Int) (L3:Int→Int→(List aa)→Option ((List aa)×Int)):Nat→Int→Int→Int→(List aa)→Option ((List aa)×Int)
  | 0=>fun _ _ _ _=>none
  | m+1=>sn K n v1 v3 v13 v14 v21 v81 v82 v85 v88 v91 L3 (ne K n v1 v3 v13 v14 v21 v81 v82 v85 v88 v91 L3 m)
def sA (K:Kn) (n:Nat) (v1:List ab) (v3:Int) (v13:List aw) (v14 v21:List Int) (v81 v82:Int) (v83:List aa) (v85:Int) (L3:Int→Int→(List aa)→Option ((List aa)×Int)) (L4:Int→Int→Int→Option ((List aa)×Int)) (v88 v89 v90:Int):Option ((List aa)×Int) :=
  if (decide (v90<v88))=true then
    chk (inb v90 v14.length) (
    L4 v88 (w64 (v89 - (List.getD v14 (v90).toNat default))) (w64 (v90+1)))
  else
    chk (slb v85 v88 v13.length) (
    (iW K n (List.drop (v85).toNat (List.take (v88).toNat v13)) v89).bind fun v91 =>
    ne K n v1 v3 v13 v14 v21 v81 v82 v85 v88 v91 L3 n 0 0 v85 v83)
def pw (K:Kn) (n:Nat) (v1:List ab) (v3:Int) (v13:List aw) (v14 v21:List Int) (v81 v82:Int) (v83:List aa) (v85:Int) (L3:Int→Int→(List aa)→Option ((List aa)×Int)):Nat→Int→Int→Int→Option ((List aa)×Int)
  | 0=>fun _ _ _=>none
  | m+1=>sA K n v1 v3 v13 v14 v21 v81 v82 v83 v85 L3 (pw K n v1 v3 v13 v14 v21 v81 v82 v83 v85 L3 m)
def sD (K:Kn) (n:Nat) (v1:List ab) (v3:Int) (v13:List aw) (v14 v21:List Int) (L3:Int→Int→(List aa)→Option ((List aa)×Int)) (v81 v82:Int) (v83:List aa):Option ((List aa)×Int) :=
  (some (decide ((w64 (v82+1))<((v21++[(v1.length:Int)]).length:Int)))).bind fun v84 =>
  if v84=true then
    chk (inb v82 (v21++[(v1.length:Int)]).length) (
    (some (List.getD (v21++[(v1.length:Int)]) (v82).toNat default)).bind fun v85 =>
    chk (inb (w64 (v82+1)) (v21++[(v1.length:Int)]).length) (
    pw K n v1 v3 v13 v14 v21 v81 v82 v83 v85 L3 n (List.getD (v21++[(v1.length:Int)]) ((w64 (v82+1))).toNat default) v3 v85))
  else
    some (v83,v81)
def kE (K:Kn) (n:Nat) (v1:List ab) (v3:Int) (v13:List aw) (v14 v21:List Int):Nat→Int→Int→(List aa)→Option ((List aa)×Int)
  | 0=>fun _ _ _=>none
  | m+1=>sD K n v1 v3 v13 v14 v21 (kE K n v1 v3 v13 v14 v21 m)
def j9 (K:Kn) (n:Nat) (v1:List ab) (v3:Int) (v13:List aw) (v14 v21:List Int):Option ((List aa)×Int) :=
  chk (fits (v21.length+([(v1.length:Int)]:(List Int)).length) 8) (
  kE K n v1 v3 v13 v14 v21 n 0 0 [])
def rQ (K:Kn) (n:Nat) (v1:List ab) (v2:Bool) (v3:Int) (L2:Int→(List aw)→(List Int)→(List Int)→Option ((List aa)×Int)) (v12:Int) (v13:List aw) (v14 v15:List Int):Option ((List aa)×Int) :=
  if (decide (v12<(v1.length:Int)))=true then
    chk (inb v12 v1.length) (
    (sQ K n (List.getD v1 (v12).toNat default) v3).bind fun v16 =>
    chk (fits (v13.length+([v16]:(List aw)).length) 40) (
    chk (inb v12 v1.length) (
    (fH K n ((List.getD v1 (v12).toNat default).Style) v3 0).bind fun v17 =>
    (gq K n v17).bind fun v18 =>
    chk (fits (v14.length+([v18]:(List Int)).length) 8) (
    chk (inb v12 (v13++[v16]).length) (
    (o5 K n (List.getD (v13++[v16]) (v12).toNat default)).bind fun v19 =>
    chk (inb v12 (v14++[v18]).length) (
    chk (fits (v15.length+([(w64 (v19+(List.getD (v14++[v18]) (v12).toNat default)))]:(List Int)).length) 8) (
    L2 (w64 (v12+1)) (v13++[v16]) (v14++[v18]) (v15++[(w64 (v19+(List.getD (v14++[v18]) (v12).toNat default)))]))))))))
  else
    if v2=true then
      (qk K n v15 v3).bind fun v20 =>
      j9 K n v1 v3 v13 v14 v20
    else
      j9 K n v1 v3 v13 v14 [0]
def pg (K:Kn) (n:Nat) (v1:List ab) (v2:Bool) (v3:Int):Nat→Int→(List aw)→(List Int)→(List Int)→Option ((List aa)×Int)
  | 0=>fun _ _ _ _=>none
  | m+1=>rQ K n v1 v2 v3 (pg K n v1 v2 v3 m)
def oz (K:Kn) (n:Nat) (v1:List ab) (v2:Bool) (v3:Int):Option ((List aa)×Int) :=
  pg K n v1 v2 v3 n 0 [] [] []
def sq (K:Kn) (n:Nat) (v1:ab) (v3:ay) (v4 v5:ah) (v6:Int) (v14:List aa) (L2:Int→Int→(List aa)→Option aa) (v32 v33:Int) (v34:List aa):Option aa :=
  if (decide (v32<(v14.length:Int)))=true then
    chk (inb v32 v14.length) (
    (some (w64 (((List.getD v14 (v32).toNat default).X)+(w64 (v3.Border.a3+v3.Padding.a3))))).bind fun v35 =>
    (some (w64 (((List.getD v14 (v32).toNat default).Y)+(w64 (v3.Border.a0+v3.Padding.a0))))).bind fun v36 =>
    (jf K n ({ (List.getD v14 (v32).toNat default) with X:=v35,Y:=v36 }:aa) v3.Content).bind fun v37 =>
    chk (fits (v34.length+([v37]:(List aa)).length) 584) (
    L2 (w64 (v32+1)) v33 (v34++[v37])))
  else
    some (⟨1,v1.Node,v3.Margin.a3,0,v6,v33,0,⟨#[]⟩,v1.Style,v4,v5,false,v34⟩:aa)
def pu (K:Kn) (n:Nat) (v1:ab) (v3:ay) (v4 v5:ah) (v6:Int) (v14:List aa):Nat→Int→Int→(List aa)→Option aa
  | 0=>fun _ _ _=>none
  | m+1=>sq K n v1 v3 v4 v5 v6 v14 (pu K n v1 v3 v4 v5 v6 v14 m)
def oT (K:Kn) (n:Nat) (v1:ab) (v3:ay) (v4 v5:ah) (v6:Int) (v14:List aa) (v15:Int):Option aa :=
  pu K n v1 v3 v4 v5 v6 v14 n 0 (w64 ((w64 ((w64 ((w64 (v15+v3.Border.a0))+v3.Border.a2))+v3.Padding.a0))+v3.Padding.a2)) []
def l8 (K:Kn) (n:Nat) (v1:ab) (v3:ay) (v4 v5:ah) (v6 v10 v13:Int) (v14:List aa):Option aa :=
  if (!(v1.Style.Height.Kind == 1))=true then
    oT K n v1 v3 v4 v5 v6 v14 (max v13 0)
  else
    oT K n v1 v3 v4 v5 v6 v14 (max v10 0)
def sh (K:Kn) (n:Nat) (v1:ab) (v3:ay) (v4 v5:ah) (v6:Int) (v7:List Int) (L1:Int→(List ab)→Option aa) (v8:Int) (v9:List ab):Option aa :=
  if (decide (v8<(v7.length:Int)))=true then
    chk (inb v8 v7.length) (
    chk (inb (List.getD v7 (v8).toNat default) v1.Kids.length) (
    chk (fits (v9.length+([(List.getD v1.Kids ((List.getD v7 (v8).toNat default)).toNat default)]:(List ab)).length) 520) (
    L1 (w64 (v8+1)) (v9++[(List.getD v1.Kids ((List.getD v7 (v8).toNat default)).toNat default)]))))
  else
    (f8 K n v1.Style.Height 0 0).bind fun v10 =>
    if (v1.Style.Direction == 1)=true then
      (pk K n v9 v3.Content (v1.Style.Height.Kind == 1) (max v10 0)).bind fun v11 =>
      l8 K n v1 v3 v4 v5 v6 v10 v11.2 v11.1
    else
      (oz K n v9 v1.Style.Wrap v3.Content).bind fun v12 =>
      l8 K n v1 v3 v4 v5 v6 v10 v12.2 v12.1
def qi (K:Kn) (n:Nat) (v1:ab) (v3:ay) (v4 v5:ah) (v6:Int) (v7:List Int):Nat→Int→(List ab)→Option aa
  | 0=>fun _ _=>none
  | m+1=>sh K n v1 v3 v4 v5 v6 v7 (qi K n v1 v3 v4 v5 v6 v7 m)
def sP (K:Kn) (n:Nat) (v1:ab) (v2:Int):Option aa :=
  (jl K n v1.Style v2).bind fun v3 =>
  (gI K n v3.Margin.a0).bind fun v4 =>
  (gI K n v3.Margin.a2).bind fun v5 =>
  (some (w64 ((w64 ((w64 ((w64 (v3.Content+v3.Border.a1))+v3.Border.a3))+v3.Padding.a1))+v3.Padding.a3))).bind fun v6 =>
  (qW K n v1.Kids).bind fun v7 =>
  qi K n v1 v3 v4 v5 v6 v7 n 0 []
def tJ (K:Kn) (n:Nat) (v1:List bU) (v2:Int):Option Bool :=
  (sV K n ).bind fun v3 =>
  if (!v3)=true then
    some false
  else
    (sG K n v1).bind fun v4 =>
    if (!v4)=true then
      some true
    else
      (nJ K n v1).bind fun v5 =>
      (ff K n ).bind fun v6 =>
      (rE K n v5 v2 v6).bind fun v7 =>
      (nJ K n v1).bind fun v8 =>
      (sP K n v8 v2).bind fun v9 =>
      (nD K n v7 v9).bind fun v10 =>
      some v10
def jZ (K:Kn) (n:Nat) (v1:List ab) (v2:Fv) (L1:Int→Option Int) (v4:Int):Option Int :=
  if (decide (v4<(v1.length:Int)))=true then
    chk (inb v4 v1.length) (
    (K.fr v2 (List.getD v1 (v4).toNat default)).bind fun v5 =>
    if v5=true then
      some v4
    else
      L1 (w64 (v4+1)))
  else
    some (-1)
def jJ (K:Kn) (n:Nat) (v1:List ab) (v2:Fv):Nat→Int→Option Int
  | 0=>fun _=>none
  | m+1=>jZ K n v1 v2 (jJ K n v1 v2 m)
def mN (K:Kn) (n:Nat) (v1:List ab) (v2:Fv):Option Int :=
  jJ K n v1 v2 n 0
def jR (K:Kn) (n:Nat) (v1:List ab) (v2:Fv):Option Bool :=
  (mN K n v1 v2).bind fun v3 =>
  some (decide (v3≥0))
def kB (K:Kn) (n:Nat) (v1:ab) (v8:Int) (L1:Int→(List ab)→Option ((List ab)×Bool)) (v11:List ab):Option ((List ab)×Bool) :=
  L1 (w64 (v8+1)) v11
def lK (K:Kn) (n:Nat) (v1:ab) (L1:Int→(List ab)→Option ((List ab)×Bool)) (v8:Int) (v9:List ab):Option ((List ab)×Bool) :=
  if (decide (v8<(v1.Kids.length:Int)))=true then
    chk (inb v8 v1.Kids.length) (
    (jB K n (List.getD v1.Kids (v8).toNat default)).bind fun v10 =>
    if v10=true then
      chk (fits (v9.length+([(List.getD v1.Kids (v8).toNat default)]:(List ab)).length) 520) (
      kB K n v1 v8 L1 (v9++[(List.getD v1.Kids (v8).toNat default)]))
    else
      kB K n v1 v8 L1 v9)
  else
    (jR K n v9 (Fv.fn 111)).bind fun v12 =>
    some (v9,v12)
def j8 (K:Kn) (n:Nat) (v1:ab):Nat→Int→(List ab)→Option ((List ab)×Bool)
  | 0=>fun _ _=>none
  | m+1=>lK K n v1 (j8 K n v1 m)
def iL (K:Kn) (n:Nat) (v1:ab):Option ((List ab)×Bool) :=
  j8 K n v1 n 0 []
def eX (K:Kn) (n:Nat) (v1 v2:ah):Option ah :=
  some (⟨(max v1.Pos v2.Pos),(min v1.Neg v2.Neg)⟩:ah)
def ir (K:Kn) (n:Nat) (v1:List aa) (v18:Int) (v21:List aa) (v24:Int) (L1:Int→Bool→Int→ah→ah→(List aa)→Option ((List aa)×Int×ah×ah×Bool)) (v26:Int) (v27:Bool) (v28 v29:ah):Option ((List aa)×Int×ah×ah×Bool) :=
  chk (fits (v21.length+([({ (List.getD v1 (v18).toNat default) with Y:=v24 }:aa)]:(List aa)).length) 584) (
  L1 v26 v27 (w64 (v18+1)) v28 v29 (v21++[({ (List.getD v1 (v18).toNat default) with Y:=v24 }:aa)]))
def ij (K:Kn) (n:Nat) (v1:List aa) (v18:Int) (v21:List aa) (v22:ah) (v24:Int) (L1:Int→Bool→Int→ah→ah→(List aa)→Option ((List aa)×Int×ah×ah×Bool)) (v25:ah):Option ((List aa)×Int×ah×ah×Bool) :=
  ir K n v1 v18 v21 v24 L1 (w64 (v24+((List.getD v1 (v18).toNat default).H))) false v25 ((List.getD v1 (v18).toNat default).After)
def iq (K:Kn) (n:Nat) (v1:List aa) (v16:Int) (v17:Bool) (v18:Int) (v19:ah) (v21:List aa) (v22:ah) (L1:Int→Bool→Int→ah→ah→(List aa)→Option ((List aa)×Int×ah×ah×Bool)) (v24:Int):Option ((List aa)×Int×ah×ah×Bool) :=
  if (!(List.getD v1 (v18).toNat default).Empty)=true then
    if v17=true then
      ij K n v1 v18 v21 v22 v24 L1 v22
    else
      ij K n v1 v18 v21 v22 v24 L1 v19
  else
    ir K n v1 v18 v21 v24 L1 v16 v17 v19 v22
def iw (K:Kn) (n:Nat) (v16:Int) (v17:Bool) (v20:ah) (v21:List aa) (v30:ah):Option ((List aa)×Int×ah×ah×Bool) :=
  some (v21,v16,v30,v20,v17)
def iE (K:Kn) (n:Nat) (v1:List aa) (L1:Int→Bool→Int→ah→ah→(List aa)→Option ((List aa)×Int×ah×ah×Bool)) (v16:Int) (v17:Bool) (v18:Int) (v19 v20:ah) (v21:List aa):Option ((List aa)×Int×ah×ah×Bool) :=
  if (decide (v18<(v1.length:Int)))=true then
    chk (inb v18 v1.length) (
    (eX K n v20 ((List.getD v1 (v18).toNat default).Before)).bind fun v22 =>
    if (!v17)=true then
      (dc K n v22).bind fun v23 =>
      iq K n v1 v16 v17 v18 v19 v21 v22 L1 (w64 (v16+v23))
    else
      iq K n v1 v16 v17 v18 v19 v21 v22 L1 0)
  else
    if v17=true then
      iw K n v16 v17 v20 v21 v20
    else
      iw K n v16 v17 v20 v21 v19
def fa (K:Kn) (n:Nat) (v1:List aa):Nat→Int→Bool→Int→ah→ah→(List aa)→Option ((List aa)×Int×ah×ah×Bool)
  | 0=>fun _ _ _ _ _ _=>none
  | m+1=>iE K n v1 (fa K n v1 m)
def gQ (K:Kn) (n:Nat) (v1:List aa):Option ((List aa)×Int×ah×ah×Bool) :=
  fa K n v1 n 0 true 0 cR cR []
def jg (K:Kn) (n:Nat) (v1:List aa):Option (List aa) :=
  both (List.isEmpty v1) (
    some []) (
    chk (fits (([]:List aa).length+v1.length) 584) (
    some (([]:List aa)++v1)))
def m7 (K:Kn) (n:Nat) (v1:ay):Option Int :=
  some (w64 ((w64 ((w64 (v1.Border.a3+v1.Padding.a3))+v1.Border.a1))+v1.Padding.a1))
def jE (K:Kn) (n:Nat) (v2:Bool):Option Bool :=
  some v2
def gy (K:Kn) (n:Nat) (v1:ab):Option Bool :=
  if (v1.Kind == 1)=true then
    jE K n true
  else
    if (v1.Kind == 6)=true then
      jE K n true
    else
      jE K n (v1.Kind == 7)
def kq (K:Kn) (n:Nat) (v1:ab) (v2:ay) (v6:(List ab)×Bool) (v19:List aa) (v25:Int) (v33 v34:ah) (v35:Bool) (v39 v40 v47:Int) (L2:Int→(List aa)→Option aa) (v54:List aa):Option aa :=
  L2 (w64 (v47+1)) v54
def lX (K:Kn) (n:Nat) (v1:ab) (v2:ay) (v6:(List ab)×Bool) (v19:List aa) (v25:Int) (v33 v34:ah) (v35:Bool) (v39 v40 v47:Int) (v50:List aa) (L2:Int→(List aa)→Option aa) (v52:Bool):Option aa :=
  if v52=true then
    chk (inb v47 v50.length) (
    (jP K n (List.getD v50 (v47).toNat default) v2.Content).bind fun v53 =>
    chk (inb v47 v50.length) (
    kq K n v1 v2 v6 v19 v25 v33 v34 v35 v39 v40 v47 L2 (List.set v50 (v47).toNat v53)))
  else
    kq K n v1 v2 v6 v19 v25 v33 v34 v35 v39 v40 v47 L2 v50
def lJ (K:Kn) (n:Nat) (v1:ab) (v2:ay) (v6:(List ab)×Bool) (v19:List aa) (v25:Int) (v33 v34:ah) (v35:Bool) (v39 v40:Int) (L2:Int→(List aa)→Option aa) (v47:Int) (v48:List aa):Option aa :=
  if (decide (v47<(v19.length:Int)))=true then
    chk (inb v47 v48.length) (
    chk (inb v47 v48.length) (
    (some (List.set v48 (v47).toNat ({ (List.getD v48 (v47).toNat default) with X:=(w64 (((List.getD v48 (v47).toNat default).X)+(w64 (v2.Border.a3+v2.Padding.a3)))) }:aa))).bind fun v49 =>
    chk (inb v47 v49.length) (
    chk (inb v47 v49.length) (
    (some (List.set v49 (v47).toNat ({ (List.getD v49 (v47).toNat default) with Y:=(w64 (((List.getD v49 (v47).toNat default).Y)+(w64 ((w64 (v2.Border.a0+v2.Padding.a0))+v25)))) }:aa))).bind fun v50 =>
    if v6.2=true then
      chk (inb v47 v6.1.length) (
      (gy K n (List.getD v6.1 (v47).toNat default)).bind fun v51 =>
      lX K n v1 v2 v6 v19 v25 v33 v34 v35 v39 v40 v47 v50 L2 v51)
    else
      lX K n v1 v2 v6 v19 v25 v33 v34 v35 v39 v40 v47 v50 L2 false))))
  else
    some (⟨1,v1.Node,v2.Margin.a3,0,(w64 (v2.Content+v39)),v40,0,⟨#[]⟩,v1.Style,v33,v34,v35,v48⟩:aa)
def mc (K:Kn) (n:Nat) (v1:ab) (v2:ay) (v6:(List ab)×Bool) (v19:List aa) (v25:Int) (v33 v34:ah) (v35:Bool) (v39 v40:Int):Nat→Int→(List aa)→Option aa
  | 0=>fun _ _=>none
  | m+1=>lJ K n v1 v2 v6 v19 v25 v33 v34 v35 v39 v40 (mc K n v1 v2 v6 v19 v25 v33 v34 v35 v39 v40 m)
def jC (K:Kn) (n:Nat) (v1:ab) (v2:ay) (v6:(List ab)×Bool) (v19:List aa) (v25:Int) (v33 v34:ah) (v35:Bool) (v38:Int):Option aa :=
  (m7 K n v2).bind fun v39 =>
  (some (w64 ((w64 ((w64 ((w64 (v38+v2.Border.a0))+v2.Padding.a0))+v2.Border.a2))+v2.Padding.a2))).bind fun v40 =>
  mc K n v1 v2 v6 v19 v25 v33 v34 v35 v39 v40 n 0 v19
def lg (K:Kn) (n:Nat) (v1:ab) (v2:ay) (v6:(List ab)×Bool) (v19:List aa) (v25 v32:Int) (v33 v34:ah) (v35:Bool) (v36:Int×Bool) (v37:Bool):Option aa :=
  if v37=true then
    jC K n v1 v2 v6 v19 v25 v33 v34 v35 (max v36.1 0)
  else
    jC K n v1 v2 v6 v19 v25 v33 v34 v35 (max v32 0)
def fQ (K:Kn) (n:Nat) (v1:ab) (v2:ay) (v6:(List ab)×Bool) (v19:List aa) (v25 v32:Int) (v33 v34:ah) (v35:Bool):Option aa :=
  (cA K n v1.Style.Height 0).bind fun v36 =>
  if v36.2=true then
    lg K n v1 v2 v6 v19 v25 v32 v33 v34 v35 v36 (v1.Style.Height.Kind == 1)
  else
    lg K n v1 v2 v6 v19 v25 v32 v33 v34 v35 v36 false
def jQ (K:Kn) (n:Nat) (v1:ab) (v2:ay) (v4:Bool) (v6:(List ab)×Bool) (v15:Int) (v16:Bool) (v17 v18:ah) (v19:List aa) (v21:ah) (v25:Int) (v26:ah) (v27:Bool):Option aa :=
  if v27=true then
    (eX K n v26 v21).bind fun v28 =>
    fQ K n v1 v2 v6 v19 v25 0 v28 v28 true
  else
    if v16=true then
      if v4=true then
        (eX K n v21 v17).bind fun v29 =>
        fQ K n v1 v2 v6 v19 v25 v25 v26 v29 false
      else
        fQ K n v1 v2 v6 v19 v25 v25 v26 v21 false
    else
      if v4=true then
        (eX K n v21 v18).bind fun v30 =>
        fQ K n v1 v2 v6 v19 v25 (w64 (v15+v25)) v26 v30 false
      else
        (dc K n v18).bind fun v31 =>
        fQ K n v1 v2 v6 v19 v25 (w64 (v15+(w64 (v25+v31)))) v26 v21 false
def jc (K:Kn) (n:Nat) (v1:ab) (v2:ay) (v3 v4:Bool) (v6:(List ab)×Bool) (v15:Int) (v16:Bool) (v17 v18:ah) (v19:List aa) (v21:ah) (v25:Int) (v26:ah):Option aa :=
  if v16=true then
    if v3=true then
      jQ K n v1 v2 v4 v6 v15 v16 v17 v18 v19 v21 v25 v26 v4
    else
      jQ K n v1 v2 v4 v6 v15 v16 v17 v18 v19 v21 v25 v26 false
  else
    jQ K n v1 v2 v4 v6 v15 v16 v17 v18 v19 v21 v25 v26 false
def lG (K:Kn) (n:Nat) (v1:ab) (v2:ay) (v3 v4:Bool) (v6:(List ab)×Bool) (v15:Int) (v16:Bool) (v17 v18:ah) (v19:List aa) (v20 v21:ah) (v23:Bool):Option aa :=
  if v23=true then
    (dc K n v17).bind fun v24 =>
    jc K n v1 v2 v3 v4 v6 v15 v16 v17 v18 v19 v21 v24 v20
  else
    jc K n v1 v2 v3 v4 v6 v15 v16 v17 v18 v19 v21 0 v20
def gt (K:Kn) (n:Nat) (v1:ab) (v2:ay) (v3 v4:Bool) (v6:(List ab)×Bool) (v15:Int) (v16:Bool) (v17 v18:ah) (v19:List aa):Option aa :=
  (gL K n v2.Margin.a0).bind fun v20 =>
  (gL K n v2.Margin.a2).bind fun v21 =>
  if v3=true then
    (eX K n v20 v17).bind fun v22 =>
    jc K n v1 v2 v3 v4 v6 v15 v16 v17 v18 v19 v21 0 v22
  else
    if (!v16)=true then
      lG K n v1 v2 v3 v4 v6 v15 v16 v17 v18 v19 v20 v21 true
    else
      lG K n v1 v2 v3 v4 v6 v15 v16 v17 v18 v19 v20 v21 (!v4)
def l9 (K:Kn) (n:Nat) (v1:ab) (v2:ay) (v3 v4:Bool) (v5:bw) (v6:(List ab)×Bool) (L1:Int→(List aa)→Option aa) (v9:Int) (v10:List aa):Option aa :=
  if (decide (v9<(v6.1.length:Int)))=true then
    chk (inb v9 v6.1.length) (
    (K.dD v5.Layout (List.getD v6.1 (v9).toNat default) v2.Content).bind fun v11 =>
    chk (fits (v10.length+([v11]:(List aa)).length) 584) (
    L1 (w64 (v9+1)) (v10++[v11])))
  else
    (gQ K n v10).bind fun v12 =>
    gt K n v1 v2 v3 v4 v6 v12.2.1 v12.2.2.2.2 v12.2.2.1 v12.2.2.2.1 v12.1
def iU (K:Kn) (n:Nat) (v1:ab) (v2:ay) (v3 v4:Bool) (v5:bw) (v6:(List ab)×Bool):Nat→Int→(List aa)→Option aa
  | 0=>fun _ _=>none
  | m+1=>l9 K n v1 v2 v3 v4 v5 v6 (iU K n v1 v2 v3 v4 v5 v6 m)
def lB (K:Kn) (n:Nat) (v1:ab) (v2:ay) (v3 v4:Bool) (v5:bw):Option aa :=
  (iL K n v1).bind fun v6 =>
  if v6.2=true then
    iU K n v1 v2 v3 v4 v5 v6 n 0 []
  else
    (K.iX v5.Lines v6.1 v1.Style v2.Content).bind fun v13 =>
    (jg K n v13.1).bind fun v14 =>
    gt K n v1 v2 v3 v4 v6 v13.2 ((v14.length:Int) == 0) cR cR v14
def gU (K:Kn) (n:Nat) (v1:ab) (v3:bw) (v4:ay) (v5 v6:Bool):Option aa :=
  (lB K n v1 v4 v5 v6 v3).bind fun v7 =>
  some v7
def jH (K:Kn) (n:Nat) (v1:ab) (v3:bw) (v4:ay) (v5:Bool):Option aa :=
  if (v1.Style.Overflow == 0)=true then
    if (v4.Border.a2 == 0)=true then
      if (v4.Padding.a2 == 0)=true then
        gU K n v1 v3 v4 v5 (v1.Style.Height.Kind != 1)
      else
        gU K n v1 v3 v4 v5 false
    else
      gU K n v1 v3 v4 v5 false
  else
    gU K n v1 v3 v4 v5 false
def gf (K:Kn) (n:Nat) (v1:ab) (v2:Int) (v3:bw):Option aa :=
  (jL K n v1.Style v2).bind fun v4 =>
  if (v1.Style.Overflow == 0)=true then
    if (v4.Border.a0 == 0)=true then
      jH K n v1 v3 v4 (v4.Padding.a0 == 0)
    else
      jH K n v1 v3 v4 false
  else
    jH K n v1 v3 v4 false
def fF (K:Kn) (n:Nat) (v1:ab) (v2:Int):Option aa :=
  (ff K n ).bind fun v3 =>
  (gf K n v1 v2 v3).bind fun v4 =>
  some v4
def l0 (K:Kn) (n:Nat) (v13:aE):Option aE :=
  some v13
def jn (K:Kn) (n:Nat) (v12:aE):Option aE :=
  if (v12.Padding.a3.Kind == 2)=true then
    l0 K n ({ v12 with Padding:=⟨v12.Padding.a0,v12.Padding.a1,v12.Padding.a2,bz⟩ }:aE)
  else
    l0 K n v12
def ja (K:Kn) (n:Nat) (v11:aE):Option aE :=
  if (v11.Margin.a3.Kind == 2)=true then
    jn K n ({ v11 with Margin:=⟨v11.Margin.a0,v11.Margin.a1,v11.Margin.a2,bz⟩ }:aE)
  else
    jn K n v11
def jF (K:Kn) (n:Nat) (v10:aE):Option aE :=
  if (v10.Padding.a2.Kind == 2)=true then
    ja K n ({ v10 with Padding:=⟨v10.Padding.a0,v10.Padding.a1,bz,v10.Padding.a3⟩ }:aE)
  else
    ja K n v10
def jS (K:Kn) (n:Nat) (v9:aE):Option aE :=
  if (v9.Margin.a2.Kind == 2)=true then
    jF K n ({ v9 with Margin:=⟨v9.Margin.a0,v9.Margin.a1,bz,v9.Margin.a3⟩ }:aE)
  else
    jF K n v9
def je (K:Kn) (n:Nat) (v8:aE):Option aE :=
  if (v8.Padding.a1.Kind == 2)=true then
    jS K n ({ v8 with Padding:=⟨v8.Padding.a0,bz,v8.Padding.a2,v8.Padding.a3⟩ }:aE)
  else
    jS K n v8
def jA (K:Kn) (n:Nat) (v7:aE):Option aE :=
  if (v7.Margin.a1.Kind == 2)=true then
    je K n ({ v7 with Margin:=⟨v7.Margin.a0,bz,v7.Margin.a2,v7.Margin.a3⟩ }:aE)
  else
    je K n v7
def iS (K:Kn) (n:Nat) (v6:aE):Option aE :=
  if (v6.Padding.a0.Kind == 2)=true then
    jA K n ({ v6 with Padding:=⟨bz,v6.Padding.a1,v6.Padding.a2,v6.Padding.a3⟩ }:aE)
  else
    jA K n v6
def jV (K:Kn) (n:Nat) (v5:aE):Option aE :=
  if (v5.Margin.a0.Kind == 2)=true then
    iS K n ({ v5 with Margin:=⟨bz,v5.Margin.a1,v5.Margin.a2,v5.Margin.a3⟩ }:aE)
  else
    iS K n v5
def iZ (K:Kn) (n:Nat) (v4:aE):Option aE :=
  if (v4.MaxWidth.Kind == 2)=true then
    jV K n ({ v4 with MaxWidth:=bz }:aE)
  else
    jV K n v4
def jT (K:Kn) (n:Nat) (v3:aE):Option aE :=
  if (v3.MinWidth.Kind == 2)=true then
    iZ K n ({ v3 with MinWidth:=bz }:aE)
  else
    iZ K n v3
def jr (K:Kn) (n:Nat) (v1:aE):Option aE :=
  if (v1.Width.Kind == 2)=true then
    jT K n ({ v1 with Width:=bz }:aE)
  else
    jT K n v1
def kt (K:Kn) (n:Nat) (v2:bw) (v6:(List ab)×Bool) (L1:Int→Int→Int→Option (Int×Int)) (v11 v12 v13:Int):Option (Int×Int) :=
  if (decide (v13<(v6.1.length:Int)))=true then
    chk (inb v13 v6.1.length) (
    (K.eM v2.Widths (List.getD v6.1 (v13).toNat default)).bind fun v14 =>
    L1 (max v11 v14.1) (max v12 v14.2) (w64 (v13+1)))
  else
    (dw K n v11).bind fun v15 =>
    (dw K n v12).bind fun v16 =>
    some (v15,v16)
def jU (K:Kn) (n:Nat) (v2:bw) (v6:(List ab)×Bool):Nat→Int→Int→Int→Option (Int×Int)
  | 0=>fun _ _ _=>none
  | m+1=>kt K n v2 v6 (jU K n v2 v6 m)
def gm (K:Kn) (n:Nat) (v1:ab) (v2:bw):Option (Int×Int) :=
  (jr K n v1.Style).bind fun v3 =>
  (cA K n v3.Width 0).bind fun v4 =>
  if v4.2=true then
    (dw K n v4.1).bind fun v5 =>
    some (v5,v5)
  else
    (iL K n v1).bind fun v6 =>
    if (!v6.2)=true then
      (K.lL v2.Spread v6.1 v1.Style).bind fun v7 =>
      (dw K n v7.1).bind fun v8 =>
      (dw K n v7.2).bind fun v9 =>
      some (v8,v9)
    else
      jU K n v2 v6 n 0 0 0
def fe (K:Kn) (n:Nat) (v1:ab) (v2:bw):Option (Int×Int) :=
  (gm K n v1 v2).bind fun v3 =>
  (jr K n v1.Style).bind fun v4 =>
  (ib K n v4 0 v3.1).bind fun v5 =>
  (fq K n v4 0 v5).bind fun v6 =>
  (fC K n v6).bind fun v7 =>
  (ib K n v4 0 v3.2).bind fun v8 =>
  (fq K n v4 0 v8).bind fun v9 =>
  (fC K n v9).bind fun v10 =>
  some (v7,v10)
def fA (K:Kn) (n:Nat) (v1:ab):Option (Int×Int) :=
  (ff K n ).bind fun v2 =>
  (fe K n v1 v2).bind fun v3 =>
  some (v3.1,v3.2)
def KN:Nat→Kn
  | 0=>⟨fun _ _=>none,fun _ _=>none,fun _=>none,fun _ _=>none,fun _ _ _ _ _=>none,fun _ _ _=>none,fun _ _ _ _=>none,fun _ _ _=>none,fun _ _ _=>none,fun _ _=>none,fun _ _=>none⟩
  | n+1=>⟨fun a0 a1=>nD (KN n) n a0 a1,
    fun a0 a1=>mZ (KN n) n a0 a1,
    fun a0=>eQ (KN n) n a0,
    fun a0 a1=>eY (KN n) n a0 a1,
    fun a0 a1 a2 a3 a4=>gg (KN n) n a0 a1 a2 a3 a4,
    fun f a0 a1=>match f with | .fn i=>none | .c36 x0=>qr (KN n) n a0 a1 x0 | .c45 x0=>rn (KN n) n a0 a1 x0,
    fun f a0 a1 a2=>match f with | .fn i=>if Nat.beq i 56=true then iC (KN n) n a0 a1 a2 else none | .c36 x0=>none | .c45 x0=>none,
    fun f a0 a1=>match f with | .fn i=>if Nat.beq i 57=true then fP (KN n) n a0 a1 else none | .c36 x0=>none | .c45 x0=>none,
    fun f a0 a1=>match f with | .fn i=>if Nat.beq i 54=true then fF (KN n) n a0 a1 else none | .c36 x0=>none | .c45 x0=>none,
    fun f a0=>match f with | .fn i=>if Nat.beq i 111=true then gy (KN n) n a0 else none | .c36 x0=>none | .c45 x0=>none,
    fun f a0=>match f with | .fn i=>if Nat.beq i 55=true then fA (KN n) n a0 else none | .c36 x0=>none | .c45 x0=>none⟩
end
end Go.Proofs.Ytlpndemhnpajiaa
