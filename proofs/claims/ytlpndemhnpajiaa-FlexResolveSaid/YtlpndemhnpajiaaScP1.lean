/- The runs of the functions that FlexResolve reaches do what their plain forms say, part 1. Made by a program. -/
import Derived.Test.YtlpndemhnpajiaaScGk
import Derived.Test.YtlpndemhnpajiaaScP0
namespace Go.Proofs.Ytlpndemhnpajiaa
open Go.RowKit
set_option maxRecDepth 20000
set_option linter.all false
set_option linter.unusedVariables false
set_option linter.unusedSimpArgs false


def p19_0 : List Nat := ones 10 []
def p19_1 : List Nat := ones 9 [0, 0, 0]
def p19_2 : List Nat := ones 9 []
def p19_3 : List Nat := ones 8 [0, 1, 0, 0]
def p19_4 : List Nat := ones 6 []
def p19_5 : List Nat := ones 5 [0, 1, 0, 0]
def p19_6 : List Nat := ones 9 [0, 0, 0, 1, 0, 1, 1, 1, 1, 1, 1, 1, 1, 1, 1, 1, 1, 0, 0]
def p19_7 : List Nat := ones 9 [0, 0, 0, 1, 0, 1, 1, 1, 1, 1, 1, 1, 1, 1, 1, 1]
def p19_8 : List Nat := ones 9 [0, 0, 0, 1, 0, 1, 1, 1, 1, 1, 1, 1, 1, 1, 1, 0, 1, 0, 0]
def p19_9 : List Nat := ones 9 [0, 0, 0, 1, 0, 1, 1, 1, 1]
def p19_10 : List Nat := ones 9 [0, 0, 0, 1, 0, 1, 1, 1, 0, 1, 0, 0]
def p19_11 : List Nat := ones 8 [0, 1, 0, 0, 1, 1]
def p19_12 : List Nat := ones 8 [0, 1, 0, 0, 1, 0, 0, 1, 1]
def p19_13 : List Nat := ones 8 [0, 1, 0, 0, 1, 0, 0, 1, 1, 0]
def p19_14 : List Nat := ones 8 [0, 1, 0, 0, 1, 0, 0, 1, 1, 1]
def p19_15 : List Nat := ones 8 [0, 1, 0, 0, 1, 0, 0, 1, 1, 1, 1]
def p19_16 : List Nat := ones 8 [0, 1, 0, 0, 1, 0, 0, 1]
def p19_17 : List Nat := ones 8 [0, 1, 0, 0, 1, 0, 0, 1, 0, 1]
def p19_18 : List Nat := ones 8 [0, 1, 0, 0, 1, 0, 0, 1, 0, 1, 0]
def p19_19 : List Nat := ones 9 [0, 0, 0, 1, 0, 1, 1, 1, 0, 1, 0, 0, 1, 1]
def p19_20 : List Nat := ones 9 [0, 0, 0, 1, 0, 1, 1, 1, 1, 1, 1, 1, 1, 1, 1, 0, 1, 0, 0, 1, 1]
def p19_21 : List Nat := ones 9 [0, 0, 0, 1, 0, 1, 1, 1, 1, 1, 1, 1, 1, 1, 1, 0, 1, 0, 0, 1, 0, 0, 1, 1, 1]
def p19_22 : List Nat := ones 9 [0, 0, 0, 1, 0, 1, 1, 1, 1, 1, 1, 1, 1, 1, 1, 0, 1, 0, 0, 1, 0, 0, 1, 1, 1, 0]
def p19_23 : List Nat := ones 9 [0, 0, 0, 1, 0, 1, 1, 1, 1, 1, 1, 1, 1, 1, 1, 0, 1, 0, 0, 1, 0, 0, 1, 1, 1, 1]
def p19_24 : List Nat := ones 9 [0, 0, 0, 1, 0, 1, 1, 1, 1, 1, 1, 1, 1, 1, 1, 1, 1, 0, 0, 1, 1]
def p19_25 : List Nat := ones 9 [0, 0, 0, 1, 0, 1, 1, 1, 1, 1, 1, 1, 1, 1, 1, 1, 1, 0, 0, 1, 0, 0, 1]
def p19_26 : List Nat := ones 9 [0, 0, 0, 1, 0, 1, 1, 1, 1, 1, 1, 1, 1, 1, 1, 1, 1, 0, 0, 1, 0, 0, 1, 0, 0]
def p19_27 : List Nat := ones 9 [0, 0, 0, 1, 0, 1, 1, 1, 1, 1, 1, 1, 1, 1, 1, 1, 1, 0, 0, 1, 0, 0, 1, 0, 1]
def p19_28 : List Nat := ones 9 [0, 0, 0, 1, 0, 1, 1, 1, 1, 1, 1, 1, 1, 1, 1, 1, 1, 0, 0, 1, 0, 0, 1, 0, 1, 0]
def p19_29 : List Nat := ones 9 [0, 0, 0, 1, 0, 1, 1, 1, 1, 1, 1, 1, 1, 1, 1, 1, 1, 0, 0, 1, 0, 0, 1, 0, 1, 1]
def p19_30 : List Nat := ones 9 [0, 0, 0, 1, 0, 1, 1, 1, 1, 1, 1, 1, 1, 1, 1, 1, 1, 0, 0, 0, 0]
def p19_31 : List Nat := ones 9 [0, 0, 0, 1, 0, 1, 1, 1, 1, 1, 1, 1, 1, 1, 1, 1, 1, 0, 0, 0, 1]
def p19_32 : List Nat := ones 9 [0, 0, 0, 1, 0, 1, 1, 1, 1, 1, 1, 1, 1, 1, 1, 1, 1, 0, 0, 1]
def p19_33 : List Nat := ones 9 [0, 0, 0, 1, 0, 1, 1, 1, 1, 1, 1, 1, 1, 1, 1, 1, 1, 0, 0, 1, 0, 0, 0]
def p19_34 : List Nat := ones 9 [0, 0, 0, 1, 0, 1, 1, 1, 1, 1, 1, 1, 1, 1, 1, 0, 1, 0, 0, 0, 0]
def p19_35 : List Nat := ones 9 [0, 0, 0, 1, 0, 1, 1, 1, 1, 1, 1, 1, 1, 1, 1, 0, 1, 0, 0, 0, 1]
def p19_36 : List Nat := ones 9 [0, 0, 0, 1, 0, 1, 1, 1, 1, 1, 1, 1, 1, 1, 1, 0, 1, 0, 0, 1]
def p19_37 : List Nat := ones 9 [0, 0, 0, 1, 0, 1, 1, 1, 1, 1, 1, 1, 1, 1, 1, 0, 1, 0, 0, 1, 0, 0, 0, 0]
def p19_38 : List Nat := ones 9 [0, 0, 0, 1, 0, 1, 1, 1, 1, 1, 1, 1, 1, 1, 1, 0, 1, 0, 0, 1, 0, 0, 0, 1]
def p19_39 : List Nat := ones 9 [0, 0, 0, 1, 0, 1, 1, 1, 1, 1, 1, 1, 1, 1, 1, 0, 1, 0, 0, 1, 0, 0, 1]
def p19_40 : List Nat := ones 9 [0, 0, 0, 1, 0, 1, 1, 1, 1, 1, 1, 1, 1, 1, 1, 0, 1, 0, 0, 1, 0, 0, 1, 0]
def p19_41 : List Nat := ones 9 [0, 0, 0, 1, 0, 1, 1, 1, 1, 1, 1, 1, 1, 1, 1, 0, 1, 0, 0, 1, 0, 0, 1, 1]
def p19_42 : List Nat := ones 9 [0, 0, 0, 1, 0, 1, 1, 1, 1, 1, 1, 1, 1, 1, 1, 0, 1, 0, 0, 1, 0, 0, 1, 1, 0, 1]
def p19_43 : List Nat := ones 9 [0, 0, 0, 1, 0, 1, 1, 1, 1, 1, 1, 1, 1, 1, 1, 0, 1, 0, 0, 1, 0, 0, 1, 1, 0, 1, 0]
def p19_44 : List Nat := ones 9 [0, 0, 0, 1, 0, 1, 1, 1, 1, 1, 1, 1, 1, 1, 1, 1, 1, 0]
def p19_45 : List Nat := ones 9 [0, 0, 0, 1, 0, 1, 1, 1, 1, 1, 1, 1]
def p19_46 : List Nat := ones 9 [0, 0, 0, 1, 0, 1, 1, 1, 1, 1, 1, 1, 0]
def p19_47 : List Nat := ones 9 [0, 0, 0, 1, 0, 1, 1, 1, 1, 1, 1, 1, 1]
def p19_48 : List Nat := ones 9 [0, 0, 0, 1, 0, 1, 1, 1, 1, 1, 1, 1, 1, 1, 0]
def p19_49 : List Nat := ones 9 [0, 0, 0, 1, 0, 1, 1, 1, 1, 1, 1, 1, 1, 1, 1]
def p19_50 : List Nat := ones 9 [0, 0, 0, 1, 0, 1, 1, 1, 1, 1, 1, 1, 1, 1, 1, 0, 1, 0]
def p19_51 : List Nat := ones 9 [0, 0, 0, 1, 0, 1, 1, 1, 1, 1]
def p19_52 : List Nat := ones 9 [0, 0, 0, 1, 0, 1, 1, 1, 1, 1, 1, 0, 1]
def p19_53 : List Nat := ones 9 [0, 0, 0, 1, 0, 1, 1, 1, 0, 1, 0, 0, 0, 0]
def p19_54 : List Nat := ones 9 [0, 0, 0, 1, 0, 1, 1, 1, 0, 1, 0, 0, 0, 1]
def p19_55 : List Nat := ones 9 [0, 0, 0, 1, 0, 1, 1, 1, 0, 1, 0, 0, 1]
def p19_56 : List Nat := ones 9 [0, 0, 0, 1, 0, 1, 1, 1, 0, 1, 0, 0, 1, 0, 0, 0, 0]
def p19_57 : List Nat := ones 9 [0, 0, 0, 1, 0, 1, 1, 1, 0, 1, 0, 0, 1, 0, 0, 0, 1]
def p19_58 : List Nat := ones 9 [0, 0, 0, 1, 0, 1, 1, 1, 0, 1, 0, 0, 1, 0, 0, 1]
def p19_59 : List Nat := ones 9 [0, 0, 0, 1, 0, 1, 1, 1, 0, 1, 0, 0, 1, 0, 0, 0, 1, 0, 0]
def p19_60 : List Nat := ones 9 [0, 0, 0, 1, 0, 1, 1, 1, 0, 1, 0, 0, 1, 0, 0, 0, 1, 0, 1]
def p19_61 : List Nat := ones 9 [0, 0, 0, 1, 0, 1, 1, 1, 0, 1, 0, 0, 1, 0, 0, 1, 0]
def p19_62 : List Nat := ones 9 [0, 0, 0, 1, 0, 1, 1, 1, 0, 1, 0, 0, 1, 0, 0, 1, 1]
def p19_63 : List Nat := ones 9 [0, 0, 0, 1, 0, 1, 1, 1, 0, 1, 0, 0, 1, 0, 0, 1, 1, 0]
def p19_64 : List Nat := ones 9 [0, 0, 0, 1, 0, 1, 1, 1, 0, 1, 0, 0, 1, 0, 0, 1, 1, 1]
def p19_65 : List Nat := ones 9 [0, 0, 0, 1, 0, 1, 1, 1, 0, 1, 0, 0, 1, 0, 0, 1, 1, 1, 1]
def p19_66 : List Nat := ones 9 [0, 0, 0, 1, 0, 1, 1, 1, 0, 1, 0, 0, 1, 0, 0, 1, 1, 1, 1, 0, 0]
def p19_67 : List Nat := ones 9 [0, 0, 0, 1, 0, 1, 1, 1, 0, 1, 0, 0, 1, 0, 0, 1, 1, 1, 1, 0, 1]
def p19_68 : List Nat := ones 9 [0, 0, 0, 1, 0, 1, 1, 1, 0, 1, 0, 0, 1, 0, 0, 1, 1, 1, 1, 1]
def p19_69 : List Nat := ones 9 [0, 0, 0, 1, 0, 1, 1, 1, 1, 0, 1]
def p19_70 : List Nat := ones 9 [0, 0, 0, 0, 1]
def p19_71 : List Nat := ones 9 [0, 0, 0, 1]
def p19_72 : List Nat := ones 9 [0, 0, 0, 1, 0, 1, 1, 0]
def p19_73 : List Nat := ones 9 [0, 0, 0, 1, 0, 1, 1, 1]
def p19_74 : List Nat := ones 9 [0, 0, 0, 1, 0, 1, 1, 1, 0, 1, 0]
def p19_75 : List Nat := ones 8 [0, 1, 0, 0, 0, 0]
def p19_76 : List Nat := ones 8 [0, 1, 0, 0, 0, 1]
def p19_77 : List Nat := ones 8 [0, 1, 0, 0, 1]
def p19_78 : List Nat := ones 8 [0, 1, 0, 0, 1, 0, 0, 0]
def p19_79 : List Nat := ones 9 [0, 0]
def p19_80 : List Nat := ones 5 [0, 1, 0, 0, 0, 0]
def p19_81 : List Nat := ones 5 [0, 1, 0, 0, 0, 1]
def p19_82 : List Nat := ones 5 [0, 1, 0, 0, 1]
def p19_83 : List Nat := ones 5 [0, 1, 0, 0, 1, 0, 0, 0]
def p19_84 : List Nat := ones 5 [0, 1, 0, 0, 1, 0, 0, 1]
def p19_85 : List Nat := ones 5 [0, 1, 0, 0, 1, 1]
def p19_86 : List Nat := ones 5 [0, 1, 0, 0, 1, 0, 0, 1, 0]
def p19_87 : List Nat := ones 5 [0, 1, 0, 0, 1, 0, 0, 1, 1]
def p19_88 : List Nat := ones 8 [0, 1, 0]
def p19_89 : List Nat := ones 5 [0, 1, 0]
noncomputable section
abbrev cx19 (M : Nat → Prop) (w0 : Base) : Cx := ⟨Try.prog, 315, M, w0⟩
abbrev q19 (M : Nat → Prop) (w0 : Base) (r : (List Int)) := bodyPost Try.prog Try.f19 (RetQ M w0 (fun v s => v = .ref 44 ∧ look 44 s.r = some ⟨3, 1, List.map (eInt .i64) r⟩))
abbrev k19_3 (M : Nat → Prop) (w0 : Base) (r : (List Int)) (m3 : Nat) : Kont := kl (cx19 M w0) (q19 M w0 r) [.b 4, .c (cat Try.f19 p19_0)] (cat Try.f19 p19_1) m3
abbrev k19_2 (M : Nat → Prop) (w0 : Base) (r : (List Int)) (m2 : Nat) : Kont := kl (cx19 M w0) (q19 M w0 r) [.b 2, .c (cat Try.f19 p19_2)] (cat Try.f19 p19_3) m2
abbrev k19_1 (M : Nat → Prop) (w0 : Base) (r : (List Int)) (m1 : Nat) : Kont := kl (cx19 M w0) (q19 M w0 r) [.b 0, .c (cat Try.f19 p19_4)] (cat Try.f19 p19_5) m1
abbrev k19_6 (M : Nat → Prop) (w0 : Base) (r : (List Int)) (m3 m6 : Nat) : Kont := kl (cx19 M w0) (q19 M w0 r) [.b 10, .b 5, k19_3 M w0 r m3, .b 4, .c (cat Try.f19 p19_0)] (cat Try.f19 p19_6) m6
abbrev k19_5 (M : Nat → Prop) (w0 : Base) (r : (List Int)) (m3 m5 : Nat) : Kont := kl (cx19 M w0) (q19 M w0 r) [.b 8, .c (cat Try.f19 p19_7), .b 5, k19_3 M w0 r m3, .b 4, .c (cat Try.f19 p19_0)] (cat Try.f19 p19_8) m5
abbrev k19_4 (M : Nat → Prop) (w0 : Base) (r : (List Int)) (m3 m4 : Nat) : Kont := kl (cx19 M w0) (q19 M w0 r) [.b 6, .c (cat Try.f19 p19_9), .b 5, k19_3 M w0 r m3, .b 4, .c (cat Try.f19 p19_0)] (cat Try.f19 p19_10) m4
def s19_j4 (v2 : Int) (v7 : Int) (v9 : (List TFlexItem)) (v10 : (List Int)) (v20 : Int) (v21 : (List Bool)) (v23 : Bool) (v24 : Int) : AS := ⟨[(1,.int .i64 v2),(5,.ref 36),(6,.ref 44),(7,.ref 100),(10,.bool (decide (v7 < v2))),(11,.int .i64 v24),(12,.int .i64 v20)],[],[(36,⟨34,5,List.map eTFlexItem v9⟩),(44,⟨3,1,List.map (eInt .i64) v10⟩),(100,⟨4,1,List.map eBool (v21 ++ [v23])⟩)],[36,44,100]⟩
def s19_j3 (v2 : Int) (v7 : Int) (v9 : (List TFlexItem)) (v10 : (List Int)) (v19 : Int) (v20 : Int) (v21 : (List Bool)) (v23 : Bool) : AS := ⟨[(1,.int .i64 v2),(5,.ref 36),(6,.ref 44),(7,.ref 100),(10,.bool (decide (v7 < v2))),(11,.int .i64 v19),(12,.int .i64 v20),(13,.bool v23)],[],[(36,⟨34,5,List.map eTFlexItem v9⟩),(44,⟨3,1,List.map (eInt .i64) v10⟩),(100,⟨4,1,List.map eBool v21⟩)],[36,44,100]⟩
def s19_j2 (v2 : Int) (v7 : Int) (v9 : (List TFlexItem)) (v10 : (List Int)) (v19 : Int) (v20 : Int) (v21 : (List Bool)) (v22 : Bool) : AS := ⟨[(1,.int .i64 v2),(5,.ref 36),(6,.ref 44),(7,.ref 100),(10,.bool (decide (v7 < v2))),(11,.int .i64 v19),(12,.int .i64 v20),(13,.bool v22)],[],[(36,⟨34,5,List.map eTFlexItem v9⟩),(44,⟨3,1,List.map (eInt .i64) v10⟩),(100,⟨4,1,List.map eBool v21⟩)],[36,44,100]⟩
def s19_j7 (v2 : Int) (v7 : Int) (v9 : (List TFlexItem)) (v78 : Int) (v79 : (List Int)) (v80 : (List Bool)) (v92 : Int) (v99 : Int) (v100 : Int) (v101 : (List Int)) : AS := ⟨[(1,.int .i64 v2),(5,.ref 36),(6,.ref 44),(7,.ref 100),(10,.bool (decide (v7 < v2))),(11,.int .i64 v78),(14,.int .i64 v99),(15,.int .i64 v100),(16,.ref 110),(17,.int .i64 v92)],[],[(36,⟨34,5,List.map eTFlexItem v9⟩),(44,⟨3,1,List.map (eInt .i64) v79⟩),(100,⟨4,1,List.map eBool v80⟩),(110,⟨3,1,List.map (eInt .i64) v101⟩)],[36,44,100,110]⟩
def s19_j6 (v2 : Int) (v7 : Int) (v9 : (List TFlexItem)) (v78 : Int) (v79 : (List Int)) (v80 : (List Bool)) (v92 : Int) (v94 : Int) (v97 : Int) (v98 : (List Int)) : AS := ⟨[(1,.int .i64 v2),(5,.ref 36),(6,.ref 44),(7,.ref 100),(10,.bool (decide (v7 < v2))),(11,.int .i64 v78),(14,.int .i64 v94),(15,.int .i64 v97),(16,.ref 110),(17,.int .i64 v92)],[],[(36,⟨34,5,List.map eTFlexItem v9⟩),(44,⟨3,1,List.map (eInt .i64) v79⟩),(100,⟨4,1,List.map eBool v80⟩),(110,⟨3,1,List.map (eInt .i64) v98⟩)],[36,44,100,110]⟩
def s19_j12 (v2 : Int) (v7 : Int) (v9 : (List TFlexItem)) (v78 : Int) (v80 : (List Bool)) (v104 : (List Int)) (v113 : Int) (v119 : Int) (v120 : (List Int)) (v121 : (List Int)) : AS := ⟨[(1,.int .i64 v2),(5,.ref 36),(6,.ref 44),(7,.ref 100),(10,.bool (decide (v7 < v2))),(11,.int .i64 v78),(18,.ref 1186),(19,.int .i64 v119),(20,.ref 189),(21,.int .i64 v113)],[],[(36,⟨34,5,List.map eTFlexItem v9⟩),(44,⟨3,1,List.map (eInt .i64) v120⟩),(100,⟨4,1,List.map eBool v80⟩),(189,⟨3,1,List.map (eInt .i64) v121⟩),(1186,⟨3,1,List.map (eInt .i64) v104⟩)],[36,44,100,189,1186]⟩
def s19_j11 (v2 : Int) (v7 : Int) (v9 : (List TFlexItem)) (v78 : Int) (v80 : (List Bool)) (v104 : (List Int)) (v112 : Int) (v113 : Int) (v115 : (List Int)) (v117 : (List Int)) : AS := ⟨[(1,.int .i64 v2),(5,.ref 36),(6,.ref 44),(7,.ref 100),(10,.bool (decide (v7 < v2))),(11,.int .i64 v78),(18,.ref 1186),(19,.int .i64 v112),(20,.ref 189),(21,.int .i64 v113)],[],[(36,⟨34,5,List.map eTFlexItem v9⟩),(44,⟨3,1,List.map (eInt .i64) v117⟩),(100,⟨4,1,List.map eBool v80⟩),(189,⟨3,1,List.map (eInt .i64) v115⟩),(1186,⟨3,1,List.map (eInt .i64) v104⟩)],[36,44,100,189,1186]⟩
def s19_j15 (v2 : Int) (v7 : Int) (v9 : (List TFlexItem)) (v112 : Int) (v115 : (List Int)) (v127 : Int) (v131 : Int) (v132 : (List Int)) (v133 : (List Bool)) : AS := ⟨[(1,.int .i64 v2),(5,.ref 36),(6,.ref 44),(7,.ref 100),(10,.bool (decide (v7 < v2))),(11,.int .i64 v131),(19,.int .i64 v112),(20,.ref 189),(22,.int .i64 v127)],[],[(36,⟨34,5,List.map eTFlexItem v9⟩),(44,⟨3,1,List.map (eInt .i64) v132⟩),(100,⟨4,1,List.map eBool v133⟩),(189,⟨3,1,List.map (eInt .i64) v115⟩)],[36,44,100,189]⟩
def s19_j14 (v2 : Int) (v7 : Int) (v9 : (List TFlexItem)) (v112 : Int) (v115 : (List Int)) (v126 : Int) (v127 : Int) (v128 : (List Int)) (v129 : (List Bool)) (v130 : Bool) : AS := ⟨[(1,.int .i64 v2),(5,.ref 36),(6,.ref 44),(7,.ref 100),(10,.bool (decide (v7 < v2))),(11,.int .i64 v126),(19,.int .i64 v112),(20,.ref 189),(22,.int .i64 v127),(301,.bool v130)],[],[(36,⟨34,5,List.map eTFlexItem v9⟩),(44,⟨3,1,List.map (eInt .i64) v128⟩),(100,⟨4,1,List.map eBool v129⟩),(189,⟨3,1,List.map (eInt .i64) v115⟩)],[36,44,100,189]⟩
def s19_l16 (v2 : Int) (v7 : Int) (v9 : (List TFlexItem)) (v112 : Int) (v115 : (List Int)) (v126 : Int) (v127 : Int) (v128 : (List Int)) (v129 : (List Bool)) : AS := ⟨[(1,.int .i64 v2),(5,.ref 36),(6,.ref 44),(7,.ref 100),(10,.bool (decide (v7 < v2))),(11,.int .i64 v126),(19,.int .i64 v112),(20,.ref 189),(22,.int .i64 v127)],[],[(36,⟨34,5,List.map eTFlexItem v9⟩),(44,⟨3,1,List.map (eInt .i64) v128⟩),(100,⟨4,1,List.map eBool v129⟩),(189,⟨3,1,List.map (eInt .i64) v115⟩)],[36,44,100,189]⟩
def s19_l13 (v2 : Int) (v7 : Int) (v9 : (List TFlexItem)) (v78 : Int) (v80 : (List Bool)) (v104 : (List Int)) (v112 : Int) (v113 : Int) (v114 : (List Int)) (v115 : (List Int)) : AS := ⟨[(1,.int .i64 v2),(5,.ref 36),(6,.ref 44),(7,.ref 100),(10,.bool (decide (v7 < v2))),(11,.int .i64 v78),(18,.ref 1186),(19,.int .i64 v112),(20,.ref 189),(21,.int .i64 v113)],[],[(36,⟨34,5,List.map eTFlexItem v9⟩),(44,⟨3,1,List.map (eInt .i64) v114⟩),(100,⟨4,1,List.map eBool v80⟩),(189,⟨3,1,List.map (eInt .i64) v115⟩),(1186,⟨3,1,List.map (eInt .i64) v104⟩)],[36,44,100,189,1186]⟩
def s19_j10 (v2 : Int) (v7 : Int) (v9 : (List TFlexItem)) (v78 : Int) (v79 : (List Int)) (v80 : (List Bool)) (v93 : (List Int)) (v103 : Int) : AS := ⟨[(1,.int .i64 v2),(5,.ref 36),(6,.ref 44),(7,.ref 100),(10,.bool (decide (v7 < v2))),(11,.int .i64 v78),(14,.int .i64 v103),(16,.ref 110)],[],[(36,⟨34,5,List.map eTFlexItem v9⟩),(44,⟨3,1,List.map (eInt .i64) v79⟩),(100,⟨4,1,List.map eBool v80⟩),(110,⟨3,1,List.map (eInt .i64) v93⟩)],[36,44,100,110]⟩
def s19_j9 (v2 : Int) (v7 : Int) (v9 : (List TFlexItem)) (v78 : Int) (v79 : (List Int)) (v80 : (List Bool)) (v91 : Int) (v93 : (List Int)) (v102 : Int) : AS := ⟨[(1,.int .i64 v2),(5,.ref 36),(6,.ref 44),(7,.ref 100),(10,.bool (decide (v7 < v2))),(11,.int .i64 v78),(14,.int .i64 v102),(15,.int .i64 v91),(16,.ref 110)],[],[(36,⟨34,5,List.map eTFlexItem v9⟩),(44,⟨3,1,List.map (eInt .i64) v79⟩),(100,⟨4,1,List.map eBool v80⟩),(110,⟨3,1,List.map (eInt .i64) v93⟩)],[36,44,100,110]⟩
def s19_l8 (v2 : Int) (v7 : Int) (v9 : (List TFlexItem)) (v78 : Int) (v79 : (List Int)) (v80 : (List Bool)) (v90 : Int) (v91 : Int) (v92 : Int) (v93 : (List Int)) : AS := ⟨[(1,.int .i64 v2),(5,.ref 36),(6,.ref 44),(7,.ref 100),(10,.bool (decide (v7 < v2))),(11,.int .i64 v78),(14,.int .i64 v90),(15,.int .i64 v91),(16,.ref 110),(17,.int .i64 v92)],[],[(36,⟨34,5,List.map eTFlexItem v9⟩),(44,⟨3,1,List.map (eInt .i64) v79⟩),(100,⟨4,1,List.map eBool v80⟩),(110,⟨3,1,List.map (eInt .i64) v93⟩)],[36,44,100,110]⟩
def s19_l17 (v2 : Int) (v7 : Int) (v9 : (List TFlexItem)) (v78 : Int) (v79 : (List Int)) (v80 : (List Bool)) : AS := ⟨[(1,.int .i64 v2),(5,.ref 36),(6,.ref 44),(7,.ref 100),(10,.bool (decide (v7 < v2))),(11,.int .i64 v78)],[],[(36,⟨34,5,List.map eTFlexItem v9⟩),(44,⟨3,1,List.map (eInt .i64) v79⟩),(100,⟨4,1,List.map eBool v80⟩)],[36,44,100]⟩
def s19_l5 (v2 : Int) (v7 : Int) (v9 : (List TFlexItem)) (v10 : (List Int)) (v19 : Int) (v20 : Int) (v21 : (List Bool)) : AS := ⟨[(1,.int .i64 v2),(5,.ref 36),(6,.ref 44),(7,.ref 100),(10,.bool (decide (v7 < v2))),(11,.int .i64 v19),(12,.int .i64 v20)],[],[(36,⟨34,5,List.map eTFlexItem v9⟩),(44,⟨3,1,List.map (eInt .i64) v10⟩),(100,⟨4,1,List.map eBool v21⟩)],[36,44,100]⟩
def s19_l1 (v1 : (List TFlexItem)) (v2 : Int) (v7 : Int) (v8 : Int) (v9 : (List TFlexItem)) (v10 : (List Int)) : AS := ⟨[(0,.sl (List.map eTFlexItem v1)),(1,.int .i64 v2),(5,.ref 36),(6,.ref 44),(7,.nils),(8,.int .i64 v7),(9,.int .i64 v8)],[],[(36,⟨34,5,List.map eTFlexItem v9⟩),(44,⟨3,1,List.map (eInt .i64) v10⟩)],[36,44]⟩
abbrev H19_1 (M : Nat → Prop) (w0 : Base) (r : (List Int)) (v1 : (List TFlexItem)) (v2 : Int) (m1 : Nat) (L1 : Int → Int → (List TFlexItem) → (List Int) → Option (List Int)) : Prop := ∀ {v7 : Int} {v8 : Int} {v9 : (List TFlexItem)} {v10 : (List Int)}, L1 v7 v8 v9 v10 = some r → LP (cx19 M w0) (q19 M w0 r) [.b 0, .c (cat Try.f19 p19_4)] (cat Try.f19 p19_5) m1 (s19_l1 v1 v2 v7 v8 v9 v10)
abbrev H19_2 (M : Nat → Prop) (w0 : Base) (r : (List Int)) (v2 : Int) (v7 : Int) (v9 : (List TFlexItem)) (v10 : (List Int)) (m2 : Nat) (L2 : Int → Int → (List Bool) → Option (List Int)) : Prop := ∀ {v19 : Int} {v20 : Int} {v21 : (List Bool)}, L2 v19 v20 v21 = some r → LP (cx19 M w0) (q19 M w0 r) [.b 2, .c (cat Try.f19 p19_2)] (cat Try.f19 p19_3) m2 (s19_l5 v2 v7 v9 v10 v19 v20 v21)
abbrev H19_3 (M : Nat → Prop) (w0 : Base) (r : (List Int)) (v2 : Int) (v7 : Int) (v9 : (List TFlexItem)) (m3 : Nat) (L3 : Int → (List Int) → (List Bool) → Option (List Int)) : Prop := ∀ {v78 : Int} {v79 : (List Int)} {v80 : (List Bool)}, L3 v78 v79 v80 = some r → LP (cx19 M w0) (q19 M w0 r) [.b 4, .c (cat Try.f19 p19_0)] (cat Try.f19 p19_1) m3 (s19_l17 v2 v7 v9 v78 v79 v80)
abbrev H19_4 (M : Nat → Prop) (w0 : Base) (r : (List Int)) (v2 : Int) (v7 : Int) (v9 : (List TFlexItem)) (v78 : Int) (v79 : (List Int)) (v80 : (List Bool)) (m3 m4 : Nat) (L4 : Int → Int → Int → (List Int) → Option (List Int)) : Prop := ∀ {v90 : Int} {v91 : Int} {v92 : Int} {v93 : (List Int)}, L4 v90 v91 v92 v93 = some r → LP (cx19 M w0) (q19 M w0 r) [.b 6, .c (cat Try.f19 p19_9), .b 5, k19_3 M w0 r m3, .b 4, .c (cat Try.f19 p19_0)] (cat Try.f19 p19_10) m4 (s19_l8 v2 v7 v9 v78 v79 v80 v90 v91 v92 v93)
abbrev H19_5 (M : Nat → Prop) (w0 : Base) (r : (List Int)) (v2 : Int) (v7 : Int) (v9 : (List TFlexItem)) (v78 : Int) (v80 : (List Bool)) (v104 : (List Int)) (m3 m5 : Nat) (L5 : Int → Int → (List Int) → (List Int) → Option (List Int)) : Prop := ∀ {v112 : Int} {v113 : Int} {v114 : (List Int)} {v115 : (List Int)}, L5 v112 v113 v114 v115 = some r → LP (cx19 M w0) (q19 M w0 r) [.b 8, .c (cat Try.f19 p19_7), .b 5, k19_3 M w0 r m3, .b 4, .c (cat Try.f19 p19_0)] (cat Try.f19 p19_8) m5 (s19_l13 v2 v7 v9 v78 v80 v104 v112 v113 v114 v115)
abbrev H19_6 (M : Nat → Prop) (w0 : Base) (r : (List Int)) (v2 : Int) (v7 : Int) (v9 : (List TFlexItem)) (v112 : Int) (v115 : (List Int)) (m3 m6 : Nat) (L6 : Int → Int → (List Int) → (List Bool) → Option (List Int)) : Prop := ∀ {v126 : Int} {v127 : Int} {v128 : (List Int)} {v129 : (List Bool)}, L6 v126 v127 v128 v129 = some r → LP (cx19 M w0) (q19 M w0 r) [.b 10, .b 5, k19_3 M w0 r m3, .b 4, .c (cat Try.f19 p19_0)] (cat Try.f19 p19_6) m6 (s19_l16 v2 v7 v9 v112 v115 v126 v127 v128 v129)
variable {K : Kn} {n : Nat} {M : Nat → Prop} {w0 : Base} {r : (List Int)} {v1 : (List TFlexItem)} {v2 : Int} {v7 : Int} {v8 : Int} {v9 : (List TFlexItem)} {v10 : (List Int)} {v19 : Int} {v20 : Int} {v21 : (List Bool)} {v22 : Bool} {v23 : Bool} {v24 : Int} {v78 : Int} {v79 : (List Int)} {v80 : (List Bool)} {v90 : Int} {v91 : Int} {v92 : Int} {v93 : (List Int)} {v94 : Int} {v97 : Int} {v98 : (List Int)} {v99 : Int} {v100 : Int} {v101 : (List Int)} {v102 : Int} {v103 : Int} {v104 : (List Int)} {v112 : Int} {v113 : Int} {v114 : (List Int)} {v115 : (List Int)} {v117 : (List Int)} {v119 : Int} {v120 : (List Int)} {v121 : (List Int)} {v126 : Int} {v127 : Int} {v128 : (List Int)} {v129 : (List Bool)} {v130 : Bool} {v131 : Int} {v132 : (List Int)} {v133 : (List Bool)} {m1 : Nat} {L1 : Int → Int → (List TFlexItem) → (List Int) → Option (List Int)} {m2 : Nat} {L2 : Int → Int → (List Bool) → Option (List Int)} {m3 : Nat} {L3 : Int → (List Int) → (List Bool) → Option (List Int)} {m4 : Nat} {L4 : Int → Int → Int → (List Int) → Option (List Int)} {m5 : Nat} {L5 : Int → Int → (List Int) → (List Int) → Option (List Int)} {m6 : Nat} {L6 : Int → Int → (List Int) → (List Bool) → Option (List Int)}
theorem g_ref19_Resolve_j4_ok (hK : KnOk K) (hL2 : H19_2 M w0 r v2 v7 v9 v10 m2 L2) (h : g_ref19_Resolve_j4 K n v2 v7 v9 v10 v20 v21 v23 L2 v24 = some r) : VE (cx19 M w0) (q19 M w0 r) [.b 3, .c (cat Try.f19 p19_11), k19_2 M w0 r m2, .b 2, .c (cat Try.f19 p19_2)] .normal (s19_j4 v2 v7 v9 v10 v20 v21 v23 v24) := by
  unfold g_ref19_Resolve_j4 at h
  exact ve_arr 2 (lp_back (hL2 h))
theorem g_ref19_Resolve_j3_ok (hK : KnOk K) (hL2 : H19_2 M w0 r v2 v7 v9 v10 m2 L2) (h : g_ref19_Resolve_j3 K n v2 v7 v9 v10 v19 v20 v21 L2 v23 = some r) : VE (cx19 M w0) (q19 M w0 r) [.c (cat Try.f19 p19_12), .b 3, .c (cat Try.f19 p19_11), k19_2 M w0 r m2, .b 2, .c (cat Try.f19 p19_2)] .normal (s19_j3 v2 v7 v9 v10 v19 v20 v21 v23) := by
  unfold g_ref19_Resolve_j3 at h
  refine ve_un (ks' := [.c (cat Try.f19 p19_13), .c (cat Try.f19 p19_14), .b 3, .c (cat Try.f19 p19_11), k19_2 M w0 r m2, .b 2, .c (cat Try.f19 p19_2)]) 1 ?_
  refine ve_in 3 ?_
  obtain ⟨h59, h⟩ := chk_some h
  refine ot_sp (y_app 100 100 4 1 eBool (rfl) (fun _ => rfl) h59) ?_
  refine ot_end ?_
  refine ve_un (ks' := [.c (cat Try.f19 p19_15), .b 3, .c (cat Try.f19 p19_11), k19_2 M w0 r m2, .b 2, .c (cat Try.f19 p19_2)]) 2 ?_
  rcases ite_some h with ⟨h60, h⟩ | ⟨h60, h⟩
  ·
   refine ve_sb 102 h60 ?_
   exact ve_arr 2 (g_ref19_Resolve_j4_ok hK hL2 h)
  ·
   refine ve_sb 102 h60 ?_
   exact ve_arr 2 (g_ref19_Resolve_j4_ok hK hL2 h)
theorem g_ref19_Resolve_j2_ok (hK : KnOk K) (hL2 : H19_2 M w0 r v2 v7 v9 v10 m2 L2) (h : g_ref19_Resolve_j2 K n v2 v7 v9 v10 v19 v20 v21 L2 v22 = some r) : VE (cx19 M w0) (q19 M w0 r) [.c (cat Try.f19 p19_16), .b 3, .c (cat Try.f19 p19_11), k19_2 M w0 r m2, .b 2, .c (cat Try.f19 p19_2)] .normal (s19_j2 v2 v7 v9 v10 v19 v20 v21 v22) := by
  unfold g_ref19_Resolve_j2 at h
  refine ve_un (ks' := [.c (cat Try.f19 p19_17), .c (cat Try.f19 p19_12), .b 3, .c (cat Try.f19 p19_11), k19_2 M w0 r m2, .b 2, .c (cat Try.f19 p19_2)]) 3 ?_
  rcases ite_some h with ⟨h54, h⟩ | ⟨h54, h⟩
  ·
   refine ve_sb 78 h54 ?_
   refine ve_un (ks' := [.c (cat Try.f19 p19_18), .c (cat Try.f19 p19_12), .b 3, .c (cat Try.f19 p19_11), k19_2 M w0 r m2, .b 2, .c (cat Try.f19 p19_2)]) 1 ?_
   refine ve_pk [1, 5, 6, 7, 10, 11, 12] [] [36, 44, 100] ?_
   obtain ⟨h55, h⟩ := chk_some h
   rcases ite_some h with ⟨h56, h⟩ | ⟨h56, h⟩
   ·
    refine ve_dr 1 [(79, .ref 36), (80, .int .i64 v20), (81, .eptr 36 5 ((v20).toNat) 0), (82, .eptr 36 5 ((v20).toNat) 1), (83, .int .i64 ((List.getD v9 (v20).toNat default).Grow)), (84, .bool (((List.getD v9 (v20).toNat default).Grow) == 0)), (85, .bool true), (86, .tup []), (87, .tup []), (88, .tup []), (89, .tup []), (90, .tup []), (91, .tup []), (92, .tup []), (93, .tup []), (94, .tup []), (95, .tup []), (96, .bool true)] [] [] [stp Try.prog 315 Try.f19 p19_18 18] (d_vs [.v 0 1, .v 0 1] (d_c1 (e_v (lo := 0) (y_ixr 36 5 eTFlexItem (L := v9) (i := v20) (by first | exact h55 | exact Eq.trans (by simp only [List.length_set]) h55))) (d_vs [.v 0 1] (d_c1 (e_v (lo := 0) (y_ldr 3 1 eTFlexItem eTFlexItem (inb_spec h55).2 (fun _ => rfl))) (d_vs [.v 0 1] (d_c1 (k_v (lo := 0) (k := 1) (kallS ⟨(by kernel_rfl), (aop_boolc 85 (e := (((List.getD v9 (v20).toNat default).Grow) == 0)) (b := true) h56 (by kernel_rfl) (by kernel_rfl))⟩ (kall0))) (d_c1 (k_off (lo := 0) (k := 1) (by kernel_rfl) (kallS (by kernel_rfl) (kall0)) (kallS (by kernel_rfl) (kallS (by kernel_rfl) (kall0)))) (d_c1 (k_off (lo := 0) (k := 1) (by kernel_rfl) (kallS (by kernel_rfl) (kall0)) (kallS (by kernel_rfl) (kallS (by kernel_rfl) (kall0)))) (d_c1 (k_off (lo := 0) (k := 1) (by kernel_rfl) (kallS (by kernel_rfl) (kall0)) (kallS (by kernel_rfl) (kallS (by kernel_rfl) (kall0)))) (d_c1 (k_off (lo := 0) (k := 1) (by kernel_rfl) (kallS (by kernel_rfl) (kall0)) (kallS (by kernel_rfl) (kallS (by kernel_rfl) (kall0)))) (d_c1 (k_off (lo := 0) (k := 1) (by kernel_rfl) (kallS (by kernel_rfl) (kall0)) (kallS (by kernel_rfl) (kallS (by kernel_rfl) (kall0)))) (d_c1 (k_off (lo := 0) (k := 1) (by kernel_rfl) (kallS (by kernel_rfl) (kall0)) (kallS (by kernel_rfl) (kallS (by kernel_rfl) (kall0)))) (d_c1 (k_off (lo := 0) (k := 1) (by kernel_rfl) (kallS (by kernel_rfl) (kall0)) (kallS (by kernel_rfl) (kallS (by kernel_rfl) (kall0)))) (d_c1 (k_off (lo := 0) (k := 1) (by kernel_rfl) (kallS (by kernel_rfl) (kall0)) (kallS (by kernel_rfl) (kallS (by kernel_rfl) (kall0)))) (d_c1 (k_off (lo := 0) (k := 1) (by kernel_rfl) (kallS (by kernel_rfl) (kall0)) (kallS (by kernel_rfl) (kallS (by kernel_rfl) (kall0)))) (d_c1 (k_off (lo := 0) (k := 1) (by kernel_rfl) (kallS (by kernel_rfl) (kall0)) (kallS (by kernel_rfl) (kallS (by kernel_rfl) (kall0)))) (d_vs [.v 0 1] (d_c1 (e_d 0) (d_nl))))))))))))))))))) ?_
    exact ve_arr 0 (g_ref19_Resolve_j3_ok hK hL2 h)
   ·
    obtain ⟨h57, h⟩ := chk_some h
    obtain ⟨h58, h⟩ := chk_some h
    refine ve_dr 1 [(79, .ref 36), (80, .int .i64 v20), (81, .eptr 36 5 ((v20).toNat) 0), (82, .eptr 36 5 ((v20).toNat) 1), (83, .int .i64 ((List.getD v9 (v20).toNat default).Grow)), (84, .bool (((List.getD v9 (v20).toNat default).Grow) == 0)), (85, .bool false), (86, .ref 36), (87, .int .i64 v20), (88, .eptr 36 5 ((v20).toNat) 0), (89, .eptr 36 5 ((v20).toNat) 0), (90, .int .i64 ((List.getD v9 (v20).toNat default).Base)), (91, .ref 44), (92, .int .i64 v20), (93, .eptr 44 1 ((v20).toNat) 0), (94, .int .i64 (List.getD v10 (v20).toNat default)), (95, .bool (decide (((List.getD v9 (v20).toNat default).Base) > (List.getD v10 (v20).toNat default)))), (96, .bool (decide (((List.getD v9 (v20).toNat default).Base) > (List.getD v10 (v20).toNat default))))] [] [] [stp Try.prog 315 Try.f19 p19_18 18] (d_vs [.v 0 1, .v 0 1] (d_c1 (e_v (lo := 0) (y_ixr 36 5 eTFlexItem (L := v9) (i := v20) (by first | exact h55 | exact Eq.trans (by simp only [List.length_set]) h55))) (d_vs [.v 0 1] (d_c1 (e_v (lo := 0) (y_ldr 3 1 eTFlexItem eTFlexItem (inb_spec h57).2 (fun _ => rfl))) (d_vs [.v 0 1] (d_c1 (k_v (lo := 0) (k := 1) (kallS ⟨(by kernel_rfl), (aop_boolc 85 (e := (((List.getD v9 (v20).toNat default).Grow) == 0)) (b := false) h56 (by kernel_rfl) (by kernel_rfl))⟩ (kall0))) (d_vs [.v 0 1, .v 0 1] (d_c1 (e_v (lo := 0) (y_ixr 36 5 eTFlexItem (L := v9) (i := v20) (by first | exact h57 | exact Eq.trans (by simp only [List.length_set]) h57))) (d_vs [.v 0 1] (d_c1 (e_v (lo := 0) (y_ldr 3 0 eTFlexItem eTFlexItem (inb_spec h57).2 (fun _ => rfl))) (d_vs [.v 0 1, .v 0 1] (d_c1 (e_v (lo := 0) (y_ixr 44 1 (eInt .i64) (L := v10) (i := v20) (by first | exact h58 | exact Eq.trans (by simp only [List.length_set]) h58))) (d_c1 (e_v (lo := 0) (y_ldr 3 0 (eInt .i64) (eInt .i64) (inb_spec h58).2 (fun _ => rfl))) (d_vs [.v 0 1, .v 0 1] (d_c1 (e_d 0) (d_nl)))))))))))))))) ?_
    exact ve_arr 0 (g_ref19_Resolve_j3_ok hK hL2 h)
  ·
   refine ve_sb 78 h54 ?_
   exact ve_arr 2 (g_ref19_Resolve_j3_ok hK hL2 h)
theorem g_ref19_Resolve_j7_ok (hK : KnOk K) (hL3 : H19_3 M w0 r v2 v7 v9 m3 L3) (hL4 : H19_4 M w0 r v2 v7 v9 v78 v79 v80 m3 m4 L4) (h : g_ref19_Resolve_j7 K n v2 v7 v9 v78 v79 v80 v92 L3 L4 v99 v100 v101 = some r) : VE (cx19 M w0) (q19 M w0 r) [.c (cat Try.f19 p19_19), k19_4 M w0 r m3 m4, .b 6, .c (cat Try.f19 p19_9), .b 5, k19_3 M w0 r m3, .b 4, .c (cat Try.f19 p19_0)] .normal (s19_j7 v2 v7 v9 v78 v79 v80 v92 v99 v100 v101) := by
  unfold g_ref19_Resolve_j7 at h
  exact ve_arr 1 (lp_back (hL4 h))
theorem g_ref19_Resolve_j6_ok (hK : KnOk K) (hL3 : H19_3 M w0 r v2 v7 v9 m3 L3) (hL4 : H19_4 M w0 r v2 v7 v9 v78 v79 v80 m3 m4 L4) (h : g_ref19_Resolve_j6 K n v2 v7 v9 v78 v79 v80 v92 v94 L3 L4 v97 v98 = some r) : VE (cx19 M w0) (q19 M w0 r) [.b 7, .c (cat Try.f19 p19_19), k19_4 M w0 r m3 m4, .b 6, .c (cat Try.f19 p19_9), .b 5, k19_3 M w0 r m3, .b 4, .c (cat Try.f19 p19_0)] .normal (s19_j6 v2 v7 v9 v78 v79 v80 v92 v94 v97 v98) := by
  unfold g_ref19_Resolve_j6 at h
  exact ve_arr 1 (g_ref19_Resolve_j7_ok hK hL3 hL4 h)
theorem g_ref19_Resolve_j12_ok (hK : KnOk K) (hL3 : H19_3 M w0 r v2 v7 v9 m3 L3) (hL5 : H19_5 M w0 r v2 v7 v9 v78 v80 v104 m3 m5 L5) (h : g_ref19_Resolve_j12 K n v2 v7 v9 v78 v80 v104 v113 L3 L5 v119 v120 v121 = some r) : VE (cx19 M w0) (q19 M w0 r) [.c (cat Try.f19 p19_20), k19_5 M w0 r m3 m5, .b 8, .c (cat Try.f19 p19_7), .b 5, k19_3 M w0 r m3, .b 4, .c (cat Try.f19 p19_0)] .normal (s19_j12 v2 v7 v9 v78 v80 v104 v113 v119 v120 v121) := by
  unfold g_ref19_Resolve_j12 at h
  exact ve_arr 1 (lp_back (hL5 h))
theorem g_ref19_Resolve_j11_ok (hK : KnOk K) (hL3 : H19_3 M w0 r v2 v7 v9 m3 L3) (hL5 : H19_5 M w0 r v2 v7 v9 v78 v80 v104 m3 m5 L5) (h : g_ref19_Resolve_j11 K n v2 v7 v9 v78 v80 v104 v112 v113 v115 L3 L5 v117 = some r) : VE (cx19 M w0) (q19 M w0 r) [.c (cat Try.f19 p19_21), .b 9, .c (cat Try.f19 p19_20), k19_5 M w0 r m3 m5, .b 8, .c (cat Try.f19 p19_7), .b 5, k19_3 M w0 r m3, .b 4, .c (cat Try.f19 p19_0)] .normal (s19_j11 v2 v7 v9 v78 v80 v104 v112 v113 v115 v117) := by
  unfold g_ref19_Resolve_j11 at h
  refine ve_un (ks' := [.c (cat Try.f19 p19_22), .c (cat Try.f19 p19_23), .b 9, .c (cat Try.f19 p19_20), k19_5 M w0 r m3 m5, .b 8, .c (cat Try.f19 p19_7), .b 5, k19_3 M w0 r m3, .b 4, .c (cat Try.f19 p19_0)]) 1 ?_
  refine ve_pk [1, 5, 6, 7, 10, 11, 18, 19, 20, 21] [] [36, 44, 100, 189, 1186] ?_
  obtain ⟨h242, h⟩ := chk_some h
  obtain ⟨h243, h⟩ := chk_some h
  obtain ⟨h244, h⟩ := chk_some h
  obtain ⟨h245, h⟩ := chk_some h
  refine ve_dr 1 [(227, .ref 189), (228, .int .i64 v113), (229, .ref 44), (230, .int .i64 v113), (231, .eptr 44 1 ((v113).toNat) 0), (232, .int .i64 (List.getD v117 (v113).toNat default)), (233, .ref 36), (234, .int .i64 v113), (235, .eptr 36 5 ((v113).toNat) 0), (236, .eptr 36 5 ((v113).toNat) 3), (237, .int .i64 ((List.getD v9 (v113).toNat default).Min)), (238, .int .i64 (max (List.getD v117 (v113).toNat default) ((List.getD v9 (v113).toNat default).Min))), (239, .ref 36), (240, .int .i64 v113), (241, .eptr 36 5 ((v113).toNat) 0), (242, .eptr 36 5 ((v113).toNat) 4), (243, .int .i64 ((List.getD v9 (v113).toNat default).Max)), (244, .int .i64 (min (max (List.getD v117 (v113).toNat default) ((List.getD v9 (v113).toNat default).Min)) ((List.getD v9 (v113).toNat default).Max))), (245, .eptr 189 1 ((v113).toNat) 0)] [] [] [strS 189 ⟨3, 1, List.map (eInt .i64) (List.set v115 (v113).toNat (min (max (List.getD v117 (v113).toNat default) ((List.getD v9 (v113).toNat default).Min)) ((List.getD v9 (v113).toNat default).Max)))⟩] (d_vs [.v 0 1, .v 0 1, .v 0 1, .v 0 1] (d_c1 (e_v (lo := 0) (y_ixr 44 1 (eInt .i64) (L := v117) (i := v113) (by first | exact h242 | exact Eq.trans (by simp only [List.length_set]) h242))) (d_c1 (e_v (lo := 0) (y_ldr 3 0 (eInt .i64) (eInt .i64) (inb_spec h242).2 (fun _ => rfl))) (d_vs [.v 0 1, .v 0 1] (d_c1 (e_v (lo := 0) (y_ixr 36 5 eTFlexItem (L := v9) (i := v113) (by first | exact h243 | exact Eq.trans (by simp only [List.length_set]) h243))) (d_vs [.v 0 1] (d_c1 (e_v (lo := 0) (y_ldr 3 3 eTFlexItem eTFlexItem (inb_spec h244).2 (fun _ => rfl))) (d_vs [.v 0 1, .v 0 1, .v 0 1] (d_c1 (e_v (lo := 0) (y_ixr 36 5 eTFlexItem (L := v9) (i := v113) (by first | exact h244 | exact Eq.trans (by simp only [List.length_set]) h244))) (d_vs [.v 0 1] (d_c1 (e_v (lo := 0) (y_ldr 3 4 eTFlexItem eTFlexItem (inb_spec h244).2 (fun _ => rfl))) (d_vs [.v 0 1] (d_c1 (e_v (lo := 0) (y_ixr 189 1 (eInt .i64) (L := v115) (i := v113) (by first | exact h245 | exact Eq.trans (by simp only [List.length_set]) h245))) (d_c1 (e_s (m := 0) (y_str 189 3 1 0 (eInt .i64) (eInt .i64) (min (max (List.getD v117 (v113).toNat default) ((List.getD v9 (v113).toNat default).Min)) ((List.getD v9 (v113).toNat default).Max)) (inb_spec h245).2 (fun _ => rfl))) (d_nl))))))))))))))) ?_
  obtain ⟨v118, h246, h⟩ := bind_some h
  have h246 := Option.some.inj h246
  refine ve_go (ks' := [.c (cat Try.f19 p19_23), .b 9, .c (cat Try.f19 p19_20), k19_5 M w0 r m3 m5, .b 8, .c (cat Try.f19 p19_7), .b 5, k19_3 M w0 r m3, .b 4, .c (cat Try.f19 p19_0)]) 0 ⟨[(1,.int .i64 v2),(5,.ref 36),(6,.ref 44),(7,.ref 100),(10,.bool (decide (v7 < v2))),(11,.int .i64 v78),(18,.ref 1186),(19,.int .i64 v112),(20,.ref 189),(21,.int .i64 v113)],[],[(36,⟨34,5,List.map eTFlexItem v9⟩),(44,⟨3,1,List.map (eInt .i64) v117⟩),(100,⟨4,1,List.map eBool v80⟩),(189,⟨3,1,List.map (eInt .i64) v118⟩),(1186,⟨3,1,List.map (eInt .i64) v104⟩)],[36,44,100,189,1186]⟩ ?_ (by subst h246; kernel_rfl)
  obtain ⟨h247, h⟩ := chk_some h
  obtain ⟨h248, h⟩ := chk_some h
  refine ve_dr 1 [(246, .int .i64 v112), (247, .ref 189), (248, .int .i64 v113), (249, .eptr 189 1 ((v113).toNat) 0), (250, .int .i64 (List.getD v118 (v113).toNat default)), (251, .ref 44), (252, .int .i64 v113), (253, .eptr 44 1 ((v113).toNat) 0), (254, .int .i64 (List.getD v117 (v113).toNat default)), (255, .int .i64 (w64 ((List.getD v118 (v113).toNat default) - (List.getD v117 (v113).toNat default)))), (256, .int .i64 (w64 (v112 + (w64 ((List.getD v118 (v113).toNat default) - (List.getD v117 (v113).toNat default))))))] [] [] [stp Try.prog 315 Try.f19 p19_23 11] (d_vs [.v 0 1, .v 0 1, .v 0 1] (d_c1 (e_v (lo := 0) (y_ixr 189 1 (eInt .i64) (L := v118) (i := v113) (by first | exact h247 | exact Eq.trans (by simp only [List.length_set]) h247))) (d_c1 (e_v (lo := 0) (y_ldr 3 0 (eInt .i64) (eInt .i64) (inb_spec h247).2 (fun _ => rfl))) (d_vs [.v 0 1, .v 0 1] (d_c1 (e_v (lo := 0) (y_ixr 44 1 (eInt .i64) (L := v117) (i := v113) (by first | exact h248 | exact Eq.trans (by simp only [List.length_set]) h248))) (d_c1 (e_v (lo := 0) (y_ldr 3 0 (eInt .i64) (eInt .i64) (inb_spec h248).2 (fun _ => rfl))) (d_vs [.v 0 1, .v 0 1] (d_c1 (e_d 0) (d_nl))))))))) ?_
  exact ve_arr 1 (g_ref19_Resolve_j12_ok hK hL3 hL5 h)
theorem g_ref19_Resolve_j15_ok (hK : KnOk K) (hL3 : H19_3 M w0 r v2 v7 v9 m3 L3) (hL6 : H19_6 M w0 r v2 v7 v9 v112 v115 m3 m6 L6) (h : g_ref19_Resolve_j15 K n v2 v7 v9 v112 v115 v127 L3 L6 v131 v132 v133 = some r) : VE (cx19 M w0) (q19 M w0 r) [.b 11, .c (cat Try.f19 p19_24), k19_6 M w0 r m3 m6, .b 10, .b 5, k19_3 M w0 r m3, .b 4, .c (cat Try.f19 p19_0)] .normal (s19_j15 v2 v7 v9 v112 v115 v127 v131 v132 v133) := by
  unfold g_ref19_Resolve_j15 at h
  exact ve_arr 2 (lp_back (hL6 h))
theorem g_ref19_Resolve_j14_ok (hK : KnOk K) (hL3 : H19_3 M w0 r v2 v7 v9 m3 L3) (hL6 : H19_6 M w0 r v2 v7 v9 v112 v115 m3 m6 L6) (h : g_ref19_Resolve_j14 K n v2 v7 v9 v112 v115 v126 v127 v128 v129 L3 L6 v130 = some r) : VE (cx19 M w0) (q19 M w0 r) [.c (cat Try.f19 p19_25), .b 11, .c (cat Try.f19 p19_24), k19_6 M w0 r m3 m6, .b 10, .b 5, k19_3 M w0 r m3, .b 4, .c (cat Try.f19 p19_0)] .normal (s19_j14 v2 v7 v9 v112 v115 v126 v127 v128 v129 v130) := by
  unfold g_ref19_Resolve_j14 at h
  rcases ite_some h with ⟨h281, h⟩ | ⟨h281, h⟩
  ·
   refine ve_sb 301 h281 ?_
   refine ve_un (ks' := [.c (cat Try.f19 p19_26), .c (cat Try.f19 p19_27), .b 11, .c (cat Try.f19 p19_24), k19_6 M w0 r m3 m6, .b 10, .b 5, k19_3 M w0 r m3, .b 4, .c (cat Try.f19 p19_0)]) 2 ?_
   refine ve_in 2 ?_
   obtain ⟨h282, h⟩ := chk_some h
   refine ot_sp (y_ixr 100 1 eBool h282) ?_
   refine ot_sp (y_str 100 4 1 0 eBool eBool true (inb_spec h282).2 (fun _ => rfl)) ?_
   refine ot_end ?_
   refine ve_un (ks' := [.c (cat Try.f19 p19_28), .c (cat Try.f19 p19_29), .b 11, .c (cat Try.f19 p19_24), k19_6 M w0 r m3 m6, .b 10, .b 5, k19_3 M w0 r m3, .b 4, .c (cat Try.f19 p19_0)]) 1 ?_
   refine ve_in 4 ?_
   obtain ⟨h283, h⟩ := chk_some h
   refine ot_sp (y_ixr 189 1 (eInt .i64) h283) ?_
   refine ot_sp (y_ldr 3 0 (eInt .i64) (eInt .i64) (inb_spec h283).2 (fun _ => rfl)) ?_
   obtain ⟨h284, h⟩ := chk_some h
   refine ot_sp (y_ixr 44 1 (eInt .i64) h284) ?_
   refine ot_sp (y_str 44 3 1 0 (eInt .i64) (eInt .i64) (List.getD v115 (v127).toNat default) (inb_spec h284).2 (fun _ => rfl)) ?_
   refine ot_end ?_
   exact ve_arr 1 (g_ref19_Resolve_j15_ok hK hL3 hL6 h)
  ·
   refine ve_sb 301 h281 ?_
   exact ve_arr 2 (g_ref19_Resolve_j15_ok hK hL3 hL6 h)
theorem g_ref19_Resolve_l16_b_ok (hK : KnOk K) (hL3 : H19_3 M w0 r v2 v7 v9 m3 L3) (hL6 : H19_6 M w0 r v2 v7 v9 v112 v115 m3 m6 L6) (h : g_ref19_Resolve_l16_b K n v2 v7 v9 v112 v115 L3 L6 v126 v127 v128 v129 = some r) : VE (cx19 M w0) (q19 M w0 r) [.c (cat Try.f19 p19_6), k19_6 M w0 r m3 m6, .b 10, .b 5, k19_3 M w0 r m3, .b 4, .c (cat Try.f19 p19_0)] .normal (s19_l16 v2 v7 v9 v112 v115 v126 v127 v128 v129) := by
  unfold g_ref19_Resolve_l16_b at h
  refine ve_un (ks' := [.c (cat Try.f19 p19_30), .c (cat Try.f19 p19_31), .c (cat Try.f19 p19_32), k19_6 M w0 r m3 m6, .b 10, .b 5, k19_3 M w0 r m3, .b 4, .c (cat Try.f19 p19_0)]) 2 ?_
  refine ve_in 2 ?_
  refine ot_sp (y_len eTFlexItem v9) ?_
  refine ot_end ?_
  rcases ite_some h with ⟨h267, h⟩ | ⟨h267, h⟩
  ·
   refine ve_sb 260 h267 ?_
   refine ve_un (ks' := [.c (cat Try.f19 p19_33), .c (cat Try.f19 p19_25), .b 11, .c (cat Try.f19 p19_24), k19_6 M w0 r m3 m6, .b 10, .b 5, k19_3 M w0 r m3, .b 4, .c (cat Try.f19 p19_0)]) 5 ?_
   refine ve_pk [1, 5, 6, 7, 10, 11, 19, 20, 22] [] [36, 44, 100, 189] ?_
   obtain ⟨h268, h⟩ := chk_some h
   rcases ite_some h with ⟨h269, h⟩ | ⟨h269, h⟩
   ·
    rcases ite_some h with ⟨h270, h⟩ | ⟨h270, h⟩
    ·
     refine ve_dr 0 [(263, .ref 100), (264, .int .i64 v127), (265, .eptr 100 1 ((v127).toNat) 0), (266, .bool (List.getD v129 (v127).toNat default)), (267, .bool (!(List.getD v129 (v127).toNat default))), (268, .bool true), (269, .int .i64 v112), (270, .bool (v112 == 0)), (271, .bool true), (272, .tup []), (273, .tup []), (274, .tup []), (275, .tup []), (276, .tup []), (277, .tup []), (278, .tup []), (279, .tup []), (280, .tup []), (281, .tup []), (282, .tup []), (283, .tup []), (284, .tup []), (285, .bool true), (286, .bool true), (287, .tup []), (288, .tup []), (289, .tup []), (290, .tup []), (291, .tup []), (292, .tup []), (293, .tup []), (294, .tup []), (295, .tup []), (296, .tup []), (297, .tup []), (298, .tup []), (299, .tup []), (300, .bool true), (301, .bool true)] [] [] [] (d_vs [.v 0 1, .v 0 1] (d_c1 (e_v (lo := 0) (y_ixr 100 1 eBool (L := v129) (i := v127) (by first | exact h268 | exact Eq.trans (by simp only [List.length_set]) h268))) (d_c1 (e_v (lo := 0) (y_ldr 4 0 eBool eBool (inb_spec h268).2 (fun _ => rfl))) (d_vs [.v 0 1] (d_c1 (k_v (lo := 0) (k := 1) (kallS ⟨(by kernel_rfl), (aop_boolc 268 (e := (!(List.getD v129 (v127).toNat default))) (b := true) h269 (by kernel_rfl) (by kernel_rfl))⟩ (kall0))) (d_vs [.v 0 1, .v 0 1] (d_c1 (k_v (lo := 0) (k := 1) (kallS ⟨(by kernel_rfl), (aop_boolc 271 (e := (v112 == 0)) (b := true) h270 (by kernel_rfl) (by kernel_rfl))⟩ (kall0))) (d_c1 (k_off (lo := 0) (k := 1) (by kernel_rfl) (kallS (by kernel_rfl) (kall0)) (kallS (by kernel_rfl) (kall0))) (d_c1 (k_off (lo := 0) (k := 1) (by kernel_rfl) (kallS (by kernel_rfl) (kall0)) (kallS (by kernel_rfl) (kall0))) (d_c1 (k_off (lo := 0) (k := 1) (by kernel_rfl) (kallS (by kernel_rfl) (kall0)) (kallS (by kernel_rfl) (kall0))) (d_c1 (k_off (lo := 0) (k := 1) (by kernel_rfl) (kallS (by kernel_rfl) (kall0)) (kallS (by kernel_rfl) (kall0))) (d_c1 (k_off (lo := 0) (k := 1) (by kernel_rfl) (kallS (by kernel_rfl) (kall0)) (kallS (by kernel_rfl) (kall0))) (d_c1 (k_off (lo := 0) (k := 1) (by kernel_rfl) (kallS (by kernel_rfl) (kall0)) (kallS (by kernel_rfl) (kall0))) (d_c1 (k_off (lo := 0) (k := 1) (by kernel_rfl) (kallS (by kernel_rfl) (kall0)) (kallS (by kernel_rfl) (kall0))) (d_c1 (k_off (lo := 0) (k := 1) (by kernel_rfl) (kallS (by kernel_rfl) (kall0)) (kallS (by kernel_rfl) (kall0))) (d_c1 (k_off (lo := 0) (k := 1) (by kernel_rfl) (kallS (by kernel_rfl) (kall0)) (kallS (by kernel_rfl) (kall0))) (d_c1 (k_off (lo := 0) (k := 1) (by kernel_rfl) (kallS (by kernel_rfl) (kall0)) (kallS (by kernel_rfl) (kall0))) (d_c1 (k_off (lo := 0) (k := 1) (by kernel_rfl) (kallS (by kernel_rfl) (kall0)) (kallS (by kernel_rfl) (kall0))) (d_c1 (k_off (lo := 0) (k := 1) (by kernel_rfl) (kallS (by kernel_rfl) (kall0)) (kallS (by kernel_rfl) (kall0))) (d_c1 (k_off (lo := 0) (k := 1) (by kernel_rfl) (kallS (by kernel_rfl) (kall0)) (kallS (by kernel_rfl) (kall0))) (d_vs [.v 0 1, .v 0 1] (d_c1 (k_off (lo := 0) (k := 1) (by kernel_rfl) (kallS (by kernel_rfl) (kall0)) (kallS (by kernel_rfl) (kall0))) (d_c1 (k_off (lo := 0) (k := 1) (by kernel_rfl) (kallS (by kernel_rfl) (kall0)) (kallS (by kernel_rfl) (kall0))) (d_c1 (k_off (lo := 0) (k := 1) (by kernel_rfl) (kallS (by kernel_rfl) (kall0)) (kallS (by kernel_rfl) (kall0))) (d_c1 (k_off (lo := 0) (k := 1) (by kernel_rfl) (kallS (by kernel_rfl) (kall0)) (kallS (by kernel_rfl) (kall0))) (d_c1 (k_off (lo := 0) (k := 1) (by kernel_rfl) (kallS (by kernel_rfl) (kall0)) (kallS (by kernel_rfl) (kall0))) (d_c1 (k_off (lo := 0) (k := 1) (by kernel_rfl) (kallS (by kernel_rfl) (kall0)) (kallS (by kernel_rfl) (kall0))) (d_c1 (k_off (lo := 0) (k := 1) (by kernel_rfl) (kallS (by kernel_rfl) (kall0)) (kallS (by kernel_rfl) (kall0))) (d_c1 (k_off (lo := 0) (k := 1) (by kernel_rfl) (kallS (by kernel_rfl) (kall0)) (kallS (by kernel_rfl) (kall0))) (d_c1 (k_off (lo := 0) (k := 1) (by kernel_rfl) (kallS (by kernel_rfl) (kall0)) (kallS (by kernel_rfl) (kall0))) (d_c1 (k_off (lo := 0) (k := 1) (by kernel_rfl) (kallS (by kernel_rfl) (kall0)) (kallS (by kernel_rfl) (kall0))) (d_c1 (k_off (lo := 0) (k := 1) (by kernel_rfl) (kallS (by kernel_rfl) (kall0)) (kallS (by kernel_rfl) (kall0))) (d_c1 (k_off (lo := 0) (k := 1) (by kernel_rfl) (kallS (by kernel_rfl) (kall0)) (kallS (by kernel_rfl) (kall0))) (d_c1 (k_off (lo := 0) (k := 1) (by kernel_rfl) (kallS (by kernel_rfl) (kall0)) (kallS (by kernel_rfl) (kall0))) (d_vs [.v 0 1, .v 0 1] (d_nl)))))))))))))))))))))))))))))))))))) ?_
     exact ve_arr 0 (g_ref19_Resolve_j14_ok hK hL3 hL6 h)
    ·
     rcases ite_some h with ⟨h271, h⟩ | ⟨h271, h⟩
     ·
      obtain ⟨h272, h⟩ := chk_some h
      obtain ⟨h273, h⟩ := chk_some h
      rcases ite_some h with ⟨h274, h⟩ | ⟨h274, h⟩
      ·
       refine ve_dr 0 [(263, .ref 100), (264, .int .i64 v127), (265, .eptr 100 1 ((v127).toNat) 0), (266, .bool (List.getD v129 (v127).toNat default)), (267, .bool (!(List.getD v129 (v127).toNat default))), (268, .bool true), (269, .int .i64 v112), (270, .bool (v112 == 0)), (271, .bool false), (272, .int .i64 v112), (273, .bool (decide (v112 > 0))), (274, .bool true), (275, .ref 189), (276, .int .i64 v127), (277, .eptr 189 1 ((v127).toNat) 0), (278, .int .i64 (List.getD v115 (v127).toNat default)), (279, .ref 44), (280, .int .i64 v127), (281, .eptr 44 1 ((v127).toNat) 0), (282, .int .i64 (List.getD v128 (v127).toNat default)), (283, .bool (decide ((List.getD v115 (v127).toNat default) > (List.getD v128 (v127).toNat default)))), (284, .bool (decide ((List.getD v115 (v127).toNat default) > (List.getD v128 (v127).toNat default)))), (285, .bool (decide ((List.getD v115 (v127).toNat default) > (List.getD v128 (v127).toNat default)))), (286, .bool true), (287, .tup []), (288, .tup []), (289, .tup []), (290, .tup []), (291, .tup []), (292, .tup []), (293, .tup []), (294, .tup []), (295, .tup []), (296, .tup []), (297, .tup []), (298, .tup []), (299, .tup []), (300, .bool true), (301, .bool true)] [] [] [] (d_vs [.v 0 1, .v 0 1] (d_c1 (e_v (lo := 0) (y_ixr 100 1 eBool (L := v129) (i := v127) (by first | exact h268 | exact Eq.trans (by simp only [List.length_set]) h268))) (d_c1 (e_v (lo := 0) (y_ldr 4 0 eBool eBool (inb_spec h268).2 (fun _ => rfl))) (d_vs [.v 0 1] (d_c1 (k_v (lo := 0) (k := 1) (kallS ⟨(by kernel_rfl), (aop_boolc 268 (e := (!(List.getD v129 (v127).toNat default))) (b := true) h269 (by kernel_rfl) (by kernel_rfl))⟩ (kall0))) (d_vs [.v 0 1, .v 0 1] (d_c1 (k_v (lo := 0) (k := 1) (kallS ⟨(by kernel_rfl), (aop_boolc 271 (e := (v112 == 0)) (b := false) h270 (by kernel_rfl) (by kernel_rfl))⟩ (kall0))) (d_vs [.v 0 1, .v 0 1] (d_c1 (k_v (lo := 0) (k := 1) (kallS ⟨(by kernel_rfl), (aop_boolc 274 (e := (decide (v112 > 0))) (b := true) h271 (by kernel_rfl) (by kernel_rfl))⟩ (kall0))) (d_vs [.v 0 1, .v 0 1] (d_c1 (e_v (lo := 0) (y_ixr 189 1 (eInt .i64) (L := v115) (i := v127) (by first | exact h272 | exact Eq.trans (by simp only [List.length_set]) h272))) (d_c1 (e_v (lo := 0) (y_ldr 3 0 (eInt .i64) (eInt .i64) (inb_spec h272).2 (fun _ => rfl))) (d_vs [.v 0 1, .v 0 1] (d_c1 (e_v (lo := 0) (y_ixr 44 1 (eInt .i64) (L := v128) (i := v127) (by first | exact h273 | exact Eq.trans (by simp only [List.length_set]) h273))) (d_c1 (e_v (lo := 0) (y_ldr 3 0 (eInt .i64) (eInt .i64) (inb_spec h273).2 (fun _ => rfl))) (d_vs [.v 0 1, .v 0 1, .v 0 1] (d_c1 (k_v (lo := 0) (k := 1) (kallS ⟨(by kernel_rfl), (aop_boolc 286 (e := (decide ((List.getD v115 (v127).toNat default) > (List.getD v128 (v127).toNat default)))) (b := true) h274 (by kernel_rfl) (by kernel_rfl))⟩ (kall0))) (d_c1 (k_off (lo := 0) (k := 1) (by kernel_rfl) (kallS (by kernel_rfl) (kall0)) (kallS (by kernel_rfl) (kall0))) (d_c1 (k_off (lo := 0) (k := 1) (by kernel_rfl) (kallS (by kernel_rfl) (kall0)) (kallS (by kernel_rfl) (kall0))) (d_c1 (k_off (lo := 0) (k := 1) (by kernel_rfl) (kallS (by kernel_rfl) (kall0)) (kallS (by kernel_rfl) (kall0))) (d_c1 (k_off (lo := 0) (k := 1) (by kernel_rfl) (kallS (by kernel_rfl) (kall0)) (kallS (by kernel_rfl) (kall0))) (d_c1 (k_off (lo := 0) (k := 1) (by kernel_rfl) (kallS (by kernel_rfl) (kall0)) (kallS (by kernel_rfl) (kall0))) (d_c1 (k_off (lo := 0) (k := 1) (by kernel_rfl) (kallS (by kernel_rfl) (kall0)) (kallS (by kernel_rfl) (kall0))) (d_c1 (k_off (lo := 0) (k := 1) (by kernel_rfl) (kallS (by kernel_rfl) (kall0)) (kallS (by kernel_rfl) (kall0))) (d_c1 (k_off (lo := 0) (k := 1) (by kernel_rfl) (kallS (by kernel_rfl) (kall0)) (kallS (by kernel_rfl) (kall0))) (d_c1 (k_off (lo := 0) (k := 1) (by kernel_rfl) (kallS (by kernel_rfl) (kall0)) (kallS (by kernel_rfl) (kall0))) (d_c1 (k_off (lo := 0) (k := 1) (by kernel_rfl) (kallS (by kernel_rfl) (kall0)) (kallS (by kernel_rfl) (kall0))) (d_c1 (k_off (lo := 0) (k := 1) (by kernel_rfl) (kallS (by kernel_rfl) (kall0)) (kallS (by kernel_rfl) (kall0))) (d_c1 (k_off (lo := 0) (k := 1) (by kernel_rfl) (kallS (by kernel_rfl) (kall0)) (kallS (by kernel_rfl) (kall0))) (d_c1 (k_off (lo := 0) (k := 1) (by kernel_rfl) (kallS (by kernel_rfl) (kall0)) (kallS (by kernel_rfl) (kall0))) (d_vs [.v 0 1, .v 0 1] (d_nl)))))))))))))))))))))))))))))))) ?_
       exact ve_arr 0 (g_ref19_Resolve_j14_ok hK hL3 hL6 h)
      ·
       rcases ite_some h with ⟨h275, h⟩ | ⟨h275, h⟩
       ·
        obtain ⟨h276, h⟩ := chk_some h
        obtain ⟨h277, h⟩ := chk_some h
        refine ve_dr 0 [(263, .ref 100), (264, .int .i64 v127), (265, .eptr 100 1 ((v127).toNat) 0), (266, .bool (List.getD v129 (v127).toNat default)), (267, .bool (!(List.getD v129 (v127).toNat default))), (268, .bool true), (269, .int .i64 v112), (270, .bool (v112 == 0)), (271, .bool false), (272, .int .i64 v112), (273, .bool (decide (v112 > 0))), (274, .bool true), (275, .ref 189), (276, .int .i64 v127), (277, .eptr 189 1 ((v127).toNat) 0), (278, .int .i64 (List.getD v115 (v127).toNat default)), (279, .ref 44), (280, .int .i64 v127), (281, .eptr 44 1 ((v127).toNat) 0), (282, .int .i64 (List.getD v128 (v127).toNat default)), (283, .bool (decide ((List.getD v115 (v127).toNat default) > (List.getD v128 (v127).toNat default)))), (284, .bool (decide ((List.getD v115 (v127).toNat default) > (List.getD v128 (v127).toNat default)))), (285, .bool (decide ((List.getD v115 (v127).toNat default) > (List.getD v128 (v127).toNat default)))), (286, .bool false), (287, .int .i64 v112), (288, .bool (decide (v112 < 0))), (289, .bool true), (290, .ref 189), (291, .int .i64 v127), (292, .eptr 189 1 ((v127).toNat) 0), (293, .int .i64 (List.getD v115 (v127).toNat default)), (294, .ref 44), (295, .int .i64 v127), (296, .eptr 44 1 ((v127).toNat) 0), (297, .int .i64 (List.getD v128 (v127).toNat default)), (298, .bool (decide ((List.getD v115 (v127).toNat default) < (List.getD v128 (v127).toNat default)))), (299, .bool (decide ((List.getD v115 (v127).toNat default) < (List.getD v128 (v127).toNat default)))), (300, .bool (decide ((List.getD v115 (v127).toNat default) < (List.getD v128 (v127).toNat default)))), (301, .bool (decide ((List.getD v115 (v127).toNat default) < (List.getD v128 (v127).toNat default))))] [] [] [] (d_vs [.v 0 1, .v 0 1] (d_c1 (e_v (lo := 0) (y_ixr 100 1 eBool (L := v129) (i := v127) (by first | exact h268 | exact Eq.trans (by simp only [List.length_set]) h268))) (d_c1 (e_v (lo := 0) (y_ldr 4 0 eBool eBool (inb_spec h268).2 (fun _ => rfl))) (d_vs [.v 0 1] (d_c1 (k_v (lo := 0) (k := 1) (kallS ⟨(by kernel_rfl), (aop_boolc 268 (e := (!(List.getD v129 (v127).toNat default))) (b := true) h269 (by kernel_rfl) (by kernel_rfl))⟩ (kall0))) (d_vs [.v 0 1, .v 0 1] (d_c1 (k_v (lo := 0) (k := 1) (kallS ⟨(by kernel_rfl), (aop_boolc 271 (e := (v112 == 0)) (b := false) h270 (by kernel_rfl) (by kernel_rfl))⟩ (kall0))) (d_vs [.v 0 1, .v 0 1] (d_c1 (k_v (lo := 0) (k := 1) (kallS ⟨(by kernel_rfl), (aop_boolc 274 (e := (decide (v112 > 0))) (b := true) h271 (by kernel_rfl) (by kernel_rfl))⟩ (kall0))) (d_vs [.v 0 1, .v 0 1] (d_c1 (e_v (lo := 0) (y_ixr 189 1 (eInt .i64) (L := v115) (i := v127) (by first | exact h272 | exact Eq.trans (by simp only [List.length_set]) h272))) (d_c1 (e_v (lo := 0) (y_ldr 3 0 (eInt .i64) (eInt .i64) (inb_spec h276).2 (fun _ => rfl))) (d_vs [.v 0 1, .v 0 1] (d_c1 (e_v (lo := 0) (y_ixr 44 1 (eInt .i64) (L := v128) (i := v127) (by first | exact h273 | exact Eq.trans (by simp only [List.length_set]) h273))) (d_c1 (e_v (lo := 0) (y_ldr 3 0 (eInt .i64) (eInt .i64) (inb_spec h277).2 (fun _ => rfl))) (d_vs [.v 0 1, .v 0 1, .v 0 1] (d_c1 (k_v (lo := 0) (k := 1) (kallS ⟨(by kernel_rfl), (aop_boolc 286 (e := (decide ((List.getD v115 (v127).toNat default) > (List.getD v128 (v127).toNat default)))) (b := false) h274 (by kernel_rfl) (by kernel_rfl))⟩ (kall0))) (d_vs [.v 0 1, .v 0 1] (d_c1 (k_v (lo := 0) (k := 1) (kallS ⟨(by kernel_rfl), (aop_boolc 289 (e := (decide (v112 < 0))) (b := true) h275 (by kernel_rfl) (by kernel_rfl))⟩ (kall0))) (d_vs [.v 0 1, .v 0 1] (d_c1 (e_v (lo := 0) (y_ixr 189 1 (eInt .i64) (L := v115) (i := v127) (by first | exact h276 | exact Eq.trans (by simp only [List.length_set]) h276))) (d_c1 (e_v (lo := 0) (y_ldr 3 0 (eInt .i64) (eInt .i64) (inb_spec h276).2 (fun _ => rfl))) (d_vs [.v 0 1, .v 0 1] (d_c1 (e_v (lo := 0) (y_ixr 44 1 (eInt .i64) (L := v128) (i := v127) (by first | exact h277 | exact Eq.trans (by simp only [List.length_set]) h277))) (d_c1 (e_v (lo := 0) (y_ldr 3 0 (eInt .i64) (eInt .i64) (inb_spec h277).2 (fun _ => rfl))) (d_vs [.v 0 1, .v 0 1, .v 0 1, .v 0 1] (d_nl))))))))))))))))))))))))))) ?_
        exact ve_arr 0 (g_ref19_Resolve_j14_ok hK hL3 hL6 h)
       ·
        refine ve_dr 0 [(263, .ref 100), (264, .int .i64 v127), (265, .eptr 100 1 ((v127).toNat) 0), (266, .bool (List.getD v129 (v127).toNat default)), (267, .bool (!(List.getD v129 (v127).toNat default))), (268, .bool true), (269, .int .i64 v112), (270, .bool (v112 == 0)), (271, .bool false), (272, .int .i64 v112), (273, .bool (decide (v112 > 0))), (274, .bool true), (275, .ref 189), (276, .int .i64 v127), (277, .eptr 189 1 ((v127).toNat) 0), (278, .int .i64 (List.getD v115 (v127).toNat default)), (279, .ref 44), (280, .int .i64 v127), (281, .eptr 44 1 ((v127).toNat) 0), (282, .int .i64 (List.getD v128 (v127).toNat default)), (283, .bool (decide ((List.getD v115 (v127).toNat default) > (List.getD v128 (v127).toNat default)))), (284, .bool (decide ((List.getD v115 (v127).toNat default) > (List.getD v128 (v127).toNat default)))), (285, .bool (decide ((List.getD v115 (v127).toNat default) > (List.getD v128 (v127).toNat default)))), (286, .bool false), (287, .int .i64 v112), (288, .bool (decide (v112 < 0))), (289, .bool false), (290, .tup []), (291, .tup []), (292, .tup []), (293, .tup []), (294, .tup []), (295, .tup []), (296, .tup []), (297, .tup []), (298, .tup []), (299, .bool false), (300, .bool false), (301, .bool false)] [] [] [] (d_vs [.v 0 1, .v 0 1] (d_c1 (e_v (lo := 0) (y_ixr 100 1 eBool (L := v129) (i := v127) (by first | exact h268 | exact Eq.trans (by simp only [List.length_set]) h268))) (d_c1 (e_v (lo := 0) (y_ldr 4 0 eBool eBool (inb_spec h268).2 (fun _ => rfl))) (d_vs [.v 0 1] (d_c1 (k_v (lo := 0) (k := 1) (kallS ⟨(by kernel_rfl), (aop_boolc 268 (e := (!(List.getD v129 (v127).toNat default))) (b := true) h269 (by kernel_rfl) (by kernel_rfl))⟩ (kall0))) (d_vs [.v 0 1, .v 0 1] (d_c1 (k_v (lo := 0) (k := 1) (kallS ⟨(by kernel_rfl), (aop_boolc 271 (e := (v112 == 0)) (b := false) h270 (by kernel_rfl) (by kernel_rfl))⟩ (kall0))) (d_vs [.v 0 1, .v 0 1] (d_c1 (k_v (lo := 0) (k := 1) (kallS ⟨(by kernel_rfl), (aop_boolc 274 (e := (decide (v112 > 0))) (b := true) h271 (by kernel_rfl) (by kernel_rfl))⟩ (kall0))) (d_vs [.v 0 1, .v 0 1] (d_c1 (e_v (lo := 0) (y_ixr 189 1 (eInt .i64) (L := v115) (i := v127) (by first | exact h272 | exact Eq.trans (by simp only [List.length_set]) h272))) (d_c1 (e_v (lo := 0) (y_ldr 3 0 (eInt .i64) (eInt .i64) (inb_spec h272).2 (fun _ => rfl))) (d_vs [.v 0 1, .v 0 1] (d_c1 (e_v (lo := 0) (y_ixr 44 1 (eInt .i64) (L := v128) (i := v127) (by first | exact h273 | exact Eq.trans (by simp only [List.length_set]) h273))) (d_c1 (e_v (lo := 0) (y_ldr 3 0 (eInt .i64) (eInt .i64) (inb_spec h273).2 (fun _ => rfl))) (d_vs [.v 0 1, .v 0 1, .v 0 1] (d_c1 (k_v (lo := 0) (k := 1) (kallS ⟨(by kernel_rfl), (aop_boolc 286 (e := (decide ((List.getD v115 (v127).toNat default) > (List.getD v128 (v127).toNat default)))) (b := false) h274 (by kernel_rfl) (by kernel_rfl))⟩ (kall0))) (d_vs [.v 0 1, .v 0 1] (d_c1 (k_v (lo := 0) (k := 1) (kallS ⟨(by kernel_rfl), (aop_boolc 289 (e := (decide (v112 < 0))) (b := false) h275 (by kernel_rfl) (by kernel_rfl))⟩ (kall0))) (d_c1 (k_off (lo := 0) (k := 1) (by kernel_rfl) (kallS (by kernel_rfl) (kall0)) (kallS (by kernel_rfl) (kall0))) (d_c1 (k_off (lo := 0) (k := 1) (by kernel_rfl) (kallS (by kernel_rfl) (kall0)) (kallS (by kernel_rfl) (kall0))) (d_c1 (k_off (lo := 0) (k := 1) (by kernel_rfl) (kallS (by kernel_rfl) (kall0)) (kallS (by kernel_rfl) (kall0))) (d_c1 (k_off (lo := 0) (k := 1) (by kernel_rfl) (kallS (by kernel_rfl) (kall0)) (kallS (by kernel_rfl) (kall0))) (d_c1 (k_off (lo := 0) (k := 1) (by kernel_rfl) (kallS (by kernel_rfl) (kall0)) (kallS (by kernel_rfl) (kall0))) (d_c1 (k_off (lo := 0) (k := 1) (by kernel_rfl) (kallS (by kernel_rfl) (kall0)) (kallS (by kernel_rfl) (kall0))) (d_c1 (k_off (lo := 0) (k := 1) (by kernel_rfl) (kallS (by kernel_rfl) (kall0)) (kallS (by kernel_rfl) (kall0))) (d_c1 (k_off (lo := 0) (k := 1) (by kernel_rfl) (kallS (by kernel_rfl) (kall0)) (kallS (by kernel_rfl) (kall0))) (d_c1 (k_off (lo := 0) (k := 1) (by kernel_rfl) (kallS (by kernel_rfl) (kall0)) (kallS (by kernel_rfl) (kall0))) (d_vs [.v 0 1, .v 0 1, .v 0 1] (d_nl)))))))))))))))))))))))))))))) ?_
        exact ve_arr 0 (g_ref19_Resolve_j14_ok hK hL3 hL6 h)
     ·
      rcases ite_some h with ⟨h278, h⟩ | ⟨h278, h⟩
      ·
       obtain ⟨h279, h⟩ := chk_some h
       obtain ⟨h280, h⟩ := chk_some h
       refine ve_dr 0 [(263, .ref 100), (264, .int .i64 v127), (265, .eptr 100 1 ((v127).toNat) 0), (266, .bool (List.getD v129 (v127).toNat default)), (267, .bool (!(List.getD v129 (v127).toNat default))), (268, .bool true), (269, .int .i64 v112), (270, .bool (v112 == 0)), (271, .bool false), (272, .int .i64 v112), (273, .bool (decide (v112 > 0))), (274, .bool false), (275, .tup []), (276, .tup []), (277, .tup []), (278, .tup []), (279, .tup []), (280, .tup []), (281, .tup []), (282, .tup []), (283, .tup []), (284, .bool false), (285, .bool false), (286, .bool false), (287, .int .i64 v112), (288, .bool (decide (v112 < 0))), (289, .bool true), (290, .ref 189), (291, .int .i64 v127), (292, .eptr 189 1 ((v127).toNat) 0), (293, .int .i64 (List.getD v115 (v127).toNat default)), (294, .ref 44), (295, .int .i64 v127), (296, .eptr 44 1 ((v127).toNat) 0), (297, .int .i64 (List.getD v128 (v127).toNat default)), (298, .bool (decide ((List.getD v115 (v127).toNat default) < (List.getD v128 (v127).toNat default)))), (299, .bool (decide ((List.getD v115 (v127).toNat default) < (List.getD v128 (v127).toNat default)))), (300, .bool (decide ((List.getD v115 (v127).toNat default) < (List.getD v128 (v127).toNat default)))), (301, .bool (decide ((List.getD v115 (v127).toNat default) < (List.getD v128 (v127).toNat default))))] [] [] [] (d_vs [.v 0 1, .v 0 1] (d_c1 (e_v (lo := 0) (y_ixr 100 1 eBool (L := v129) (i := v127) (by first | exact h268 | exact Eq.trans (by simp only [List.length_set]) h268))) (d_c1 (e_v (lo := 0) (y_ldr 4 0 eBool eBool (inb_spec h268).2 (fun _ => rfl))) (d_vs [.v 0 1] (d_c1 (k_v (lo := 0) (k := 1) (kallS ⟨(by kernel_rfl), (aop_boolc 268 (e := (!(List.getD v129 (v127).toNat default))) (b := true) h269 (by kernel_rfl) (by kernel_rfl))⟩ (kall0))) (d_vs [.v 0 1, .v 0 1] (d_c1 (k_v (lo := 0) (k := 1) (kallS ⟨(by kernel_rfl), (aop_boolc 271 (e := (v112 == 0)) (b := false) h270 (by kernel_rfl) (by kernel_rfl))⟩ (kall0))) (d_vs [.v 0 1, .v 0 1] (d_c1 (k_v (lo := 0) (k := 1) (kallS ⟨(by kernel_rfl), (aop_boolc 274 (e := (decide (v112 > 0))) (b := false) h271 (by kernel_rfl) (by kernel_rfl))⟩ (kall0))) (d_c1 (k_off (lo := 0) (k := 1) (by kernel_rfl) (kallS (by kernel_rfl) (kall0)) (kallS (by kernel_rfl) (kall0))) (d_c1 (k_off (lo := 0) (k := 1) (by kernel_rfl) (kallS (by kernel_rfl) (kall0)) (kallS (by kernel_rfl) (kall0))) (d_c1 (k_off (lo := 0) (k := 1) (by kernel_rfl) (kallS (by kernel_rfl) (kall0)) (kallS (by kernel_rfl) (kall0))) (d_c1 (k_off (lo := 0) (k := 1) (by kernel_rfl) (kallS (by kernel_rfl) (kall0)) (kallS (by kernel_rfl) (kall0))) (d_c1 (k_off (lo := 0) (k := 1) (by kernel_rfl) (kallS (by kernel_rfl) (kall0)) (kallS (by kernel_rfl) (kall0))) (d_c1 (k_off (lo := 0) (k := 1) (by kernel_rfl) (kallS (by kernel_rfl) (kall0)) (kallS (by kernel_rfl) (kall0))) (d_c1 (k_off (lo := 0) (k := 1) (by kernel_rfl) (kallS (by kernel_rfl) (kall0)) (kallS (by kernel_rfl) (kall0))) (d_c1 (k_off (lo := 0) (k := 1) (by kernel_rfl) (kallS (by kernel_rfl) (kall0)) (kallS (by kernel_rfl) (kall0))) (d_c1 (k_off (lo := 0) (k := 1) (by kernel_rfl) (kallS (by kernel_rfl) (kall0)) (kallS (by kernel_rfl) (kall0))) (d_vs [.v 0 1, .v 0 1, .v 0 1, .v 0 1, .v 0 1] (d_c1 (k_v (lo := 0) (k := 1) (kallS ⟨(by kernel_rfl), (aop_boolc 289 (e := (decide (v112 < 0))) (b := true) h278 (by kernel_rfl) (by kernel_rfl))⟩ (kall0))) (d_vs [.v 0 1, .v 0 1] (d_c1 (e_v (lo := 0) (y_ixr 189 1 (eInt .i64) (L := v115) (i := v127) (by first | exact h279 | exact Eq.trans (by simp only [List.length_set]) h279))) (d_c1 (e_v (lo := 0) (y_ldr 3 0 (eInt .i64) (eInt .i64) (inb_spec h279).2 (fun _ => rfl))) (d_vs [.v 0 1, .v 0 1] (d_c1 (e_v (lo := 0) (y_ixr 44 1 (eInt .i64) (L := v128) (i := v127) (by first | exact h280 | exact Eq.trans (by simp only [List.length_set]) h280))) (d_c1 (e_v (lo := 0) (y_ldr 3 0 (eInt .i64) (eInt .i64) (inb_spec h280).2 (fun _ => rfl))) (d_vs [.v 0 1, .v 0 1, .v 0 1, .v 0 1] (d_nl)))))))))))))))))))))))))))) ?_
       exact ve_arr 0 (g_ref19_Resolve_j14_ok hK hL3 hL6 h)
      ·
       refine ve_dr 0 [(263, .ref 100), (264, .int .i64 v127), (265, .eptr 100 1 ((v127).toNat) 0), (266, .bool (List.getD v129 (v127).toNat default)), (267, .bool (!(List.getD v129 (v127).toNat default))), (268, .bool true), (269, .int .i64 v112), (270, .bool (v112 == 0)), (271, .bool false), (272, .int .i64 v112), (273, .bool (decide (v112 > 0))), (274, .bool false), (275, .tup []), (276, .tup []), (277, .tup []), (278, .tup []), (279, .tup []), (280, .tup []), (281, .tup []), (282, .tup []), (283, .tup []), (284, .bool false), (285, .bool false), (286, .bool false), (287, .int .i64 v112), (288, .bool (decide (v112 < 0))), (289, .bool false), (290, .tup []), (291, .tup []), (292, .tup []), (293, .tup []), (294, .tup []), (295, .tup []), (296, .tup []), (297, .tup []), (298, .tup []), (299, .bool false), (300, .bool false), (301, .bool false)] [] [] [] (d_vs [.v 0 1, .v 0 1] (d_c1 (e_v (lo := 0) (y_ixr 100 1 eBool (L := v129) (i := v127) (by first | exact h268 | exact Eq.trans (by simp only [List.length_set]) h268))) (d_c1 (e_v (lo := 0) (y_ldr 4 0 eBool eBool (inb_spec h268).2 (fun _ => rfl))) (d_vs [.v 0 1] (d_c1 (k_v (lo := 0) (k := 1) (kallS ⟨(by kernel_rfl), (aop_boolc 268 (e := (!(List.getD v129 (v127).toNat default))) (b := true) h269 (by kernel_rfl) (by kernel_rfl))⟩ (kall0))) (d_vs [.v 0 1, .v 0 1] (d_c1 (k_v (lo := 0) (k := 1) (kallS ⟨(by kernel_rfl), (aop_boolc 271 (e := (v112 == 0)) (b := false) h270 (by kernel_rfl) (by kernel_rfl))⟩ (kall0))) (d_vs [.v 0 1, .v 0 1] (d_c1 (k_v (lo := 0) (k := 1) (kallS ⟨(by kernel_rfl), (aop_boolc 274 (e := (decide (v112 > 0))) (b := false) h271 (by kernel_rfl) (by kernel_rfl))⟩ (kall0))) (d_c1 (k_off (lo := 0) (k := 1) (by kernel_rfl) (kallS (by kernel_rfl) (kall0)) (kallS (by kernel_rfl) (kall0))) (d_c1 (k_off (lo := 0) (k := 1) (by kernel_rfl) (kallS (by kernel_rfl) (kall0)) (kallS (by kernel_rfl) (kall0))) (d_c1 (k_off (lo := 0) (k := 1) (by kernel_rfl) (kallS (by kernel_rfl) (kall0)) (kallS (by kernel_rfl) (kall0))) (d_c1 (k_off (lo := 0) (k := 1) (by kernel_rfl) (kallS (by kernel_rfl) (kall0)) (kallS (by kernel_rfl) (kall0))) (d_c1 (k_off (lo := 0) (k := 1) (by kernel_rfl) (kallS (by kernel_rfl) (kall0)) (kallS (by kernel_rfl) (kall0))) (d_c1 (k_off (lo := 0) (k := 1) (by kernel_rfl) (kallS (by kernel_rfl) (kall0)) (kallS (by kernel_rfl) (kall0))) (d_c1 (k_off (lo := 0) (k := 1) (by kernel_rfl) (kallS (by kernel_rfl) (kall0)) (kallS (by kernel_rfl) (kall0))) (d_c1 (k_off (lo := 0) (k := 1) (by kernel_rfl) (kallS (by kernel_rfl) (kall0)) (kallS (by kernel_rfl) (kall0))) (d_c1 (k_off (lo := 0) (k := 1) (by kernel_rfl) (kallS (by kernel_rfl) (kall0)) (kallS (by kernel_rfl) (kall0))) (d_vs [.v 0 1, .v 0 1, .v 0 1, .v 0 1, .v 0 1] (d_c1 (k_v (lo := 0) (k := 1) (kallS ⟨(by kernel_rfl), (aop_boolc 289 (e := (decide (v112 < 0))) (b := false) h278 (by kernel_rfl) (by kernel_rfl))⟩ (kall0))) (d_c1 (k_off (lo := 0) (k := 1) (by kernel_rfl) (kallS (by kernel_rfl) (kall0)) (kallS (by kernel_rfl) (kall0))) (d_c1 (k_off (lo := 0) (k := 1) (by kernel_rfl) (kallS (by kernel_rfl) (kall0)) (kallS (by kernel_rfl) (kall0))) (d_c1 (k_off (lo := 0) (k := 1) (by kernel_rfl) (kallS (by kernel_rfl) (kall0)) (kallS (by kernel_rfl) (kall0))) (d_c1 (k_off (lo := 0) (k := 1) (by kernel_rfl) (kallS (by kernel_rfl) (kall0)) (kallS (by kernel_rfl) (kall0))) (d_c1 (k_off (lo := 0) (k := 1) (by kernel_rfl) (kallS (by kernel_rfl) (kall0)) (kallS (by kernel_rfl) (kall0))) (d_c1 (k_off (lo := 0) (k := 1) (by kernel_rfl) (kallS (by kernel_rfl) (kall0)) (kallS (by kernel_rfl) (kall0))) (d_c1 (k_off (lo := 0) (k := 1) (by kernel_rfl) (kallS (by kernel_rfl) (kall0)) (kallS (by kernel_rfl) (kall0))) (d_c1 (k_off (lo := 0) (k := 1) (by kernel_rfl) (kallS (by kernel_rfl) (kall0)) (kallS (by kernel_rfl) (kall0))) (d_c1 (k_off (lo := 0) (k := 1) (by kernel_rfl) (kallS (by kernel_rfl) (kall0)) (kallS (by kernel_rfl) (kall0))) (d_vs [.v 0 1, .v 0 1, .v 0 1] (d_nl))))))))))))))))))))))))))))))) ?_
       exact ve_arr 0 (g_ref19_Resolve_j14_ok hK hL3 hL6 h)
   ·
    refine ve_dr 0 [(263, .ref 100), (264, .int .i64 v127), (265, .eptr 100 1 ((v127).toNat) 0), (266, .bool (List.getD v129 (v127).toNat default)), (267, .bool (!(List.getD v129 (v127).toNat default))), (268, .bool false), (269, .tup []), (270, .tup []), (271, .tup []), (272, .tup []), (273, .tup []), (274, .tup []), (275, .tup []), (276, .tup []), (277, .tup []), (278, .tup []), (279, .tup []), (280, .tup []), (281, .tup []), (282, .tup []), (283, .tup []), (284, .tup []), (285, .tup []), (286, .tup []), (287, .tup []), (288, .tup []), (289, .tup []), (290, .tup []), (291, .tup []), (292, .tup []), (293, .tup []), (294, .tup []), (295, .tup []), (296, .tup []), (297, .tup []), (298, .tup []), (299, .tup []), (300, .tup []), (301, .bool false)] [] [] [] (d_vs [.v 0 1, .v 0 1] (d_c1 (e_v (lo := 0) (y_ixr 100 1 eBool (L := v129) (i := v127) (by first | exact h268 | exact Eq.trans (by simp only [List.length_set]) h268))) (d_c1 (e_v (lo := 0) (y_ldr 4 0 eBool eBool (inb_spec h268).2 (fun _ => rfl))) (d_vs [.v 0 1] (d_c1 (k_v (lo := 0) (k := 1) (kallS ⟨(by kernel_rfl), (aop_boolc 268 (e := (!(List.getD v129 (v127).toNat default))) (b := false) h269 (by kernel_rfl) (by kernel_rfl))⟩ (kall0))) (d_c1 (k_off (lo := 0) (k := 1) (by kernel_rfl) (kallS (by kernel_rfl) (kall0)) (kallS (by kernel_rfl) (kall0))) (d_c1 (k_off (lo := 0) (k := 1) (by kernel_rfl) (kallS (by kernel_rfl) (kall0)) (kallS (by kernel_rfl) (kall0))) (d_c1 (k_off (lo := 0) (k := 1) (by kernel_rfl) (kallS (by kernel_rfl) (kall0)) (kallS (by kernel_rfl) (kall0))) (d_c1 (k_off (lo := 0) (k := 1) (by kernel_rfl) (kallS (by kernel_rfl) (kall0)) (kallS (by kernel_rfl) (kall0))) (d_c1 (k_off (lo := 0) (k := 1) (by kernel_rfl) (kallS (by kernel_rfl) (kall0)) (kallS (by kernel_rfl) (kall0))) (d_c1 (k_off (lo := 0) (k := 1) (by kernel_rfl) (kallS (by kernel_rfl) (kall0)) (kallS (by kernel_rfl) (kall0))) (d_c1 (k_off (lo := 0) (k := 1) (by kernel_rfl) (kallS (by kernel_rfl) (kall0)) (kallS (by kernel_rfl) (kall0))) (d_c1 (k_off (lo := 0) (k := 1) (by kernel_rfl) (kallS (by kernel_rfl) (kall0)) (kallS (by kernel_rfl) (kall0))) (d_c1 (k_off (lo := 0) (k := 1) (by kernel_rfl) (kallS (by kernel_rfl) (kall0)) (kallS (by kernel_rfl) (kall0))) (d_c1 (k_off (lo := 0) (k := 1) (by kernel_rfl) (kallS (by kernel_rfl) (kall0)) (kallS (by kernel_rfl) (kall0))) (d_c1 (k_off (lo := 0) (k := 1) (by kernel_rfl) (kallS (by kernel_rfl) (kall0)) (kallS (by kernel_rfl) (kall0))) (d_c1 (k_off (lo := 0) (k := 1) (by kernel_rfl) (kallS (by kernel_rfl) (kall0)) (kallS (by kernel_rfl) (kall0))) (d_c1 (k_off (lo := 0) (k := 1) (by kernel_rfl) (kallS (by kernel_rfl) (kall0)) (kallS (by kernel_rfl) (kall0))) (d_c1 (k_off (lo := 0) (k := 1) (by kernel_rfl) (kallS (by kernel_rfl) (kall0)) (kallS (by kernel_rfl) (kall0))) (d_c1 (k_off (lo := 0) (k := 1) (by kernel_rfl) (kallS (by kernel_rfl) (kall0)) (kallS (by kernel_rfl) (kall0))) (d_c1 (k_off (lo := 0) (k := 1) (by kernel_rfl) (kallS (by kernel_rfl) (kall0)) (kallS (by kernel_rfl) (kall0))) (d_c1 (k_off (lo := 0) (k := 1) (by kernel_rfl) (kallS (by kernel_rfl) (kall0)) (kallS (by kernel_rfl) (kall0))) (d_c1 (k_off (lo := 0) (k := 1) (by kernel_rfl) (kallS (by kernel_rfl) (kall0)) (kallS (by kernel_rfl) (kall0))) (d_c1 (k_off (lo := 0) (k := 1) (by kernel_rfl) (kallS (by kernel_rfl) (kall0)) (kallS (by kernel_rfl) (kall0))) (d_c1 (k_off (lo := 0) (k := 1) (by kernel_rfl) (kallS (by kernel_rfl) (kall0)) (kallS (by kernel_rfl) (kall0))) (d_c1 (k_off (lo := 0) (k := 1) (by kernel_rfl) (kallS (by kernel_rfl) (kall0)) (kallS (by kernel_rfl) (kall0))) (d_c1 (k_off (lo := 0) (k := 1) (by kernel_rfl) (kallS (by kernel_rfl) (kall0)) (kallS (by kernel_rfl) (kall0))) (d_c1 (k_off (lo := 0) (k := 1) (by kernel_rfl) (kallS (by kernel_rfl) (kall0)) (kallS (by kernel_rfl) (kall0))) (d_c1 (k_off (lo := 0) (k := 1) (by kernel_rfl) (kallS (by kernel_rfl) (kall0)) (kallS (by kernel_rfl) (kall0))) (d_c1 (k_off (lo := 0) (k := 1) (by kernel_rfl) (kallS (by kernel_rfl) (kall0)) (kallS (by kernel_rfl) (kall0))) (d_c1 (k_off (lo := 0) (k := 1) (by kernel_rfl) (kallS (by kernel_rfl) (kall0)) (kallS (by kernel_rfl) (kall0))) (d_c1 (k_off (lo := 0) (k := 1) (by kernel_rfl) (kallS (by kernel_rfl) (kall0)) (kallS (by kernel_rfl) (kall0))) (d_c1 (k_off (lo := 0) (k := 1) (by kernel_rfl) (kallS (by kernel_rfl) (kall0)) (kallS (by kernel_rfl) (kall0))) (d_c1 (k_off (lo := 0) (k := 1) (by kernel_rfl) (kallS (by kernel_rfl) (kall0)) (kallS (by kernel_rfl) (kall0))) (d_c1 (k_off (lo := 0) (k := 1) (by kernel_rfl) (kallS (by kernel_rfl) (kall0)) (kallS (by kernel_rfl) (kall0))) (d_c1 (k_off (lo := 0) (k := 1) (by kernel_rfl) (kallS (by kernel_rfl) (kall0)) (kallS (by kernel_rfl) (kall0))) (d_c1 (k_off (lo := 0) (k := 1) (by kernel_rfl) (kallS (by kernel_rfl) (kall0)) (kallS (by kernel_rfl) (kall0))) (d_vs [.v 0 1] (d_nl))))))))))))))))))))))))))))))))))))))) ?_
    exact ve_arr 0 (g_ref19_Resolve_j14_ok hK hL3 hL6 h)
  ·
   refine ve_sb 260 h267 ?_
   exact ve_arr 6 (lp_back (hL3 h))
theorem g_ref19_Resolve_l16_ok (hK : KnOk K) (hL3 : H19_3 M w0 r v2 v7 v9 m3 L3) (m : Nat) : H19_6 M w0 r v2 v7 v9 v112 v115 m3 m (g_ref19_Resolve_l16 K n v2 v7 v9 v112 v115 L3 m) := by
  induction m with
 | zero => intro v126 v127 v128 v129 h; cases h
 | succ m ih => intro v126 v127 v128 v129 h; have h : g_ref19_Resolve_l16_b K n v2 v7 v9 v112 v115 L3 (g_ref19_Resolve_l16 K n v2 v7 v9 v112 v115 L3 m) v126 v127 v128 v129 = some r := h; exact lp_round (g_ref19_Resolve_l16_b_ok hK hL3 ih h)
theorem g_ref19_Resolve_l13_b_ok (hK : KnOk K) (hL3 : H19_3 M w0 r v2 v7 v9 m3 L3) (hL5 : H19_5 M w0 r v2 v7 v9 v78 v80 v104 m3 m5 L5) (h : g_ref19_Resolve_l13_b K n v2 v7 v9 v78 v80 v104 L3 L5 v112 v113 v114 v115 = some r) : VE (cx19 M w0) (q19 M w0 r) [.c (cat Try.f19 p19_8), k19_5 M w0 r m3 m5, .b 8, .c (cat Try.f19 p19_7), .b 5, k19_3 M w0 r m3, .b 4, .c (cat Try.f19 p19_0)] .normal (s19_l13 v2 v7 v9 v78 v80 v104 v112 v113 v114 v115) := by
  unfold g_ref19_Resolve_l13_b at h
  refine ve_un (ks' := [.c (cat Try.f19 p19_34), .c (cat Try.f19 p19_35), .c (cat Try.f19 p19_36), k19_5 M w0 r m3 m5, .b 8, .c (cat Try.f19 p19_7), .b 5, k19_3 M w0 r m3, .b 4, .c (cat Try.f19 p19_0)]) 2 ?_
  refine ve_in 2 ?_
  refine ot_sp (y_len eTFlexItem v9) ?_
  refine ot_end ?_
  rcases ite_some h with ⟨h231, h⟩ | ⟨h231, h⟩
  ·
   refine ve_sb 193 h231 ?_
   refine ve_un (ks' := [.c (cat Try.f19 p19_37), .c (cat Try.f19 p19_38), .c (cat Try.f19 p19_39), .b 9, .c (cat Try.f19 p19_20), k19_5 M w0 r m3 m5, .b 8, .c (cat Try.f19 p19_7), .b 5, k19_3 M w0 r m3, .b 4, .c (cat Try.f19 p19_0)]) 6 ?_
   refine ve_in 2 ?_
   obtain ⟨h232, h⟩ := chk_some h
   refine ot_sp (y_ixr 100 1 eBool h232) ?_
   refine ot_sp (y_ldr 4 0 eBool eBool (inb_spec h232).2 (fun _ => rfl)) ?_
   refine ot_end ?_
   rcases ite_some h with ⟨h233, h⟩ | ⟨h233, h⟩
   ·
    refine ve_sb 199 h233 ?_
    exact ve_arr 4 (g_ref19_Resolve_j12_ok hK hL3 hL5 h)
   ·
    refine ve_sb 199 h233 ?_
    refine ve_un (ks' := [.c (cat Try.f19 p19_40), .c (cat Try.f19 p19_41), .b 9, .c (cat Try.f19 p19_20), k19_5 M w0 r m3 m5, .b 8, .c (cat Try.f19 p19_7), .b 5, k19_3 M w0 r m3, .b 4, .c (cat Try.f19 p19_0)]) 3 ?_
    refine ve_pk [1, 5, 6, 7, 10, 11, 18, 19, 20, 21] [] [36, 44, 100, 189, 1186] ?_
    obtain ⟨h234, h⟩ := chk_some h
    obtain ⟨h235, h⟩ := chk_some h
    obtain ⟨h236, h⟩ := chk_some h
    refine ve_dr 1 [(200, .ref 44), (201, .int .i64 v113), (202, .ref 36), (203, .int .i64 v113), (204, .eptr 36 5 ((v113).toNat) 0), (205, .eptr 36 5 ((v113).toNat) 0), (206, .int .i64 ((List.getD v9 (v113).toNat default).Base)), (207, .ref 1186), (208, .int .i64 v113), (209, .eptr 1186 1 ((v113).toNat) 0), (210, .int .i64 (List.getD v104 (v113).toNat default)), (211, .int .i64 (w64 (((List.getD v9 (v113).toNat default).Base) - (List.getD v104 (v113).toNat default)))), (212, .eptr 44 1 ((v113).toNat) 0)] [] [] [strS 44 ⟨3, 1, List.map (eInt .i64) (List.set v114 (v113).toNat (w64 (((List.getD v9 (v113).toNat default).Base) - (List.getD v104 (v113).toNat default))))⟩] (d_vs [.v 0 1, .v 0 1, .v 0 1, .v 0 1] (d_c1 (e_v (lo := 0) (y_ixr 36 5 eTFlexItem (L := v9) (i := v113) (by first | exact h234 | exact Eq.trans (by simp only [List.length_set]) h234))) (d_vs [.v 0 1] (d_c1 (e_v (lo := 0) (y_ldr 3 0 eTFlexItem eTFlexItem (inb_spec h234).2 (fun _ => rfl))) (d_vs [.v 0 1, .v 0 1] (d_c1 (e_v (lo := 0) (y_ixr 1186 1 (eInt .i64) (L := v104) (i := v113) (by first | exact h235 | exact Eq.trans (by simp only [List.length_set]) h235))) (d_c1 (e_v (lo := 0) (y_ldr 3 0 (eInt .i64) (eInt .i64) (inb_spec h235).2 (fun _ => rfl))) (d_vs [.v 0 1] (d_c1 (e_v (lo := 0) (y_ixr 44 1 (eInt .i64) (L := v114) (i := v113) (by first | exact h236 | exact Eq.trans (by simp only [List.length_set]) h236))) (d_c1 (e_s (m := 0) (y_str 44 3 1 0 (eInt .i64) (eInt .i64) (w64 (((List.getD v9 (v113).toNat default).Base) - (List.getD v104 (v113).toNat default))) (inb_spec h236).2 (fun _ => rfl))) (d_nl))))))))))) ?_
    obtain ⟨v116, h237, h⟩ := bind_some h
    have h237 := Option.some.inj h237
    refine ve_go (ks' := [.c (cat Try.f19 p19_42), .c (cat Try.f19 p19_21), .b 9, .c (cat Try.f19 p19_20), k19_5 M w0 r m3 m5, .b 8, .c (cat Try.f19 p19_7), .b 5, k19_3 M w0 r m3, .b 4, .c (cat Try.f19 p19_0)]) 3 ⟨[(1,.int .i64 v2),(5,.ref 36),(6,.ref 44),(7,.ref 100),(10,.bool (decide (v7 < v2))),(11,.int .i64 v78),(18,.ref 1186),(19,.int .i64 v112),(20,.ref 189),(21,.int .i64 v113),(213,.bool (decide (v7 < v2)))],[],[(36,⟨34,5,List.map eTFlexItem v9⟩),(44,⟨3,1,List.map (eInt .i64) v116⟩),(100,⟨4,1,List.map eBool v80⟩),(189,⟨3,1,List.map (eInt .i64) v115⟩),(1186,⟨3,1,List.map (eInt .i64) v104⟩)],[36,44,100,189,1186]⟩ ?_ (by subst h237; kernel_rfl)
    rcases ite_some h with ⟨h238, h⟩ | ⟨h238, h⟩
    ·
     refine ve_sb 213 h238 ?_
     refine ve_un (ks' := [.c (cat Try.f19 p19_43), .c (cat Try.f19 p19_21), .b 9, .c (cat Try.f19 p19_20), k19_5 M w0 r m3 m5, .b 8, .c (cat Try.f19 p19_7), .b 5, k19_3 M w0 r m3, .b 4, .c (cat Try.f19 p19_0)]) 1 ?_
     refine ve_pk [1, 5, 6, 7, 10, 11, 18, 19, 20, 21] [] [36, 44, 100, 189, 1186] ?_
     obtain ⟨h239, h⟩ := chk_some h
     obtain ⟨h240, h⟩ := chk_some h
     obtain ⟨h241, h⟩ := chk_some h
     refine ve_dr 1 [(214, .ref 44), (215, .int .i64 v113), (216, .ref 36), (217, .int .i64 v113), (218, .eptr 36 5 ((v113).toNat) 0), (219, .eptr 36 5 ((v113).toNat) 0), (220, .int .i64 ((List.getD v9 (v113).toNat default).Base)), (221, .ref 1186), (222, .int .i64 v113), (223, .eptr 1186 1 ((v113).toNat) 0), (224, .int .i64 (List.getD v104 (v113).toNat default)), (225, .int .i64 (w64 (((List.getD v9 (v113).toNat default).Base) + (List.getD v104 (v113).toNat default)))), (226, .eptr 44 1 ((v113).toNat) 0)] [] [] [strS 44 ⟨3, 1, List.map (eInt .i64) (List.set v116 (v113).toNat (w64 (((List.getD v9 (v113).toNat default).Base) + (List.getD v104 (v113).toNat default))))⟩] (d_vs [.v 0 1, .v 0 1, .v 0 1, .v 0 1] (d_c1 (e_v (lo := 0) (y_ixr 36 5 eTFlexItem (L := v9) (i := v113) (by first | exact h239 | exact Eq.trans (by simp only [List.length_set]) h239))) (d_vs [.v 0 1] (d_c1 (e_v (lo := 0) (y_ldr 3 0 eTFlexItem eTFlexItem (inb_spec h239).2 (fun _ => rfl))) (d_vs [.v 0 1, .v 0 1] (d_c1 (e_v (lo := 0) (y_ixr 1186 1 (eInt .i64) (L := v104) (i := v113) (by first | exact h240 | exact Eq.trans (by simp only [List.length_set]) h240))) (d_c1 (e_v (lo := 0) (y_ldr 3 0 (eInt .i64) (eInt .i64) (inb_spec h240).2 (fun _ => rfl))) (d_vs [.v 0 1] (d_c1 (e_v (lo := 0) (y_ixr 44 1 (eInt .i64) (L := v116) (i := v113) (by first | exact h241 | exact Eq.trans (by simp only [List.length_set]) h241))) (d_c1 (e_s (m := 0) (y_str 44 3 1 0 (eInt .i64) (eInt .i64) (w64 (((List.getD v9 (v113).toNat default).Base) + (List.getD v104 (v113).toNat default))) (inb_spec h241).2 (fun _ => rfl))) (d_nl))))))))))) ?_
     exact ve_arr 0 (g_ref19_Resolve_j11_ok hK hL3 hL5 h)
    ·
     refine ve_sb 213 h238 ?_
     exact ve_arr 2 (g_ref19_Resolve_j11_ok hK hL3 hL5 h)
  ·
   refine ve_sb 193 h231 ?_
   exact ve_arr 8 (lp_en (p := p19_44) n (g_ref19_Resolve_l16_ok hK hL3 n h))
theorem g_ref19_Resolve_l13_ok (hK : KnOk K) (hL3 : H19_3 M w0 r v2 v7 v9 m3 L3) (m : Nat) : H19_5 M w0 r v2 v7 v9 v78 v80 v104 m3 m (g_ref19_Resolve_l13 K n v2 v7 v9 v78 v80 v104 L3 m) := by
  induction m with
 | zero => intro v112 v113 v114 v115 h; cases h
 | succ m ih => intro v112 v113 v114 v115 h; have h : g_ref19_Resolve_l13_b K n v2 v7 v9 v78 v80 v104 L3 (g_ref19_Resolve_l13 K n v2 v7 v9 v78 v80 v104 L3 m) v112 v113 v114 v115 = some r := h; exact lp_round (g_ref19_Resolve_l13_b_ok hK hL3 ih h)
theorem g_ref19_Resolve_j10_ok (hK : KnOk K) (hL3 : H19_3 M w0 r v2 v7 v9 m3 L3) (h : g_ref19_Resolve_j10 K n v2 v7 v9 v78 v79 v80 v93 L3 v103 = some r) : VE (cx19 M w0) (q19 M w0 r) [.c (cat Try.f19 p19_45), .b 5, k19_3 M w0 r m3, .b 4, .c (cat Try.f19 p19_0)] .normal (s19_j10 v2 v7 v9 v78 v79 v80 v93 v103) := by
  unfold g_ref19_Resolve_j10 at h
  refine ve_un (ks' := [.c (cat Try.f19 p19_46), .c (cat Try.f19 p19_47), .b 5, k19_3 M w0 r m3, .b 4, .c (cat Try.f19 p19_0)]) 1 ?_
  refine ve_in 2 ?_
  refine ot_f 110 ?_
  obtain ⟨v104, h210, h⟩ := bind_some h
  refine ot_co 1186 (g_ref19_Share_ok hK h210) (one_ref 31) ?_
  refine ot_end ?_
  refine ve_un (ks' := [.c (cat Try.f19 p19_48), .c (cat Try.f19 p19_49), .b 5, k19_3 M w0 r m3, .b 4, .c (cat Try.f19 p19_0)]) 3 ?_
  refine ve_in 1 ?_
  refine ot_sp (y_len eTFlexItem v9) ?_
  obtain ⟨h211, h⟩ := chk_some h
  refine ot_mk (eInt .i64) (0 : Int) 22 (.tmp 188) (.tmp 188) 189 (e := 3) (sz := 1) (zc := [.int .i64 0]) (kd := .i64) (kd' := .i64) h211 ?_
  refine ot_end ?_
  exact ve_arr 4 (lp_en (p := p19_50) n (g_ref19_Resolve_l13_ok hK hL3 n h))
theorem g_ref19_Resolve_j9_ok (hK : KnOk K) (hL3 : H19_3 M w0 r v2 v7 v9 m3 L3) (h : g_ref19_Resolve_j9 K n v2 v7 v9 v78 v79 v80 v91 v93 L3 v102 = some r) : VE (cx19 M w0) (q19 M w0 r) [.c (cat Try.f19 p19_51), .b 5, k19_3 M w0 r m3, .b 4, .c (cat Try.f19 p19_0)] .normal (s19_j9 v2 v7 v9 v78 v79 v80 v91 v93 v102) := by
  unfold g_ref19_Resolve_j9 at h
  refine ve_un (ks' := [.c (cat Try.f19 p19_52), .c (cat Try.f19 p19_45), .b 5, k19_3 M w0 r m3, .b 4, .c (cat Try.f19 p19_0)]) 5 ?_
  rcases ite_some h with ⟨h209, h⟩ | ⟨h209, h⟩
  ·
   refine ve_sb 179 h209 ?_
   exact ve_arr 2 (g_ref19_Resolve_j10_ok hK hL3 h)
  ·
   refine ve_sb 179 h209 ?_
   exact ve_arr 2 (g_ref19_Resolve_j10_ok hK hL3 h)
theorem g_ref19_Resolve_l8_b_ok (hK : KnOk K) (hL3 : H19_3 M w0 r v2 v7 v9 m3 L3) (hL4 : H19_4 M w0 r v2 v7 v9 v78 v79 v80 m3 m4 L4) (h : g_ref19_Resolve_l8_b K n v2 v7 v9 v78 v79 v80 L3 L4 v90 v91 v92 v93 = some r) : VE (cx19 M w0) (q19 M w0 r) [.c (cat Try.f19 p19_10), k19_4 M w0 r m3 m4, .b 6, .c (cat Try.f19 p19_9), .b 5, k19_3 M w0 r m3, .b 4, .c (cat Try.f19 p19_0)] .normal (s19_l8 v2 v7 v9 v78 v79 v80 v90 v91 v92 v93) := by
  unfold g_ref19_Resolve_l8_b at h
  refine ve_un (ks' := [.c (cat Try.f19 p19_53), .c (cat Try.f19 p19_54), .c (cat Try.f19 p19_55), k19_4 M w0 r m3 m4, .b 6, .c (cat Try.f19 p19_9), .b 5, k19_3 M w0 r m3, .b 4, .c (cat Try.f19 p19_0)]) 2 ?_
  refine ve_in 2 ?_
  refine ot_sp (y_len eTFlexItem v9) ?_
  refine ot_end ?_
  rcases ite_some h with ⟨h192, h⟩ | ⟨h192, h⟩
  ·
   refine ve_sb 114 h192 ?_
   refine ve_un (ks' := [.c (cat Try.f19 p19_56), .c (cat Try.f19 p19_57), .c (cat Try.f19 p19_58), .b 7, .c (cat Try.f19 p19_19), k19_4 M w0 r m3 m4, .b 6, .c (cat Try.f19 p19_9), .b 5, k19_3 M w0 r m3, .b 4, .c (cat Try.f19 p19_0)]) 6 ?_
   refine ve_in 2 ?_
   obtain ⟨h193, h⟩ := chk_some h
   refine ot_sp (y_ixr 100 1 eBool h193) ?_
   refine ot_sp (y_ldr 4 0 eBool eBool (inb_spec h193).2 (fun _ => rfl)) ?_
   refine ot_end ?_
   rcases ite_some h with ⟨h194, h⟩ | ⟨h194, h⟩
   ·
    refine ve_sb 120 h194 ?_
    refine ve_un (ks' := [.c (cat Try.f19 p19_59), .c (cat Try.f19 p19_60), .c (cat Try.f19 p19_58), .b 7, .c (cat Try.f19 p19_19), k19_4 M w0 r m3 m4, .b 6, .c (cat Try.f19 p19_9), .b 5, k19_3 M w0 r m3, .b 4, .c (cat Try.f19 p19_0)]) 2 ?_
    refine ve_in 3 ?_
    obtain ⟨h195, h⟩ := chk_some h
    refine ot_sp (y_ixr 44 1 (eInt .i64) h195) ?_
    refine ot_sp (y_ldr 3 0 (eInt .i64) (eInt .i64) (inb_spec h195).2 (fun _ => rfl)) ?_
    refine ot_end ?_
    exact ve_arr 3 (g_ref19_Resolve_j7_ok hK hL3 hL4 h)
   ·
    refine ve_sb 120 h194 ?_
    refine ve_un (ks' := [.c (cat Try.f19 p19_61), .c (cat Try.f19 p19_62), .b 7, .c (cat Try.f19 p19_19), k19_4 M w0 r m3 m4, .b 6, .c (cat Try.f19 p19_9), .b 5, k19_3 M w0 r m3, .b 4, .c (cat Try.f19 p19_0)]) 3 ?_
    refine ve_in 3 ?_
    obtain ⟨h196, h⟩ := chk_some h
    refine ot_sp (y_ixr 36 5 eTFlexItem h196) ?_
    refine ot_go 5 1 ?_
    refine ot_sp (y_ldr 3 0 eTFlexItem eTFlexItem (inb_spec h196).2 (fun _ => rfl)) ?_
    refine ot_end ?_
    obtain ⟨v94, h197, h⟩ := bind_some h
    have h197 := Option.some.inj h197
    refine ve_go (ks' := [.c (cat Try.f19 p19_63), .c (cat Try.f19 p19_64), .b 7, .c (cat Try.f19 p19_19), k19_4 M w0 r m3 m4, .b 6, .c (cat Try.f19 p19_9), .b 5, k19_3 M w0 r m3, .b 4, .c (cat Try.f19 p19_0)]) 1 ⟨[(1,.int .i64 v2),(5,.ref 36),(6,.ref 44),(7,.ref 100),(10,.bool (decide (v7 < v2))),(11,.int .i64 v78),(14,.int .i64 v94),(15,.int .i64 v91),(16,.ref 110),(17,.int .i64 v92)],[],[(36,⟨34,5,List.map eTFlexItem v9⟩),(44,⟨3,1,List.map (eInt .i64) v79⟩),(100,⟨4,1,List.map eBool v80⟩),(110,⟨3,1,List.map (eInt .i64) v93⟩)],[36,44,100,110]⟩ ?_ (by subst h197; kernel_rfl)
    obtain ⟨h198, h⟩ := chk_some h
    obtain ⟨h199, h⟩ := chk_some h
    obtain ⟨h200, h⟩ := chk_some h
    refine ve_dr 1 [(134, .ref 110), (135, .int .i64 v92), (136, .ref 36), (137, .int .i64 v92), (138, .eptr 36 5 ((v92).toNat) 0), (139, .eptr 36 5 ((v92).toNat) 0), (140, .int .i64 ((List.getD v9 (v92).toNat default).Base)), (141, .ref 36), (142, .int .i64 v92), (143, .eptr 36 5 ((v92).toNat) 0), (144, .eptr 36 5 ((v92).toNat) 2), (145, .int .i64 ((List.getD v9 (v92).toNat default).Shrink)), (146, .int .i64 (w64 (((List.getD v9 (v92).toNat default).Base) * ((List.getD v9 (v92).toNat default).Shrink)))), (147, .int .i64 (w64 (Int.tdiv (w64 (((List.getD v9 (v92).toNat default).Base) * ((List.getD v9 (v92).toNat default).Shrink))) 1000))), (148, .eptr 110 1 ((v92).toNat) 0)] [] [] [strS 110 ⟨3, 1, List.map (eInt .i64) (List.set v93 (v92).toNat (w64 (Int.tdiv (w64 (((List.getD v9 (v92).toNat default).Base) * ((List.getD v9 (v92).toNat default).Shrink))) 1000)))⟩] (d_vs [.v 0 1, .v 0 1, .v 0 1, .v 0 1] (d_c1 (e_v (lo := 0) (y_ixr 36 5 eTFlexItem (L := v9) (i := v92) (by first | exact h198 | exact Eq.trans (by simp only [List.length_set]) h198))) (d_vs [.v 0 1] (d_c1 (e_v (lo := 0) (y_ldr 3 0 eTFlexItem eTFlexItem (inb_spec h199).2 (fun _ => rfl))) (d_vs [.v 0 1, .v 0 1] (d_c1 (e_v (lo := 0) (y_ixr 36 5 eTFlexItem (L := v9) (i := v92) (by first | exact h199 | exact Eq.trans (by simp only [List.length_set]) h199))) (d_vs [.v 0 1] (d_c1 (e_v (lo := 0) (y_ldr 3 2 eTFlexItem eTFlexItem (inb_spec h199).2 (fun _ => rfl))) (d_vs [.v 0 1, .v 0 1] (d_c1 (e_v (lo := 0) (y_ixr 110 1 (eInt .i64) (L := v93) (i := v92) (by first | exact h200 | exact Eq.trans (by simp only [List.length_set]) h200))) (d_c1 (e_s (m := 0) (y_str 110 3 1 0 (eInt .i64) (eInt .i64) (w64 (Int.tdiv (w64 (((List.getD v9 (v92).toNat default).Base) * ((List.getD v9 (v92).toNat default).Shrink))) 1000)) (inb_spec h200).2 (fun _ => rfl))) (d_nl)))))))))))) ?_
    obtain ⟨v95, h201, h⟩ := bind_some h
    have h201 := Option.some.inj h201
    refine ve_go (ks' := [.c (cat Try.f19 p19_65), .b 7, .c (cat Try.f19 p19_19), k19_4 M w0 r m3 m4, .b 6, .c (cat Try.f19 p19_9), .b 5, k19_3 M w0 r m3, .b 4, .c (cat Try.f19 p19_0)]) 2 ⟨[(1,.int .i64 v2),(5,.ref 36),(6,.ref 44),(7,.ref 100),(10,.bool (decide (v7 < v2))),(11,.int .i64 v78),(14,.int .i64 v94),(15,.int .i64 v91),(16,.ref 110),(17,.int .i64 v92),(149,.bool (decide (v7 < v2)))],[],[(36,⟨34,5,List.map eTFlexItem v9⟩),(44,⟨3,1,List.map (eInt .i64) v79⟩),(100,⟨4,1,List.map eBool v80⟩),(110,⟨3,1,List.map (eInt .i64) v95⟩)],[36,44,100,110]⟩ ?_ (by subst h201; kernel_rfl)
    rcases ite_some h with ⟨h202, h⟩ | ⟨h202, h⟩
    ·
     refine ve_sb 149 h202 ?_
     refine ve_un (ks' := [.c (cat Try.f19 p19_66), .c (cat Try.f19 p19_67), .b 7, .c (cat Try.f19 p19_19), k19_4 M w0 r m3 m4, .b 6, .c (cat Try.f19 p19_9), .b 5, k19_3 M w0 r m3, .b 4, .c (cat Try.f19 p19_0)]) 2 ?_
     refine ve_in 4 ?_
     obtain ⟨h203, h⟩ := chk_some h
     refine ot_sp (y_ixr 36 5 eTFlexItem h203) ?_
     refine ot_go 6 1 ?_
     refine ot_sp (y_ldr 3 1 eTFlexItem eTFlexItem (inb_spec h203).2 (fun _ => rfl)) ?_
     obtain ⟨h204, h⟩ := chk_some h
     refine ot_sp (y_ixr 110 1 (eInt .i64) h204) ?_
     refine ot_sp (y_str 110 3 1 0 (eInt .i64) (eInt .i64) ((List.getD v9 (v92).toNat default).Grow) (inb_spec h204).2 (fun _ => rfl)) ?_
     refine ot_end ?_
     obtain ⟨v96, h205, h⟩ := bind_some h
     have h205 := Option.some.inj h205
     refine ve_go (ks' := [.c (cat Try.f19 p19_67), .b 7, .c (cat Try.f19 p19_19), k19_4 M w0 r m3 m4, .b 6, .c (cat Try.f19 p19_9), .b 5, k19_3 M w0 r m3, .b 4, .c (cat Try.f19 p19_0)]) 0 ⟨[(1,.int .i64 v2),(5,.ref 36),(6,.ref 44),(7,.ref 100),(10,.bool (decide (v7 < v2))),(11,.int .i64 v78),(14,.int .i64 v94),(15,.int .i64 v91),(16,.ref 110),(17,.int .i64 v92)],[],[(36,⟨34,5,List.map eTFlexItem v9⟩),(44,⟨3,1,List.map (eInt .i64) v79⟩),(100,⟨4,1,List.map eBool v80⟩),(110,⟨3,1,List.map (eInt .i64) v96⟩)],[36,44,100,110]⟩ ?_ (by subst h205; kernel_rfl)
     refine ve_in 3 ?_
     obtain ⟨h206, h⟩ := chk_some h
     refine ot_sp (y_ixr 36 5 eTFlexItem h206) ?_
     refine ot_go 5 1 ?_
     refine ot_sp (y_ldr 3 1 eTFlexItem eTFlexItem (inb_spec h206).2 (fun _ => rfl)) ?_
     refine ot_end ?_
     exact ve_arr 0 (g_ref19_Resolve_j6_ok hK hL3 hL4 h)
    ·
     refine ve_sb 149 h202 ?_
     refine ve_un (ks' := [.c (cat Try.f19 p19_68), .b 7, .c (cat Try.f19 p19_19), k19_4 M w0 r m3 m4, .b 6, .c (cat Try.f19 p19_9), .b 5, k19_3 M w0 r m3, .b 4, .c (cat Try.f19 p19_0)]) 1 ?_
     refine ve_in 3 ?_
     obtain ⟨h207, h⟩ := chk_some h
     refine ot_sp (y_ixr 36 5 eTFlexItem h207) ?_
     refine ot_go 5 1 ?_
     refine ot_sp (y_ldr 3 2 eTFlexItem eTFlexItem (inb_spec h207).2 (fun _ => rfl)) ?_
     refine ot_end ?_
     exact ve_arr 0 (g_ref19_Resolve_j6_ok hK hL3 hL4 h)
  ·
   refine ve_sb 114 h192 ?_
   refine ve_un (ks' := [.c (cat Try.f19 p19_69), .c (cat Try.f19 p19_51), .b 5, k19_3 M w0 r m3, .b 4, .c (cat Try.f19 p19_0)]) 8 ?_
   rcases ite_some h with ⟨h208, h⟩ | ⟨h208, h⟩
   ·
    refine ve_sb 173 h208 ?_
    exact ve_arr 2 (g_ref19_Resolve_j9_ok hK hL3 h)
   ·
    refine ve_sb 173 h208 ?_
    exact ve_arr 2 (g_ref19_Resolve_j9_ok hK hL3 h)
theorem g_ref19_Resolve_l8_ok (hK : KnOk K) (hL3 : H19_3 M w0 r v2 v7 v9 m3 L3) (m : Nat) : H19_4 M w0 r v2 v7 v9 v78 v79 v80 m3 m (g_ref19_Resolve_l8 K n v2 v7 v9 v78 v79 v80 L3 m) := by
  induction m with
 | zero => intro v90 v91 v92 v93 h; cases h
 | succ m ih => intro v90 v91 v92 v93 h; have h : g_ref19_Resolve_l8_b K n v2 v7 v9 v78 v79 v80 L3 (g_ref19_Resolve_l8 K n v2 v7 v9 v78 v79 v80 L3 m) v90 v91 v92 v93 = some r := h; exact lp_round (g_ref19_Resolve_l8_b_ok hK hL3 ih h)
theorem g_ref19_Resolve_l17_b_ok (hK : KnOk K) (hL3 : H19_3 M w0 r v2 v7 v9 m3 L3) (h : g_ref19_Resolve_l17_b K n v2 v7 v9 L3 v78 v79 v80 = some r) : VE (cx19 M w0) (q19 M w0 r) [.c (cat Try.f19 p19_1), k19_3 M w0 r m3, .b 4, .c (cat Try.f19 p19_0)] .normal (s19_l17 v2 v7 v9 v78 v79 v80) := by
  unfold g_ref19_Resolve_l17_b at h
  refine ve_un (ks' := [.c (cat Try.f19 p19_70), .c (cat Try.f19 p19_71), k19_3 M w0 r m3, .b 4, .c (cat Try.f19 p19_0)]) 3 ?_
  rcases ite_some h with ⟨h173, h⟩ | ⟨h173, h⟩
  ·
   refine ve_sb 106 h173 ?_
   refine ve_un (ks' := [.c (cat Try.f19 p19_72), .c (cat Try.f19 p19_73), .b 5, k19_3 M w0 r m3, .b 4, .c (cat Try.f19 p19_0)]) 8 ?_
   refine ve_in 1 ?_
   refine ot_sp (y_len eTFlexItem v9) ?_
   obtain ⟨h174, h⟩ := chk_some h
   refine ot_mk (eInt .i64) (0 : Int) 22 (.tmp 109) (.tmp 109) 110 (e := 3) (sz := 1) (zc := [.int .i64 0]) (kd := .i64) (kd' := .i64) h174 ?_
   refine ot_end ?_
   exact ve_arr 4 (lp_en (p := p19_74) n (g_ref19_Resolve_l8_ok hK hL3 n h))
  ·
   refine ve_sb 106 h173 ?_
   refine ve_rt 8 ?_
   have hr := Option.some.inj h
   subst hr
   exact ve_o1
theorem g_ref19_Resolve_l17_ok (hK : KnOk K) (m : Nat) : H19_3 M w0 r v2 v7 v9 m (g_ref19_Resolve_l17 K n v2 v7 v9 m) := by
  induction m with
 | zero => intro v78 v79 v80 h; cases h
 | succ m ih => intro v78 v79 v80 h; have h : g_ref19_Resolve_l17_b K n v2 v7 v9 (g_ref19_Resolve_l17 K n v2 v7 v9 m) v78 v79 v80 = some r := h; exact lp_round (g_ref19_Resolve_l17_b_ok hK ih h)
theorem g_ref19_Resolve_l5_b_ok (hK : KnOk K) (hL2 : H19_2 M w0 r v2 v7 v9 v10 m2 L2) (h : g_ref19_Resolve_l5_b K n v2 v7 v9 v10 L2 v19 v20 v21 = some r) : VE (cx19 M w0) (q19 M w0 r) [.c (cat Try.f19 p19_3), k19_2 M w0 r m2, .b 2, .c (cat Try.f19 p19_2)] .normal (s19_l5 v2 v7 v9 v10 v19 v20 v21) := by
  unfold g_ref19_Resolve_l5_b at h
  refine ve_un (ks' := [.c (cat Try.f19 p19_75), .c (cat Try.f19 p19_76), .c (cat Try.f19 p19_77), k19_2 M w0 r m2, .b 2, .c (cat Try.f19 p19_2)]) 2 ?_
  refine ve_in 2 ?_
  refine ot_sp (y_len eTFlexItem v9) ?_
  refine ot_end ?_
  rcases ite_some h with ⟨h49, h⟩ | ⟨h49, h⟩
  ·
   refine ve_sb 57 h49 ?_
   refine ve_un (ks' := [.c (cat Try.f19 p19_78), .c (cat Try.f19 p19_16), .b 3, .c (cat Try.f19 p19_11), k19_2 M w0 r m2, .b 2, .c (cat Try.f19 p19_2)]) 5 ?_
   refine ve_pk [1, 5, 6, 7, 10, 11, 12] [] [36, 44, 100] ?_
   obtain ⟨h50, h⟩ := chk_some h
   rcases ite_some h with ⟨h51, h⟩ | ⟨h51, h⟩
   ·
    refine ve_dr 1 [(60, .ref 36), (61, .int .i64 v20), (62, .eptr 36 5 ((v20).toNat) 0), (63, .eptr 36 5 ((v20).toNat) 2), (64, .int .i64 ((List.getD v9 (v20).toNat default).Shrink)), (65, .bool (((List.getD v9 (v20).toNat default).Shrink) == 0)), (66, .bool true), (67, .tup []), (68, .tup []), (69, .tup []), (70, .tup []), (71, .tup []), (72, .tup []), (73, .tup []), (74, .tup []), (75, .tup []), (76, .tup []), (77, .bool true)] [] [] [stp Try.prog 315 Try.f19 p19_78 18] (d_vs [.v 0 1, .v 0 1] (d_c1 (e_v (lo := 0) (y_ixr 36 5 eTFlexItem (L := v9) (i := v20) (by first | exact h50 | exact Eq.trans (by simp only [List.length_set]) h50))) (d_vs [.v 0 1] (d_c1 (e_v (lo := 0) (y_ldr 3 2 eTFlexItem eTFlexItem (inb_spec h50).2 (fun _ => rfl))) (d_vs [.v 0 1] (d_c1 (k_v (lo := 0) (k := 1) (kallS ⟨(by kernel_rfl), (aop_boolc 66 (e := (((List.getD v9 (v20).toNat default).Shrink) == 0)) (b := true) h51 (by kernel_rfl) (by kernel_rfl))⟩ (kall0))) (d_c1 (k_off (lo := 0) (k := 1) (by kernel_rfl) (kallS (by kernel_rfl) (kall0)) (kallS (by kernel_rfl) (kallS (by kernel_rfl) (kall0)))) (d_c1 (k_off (lo := 0) (k := 1) (by kernel_rfl) (kallS (by kernel_rfl) (kall0)) (kallS (by kernel_rfl) (kallS (by kernel_rfl) (kall0)))) (d_c1 (k_off (lo := 0) (k := 1) (by kernel_rfl) (kallS (by kernel_rfl) (kall0)) (kallS (by kernel_rfl) (kallS (by kernel_rfl) (kall0)))) (d_c1 (k_off (lo := 0) (k := 1) (by kernel_rfl) (kallS (by kernel_rfl) (kall0)) (kallS (by kernel_rfl) (kallS (by kernel_rfl) (kall0)))) (d_c1 (k_off (lo := 0) (k := 1) (by kernel_rfl) (kallS (by kernel_rfl) (kall0)) (kallS (by kernel_rfl) (kallS (by kernel_rfl) (kall0)))) (d_c1 (k_off (lo := 0) (k := 1) (by kernel_rfl) (kallS (by kernel_rfl) (kall0)) (kallS (by kernel_rfl) (kallS (by kernel_rfl) (kall0)))) (d_c1 (k_off (lo := 0) (k := 1) (by kernel_rfl) (kallS (by kernel_rfl) (kall0)) (kallS (by kernel_rfl) (kallS (by kernel_rfl) (kall0)))) (d_c1 (k_off (lo := 0) (k := 1) (by kernel_rfl) (kallS (by kernel_rfl) (kall0)) (kallS (by kernel_rfl) (kallS (by kernel_rfl) (kall0)))) (d_c1 (k_off (lo := 0) (k := 1) (by kernel_rfl) (kallS (by kernel_rfl) (kall0)) (kallS (by kernel_rfl) (kallS (by kernel_rfl) (kall0)))) (d_c1 (k_off (lo := 0) (k := 1) (by kernel_rfl) (kallS (by kernel_rfl) (kall0)) (kallS (by kernel_rfl) (kallS (by kernel_rfl) (kall0)))) (d_vs [.v 0 1] (d_c1 (e_d 0) (d_nl))))))))))))))))))) ?_
    exact ve_arr 0 (g_ref19_Resolve_j2_ok hK hL2 h)
   ·
    obtain ⟨h52, h⟩ := chk_some h
    obtain ⟨h53, h⟩ := chk_some h
    refine ve_dr 1 [(60, .ref 36), (61, .int .i64 v20), (62, .eptr 36 5 ((v20).toNat) 0), (63, .eptr 36 5 ((v20).toNat) 2), (64, .int .i64 ((List.getD v9 (v20).toNat default).Shrink)), (65, .bool (((List.getD v9 (v20).toNat default).Shrink) == 0)), (66, .bool false), (67, .ref 36), (68, .int .i64 v20), (69, .eptr 36 5 ((v20).toNat) 0), (70, .eptr 36 5 ((v20).toNat) 0), (71, .int .i64 ((List.getD v9 (v20).toNat default).Base)), (72, .ref 44), (73, .int .i64 v20), (74, .eptr 44 1 ((v20).toNat) 0), (75, .int .i64 (List.getD v10 (v20).toNat default)), (76, .bool (decide (((List.getD v9 (v20).toNat default).Base) < (List.getD v10 (v20).toNat default)))), (77, .bool (decide (((List.getD v9 (v20).toNat default).Base) < (List.getD v10 (v20).toNat default))))] [] [] [stp Try.prog 315 Try.f19 p19_78 18] (d_vs [.v 0 1, .v 0 1] (d_c1 (e_v (lo := 0) (y_ixr 36 5 eTFlexItem (L := v9) (i := v20) (by first | exact h50 | exact Eq.trans (by simp only [List.length_set]) h50))) (d_vs [.v 0 1] (d_c1 (e_v (lo := 0) (y_ldr 3 2 eTFlexItem eTFlexItem (inb_spec h52).2 (fun _ => rfl))) (d_vs [.v 0 1] (d_c1 (k_v (lo := 0) (k := 1) (kallS ⟨(by kernel_rfl), (aop_boolc 66 (e := (((List.getD v9 (v20).toNat default).Shrink) == 0)) (b := false) h51 (by kernel_rfl) (by kernel_rfl))⟩ (kall0))) (d_vs [.v 0 1, .v 0 1] (d_c1 (e_v (lo := 0) (y_ixr 36 5 eTFlexItem (L := v9) (i := v20) (by first | exact h52 | exact Eq.trans (by simp only [List.length_set]) h52))) (d_vs [.v 0 1] (d_c1 (e_v (lo := 0) (y_ldr 3 0 eTFlexItem eTFlexItem (inb_spec h52).2 (fun _ => rfl))) (d_vs [.v 0 1, .v 0 1] (d_c1 (e_v (lo := 0) (y_ixr 44 1 (eInt .i64) (L := v10) (i := v20) (by first | exact h53 | exact Eq.trans (by simp only [List.length_set]) h53))) (d_c1 (e_v (lo := 0) (y_ldr 3 0 (eInt .i64) (eInt .i64) (inb_spec h53).2 (fun _ => rfl))) (d_vs [.v 0 1, .v 0 1] (d_c1 (e_d 0) (d_nl)))))))))))))))) ?_
    exact ve_arr 0 (g_ref19_Resolve_j2_ok hK hL2 h)
  ·
   refine ve_sb 57 h49 ?_
   exact ve_arr 7 (lp_en (p := p19_79) n (g_ref19_Resolve_l17_ok hK n h))
theorem g_ref19_Resolve_l5_ok (hK : KnOk K) (m : Nat) : H19_2 M w0 r v2 v7 v9 v10 m (g_ref19_Resolve_l5 K n v2 v7 v9 v10 m) := by
  induction m with
 | zero => intro v19 v20 v21 h; cases h
 | succ m ih => intro v19 v20 v21 h; have h : g_ref19_Resolve_l5_b K n v2 v7 v9 v10 (g_ref19_Resolve_l5 K n v2 v7 v9 v10 m) v19 v20 v21 = some r := h; exact lp_round (g_ref19_Resolve_l5_b_ok hK ih h)
theorem g_ref19_Resolve_l1_b_ok (hK : KnOk K) (hL1 : H19_1 M w0 r v1 v2 m1 L1) (h : g_ref19_Resolve_l1_b K n v1 v2 L1 v7 v8 v9 v10 = some r) : VE (cx19 M w0) (q19 M w0 r) [.c (cat Try.f19 p19_5), k19_1 M w0 r m1, .b 0, .c (cat Try.f19 p19_4)] .normal (s19_l1 v1 v2 v7 v8 v9 v10) := by
  unfold g_ref19_Resolve_l1_b at h
  refine ve_un (ks' := [.c (cat Try.f19 p19_80), .c (cat Try.f19 p19_81), .c (cat Try.f19 p19_82), k19_1 M w0 r m1, .b 0, .c (cat Try.f19 p19_4)]) 2 ?_
  refine ve_in 2 ?_
  refine ot_sp (y_len eTFlexItem v1) ?_
  refine ot_end ?_
  rcases ite_some h with ⟨h17, h⟩ | ⟨h17, h⟩
  ·
   refine ve_sb 26 h17 ?_
   refine ve_un (ks' := [.c (cat Try.f19 p19_83), .c (cat Try.f19 p19_84), .b 1, .c (cat Try.f19 p19_85), k19_1 M w0 r m1, .b 0, .c (cat Try.f19 p19_4)]) 5 ?_
   refine ve_in 3 ?_
   obtain ⟨h18, h⟩ := chk_some h
   refine ot_sp (y_ixs eTFlexItem eTFlexItem h18 (eTFlexItem_len) (fun _ => rfl)) ?_
   refine ot_go 5 1 ?_
   obtain ⟨v11, h19, h⟩ := bind_some h
   refine ot_cl (g_ref19_Normal_ok hK h19) ?_
   refine ot_go 7 1 ?_
   obtain ⟨h20, h⟩ := chk_some h
   refine ot_sp (y_app 36 36 34 5 eTFlexItem (rfl) (eTFlexItem_len) h20) ?_
   refine ot_end ?_
   refine ve_un (ks' := [.c (cat Try.f19 p19_86), .c (cat Try.f19 p19_87), .b 1, .c (cat Try.f19 p19_85), k19_1 M w0 r m1, .b 0, .c (cat Try.f19 p19_4)]) 1 ?_
   refine ve_in 3 ?_
   obtain ⟨h21, h⟩ := chk_some h
   refine ot_sp (y_ixs eTFlexItem eTFlexItem h21 (eTFlexItem_len) (fun _ => rfl)) ?_
   refine ot_go 5 1 ?_
   obtain ⟨v12, h22, h⟩ := bind_some h
   refine ot_cl (g_ref19_Hypothetical_ok hK h22) ?_
   refine ot_go 7 1 ?_
   obtain ⟨h23, h⟩ := chk_some h
   refine ot_sp (y_app 44 44 3 1 (eInt .i64) (rfl) (fun _ => rfl) h23) ?_
   refine ot_end ?_
   refine ve_in 3 ?_
   obtain ⟨h24, h⟩ := chk_some h
   refine ot_sp (y_ixr 44 1 (eInt .i64) h24) ?_
   refine ot_sp (y_ldr 3 0 (eInt .i64) (eInt .i64) (inb_spec h24).2 (fun _ => rfl)) ?_
   refine ot_end ?_
   exact ve_arr 2 (lp_back (hL1 h))
  ·
   refine ve_sb 26 h17 ?_
   refine ve_un (ks' := [.c (cat Try.f19 p19_88), .b 2, .c (cat Try.f19 p19_2)]) 13 ?_
   refine ve_w 100 7 4 1 ?_
   exact ve_arr 0 (lp_en (p := p19_88) n (g_ref19_Resolve_l5_ok hK n h))
theorem g_ref19_Resolve_l1_ok (hK : KnOk K) (m : Nat) : H19_1 M w0 r v1 v2 m (g_ref19_Resolve_l1 K n v1 v2 m) := by
  induction m with
 | zero => intro v7 v8 v9 v10 h; cases h
 | succ m ih => intro v7 v8 v9 v10 h; have h : g_ref19_Resolve_l1_b K n v1 v2 (g_ref19_Resolve_l1 K n v1 v2 m) v7 v8 v9 v10 = some r := h; exact lp_round (g_ref19_Resolve_l1_b_ok hK ih h)
theorem g_ref19_Resolve_ok (hK : KnOk K) (h : g_ref19_Resolve K n v1 v2 = some r) : ACalls Try.prog 19 [.sl (List.map eTFlexItem v1), .int .i64 v2] (fun v s => v = .ref 44 ∧ look 44 s.r = some ⟨3, 1, List.map (eInt .i64) r⟩) := by
  refine acalls_intro (c := cat Try.f19 []) Try.func19 (by kernel_rfl) _ Try.ntmps19 (of_decide_eq_true (by kernel_rfl)) fun M w0 => ?_
  refine ve_cast (s' := ⟨[(0,.sl (List.map eTFlexItem v1)),(1,.int .i64 v2)],[],[],[]⟩) (by kernel_rfl) ?_
  unfold g_ref19_Resolve at h
  refine ve_un (ks' := [.c (cat Try.f19 p19_89), .b 0, .c (cat Try.f19 p19_4)]) 14 ?_
  refine ve_w 36 5 34 5 ?_
  refine ve_w 44 6 3 1 ?_
  exact ve_arr 0 (lp_en (p := p19_89) n (g_ref19_Resolve_l1_ok hK n h))
end

def p5_0 : List Nat := [1, 1, 0, 0]
def p5_1 : List Nat := [1, 1, 0, 1]
def p5_2 : List Nat := [1, 1, 1, 0]
def p5_3 : List Nat := [1, 1, 1, 1]
noncomputable section
abbrev cx5 (M : Nat → Prop) (w0 : Base) : Cx := ⟨Try.prog, 18, M, w0⟩
abbrev q5 (M : Nat → Prop) (w0 : Base) (r : Bool) := bodyPost Try.prog Try.f5 (RetQ M w0 (fun v _ => v = .bool r))
variable {K : Kn} {n : Nat} {M : Nat → Prop} {w0 : Base} {r : Bool} {v1 : (List TFlexItem)} {v2 : Int} 
theorem g_law19_FlexResolve_ok (hK : KnOk K) (h : g_law19_FlexResolve K n v1 v2 = some r) : ACalls Try.prog 5 [.sl (List.map eTFlexItem v1), .int .i64 v2] (fun v _ => v = .bool r) := by
  refine acalls_intro (c := cat Try.f5 []) Try.func5 (by kernel_rfl) _ Try.ntmps5 (of_decide_eq_true (by kernel_rfl)) fun M w0 => ?_
  refine ve_cast (s' := ⟨[(0,.sl (List.map eTFlexItem v1)),(1,.int .i64 v2)],[],[],[]⟩) (by kernel_rfl) ?_
  unfold g_law19_FlexResolve at h
  refine ve_un (ks' := [.c (cat Try.f5 [1, 0, 0]), .c (cat Try.f5 [1, 0, 1]), .c (cat Try.f5 [1, 1])]) 4 ?_
  refine ve_in 0 ?_
  obtain ⟨v3, h1, h⟩ := bind_some h
  refine ot_cl (g_law19_fit_ok hK h1) ?_
  refine ot_end ?_
  rcases ite_some h with ⟨h2, h⟩ | ⟨h2, h⟩
  ·
   refine ve_sb 6 h2 ?_
   refine ve_rt 5 ?_
   have hr := Option.some.inj h
   subst hr
   exact ve_d1
  ·
   refine ve_sb 6 h2 ?_
   refine ve_un (ks' := [.c (cat Try.f5 p5_0), .c (cat Try.f5 p5_1), .c (cat Try.f5 [1, 1, 1])]) 4 ?_
   refine ve_in 2 ?_
   obtain ⟨v4, h3, h⟩ := bind_some h
   refine ot_cl (g_law19_few_ok hK h3) ?_
   refine ot_end ?_
   rcases ite_some h with ⟨h4, h⟩ | ⟨h4, h⟩
   ·
    refine ve_sb 10 h4 ?_
    refine ve_rt 5 ?_
    have hr := Option.some.inj h
    subst hr
    exact ve_d1
   ·
    refine ve_sb 10 h4 ?_
    refine ve_un (ks' := [.c (cat Try.f5 p5_2), .c (cat Try.f5 p5_3)]) 3 ?_
    refine ve_in 2 ?_
    obtain ⟨v5, h5, h⟩ := bind_some h
    refine ot_co 1013 (g_flex_Resolve_ok hK h5) (one_ref 143) ?_
    refine ot_go 5 2 ?_
    obtain ⟨v6, h6, h⟩ := bind_some h
    refine ot_co 1016 (g_ref19_Resolve_ok hK h6) (one_ref 44) ?_
    refine ot_f 1013 ?_
    refine ot_f 1016 ?_
    obtain ⟨v7, h7, h⟩ := bind_some h
    refine ot_cl (g_law19_equal_ok hK h7) ?_
    refine ot_end ?_
    refine ve_rt 1 ?_
    have hr := Option.some.inj h
    subst hr
    exact ve_d1
end
end Go.Proofs.Ytlpndemhnpajiaa
