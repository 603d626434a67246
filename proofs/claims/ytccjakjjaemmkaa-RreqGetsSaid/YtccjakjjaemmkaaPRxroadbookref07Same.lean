-- Written by mp.py, a program of this work (wip/tools), out of the translation; Lean checks it.
import Derived.Test.YtccjakjjaemmkaaPRx0
import Derived.Test.YtccjakjjaemmkaaPRxroadbookref07
import Derived.Test.YtccjakjjaemmkaaOr
namespace Go.Proofs.Ytccjakjjaemmkaa.PR
open Go.RowKit Go.Proofs.YtccjakjjaemmkaaW.PrintWords Go.Proofs.YtccjakjjaemmkaaW.PrintLast Go.Proofs.YtccjakjjaemmkaaW.PrintMore
attribute [local go_sem] max2_int min2_int max_two min_two max_three min_three max_four min_four   -- for this text's walks alone
set_option linter.unusedVariables false
set_option linter.unusedSimpArgs false

/-! ### roadbookref07_Same: function 24 -/
mutual
def roadbookref07_Same.j0 : Nat → Bool → Int → Int → Int → ByteArray → Int → Int → ByteArray → Int → Int → ByteArray → Int → ByteArray → Int → Int → Int → Int → Int → Int → Int → ByteArray → ByteArray → List (S46) → Int → ByteArray → List (S48) → Int → Int → Int → ByteArray → Int → Int → ByteArray → Int → Int → ByteArray → Int → ByteArray → Int → Int → Int → Int → Int → Int → Int → ByteArray → ByteArray → List (S46) → Int → ByteArray → List (S48) → Option (Bool)
  | 0, _, _, _, _, _, _, _, _, _, _, _, _, _, _, _, _, _, _, _, _, _, _, _, _, _, _, _, _, _, _, _, _, _, _, _, _, _, _, _, _, _, _, _, _, _, _, _, _, _, _, _ => none
  | k + 1, x79, x102000, x102001, x102002, x102003, x102004, x102005, x102006, x102007, x102008, x102009, x102010, x102011, x102012, x102013, x102014, x102015, x102016, x102017, x102018, x102019, x102020, x102021, x102022, x102023, x102024, x103000, x103001, x103002, x103003, x103004, x103005, x103006, x103007, x103008, x103009, x103010, x103011, x103012, x103013, x103014, x103015, x103016, x103017, x103018, x103019, x103020, x103021, x103022, x103023, x103024 => if x79 = true then (some false) else (if x102011.toList = x103011.toList then (if x102012 = x103012 then (if x102013 = x103013 then (if x102014 = x103014 then (if x102015 = x103015 then (if x102016 = x103016 then (if x102017 = x103017 then (if x102018 = x103018 then (if x102019.toList = x103019.toList then (if x102020.toList = x103020.toList then (if x102022 = x103022 then (roadbookref07_Same.j1 k (x102023.toList != x103023.toList) x102000 x102001 x102002 x102003 x102004 x102005 x102006 x102007 x102008 x102009 x102010 x102011 x102012 x102013 x102014 x102015 x102016 x102017 x102018 x102019 x102020 x102021 x102022 x102023 x102024 x103000 x103001 x103002 x103003 x103004 x103005 x103006 x103007 x103008 x103009 x103010 x103011 x103012 x103013 x103014 x103015 x103016 x103017 x103018 x103019 x103020 x103021 x103022 x103023 x103024) else (roadbookref07_Same.j1 k true x102000 x102001 x102002 x102003 x102004 x102005 x102006 x102007 x102008 x102009 x102010 x102011 x102012 x102013 x102014 x102015 x102016 x102017 x102018 x102019 x102020 x102021 x102022 x102023 x102024 x103000 x103001 x103002 x103003 x103004 x103005 x103006 x103007 x103008 x103009 x103010 x103011 x103012 x103013 x103014 x103015 x103016 x103017 x103018 x103019 x103020 x103021 x103022 x103023 x103024)) else (roadbookref07_Same.j1 k true x102000 x102001 x102002 x102003 x102004 x102005 x102006 x102007 x102008 x102009 x102010 x102011 x102012 x102013 x102014 x102015 x102016 x102017 x102018 x102019 x102020 x102021 x102022 x102023 x102024 x103000 x103001 x103002 x103003 x103004 x103005 x103006 x103007 x103008 x103009 x103010 x103011 x103012 x103013 x103014 x103015 x103016 x103017 x103018 x103019 x103020 x103021 x103022 x103023 x103024)) else (roadbookref07_Same.j1 k true x102000 x102001 x102002 x102003 x102004 x102005 x102006 x102007 x102008 x102009 x102010 x102011 x102012 x102013 x102014 x102015 x102016 x102017 x102018 x102019 x102020 x102021 x102022 x102023 x102024 x103000 x103001 x103002 x103003 x103004 x103005 x103006 x103007 x103008 x103009 x103010 x103011 x103012 x103013 x103014 x103015 x103016 x103017 x103018 x103019 x103020 x103021 x103022 x103023 x103024)) else (roadbookref07_Same.j1 k true x102000 x102001 x102002 x102003 x102004 x102005 x102006 x102007 x102008 x102009 x102010 x102011 x102012 x102013 x102014 x102015 x102016 x102017 x102018 x102019 x102020 x102021 x102022 x102023 x102024 x103000 x103001 x103002 x103003 x103004 x103005 x103006 x103007 x103008 x103009 x103010 x103011 x103012 x103013 x103014 x103015 x103016 x103017 x103018 x103019 x103020 x103021 x103022 x103023 x103024)) else (roadbookref07_Same.j1 k true x102000 x102001 x102002 x102003 x102004 x102005 x102006 x102007 x102008 x102009 x102010 x102011 x102012 x102013 x102014 x102015 x102016 x102017 x102018 x102019 x102020 x102021 x102022 x102023 x102024 x103000 x103001 x103002 x103003 x103004 x103005 x103006 x103007 x103008 x103009 x103010 x103011 x103012 x103013 x103014 x103015 x103016 x103017 x103018 x103019 x103020 x103021 x103022 x103023 x103024)) else (roadbookref07_Same.j1 k true x102000 x102001 x102002 x102003 x102004 x102005 x102006 x102007 x102008 x102009 x102010 x102011 x102012 x102013 x102014 x102015 x102016 x102017 x102018 x102019 x102020 x102021 x102022 x102023 x102024 x103000 x103001 x103002 x103003 x103004 x103005 x103006 x103007 x103008 x103009 x103010 x103011 x103012 x103013 x103014 x103015 x103016 x103017 x103018 x103019 x103020 x103021 x103022 x103023 x103024)) else (roadbookref07_Same.j1 k true x102000 x102001 x102002 x102003 x102004 x102005 x102006 x102007 x102008 x102009 x102010 x102011 x102012 x102013 x102014 x102015 x102016 x102017 x102018 x102019 x102020 x102021 x102022 x102023 x102024 x103000 x103001 x103002 x103003 x103004 x103005 x103006 x103007 x103008 x103009 x103010 x103011 x103012 x103013 x103014 x103015 x103016 x103017 x103018 x103019 x103020 x103021 x103022 x103023 x103024)) else (roadbookref07_Same.j1 k true x102000 x102001 x102002 x102003 x102004 x102005 x102006 x102007 x102008 x102009 x102010 x102011 x102012 x102013 x102014 x102015 x102016 x102017 x102018 x102019 x102020 x102021 x102022 x102023 x102024 x103000 x103001 x103002 x103003 x103004 x103005 x103006 x103007 x103008 x103009 x103010 x103011 x103012 x103013 x103014 x103015 x103016 x103017 x103018 x103019 x103020 x103021 x103022 x103023 x103024)) else (roadbookref07_Same.j1 k true x102000 x102001 x102002 x102003 x102004 x102005 x102006 x102007 x102008 x102009 x102010 x102011 x102012 x102013 x102014 x102015 x102016 x102017 x102018 x102019 x102020 x102021 x102022 x102023 x102024 x103000 x103001 x103002 x103003 x103004 x103005 x103006 x103007 x103008 x103009 x103010 x103011 x103012 x103013 x103014 x103015 x103016 x103017 x103018 x103019 x103020 x103021 x103022 x103023 x103024)) else (roadbookref07_Same.j1 k true x102000 x102001 x102002 x102003 x102004 x102005 x102006 x102007 x102008 x102009 x102010 x102011 x102012 x102013 x102014 x102015 x102016 x102017 x102018 x102019 x102020 x102021 x102022 x102023 x102024 x103000 x103001 x103002 x103003 x103004 x103005 x103006 x103007 x103008 x103009 x103010 x103011 x103012 x103013 x103014 x103015 x103016 x103017 x103018 x103019 x103020 x103021 x103022 x103023 x103024)) else (roadbookref07_Same.j1 k true x102000 x102001 x102002 x102003 x102004 x102005 x102006 x102007 x102008 x102009 x102010 x102011 x102012 x102013 x102014 x102015 x102016 x102017 x102018 x102019 x102020 x102021 x102022 x102023 x102024 x103000 x103001 x103002 x103003 x103004 x103005 x103006 x103007 x103008 x103009 x103010 x103011 x103012 x103013 x103014 x103015 x103016 x103017 x103018 x103019 x103020 x103021 x103022 x103023 x103024))
def roadbookref07_Same.j1 : Nat → Bool → Int → Int → Int → ByteArray → Int → Int → ByteArray → Int → Int → ByteArray → Int → ByteArray → Int → Int → Int → Int → Int → Int → Int → ByteArray → ByteArray → List (S46) → Int → ByteArray → List (S48) → Int → Int → Int → ByteArray → Int → Int → ByteArray → Int → Int → ByteArray → Int → ByteArray → Int → Int → Int → Int → Int → Int → Int → ByteArray → ByteArray → List (S46) → Int → ByteArray → List (S48) → Option (Bool)
  | 0, _, _, _, _, _, _, _, _, _, _, _, _, _, _, _, _, _, _, _, _, _, _, _, _, _, _, _, _, _, _, _, _, _, _, _, _, _, _, _, _, _, _, _, _, _, _, _, _, _, _, _ => none
  | k + 1, x161, x102000, x102001, x102002, x102003, x102004, x102005, x102006, x102007, x102008, x102009, x102010, x102011, x102012, x102013, x102014, x102015, x102016, x102017, x102018, x102019, x102020, x102021, x102022, x102023, x102024, x103000, x103001, x103002, x103003, x103004, x103005, x103006, x103007, x103008, x103009, x103010, x103011, x103012, x103013, x103014, x103015, x103016, x103017, x103018, x103019, x103020, x103021, x103022, x103023, x103024 => if x161 = true then (some false) else ((roadbookref07_dests.f k x102021 x103021).bind fun t103 => (if t103 = true then ((roadbookref07_subs.f k x102024 x103024).bind fun t104 => (some t104)) else (some false)))
end
def roadbookref07_Same.f (k : Nat) (a0_0 : Int) (a0_1 : Int) (a0_2 : Int) (a0_3 : ByteArray) (a0_4 : Int) (a0_5 : Int) (a0_6 : ByteArray) (a0_7 : Int) (a0_8 : Int) (a0_9 : ByteArray) (a0_10 : Int) (a0_11 : ByteArray) (a0_12 : Int) (a0_13 : Int) (a0_14 : Int) (a0_15 : Int) (a0_16 : Int) (a0_17 : Int) (a0_18 : Int) (a0_19 : ByteArray) (a0_20 : ByteArray) (l0_21 : List (S46)) (a0_22 : Int) (a0_23 : ByteArray) (l0_24 : List (S48)) (a1_0 : Int) (a1_1 : Int) (a1_2 : Int) (a1_3 : ByteArray) (a1_4 : Int) (a1_5 : Int) (a1_6 : ByteArray) (a1_7 : Int) (a1_8 : Int) (a1_9 : ByteArray) (a1_10 : Int) (a1_11 : ByteArray) (a1_12 : Int) (a1_13 : Int) (a1_14 : Int) (a1_15 : Int) (a1_16 : Int) (a1_17 : Int) (a1_18 : Int) (a1_19 : ByteArray) (a1_20 : ByteArray) (l1_21 : List (S46)) (a1_22 : Int) (a1_23 : ByteArray) (l1_24 : List (S48)) : Option (Bool) := if a0_0 = a1_0 then (if a0_1 = a1_1 then (if a0_2 = a1_2 then (if a0_3.toList = a1_3.toList then (if a0_4 = a1_4 then (if a0_5 = a1_5 then (if a0_6.toList = a1_6.toList then (if a0_7 = a1_7 then (if a0_8 = a1_8 then (if a0_9.toList = a1_9.toList then (roadbookref07_Same.j0 k (a0_10 != a1_10) a0_0 a0_1 a0_2 a0_3 a0_4 a0_5 a0_6 a0_7 a0_8 a0_9 a0_10 a0_11 a0_12 a0_13 a0_14 a0_15 a0_16 a0_17 a0_18 a0_19 a0_20 l0_21 a0_22 a0_23 l0_24 a1_0 a1_1 a1_2 a1_3 a1_4 a1_5 a1_6 a1_7 a1_8 a1_9 a1_10 a1_11 a1_12 a1_13 a1_14 a1_15 a1_16 a1_17 a1_18 a1_19 a1_20 l1_21 a1_22 a1_23 l1_24) else (roadbookref07_Same.j0 k true a0_0 a0_1 a0_2 a0_3 a0_4 a0_5 a0_6 a0_7 a0_8 a0_9 a0_10 a0_11 a0_12 a0_13 a0_14 a0_15 a0_16 a0_17 a0_18 a0_19 a0_20 l0_21 a0_22 a0_23 l0_24 a1_0 a1_1 a1_2 a1_3 a1_4 a1_5 a1_6 a1_7 a1_8 a1_9 a1_10 a1_11 a1_12 a1_13 a1_14 a1_15 a1_16 a1_17 a1_18 a1_19 a1_20 l1_21 a1_22 a1_23 l1_24)) else (roadbookref07_Same.j0 k true a0_0 a0_1 a0_2 a0_3 a0_4 a0_5 a0_6 a0_7 a0_8 a0_9 a0_10 a0_11 a0_12 a0_13 a0_14 a0_15 a0_16 a0_17 a0_18 a0_19 a0_20 l0_21 a0_22 a0_23 l0_24 a1_0 a1_1 a1_2 a1_3 a1_4 a1_5 a1_6 a1_7 a1_8 a1_9 a1_10 a1_11 a1_12 a1_13 a1_14 a1_15 a1_16 a1_17 a1_18 a1_19 a1_20 l1_21 a1_22 a1_23 l1_24)) else (roadbookref07_Same.j0 k true a0_0 a0_1 a0_2 a0_3 a0_4 a0_5 a0_6 a0_7 a0_8 a0_9 a0_10 a0_11 a0_12 a0_13 a0_14 a0_15 a0_16 a0_17 a0_18 a0_19 a0_20 l0_21 a0_22 a0_23 l0_24 a1_0 a1_1 a1_2 a1_3 a1_4 a1_5 a1_6 a1_7 a1_8 a1_9 a1_10 a1_11 a1_12 a1_13 a1_14 a1_15 a1_16 a1_17 a1_18 a1_19 a1_20 l1_21 a1_22 a1_23 l1_24)) else (roadbookref07_Same.j0 k true a0_0 a0_1 a0_2 a0_3 a0_4 a0_5 a0_6 a0_7 a0_8 a0_9 a0_10 a0_11 a0_12 a0_13 a0_14 a0_15 a0_16 a0_17 a0_18 a0_19 a0_20 l0_21 a0_22 a0_23 l0_24 a1_0 a1_1 a1_2 a1_3 a1_4 a1_5 a1_6 a1_7 a1_8 a1_9 a1_10 a1_11 a1_12 a1_13 a1_14 a1_15 a1_16 a1_17 a1_18 a1_19 a1_20 l1_21 a1_22 a1_23 l1_24)) else (roadbookref07_Same.j0 k true a0_0 a0_1 a0_2 a0_3 a0_4 a0_5 a0_6 a0_7 a0_8 a0_9 a0_10 a0_11 a0_12 a0_13 a0_14 a0_15 a0_16 a0_17 a0_18 a0_19 a0_20 l0_21 a0_22 a0_23 l0_24 a1_0 a1_1 a1_2 a1_3 a1_4 a1_5 a1_6 a1_7 a1_8 a1_9 a1_10 a1_11 a1_12 a1_13 a1_14 a1_15 a1_16 a1_17 a1_18 a1_19 a1_20 l1_21 a1_22 a1_23 l1_24)) else (roadbookref07_Same.j0 k true a0_0 a0_1 a0_2 a0_3 a0_4 a0_5 a0_6 a0_7 a0_8 a0_9 a0_10 a0_11 a0_12 a0_13 a0_14 a0_15 a0_16 a0_17 a0_18 a0_19 a0_20 l0_21 a0_22 a0_23 l0_24 a1_0 a1_1 a1_2 a1_3 a1_4 a1_5 a1_6 a1_7 a1_8 a1_9 a1_10 a1_11 a1_12 a1_13 a1_14 a1_15 a1_16 a1_17 a1_18 a1_19 a1_20 l1_21 a1_22 a1_23 l1_24)) else (roadbookref07_Same.j0 k true a0_0 a0_1 a0_2 a0_3 a0_4 a0_5 a0_6 a0_7 a0_8 a0_9 a0_10 a0_11 a0_12 a0_13 a0_14 a0_15 a0_16 a0_17 a0_18 a0_19 a0_20 l0_21 a0_22 a0_23 l0_24 a1_0 a1_1 a1_2 a1_3 a1_4 a1_5 a1_6 a1_7 a1_8 a1_9 a1_10 a1_11 a1_12 a1_13 a1_14 a1_15 a1_16 a1_17 a1_18 a1_19 a1_20 l1_21 a1_22 a1_23 l1_24)) else (roadbookref07_Same.j0 k true a0_0 a0_1 a0_2 a0_3 a0_4 a0_5 a0_6 a0_7 a0_8 a0_9 a0_10 a0_11 a0_12 a0_13 a0_14 a0_15 a0_16 a0_17 a0_18 a0_19 a0_20 l0_21 a0_22 a0_23 l0_24 a1_0 a1_1 a1_2 a1_3 a1_4 a1_5 a1_6 a1_7 a1_8 a1_9 a1_10 a1_11 a1_12 a1_13 a1_14 a1_15 a1_16 a1_17 a1_18 a1_19 a1_20 l1_21 a1_22 a1_23 l1_24)) else (roadbookref07_Same.j0 k true a0_0 a0_1 a0_2 a0_3 a0_4 a0_5 a0_6 a0_7 a0_8 a0_9 a0_10 a0_11 a0_12 a0_13 a0_14 a0_15 a0_16 a0_17 a0_18 a0_19 a0_20 l0_21 a0_22 a0_23 l0_24 a1_0 a1_1 a1_2 a1_3 a1_4 a1_5 a1_6 a1_7 a1_8 a1_9 a1_10 a1_11 a1_12 a1_13 a1_14 a1_15 a1_16 a1_17 a1_18 a1_19 a1_20 l1_21 a1_22 a1_23 l1_24)) else (roadbookref07_Same.j0 k true a0_0 a0_1 a0_2 a0_3 a0_4 a0_5 a0_6 a0_7 a0_8 a0_9 a0_10 a0_11 a0_12 a0_13 a0_14 a0_15 a0_16 a0_17 a0_18 a0_19 a0_20 l0_21 a0_22 a0_23 l0_24 a1_0 a1_1 a1_2 a1_3 a1_4 a1_5 a1_6 a1_7 a1_8 a1_9 a1_10 a1_11 a1_12 a1_13 a1_14 a1_15 a1_16 a1_17 a1_18 a1_19 a1_20 l1_21 a1_22 a1_23 l1_24)
theorem roadbookref07_Same.mono_l : ∀ k, (∀ y0 y1 y2 y3 y4 y5 y6 y7 y8 y9 y10 y11 y12 y13 y14 y15 y16 y17 y18 y19 y20 y21 y22 y23 y24 y25 y26 y27 y28 y29 y30 y31 y32 y33 y34 y35 y36 y37 y38 y39 y40 y41 y42 y43 y44 y45 y46 y47 y48 y49 y50, LeO (roadbookref07_Same.j0 k y0 y1 y2 y3 y4 y5 y6 y7 y8 y9 y10 y11 y12 y13 y14 y15 y16 y17 y18 y19 y20 y21 y22 y23 y24 y25 y26 y27 y28 y29 y30 y31 y32 y33 y34 y35 y36 y37 y38 y39 y40 y41 y42 y43 y44 y45 y46 y47 y48 y49 y50) (roadbookref07_Same.j0 (k + 1) y0 y1 y2 y3 y4 y5 y6 y7 y8 y9 y10 y11 y12 y13 y14 y15 y16 y17 y18 y19 y20 y21 y22 y23 y24 y25 y26 y27 y28 y29 y30 y31 y32 y33 y34 y35 y36 y37 y38 y39 y40 y41 y42 y43 y44 y45 y46 y47 y48 y49 y50)) ∧ (∀ y0 y1 y2 y3 y4 y5 y6 y7 y8 y9 y10 y11 y12 y13 y14 y15 y16 y17 y18 y19 y20 y21 y22 y23 y24 y25 y26 y27 y28 y29 y30 y31 y32 y33 y34 y35 y36 y37 y38 y39 y40 y41 y42 y43 y44 y45 y46 y47 y48 y49 y50, LeO (roadbookref07_Same.j1 k y0 y1 y2 y3 y4 y5 y6 y7 y8 y9 y10 y11 y12 y13 y14 y15 y16 y17 y18 y19 y20 y21 y22 y23 y24 y25 y26 y27 y28 y29 y30 y31 y32 y33 y34 y35 y36 y37 y38 y39 y40 y41 y42 y43 y44 y45 y46 y47 y48 y49 y50) (roadbookref07_Same.j1 (k + 1) y0 y1 y2 y3 y4 y5 y6 y7 y8 y9 y10 y11 y12 y13 y14 y15 y16 y17 y18 y19 y20 y21 y22 y23 y24 y25 y26 y27 y28 y29 y30 y31 y32 y33 y34 y35 y36 y37 y38 y39 y40 y41 y42 y43 y44 y45 y46 y47 y48 y49 y50))
  | 0 => ⟨fun _ _ _ _ _ _ _ _ _ _ _ _ _ _ _ _ _ _ _ _ _ _ _ _ _ _ _ _ _ _ _ _ _ _ _ _ _ _ _ _ _ _ _ _ _ _ _ _ _ _ _ r h => by simp [roadbookref07_Same.j0] at h, fun _ _ _ _ _ _ _ _ _ _ _ _ _ _ _ _ _ _ _ _ _ _ _ _ _ _ _ _ _ _ _ _ _ _ _ _ _ _ _ _ _ _ _ _ _ _ _ _ _ _ _ r h => by simp [roadbookref07_Same.j1] at h⟩
  | k + 1 => by
    obtain ⟨ih0, ih1⟩ := roadbookref07_Same.mono_l k
    refine ⟨?_, ?_⟩
    · intro y0 y1 y2 y3 y4 y5 y6 y7 y8 y9 y10 y11 y12 y13 y14 y15 y16 y17 y18 y19 y20 y21 y22 y23 y24 y25 y26 y27 y28 y29 y30 y31 y32 y33 y34 y35 y36 y37 y38 y39 y40 y41 y42 y43 y44 y45 y46 y47 y48 y49 y50
      unfold roadbookref07_Same.j0
      repeat' first
      | (with_reducible exact ih0 _ _ _ _ _ _ _ _ _ _ _ _ _ _ _ _ _ _ _ _ _ _ _ _ _ _ _ _ _ _ _ _ _ _ _ _ _ _ _ _ _ _ _ _ _ _ _ _ _ _ _)
      | (with_reducible exact ih1 _ _ _ _ _ _ _ _ _ _ _ _ _ _ _ _ _ _ _ _ _ _ _ _ _ _ _ _ _ _ _ _ _ _ _ _ _ _ _ _ _ _ _ _ _ _ _ _ _ _ _)
      | (with_reducible exact roadbookref07_dests.mono _ _ _)
      | (with_reducible exact roadbookref07_subs.mono _ _ _)
      | (with_reducible exact LeO.refl _)
      | (with_reducible exact LeO.none _)
      | (with_reducible refine LeO.ite ?_ ?_)
      | (with_reducible refine LeO.bind ?_ (fun _ => ?_))
      | exact ih0 _ _ _ _ _ _ _ _ _ _ _ _ _ _ _ _ _ _ _ _ _ _ _ _ _ _ _ _ _ _ _ _ _ _ _ _ _ _ _ _ _ _ _ _ _ _ _ _ _ _ _
      | exact ih1 _ _ _ _ _ _ _ _ _ _ _ _ _ _ _ _ _ _ _ _ _ _ _ _ _ _ _ _ _ _ _ _ _ _ _ _ _ _ _ _ _ _ _ _ _ _ _ _ _ _ _
      | exact roadbookref07_dests.mono _ _ _
      | exact roadbookref07_subs.mono _ _ _
      | exact LeO.none _
      | refine LeO.ite ?_ ?_
      | refine LeO.bind ?_ (fun _ => ?_)
    · intro y0 y1 y2 y3 y4 y5 y6 y7 y8 y9 y10 y11 y12 y13 y14 y15 y16 y17 y18 y19 y20 y21 y22 y23 y24 y25 y26 y27 y28 y29 y30 y31 y32 y33 y34 y35 y36 y37 y38 y39 y40 y41 y42 y43 y44 y45 y46 y47 y48 y49 y50
      unfold roadbookref07_Same.j1
      repeat' first
      | (with_reducible exact ih0 _ _ _ _ _ _ _ _ _ _ _ _ _ _ _ _ _ _ _ _ _ _ _ _ _ _ _ _ _ _ _ _ _ _ _ _ _ _ _ _ _ _ _ _ _ _ _ _ _ _ _)
      | (with_reducible exact ih1 _ _ _ _ _ _ _ _ _ _ _ _ _ _ _ _ _ _ _ _ _ _ _ _ _ _ _ _ _ _ _ _ _ _ _ _ _ _ _ _ _ _ _ _ _ _ _ _ _ _ _)
      | (with_reducible exact roadbookref07_dests.mono _ _ _)
      | (with_reducible exact roadbookref07_subs.mono _ _ _)
      | (with_reducible exact LeO.refl _)
      | (with_reducible exact LeO.none _)
      | (with_reducible refine LeO.ite ?_ ?_)
      | (with_reducible refine LeO.bind ?_ (fun _ => ?_))
      | exact ih0 _ _ _ _ _ _ _ _ _ _ _ _ _ _ _ _ _ _ _ _ _ _ _ _ _ _ _ _ _ _ _ _ _ _ _ _ _ _ _ _ _ _ _ _ _ _ _ _ _ _ _
      | exact ih1 _ _ _ _ _ _ _ _ _ _ _ _ _ _ _ _ _ _ _ _ _ _ _ _ _ _ _ _ _ _ _ _ _ _ _ _ _ _ _ _ _ _ _ _ _ _ _ _ _ _ _
      | exact roadbookref07_dests.mono _ _ _
      | exact roadbookref07_subs.mono _ _ _
      | exact LeO.none _
      | refine LeO.ite ?_ ?_
      | refine LeO.bind ?_ (fun _ => ?_)
theorem roadbookref07_Same.mono : ∀ a0 a1 a2 a3 a4 a5 a6 a7 a8 a9 a10 a11 a12 a13 a14 a15 a16 a17 a18 a19 a20 a21 a22 a23 a24 a25 a26 a27 a28 a29 a30 a31 a32 a33 a34 a35 a36 a37 a38 a39 a40 a41 a42 a43 a44 a45 a46 a47 a48 a49 k, LeO (roadbookref07_Same.f k a0 a1 a2 a3 a4 a5 a6 a7 a8 a9 a10 a11 a12 a13 a14 a15 a16 a17 a18 a19 a20 a21 a22 a23 a24 a25 a26 a27 a28 a29 a30 a31 a32 a33 a34 a35 a36 a37 a38 a39 a40 a41 a42 a43 a44 a45 a46 a47 a48 a49) (roadbookref07_Same.f (k + 1) a0 a1 a2 a3 a4 a5 a6 a7 a8 a9 a10 a11 a12 a13 a14 a15 a16 a17 a18 a19 a20 a21 a22 a23 a24 a25 a26 a27 a28 a29 a30 a31 a32 a33 a34 a35 a36 a37 a38 a39 a40 a41 a42 a43 a44 a45 a46 a47 a48 a49) := by
  intro a0 a1 a2 a3 a4 a5 a6 a7 a8 a9 a10 a11 a12 a13 a14 a15 a16 a17 a18 a19 a20 a21 a22 a23 a24 a25 a26 a27 a28 a29 a30 a31 a32 a33 a34 a35 a36 a37 a38 a39 a40 a41 a42 a43 a44 a45 a46 a47 a48 a49 k
  obtain ⟨ih0, ih1⟩ := roadbookref07_Same.mono_l k
  unfold roadbookref07_Same.f
  repeat' first
      | (with_reducible exact ih0 _ _ _ _ _ _ _ _ _ _ _ _ _ _ _ _ _ _ _ _ _ _ _ _ _ _ _ _ _ _ _ _ _ _ _ _ _ _ _ _ _ _ _ _ _ _ _ _ _ _ _)
      | (with_reducible exact ih1 _ _ _ _ _ _ _ _ _ _ _ _ _ _ _ _ _ _ _ _ _ _ _ _ _ _ _ _ _ _ _ _ _ _ _ _ _ _ _ _ _ _ _ _ _ _ _ _ _ _ _)
      | (with_reducible exact roadbookref07_dests.mono _ _ _)
      | (with_reducible exact roadbookref07_subs.mono _ _ _)
      | (with_reducible exact LeO.refl _)
      | (with_reducible exact LeO.none _)
      | (with_reducible refine LeO.ite ?_ ?_)
      | (with_reducible refine LeO.bind ?_ (fun _ => ?_))
      | exact ih0 _ _ _ _ _ _ _ _ _ _ _ _ _ _ _ _ _ _ _ _ _ _ _ _ _ _ _ _ _ _ _ _ _ _ _ _ _ _ _ _ _ _ _ _ _ _ _ _ _ _ _
      | exact ih1 _ _ _ _ _ _ _ _ _ _ _ _ _ _ _ _ _ _ _ _ _ _ _ _ _ _ _ _ _ _ _ _ _ _ _ _ _ _ _ _ _ _ _ _ _ _ _ _ _ _ _
      | exact roadbookref07_dests.mono _ _ _
      | exact roadbookref07_subs.mono _ _ _
      | exact LeO.none _
      | refine LeO.ite ?_ ?_
      | refine LeO.bind ?_ (fun _ => ?_)
section
variable {ρ_ : Operand → Value} {x_ y_ : Operand} {w_ : World} {d_ : Option Tmp} {t_ t2_ : TypeId} {p_ : String} {g_ : Option (Nat × Bool)} {af_ : Array Edge} {gb_ f_ : Nat}
theorem roadbookref07_Same.fa0 (h : ρ_ x_ = .pointer (some ⟨gb_, 0, none⟩)) : (execOp ρ_ { dst := d_, op := .fieldAddr 25 x_ 0, type := t_, pos := p_, after := af_, guard := g_ }).run Try.prog w_ = .ok (.value (.pointer (some ⟨gb_, 0, none⟩))) w_ := by
  have hu_ := Try.underlying25
  simp only [execOp, h]
  go_simp
theorem roadbookref07_Same.fa1 (h : ρ_ x_ = .pointer (some ⟨gb_, 0, none⟩)) : (execOp ρ_ { dst := d_, op := .fieldAddr 25 x_ 1, type := t_, pos := p_, after := af_, guard := g_ }).run Try.prog w_ = .ok (.value (.pointer (some ⟨gb_, 1, none⟩))) w_ := by
  have hu_ := Try.underlying25
  simp only [execOp, h]
  go_simp
theorem roadbookref07_Same.fa2 (h : ρ_ x_ = .pointer (some ⟨gb_, 0, none⟩)) : (execOp ρ_ { dst := d_, op := .fieldAddr 25 x_ 2, type := t_, pos := p_, after := af_, guard := g_ }).run Try.prog w_ = .ok (.value (.pointer (some ⟨gb_, 2, none⟩))) w_ := by
  have hu_ := Try.underlying25
  simp only [execOp, h]
  go_simp
theorem roadbookref07_Same.fa3 (h : ρ_ x_ = .pointer (some ⟨gb_, 0, none⟩)) : (execOp ρ_ { dst := d_, op := .fieldAddr 25 x_ 3, type := t_, pos := p_, after := af_, guard := g_ }).run Try.prog w_ = .ok (.value (.pointer (some ⟨gb_, 3, none⟩))) w_ := by
  have hu_ := Try.underlying25
  simp only [execOp, h]
  go_simp
theorem roadbookref07_Same.fa4 (h : ρ_ x_ = .pointer (some ⟨gb_, 0, none⟩)) : (execOp ρ_ { dst := d_, op := .fieldAddr 25 x_ 4, type := t_, pos := p_, after := af_, guard := g_ }).run Try.prog w_ = .ok (.value (.pointer (some ⟨gb_, 4, none⟩))) w_ := by
  have hu_ := Try.underlying25
  simp only [execOp, h]
  go_simp
theorem roadbookref07_Same.fa5 (h : ρ_ x_ = .pointer (some ⟨gb_, 0, none⟩)) : (execOp ρ_ { dst := d_, op := .fieldAddr 25 x_ 5, type := t_, pos := p_, after := af_, guard := g_ }).run Try.prog w_ = .ok (.value (.pointer (some ⟨gb_, 5, none⟩))) w_ := by
  have hu_ := Try.underlying25
  simp only [execOp, h]
  go_simp
theorem roadbookref07_Same.fa6 (h : ρ_ x_ = .pointer (some ⟨gb_, 0, none⟩)) : (execOp ρ_ { dst := d_, op := .fieldAddr 25 x_ 6, type := t_, pos := p_, after := af_, guard := g_ }).run Try.prog w_ = .ok (.value (.pointer (some ⟨gb_, 6, none⟩))) w_ := by
  have hu_ := Try.underlying25
  simp only [execOp, h]
  go_simp
theorem roadbookref07_Same.fa7 (h : ρ_ x_ = .pointer (some ⟨gb_, 0, none⟩)) : (execOp ρ_ { dst := d_, op := .fieldAddr 25 x_ 7, type := t_, pos := p_, after := af_, guard := g_ }).run Try.prog w_ = .ok (.value (.pointer (some ⟨gb_, 7, none⟩))) w_ := by
  have hu_ := Try.underlying25
  simp only [execOp, h]
  go_simp
theorem roadbookref07_Same.fa8 (h : ρ_ x_ = .pointer (some ⟨gb_, 0, none⟩)) : (execOp ρ_ { dst := d_, op := .fieldAddr 25 x_ 8, type := t_, pos := p_, after := af_, guard := g_ }).run Try.prog w_ = .ok (.value (.pointer (some ⟨gb_, 8, none⟩))) w_ := by
  have hu_ := Try.underlying25
  simp only [execOp, h]
  go_simp
theorem roadbookref07_Same.fa9 (h : ρ_ x_ = .pointer (some ⟨gb_, 0, none⟩)) : (execOp ρ_ { dst := d_, op := .fieldAddr 25 x_ 9, type := t_, pos := p_, after := af_, guard := g_ }).run Try.prog w_ = .ok (.value (.pointer (some ⟨gb_, 9, none⟩))) w_ := by
  have hu_ := Try.underlying25
  simp only [execOp, h]
  go_simp
theorem roadbookref07_Same.fa10 (h : ρ_ x_ = .pointer (some ⟨gb_, 0, none⟩)) : (execOp ρ_ { dst := d_, op := .fieldAddr 25 x_ 10, type := t_, pos := p_, after := af_, guard := g_ }).run Try.prog w_ = .ok (.value (.pointer (some ⟨gb_, 10, none⟩))) w_ := by
  have hu_ := Try.underlying25
  simp only [execOp, h]
  go_simp
theorem roadbookref07_Same.fa11 (h : ρ_ x_ = .pointer (some ⟨gb_, 0, none⟩)) : (execOp ρ_ { dst := d_, op := .fieldAddr 25 x_ 11, type := t_, pos := p_, after := af_, guard := g_ }).run Try.prog w_ = .ok (.value (.pointer (some ⟨gb_, 11, none⟩))) w_ := by
  have hu_ := Try.underlying25
  simp only [execOp, h]
  go_simp
theorem roadbookref07_Same.fa12 (h : ρ_ x_ = .pointer (some ⟨gb_, 0, none⟩)) : (execOp ρ_ { dst := d_, op := .fieldAddr 25 x_ 12, type := t_, pos := p_, after := af_, guard := g_ }).run Try.prog w_ = .ok (.value (.pointer (some ⟨gb_, 12, none⟩))) w_ := by
  have hu_ := Try.underlying25
  simp only [execOp, h]
  go_simp
theorem roadbookref07_Same.fa13 (h : ρ_ x_ = .pointer (some ⟨gb_, 0, none⟩)) : (execOp ρ_ { dst := d_, op := .fieldAddr 25 x_ 13, type := t_, pos := p_, after := af_, guard := g_ }).run Try.prog w_ = .ok (.value (.pointer (some ⟨gb_, 13, none⟩))) w_ := by
  have hu_ := Try.underlying25
  simp only [execOp, h]
  go_simp
theorem roadbookref07_Same.fa14 (h : ρ_ x_ = .pointer (some ⟨gb_, 0, none⟩)) : (execOp ρ_ { dst := d_, op := .fieldAddr 25 x_ 14, type := t_, pos := p_, after := af_, guard := g_ }).run Try.prog w_ = .ok (.value (.pointer (some ⟨gb_, 14, none⟩))) w_ := by
  have hu_ := Try.underlying25
  simp only [execOp, h]
  go_simp
theorem roadbookref07_Same.fa15 (h : ρ_ x_ = .pointer (some ⟨gb_, 0, none⟩)) : (execOp ρ_ { dst := d_, op := .fieldAddr 25 x_ 15, type := t_, pos := p_, after := af_, guard := g_ }).run Try.prog w_ = .ok (.value (.pointer (some ⟨gb_, 15, none⟩))) w_ := by
  have hu_ := Try.underlying25
  simp only [execOp, h]
  go_simp
theorem roadbookref07_Same.fa16 (h : ρ_ x_ = .pointer (some ⟨gb_, 0, none⟩)) : (execOp ρ_ { dst := d_, op := .fieldAddr 25 x_ 16, type := t_, pos := p_, after := af_, guard := g_ }).run Try.prog w_ = .ok (.value (.pointer (some ⟨gb_, 16, none⟩))) w_ := by
  have hu_ := Try.underlying25
  simp only [execOp, h]
  go_simp
theorem roadbookref07_Same.fa17 (h : ρ_ x_ = .pointer (some ⟨gb_, 0, none⟩)) : (execOp ρ_ { dst := d_, op := .fieldAddr 25 x_ 17, type := t_, pos := p_, after := af_, guard := g_ }).run Try.prog w_ = .ok (.value (.pointer (some ⟨gb_, 17, none⟩))) w_ := by
  have hu_ := Try.underlying25
  simp only [execOp, h]
  go_simp
theorem roadbookref07_Same.fa18 (h : ρ_ x_ = .pointer (some ⟨gb_, 0, none⟩)) : (execOp ρ_ { dst := d_, op := .fieldAddr 25 x_ 18, type := t_, pos := p_, after := af_, guard := g_ }).run Try.prog w_ = .ok (.value (.pointer (some ⟨gb_, 18, none⟩))) w_ := by
  have hu_ := Try.underlying25
  simp only [execOp, h]
  go_simp
theorem roadbookref07_Same.fa19 (h : ρ_ x_ = .pointer (some ⟨gb_, 0, none⟩)) : (execOp ρ_ { dst := d_, op := .fieldAddr 25 x_ 19, type := t_, pos := p_, after := af_, guard := g_ }).run Try.prog w_ = .ok (.value (.pointer (some ⟨gb_, 19, none⟩))) w_ := by
  have hu_ := Try.underlying25
  simp only [execOp, h]
  go_simp
theorem roadbookref07_Same.fa20 (h : ρ_ x_ = .pointer (some ⟨gb_, 0, none⟩)) : (execOp ρ_ { dst := d_, op := .fieldAddr 25 x_ 20, type := t_, pos := p_, after := af_, guard := g_ }).run Try.prog w_ = .ok (.value (.pointer (some ⟨gb_, 20, none⟩))) w_ := by
  have hu_ := Try.underlying25
  simp only [execOp, h]
  go_simp
theorem roadbookref07_Same.fa22 (h : ρ_ x_ = .pointer (some ⟨gb_, 0, none⟩)) : (execOp ρ_ { dst := d_, op := .fieldAddr 25 x_ 22, type := t_, pos := p_, after := af_, guard := g_ }).run Try.prog w_ = .ok (.value (.pointer (some ⟨gb_, 22, none⟩))) w_ := by
  have hu_ := Try.underlying25
  simp only [execOp, h]
  go_simp
theorem roadbookref07_Same.fa23 (h : ρ_ x_ = .pointer (some ⟨gb_, 0, none⟩)) : (execOp ρ_ { dst := d_, op := .fieldAddr 25 x_ 23, type := t_, pos := p_, after := af_, guard := g_ }).run Try.prog w_ = .ok (.value (.pointer (some ⟨gb_, 23, none⟩))) w_ := by
  have hu_ := Try.underlying25
  simp only [execOp, h]
  go_simp
theorem roadbookref07_Same.ldi {v_ : Value} (h : ρ_ x_ = .pointer (some ⟨gb_, f_, none⟩)) (hc : w_.cell? ⟨gb_, f_, none⟩ = some v_) : (execOp ρ_ { dst := d_, op := .load 3 x_, type := t_, pos := p_, after := af_, guard := g_ }).run Try.prog w_ = .ok (.value v_) w_ := by
  simp only [execOp, h]
  go_simp
theorem roadbookref07_Same.lds {v_ : Value} (h : ρ_ x_ = .pointer (some ⟨gb_, f_, none⟩)) (hc : w_.cell? ⟨gb_, f_, none⟩ = some v_) : (execOp ρ_ { dst := d_, op := .load 9 x_, type := t_, pos := p_, after := af_, guard := g_ }).run Try.prog w_ = .ok (.value v_) w_ := by
  simp only [execOp, h]
  go_simp
theorem roadbookref07_Same.nei {m_ n_ : Int} (hx : ρ_ x_ = .int .i64 m_) (hy : ρ_ y_ = .int .i64 n_) : (execOp ρ_ { dst := d_, op := .binOp .neq 3 x_ y_ t2_, type := t_, pos := p_, after := af_, guard := g_ }).run Try.prog w_ = .ok (.value (.bool (m_ != n_))) w_ := by
  simp only [execOp, hx, hy]
  go_simp
theorem roadbookref07_Same.nes {m_ n_ : ByteArray} (hx : ρ_ x_ = .string m_) (hy : ρ_ y_ = .string n_) : (execOp ρ_ { dst := d_, op := .binOp .neq 9 x_ y_ t2_, type := t_, pos := p_, after := af_, guard := g_ }).run Try.prog w_ = .ok (.value (.bool (m_.toList != n_.toList))) w_ := by
  simp only [execOp, hx, hy]
  go_simp
  simp only [bne, Bool.not_not]
end
set_option maxHeartbeats 8000000 in
set_option maxRecDepth 100000 in
theorem roadbookref07_Same.calls (k : Nat) (a0_0 : Int) (a0_1 : Int) (a0_2 : Int) (a0_3 : ByteArray) (a0_4 : Int) (a0_5 : Int) (a0_6 : ByteArray) (a0_7 : Int) (a0_8 : Int) (a0_9 : ByteArray) (a0_10 : Int) (a0_11 : ByteArray) (a0_12 : Int) (a0_13 : Int) (a0_14 : Int) (a0_15 : Int) (a0_16 : Int) (a0_17 : Int) (a0_18 : Int) (a0_19 : ByteArray) (a0_20 : ByteArray) (A0_21 : Option Addr) (c0_21 : Nat) (l0_21 : List (S46)) (a0_22 : Int) (a0_23 : ByteArray) (A0_24 : Option Addr) (c0_24 : Nat) (l0_24 : List (S48)) (a1_0 : Int) (a1_1 : Int) (a1_2 : Int) (a1_3 : ByteArray) (a1_4 : Int) (a1_5 : Int) (a1_6 : ByteArray) (a1_7 : Int) (a1_8 : Int) (a1_9 : ByteArray) (a1_10 : Int) (a1_11 : ByteArray) (a1_12 : Int) (a1_13 : Int) (a1_14 : Int) (a1_15 : Int) (a1_16 : Int) (a1_17 : Int) (a1_18 : Int) (a1_19 : ByteArray) (a1_20 : ByteArray) (A1_21 : Option Addr) (c1_21 : Nat) (l1_21 : List (S46)) (a1_22 : Int) (a1_23 : ByteArray) (A1_24 : Option Addr) (c1_24 : Nat) (l1_24 : List (S48)) (r : Bool) (w : World) (hr0_21 : Kd.C k46 w A0_21 l0_21.length l0_21) (hc0_21 : l0_21.length ≤ c0_21) (hr0_24 : Kd.C k48 w A0_24 l0_24.length l0_24) (hc0_24 : l0_24.length ≤ c0_24) (hr1_21 : Kd.C k46 w A1_21 l1_21.length l1_21) (hc1_21 : l1_21.length ≤ c1_21) (hr1_24 : Kd.C k48 w A1_24 l1_24.length l1_24) (hc1_24 : l1_24.length ≤ c1_24) (h : roadbookref07_Same.f k a0_0 a0_1 a0_2 a0_3 a0_4 a0_5 a0_6 a0_7 a0_8 a0_9 a0_10 a0_11 a0_12 a0_13 a0_14 a0_15 a0_16 a0_17 a0_18 a0_19 a0_20 l0_21 a0_22 a0_23 l0_24 a1_0 a1_1 a1_2 a1_3 a1_4 a1_5 a1_6 a1_7 a1_8 a1_9 a1_10 a1_11 a1_12 a1_13 a1_14 a1_15 a1_16 a1_17 a1_18 a1_19 a1_20 l1_21 a1_22 a1_23 l1_24 = some r) :
    Calls Try.prog 24 #[.agg #[.int .i64 a0_0, .int .i64 a0_1, .int .i64 a0_2, .string a0_3, .int .i64 a0_4, .int .i64 a0_5, .string a0_6, .int .i64 a0_7, .int .i64 a0_8, .string a0_9, .int .i64 a0_10, .string a0_11, .int .i64 a0_12, .int .i64 a0_13, .int .i64 a0_14, .int .i64 a0_15, .int .i64 a0_16, .int .i64 a0_17, .int .i64 a0_18, .string a0_19, .string a0_20, .slice A0_21 l0_21.length c0_21, .int .i64 a0_22, .string a0_23, .slice A0_24 l0_24.length c0_24], .agg #[.int .i64 a1_0, .int .i64 a1_1, .int .i64 a1_2, .string a1_3, .int .i64 a1_4, .int .i64 a1_5, .string a1_6, .int .i64 a1_7, .int .i64 a1_8, .string a1_9, .int .i64 a1_10, .string a1_11, .int .i64 a1_12, .int .i64 a1_13, .int .i64 a1_14, .int .i64 a1_15, .int .i64 a1_16, .int .i64 a1_17, .int .i64 a1_18, .string a1_19, .string a1_20, .slice A1_21 l1_21.length c1_21, .int .i64 a1_22, .string a1_23, .slice A1_24 l1_24.length c1_24]] w fun e w' => e = .returned (.bool r) ∧ Below w.heap.size w w' := by
  have hu25 := Try.underlying25
  have HR0_21 := Aside0.mk hr0_21
  have HC0_21 := Aside0.mk hc0_21
  clear hr0_21 hc0_21
  have HR0_24 := Aside0.mk hr0_24
  have HC0_24 := Aside0.mk hc0_24
  clear hr0_24 hc0_24
  have HR1_21 := Aside0.mk hr1_21
  have HC1_21 := Aside0.mk hc1_21
  clear hr1_21 hc1_21
  have HR1_24 := Aside0.mk hr1_24
  have HC1_24 := Aside0.mk hc1_24
  clear hr1_24 hc1_24
  have HB := Aside0.mk (Below.refl w.heap.size w)
  have H : (if a0_0 = a1_0 then (if a0_1 = a1_1 then (if a0_2 = a1_2 then (if a0_3.toList = a1_3.toList then (if a0_4 = a1_4 then (if a0_5 = a1_5 then (if a0_6.toList = a1_6.toList then (if a0_7 = a1_7 then (if a0_8 = a1_8 then (if a0_9.toList = a1_9.toList then (roadbookref07_Same.j0 k (a0_10 != a1_10) a0_0 a0_1 a0_2 a0_3 a0_4 a0_5 a0_6 a0_7 a0_8 a0_9 a0_10 a0_11 a0_12 a0_13 a0_14 a0_15 a0_16 a0_17 a0_18 a0_19 a0_20 l0_21 a0_22 a0_23 l0_24 a1_0 a1_1 a1_2 a1_3 a1_4 a1_5 a1_6 a1_7 a1_8 a1_9 a1_10 a1_11 a1_12 a1_13 a1_14 a1_15 a1_16 a1_17 a1_18 a1_19 a1_20 l1_21 a1_22 a1_23 l1_24) else (roadbookref07_Same.j0 k true a0_0 a0_1 a0_2 a0_3 a0_4 a0_5 a0_6 a0_7 a0_8 a0_9 a0_10 a0_11 a0_12 a0_13 a0_14 a0_15 a0_16 a0_17 a0_18 a0_19 a0_20 l0_21 a0_22 a0_23 l0_24 a1_0 a1_1 a1_2 a1_3 a1_4 a1_5 a1_6 a1_7 a1_8 a1_9 a1_10 a1_11 a1_12 a1_13 a1_14 a1_15 a1_16 a1_17 a1_18 a1_19 a1_20 l1_21 a1_22 a1_23 l1_24)) else (roadbookref07_Same.j0 k true a0_0 a0_1 a0_2 a0_3 a0_4 a0_5 a0_6 a0_7 a0_8 a0_9 a0_10 a0_11 a0_12 a0_13 a0_14 a0_15 a0_16 a0_17 a0_18 a0_19 a0_20 l0_21 a0_22 a0_23 l0_24 a1_0 a1_1 a1_2 a1_3 a1_4 a1_5 a1_6 a1_7 a1_8 a1_9 a1_10 a1_11 a1_12 a1_13 a1_14 a1_15 a1_16 a1_17 a1_18 a1_19 a1_20 l1_21 a1_22 a1_23 l1_24)) else (roadbookref07_Same.j0 k true a0_0 a0_1 a0_2 a0_3 a0_4 a0_5 a0_6 a0_7 a0_8 a0_9 a0_10 a0_11 a0_12 a0_13 a0_14 a0_15 a0_16 a0_17 a0_18 a0_19 a0_20 l0_21 a0_22 a0_23 l0_24 a1_0 a1_1 a1_2 a1_3 a1_4 a1_5 a1_6 a1_7 a1_8 a1_9 a1_10 a1_11 a1_12 a1_13 a1_14 a1_15 a1_16 a1_17 a1_18 a1_19 a1_20 l1_21 a1_22 a1_23 l1_24)) else (roadbookref07_Same.j0 k true a0_0 a0_1 a0_2 a0_3 a0_4 a0_5 a0_6 a0_7 a0_8 a0_9 a0_10 a0_11 a0_12 a0_13 a0_14 a0_15 a0_16 a0_17 a0_18 a0_19 a0_20 l0_21 a0_22 a0_23 l0_24 a1_0 a1_1 a1_2 a1_3 a1_4 a1_5 a1_6 a1_7 a1_8 a1_9 a1_10 a1_11 a1_12 a1_13 a1_14 a1_15 a1_16 a1_17 a1_18 a1_19 a1_20 l1_21 a1_22 a1_23 l1_24)) else (roadbookref07_Same.j0 k true a0_0 a0_1 a0_2 a0_3 a0_4 a0_5 a0_6 a0_7 a0_8 a0_9 a0_10 a0_11 a0_12 a0_13 a0_14 a0_15 a0_16 a0_17 a0_18 a0_19 a0_20 l0_21 a0_22 a0_23 l0_24 a1_0 a1_1 a1_2 a1_3 a1_4 a1_5 a1_6 a1_7 a1_8 a1_9 a1_10 a1_11 a1_12 a1_13 a1_14 a1_15 a1_16 a1_17 a1_18 a1_19 a1_20 l1_21 a1_22 a1_23 l1_24)) else (roadbookref07_Same.j0 k true a0_0 a0_1 a0_2 a0_3 a0_4 a0_5 a0_6 a0_7 a0_8 a0_9 a0_10 a0_11 a0_12 a0_13 a0_14 a0_15 a0_16 a0_17 a0_18 a0_19 a0_20 l0_21 a0_22 a0_23 l0_24 a1_0 a1_1 a1_2 a1_3 a1_4 a1_5 a1_6 a1_7 a1_8 a1_9 a1_10 a1_11 a1_12 a1_13 a1_14 a1_15 a1_16 a1_17 a1_18 a1_19 a1_20 l1_21 a1_22 a1_23 l1_24)) else (roadbookref07_Same.j0 k true a0_0 a0_1 a0_2 a0_3 a0_4 a0_5 a0_6 a0_7 a0_8 a0_9 a0_10 a0_11 a0_12 a0_13 a0_14 a0_15 a0_16 a0_17 a0_18 a0_19 a0_20 l0_21 a0_22 a0_23 l0_24 a1_0 a1_1 a1_2 a1_3 a1_4 a1_5 a1_6 a1_7 a1_8 a1_9 a1_10 a1_11 a1_12 a1_13 a1_14 a1_15 a1_16 a1_17 a1_18 a1_19 a1_20 l1_21 a1_22 a1_23 l1_24)) else (roadbookref07_Same.j0 k true a0_0 a0_1 a0_2 a0_3 a0_4 a0_5 a0_6 a0_7 a0_8 a0_9 a0_10 a0_11 a0_12 a0_13 a0_14 a0_15 a0_16 a0_17 a0_18 a0_19 a0_20 l0_21 a0_22 a0_23 l0_24 a1_0 a1_1 a1_2 a1_3 a1_4 a1_5 a1_6 a1_7 a1_8 a1_9 a1_10 a1_11 a1_12 a1_13 a1_14 a1_15 a1_16 a1_17 a1_18 a1_19 a1_20 l1_21 a1_22 a1_23 l1_24)) else (roadbookref07_Same.j0 k true a0_0 a0_1 a0_2 a0_3 a0_4 a0_5 a0_6 a0_7 a0_8 a0_9 a0_10 a0_11 a0_12 a0_13 a0_14 a0_15 a0_16 a0_17 a0_18 a0_19 a0_20 l0_21 a0_22 a0_23 l0_24 a1_0 a1_1 a1_2 a1_3 a1_4 a1_5 a1_6 a1_7 a1_8 a1_9 a1_10 a1_11 a1_12 a1_13 a1_14 a1_15 a1_16 a1_17 a1_18 a1_19 a1_20 l1_21 a1_22 a1_23 l1_24)) else (roadbookref07_Same.j0 k true a0_0 a0_1 a0_2 a0_3 a0_4 a0_5 a0_6 a0_7 a0_8 a0_9 a0_10 a0_11 a0_12 a0_13 a0_14 a0_15 a0_16 a0_17 a0_18 a0_19 a0_20 l0_21 a0_22 a0_23 l0_24 a1_0 a1_1 a1_2 a1_3 a1_4 a1_5 a1_6 a1_7 a1_8 a1_9 a1_10 a1_11 a1_12 a1_13 a1_14 a1_15 a1_16 a1_17 a1_18 a1_19 a1_20 l1_21 a1_22 a1_23 l1_24)) = some r := h
  clear h
  have HC3 := Aside0.mk H
  clear H
  go_enter Try.func24, Try.ntmps24
  go_upto_region 1 with (first | ((with_reducible refine gate_dst (N := 2) rfl ?_); refine box_event ?hg (N := 2) ?hd (cs := #[.int .i64 a0_0, .int .i64 a0_1, .int .i64 a0_2, .string a0_3, .int .i64 a0_4, .int .i64 a0_5, .string a0_6, .int .i64 a0_7, .int .i64 a0_8, .string a0_9, .int .i64 a0_10, .string a0_11, .int .i64 a0_12, .int .i64 a0_13, .int .i64 a0_14, .int .i64 a0_15, .int .i64 a0_16, .int .i64 a0_17, .int .i64 a0_18, .string a0_19, .string a0_20, .slice A0_21 l0_21.length c0_21, .int .i64 a0_22, .string a0_23, .slice A0_24 l0_24.length c0_24]) (t := 25) ?hr ?_; (case hd => rfl); (case hg => rfl); (case hr => first | (go_simp; done) | (go_simp; rfl)); intro gb101 hg w4 hbox hb; have n0_ := Aside0.mk (below_step (by repeat (first | (with_reducible first | exact HB.out | apply below_alloc | apply pw_below_drewN | apply below_drew1) | exact HB.out)) hb); have n1_ := Aside0.mk (hbox); have n2_ := Aside0.mk ((by rw [hg]; exact (below_size (by repeat (first | (with_reducible first | exact HB.out | apply below_alloc | apply pw_below_drewN | apply below_drew1) | exact HB.out))) : w.heap.size ≤ gb101)); have n3_ := Aside0.mk ((by rw [hg]; exact (below_size (by repeat (first | (with_reducible first | exact HB.out | apply below_alloc | apply pw_below_drewN | apply below_drew1) | exact HB.out))) : w.heap.size ≤ gb101)); clear HB; have HB := n0_; have BK101 := n1_; have GW101 := n2_; have GE101 := n3_; clear n0_ n1_ n2_ n3_; clear hb hbox hg) | ((with_reducible refine gate_dst (N := 3) rfl ?_); refine box_event ?hg (N := 3) ?hd (cs := #[.int .i64 a1_0, .int .i64 a1_1, .int .i64 a1_2, .string a1_3, .int .i64 a1_4, .int .i64 a1_5, .string a1_6, .int .i64 a1_7, .int .i64 a1_8, .string a1_9, .int .i64 a1_10, .string a1_11, .int .i64 a1_12, .int .i64 a1_13, .int .i64 a1_14, .int .i64 a1_15, .int .i64 a1_16, .int .i64 a1_17, .int .i64 a1_18, .string a1_19, .string a1_20, .slice A1_21 l1_21.length c1_21, .int .i64 a1_22, .string a1_23, .slice A1_24 l1_24.length c1_24]) (t := 25) ?hr ?_; (case hd => rfl); (case hg => rfl); (case hr => first | (go_simp; done) | (go_simp; rfl)); intro gb102 hg w5 hbox hb; have n0_ := Aside0.mk (blk_below (g := gb101) (by (with_reducible repeat (first | refine blk_drewN ?_ _ | refine blk_drew ?_ | refine blk_alloc ?_ _)); exact BK101.out) hb); have n1_ := Aside0.mk (below_step (by repeat (first | (with_reducible first | exact HB.out | apply below_alloc | apply pw_below_drewN | apply below_drew1 | refine below_set ?_ GE101.out) | exact HB.out)) hb); have n2_ := Aside0.mk (hbox); have n3_ := Aside0.mk ((by rw [hg]; exact (below_size (by repeat (first | (with_reducible first | exact HB.out | apply below_alloc | apply pw_below_drewN | apply below_drew1 | refine below_set ?_ GE101.out) | exact HB.out))) : w.heap.size ≤ gb102)); have n4_ := Aside0.mk ((by rw [hg]; exact (below_size (by repeat (first | (with_reducible first | exact HB.out | apply below_alloc | apply pw_below_drewN | apply below_drew1 | refine below_set ?_ GE101.out) | exact HB.out))) : w.heap.size ≤ gb102)); have n5_ := Aside0.mk ((by rw [hg]; exact Nat.ne_of_lt (blk_lt (g := gb101) (by (with_reducible repeat (first | refine blk_drewN ?_ _ | refine blk_drew ?_ | refine blk_alloc ?_ _)); exact BK101.out)) : gb101 ≠ gb102)); have n6_ := Aside0.mk ((by rw [hg]; exact Nat.ne_of_gt (blk_lt (g := gb101) (by (with_reducible repeat (first | refine blk_drewN ?_ _ | refine blk_drew ?_ | refine blk_alloc ?_ _)); exact BK101.out)) : gb102 ≠ gb101)); clear BK101; clear HB; have BK101 := n0_; have HB := n1_; have BK102 := n2_; have GW102 := n3_; have GE102 := n4_; have NB101_102 := n5_; have NB102_101 := n6_; clear n0_ n1_ n2_ n3_ n4_ n5_ n6_; clear hb hbox hg))
  (try simp only [Act.put, List.setIfInBounds_toArray, List.set_cons_zero, List.set_cons_succ])
  go_cut [79] (fun v79 wc => ∃ (kq : Nat) (x79_2 : Bool), v79 = .bool x79_2 ∧ Aside0 (roadbookref07_Same.j0 kq x79_2 a0_0 a0_1 a0_2 a0_3 a0_4 a0_5 a0_6 a0_7 a0_8 a0_9 a0_10 a0_11 a0_12 a0_13 a0_14 a0_15 a0_16 a0_17 a0_18 a0_19 a0_20 l0_21 a0_22 a0_23 l0_24 a1_0 a1_1 a1_2 a1_3 a1_4 a1_5 a1_6 a1_7 a1_8 a1_9 a1_10 a1_11 a1_12 a1_13 a1_14 a1_15 a1_16 a1_17 a1_18 a1_19 a1_20 l1_21 a1_22 a1_23 l1_24 = some r) ∧ Aside0 (kq ≤ k) ∧ Aside0 (wc.heap[gb101]? = some (.cells #[.int .i64 a0_0, .int .i64 a0_1, .int .i64 a0_2, .string a0_3, .int .i64 a0_4, .int .i64 a0_5, .string a0_6, .int .i64 a0_7, .int .i64 a0_8, .string a0_9, .int .i64 a0_10, .string a0_11, .int .i64 a0_12, .int .i64 a0_13, .int .i64 a0_14, .int .i64 a0_15, .int .i64 a0_16, .int .i64 a0_17, .int .i64 a0_18, .string a0_19, .string a0_20, (.slice A0_21 l0_21.length c0_21), .int .i64 a0_22, .string a0_23, (.slice A0_24 l0_24.length c0_24)] 25 (0, 0))) ∧ Aside0 (wc.heap[gb102]? = some (.cells #[.int .i64 a1_0, .int .i64 a1_1, .int .i64 a1_2, .string a1_3, .int .i64 a1_4, .int .i64 a1_5, .string a1_6, .int .i64 a1_7, .int .i64 a1_8, .string a1_9, .int .i64 a1_10, .string a1_11, .int .i64 a1_12, .int .i64 a1_13, .int .i64 a1_14, .int .i64 a1_15, .int .i64 a1_16, .int .i64 a1_17, .int .i64 a1_18, .string a1_19, .string a1_20, (.slice A1_21 l1_21.length c1_21), .int .i64 a1_22, .string a1_23, (.slice A1_24 l1_24.length c1_24)] 25 (0, 0))) ∧ Aside0 (Below w.heap.size w wc))
  case first =>
    rename_i J_ K_ hJ_ hK_
    have HJ_ : roadbookref07_Same.j0 k (((((((((((a0_0 != a1_0) || (a0_1 != a1_1)) || (a0_2 != a1_2)) || (a0_3.toList != a1_3.toList)) || (a0_4 != a1_4)) || (a0_5 != a1_5)) || (a0_6.toList != a1_6.toList)) || (a0_7 != a1_7)) || (a0_8 != a1_8)) || (a0_9.toList != a1_9.toList)) || (a0_10 != a1_10)) a0_0 a0_1 a0_2 a0_3 a0_4 a0_5 a0_6 a0_7 a0_8 a0_9 a0_10 a0_11 a0_12 a0_13 a0_14 a0_15 a0_16 a0_17 a0_18 a0_19 a0_20 l0_21 a0_22 a0_23 l0_24 a1_0 a1_1 a1_2 a1_3 a1_4 a1_5 a1_6 a1_7 a1_8 a1_9 a1_10 a1_11 a1_12 a1_13 a1_14 a1_15 a1_16 a1_17 a1_18 a1_19 a1_20 l1_21 a1_22 a1_23 l1_24 = some r := by
      have H := HC3.out
      by_cases q0 : a0_0 = a1_0
      · rw [if_pos q0] at H
        have d0 : (a0_0 != a1_0) = false := bne_eq_false_iff_eq.mpr q0
        by_cases q1 : a0_1 = a1_1
        · rw [if_pos q1] at H
          have d1 : (a0_1 != a1_1) = false := bne_eq_false_iff_eq.mpr q1
          by_cases q2 : a0_2 = a1_2
          · rw [if_pos q2] at H
            have d2 : (a0_2 != a1_2) = false := bne_eq_false_iff_eq.mpr q2
            by_cases q3 : a0_3.toList = a1_3.toList
            · rw [if_pos q3] at H
              have d3 : (a0_3.toList != a1_3.toList) = false := bne_eq_false_iff_eq.mpr q3
              by_cases q4 : a0_4 = a1_4
              · rw [if_pos q4] at H
                have d4 : (a0_4 != a1_4) = false := bne_eq_false_iff_eq.mpr q4
                by_cases q5 : a0_5 = a1_5
                · rw [if_pos q5] at H
                  have d5 : (a0_5 != a1_5) = false := bne_eq_false_iff_eq.mpr q5
                  by_cases q6 : a0_6.toList = a1_6.toList
                  · rw [if_pos q6] at H
                    have d6 : (a0_6.toList != a1_6.toList) = false := bne_eq_false_iff_eq.mpr q6
                    by_cases q7 : a0_7 = a1_7
                    · rw [if_pos q7] at H
                      have d7 : (a0_7 != a1_7) = false := bne_eq_false_iff_eq.mpr q7
                      by_cases q8 : a0_8 = a1_8
                      · rw [if_pos q8] at H
                        have d8 : (a0_8 != a1_8) = false := bne_eq_false_iff_eq.mpr q8
                        by_cases q9 : a0_9.toList = a1_9.toList
                        · rw [if_pos q9] at H
                          have d9 : (a0_9.toList != a1_9.toList) = false := bne_eq_false_iff_eq.mpr q9
                          rw [d0, d1, d2, d3, d4, d5, d6, d7, d8, d9]; simp only [Bool.false_or]; exact H
                        · rw [if_neg q9] at H
                          have d9 : (a0_9.toList != a1_9.toList) = true := bne_iff_ne.mpr q9
                          rw [d0, d1, d2, d3, d4, d5, d6, d7, d8, d9]; simp only [Bool.false_or, Bool.true_or, Bool.or_true]; exact H
                      · rw [if_neg q8] at H
                        have d8 : (a0_8 != a1_8) = true := bne_iff_ne.mpr q8
                        rw [d0, d1, d2, d3, d4, d5, d6, d7, d8]; simp only [Bool.false_or, Bool.true_or, Bool.or_true]; exact H
                    · rw [if_neg q7] at H
                      have d7 : (a0_7 != a1_7) = true := bne_iff_ne.mpr q7
                      rw [d0, d1, d2, d3, d4, d5, d6, d7]; simp only [Bool.false_or, Bool.true_or, Bool.or_true]; exact H
                  · rw [if_neg q6] at H
                    have d6 : (a0_6.toList != a1_6.toList) = true := bne_iff_ne.mpr q6
                    rw [d0, d1, d2, d3, d4, d5, d6]; simp only [Bool.false_or, Bool.true_or, Bool.or_true]; exact H
                · rw [if_neg q5] at H
                  have d5 : (a0_5 != a1_5) = true := bne_iff_ne.mpr q5
                  rw [d0, d1, d2, d3, d4, d5]; simp only [Bool.false_or, Bool.true_or, Bool.or_true]; exact H
              · rw [if_neg q4] at H
                have d4 : (a0_4 != a1_4) = true := bne_iff_ne.mpr q4
                rw [d0, d1, d2, d3, d4]; simp only [Bool.false_or, Bool.true_or, Bool.or_true]; exact H
            · rw [if_neg q3] at H
              have d3 : (a0_3.toList != a1_3.toList) = true := bne_iff_ne.mpr q3
              rw [d0, d1, d2, d3]; simp only [Bool.false_or, Bool.true_or, Bool.or_true]; exact H
          · rw [if_neg q2] at H
            have d2 : (a0_2 != a1_2) = true := bne_iff_ne.mpr q2
            rw [d0, d1, d2]; simp only [Bool.false_or, Bool.true_or, Bool.or_true]; exact H
        · rw [if_neg q1] at H
          have d1 : (a0_1 != a1_1) = true := bne_iff_ne.mpr q1
          rw [d0, d1]; simp only [Bool.false_or, Bool.true_or, Bool.or_true]; exact H
      · rw [if_neg q0] at H
        have d0 : (a0_0 != a1_0) = true := bne_iff_ne.mpr q0
        rw [d0]; simp only [Bool.false_or, Bool.true_or, Bool.or_true]; exact H
    obtain ⟨hp0, hp1, hp2, hp3, hp4, hp5, hp6, hp7, hp8, hp9, hp10, -, -, -, -, -, -, -, -, -, -, -, -, -, -, -, -, -, -, -, -, -, -, -, -, -, -, -, -, -, -, -, -, -, -, -, -, -, -, -⟩ := cells_25 BK101.out
    obtain ⟨hq0, hq1, hq2, hq3, hq4, hq5, hq6, hq7, hq8, hq9, hq10, -, -, -, -, -, -, -, -, -, -, -, -, -, -, -, -, -, -, -, -, -, -, -, -, -, -, -, -, -, -, -, -, -, -, -, -, -, -, -⟩ := cells_25 BK102.out
    refine wp_region_lit ?_
    refine Go.Proofs.Ytccjakjjaemmkaa.Pre.row_first (p := 2) (q := 3) (n := 5) (N := 174) (lo := 5) (A1 := .pointer (some ⟨gb101, 0, none⟩)) (A2 := .pointer (some ⟨gb102, 0, none⟩)) (B1 := .pointer (some ⟨gb101, 0, none⟩)) (B2 := .pointer (some ⟨gb102, 0, none⟩)) (X1 := .int .i64 a0_0) (X2 := .int .i64 a1_0) (e := a0_0 != a1_0) rfl rfl (by decide) rfl rfl (by decide) (by decide) (by decide) (fun _ _ _ _ _ _ h_ => roadbookref07_Same.fa0 h_) (fun _ _ _ _ _ _ h_ => roadbookref07_Same.fa0 h_) (fun _ _ _ _ _ _ h_ => roadbookref07_Same.ldi h_ hp0) (fun _ _ _ _ _ _ h_ => roadbookref07_Same.ldi h_ hq0) (fun _ _ _ _ _ _ _ _ h_ h2_ => roadbookref07_Same.nei h_ h2_) ?_
    intro a0_ hst_
    refine Go.Proofs.Ytccjakjjaemmkaa.Pre.row_next (n := 11) (A1 := .pointer (some ⟨gb101, 0, none⟩)) (A2 := .pointer (some ⟨gb102, 0, none⟩)) (B1 := .pointer (some ⟨gb101, 1, none⟩)) (B2 := .pointer (some ⟨gb102, 1, none⟩)) (X1 := .int .i64 a0_1) (X2 := .int .i64 a1_1) (e := a0_1 != a1_1) rfl hst_ (by decide) (by decide) (by decide) (by decide) (by decide) (fun _ _ _ _ _ _ h_ => roadbookref07_Same.fa1 h_) (fun _ _ _ _ _ _ h_ => roadbookref07_Same.fa1 h_) (fun _ _ _ _ _ _ h_ => roadbookref07_Same.ldi h_ hp1) (fun _ _ _ _ _ _ h_ => roadbookref07_Same.ldi h_ hq1) (fun _ _ _ _ _ _ _ _ h_ h2_ => roadbookref07_Same.nei h_ h2_) ?_
    intro a1_ hst_
    refine Go.Proofs.Ytccjakjjaemmkaa.Pre.row_next (n := 18) (A1 := .pointer (some ⟨gb101, 0, none⟩)) (A2 := .pointer (some ⟨gb102, 0, none⟩)) (B1 := .pointer (some ⟨gb101, 2, none⟩)) (B2 := .pointer (some ⟨gb102, 2, none⟩)) (X1 := .int .i64 a0_2) (X2 := .int .i64 a1_2) (e := a0_2 != a1_2) rfl hst_ (by decide) (by decide) (by decide) (by decide) (by decide) (fun _ _ _ _ _ _ h_ => roadbookref07_Same.fa2 h_) (fun _ _ _ _ _ _ h_ => roadbookref07_Same.fa2 h_) (fun _ _ _ _ _ _ h_ => roadbookref07_Same.ldi h_ hp2) (fun _ _ _ _ _ _ h_ => roadbookref07_Same.ldi h_ hq2) (fun _ _ _ _ _ _ _ _ h_ h2_ => roadbookref07_Same.nei h_ h2_) ?_
    intro a2_ hst_
    refine Go.Proofs.Ytccjakjjaemmkaa.Pre.row_next (n := 25) (A1 := .pointer (some ⟨gb101, 0, none⟩)) (A2 := .pointer (some ⟨gb102, 0, none⟩)) (B1 := .pointer (some ⟨gb101, 3, none⟩)) (B2 := .pointer (some ⟨gb102, 3, none⟩)) (X1 := .string a0_3) (X2 := .string a1_3) (e := a0_3.toList != a1_3.toList) rfl hst_ (by decide) (by decide) (by decide) (by decide) (by decide) (fun _ _ _ _ _ _ h_ => roadbookref07_Same.fa3 h_) (fun _ _ _ _ _ _ h_ => roadbookref07_Same.fa3 h_) (fun _ _ _ _ _ _ h_ => roadbookref07_Same.lds h_ hp3) (fun _ _ _ _ _ _ h_ => roadbookref07_Same.lds h_ hq3) (fun _ _ _ _ _ _ _ _ h_ h2_ => roadbookref07_Same.nes h_ h2_) ?_
    intro a3_ hst_
    refine Go.Proofs.Ytccjakjjaemmkaa.Pre.row_next (n := 32) (A1 := .pointer (some ⟨gb101, 0, none⟩)) (A2 := .pointer (some ⟨gb102, 0, none⟩)) (B1 := .pointer (some ⟨gb101, 4, none⟩)) (B2 := .pointer (some ⟨gb102, 4, none⟩)) (X1 := .int .i64 a0_4) (X2 := .int .i64 a1_4) (e := a0_4 != a1_4) rfl hst_ (by decide) (by decide) (by decide) (by decide) (by decide) (fun _ _ _ _ _ _ h_ => roadbookref07_Same.fa4 h_) (fun _ _ _ _ _ _ h_ => roadbookref07_Same.fa4 h_) (fun _ _ _ _ _ _ h_ => roadbookref07_Same.ldi h_ hp4) (fun _ _ _ _ _ _ h_ => roadbookref07_Same.ldi h_ hq4) (fun _ _ _ _ _ _ _ _ h_ h2_ => roadbookref07_Same.nei h_ h2_) ?_
    intro a4_ hst_
    refine Go.Proofs.Ytccjakjjaemmkaa.Pre.row_next (n := 39) (A1 := .pointer (some ⟨gb101, 0, none⟩)) (A2 := .pointer (some ⟨gb102, 0, none⟩)) (B1 := .pointer (some ⟨gb101, 5, none⟩)) (B2 := .pointer (some ⟨gb102, 5, none⟩)) (X1 := .int .i64 a0_5) (X2 := .int .i64 a1_5) (e := a0_5 != a1_5) rfl hst_ (by decide) (by decide) (by decide) (by decide) (by decide) (fun _ _ _ _ _ _ h_ => roadbookref07_Same.fa5 h_) (fun _ _ _ _ _ _ h_ => roadbookref07_Same.fa5 h_) (fun _ _ _ _ _ _ h_ => roadbookref07_Same.ldi h_ hp5) (fun _ _ _ _ _ _ h_ => roadbookref07_Same.ldi h_ hq5) (fun _ _ _ _ _ _ _ _ h_ h2_ => roadbookref07_Same.nei h_ h2_) ?_
    intro a5_ hst_
    refine Go.Proofs.Ytccjakjjaemmkaa.Pre.row_next (n := 46) (A1 := .pointer (some ⟨gb101, 0, none⟩)) (A2 := .pointer (some ⟨gb102, 0, none⟩)) (B1 := .pointer (some ⟨gb101, 6, none⟩)) (B2 := .pointer (some ⟨gb102, 6, none⟩)) (X1 := .string a0_6) (X2 := .string a1_6) (e := a0_6.toList != a1_6.toList) rfl hst_ (by decide) (by decide) (by decide) (by decide) (by decide) (fun _ _ _ _ _ _ h_ => roadbookref07_Same.fa6 h_) (fun _ _ _ _ _ _ h_ => roadbookref07_Same.fa6 h_) (fun _ _ _ _ _ _ h_ => roadbookref07_Same.lds h_ hp6) (fun _ _ _ _ _ _ h_ => roadbookref07_Same.lds h_ hq6) (fun _ _ _ _ _ _ _ _ h_ h2_ => roadbookref07_Same.nes h_ h2_) ?_
    intro a6_ hst_
    refine Go.Proofs.Ytccjakjjaemmkaa.Pre.row_next (n := 53) (A1 := .pointer (some ⟨gb101, 0, none⟩)) (A2 := .pointer (some ⟨gb102, 0, none⟩)) (B1 := .pointer (some ⟨gb101, 7, none⟩)) (B2 := .pointer (some ⟨gb102, 7, none⟩)) (X1 := .int .i64 a0_7) (X2 := .int .i64 a1_7) (e := a0_7 != a1_7) rfl hst_ (by decide) (by decide) (by decide) (by decide) (by decide) (fun _ _ _ _ _ _ h_ => roadbookref07_Same.fa7 h_) (fun _ _ _ _ _ _ h_ => roadbookref07_Same.fa7 h_) (fun _ _ _ _ _ _ h_ => roadbookref07_Same.ldi h_ hp7) (fun _ _ _ _ _ _ h_ => roadbookref07_Same.ldi h_ hq7) (fun _ _ _ _ _ _ _ _ h_ h2_ => roadbookref07_Same.nei h_ h2_) ?_
    intro a7_ hst_
    refine Go.Proofs.Ytccjakjjaemmkaa.Pre.row_next (n := 60) (A1 := .pointer (some ⟨gb101, 0, none⟩)) (A2 := .pointer (some ⟨gb102, 0, none⟩)) (B1 := .pointer (some ⟨gb101, 8, none⟩)) (B2 := .pointer (some ⟨gb102, 8, none⟩)) (X1 := .int .i64 a0_8) (X2 := .int .i64 a1_8) (e := a0_8 != a1_8) rfl hst_ (by decide) (by decide) (by decide) (by decide) (by decide) (fun _ _ _ _ _ _ h_ => roadbookref07_Same.fa8 h_) (fun _ _ _ _ _ _ h_ => roadbookref07_Same.fa8 h_) (fun _ _ _ _ _ _ h_ => roadbookref07_Same.ldi h_ hp8) (fun _ _ _ _ _ _ h_ => roadbookref07_Same.ldi h_ hq8) (fun _ _ _ _ _ _ _ _ h_ h2_ => roadbookref07_Same.nei h_ h2_) ?_
    intro a8_ hst_
    refine Go.Proofs.Ytccjakjjaemmkaa.Pre.row_next (n := 67) (A1 := .pointer (some ⟨gb101, 0, none⟩)) (A2 := .pointer (some ⟨gb102, 0, none⟩)) (B1 := .pointer (some ⟨gb101, 9, none⟩)) (B2 := .pointer (some ⟨gb102, 9, none⟩)) (X1 := .string a0_9) (X2 := .string a1_9) (e := a0_9.toList != a1_9.toList) rfl hst_ (by decide) (by decide) (by decide) (by decide) (by decide) (fun _ _ _ _ _ _ h_ => roadbookref07_Same.fa9 h_) (fun _ _ _ _ _ _ h_ => roadbookref07_Same.fa9 h_) (fun _ _ _ _ _ _ h_ => roadbookref07_Same.lds h_ hp9) (fun _ _ _ _ _ _ h_ => roadbookref07_Same.lds h_ hq9) (fun _ _ _ _ _ _ _ _ h_ h2_ => roadbookref07_Same.nes h_ h2_) ?_
    intro a9_ hst_
    refine Go.Proofs.Ytccjakjjaemmkaa.Pre.row_last (n := 74) (A1 := .pointer (some ⟨gb101, 0, none⟩)) (A2 := .pointer (some ⟨gb102, 0, none⟩)) (B1 := .pointer (some ⟨gb101, 10, none⟩)) (B2 := .pointer (some ⟨gb102, 10, none⟩)) (X1 := .int .i64 a0_10) (X2 := .int .i64 a1_10) (e := a0_10 != a1_10) rfl hst_ (by decide) (by decide) (by decide) (by decide) (by decide) (fun _ _ _ _ _ _ h_ => roadbookref07_Same.fa10 h_) (fun _ _ _ _ _ _ h_ => roadbookref07_Same.fa10 h_) (fun _ _ _ _ _ _ h_ => roadbookref07_Same.ldi h_ hp10) (fun _ _ _ _ _ _ h_ => roadbookref07_Same.ldi h_ hq10) (fun _ _ _ _ _ _ _ _ h_ h2_ => roadbookref07_Same.nei h_ h2_) ?_
    intro a10_ hst_
    refine wpList_nil ?_
    have e_ := Go.Proofs.Ytccjakjjaemmkaa.Pre.act_lit hst_.size hst_.defers
    have e2_ : a10_ = ⟨#[a10_.eval (.tmp 0), a10_.eval (.tmp 1), a10_.eval (.tmp 2), a10_.eval (.tmp 3), a10_.eval (.tmp 4), a10_.eval (.tmp 5), a10_.eval (.tmp 6), a10_.eval (.tmp 7), a10_.eval (.tmp 8), a10_.eval (.tmp 9), a10_.eval (.tmp 10), a10_.eval (.tmp 11), a10_.eval (.tmp 12), a10_.eval (.tmp 13), a10_.eval (.tmp 14), a10_.eval (.tmp 15), a10_.eval (.tmp 16), a10_.eval (.tmp 17), a10_.eval (.tmp 18), a10_.eval (.tmp 19), a10_.eval (.tmp 20), a10_.eval (.tmp 21), a10_.eval (.tmp 22), a10_.eval (.tmp 23), a10_.eval (.tmp 24), a10_.eval (.tmp 25), a10_.eval (.tmp 26), a10_.eval (.tmp 27), a10_.eval (.tmp 28), a10_.eval (.tmp 29), a10_.eval (.tmp 30), a10_.eval (.tmp 31), a10_.eval (.tmp 32), a10_.eval (.tmp 33), a10_.eval (.tmp 34), a10_.eval (.tmp 35), a10_.eval (.tmp 36), a10_.eval (.tmp 37), a10_.eval (.tmp 38), a10_.eval (.tmp 39), a10_.eval (.tmp 40), a10_.eval (.tmp 41), a10_.eval (.tmp 42), a10_.eval (.tmp 43), a10_.eval (.tmp 44), a10_.eval (.tmp 45), a10_.eval (.tmp 46), a10_.eval (.tmp 47), a10_.eval (.tmp 48), a10_.eval (.tmp 49), a10_.eval (.tmp 50), a10_.eval (.tmp 51), a10_.eval (.tmp 52), a10_.eval (.tmp 53), a10_.eval (.tmp 54), a10_.eval (.tmp 55), a10_.eval (.tmp 56), a10_.eval (.tmp 57), a10_.eval (.tmp 58), a10_.eval (.tmp 59), a10_.eval (.tmp 60), a10_.eval (.tmp 61), a10_.eval (.tmp 62), a10_.eval (.tmp 63), a10_.eval (.tmp 64), a10_.eval (.tmp 65), a10_.eval (.tmp 66), a10_.eval (.tmp 67), a10_.eval (.tmp 68), a10_.eval (.tmp 69), a10_.eval (.tmp 70), a10_.eval (.tmp 71), a10_.eval (.tmp 72), a10_.eval (.tmp 73), a10_.eval (.tmp 74), a10_.eval (.tmp 75), a10_.eval (.tmp 76), a10_.eval (.tmp 77), a10_.eval (.tmp 78), a10_.eval (.tmp 79), a10_.eval (.tmp 80), a10_.eval (.tmp 81), a10_.eval (.tmp 82), a10_.eval (.tmp 83), a10_.eval (.tmp 84), a10_.eval (.tmp 85), a10_.eval (.tmp 86), a10_.eval (.tmp 87), a10_.eval (.tmp 88), a10_.eval (.tmp 89), a10_.eval (.tmp 90), a10_.eval (.tmp 91), a10_.eval (.tmp 92), a10_.eval (.tmp 93), a10_.eval (.tmp 94), a10_.eval (.tmp 95), a10_.eval (.tmp 96), a10_.eval (.tmp 97), a10_.eval (.tmp 98), a10_.eval (.tmp 99), a10_.eval (.tmp 100), a10_.eval (.tmp 101), a10_.eval (.tmp 102), a10_.eval (.tmp 103), a10_.eval (.tmp 104), a10_.eval (.tmp 105), a10_.eval (.tmp 106), a10_.eval (.tmp 107), a10_.eval (.tmp 108), a10_.eval (.tmp 109), a10_.eval (.tmp 110), a10_.eval (.tmp 111), a10_.eval (.tmp 112), a10_.eval (.tmp 113), a10_.eval (.tmp 114), a10_.eval (.tmp 115), a10_.eval (.tmp 116), a10_.eval (.tmp 117), a10_.eval (.tmp 118), a10_.eval (.tmp 119), a10_.eval (.tmp 120), a10_.eval (.tmp 121), a10_.eval (.tmp 122), a10_.eval (.tmp 123), a10_.eval (.tmp 124), a10_.eval (.tmp 125), a10_.eval (.tmp 126), a10_.eval (.tmp 127), a10_.eval (.tmp 128), a10_.eval (.tmp 129), a10_.eval (.tmp 130), a10_.eval (.tmp 131), a10_.eval (.tmp 132), a10_.eval (.tmp 133), a10_.eval (.tmp 134), a10_.eval (.tmp 135), a10_.eval (.tmp 136), a10_.eval (.tmp 137), a10_.eval (.tmp 138), a10_.eval (.tmp 139), a10_.eval (.tmp 140), a10_.eval (.tmp 141), a10_.eval (.tmp 142), a10_.eval (.tmp 143), a10_.eval (.tmp 144), a10_.eval (.tmp 145), a10_.eval (.tmp 146), a10_.eval (.tmp 147), a10_.eval (.tmp 148), a10_.eval (.tmp 149), a10_.eval (.tmp 150), a10_.eval (.tmp 151), a10_.eval (.tmp 152), a10_.eval (.tmp 153), a10_.eval (.tmp 154), a10_.eval (.tmp 155), a10_.eval (.tmp 156), a10_.eval (.tmp 157), a10_.eval (.tmp 158), a10_.eval (.tmp 159), a10_.eval (.tmp 160), a10_.eval (.tmp 161), a10_.eval (.tmp 162), a10_.eval (.tmp 163), a10_.eval (.tmp 164), a10_.eval (.tmp 165), a10_.eval (.tmp 166), a10_.eval (.tmp 167), a10_.eval (.tmp 168), a10_.eval (.tmp 169), a10_.eval (.tmp 170), a10_.eval (.tmp 171), a10_.eval (.tmp 172), a10_.eval (.tmp 173)], []⟩ := e_.trans rfl
    clear e_
    have k0_ := hst_.kept 0 (by decide)
    have k1_ := hst_.kept 1 (by decide)
    have k2_ := hst_.kept 2 (by decide)
    have k3_ := hst_.kept 3 (by decide)
    have k4_ := hst_.kept 4 (by decide)
    rw [k0_, k1_, k2_, k3_, k4_] at e2_
    exact hK_ _ _ (hJ_ _ _ ⟨a10_.eval (.tmp 5), a10_.eval (.tmp 6), a10_.eval (.tmp 7), a10_.eval (.tmp 8), a10_.eval (.tmp 9), a10_.eval (.tmp 10), a10_.eval (.tmp 11), a10_.eval (.tmp 12), a10_.eval (.tmp 13), a10_.eval (.tmp 14), a10_.eval (.tmp 15), a10_.eval (.tmp 16), a10_.eval (.tmp 17), a10_.eval (.tmp 18), a10_.eval (.tmp 19), a10_.eval (.tmp 20), a10_.eval (.tmp 21), a10_.eval (.tmp 22), a10_.eval (.tmp 23), a10_.eval (.tmp 24), a10_.eval (.tmp 25), a10_.eval (.tmp 26), a10_.eval (.tmp 27), a10_.eval (.tmp 28), a10_.eval (.tmp 29), a10_.eval (.tmp 30), a10_.eval (.tmp 31), a10_.eval (.tmp 32), a10_.eval (.tmp 33), a10_.eval (.tmp 34), a10_.eval (.tmp 35), a10_.eval (.tmp 36), a10_.eval (.tmp 37), a10_.eval (.tmp 38), a10_.eval (.tmp 39), a10_.eval (.tmp 40), a10_.eval (.tmp 41), a10_.eval (.tmp 42), a10_.eval (.tmp 43), a10_.eval (.tmp 44), a10_.eval (.tmp 45), a10_.eval (.tmp 46), a10_.eval (.tmp 47), a10_.eval (.tmp 48), a10_.eval (.tmp 49), a10_.eval (.tmp 50), a10_.eval (.tmp 51), a10_.eval (.tmp 52), a10_.eval (.tmp 53), a10_.eval (.tmp 54), a10_.eval (.tmp 55), a10_.eval (.tmp 56), a10_.eval (.tmp 57), a10_.eval (.tmp 58), a10_.eval (.tmp 59), a10_.eval (.tmp 60), a10_.eval (.tmp 61), a10_.eval (.tmp 62), a10_.eval (.tmp 63), a10_.eval (.tmp 64), a10_.eval (.tmp 65), a10_.eval (.tmp 66), a10_.eval (.tmp 67), a10_.eval (.tmp 68), a10_.eval (.tmp 69), a10_.eval (.tmp 70), a10_.eval (.tmp 71), a10_.eval (.tmp 72), a10_.eval (.tmp 73), a10_.eval (.tmp 74), a10_.eval (.tmp 75), a10_.eval (.tmp 76), a10_.eval (.tmp 77), a10_.eval (.tmp 78), a10_.eval (.tmp 79), a10_.eval (.tmp 80), a10_.eval (.tmp 81), a10_.eval (.tmp 82), a10_.eval (.tmp 83), a10_.eval (.tmp 84), a10_.eval (.tmp 85), a10_.eval (.tmp 86), a10_.eval (.tmp 87), a10_.eval (.tmp 88), a10_.eval (.tmp 89), a10_.eval (.tmp 90), a10_.eval (.tmp 91), a10_.eval (.tmp 92), a10_.eval (.tmp 93), a10_.eval (.tmp 94), a10_.eval (.tmp 95), a10_.eval (.tmp 96), a10_.eval (.tmp 97), a10_.eval (.tmp 98), a10_.eval (.tmp 99), a10_.eval (.tmp 100), a10_.eval (.tmp 101), a10_.eval (.tmp 102), a10_.eval (.tmp 103), a10_.eval (.tmp 104), a10_.eval (.tmp 105), a10_.eval (.tmp 106), a10_.eval (.tmp 107), a10_.eval (.tmp 108), a10_.eval (.tmp 109), a10_.eval (.tmp 110), a10_.eval (.tmp 111), a10_.eval (.tmp 112), a10_.eval (.tmp 113), a10_.eval (.tmp 114), a10_.eval (.tmp 115), a10_.eval (.tmp 116), a10_.eval (.tmp 117), a10_.eval (.tmp 118), a10_.eval (.tmp 119), a10_.eval (.tmp 120), a10_.eval (.tmp 121), a10_.eval (.tmp 122), a10_.eval (.tmp 123), a10_.eval (.tmp 124), a10_.eval (.tmp 125), a10_.eval (.tmp 126), a10_.eval (.tmp 127), a10_.eval (.tmp 128), a10_.eval (.tmp 129), a10_.eval (.tmp 130), a10_.eval (.tmp 131), a10_.eval (.tmp 132), a10_.eval (.tmp 133), a10_.eval (.tmp 134), a10_.eval (.tmp 135), a10_.eval (.tmp 136), a10_.eval (.tmp 137), a10_.eval (.tmp 138), a10_.eval (.tmp 139), a10_.eval (.tmp 140), a10_.eval (.tmp 141), a10_.eval (.tmp 142), a10_.eval (.tmp 143), a10_.eval (.tmp 144), a10_.eval (.tmp 145), a10_.eval (.tmp 146), a10_.eval (.tmp 147), a10_.eval (.tmp 148), a10_.eval (.tmp 149), a10_.eval (.tmp 150), a10_.eval (.tmp 151), a10_.eval (.tmp 152), a10_.eval (.tmp 153), a10_.eval (.tmp 154), a10_.eval (.tmp 155), a10_.eval (.tmp 156), a10_.eval (.tmp 157), a10_.eval (.tmp 158), a10_.eval (.tmp 159), a10_.eval (.tmp 160), a10_.eval (.tmp 161), a10_.eval (.tmp 162), a10_.eval (.tmp 163), a10_.eval (.tmp 164), a10_.eval (.tmp 165), a10_.eval (.tmp 166), a10_.eval (.tmp 167), a10_.eval (.tmp 168), a10_.eval (.tmp 169), a10_.eval (.tmp 170), a10_.eval (.tmp 171), a10_.eval (.tmp 172), a10_.eval (.tmp 173), ⟨k, (((((((((((a0_0 != a1_0) || (a0_1 != a1_1)) || (a0_2 != a1_2)) || (a0_3.toList != a1_3.toList)) || (a0_4 != a1_4)) || (a0_5 != a1_5)) || (a0_6.toList != a1_6.toList)) || (a0_7 != a1_7)) || (a0_8 != a1_8)) || (a0_9.toList != a1_9.toList)) || (a0_10 != a1_10)), hst_.so, ⟨HJ_⟩, ⟨Nat.le_refl _⟩, ⟨BK101.out⟩, ⟨BK102.out⟩, ⟨HB.out⟩⟩, e2_⟩)
  case rest =>
    clear HC3
    try clear c1
    try clear c2
    try clear c24
    obtain ⟨kq, x79_2, rfl, HA, HJ2, BK101, BK102, HB⟩ := hcut
    cases kq with
    | zero => exact absurd HA.out (by simp [roadbookref07_Same.j0])
    | succ kj2 =>
      have H := HA.out
      clear HA
      simp only [roadbookref07_Same.j0] at H
      by_cases c49 : x79_2 = true
      · subst c49
        have H1 : (some false) = some r := by rw [if_pos rfl] at H; exact H
        clear H
        have H := H1
        clear H1
        obtain rfl := Option.some.inj H
        go_wp2
        go_ret
        exact ⟨by first | rfl | (simp [errW_none, errW_some] <;> rfl) | (simp [*, errW_none, errW_some] <;> rfl), by repeat (first | (with_reducible first | exact HB.out | apply below_alloc | apply pw_below_drewN | apply below_drew1 | refine below_set ?_ GE101.out | refine below_set ?_ GE102.out) | exact HB.out)⟩
      · replace c49 := Bool.eq_false_iff.mpr c49
        subst c49
        have H1 : (if a0_11.toList = a1_11.toList then (if a0_12 = a1_12 then (if a0_13 = a1_13 then (if a0_14 = a1_14 then (if a0_15 = a1_15 then (if a0_16 = a1_16 then (if a0_17 = a1_17 then (if a0_18 = a1_18 then (if a0_19.toList = a1_19.toList then (if a0_20.toList = a1_20.toList then (if a0_22 = a1_22 then (roadbookref07_Same.j1 kj2 (a0_23.toList != a1_23.toList) a0_0 a0_1 a0_2 a0_3 a0_4 a0_5 a0_6 a0_7 a0_8 a0_9 a0_10 a0_11 a0_12 a0_13 a0_14 a0_15 a0_16 a0_17 a0_18 a0_19 a0_20 l0_21 a0_22 a0_23 l0_24 a1_0 a1_1 a1_2 a1_3 a1_4 a1_5 a1_6 a1_7 a1_8 a1_9 a1_10 a1_11 a1_12 a1_13 a1_14 a1_15 a1_16 a1_17 a1_18 a1_19 a1_20 l1_21 a1_22 a1_23 l1_24) else (roadbookref07_Same.j1 kj2 true a0_0 a0_1 a0_2 a0_3 a0_4 a0_5 a0_6 a0_7 a0_8 a0_9 a0_10 a0_11 a0_12 a0_13 a0_14 a0_15 a0_16 a0_17 a0_18 a0_19 a0_20 l0_21 a0_22 a0_23 l0_24 a1_0 a1_1 a1_2 a1_3 a1_4 a1_5 a1_6 a1_7 a1_8 a1_9 a1_10 a1_11 a1_12 a1_13 a1_14 a1_15 a1_16 a1_17 a1_18 a1_19 a1_20 l1_21 a1_22 a1_23 l1_24)) else (roadbookref07_Same.j1 kj2 true a0_0 a0_1 a0_2 a0_3 a0_4 a0_5 a0_6 a0_7 a0_8 a0_9 a0_10 a0_11 a0_12 a0_13 a0_14 a0_15 a0_16 a0_17 a0_18 a0_19 a0_20 l0_21 a0_22 a0_23 l0_24 a1_0 a1_1 a1_2 a1_3 a1_4 a1_5 a1_6 a1_7 a1_8 a1_9 a1_10 a1_11 a1_12 a1_13 a1_14 a1_15 a1_16 a1_17 a1_18 a1_19 a1_20 l1_21 a1_22 a1_23 l1_24)) else (roadbookref07_Same.j1 kj2 true a0_0 a0_1 a0_2 a0_3 a0_4 a0_5 a0_6 a0_7 a0_8 a0_9 a0_10 a0_11 a0_12 a0_13 a0_14 a0_15 a0_16 a0_17 a0_18 a0_19 a0_20 l0_21 a0_22 a0_23 l0_24 a1_0 a1_1 a1_2 a1_3 a1_4 a1_5 a1_6 a1_7 a1_8 a1_9 a1_10 a1_11 a1_12 a1_13 a1_14 a1_15 a1_16 a1_17 a1_18 a1_19 a1_20 l1_21 a1_22 a1_23 l1_24)) else (roadbookref07_Same.j1 kj2 true a0_0 a0_1 a0_2 a0_3 a0_4 a0_5 a0_6 a0_7 a0_8 a0_9 a0_10 a0_11 a0_12 a0_13 a0_14 a0_15 a0_16 a0_17 a0_18 a0_19 a0_20 l0_21 a0_22 a0_23 l0_24 a1_0 a1_1 a1_2 a1_3 a1_4 a1_5 a1_6 a1_7 a1_8 a1_9 a1_10 a1_11 a1_12 a1_13 a1_14 a1_15 a1_16 a1_17 a1_18 a1_19 a1_20 l1_21 a1_22 a1_23 l1_24)) else (roadbookref07_Same.j1 kj2 true a0_0 a0_1 a0_2 a0_3 a0_4 a0_5 a0_6 a0_7 a0_8 a0_9 a0_10 a0_11 a0_12 a0_13 a0_14 a0_15 a0_16 a0_17 a0_18 a0_19 a0_20 l0_21 a0_22 a0_23 l0_24 a1_0 a1_1 a1_2 a1_3 a1_4 a1_5 a1_6 a1_7 a1_8 a1_9 a1_10 a1_11 a1_12 a1_13 a1_14 a1_15 a1_16 a1_17 a1_18 a1_19 a1_20 l1_21 a1_22 a1_23 l1_24)) else (roadbookref07_Same.j1 kj2 true a0_0 a0_1 a0_2 a0_3 a0_4 a0_5 a0_6 a0_7 a0_8 a0_9 a0_10 a0_11 a0_12 a0_13 a0_14 a0_15 a0_16 a0_17 a0_18 a0_19 a0_20 l0_21 a0_22 a0_23 l0_24 a1_0 a1_1 a1_2 a1_3 a1_4 a1_5 a1_6 a1_7 a1_8 a1_9 a1_10 a1_11 a1_12 a1_13 a1_14 a1_15 a1_16 a1_17 a1_18 a1_19 a1_20 l1_21 a1_22 a1_23 l1_24)) else (roadbookref07_Same.j1 kj2 true a0_0 a0_1 a0_2 a0_3 a0_4 a0_5 a0_6 a0_7 a0_8 a0_9 a0_10 a0_11 a0_12 a0_13 a0_14 a0_15 a0_16 a0_17 a0_18 a0_19 a0_20 l0_21 a0_22 a0_23 l0_24 a1_0 a1_1 a1_2 a1_3 a1_4 a1_5 a1_6 a1_7 a1_8 a1_9 a1_10 a1_11 a1_12 a1_13 a1_14 a1_15 a1_16 a1_17 a1_18 a1_19 a1_20 l1_21 a1_22 a1_23 l1_24)) else (roadbookref07_Same.j1 kj2 true a0_0 a0_1 a0_2 a0_3 a0_4 a0_5 a0_6 a0_7 a0_8 a0_9 a0_10 a0_11 a0_12 a0_13 a0_14 a0_15 a0_16 a0_17 a0_18 a0_19 a0_20 l0_21 a0_22 a0_23 l0_24 a1_0 a1_1 a1_2 a1_3 a1_4 a1_5 a1_6 a1_7 a1_8 a1_9 a1_10 a1_11 a1_12 a1_13 a1_14 a1_15 a1_16 a1_17 a1_18 a1_19 a1_20 l1_21 a1_22 a1_23 l1_24)) else (roadbookref07_Same.j1 kj2 true a0_0 a0_1 a0_2 a0_3 a0_4 a0_5 a0_6 a0_7 a0_8 a0_9 a0_10 a0_11 a0_12 a0_13 a0_14 a0_15 a0_16 a0_17 a0_18 a0_19 a0_20 l0_21 a0_22 a0_23 l0_24 a1_0 a1_1 a1_2 a1_3 a1_4 a1_5 a1_6 a1_7 a1_8 a1_9 a1_10 a1_11 a1_12 a1_13 a1_14 a1_15 a1_16 a1_17 a1_18 a1_19 a1_20 l1_21 a1_22 a1_23 l1_24)) else (roadbookref07_Same.j1 kj2 true a0_0 a0_1 a0_2 a0_3 a0_4 a0_5 a0_6 a0_7 a0_8 a0_9 a0_10 a0_11 a0_12 a0_13 a0_14 a0_15 a0_16 a0_17 a0_18 a0_19 a0_20 l0_21 a0_22 a0_23 l0_24 a1_0 a1_1 a1_2 a1_3 a1_4 a1_5 a1_6 a1_7 a1_8 a1_9 a1_10 a1_11 a1_12 a1_13 a1_14 a1_15 a1_16 a1_17 a1_18 a1_19 a1_20 l1_21 a1_22 a1_23 l1_24)) else (roadbookref07_Same.j1 kj2 true a0_0 a0_1 a0_2 a0_3 a0_4 a0_5 a0_6 a0_7 a0_8 a0_9 a0_10 a0_11 a0_12 a0_13 a0_14 a0_15 a0_16 a0_17 a0_18 a0_19 a0_20 l0_21 a0_22 a0_23 l0_24 a1_0 a1_1 a1_2 a1_3 a1_4 a1_5 a1_6 a1_7 a1_8 a1_9 a1_10 a1_11 a1_12 a1_13 a1_14 a1_15 a1_16 a1_17 a1_18 a1_19 a1_20 l1_21 a1_22 a1_23 l1_24)) = some r := by rw [if_neg (show ¬ (false = true) by decide)] at H; exact H
        clear H
        have H := H1
        clear H1
        have HC50 := Aside0.mk H
        clear H
        go_upto_region 3 with (fail)
        go_cut [161] (fun v161 wc => ∃ (kq : Nat) (x161_49 : Bool), v161 = .bool x161_49 ∧ Aside0 (roadbookref07_Same.j1 kq x161_49 a0_0 a0_1 a0_2 a0_3 a0_4 a0_5 a0_6 a0_7 a0_8 a0_9 a0_10 a0_11 a0_12 a0_13 a0_14 a0_15 a0_16 a0_17 a0_18 a0_19 a0_20 l0_21 a0_22 a0_23 l0_24 a1_0 a1_1 a1_2 a1_3 a1_4 a1_5 a1_6 a1_7 a1_8 a1_9 a1_10 a1_11 a1_12 a1_13 a1_14 a1_15 a1_16 a1_17 a1_18 a1_19 a1_20 l1_21 a1_22 a1_23 l1_24 = some r) ∧ Aside0 (kq ≤ kj2) ∧ Aside0 (wc.heap[gb101]? = some (.cells #[.int .i64 a0_0, .int .i64 a0_1, .int .i64 a0_2, .string a0_3, .int .i64 a0_4, .int .i64 a0_5, .string a0_6, .int .i64 a0_7, .int .i64 a0_8, .string a0_9, .int .i64 a0_10, .string a0_11, .int .i64 a0_12, .int .i64 a0_13, .int .i64 a0_14, .int .i64 a0_15, .int .i64 a0_16, .int .i64 a0_17, .int .i64 a0_18, .string a0_19, .string a0_20, (.slice A0_21 l0_21.length c0_21), .int .i64 a0_22, .string a0_23, (.slice A0_24 l0_24.length c0_24)] 25 (0, 0))) ∧ Aside0 (wc.heap[gb102]? = some (.cells #[.int .i64 a1_0, .int .i64 a1_1, .int .i64 a1_2, .string a1_3, .int .i64 a1_4, .int .i64 a1_5, .string a1_6, .int .i64 a1_7, .int .i64 a1_8, .string a1_9, .int .i64 a1_10, .string a1_11, .int .i64 a1_12, .int .i64 a1_13, .int .i64 a1_14, .int .i64 a1_15, .int .i64 a1_16, .int .i64 a1_17, .int .i64 a1_18, .string a1_19, .string a1_20, (.slice A1_21 l1_21.length c1_21), .int .i64 a1_22, .string a1_23, (.slice A1_24 l1_24.length c1_24)] 25 (0, 0))) ∧ Aside0 (Below w.heap.size w wc))
        case first =>
          rename_i J_ K_ hJ_ hK_
          have HJ_ : roadbookref07_Same.j1 kj2 ((((((((((((a0_11.toList != a1_11.toList) || (a0_12 != a1_12)) || (a0_13 != a1_13)) || (a0_14 != a1_14)) || (a0_15 != a1_15)) || (a0_16 != a1_16)) || (a0_17 != a1_17)) || (a0_18 != a1_18)) || (a0_19.toList != a1_19.toList)) || (a0_20.toList != a1_20.toList)) || (a0_22 != a1_22)) || (a0_23.toList != a1_23.toList)) a0_0 a0_1 a0_2 a0_3 a0_4 a0_5 a0_6 a0_7 a0_8 a0_9 a0_10 a0_11 a0_12 a0_13 a0_14 a0_15 a0_16 a0_17 a0_18 a0_19 a0_20 l0_21 a0_22 a0_23 l0_24 a1_0 a1_1 a1_2 a1_3 a1_4 a1_5 a1_6 a1_7 a1_8 a1_9 a1_10 a1_11 a1_12 a1_13 a1_14 a1_15 a1_16 a1_17 a1_18 a1_19 a1_20 l1_21 a1_22 a1_23 l1_24 = some r := by
            have H := HC50.out
            by_cases q0 : a0_11.toList = a1_11.toList
            · rw [if_pos q0] at H
              have d0 : (a0_11.toList != a1_11.toList) = false := bne_eq_false_iff_eq.mpr q0
              by_cases q1 : a0_12 = a1_12
              · rw [if_pos q1] at H
                have d1 : (a0_12 != a1_12) = false := bne_eq_false_iff_eq.mpr q1
                by_cases q2 : a0_13 = a1_13
                · rw [if_pos q2] at H
                  have d2 : (a0_13 != a1_13) = false := bne_eq_false_iff_eq.mpr q2
                  by_cases q3 : a0_14 = a1_14
                  · rw [if_pos q3] at H
                    have d3 : (a0_14 != a1_14) = false := bne_eq_false_iff_eq.mpr q3
                    by_cases q4 : a0_15 = a1_15
                    · rw [if_pos q4] at H
                      have d4 : (a0_15 != a1_15) = false := bne_eq_false_iff_eq.mpr q4
                      by_cases q5 : a0_16 = a1_16
                      · rw [if_pos q5] at H
                        have d5 : (a0_16 != a1_16) = false := bne_eq_false_iff_eq.mpr q5
                        by_cases q6 : a0_17 = a1_17
                        · rw [if_pos q6] at H
                          have d6 : (a0_17 != a1_17) = false := bne_eq_false_iff_eq.mpr q6
                          by_cases q7 : a0_18 = a1_18
                          · rw [if_pos q7] at H
                            have d7 : (a0_18 != a1_18) = false := bne_eq_false_iff_eq.mpr q7
                            by_cases q8 : a0_19.toList = a1_19.toList
                            · rw [if_pos q8] at H
                              have d8 : (a0_19.toList != a1_19.toList) = false := bne_eq_false_iff_eq.mpr q8
                              by_cases q9 : a0_20.toList = a1_20.toList
                              · rw [if_pos q9] at H
                                have d9 : (a0_20.toList != a1_20.toList) = false := bne_eq_false_iff_eq.mpr q9
                                by_cases q10 : a0_22 = a1_22
                                · rw [if_pos q10] at H
                                  have d10 : (a0_22 != a1_22) = false := bne_eq_false_iff_eq.mpr q10
                                  rw [d0, d1, d2, d3, d4, d5, d6, d7, d8, d9, d10]; simp only [Bool.false_or]; exact H
                                · rw [if_neg q10] at H
                                  have d10 : (a0_22 != a1_22) = true := bne_iff_ne.mpr q10
                                  rw [d0, d1, d2, d3, d4, d5, d6, d7, d8, d9, d10]; simp only [Bool.false_or, Bool.true_or, Bool.or_true]; exact H
                              · rw [if_neg q9] at H
                                have d9 : (a0_20.toList != a1_20.toList) = true := bne_iff_ne.mpr q9
                                rw [d0, d1, d2, d3, d4, d5, d6, d7, d8, d9]; simp only [Bool.false_or, Bool.true_or, Bool.or_true]; exact H
                            · rw [if_neg q8] at H
                              have d8 : (a0_19.toList != a1_19.toList) = true := bne_iff_ne.mpr q8
                              rw [d0, d1, d2, d3, d4, d5, d6, d7, d8]; simp only [Bool.false_or, Bool.true_or, Bool.or_true]; exact H
                          · rw [if_neg q7] at H
                            have d7 : (a0_18 != a1_18) = true := bne_iff_ne.mpr q7
                            rw [d0, d1, d2, d3, d4, d5, d6, d7]; simp only [Bool.false_or, Bool.true_or, Bool.or_true]; exact H
                        · rw [if_neg q6] at H
                          have d6 : (a0_17 != a1_17) = true := bne_iff_ne.mpr q6
                          rw [d0, d1, d2, d3, d4, d5, d6]; simp only [Bool.false_or, Bool.true_or, Bool.or_true]; exact H
                      · rw [if_neg q5] at H
                        have d5 : (a0_16 != a1_16) = true := bne_iff_ne.mpr q5
                        rw [d0, d1, d2, d3, d4, d5]; simp only [Bool.false_or, Bool.true_or, Bool.or_true]; exact H
                    · rw [if_neg q4] at H
                      have d4 : (a0_15 != a1_15) = true := bne_iff_ne.mpr q4
                      rw [d0, d1, d2, d3, d4]; simp only [Bool.false_or, Bool.true_or, Bool.or_true]; exact H
                  · rw [if_neg q3] at H
                    have d3 : (a0_14 != a1_14) = true := bne_iff_ne.mpr q3
                    rw [d0, d1, d2, d3]; simp only [Bool.false_or, Bool.true_or, Bool.or_true]; exact H
                · rw [if_neg q2] at H
                  have d2 : (a0_13 != a1_13) = true := bne_iff_ne.mpr q2
                  rw [d0, d1, d2]; simp only [Bool.false_or, Bool.true_or, Bool.or_true]; exact H
              · rw [if_neg q1] at H
                have d1 : (a0_12 != a1_12) = true := bne_iff_ne.mpr q1
                rw [d0, d1]; simp only [Bool.false_or, Bool.true_or, Bool.or_true]; exact H
            · rw [if_neg q0] at H
              have d0 : (a0_11.toList != a1_11.toList) = true := bne_iff_ne.mpr q0
              rw [d0]; simp only [Bool.false_or, Bool.true_or, Bool.or_true]; exact H
          obtain ⟨-, -, -, -, -, -, -, -, -, -, -, hp11, hp12, hp13, hp14, hp15, hp16, hp17, hp18, hp19, hp20, -, hp22, hp23, -, -, -, -, -, -, -, -, -, -, -, -, -, -, -, -, -, -, -, -, -, -, -, -, -, -⟩ := cells_25 BK101.out
          obtain ⟨-, -, -, -, -, -, -, -, -, -, -, hq11, hq12, hq13, hq14, hq15, hq16, hq17, hq18, hq19, hq20, -, hq22, hq23, -, -, -, -, -, -, -, -, -, -, -, -, -, -, -, -, -, -, -, -, -, -, -, -, -, -⟩ := cells_25 BK102.out
          refine wp_region_lit ?_
          refine Go.Proofs.Ytccjakjjaemmkaa.Pre.row_first (p := 2) (q := 3) (n := 80) (N := 174) (lo := 5) (A1 := .pointer (some ⟨gb101, 0, none⟩)) (A2 := .pointer (some ⟨gb102, 0, none⟩)) (B1 := .pointer (some ⟨gb101, 11, none⟩)) (B2 := .pointer (some ⟨gb102, 11, none⟩)) (X1 := .string a0_11) (X2 := .string a1_11) (e := a0_11.toList != a1_11.toList) rfl rfl (by decide) rfl rfl (by decide) (by decide) (by decide) (fun _ _ _ _ _ _ h_ => roadbookref07_Same.fa11 h_) (fun _ _ _ _ _ _ h_ => roadbookref07_Same.fa11 h_) (fun _ _ _ _ _ _ h_ => roadbookref07_Same.lds h_ hp11) (fun _ _ _ _ _ _ h_ => roadbookref07_Same.lds h_ hq11) (fun _ _ _ _ _ _ _ _ h_ h2_ => roadbookref07_Same.nes h_ h2_) ?_
          intro a0_ hst_
          refine Go.Proofs.Ytccjakjjaemmkaa.Pre.row_next (n := 86) (A1 := .pointer (some ⟨gb101, 0, none⟩)) (A2 := .pointer (some ⟨gb102, 0, none⟩)) (B1 := .pointer (some ⟨gb101, 12, none⟩)) (B2 := .pointer (some ⟨gb102, 12, none⟩)) (X1 := .int .i64 a0_12) (X2 := .int .i64 a1_12) (e := a0_12 != a1_12) rfl hst_ (by decide) (by decide) (by decide) (by decide) (by decide) (fun _ _ _ _ _ _ h_ => roadbookref07_Same.fa12 h_) (fun _ _ _ _ _ _ h_ => roadbookref07_Same.fa12 h_) (fun _ _ _ _ _ _ h_ => roadbookref07_Same.ldi h_ hp12) (fun _ _ _ _ _ _ h_ => roadbookref07_Same.ldi h_ hq12) (fun _ _ _ _ _ _ _ _ h_ h2_ => roadbookref07_Same.nei h_ h2_) ?_
          intro a1_ hst_
          refine Go.Proofs.Ytccjakjjaemmkaa.Pre.row_next (n := 93) (A1 := .pointer (some ⟨gb101, 0, none⟩)) (A2 := .pointer (some ⟨gb102, 0, none⟩)) (B1 := .pointer (some ⟨gb101, 13, none⟩)) (B2 := .pointer (some ⟨gb102, 13, none⟩)) (X1 := .int .i64 a0_13) (X2 := .int .i64 a1_13) (e := a0_13 != a1_13) rfl hst_ (by decide) (by decide) (by decide) (by decide) (by decide) (fun _ _ _ _ _ _ h_ => roadbookref07_Same.fa13 h_) (fun _ _ _ _ _ _ h_ => roadbookref07_Same.fa13 h_) (fun _ _ _ _ _ _ h_ => roadbookref07_Same.ldi h_ hp13) (fun _ _ _ _ _ _ h_ => roadbookref07_Same.ldi h_ hq13) (fun _ _ _ _ _ _ _ _ h_ h2_ => roadbookref07_Same.nei h_ h2_) ?_
          intro a2_ hst_
          refine Go.Proofs.Ytccjakjjaemmkaa.Pre.row_next (n := 100) (A1 := .pointer (some ⟨gb101, 0, none⟩)) (A2 := .pointer (some ⟨gb102, 0, none⟩)) (B1 := .pointer (some ⟨gb101, 14, none⟩)) (B2 := .pointer (some ⟨gb102, 14, none⟩)) (X1 := .int .i64 a0_14) (X2 := .int .i64 a1_14) (e := a0_14 != a1_14) rfl hst_ (by decide) (by decide) (by decide) (by decide) (by decide) (fun _ _ _ _ _ _ h_ => roadbookref07_Same.fa14 h_) (fun _ _ _ _ _ _ h_ => roadbookref07_Same.fa14 h_) (fun _ _ _ _ _ _ h_ => roadbookref07_Same.ldi h_ hp14) (fun _ _ _ _ _ _ h_ => roadbookref07_Same.ldi h_ hq14) (fun _ _ _ _ _ _ _ _ h_ h2_ => roadbookref07_Same.nei h_ h2_) ?_
          intro a3_ hst_
          refine Go.Proofs.Ytccjakjjaemmkaa.Pre.row_next (n := 107) (A1 := .pointer (some ⟨gb101, 0, none⟩)) (A2 := .pointer (some ⟨gb102, 0, none⟩)) (B1 := .pointer (some ⟨gb101, 15, none⟩)) (B2 := .pointer (some ⟨gb102, 15, none⟩)) (X1 := .int .i64 a0_15) (X2 := .int .i64 a1_15) (e := a0_15 != a1_15) rfl hst_ (by decide) (by decide) (by decide) (by decide) (by decide) (fun _ _ _ _ _ _ h_ => roadbookref07_Same.fa15 h_) (fun _ _ _ _ _ _ h_ => roadbookref07_Same.fa15 h_) (fun _ _ _ _ _ _ h_ => roadbookref07_Same.ldi h_ hp15) (fun _ _ _ _ _ _ h_ => roadbookref07_Same.ldi h_ hq15) (fun _ _ _ _ _ _ _ _ h_ h2_ => roadbookref07_Same.nei h_ h2_) ?_
          intro a4_ hst_
          refine Go.Proofs.Ytccjakjjaemmkaa.Pre.row_next (n := 114) (A1 := .pointer (some ⟨gb101, 0, none⟩)) (A2 := .pointer (some ⟨gb102, 0, none⟩)) (B1 := .pointer (some ⟨gb101, 16, none⟩)) (B2 := .pointer (some ⟨gb102, 16, none⟩)) (X1 := .int .i64 a0_16) (X2 := .int .i64 a1_16) (e := a0_16 != a1_16) rfl hst_ (by decide) (by decide) (by decide) (by decide) (by decide) (fun _ _ _ _ _ _ h_ => roadbookref07_Same.fa16 h_) (fun _ _ _ _ _ _ h_ => roadbookref07_Same.fa16 h_) (fun _ _ _ _ _ _ h_ => roadbookref07_Same.ldi h_ hp16) (fun _ _ _ _ _ _ h_ => roadbookref07_Same.ldi h_ hq16) (fun _ _ _ _ _ _ _ _ h_ h2_ => roadbookref07_Same.nei h_ h2_) ?_
          intro a5_ hst_
          refine Go.Proofs.Ytccjakjjaemmkaa.Pre.row_next (n := 121) (A1 := .pointer (some ⟨gb101, 0, none⟩)) (A2 := .pointer (some ⟨gb102, 0, none⟩)) (B1 := .pointer (some ⟨gb101, 17, none⟩)) (B2 := .pointer (some ⟨gb102, 17, none⟩)) (X1 := .int .i64 a0_17) (X2 := .int .i64 a1_17) (e := a0_17 != a1_17) rfl hst_ (by decide) (by decide) (by decide) (by decide) (by decide) (fun _ _ _ _ _ _ h_ => roadbookref07_Same.fa17 h_) (fun _ _ _ _ _ _ h_ => roadbookref07_Same.fa17 h_) (fun _ _ _ _ _ _ h_ => roadbookref07_Same.ldi h_ hp17) (fun _ _ _ _ _ _ h_ => roadbookref07_Same.ldi h_ hq17) (fun _ _ _ _ _ _ _ _ h_ h2_ => roadbookref07_Same.nei h_ h2_) ?_
          intro a6_ hst_
          refine Go.Proofs.Ytccjakjjaemmkaa.Pre.row_next (n := 128) (A1 := .pointer (some ⟨gb101, 0, none⟩)) (A2 := .pointer (some ⟨gb102, 0, none⟩)) (B1 := .pointer (some ⟨gb101, 18, none⟩)) (B2 := .pointer (some ⟨gb102, 18, none⟩)) (X1 := .int .i64 a0_18) (X2 := .int .i64 a1_18) (e := a0_18 != a1_18) rfl hst_ (by decide) (by decide) (by decide) (by decide) (by decide) (fun _ _ _ _ _ _ h_ => roadbookref07_Same.fa18 h_) (fun _ _ _ _ _ _ h_ => roadbookref07_Same.fa18 h_) (fun _ _ _ _ _ _ h_ => roadbookref07_Same.ldi h_ hp18) (fun _ _ _ _ _ _ h_ => roadbookref07_Same.ldi h_ hq18) (fun _ _ _ _ _ _ _ _ h_ h2_ => roadbookref07_Same.nei h_ h2_) ?_
          intro a7_ hst_
          refine Go.Proofs.Ytccjakjjaemmkaa.Pre.row_next (n := 135) (A1 := .pointer (some ⟨gb101, 0, none⟩)) (A2 := .pointer (some ⟨gb102, 0, none⟩)) (B1 := .pointer (some ⟨gb101, 19, none⟩)) (B2 := .pointer (some ⟨gb102, 19, none⟩)) (X1 := .string a0_19) (X2 := .string a1_19) (e := a0_19.toList != a1_19.toList) rfl hst_ (by decide) (by decide) (by decide) (by decide) (by decide) (fun _ _ _ _ _ _ h_ => roadbookref07_Same.fa19 h_) (fun _ _ _ _ _ _ h_ => roadbookref07_Same.fa19 h_) (fun _ _ _ _ _ _ h_ => roadbookref07_Same.lds h_ hp19) (fun _ _ _ _ _ _ h_ => roadbookref07_Same.lds h_ hq19) (fun _ _ _ _ _ _ _ _ h_ h2_ => roadbookref07_Same.nes h_ h2_) ?_
          intro a8_ hst_
          refine Go.Proofs.Ytccjakjjaemmkaa.Pre.row_next (n := 142) (A1 := .pointer (some ⟨gb101, 0, none⟩)) (A2 := .pointer (some ⟨gb102, 0, none⟩)) (B1 := .pointer (some ⟨gb101, 20, none⟩)) (B2 := .pointer (some ⟨gb102, 20, none⟩)) (X1 := .string a0_20) (X2 := .string a1_20) (e := a0_20.toList != a1_20.toList) rfl hst_ (by decide) (by decide) (by decide) (by decide) (by decide) (fun _ _ _ _ _ _ h_ => roadbookref07_Same.fa20 h_) (fun _ _ _ _ _ _ h_ => roadbookref07_Same.fa20 h_) (fun _ _ _ _ _ _ h_ => roadbookref07_Same.lds h_ hp20) (fun _ _ _ _ _ _ h_ => roadbookref07_Same.lds h_ hq20) (fun _ _ _ _ _ _ _ _ h_ h2_ => roadbookref07_Same.nes h_ h2_) ?_
          intro a9_ hst_
          refine Go.Proofs.Ytccjakjjaemmkaa.Pre.row_next (n := 149) (A1 := .pointer (some ⟨gb101, 0, none⟩)) (A2 := .pointer (some ⟨gb102, 0, none⟩)) (B1 := .pointer (some ⟨gb101, 22, none⟩)) (B2 := .pointer (some ⟨gb102, 22, none⟩)) (X1 := .int .i64 a0_22) (X2 := .int .i64 a1_22) (e := a0_22 != a1_22) rfl hst_ (by decide) (by decide) (by decide) (by decide) (by decide) (fun _ _ _ _ _ _ h_ => roadbookref07_Same.fa22 h_) (fun _ _ _ _ _ _ h_ => roadbookref07_Same.fa22 h_) (fun _ _ _ _ _ _ h_ => roadbookref07_Same.ldi h_ hp22) (fun _ _ _ _ _ _ h_ => roadbookref07_Same.ldi h_ hq22) (fun _ _ _ _ _ _ _ _ h_ h2_ => roadbookref07_Same.nei h_ h2_) ?_
          intro a10_ hst_
          refine Go.Proofs.Ytccjakjjaemmkaa.Pre.row_last (n := 156) (A1 := .pointer (some ⟨gb101, 0, none⟩)) (A2 := .pointer (some ⟨gb102, 0, none⟩)) (B1 := .pointer (some ⟨gb101, 23, none⟩)) (B2 := .pointer (some ⟨gb102, 23, none⟩)) (X1 := .string a0_23) (X2 := .string a1_23) (e := a0_23.toList != a1_23.toList) rfl hst_ (by decide) (by decide) (by decide) (by decide) (by decide) (fun _ _ _ _ _ _ h_ => roadbookref07_Same.fa23 h_) (fun _ _ _ _ _ _ h_ => roadbookref07_Same.fa23 h_) (fun _ _ _ _ _ _ h_ => roadbookref07_Same.lds h_ hp23) (fun _ _ _ _ _ _ h_ => roadbookref07_Same.lds h_ hq23) (fun _ _ _ _ _ _ _ _ h_ h2_ => roadbookref07_Same.nes h_ h2_) ?_
          intro a11_ hst_
          refine wpList_nil ?_
          have e_ := Go.Proofs.Ytccjakjjaemmkaa.Pre.act_lit hst_.size hst_.defers
          have e2_ : a11_ = ⟨#[a11_.eval (.tmp 0), a11_.eval (.tmp 1), a11_.eval (.tmp 2), a11_.eval (.tmp 3), a11_.eval (.tmp 4), a11_.eval (.tmp 5), a11_.eval (.tmp 6), a11_.eval (.tmp 7), a11_.eval (.tmp 8), a11_.eval (.tmp 9), a11_.eval (.tmp 10), a11_.eval (.tmp 11), a11_.eval (.tmp 12), a11_.eval (.tmp 13), a11_.eval (.tmp 14), a11_.eval (.tmp 15), a11_.eval (.tmp 16), a11_.eval (.tmp 17), a11_.eval (.tmp 18), a11_.eval (.tmp 19), a11_.eval (.tmp 20), a11_.eval (.tmp 21), a11_.eval (.tmp 22), a11_.eval (.tmp 23), a11_.eval (.tmp 24), a11_.eval (.tmp 25), a11_.eval (.tmp 26), a11_.eval (.tmp 27), a11_.eval (.tmp 28), a11_.eval (.tmp 29), a11_.eval (.tmp 30), a11_.eval (.tmp 31), a11_.eval (.tmp 32), a11_.eval (.tmp 33), a11_.eval (.tmp 34), a11_.eval (.tmp 35), a11_.eval (.tmp 36), a11_.eval (.tmp 37), a11_.eval (.tmp 38), a11_.eval (.tmp 39), a11_.eval (.tmp 40), a11_.eval (.tmp 41), a11_.eval (.tmp 42), a11_.eval (.tmp 43), a11_.eval (.tmp 44), a11_.eval (.tmp 45), a11_.eval (.tmp 46), a11_.eval (.tmp 47), a11_.eval (.tmp 48), a11_.eval (.tmp 49), a11_.eval (.tmp 50), a11_.eval (.tmp 51), a11_.eval (.tmp 52), a11_.eval (.tmp 53), a11_.eval (.tmp 54), a11_.eval (.tmp 55), a11_.eval (.tmp 56), a11_.eval (.tmp 57), a11_.eval (.tmp 58), a11_.eval (.tmp 59), a11_.eval (.tmp 60), a11_.eval (.tmp 61), a11_.eval (.tmp 62), a11_.eval (.tmp 63), a11_.eval (.tmp 64), a11_.eval (.tmp 65), a11_.eval (.tmp 66), a11_.eval (.tmp 67), a11_.eval (.tmp 68), a11_.eval (.tmp 69), a11_.eval (.tmp 70), a11_.eval (.tmp 71), a11_.eval (.tmp 72), a11_.eval (.tmp 73), a11_.eval (.tmp 74), a11_.eval (.tmp 75), a11_.eval (.tmp 76), a11_.eval (.tmp 77), a11_.eval (.tmp 78), a11_.eval (.tmp 79), a11_.eval (.tmp 80), a11_.eval (.tmp 81), a11_.eval (.tmp 82), a11_.eval (.tmp 83), a11_.eval (.tmp 84), a11_.eval (.tmp 85), a11_.eval (.tmp 86), a11_.eval (.tmp 87), a11_.eval (.tmp 88), a11_.eval (.tmp 89), a11_.eval (.tmp 90), a11_.eval (.tmp 91), a11_.eval (.tmp 92), a11_.eval (.tmp 93), a11_.eval (.tmp 94), a11_.eval (.tmp 95), a11_.eval (.tmp 96), a11_.eval (.tmp 97), a11_.eval (.tmp 98), a11_.eval (.tmp 99), a11_.eval (.tmp 100), a11_.eval (.tmp 101), a11_.eval (.tmp 102), a11_.eval (.tmp 103), a11_.eval (.tmp 104), a11_.eval (.tmp 105), a11_.eval (.tmp 106), a11_.eval (.tmp 107), a11_.eval (.tmp 108), a11_.eval (.tmp 109), a11_.eval (.tmp 110), a11_.eval (.tmp 111), a11_.eval (.tmp 112), a11_.eval (.tmp 113), a11_.eval (.tmp 114), a11_.eval (.tmp 115), a11_.eval (.tmp 116), a11_.eval (.tmp 117), a11_.eval (.tmp 118), a11_.eval (.tmp 119), a11_.eval (.tmp 120), a11_.eval (.tmp 121), a11_.eval (.tmp 122), a11_.eval (.tmp 123), a11_.eval (.tmp 124), a11_.eval (.tmp 125), a11_.eval (.tmp 126), a11_.eval (.tmp 127), a11_.eval (.tmp 128), a11_.eval (.tmp 129), a11_.eval (.tmp 130), a11_.eval (.tmp 131), a11_.eval (.tmp 132), a11_.eval (.tmp 133), a11_.eval (.tmp 134), a11_.eval (.tmp 135), a11_.eval (.tmp 136), a11_.eval (.tmp 137), a11_.eval (.tmp 138), a11_.eval (.tmp 139), a11_.eval (.tmp 140), a11_.eval (.tmp 141), a11_.eval (.tmp 142), a11_.eval (.tmp 143), a11_.eval (.tmp 144), a11_.eval (.tmp 145), a11_.eval (.tmp 146), a11_.eval (.tmp 147), a11_.eval (.tmp 148), a11_.eval (.tmp 149), a11_.eval (.tmp 150), a11_.eval (.tmp 151), a11_.eval (.tmp 152), a11_.eval (.tmp 153), a11_.eval (.tmp 154), a11_.eval (.tmp 155), a11_.eval (.tmp 156), a11_.eval (.tmp 157), a11_.eval (.tmp 158), a11_.eval (.tmp 159), a11_.eval (.tmp 160), a11_.eval (.tmp 161), a11_.eval (.tmp 162), a11_.eval (.tmp 163), a11_.eval (.tmp 164), a11_.eval (.tmp 165), a11_.eval (.tmp 166), a11_.eval (.tmp 167), a11_.eval (.tmp 168), a11_.eval (.tmp 169), a11_.eval (.tmp 170), a11_.eval (.tmp 171), a11_.eval (.tmp 172), a11_.eval (.tmp 173)], []⟩ := e_.trans rfl
          clear e_
          have k0_ := hst_.kept 0 (by decide)
          have k1_ := hst_.kept 1 (by decide)
          have k2_ := hst_.kept 2 (by decide)
          have k3_ := hst_.kept 3 (by decide)
          have k4_ := hst_.kept 4 (by decide)
          rw [k0_, k1_, k2_, k3_, k4_] at e2_
          exact hK_ _ _ (hJ_ _ _ ⟨a11_.eval (.tmp 5), a11_.eval (.tmp 6), a11_.eval (.tmp 7), a11_.eval (.tmp 8), a11_.eval (.tmp 9), a11_.eval (.tmp 10), a11_.eval (.tmp 11), a11_.eval (.tmp 12), a11_.eval (.tmp 13), a11_.eval (.tmp 14), a11_.eval (.tmp 15), a11_.eval (.tmp 16), a11_.eval (.tmp 17), a11_.eval (.tmp 18), a11_.eval (.tmp 19), a11_.eval (.tmp 20), a11_.eval (.tmp 21), a11_.eval (.tmp 22), a11_.eval (.tmp 23), a11_.eval (.tmp 24), a11_.eval (.tmp 25), a11_.eval (.tmp 26), a11_.eval (.tmp 27), a11_.eval (.tmp 28), a11_.eval (.tmp 29), a11_.eval (.tmp 30), a11_.eval (.tmp 31), a11_.eval (.tmp 32), a11_.eval (.tmp 33), a11_.eval (.tmp 34), a11_.eval (.tmp 35), a11_.eval (.tmp 36), a11_.eval (.tmp 37), a11_.eval (.tmp 38), a11_.eval (.tmp 39), a11_.eval (.tmp 40), a11_.eval (.tmp 41), a11_.eval (.tmp 42), a11_.eval (.tmp 43), a11_.eval (.tmp 44), a11_.eval (.tmp 45), a11_.eval (.tmp 46), a11_.eval (.tmp 47), a11_.eval (.tmp 48), a11_.eval (.tmp 49), a11_.eval (.tmp 50), a11_.eval (.tmp 51), a11_.eval (.tmp 52), a11_.eval (.tmp 53), a11_.eval (.tmp 54), a11_.eval (.tmp 55), a11_.eval (.tmp 56), a11_.eval (.tmp 57), a11_.eval (.tmp 58), a11_.eval (.tmp 59), a11_.eval (.tmp 60), a11_.eval (.tmp 61), a11_.eval (.tmp 62), a11_.eval (.tmp 63), a11_.eval (.tmp 64), a11_.eval (.tmp 65), a11_.eval (.tmp 66), a11_.eval (.tmp 67), a11_.eval (.tmp 68), a11_.eval (.tmp 69), a11_.eval (.tmp 70), a11_.eval (.tmp 71), a11_.eval (.tmp 72), a11_.eval (.tmp 73), a11_.eval (.tmp 74), a11_.eval (.tmp 75), a11_.eval (.tmp 76), a11_.eval (.tmp 77), a11_.eval (.tmp 78), a11_.eval (.tmp 79), a11_.eval (.tmp 80), a11_.eval (.tmp 81), a11_.eval (.tmp 82), a11_.eval (.tmp 83), a11_.eval (.tmp 84), a11_.eval (.tmp 85), a11_.eval (.tmp 86), a11_.eval (.tmp 87), a11_.eval (.tmp 88), a11_.eval (.tmp 89), a11_.eval (.tmp 90), a11_.eval (.tmp 91), a11_.eval (.tmp 92), a11_.eval (.tmp 93), a11_.eval (.tmp 94), a11_.eval (.tmp 95), a11_.eval (.tmp 96), a11_.eval (.tmp 97), a11_.eval (.tmp 98), a11_.eval (.tmp 99), a11_.eval (.tmp 100), a11_.eval (.tmp 101), a11_.eval (.tmp 102), a11_.eval (.tmp 103), a11_.eval (.tmp 104), a11_.eval (.tmp 105), a11_.eval (.tmp 106), a11_.eval (.tmp 107), a11_.eval (.tmp 108), a11_.eval (.tmp 109), a11_.eval (.tmp 110), a11_.eval (.tmp 111), a11_.eval (.tmp 112), a11_.eval (.tmp 113), a11_.eval (.tmp 114), a11_.eval (.tmp 115), a11_.eval (.tmp 116), a11_.eval (.tmp 117), a11_.eval (.tmp 118), a11_.eval (.tmp 119), a11_.eval (.tmp 120), a11_.eval (.tmp 121), a11_.eval (.tmp 122), a11_.eval (.tmp 123), a11_.eval (.tmp 124), a11_.eval (.tmp 125), a11_.eval (.tmp 126), a11_.eval (.tmp 127), a11_.eval (.tmp 128), a11_.eval (.tmp 129), a11_.eval (.tmp 130), a11_.eval (.tmp 131), a11_.eval (.tmp 132), a11_.eval (.tmp 133), a11_.eval (.tmp 134), a11_.eval (.tmp 135), a11_.eval (.tmp 136), a11_.eval (.tmp 137), a11_.eval (.tmp 138), a11_.eval (.tmp 139), a11_.eval (.tmp 140), a11_.eval (.tmp 141), a11_.eval (.tmp 142), a11_.eval (.tmp 143), a11_.eval (.tmp 144), a11_.eval (.tmp 145), a11_.eval (.tmp 146), a11_.eval (.tmp 147), a11_.eval (.tmp 148), a11_.eval (.tmp 149), a11_.eval (.tmp 150), a11_.eval (.tmp 151), a11_.eval (.tmp 152), a11_.eval (.tmp 153), a11_.eval (.tmp 154), a11_.eval (.tmp 155), a11_.eval (.tmp 156), a11_.eval (.tmp 157), a11_.eval (.tmp 158), a11_.eval (.tmp 159), a11_.eval (.tmp 160), a11_.eval (.tmp 161), a11_.eval (.tmp 162), a11_.eval (.tmp 163), a11_.eval (.tmp 164), a11_.eval (.tmp 165), a11_.eval (.tmp 166), a11_.eval (.tmp 167), a11_.eval (.tmp 168), a11_.eval (.tmp 169), a11_.eval (.tmp 170), a11_.eval (.tmp 171), a11_.eval (.tmp 172), a11_.eval (.tmp 173), ⟨kj2, ((((((((((((a0_11.toList != a1_11.toList) || (a0_12 != a1_12)) || (a0_13 != a1_13)) || (a0_14 != a1_14)) || (a0_15 != a1_15)) || (a0_16 != a1_16)) || (a0_17 != a1_17)) || (a0_18 != a1_18)) || (a0_19.toList != a1_19.toList)) || (a0_20.toList != a1_20.toList)) || (a0_22 != a1_22)) || (a0_23.toList != a1_23.toList)), hst_.so, ⟨HJ_⟩, ⟨Nat.le_refl _⟩, ⟨BK101.out⟩, ⟨BK102.out⟩, ⟨HB.out⟩⟩, e2_⟩)
        case rest =>
          clear HC50
          try clear c1
          try clear c2
          try clear p2
          try clear c4
          try clear c6
          try clear c6b0
          try clear c6b1
          try clear c7
          try clear c7b0
          try clear c7b1
          try clear c8
          try clear c24
          try clear c43
          try clear c46
          try clear c49
          obtain ⟨kq, x161_49, rfl, HA, HJ49, BK101, BK102, HB⟩ := hcut
          cases kq with
          | zero => exact absurd HA.out (by simp [roadbookref07_Same.j1])
          | succ kj49 =>
            have H := HA.out
            clear HA
            simp only [roadbookref07_Same.j1] at H
            by_cases c98 : x161_49 = true
            · subst c98
              have H1 : (some false) = some r := by rw [if_pos rfl] at H; exact H
              clear H
              have H := H1
              clear H1
              obtain rfl := Option.some.inj H
              go_wp2
              go_ret
              exact ⟨by first | rfl | (simp [errW_none, errW_some] <;> rfl) | (simp [*, errW_none, errW_some] <;> rfl), by repeat (first | (with_reducible first | exact HB.out | apply below_alloc | apply pw_below_drewN | apply below_drew1 | refine below_set ?_ GE101.out | refine below_set ?_ GE102.out) | exact HB.out)⟩
            · replace c98 := Bool.eq_false_iff.mpr c98
              subst c98
              have H1 : ((roadbookref07_dests.f kj49 l0_21 l1_21).bind fun t103 => (if t103 = true then ((roadbookref07_subs.f kj49 l0_24 l1_24).bind fun t104 => (some t104)) else (some false))) = some r := by rw [if_neg (show ¬ (false = true) by decide)] at H; exact H
              clear H
              have H := H1
              clear H1
              replace H := Option.bind_eq_some_iff.mp H
              obtain ⟨t103, A990, H⟩ := H
              replace H : (if t103 = true then ((roadbookref07_subs.f kj49 l0_24 l1_24).bind fun t104 => (some t104)) else (some false)) = some r := H
              have A99 := Aside0.mk A990
              clear A990
              by_cases c100 : t103 = true
              · subst c100
                have H1 : ((roadbookref07_subs.f kj49 l0_24 l1_24).bind fun t104 => (some t104)) = some r := by rw [if_pos rfl] at H; exact H
                clear H
                have H := H1
                clear H1
                replace H := Option.bind_eq_some_iff.mp H
                obtain ⟨t104, A1010, H⟩ := H
                replace H : (some t104) = some r := H
                have A101 := Aside0.mk A1010
                clear A1010
                obtain rfl := Option.some.inj H
                have hnb102 := NB101_102.out
                have hnc102 := NB102_101.out
                obtain ⟨-, -, -, -, -, -, -, -, -, -, -, -, -, -, -, -, -, -, -, -, -, hcz103_21, -, -, hcz103_24, -, -, -, -, -, -, -, -, -, -, -, -, -, -, -, -, -, -, -, -, -, -, -, -, -⟩ := cells_25 BK101.out
                obtain ⟨-, -, -, -, -, -, -, -, -, -, -, -, -, -, -, -, -, -, -, -, -, hcz104_21, -, -, hcz104_24, -, -, -, -, -, -, -, -, -, -, -, -, -, -, -, -, -, -, -, -, -, -, -, -, -⟩ := cells_25 BK102.out
                go_wp2_with (first | ((with_reducible refine gate_callee (f := 65) rfl ?_); refine goesL_ (some 166) rfl rfl Try.func65 (by kernel_rfl) rfl #[.slice A0_21 l0_21.length c0_21, .slice A1_21 l1_21.length c1_21] rfl (by (try simp only [List.map_toArray, List.map_cons, List.map_nil]); first | done | rfl | (simp only [List.length_drop, List.length_take]; rfl)) ?_; (with_reducible refine (roadbookref07_dests.calls kj49 _ _ l0_21 _ _ l1_21 true _ ?side1 ?side2 ?side3 ?side4 A99.out).mono ?_); (case side1 => repeat (first | exact (Kd.C_below HR0_21.out HB.out) | (with_reducible refine Kd.C_alloc ?_ _) | (with_reducible refine Kd.C_drewN ?_ _) | (with_reducible refine Kd.C_drew ?_))); (case side2 => exact HC0_21.out); (case side3 => repeat (first | exact (Kd.C_below HR1_21.out HB.out) | (with_reducible refine Kd.C_alloc ?_ _) | (with_reducible refine Kd.C_drewN ?_ _) | (with_reducible refine Kd.C_drew ?_))); (case side4 => exact HC1_21.out); rintro e w' ⟨rfl, ⟨nd, rfl⟩⟩; refine ⟨_, rfl, ?_⟩) | (go_at_call 66; (with_reducible refine (roadbookref07_subs.calls kj49 _ _ l0_24 _ _ l1_24 t104 _ ?side1 ?side2 ?side3 ?side4 A101.out).mono ?_); (case side1 => repeat (first | exact (Kd.C_below HR0_24.out (by repeat (first | (with_reducible first | exact HB.out | apply below_alloc | apply pw_below_drewN | apply below_drew1 | refine below_set ?_ GE101.out | refine below_set ?_ GE102.out) | exact HB.out))) | (with_reducible refine Kd.C_alloc ?_ _) | (with_reducible refine Kd.C_drewN ?_ _) | (with_reducible refine Kd.C_drew ?_))); (case side2 => exact HC0_24.out); (case side3 => repeat (first | exact (Kd.C_below HR1_24.out (by repeat (first | (with_reducible first | exact HB.out | apply below_alloc | apply pw_below_drewN | apply below_drew1 | refine below_set ?_ GE101.out | refine below_set ?_ GE102.out) | exact HB.out))) | (with_reducible refine Kd.C_alloc ?_ _) | (with_reducible refine Kd.C_drewN ?_ _) | (with_reducible refine Kd.C_drew ?_))); (case side4 => exact HC1_24.out); rintro e w' ⟨rfl, ⟨nd, rfl⟩⟩))
                go_ret
                exact ⟨by first | rfl | (simp [errW_none, errW_some] <;> rfl) | (simp [*, errW_none, errW_some] <;> rfl), by repeat (first | (with_reducible first | exact HB.out | apply below_alloc | apply pw_below_drewN | apply below_drew1 | refine below_set ?_ GE101.out | refine below_set ?_ GE102.out) | exact HB.out)⟩
              · replace c100 := Bool.eq_false_iff.mpr c100
                subst c100
                have H1 : (some false) = some r := by rw [if_neg (show ¬ (false = true) by decide)] at H; exact H
                clear H
                have H := H1
                clear H1
                obtain rfl := Option.some.inj H
                have hnb105 := NB101_102.out
                have hnc105 := NB102_101.out
                obtain ⟨-, -, -, -, -, -, -, -, -, -, -, -, -, -, -, -, -, -, -, -, -, hcz106_21, -, -, hcz106_24, -, -, -, -, -, -, -, -, -, -, -, -, -, -, -, -, -, -, -, -, -, -, -, -, -⟩ := cells_25 BK101.out
                obtain ⟨-, -, -, -, -, -, -, -, -, -, -, -, -, -, -, -, -, -, -, -, -, hcz107_21, -, -, hcz107_24, -, -, -, -, -, -, -, -, -, -, -, -, -, -, -, -, -, -, -, -, -, -, -, -, -⟩ := cells_25 BK102.out
                go_wp2_with (first | ((with_reducible refine gate_callee (f := 65) rfl ?_); refine goesL_ (some 166) rfl rfl Try.func65 (by kernel_rfl) rfl #[.slice A0_21 l0_21.length c0_21, .slice A1_21 l1_21.length c1_21] rfl (by (try simp only [List.map_toArray, List.map_cons, List.map_nil]); first | done | rfl | (simp only [List.length_drop, List.length_take]; rfl)) ?_; (with_reducible refine (roadbookref07_dests.calls kj49 _ _ l0_21 _ _ l1_21 false _ ?side1 ?side2 ?side3 ?side4 A99.out).mono ?_); (case side1 => repeat (first | exact (Kd.C_below HR0_21.out HB.out) | (with_reducible refine Kd.C_alloc ?_ _) | (with_reducible refine Kd.C_drewN ?_ _) | (with_reducible refine Kd.C_drew ?_))); (case side2 => exact HC0_21.out); (case side3 => repeat (first | exact (Kd.C_below HR1_21.out HB.out) | (with_reducible refine Kd.C_alloc ?_ _) | (with_reducible refine Kd.C_drewN ?_ _) | (with_reducible refine Kd.C_drew ?_))); (case side4 => exact HC1_21.out); rintro e w' ⟨rfl, ⟨nd, rfl⟩⟩; refine ⟨_, rfl, ?_⟩))
                go_ret
                exact ⟨by first | rfl | (simp [errW_none, errW_some] <;> rfl) | (simp [*, errW_none, errW_some] <;> rfl), by repeat (first | (with_reducible first | exact HB.out | apply below_alloc | apply pw_below_drewN | apply below_drew1 | refine below_set ?_ GE101.out | refine below_set ?_ GE102.out) | exact HB.out)⟩

end Go.Proofs.Ytccjakjjaemmkaa.PR
