/- Of the faultplan laws: a step that is not the last leaves a case that fits together, is no error and is nearer to the end: all cases tried. -/
import Derived.Test.YtfobedaepflidaaFPC
set_option linter.unusedSimpArgs false
set_option linter.unusedVariables false
namespace Go.Proofs.Ytfobedaepflidaa.F
open Go.RowKit Go.Proofs.YtfobedaepflidaaW.PrintWords Go.Proofs.YtfobedaepflidaaW.PrintLast

def badB (e : Nat) (w1 m0 a0 a3 a4 a5 a6 a8 a9 a10 a11 a12 a13 a14 a15 : Bool) : Bool := ((!a4 && (a3 || a5 || a6 || a13 || a14 || a15)) || ((m0 && !(e == 0)) || (((e == 0) && (a10 || a11 || (!a4 && a12))) || ((((e == 1) || (e == 3)) && (a12 || (!a4 && !a10))) || (((e == 2) && !a10) || ((a3 && a10) || ((a11 && !a10) || (((e == 3) && !a9) || ((a9 && ((e == 0) || (e == 2)) && !a12) || ((a8 && (!(e == 1) || w1 || (!a11 && !(a3 && a14)))) || false))))))))))
def ruleB (e : Nat) (w1 m0 a0 a3 a4 a5 a6 a8 a9 a10 a11 a12 a13 a14 a15 : Bool) : Nat := bif (a0 && w1) then 1 else (bif (a5 && !((e == 2) || (((e == 1) || (e == 3)) && a10))) then 2 else (bif ((e == 1) && (!a0 || a8)) then 3 else (bif (a6 && !((e == 2) || (((e == 1) || (e == 3)) && a10))) then 4 else (bif a9 then 5 else (bif ((e == 1) && a10 && a11) then 6 else (bif ((e == 1) && (a10 || !a3)) then 7 else (bif ((e == 1) && !a14 && a15) then 8 else (bif (e == 1) then 9 else (bif ((e == 2) && a12) then 10 else (bif (e == 2) then 11 else (bif !a4 then 12 else (bif a12 then 13 else (bif !a13 then 14 else (15))))))))))))))
def rankB (e : Nat) (w1 m0 a0 a3 a4 a5 a6 a8 a9 a10 a11 a12 a13 a14 a15 : Bool) : Nat := (bif a6 && !((e == 2) || (((e == 1) || (e == 3)) && a10)) then 1 else 0) + (bif a9 then 1 else 0) + (bif (e == 1) || (e == 3) then (bif (e == 1) && (!a0 || a8) then 0 else (bif a10 || !a3 then 1 else (bif !a14 && a15 then 2 else 1))) else (bif e == 2 then (bif a12 then 2 else 3) else (bif a12 then 3 else 4)))
def okB (r : Nat) (e : Nat) (w1 m0 a0 a3 a4 a5 a6 a8 a9 a10 a11 a12 a13 a14 a15 : Bool) : Bool := !badB e w1 m0 a0 a3 a4 a5 a6 a8 a9 a10 a11 a12 a13 a14 a15 && Nat.blt (rankB e w1 m0 a0 a3 a4 a5 a6 a8 a9 a10 a11 a12 a13 a14 a15) r && Nat.blt 2 (ruleB e w1 m0 a0 a3 a4 a5 a6 a8 a9 a10 a11 a12 a13 a14 a15)
def prB (i : Nat) (a3 a14 b10 b14 : Bool) : Bool := bif a3 then (!(i == 7) && !b10) else (!(i == 9) && (b14 == a14))
def stepB (e : Nat) (w1 m0 a0 a3 a4 a5 a6 a8 a9 a10 a11 a12 a13 a14 a15 : Bool) : Bool := match ruleB e w1 m0 a0 a3 a4 a5 a6 a8 a9 a10 a11 a12 a13 a14 a15 with
  | 4 => okB (rankB e w1 m0 a0 a3 a4 a5 a6 a8 a9 a10 a11 a12 a13 a14 a15) e w1 m0 a0 a3 a4 a5 false a8 a9 a10 a11 a12 a13 a14 a15 && prB 4 a3 a14 a10 a14
  | 5 => bif e == 3 then (okB (rankB e w1 m0 a0 a3 a4 a5 a6 a8 a9 a10 a11 a12 a13 a14 a15) 1 w1 m0 a0 a3 a4 a5 a6 a8 false a10 a11 a12 a13 a14 a15 && prB 5 a3 a14 a10 a14) else (okB (rankB e w1 m0 a0 a3 a4 a5 a6 a8 a9 a10 a11 a12 a13 a14 a15) e w1 m0 a0 a3 a4 a5 a6 a8 false a10 a11 a12 a13 a14 a15 && prB 5 a3 a14 a10 a14)
  | 6 => okB (rankB e w1 m0 a0 a3 a4 a5 a6 a8 a9 a10 a11 a12 a13 a14 a15) e w1 m0 a0 a3 a4 a5 a6 true a9 a10 a11 a12 a13 a14 a15 && prB 6 a3 a14 a10 a14
  | 7 => okB (rankB e w1 m0 a0 a3 a4 a5 a6 a8 a9 a10 a11 a12 a13 a14 a15) e w1 m0 a0 a3 a4 a5 a6 true a9 true true a12 a13 a14 a15 && prB 7 a3 a14 true a14
  | 8 => okB (rankB e w1 m0 a0 a3 a4 a5 a6 a8 a9 a10 a11 a12 a13 a14 a15) e w1 m0 a0 a3 a4 a5 a6 a8 a9 a10 a11 a12 a13 a14 false && prB 8 a3 a14 a10 a14
  | 9 => okB (rankB e w1 m0 a0 a3 a4 a5 a6 a8 a9 a10 a11 a12 a13 a14 a15) e w1 m0 a0 a3 a4 a5 a6 true a9 a10 a11 a12 a13 true a15 && prB 9 a3 a14 a10 true
  | 10 => okB (rankB e w1 m0 a0 a3 a4 a5 a6 a8 a9 a10 a11 a12 a13 a14 a15) 1 w1 m0 a0 a3 a4 a5 a6 (a11 && !w1) a9 a10 a11 false a13 a14 a15 && prB 10 a3 a14 a10 a14
  | 11 => okB (rankB e w1 m0 a0 a3 a4 a5 a6 a8 a9 a10 a11 a12 a13 a14 a15) e w1 m0 a0 a3 a4 a5 a6 a8 a9 a10 a11 true a13 a14 a15 && prB 11 a3 a14 a10 a14
  | 12 => okB (rankB e w1 m0 a0 a3 a4 a5 a6 a8 a9 a10 a11 a12 a13 a14 a15) 1 w1 false a0 a3 a4 a5 a6 (!w1) a9 true true a12 a13 a14 a15 && prB 12 a3 a14 true a14
  | 13 => okB (rankB e w1 m0 a0 a3 a4 a5 a6 a8 a9 a10 a11 a12 a13 a14 a15) 1 w1 false a0 a3 a4 a5 a6 a8 a9 a10 a11 false a13 a14 a15 && prB 13 a3 a14 a10 a14
  | 14 => okB (rankB e w1 m0 a0 a3 a4 a5 a6 a8 a9 a10 a11 a12 a13 a14 a15) e w1 m0 a0 a3 a4 a5 a6 a8 a9 a10 a11 true a13 a14 a15 && prB 14 a3 a14 a10 a14
  | 15 => okB (rankB e w1 m0 a0 a3 a4 a5 a6 a8 a9 a10 a11 a12 a13 a14 a15) e w1 m0 a0 a3 a4 a5 a6 a8 a9 a10 a11 true a13 a14 a15 && prB 15 a3 a14 a10 a14
  | _ => true
def allB (f : Bool → Bool) : Bool := f true && f false
theorem allB_of {f : Bool → Bool} (h : allB f = true) (b : Bool) : f b = true := by
  cases b
  · exact (Bool.and_eq_true_iff.mp h).2
  · exact (Bool.and_eq_true_iff.mp h).1
set_option maxRecDepth 100000 in
theorem all_0 : (allB fun w1 => allB fun m0 => allB fun a0 => allB fun a3 => allB fun a4 => allB fun a5 => allB fun a6 => allB fun a8 => allB fun a9 => allB fun a10 => allB fun a11 => allB fun a12 => allB fun a13 => allB fun a14 => allB fun a15 => badB 0 w1 m0 a0 a3 a4 a5 a6 a8 a9 a10 a11 a12 a13 a14 a15 || stepB 0 w1 m0 a0 a3 a4 a5 a6 a8 a9 a10 a11 a12 a13 a14 a15) = true := by decide +kernel
set_option maxRecDepth 100000 in
theorem all_1 : (allB fun w1 => allB fun m0 => allB fun a0 => allB fun a3 => allB fun a4 => allB fun a5 => allB fun a6 => allB fun a8 => allB fun a9 => allB fun a10 => allB fun a11 => allB fun a12 => allB fun a13 => allB fun a14 => allB fun a15 => badB 1 w1 m0 a0 a3 a4 a5 a6 a8 a9 a10 a11 a12 a13 a14 a15 || stepB 1 w1 m0 a0 a3 a4 a5 a6 a8 a9 a10 a11 a12 a13 a14 a15) = true := by decide +kernel
set_option maxRecDepth 100000 in
theorem all_2 : (allB fun w1 => allB fun m0 => allB fun a0 => allB fun a3 => allB fun a4 => allB fun a5 => allB fun a6 => allB fun a8 => allB fun a9 => allB fun a10 => allB fun a11 => allB fun a12 => allB fun a13 => allB fun a14 => allB fun a15 => badB 2 w1 m0 a0 a3 a4 a5 a6 a8 a9 a10 a11 a12 a13 a14 a15 || stepB 2 w1 m0 a0 a3 a4 a5 a6 a8 a9 a10 a11 a12 a13 a14 a15) = true := by decide +kernel
set_option maxRecDepth 100000 in
theorem all_3 : (allB fun w1 => allB fun m0 => allB fun a0 => allB fun a3 => allB fun a4 => allB fun a5 => allB fun a6 => allB fun a8 => allB fun a9 => allB fun a10 => allB fun a11 => allB fun a12 => allB fun a13 => allB fun a14 => allB fun a15 => badB 3 w1 m0 a0 a3 a4 a5 a6 a8 a9 a10 a11 a12 a13 a14 a15 || stepB 3 w1 m0 a0 a3 a4 a5 a6 a8 a9 a10 a11 a12 a13 a14 a15) = true := by decide +kernel
end Go.Proofs.Ytfobedaepflidaa.F
