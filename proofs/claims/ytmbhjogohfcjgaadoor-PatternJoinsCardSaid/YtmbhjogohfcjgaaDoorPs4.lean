/- The walk of (Section).shape: written by wip/tools/genshape.py: a theorem for each way through its switch. -/
import Derived.Test.YtmbhjogohfcjgaaDoorPs3
namespace Go.Proofs.YtmbhjogohfcjgaaDoor.P
open Go.RowKit Go.Proofs.YtmbhjogohfcjgaaDoorW.PrintWords Go.Proofs.YtmbhjogohfcjgaaDoorW.PrintLast Go.Proofs.YtmbhjogohfcjgaaDoorW.PrintMore
set_option linter.unusedVariables false
set_option linter.unusedSimpArgs false
structure ShpB (n2 n3 n4 n5 n6 n7 n8 n9 : Int) : Prop where
 a2 : 0 ≤ n2 ∧ n2 ≤ 1000000
 a3 : 0 ≤ n3 ∧ n3 ≤ 1000000
 a4 : 0 ≤ n4 ∧ n4 ≤ 1000000
 a5 : 0 ≤ n5 ∧ n5 ≤ 1000000
 a6 : 0 ≤ n6 ∧ n6 ≤ 1000000
 a7 : 0 ≤ n7 ∧ n7 ≤ 1000000
 a8 : 0 ≤ n8 ∧ n8 ≤ 1000000
 a9 : 0 ≤ n9 ∧ n9 ≤ 1000000
set_option maxRecDepth 100000 in
set_option maxHeartbeats 4000000 in
theorem shape_w0 (A0 : Option Addr) (c0 m : Nat) (b : Bool) (sc n0 n1 n2 n3 n4 n5 n6 n7 n8 n9 : Int) (w : World) (hb : ShpB n2 n3 n4 n5 n6 n7 n8 n9) (t1 : decide (0 < n7 + n8) = false) (t3 : (n7 == 1) = false) (t5 : (n7 == 0) = true) (t6 : decide (0 < n8) = false) (t4 : (n8 == 0) = true) (t8 : (n2 + n3 + n4 + n5 + n6 == 0) = true) :
  Calls Tryd.prog 52 #[.agg #[.slice A0 m c0, .bool b, .int .i64 sc], .agg #[.int .i64 n0, .int .i64 n1, .int .i64 n2, .int .i64 n3, .int .i64 n4, .int .i64 n5, .int .i64 n6, .int .i64 n7, .int .i64 n8, .int .i64 n9]] w fun e w' => e = .returned (.int .i64 1) ∧ Below w.heap.size w w' := by
 obtain ⟨⟨a2, b2⟩, ⟨a3, b3⟩, ⟨a4, b4⟩, ⟨a5, b5⟩, ⟨a6, b6⟩, ⟨a7, b7⟩, ⟨a8, b8⟩, ⟨a9, b9⟩⟩ := hb
 go_enter Tryd.func52, Tryd.ntmps52
 go_wp2
 go_ret
 exact Z36
set_option maxRecDepth 100000 in
set_option maxHeartbeats 4000000 in
theorem shape_w1 (A0 : Option Addr) (c0 m : Nat) (b : Bool) (sc n0 n1 n2 n3 n4 n5 n6 n7 n8 n9 : Int) (w : World) (hb : ShpB n2 n3 n4 n5 n6 n7 n8 n9) (t1 : decide (0 < n7 + n8) = true) (t2 : decide (0 < n2 + n3 + n4 + n5 + n6) = false) (t3 : (n7 == 1) = false) (t5 : (n7 == 0) = true) (t6 : decide (0 < n8) = true) (t7 : (n9 == 0) = true) :
  Calls Tryd.prog 52 #[.agg #[.slice A0 m c0, .bool b, .int .i64 sc], .agg #[.int .i64 n0, .int .i64 n1, .int .i64 n2, .int .i64 n3, .int .i64 n4, .int .i64 n5, .int .i64 n6, .int .i64 n7, .int .i64 n8, .int .i64 n9]] w fun e w' => e = .returned (.int .i64 6) ∧ Below w.heap.size w w' := by
 obtain ⟨⟨a2, b2⟩, ⟨a3, b3⟩, ⟨a4, b4⟩, ⟨a5, b5⟩, ⟨a6, b6⟩, ⟨a7, b7⟩, ⟨a8, b8⟩, ⟨a9, b9⟩⟩ := hb
 go_enter Tryd.func52, Tryd.ntmps52
 go_wp2
 go_ret
 exact Z36
set_option maxRecDepth 100000 in
set_option maxHeartbeats 4000000 in
theorem shape_w2 (A0 : Option Addr) (c0 m : Nat) (b : Bool) (sc n0 n1 n2 n3 n4 n5 n6 n7 n8 n9 : Int) (w : World) (hb : ShpB n2 n3 n4 n5 n6 n7 n8 n9) (t1 : decide (0 < n7 + n8) = true) (t2 : decide (0 < n2 + n3 + n4 + n5 + n6) = false) (t3 : (n7 == 1) = false) (t5 : (n7 == 0) = true) (t6 : decide (0 < n8) = true) (t7 : (n9 == 0) = false) (t4 : (n8 == 0) = false) (t9 : (n6 == 1) = false) (t11 : (n6 == 0) = true) (t12 : decide (0 < n2) = false) :
  Calls Tryd.prog 52 #[.agg #[.slice A0 m c0, .bool b, .int .i64 sc], .agg #[.int .i64 n0, .int .i64 n1, .int .i64 n2, .int .i64 n3, .int .i64 n4, .int .i64 n5, .int .i64 n6, .int .i64 n7, .int .i64 n8, .int .i64 n9]] w fun e w' => e = .returned (.int .i64 0) ∧ Below w.heap.size w w' := by
 obtain ⟨⟨a2, b2⟩, ⟨a3, b3⟩, ⟨a4, b4⟩, ⟨a5, b5⟩, ⟨a6, b6⟩, ⟨a7, b7⟩, ⟨a8, b8⟩, ⟨a9, b9⟩⟩ := hb
 go_enter Tryd.func52, Tryd.ntmps52
 go_wp2
 go_ret
 exact Z36
set_option maxRecDepth 100000 in
set_option maxHeartbeats 4000000 in
theorem shape_w3 (A0 : Option Addr) (c0 m : Nat) (b : Bool) (sc n0 n1 n2 n3 n4 n5 n6 n7 n8 n9 : Int) (w : World) (hb : ShpB n2 n3 n4 n5 n6 n7 n8 n9) (t1 : decide (0 < n7 + n8) = true) (t2 : decide (0 < n2 + n3 + n4 + n5 + n6) = false) (t3 : (n7 == 1) = true) (t4 : (n8 == 0) = true) :
  Calls Tryd.prog 52 #[.agg #[.slice A0 m c0, .bool b, .int .i64 sc], .agg #[.int .i64 n0, .int .i64 n1, .int .i64 n2, .int .i64 n3, .int .i64 n4, .int .i64 n5, .int .i64 n6, .int .i64 n7, .int .i64 n8, .int .i64 n9]] w fun e w' => e = .returned (.int .i64 5) ∧ Below w.heap.size w w' := by
 obtain ⟨⟨a2, b2⟩, ⟨a3, b3⟩, ⟨a4, b4⟩, ⟨a5, b5⟩, ⟨a6, b6⟩, ⟨a7, b7⟩, ⟨a8, b8⟩, ⟨a9, b9⟩⟩ := hb
 go_enter Tryd.func52, Tryd.ntmps52
 go_wp2
 go_ret
 exact Z36
set_option maxRecDepth 100000 in
set_option maxHeartbeats 4000000 in
theorem shape_w4 (A0 : Option Addr) (c0 m : Nat) (b : Bool) (sc n0 n1 n2 n3 n4 n5 n6 n7 n8 n9 : Int) (w : World) (hb : ShpB n2 n3 n4 n5 n6 n7 n8 n9) (t1 : decide (0 < n7 + n8) = true) (t2 : decide (0 < n2 + n3 + n4 + n5 + n6) = false) (t3 : (n7 == 1) = true) (t4 : (n8 == 0) = false) (t5 : (n7 == 0) = false) (t9 : (n6 == 1) = false) (t11 : (n6 == 0) = true) (t12 : decide (0 < n2) = false) :
  Calls Tryd.prog 52 #[.agg #[.slice A0 m c0, .bool b, .int .i64 sc], .agg #[.int .i64 n0, .int .i64 n1, .int .i64 n2, .int .i64 n3, .int .i64 n4, .int .i64 n5, .int .i64 n6, .int .i64 n7, .int .i64 n8, .int .i64 n9]] w fun e w' => e = .returned (.int .i64 0) ∧ Below w.heap.size w w' := by
 obtain ⟨⟨a2, b2⟩, ⟨a3, b3⟩, ⟨a4, b4⟩, ⟨a5, b5⟩, ⟨a6, b6⟩, ⟨a7, b7⟩, ⟨a8, b8⟩, ⟨a9, b9⟩⟩ := hb
 go_enter Tryd.func52, Tryd.ntmps52
 go_wp2
 go_ret
 exact Z36
set_option maxRecDepth 100000 in
set_option maxHeartbeats 4000000 in
theorem shape_w5 (A0 : Option Addr) (c0 m : Nat) (b : Bool) (sc n0 n1 n2 n3 n4 n5 n6 n7 n8 n9 : Int) (w : World) (hb : ShpB n2 n3 n4 n5 n6 n7 n8 n9) (t1 : decide (0 < n7 + n8) = true) (t2 : decide (0 < n2 + n3 + n4 + n5 + n6) = false) (t3 : (n7 == 1) = false) (t5 : (n7 == 0) = false) (t9 : (n6 == 1) = false) (t11 : (n6 == 0) = true) (t12 : decide (0 < n2) = false) :
  Calls Tryd.prog 52 #[.agg #[.slice A0 m c0, .bool b, .int .i64 sc], .agg #[.int .i64 n0, .int .i64 n1, .int .i64 n2, .int .i64 n3, .int .i64 n4, .int .i64 n5, .int .i64 n6, .int .i64 n7, .int .i64 n8, .int .i64 n9]] w fun e w' => e = .returned (.int .i64 0) ∧ Below w.heap.size w w' := by
 obtain ⟨⟨a2, b2⟩, ⟨a3, b3⟩, ⟨a4, b4⟩, ⟨a5, b5⟩, ⟨a6, b6⟩, ⟨a7, b7⟩, ⟨a8, b8⟩, ⟨a9, b9⟩⟩ := hb
 go_enter Tryd.func52, Tryd.ntmps52
 go_wp2
 go_ret
 exact Z36
set_option maxRecDepth 100000 in
set_option maxHeartbeats 4000000 in
theorem shape_w7 (A0 : Option Addr) (c0 m : Nat) (b : Bool) (sc n0 n1 n2 n3 n4 n5 n6 n7 n8 n9 : Int) (w : World) (hb : ShpB n2 n3 n4 n5 n6 n7 n8 n9) (t1 : decide (0 < n7 + n8) = true) (t2 : decide (0 < n2 + n3 + n4 + n5 + n6) = true) :
  Calls Tryd.prog 52 #[.agg #[.slice A0 m c0, .bool b, .int .i64 sc], .agg #[.int .i64 n0, .int .i64 n1, .int .i64 n2, .int .i64 n3, .int .i64 n4, .int .i64 n5, .int .i64 n6, .int .i64 n7, .int .i64 n8, .int .i64 n9]] w fun e w' => e = .returned (.int .i64 0) ∧ Below w.heap.size w w' := by
 obtain ⟨⟨a2, b2⟩, ⟨a3, b3⟩, ⟨a4, b4⟩, ⟨a5, b5⟩, ⟨a6, b6⟩, ⟨a7, b7⟩, ⟨a8, b8⟩, ⟨a9, b9⟩⟩ := hb
 go_enter Tryd.func52, Tryd.ntmps52
 go_wp2
 go_ret
 exact Z36
set_option maxRecDepth 100000 in
set_option maxHeartbeats 4000000 in
theorem shape_w8 (A0 : Option Addr) (c0 m : Nat) (b : Bool) (sc n0 n1 n2 n3 n4 n5 n6 n7 n8 n9 : Int) (w : World) (hb : ShpB n2 n3 n4 n5 n6 n7 n8 n9) (t1 : decide (0 < n7 + n8) = false) (t3 : (n7 == 1) = false) (t5 : (n7 == 0) = true) (t6 : decide (0 < n8) = false) (t4 : (n8 == 0) = true) (t8 : (n2 + n3 + n4 + n5 + n6 == 0) = false) (t9 : (n6 == 1) = false) (t11 : (n6 == 0) = false) :
  Calls Tryd.prog 52 #[.agg #[.slice A0 m c0, .bool b, .int .i64 sc], .agg #[.int .i64 n0, .int .i64 n1, .int .i64 n2, .int .i64 n3, .int .i64 n4, .int .i64 n5, .int .i64 n6, .int .i64 n7, .int .i64 n8, .int .i64 n9]] w fun e w' => e = .returned (.int .i64 0) ∧ Below w.heap.size w w' := by
 obtain ⟨⟨a2, b2⟩, ⟨a3, b3⟩, ⟨a4, b4⟩, ⟨a5, b5⟩, ⟨a6, b6⟩, ⟨a7, b7⟩, ⟨a8, b8⟩, ⟨a9, b9⟩⟩ := hb
 go_enter Tryd.func52, Tryd.ntmps52
 go_wp2
 go_ret
 exact Z36
set_option maxRecDepth 100000 in
set_option maxHeartbeats 4000000 in
theorem shape_w9 (A0 : Option Addr) (c0 m : Nat) (b : Bool) (sc n0 n1 n2 n3 n4 n5 n6 n7 n8 n9 : Int) (w : World) (hb : ShpB n2 n3 n4 n5 n6 n7 n8 n9) (t1 : decide (0 < n7 + n8) = false) (t3 : (n7 == 1) = false) (t5 : (n7 == 0) = true) (t6 : decide (0 < n8) = false) (t4 : (n8 == 0) = true) (t8 : (n2 + n3 + n4 + n5 + n6 == 0) = false) (t9 : (n6 == 1) = false) (t11 : (n6 == 0) = true) (t12 : decide (0 < n2) = false) :
  Calls Tryd.prog 52 #[.agg #[.slice A0 m c0, .bool b, .int .i64 sc], .agg #[.int .i64 n0, .int .i64 n1, .int .i64 n2, .int .i64 n3, .int .i64 n4, .int .i64 n5, .int .i64 n6, .int .i64 n7, .int .i64 n8, .int .i64 n9]] w fun e w' => e = .returned (.int .i64 0) ∧ Below w.heap.size w w' := by
 obtain ⟨⟨a2, b2⟩, ⟨a3, b3⟩, ⟨a4, b4⟩, ⟨a5, b5⟩, ⟨a6, b6⟩, ⟨a7, b7⟩, ⟨a8, b8⟩, ⟨a9, b9⟩⟩ := hb
 go_enter Tryd.func52, Tryd.ntmps52
 go_wp2
 go_ret
 exact Z36
set_option maxRecDepth 100000 in
set_option maxHeartbeats 4000000 in
theorem shape_w10 (A0 : Option Addr) (c0 m : Nat) (b : Bool) (sc n0 n1 n2 n3 n4 n5 n6 n7 n8 n9 : Int) (w : World) (hb : ShpB n2 n3 n4 n5 n6 n7 n8 n9) (t1 : decide (0 < n7 + n8) = false) (t3 : (n7 == 1) = false) (t5 : (n7 == 0) = true) (t6 : decide (0 < n8) = false) (t4 : (n8 == 0) = true) (t8 : (n2 + n3 + n4 + n5 + n6 == 0) = false) (t9 : (n6 == 1) = true) (t10 : (n3 + n4 + n5 == 0) = false) (t11 : (n6 == 0) = false) :
  Calls Tryd.prog 52 #[.agg #[.slice A0 m c0, .bool b, .int .i64 sc], .agg #[.int .i64 n0, .int .i64 n1, .int .i64 n2, .int .i64 n3, .int .i64 n4, .int .i64 n5, .int .i64 n6, .int .i64 n7, .int .i64 n8, .int .i64 n9]] w fun e w' => e = .returned (.int .i64 0) ∧ Below w.heap.size w w' := by
 obtain ⟨⟨a2, b2⟩, ⟨a3, b3⟩, ⟨a4, b4⟩, ⟨a5, b5⟩, ⟨a6, b6⟩, ⟨a7, b7⟩, ⟨a8, b8⟩, ⟨a9, b9⟩⟩ := hb
 go_enter Tryd.func52, Tryd.ntmps52
 go_wp2
 go_ret
 exact Z36
set_option maxRecDepth 100000 in
set_option maxHeartbeats 4000000 in
theorem shape_w12 (A0 : Option Addr) (c0 m : Nat) (b : Bool) (sc n0 n1 n2 n3 n4 n5 n6 n7 n8 n9 : Int) (w : World) (hb : ShpB n2 n3 n4 n5 n6 n7 n8 n9) (t1 : decide (0 < n7 + n8) = false) (t3 : (n7 == 1) = false) (t5 : (n7 == 0) = true) (t6 : decide (0 < n8) = false) (t4 : (n8 == 0) = true) (t8 : (n2 + n3 + n4 + n5 + n6 == 0) = false) (t9 : (n6 == 1) = false) (t11 : (n6 == 0) = true) (t12 : decide (0 < n2) = true) (t13 : decide (n3 ≤ 1) = true) (t14 : decide (n4 ≤ 1) = true) (t15 : decide (n5 ≤ 1) = false) :
  Calls Tryd.prog 52 #[.agg #[.slice A0 m c0, .bool b, .int .i64 sc], .agg #[.int .i64 n0, .int .i64 n1, .int .i64 n2, .int .i64 n3, .int .i64 n4, .int .i64 n5, .int .i64 n6, .int .i64 n7, .int .i64 n8, .int .i64 n9]] w fun e w' => e = .returned (.int .i64 0) ∧ Below w.heap.size w w' := by
 obtain ⟨⟨a2, b2⟩, ⟨a3, b3⟩, ⟨a4, b4⟩, ⟨a5, b5⟩, ⟨a6, b6⟩, ⟨a7, b7⟩, ⟨a8, b8⟩, ⟨a9, b9⟩⟩ := hb
 go_enter Tryd.func52, Tryd.ntmps52
 go_wp2
 go_ret
 exact Z36
set_option maxRecDepth 100000 in
set_option maxHeartbeats 4000000 in
theorem shape_w13 (A0 : Option Addr) (c0 m : Nat) (b : Bool) (sc n0 n1 n2 n3 n4 n5 n6 n7 n8 n9 : Int) (w : World) (hb : ShpB n2 n3 n4 n5 n6 n7 n8 n9) (t1 : decide (0 < n7 + n8) = false) (t3 : (n7 == 1) = false) (t5 : (n7 == 0) = true) (t6 : decide (0 < n8) = false) (t4 : (n8 == 0) = true) (t8 : (n2 + n3 + n4 + n5 + n6 == 0) = false) (t9 : (n6 == 1) = false) (t11 : (n6 == 0) = true) (t12 : decide (0 < n2) = true) (t13 : decide (n3 ≤ 1) = true) (t14 : decide (n4 ≤ 1) = false) :
  Calls Tryd.prog 52 #[.agg #[.slice A0 m c0, .bool b, .int .i64 sc], .agg #[.int .i64 n0, .int .i64 n1, .int .i64 n2, .int .i64 n3, .int .i64 n4, .int .i64 n5, .int .i64 n6, .int .i64 n7, .int .i64 n8, .int .i64 n9]] w fun e w' => e = .returned (.int .i64 0) ∧ Below w.heap.size w w' := by
 obtain ⟨⟨a2, b2⟩, ⟨a3, b3⟩, ⟨a4, b4⟩, ⟨a5, b5⟩, ⟨a6, b6⟩, ⟨a7, b7⟩, ⟨a8, b8⟩, ⟨a9, b9⟩⟩ := hb
 go_enter Tryd.func52, Tryd.ntmps52
 go_wp2
 go_ret
 exact Z36
set_option maxRecDepth 100000 in
set_option maxHeartbeats 4000000 in
theorem shape_w14 (A0 : Option Addr) (c0 m : Nat) (b : Bool) (sc n0 n1 n2 n3 n4 n5 n6 n7 n8 n9 : Int) (w : World) (hb : ShpB n2 n3 n4 n5 n6 n7 n8 n9) (t1 : decide (0 < n7 + n8) = false) (t3 : (n7 == 1) = false) (t5 : (n7 == 0) = true) (t6 : decide (0 < n8) = false) (t4 : (n8 == 0) = true) (t8 : (n2 + n3 + n4 + n5 + n6 == 0) = false) (t9 : (n6 == 1) = false) (t11 : (n6 == 0) = true) (t12 : decide (0 < n2) = true) (t13 : decide (n3 ≤ 1) = false) :
  Calls Tryd.prog 52 #[.agg #[.slice A0 m c0, .bool b, .int .i64 sc], .agg #[.int .i64 n0, .int .i64 n1, .int .i64 n2, .int .i64 n3, .int .i64 n4, .int .i64 n5, .int .i64 n6, .int .i64 n7, .int .i64 n8, .int .i64 n9]] w fun e w' => e = .returned (.int .i64 0) ∧ Below w.heap.size w w' := by
 obtain ⟨⟨a2, b2⟩, ⟨a3, b3⟩, ⟨a4, b4⟩, ⟨a5, b5⟩, ⟨a6, b6⟩, ⟨a7, b7⟩, ⟨a8, b8⟩, ⟨a9, b9⟩⟩ := hb
 go_enter Tryd.func52, Tryd.ntmps52
 go_wp2
 go_ret
 exact Z36
end Go.Proofs.YtmbhjogohfcjgaaDoor.P
