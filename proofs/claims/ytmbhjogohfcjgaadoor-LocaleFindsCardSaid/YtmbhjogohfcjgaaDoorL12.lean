-- Laid by wip/tools/xprint.py, a program of this session's, over the kit's print. Lean checks it.
import Derived.Test.YtmbhjogohfcjgaaDoorL0
namespace Go.Proofs.YtmbhjogohfcjgaaDoor.L
open Go.RowKit Go.Proofs.YtmbhjogohfcjgaaDoorW.PrintWords Go.Proofs.YtmbhjogohfcjgaaDoorW.PrintLast Go.Proofs.YtmbhjogohfcjgaaDoorW.PrintMore
attribute [local go_sem] max2_int min2_int max_two min_two max_three min_three max_four min_four   -- for this text's walks alone
set_option linter.unusedVariables false
set_option linter.unusedSimpArgs false

/-! ### tabardref11_All: function 25 -/
def tabardref11_All.f  : Option ((List (S27))) := some (([(⟨(⟨#[99, 104]⟩ : ByteArray), (⟨#[46]⟩ : ByteArray), (⟨#[226, 128, 153]⟩ : ByteArray), (⟨#[59]⟩ : ByteArray), (⟨#[45]⟩ : ByteArray), (⟨#[37]⟩ : ByteArray), (⟨#[67, 72, 70]⟩ : ByteArray), true, true, 3⟩ : S27), (⟨(⟨#[100, 101]⟩ : ByteArray), (⟨#[44]⟩ : ByteArray), (⟨#[46]⟩ : ByteArray), (⟨#[59]⟩ : ByteArray), (⟨#[45]⟩ : ByteArray), (⟨#[37]⟩ : ByteArray), (⟨#[226, 130, 172]⟩ : ByteArray), false, true, 3⟩ : S27), (⟨(⟨#[101, 110]⟩ : ByteArray), (⟨#[46]⟩ : ByteArray), (⟨#[44]⟩ : ByteArray), (⟨#[44]⟩ : ByteArray), (⟨#[45]⟩ : ByteArray), (⟨#[37]⟩ : ByteArray), (⟨#[36]⟩ : ByteArray), true, false, 3⟩ : S27), (⟨(⟨#[102, 114]⟩ : ByteArray), (⟨#[44]⟩ : ByteArray), (⟨#[226, 128, 175]⟩ : ByteArray), (⟨#[59]⟩ : ByteArray), (⟨#[45]⟩ : ByteArray), (⟨#[37]⟩ : ByteArray), (⟨#[226, 130, 172]⟩ : ByteArray), false, true, 3⟩ : S27), (⟨(⟨#[104, 105]⟩ : ByteArray), (⟨#[46]⟩ : ByteArray), (⟨#[44]⟩ : ByteArray), (⟨#[44]⟩ : ByteArray), (⟨#[45]⟩ : ByteArray), (⟨#[37]⟩ : ByteArray), (⟨#[226, 130, 185]⟩ : ByteArray), true, false, 2⟩ : S27), (⟨(⟨#[115, 118]⟩ : ByteArray), (⟨#[44]⟩ : ByteArray), (⟨#[194, 160]⟩ : ByteArray), (⟨#[59]⟩ : ByteArray), (⟨#[226, 136, 146]⟩ : ByteArray), (⟨#[37]⟩ : ByteArray), (⟨#[107, 114]⟩ : ByteArray), false, true, 3⟩ : S27)] : List (S27)))
set_option maxHeartbeats 8000000 in
set_option maxRecDepth 100000 in
theorem tabardref11_All.calls  (r : List (S27)) (w : World) (h : tabardref11_All.f  = some r) :
    Calls Tryd.prog 25 #[] w fun e w' => ∃ v0_ : Value, e = .returned (v0_) ∧ Kd.R k27 27 w' w.heap.size (fun _ => True) v0_ r ∧ Below w.heap.size w w' := by
  have hu27 := Tryd.underlying27
  have HB := Aside0.mk (Below.refl w.heap.size w)
  have H : (some (([(⟨(⟨#[99, 104]⟩ : ByteArray), (⟨#[46]⟩ : ByteArray), (⟨#[226, 128, 153]⟩ : ByteArray), (⟨#[59]⟩ : ByteArray), (⟨#[45]⟩ : ByteArray), (⟨#[37]⟩ : ByteArray), (⟨#[67, 72, 70]⟩ : ByteArray), true, true, 3⟩ : S27), (⟨(⟨#[100, 101]⟩ : ByteArray), (⟨#[44]⟩ : ByteArray), (⟨#[46]⟩ : ByteArray), (⟨#[59]⟩ : ByteArray), (⟨#[45]⟩ : ByteArray), (⟨#[37]⟩ : ByteArray), (⟨#[226, 130, 172]⟩ : ByteArray), false, true, 3⟩ : S27), (⟨(⟨#[101, 110]⟩ : ByteArray), (⟨#[46]⟩ : ByteArray), (⟨#[44]⟩ : ByteArray), (⟨#[44]⟩ : ByteArray), (⟨#[45]⟩ : ByteArray), (⟨#[37]⟩ : ByteArray), (⟨#[36]⟩ : ByteArray), true, false, 3⟩ : S27), (⟨(⟨#[102, 114]⟩ : ByteArray), (⟨#[44]⟩ : ByteArray), (⟨#[226, 128, 175]⟩ : ByteArray), (⟨#[59]⟩ : ByteArray), (⟨#[45]⟩ : ByteArray), (⟨#[37]⟩ : ByteArray), (⟨#[226, 130, 172]⟩ : ByteArray), false, true, 3⟩ : S27), (⟨(⟨#[104, 105]⟩ : ByteArray), (⟨#[46]⟩ : ByteArray), (⟨#[44]⟩ : ByteArray), (⟨#[44]⟩ : ByteArray), (⟨#[45]⟩ : ByteArray), (⟨#[37]⟩ : ByteArray), (⟨#[226, 130, 185]⟩ : ByteArray), true, false, 2⟩ : S27), (⟨(⟨#[115, 118]⟩ : ByteArray), (⟨#[44]⟩ : ByteArray), (⟨#[194, 160]⟩ : ByteArray), (⟨#[59]⟩ : ByteArray), (⟨#[226, 136, 146]⟩ : ByteArray), (⟨#[37]⟩ : ByteArray), (⟨#[107, 114]⟩ : ByteArray), false, true, 3⟩ : S27)] : List (S27)))) = some r := h
  clear h
  obtain ⟨y243, hy243⟩ : ∃ y_ : List (S27), y_ = (([(⟨(⟨#[99, 104]⟩ : ByteArray), (⟨#[46]⟩ : ByteArray), (⟨#[226, 128, 153]⟩ : ByteArray), (⟨#[59]⟩ : ByteArray), (⟨#[45]⟩ : ByteArray), (⟨#[37]⟩ : ByteArray), (⟨#[67, 72, 70]⟩ : ByteArray), true, true, 3⟩ : S27), (⟨(⟨#[100, 101]⟩ : ByteArray), (⟨#[44]⟩ : ByteArray), (⟨#[46]⟩ : ByteArray), (⟨#[59]⟩ : ByteArray), (⟨#[45]⟩ : ByteArray), (⟨#[37]⟩ : ByteArray), (⟨#[226, 130, 172]⟩ : ByteArray), false, true, 3⟩ : S27), (⟨(⟨#[101, 110]⟩ : ByteArray), (⟨#[46]⟩ : ByteArray), (⟨#[44]⟩ : ByteArray), (⟨#[44]⟩ : ByteArray), (⟨#[45]⟩ : ByteArray), (⟨#[37]⟩ : ByteArray), (⟨#[36]⟩ : ByteArray), true, false, 3⟩ : S27), (⟨(⟨#[102, 114]⟩ : ByteArray), (⟨#[44]⟩ : ByteArray), (⟨#[226, 128, 175]⟩ : ByteArray), (⟨#[59]⟩ : ByteArray), (⟨#[45]⟩ : ByteArray), (⟨#[37]⟩ : ByteArray), (⟨#[226, 130, 172]⟩ : ByteArray), false, true, 3⟩ : S27), (⟨(⟨#[104, 105]⟩ : ByteArray), (⟨#[46]⟩ : ByteArray), (⟨#[44]⟩ : ByteArray), (⟨#[44]⟩ : ByteArray), (⟨#[45]⟩ : ByteArray), (⟨#[37]⟩ : ByteArray), (⟨#[226, 130, 185]⟩ : ByteArray), true, false, 2⟩ : S27), (⟨(⟨#[115, 118]⟩ : ByteArray), (⟨#[44]⟩ : ByteArray), (⟨#[194, 160]⟩ : ByteArray), (⟨#[59]⟩ : ByteArray), (⟨#[226, 136, 146]⟩ : ByteArray), (⟨#[37]⟩ : ByteArray), (⟨#[107, 114]⟩ : ByteArray), false, true, 3⟩ : S27)] : List (S27))) := ⟨_, rfl⟩
  replace H : (some y243) = some r := by first | (rw [hy243]; with_reducible exact H) | (have H2_ := (Option.bind_some _ _).symm.trans H; rw [hy243]; with_reducible exact H2_) | (have H2_ := (Option.bind_some _ _).symm.trans H; with_reducible exact H2_) | with_reducible exact H | (rw [hy243]; exact H) | exact H
  have Ny243 := Aside0.mk hy243
  clear hy243
  obtain rfl := Option.some.inj H
  go_enter Tryd.func25, Tryd.ntmps25
  go_wp2_with (first | ((with_reducible refine gate_dst (N := 7) rfl ?_); refine Kd.R_lit k27 _ 27 ?hg (N := 7) ?hd (xs := ([(⟨(⟨#[99, 104]⟩ : ByteArray), (⟨#[46]⟩ : ByteArray), (⟨#[226, 128, 153]⟩ : ByteArray), (⟨#[59]⟩ : ByteArray), (⟨#[45]⟩ : ByteArray), (⟨#[37]⟩ : ByteArray), (⟨#[67, 72, 70]⟩ : ByteArray), true, true, 3⟩ : S27), (⟨(⟨#[100, 101]⟩ : ByteArray), (⟨#[44]⟩ : ByteArray), (⟨#[46]⟩ : ByteArray), (⟨#[59]⟩ : ByteArray), (⟨#[45]⟩ : ByteArray), (⟨#[37]⟩ : ByteArray), (⟨#[226, 130, 172]⟩ : ByteArray), false, true, 3⟩ : S27), (⟨(⟨#[101, 110]⟩ : ByteArray), (⟨#[46]⟩ : ByteArray), (⟨#[44]⟩ : ByteArray), (⟨#[44]⟩ : ByteArray), (⟨#[45]⟩ : ByteArray), (⟨#[37]⟩ : ByteArray), (⟨#[36]⟩ : ByteArray), true, false, 3⟩ : S27), (⟨(⟨#[102, 114]⟩ : ByteArray), (⟨#[44]⟩ : ByteArray), (⟨#[226, 128, 175]⟩ : ByteArray), (⟨#[59]⟩ : ByteArray), (⟨#[45]⟩ : ByteArray), (⟨#[37]⟩ : ByteArray), (⟨#[226, 130, 172]⟩ : ByteArray), false, true, 3⟩ : S27), (⟨(⟨#[104, 105]⟩ : ByteArray), (⟨#[46]⟩ : ByteArray), (⟨#[44]⟩ : ByteArray), (⟨#[44]⟩ : ByteArray), (⟨#[45]⟩ : ByteArray), (⟨#[37]⟩ : ByteArray), (⟨#[226, 130, 185]⟩ : ByteArray), true, false, 2⟩ : S27), (⟨(⟨#[115, 118]⟩ : ByteArray), (⟨#[44]⟩ : ByteArray), (⟨#[194, 160]⟩ : ByteArray), (⟨#[59]⟩ : ByteArray), (⟨#[226, 136, 146]⟩ : ByteArray), (⟨#[37]⟩ : ByteArray), (⟨#[107, 114]⟩ : ByteArray), false, true, 3⟩ : S27)] : List (S27))) (inner := [.string (⟨#[99, 104]⟩ : ByteArray), .string (⟨#[46]⟩ : ByteArray), .string (⟨#[226, 128, 153]⟩ : ByteArray), .string (⟨#[59]⟩ : ByteArray), .string (⟨#[45]⟩ : ByteArray), .string (⟨#[37]⟩ : ByteArray), .string (⟨#[67, 72, 70]⟩ : ByteArray), .bool true, .bool true, .int .i64 3, .string (⟨#[100, 101]⟩ : ByteArray), .string (⟨#[44]⟩ : ByteArray), .string (⟨#[46]⟩ : ByteArray), .string (⟨#[59]⟩ : ByteArray), .string (⟨#[45]⟩ : ByteArray), .string (⟨#[37]⟩ : ByteArray), .string (⟨#[226, 130, 172]⟩ : ByteArray), .bool false, .bool true, .int .i64 3, .string (⟨#[101, 110]⟩ : ByteArray), .string (⟨#[46]⟩ : ByteArray), .string (⟨#[44]⟩ : ByteArray), .string (⟨#[44]⟩ : ByteArray), .string (⟨#[45]⟩ : ByteArray), .string (⟨#[37]⟩ : ByteArray), .string (⟨#[36]⟩ : ByteArray), .bool true, .bool false, .int .i64 3, .string (⟨#[102, 114]⟩ : ByteArray), .string (⟨#[44]⟩ : ByteArray), .string (⟨#[226, 128, 175]⟩ : ByteArray), .string (⟨#[59]⟩ : ByteArray), .string (⟨#[45]⟩ : ByteArray), .string (⟨#[37]⟩ : ByteArray), .string (⟨#[226, 130, 172]⟩ : ByteArray), .bool false, .bool true, .int .i64 3, .string (⟨#[104, 105]⟩ : ByteArray), .string (⟨#[46]⟩ : ByteArray), .string (⟨#[44]⟩ : ByteArray), .string (⟨#[44]⟩ : ByteArray), .string (⟨#[45]⟩ : ByteArray), .string (⟨#[37]⟩ : ByteArray), .string (⟨#[226, 130, 185]⟩ : ByteArray), .bool true, .bool false, .int .i64 2, .string (⟨#[115, 118]⟩ : ByteArray), .string (⟨#[44]⟩ : ByteArray), .string (⟨#[194, 160]⟩ : ByteArray), .string (⟨#[59]⟩ : ByteArray), .string (⟨#[226, 136, 146]⟩ : ByteArray), .string (⟨#[37]⟩ : ByteArray), .string (⟨#[107, 114]⟩ : ByteArray), .bool false, .bool true, .int .i64 3]) (ok := fun _ => True) (okp := fun _ => True) ?hr ?hp (fun _ hk => hk) trivial (Below.refl _ _) (Nat.le_refl _) (by simp) ?_; (case hd => rfl); (case hg => rfl); (case hr => first | (go_simp; done) | (go_simp; rfl)); (case hp => exact (Reps.c10 (show Kd.M k27 _ _ _ (⟨(⟨#[99, 104]⟩ : ByteArray), (⟨#[46]⟩ : ByteArray), (⟨#[226, 128, 153]⟩ : ByteArray), (⟨#[59]⟩ : ByteArray), (⟨#[45]⟩ : ByteArray), (⟨#[37]⟩ : ByteArray), (⟨#[67, 72, 70]⟩ : ByteArray), true, true, 3⟩ : S27) [.string (⟨#[99, 104]⟩ : ByteArray), .string (⟨#[46]⟩ : ByteArray), .string (⟨#[226, 128, 153]⟩ : ByteArray), .string (⟨#[59]⟩ : ByteArray), .string (⟨#[45]⟩ : ByteArray), .string (⟨#[37]⟩ : ByteArray), .string (⟨#[67, 72, 70]⟩ : ByteArray), .bool true, .bool true, .int .i64 3] from (k27_mkM _ _ _ (⟨(⟨#[99, 104]⟩ : ByteArray), (⟨#[46]⟩ : ByteArray), (⟨#[226, 128, 153]⟩ : ByteArray), (⟨#[59]⟩ : ByteArray), (⟨#[45]⟩ : ByteArray), (⟨#[37]⟩ : ByteArray), (⟨#[67, 72, 70]⟩ : ByteArray), true, true, 3⟩ : S27) )) (Reps.c10 (show Kd.M k27 _ _ _ (⟨(⟨#[100, 101]⟩ : ByteArray), (⟨#[44]⟩ : ByteArray), (⟨#[46]⟩ : ByteArray), (⟨#[59]⟩ : ByteArray), (⟨#[45]⟩ : ByteArray), (⟨#[37]⟩ : ByteArray), (⟨#[226, 130, 172]⟩ : ByteArray), false, true, 3⟩ : S27) [.string (⟨#[100, 101]⟩ : ByteArray), .string (⟨#[44]⟩ : ByteArray), .string (⟨#[46]⟩ : ByteArray), .string (⟨#[59]⟩ : ByteArray), .string (⟨#[45]⟩ : ByteArray), .string (⟨#[37]⟩ : ByteArray), .string (⟨#[226, 130, 172]⟩ : ByteArray), .bool false, .bool true, .int .i64 3] from (k27_mkM _ _ _ (⟨(⟨#[100, 101]⟩ : ByteArray), (⟨#[44]⟩ : ByteArray), (⟨#[46]⟩ : ByteArray), (⟨#[59]⟩ : ByteArray), (⟨#[45]⟩ : ByteArray), (⟨#[37]⟩ : ByteArray), (⟨#[226, 130, 172]⟩ : ByteArray), false, true, 3⟩ : S27) )) (Reps.c10 (show Kd.M k27 _ _ _ (⟨(⟨#[101, 110]⟩ : ByteArray), (⟨#[46]⟩ : ByteArray), (⟨#[44]⟩ : ByteArray), (⟨#[44]⟩ : ByteArray), (⟨#[45]⟩ : ByteArray), (⟨#[37]⟩ : ByteArray), (⟨#[36]⟩ : ByteArray), true, false, 3⟩ : S27) [.string (⟨#[101, 110]⟩ : ByteArray), .string (⟨#[46]⟩ : ByteArray), .string (⟨#[44]⟩ : ByteArray), .string (⟨#[44]⟩ : ByteArray), .string (⟨#[45]⟩ : ByteArray), .string (⟨#[37]⟩ : ByteArray), .string (⟨#[36]⟩ : ByteArray), .bool true, .bool false, .int .i64 3] from (k27_mkM _ _ _ (⟨(⟨#[101, 110]⟩ : ByteArray), (⟨#[46]⟩ : ByteArray), (⟨#[44]⟩ : ByteArray), (⟨#[44]⟩ : ByteArray), (⟨#[45]⟩ : ByteArray), (⟨#[37]⟩ : ByteArray), (⟨#[36]⟩ : ByteArray), true, false, 3⟩ : S27) )) (Reps.c10 (show Kd.M k27 _ _ _ (⟨(⟨#[102, 114]⟩ : ByteArray), (⟨#[44]⟩ : ByteArray), (⟨#[226, 128, 175]⟩ : ByteArray), (⟨#[59]⟩ : ByteArray), (⟨#[45]⟩ : ByteArray), (⟨#[37]⟩ : ByteArray), (⟨#[226, 130, 172]⟩ : ByteArray), false, true, 3⟩ : S27) [.string (⟨#[102, 114]⟩ : ByteArray), .string (⟨#[44]⟩ : ByteArray), .string (⟨#[226, 128, 175]⟩ : ByteArray), .string (⟨#[59]⟩ : ByteArray), .string (⟨#[45]⟩ : ByteArray), .string (⟨#[37]⟩ : ByteArray), .string (⟨#[226, 130, 172]⟩ : ByteArray), .bool false, .bool true, .int .i64 3] from (k27_mkM _ _ _ (⟨(⟨#[102, 114]⟩ : ByteArray), (⟨#[44]⟩ : ByteArray), (⟨#[226, 128, 175]⟩ : ByteArray), (⟨#[59]⟩ : ByteArray), (⟨#[45]⟩ : ByteArray), (⟨#[37]⟩ : ByteArray), (⟨#[226, 130, 172]⟩ : ByteArray), false, true, 3⟩ : S27) )) (Reps.c10 (show Kd.M k27 _ _ _ (⟨(⟨#[104, 105]⟩ : ByteArray), (⟨#[46]⟩ : ByteArray), (⟨#[44]⟩ : ByteArray), (⟨#[44]⟩ : ByteArray), (⟨#[45]⟩ : ByteArray), (⟨#[37]⟩ : ByteArray), (⟨#[226, 130, 185]⟩ : ByteArray), true, false, 2⟩ : S27) [.string (⟨#[104, 105]⟩ : ByteArray), .string (⟨#[46]⟩ : ByteArray), .string (⟨#[44]⟩ : ByteArray), .string (⟨#[44]⟩ : ByteArray), .string (⟨#[45]⟩ : ByteArray), .string (⟨#[37]⟩ : ByteArray), .string (⟨#[226, 130, 185]⟩ : ByteArray), .bool true, .bool false, .int .i64 2] from (k27_mkM _ _ _ (⟨(⟨#[104, 105]⟩ : ByteArray), (⟨#[46]⟩ : ByteArray), (⟨#[44]⟩ : ByteArray), (⟨#[44]⟩ : ByteArray), (⟨#[45]⟩ : ByteArray), (⟨#[37]⟩ : ByteArray), (⟨#[226, 130, 185]⟩ : ByteArray), true, false, 2⟩ : S27) )) (Reps.c10 (show Kd.M k27 _ _ _ (⟨(⟨#[115, 118]⟩ : ByteArray), (⟨#[44]⟩ : ByteArray), (⟨#[194, 160]⟩ : ByteArray), (⟨#[59]⟩ : ByteArray), (⟨#[226, 136, 146]⟩ : ByteArray), (⟨#[37]⟩ : ByteArray), (⟨#[107, 114]⟩ : ByteArray), false, true, 3⟩ : S27) [.string (⟨#[115, 118]⟩ : ByteArray), .string (⟨#[44]⟩ : ByteArray), .string (⟨#[194, 160]⟩ : ByteArray), .string (⟨#[59]⟩ : ByteArray), .string (⟨#[226, 136, 146]⟩ : ByteArray), .string (⟨#[37]⟩ : ByteArray), .string (⟨#[107, 114]⟩ : ByteArray), .bool false, .bool true, .int .i64 3] from (k27_mkM _ _ _ (⟨(⟨#[115, 118]⟩ : ByteArray), (⟨#[44]⟩ : ByteArray), (⟨#[194, 160]⟩ : ByteArray), (⟨#[59]⟩ : ByteArray), (⟨#[226, 136, 146]⟩ : ByteArray), (⟨#[37]⟩ : ByteArray), (⟨#[107, 114]⟩ : ByteArray), false, true, 3⟩ : S27) )) (Reps.none _ _)))))))); intro v244 w1 ho2 hb hg_ hnew_; clear hg_ hnew_; (first | rw [← Ny243.out] at ho2 | (simp only [Int.reduceToNat] at ho2; rw [← Ny243.out] at ho2)); have n0_ := Aside0.mk (Kd.R_lower ho2 (below_size (by repeat (first | (with_reducible first | exact HB.out | apply below_alloc | apply pw_below_drewN | apply below_drew1) | exact HB.out)))); have n1_ := Aside0.mk (below_step (by repeat (first | (with_reducible first | exact HB.out | apply below_alloc | apply pw_below_drewN | apply below_drew1) | exact HB.out)) hb); clear HB; have HO245 := n0_; have HB := n1_; clear n0_ n1_; clear hb ho2))
  go_ret
  exact ⟨_, by first | rfl | (simp [errW_none, errW_some] <;> rfl) | (simp [*, errW_none, errW_some] <;> rfl), by (with_reducible repeat (first | apply Kd.R_alloc | apply Kd.R_drewN | apply Kd.R_drew)); exact HO245.out, by repeat (first | (with_reducible first | exact HB.out | apply below_alloc | apply pw_below_drewN | apply below_drew1) | exact HB.out)⟩

/-! ### tabardref11_Find: function 27 -/
def tabardref11_Find.l0 : Nat → ByteArray → List (S27) → Int → Option (ByteArray × ByteArray × ByteArray × ByteArray × ByteArray × ByteArray × ByteArray × Bool × Bool × Int × Bool)
  | 0, _, _, _ => none
  | k + 1, x0, x4, x5 => if x5 < (x4.length : Int) then (if 0 ≤ x5 then (if ((rd_T27 x4 x5).f0).toList = x0.toList then (some ((rd_T27 x4 x5).f0, (rd_T27 x4 x5).f1, (rd_T27 x4 x5).f2, (rd_T27 x4 x5).f3, (rd_T27 x4 x5).f4, (rd_T27 x4 x5).f5, (rd_T27 x4 x5).f6, (rd_T27 x4 x5).f7, (rd_T27 x4 x5).f8, (rd_T27 x4 x5).f9, true)) else (tabardref11_Find.l0 k x0 x4 (wrap64 (x5 + 1)))) else (none)) else (some ((⟨#[]⟩ : ByteArray), (⟨#[]⟩ : ByteArray), (⟨#[]⟩ : ByteArray), (⟨#[]⟩ : ByteArray), (⟨#[]⟩ : ByteArray), (⟨#[]⟩ : ByteArray), (⟨#[]⟩ : ByteArray), false, false, 0, false))
def tabardref11_Find.f (k : Nat) (a0 : ByteArray) : Option (ByteArray × ByteArray × ByteArray × ByteArray × ByteArray × ByteArray × ByteArray × Bool × Bool × Int × Bool) := (tabardref11_All.f).bind fun t247 => (tabardref11_Find.l0 k a0 t247 0)
theorem tabardref11_Find.mono_l : ∀ k, (∀ y0 y1 y2, LeO (tabardref11_Find.l0 k y0 y1 y2) (tabardref11_Find.l0 (k + 1) y0 y1 y2))
  | 0 => fun _ _ _ r h => by simp [tabardref11_Find.l0] at h
  | k + 1 => by
    have ih0 := tabardref11_Find.mono_l k
    · intro y0 y1 y2
      unfold tabardref11_Find.l0
      repeat' first
      | (with_reducible exact ih0 _ _ _)
      | (with_reducible exact LeO.refl _)
      | (with_reducible exact LeO.none _)
      | (with_reducible refine LeO.ite ?_ ?_)
      | (with_reducible refine LeO.bind ?_ (fun _ => ?_))
      | exact ih0 _ _ _
      | exact LeO.none _
      | refine LeO.ite ?_ ?_
      | refine LeO.bind ?_ (fun _ => ?_)
theorem tabardref11_Find.mono : ∀ a0 k, LeO (tabardref11_Find.f k a0) (tabardref11_Find.f (k + 1) a0) := by
  intro a0 k
  have ih0 := tabardref11_Find.mono_l k
  unfold tabardref11_Find.f
  repeat' first
      | (with_reducible exact ih0 _ _ _)
      | (with_reducible exact LeO.refl _)
      | (with_reducible exact LeO.none _)
      | (with_reducible refine LeO.ite ?_ ?_)
      | (with_reducible refine LeO.bind ?_ (fun _ => ?_))
      | exact ih0 _ _ _
      | exact LeO.none _
      | refine LeO.ite ?_ ?_
      | refine LeO.bind ?_ (fun _ => ?_)
set_option maxHeartbeats 8000000 in
set_option maxRecDepth 100000 in
theorem tabardref11_Find.calls (k : Nat) (a0 : ByteArray) (r1 : ByteArray) (r2 : ByteArray) (r3 : ByteArray) (r4 : ByteArray) (r5 : ByteArray) (r6 : ByteArray) (r7 : ByteArray) (r8 : Bool) (r9 : Bool) (r10 : Int) (r11 : Bool) (w : World) (h : tabardref11_Find.f k a0 = some (r1, r2, r3, r4, r5, r6, r7, r8, r9, r10, r11)) :
    Calls Tryd.prog 27 #[.string a0] w fun e w' => e = .returned (.tuple #[.agg #[.string r1, .string r2, .string r3, .string r4, .string r5, .string r6, .string r7, .bool r8, .bool r9, .int .i64 r10], .bool r11]) ∧ Below w.heap.size w w' := by
  have hu27 := Tryd.underlying27
  have HB := Aside0.mk (Below.refl w.heap.size w)
  have H : ((tabardref11_All.f).bind fun t247 => (tabardref11_Find.l0 k a0 t247 0)) = some (r1, r2, r3, r4, r5, r6, r7, r8, r9, r10, r11) := h
  clear h
  replace H := Option.bind_eq_some_iff.mp H
  obtain ⟨t247, A20, H⟩ := H
  replace H : (tabardref11_Find.l0 k a0 t247 0) = some (r1, r2, r3, r4, r5, r6, r7, r8, r9, r10, r11) := H
  have A2 := Aside0.mk A20
  clear A20
  have H' := Aside0.mk H
  clear H
  go_enter Tryd.func27, Tryd.ntmps27
  go_wp2_with (first | ((with_reducible refine gate_dst (N := 2) rfl ?_); refine box_event ?hg (N := 2) ?hd (cs := #[.string (⟨#[]⟩ : ByteArray), .string (⟨#[]⟩ : ByteArray), .string (⟨#[]⟩ : ByteArray), .string (⟨#[]⟩ : ByteArray), .string (⟨#[]⟩ : ByteArray), .string (⟨#[]⟩ : ByteArray), .string (⟨#[]⟩ : ByteArray), .bool false, .bool false, .int .i64 0]) (t := 27) ?hr ?_; (case hd => rfl); (case hg => rfl); (case hr => first | (go_simp; done) | (go_simp; rfl)); intro gb246 hg w3 hbox hb; have n0_ := Aside0.mk (below_step (by repeat (first | (with_reducible first | exact HB.out | apply below_alloc | apply pw_below_drewN | apply below_drew1) | exact HB.out)) hb); have n1_ := Aside0.mk (hbox); have n2_ := Aside0.mk ((by rw [hg]; exact (below_size (by repeat (first | (with_reducible first | exact HB.out | apply below_alloc | apply pw_below_drewN | apply below_drew1) | exact HB.out))) : w.heap.size ≤ gb246)); have n3_ := Aside0.mk ((by rw [hg]; exact (below_size (by repeat (first | (with_reducible first | exact HB.out | apply below_alloc | apply pw_below_drewN | apply below_drew1) | exact HB.out))) : w.heap.size ≤ gb246)); clear HB; have HB := n0_; have BK246 := n1_; have GW246 := n2_; have GE246 := n3_; clear n0_ n1_ n2_ n3_; clear hb hbox hg) | ((with_reducible refine gate_callee (f := 25) rfl ?_); refine goesL_ (some 6) rfl rfl Tryd.func25 (by kernel_rfl) rfl #[] rfl (by (try simp only [List.map_toArray, List.map_cons, List.map_nil]); first | done | rfl | (simp only [List.length_drop, List.length_take]; rfl)) ?_; (with_reducible refine (tabardref11_All.calls  t247 _ A2.out).mono ?_); rintro e w4 ⟨v248, rfl, ho0, hb⟩; refine ⟨_, rfl, ?_⟩; have n0_ := Aside0.mk (Kd.R_lower (Kd.R_newB ho0 (g := gb246) (o := .cells #[.string (⟨#[]⟩ : ByteArray), .string (⟨#[]⟩ : ByteArray), .string (⟨#[]⟩ : ByteArray), .string (⟨#[]⟩ : ByteArray), .string (⟨#[]⟩ : ByteArray), .string (⟨#[]⟩ : ByteArray), .string (⟨#[]⟩ : ByteArray), .bool false, .bool false, .int .i64 0] 27 (0, 0)) (by (with_reducible repeat (first | refine blk_drewN ?_ _ | refine blk_drew ?_ | refine blk_alloc ?_ _)); exact BK246.out)) (below_size (by repeat (first | (with_reducible first | exact HB.out | apply below_alloc | apply pw_below_drewN | apply below_drew1 | refine below_set ?_ GE246.out) | exact HB.out)))); have n1_ := Aside0.mk (blk_below (g := gb246) (o := .cells #[.string (⟨#[]⟩ : ByteArray), .string (⟨#[]⟩ : ByteArray), .string (⟨#[]⟩ : ByteArray), .string (⟨#[]⟩ : ByteArray), .string (⟨#[]⟩ : ByteArray), .string (⟨#[]⟩ : ByteArray), .string (⟨#[]⟩ : ByteArray), .bool false, .bool false, .int .i64 0] 27 (0, 0)) (by (with_reducible repeat (first | refine blk_drewN ?_ _ | refine blk_drew ?_ | refine blk_alloc ?_ _)); exact BK246.out) hb); have n2_ := Aside0.mk (below_step (by repeat (first | (with_reducible first | exact HB.out | apply below_alloc | apply pw_below_drewN | apply below_drew1 | refine below_set ?_ GE246.out) | exact HB.out)) hb); clear BK246; clear HB; have HO249 := n0_; have BK246 := n1_; have HB := n2_; clear n0_ n1_ n2_; (try clear hb); (try clear hb2); (try clear hk); (try clear hi); (try clear ho0)))
  go_loopg [5] k (fun kq v5 w' => ∃ (x5_1 : Int) (x247000_1 : ByteArray) (x247001_1 : ByteArray) (x247002_1 : ByteArray) (x247003_1 : ByteArray) (x247004_1 : ByteArray) (x247005_1 : ByteArray) (x247006_1 : ByteArray) (x247007_1 : Bool) (x247008_1 : Bool) (x247009_1 : Int), v5 = .int .i64 x5_1 ∧ Aside0 (tabardref11_Find.l0 kq a0 t247 x5_1 = some (r1, r2, r3, r4, r5, r6, r7, r8, r9, r10, r11)) ∧ Aside0 (kq ≤ k) ∧ Aside0 (Kd.R k27 27 w' w.heap.size (fun k_ => k_ ≠ gb246) v248 t247) ∧ Aside0 (w'.heap[gb246]? = some (.cells #[.string x247000_1, .string x247001_1, .string x247002_1, .string x247003_1, .string x247004_1, .string x247005_1, .string x247006_1, .bool x247007_1, .bool x247008_1, .int .i64 x247009_1] 27 (0, 0))) ∧ Aside0 (Below w.heap.size w w'))
  case atStart => exact ⟨(0), ((⟨#[]⟩ : ByteArray)), ((⟨#[]⟩ : ByteArray)), ((⟨#[]⟩ : ByteArray)), ((⟨#[]⟩ : ByteArray)), ((⟨#[]⟩ : ByteArray)), ((⟨#[]⟩ : ByteArray)), ((⟨#[]⟩ : ByteArray)), (false), (false), (0), (by first | rfl | (simp; done) | (simp [*]; done) | (simp [bne]; done)), H', ⟨Nat.le_refl _⟩, ⟨by (with_reducible repeat (first | apply Kd.R_alloc | apply Kd.R_drewN | apply Kd.R_drew)); exact Kd.R_mono HO249.out (fun _ hk => hk.2)⟩, ⟨by (with_reducible repeat (first | refine blk_drewN ?_ _ | refine blk_drew ?_ | refine blk_alloc ?_ _)); exact BK246.out⟩, ⟨by repeat (first | (with_reducible first | exact HB.out | apply below_alloc | apply pw_below_drewN | apply below_drew1 | refine below_set ?_ GE246.out) | exact HB.out)⟩⟩
  case round =>
    clear H'
    try clear c2
    try clear p2
    obtain ⟨x5_1, x247000_1, x247001_1, x247002_1, x247003_1, x247004_1, x247005_1, x247006_1, x247007_1, x247008_1, x247009_1, rfl, HA, HK1, HO_4, BK246, HB⟩ := hrel
    cases gk with
    | zero => exact absurd HA.out (by simp [tabardref11_Find.l0])
    | succ k1 =>
      have H := HA.out
      clear HA
      simp only [tabardref11_Find.l0] at H
      by_cases c5 : x5_1 < (t247.length : Int)
      · rw [if_pos c5] at H
        have c5b0 : decide (x5_1 < (t247.length : Int)) = true := decide_eq_true c5
        clear c5
        by_cases c6 : 0 ≤ x5_1
        · rw [if_pos c6] at H
          have c6b0 : decide (0 ≤ x5_1) = true := decide_eq_true c6
          clear c6
          by_cases c7 : ((rd_T27 t247 x5_1).f0).toList = a0.toList
          · rw [if_pos c7] at H
            have c7b0 : (((rd_T27 t247 x5_1).f0).toList == a0.toList) = true := beq_iff_eq.mpr c7
            have c7b1 : (((rd_T27 t247 x5_1).f0).toList != a0.toList) = false := bne_eq_false_iff_eq.mpr c7
            clear c7
            simp only [Option.some.injEq, Prod.mk.injEq] at H
            obtain ⟨rfl, rfl, rfl, rfl, rfl, rfl, rfl, rfl, rfl, rfl, rfl⟩ := H
            obtain ⟨Ao8, co8, eo8⟩ := Kd.R_slice HO_4.out
            subst eo8
            have p250 : 0 ≤ (x5_1 : Int) := of_decide_eq_true (by first | (with_reducible assumption) | assumption)
            have q250 : x5_1 < (t247.length : Int) := of_decide_eq_true (by first | (with_reducible assumption) | assumption)
            obtain ⟨ad250, e250, hx250_0, hx250_1, hx250_2, hx250_3, hx250_4, hx250_5, hx250_6, hx250_7, hx250_8, hx250_9⟩ := at_T27 (Kd.R_reads' HO_4.out).2.2 x5_1 p250 q250
            cases e250
            replace p250 := eq_true p250
            replace q250 := eq_true q250
            have p251 : 0 ≤ (x5_1 : Int) := of_decide_eq_true (by first | (with_reducible assumption) | assumption)
            have q251 : x5_1 < (t247.length : Int) := of_decide_eq_true (by first | (with_reducible assumption) | assumption)
            obtain ⟨ad251, e251, hx251_0, hx251_1, hx251_2, hx251_3, hx251_4, hx251_5, hx251_6, hx251_7, hx251_8, hx251_9⟩ := at_T27 (Kd.R_reads' HO_4.out).2.2 x5_1 p251 q251
            obtain rfl : ad250 = ad251 := (by injection e251)
            replace p251 := eq_true p251
            replace q251 := eq_true q251
            have hcz9_0 : wr.cell? ⟨gb246, 0, none⟩ = some (.string x247000_1) := (blk_cell BK246.out 0).trans rfl
            have hcz9_1 : wr.cell? ⟨gb246, 1, none⟩ = some (.string x247001_1) := (blk_cell BK246.out 1).trans rfl
            have hcz9_2 : wr.cell? ⟨gb246, 2, none⟩ = some (.string x247002_1) := (blk_cell BK246.out 2).trans rfl
            have hcz9_3 : wr.cell? ⟨gb246, 3, none⟩ = some (.string x247003_1) := (blk_cell BK246.out 3).trans rfl
            have hcz9_4 : wr.cell? ⟨gb246, 4, none⟩ = some (.string x247004_1) := (blk_cell BK246.out 4).trans rfl
            have hcz9_5 : wr.cell? ⟨gb246, 5, none⟩ = some (.string x247005_1) := (blk_cell BK246.out 5).trans rfl
            have hcz9_6 : wr.cell? ⟨gb246, 6, none⟩ = some (.string x247006_1) := (blk_cell BK246.out 6).trans rfl
            have hcz9_7 : wr.cell? ⟨gb246, 7, none⟩ = some (.bool x247007_1) := (blk_cell BK246.out 7).trans rfl
            have hcz9_8 : wr.cell? ⟨gb246, 8, none⟩ = some (.bool x247008_1) := (blk_cell BK246.out 8).trans rfl
            have hcz9_9 : wr.cell? ⟨gb246, 9, none⟩ = some (.int .i64 x247009_1) := (blk_cell BK246.out 9).trans rfl
            have hfz9_0 := blk_frozen BK246.out 0
            have hfz9_1 := blk_frozen BK246.out 1
            have hfz9_2 := blk_frozen BK246.out 2
            have hfz9_3 := blk_frozen BK246.out 3
            have hfz9_4 := blk_frozen BK246.out 4
            have hfz9_5 := blk_frozen BK246.out 5
            have hfz9_6 := blk_frozen BK246.out 6
            have hfz9_7 := blk_frozen BK246.out 7
            have hfz9_8 := blk_frozen BK246.out 8
            have hfz9_9 := blk_frozen BK246.out 9
            go_wp2
            refine bodyPost_ret (results_ct rfl _ _ gb246 27 #[.string ((rd_T27 t247 x5_1).f0), .string ((rd_T27 t247 x5_1).f1), .string ((rd_T27 t247 x5_1).f2), .string ((rd_T27 t247 x5_1).f3), .string ((rd_T27 t247 x5_1).f4), .string ((rd_T27 t247 x5_1).f5), .string ((rd_T27 t247 x5_1).f6), .bool ((rd_T27 t247 x5_1).f7), .bool ((rd_T27 t247 x5_1).f8), .int .i64 ((rd_T27 t247 x5_1).f9)] (0, 0) _ rfl (by (with_reducible repeat (first | refine blk_drewN ?_ _ | refine blk_drew ?_ | refine blk_alloc ?_ _)); refine blk_put (cs := #[.string ((rd_T27 t247 x5_1).f0), .string ((rd_T27 t247 x5_1).f1), .string ((rd_T27 t247 x5_1).f2), .string ((rd_T27 t247 x5_1).f3), .string ((rd_T27 t247 x5_1).f4), .string ((rd_T27 t247 x5_1).f5), .string ((rd_T27 t247 x5_1).f6), .bool ((rd_T27 t247 x5_1).f7), .bool ((rd_T27 t247 x5_1).f8), .int .i64 x247009_1]) ?_ 9 _ rfl; (with_reducible repeat (first | refine blk_drewN ?_ _ | refine blk_drew ?_ | refine blk_alloc ?_ _)); refine blk_put (cs := #[.string ((rd_T27 t247 x5_1).f0), .string ((rd_T27 t247 x5_1).f1), .string ((rd_T27 t247 x5_1).f2), .string ((rd_T27 t247 x5_1).f3), .string ((rd_T27 t247 x5_1).f4), .string ((rd_T27 t247 x5_1).f5), .string ((rd_T27 t247 x5_1).f6), .bool ((rd_T27 t247 x5_1).f7), .bool x247008_1, .int .i64 x247009_1]) ?_ 8 _ rfl; (with_reducible repeat (first | refine blk_drewN ?_ _ | refine blk_drew ?_ | refine blk_alloc ?_ _)); refine blk_put (cs := #[.string ((rd_T27 t247 x5_1).f0), .string ((rd_T27 t247 x5_1).f1), .string ((rd_T27 t247 x5_1).f2), .string ((rd_T27 t247 x5_1).f3), .string ((rd_T27 t247 x5_1).f4), .string ((rd_T27 t247 x5_1).f5), .string ((rd_T27 t247 x5_1).f6), .bool x247007_1, .bool x247008_1, .int .i64 x247009_1]) ?_ 7 _ rfl; (with_reducible repeat (first | refine blk_drewN ?_ _ | refine blk_drew ?_ | refine blk_alloc ?_ _)); refine blk_put (cs := #[.string ((rd_T27 t247 x5_1).f0), .string ((rd_T27 t247 x5_1).f1), .string ((rd_T27 t247 x5_1).f2), .string ((rd_T27 t247 x5_1).f3), .string ((rd_T27 t247 x5_1).f4), .string ((rd_T27 t247 x5_1).f5), .string x247006_1, .bool x247007_1, .bool x247008_1, .int .i64 x247009_1]) ?_ 6 _ rfl; (with_reducible repeat (first | refine blk_drewN ?_ _ | refine blk_drew ?_ | refine blk_alloc ?_ _)); refine blk_put (cs := #[.string ((rd_T27 t247 x5_1).f0), .string ((rd_T27 t247 x5_1).f1), .string ((rd_T27 t247 x5_1).f2), .string ((rd_T27 t247 x5_1).f3), .string ((rd_T27 t247 x5_1).f4), .string x247005_1, .string x247006_1, .bool x247007_1, .bool x247008_1, .int .i64 x247009_1]) ?_ 5 _ rfl; (with_reducible repeat (first | refine blk_drewN ?_ _ | refine blk_drew ?_ | refine blk_alloc ?_ _)); refine blk_put (cs := #[.string ((rd_T27 t247 x5_1).f0), .string ((rd_T27 t247 x5_1).f1), .string ((rd_T27 t247 x5_1).f2), .string ((rd_T27 t247 x5_1).f3), .string x247004_1, .string x247005_1, .string x247006_1, .bool x247007_1, .bool x247008_1, .int .i64 x247009_1]) ?_ 4 _ rfl; (with_reducible repeat (first | refine blk_drewN ?_ _ | refine blk_drew ?_ | refine blk_alloc ?_ _)); refine blk_put (cs := #[.string ((rd_T27 t247 x5_1).f0), .string ((rd_T27 t247 x5_1).f1), .string ((rd_T27 t247 x5_1).f2), .string x247003_1, .string x247004_1, .string x247005_1, .string x247006_1, .bool x247007_1, .bool x247008_1, .int .i64 x247009_1]) ?_ 3 _ rfl; (with_reducible repeat (first | refine blk_drewN ?_ _ | refine blk_drew ?_ | refine blk_alloc ?_ _)); refine blk_put (cs := #[.string ((rd_T27 t247 x5_1).f0), .string ((rd_T27 t247 x5_1).f1), .string x247002_1, .string x247003_1, .string x247004_1, .string x247005_1, .string x247006_1, .bool x247007_1, .bool x247008_1, .int .i64 x247009_1]) ?_ 2 _ rfl; (with_reducible repeat (first | refine blk_drewN ?_ _ | refine blk_drew ?_ | refine blk_alloc ?_ _)); refine blk_put (cs := #[.string ((rd_T27 t247 x5_1).f0), .string x247001_1, .string x247002_1, .string x247003_1, .string x247004_1, .string x247005_1, .string x247006_1, .bool x247007_1, .bool x247008_1, .int .i64 x247009_1]) ?_ 1 _ rfl; (with_reducible repeat (first | refine blk_drewN ?_ _ | refine blk_drew ?_ | refine blk_alloc ?_ _)); refine blk_put (cs := #[.string x247000_1, .string x247001_1, .string x247002_1, .string x247003_1, .string x247004_1, .string x247005_1, .string x247006_1, .bool x247007_1, .bool x247008_1, .int .i64 x247009_1]) ?_ 0 _ rfl; (with_reducible repeat (first | refine blk_drewN ?_ _ | refine blk_drew ?_ | refine blk_alloc ?_ _)); exact BK246.out) Tryd.underlying27 rfl (by kernel_rfl)) rfl ?_
            exact ⟨by first | rfl | (simp [errW_none, errW_some] <;> rfl) | (simp [*, errW_none, errW_some] <;> rfl), by repeat (first | (with_reducible first | exact HB.out | apply below_alloc | apply pw_below_drewN | apply below_drew1 | refine below_set ?_ GE246.out) | exact HB.out)⟩
          · rw [if_neg c7] at H
            have c7b0 : (((rd_T27 t247 x5_1).f0).toList == a0.toList) = false := beq_eq_false_iff_ne.mpr c7
            have c7b1 : (((rd_T27 t247 x5_1).f0).toList != a0.toList) = true := bne_iff_ne.mpr c7
            have H' := Aside0.mk H
            clear H
            obtain ⟨Ao10, co10, eo10⟩ := Kd.R_slice HO_4.out
            subst eo10
            have p250 : 0 ≤ (x5_1 : Int) := of_decide_eq_true (by first | (with_reducible assumption) | assumption)
            have q250 : x5_1 < (t247.length : Int) := of_decide_eq_true (by first | (with_reducible assumption) | assumption)
            obtain ⟨ad250, e250, hx250_0, hx250_1, hx250_2, hx250_3, hx250_4, hx250_5, hx250_6, hx250_7, hx250_8, hx250_9⟩ := at_T27 (Kd.R_reads' HO_4.out).2.2 x5_1 p250 q250
            cases e250
            replace p250 := eq_true p250
            replace q250 := eq_true q250
            go_wp2
            go_roundg k1
            case measure => have := HK1.out; omega
            case rel => exact ⟨(wrap64 (x5_1 + 1)), (x247000_1), (x247001_1), (x247002_1), (x247003_1), (x247004_1), (x247005_1), (x247006_1), (x247007_1), (x247008_1), (x247009_1), (by first | rfl | (simp; done) | (simp [*]; done) | (simp [bne]; done)), H', ⟨by have := HK1.out; omega⟩, ⟨by (with_reducible repeat (first | apply Kd.R_alloc | apply Kd.R_drewN | apply Kd.R_drew)); exact HO_4.out⟩, ⟨by (with_reducible repeat (first | refine blk_drewN ?_ _ | refine blk_drew ?_ | refine blk_alloc ?_ _)); exact BK246.out⟩, ⟨by repeat (first | (with_reducible first | exact HB.out | apply below_alloc | apply pw_below_drewN | apply below_drew1 | refine below_set ?_ GE246.out) | exact HB.out)⟩⟩
        · rw [if_neg c6] at H
          exact absurd H (by simp)
      · rw [if_neg c5] at H
        have c5b0 : decide (x5_1 < (t247.length : Int)) = false := decide_eq_false c5
        clear c5
        simp only [Option.some.injEq, Prod.mk.injEq] at H
        obtain ⟨rfl, rfl, rfl, rfl, rfl, rfl, rfl, rfl, rfl, rfl, rfl⟩ := H
        obtain ⟨Ao11, co11, eo11⟩ := Kd.R_slice HO_4.out
        subst eo11
        have hcz12_0 : wr.cell? ⟨gb246, 0, none⟩ = some (.string x247000_1) := (blk_cell BK246.out 0).trans rfl
        have hcz12_1 : wr.cell? ⟨gb246, 1, none⟩ = some (.string x247001_1) := (blk_cell BK246.out 1).trans rfl
        have hcz12_2 : wr.cell? ⟨gb246, 2, none⟩ = some (.string x247002_1) := (blk_cell BK246.out 2).trans rfl
        have hcz12_3 : wr.cell? ⟨gb246, 3, none⟩ = some (.string x247003_1) := (blk_cell BK246.out 3).trans rfl
        have hcz12_4 : wr.cell? ⟨gb246, 4, none⟩ = some (.string x247004_1) := (blk_cell BK246.out 4).trans rfl
        have hcz12_5 : wr.cell? ⟨gb246, 5, none⟩ = some (.string x247005_1) := (blk_cell BK246.out 5).trans rfl
        have hcz12_6 : wr.cell? ⟨gb246, 6, none⟩ = some (.string x247006_1) := (blk_cell BK246.out 6).trans rfl
        have hcz12_7 : wr.cell? ⟨gb246, 7, none⟩ = some (.bool x247007_1) := (blk_cell BK246.out 7).trans rfl
        have hcz12_8 : wr.cell? ⟨gb246, 8, none⟩ = some (.bool x247008_1) := (blk_cell BK246.out 8).trans rfl
        have hcz12_9 : wr.cell? ⟨gb246, 9, none⟩ = some (.int .i64 x247009_1) := (blk_cell BK246.out 9).trans rfl
        have hfz12_0 := blk_frozen BK246.out 0
        have hfz12_1 := blk_frozen BK246.out 1
        have hfz12_2 := blk_frozen BK246.out 2
        have hfz12_3 := blk_frozen BK246.out 3
        have hfz12_4 := blk_frozen BK246.out 4
        have hfz12_5 := blk_frozen BK246.out 5
        have hfz12_6 := blk_frozen BK246.out 6
        have hfz12_7 := blk_frozen BK246.out 7
        have hfz12_8 := blk_frozen BK246.out 8
        have hfz12_9 := blk_frozen BK246.out 9
        go_wp2
        refine bodyPost_ret (results_ct rfl _ _ gb246 27 #[.string (⟨#[]⟩ : ByteArray), .string (⟨#[]⟩ : ByteArray), .string (⟨#[]⟩ : ByteArray), .string (⟨#[]⟩ : ByteArray), .string (⟨#[]⟩ : ByteArray), .string (⟨#[]⟩ : ByteArray), .string (⟨#[]⟩ : ByteArray), .bool false, .bool false, .int .i64 0] (0, 0) _ rfl (by (with_reducible repeat (first | refine blk_drewN ?_ _ | refine blk_drew ?_ | refine blk_alloc ?_ _)); refine blk_put (cs := #[.string (⟨#[]⟩ : ByteArray), .string (⟨#[]⟩ : ByteArray), .string (⟨#[]⟩ : ByteArray), .string (⟨#[]⟩ : ByteArray), .string (⟨#[]⟩ : ByteArray), .string (⟨#[]⟩ : ByteArray), .string (⟨#[]⟩ : ByteArray), .bool false, .bool false, .int .i64 x247009_1]) ?_ 9 _ rfl; (with_reducible repeat (first | refine blk_drewN ?_ _ | refine blk_drew ?_ | refine blk_alloc ?_ _)); refine blk_put (cs := #[.string (⟨#[]⟩ : ByteArray), .string (⟨#[]⟩ : ByteArray), .string (⟨#[]⟩ : ByteArray), .string (⟨#[]⟩ : ByteArray), .string (⟨#[]⟩ : ByteArray), .string (⟨#[]⟩ : ByteArray), .string (⟨#[]⟩ : ByteArray), .bool false, .bool x247008_1, .int .i64 x247009_1]) ?_ 8 _ rfl; (with_reducible repeat (first | refine blk_drewN ?_ _ | refine blk_drew ?_ | refine blk_alloc ?_ _)); refine blk_put (cs := #[.string (⟨#[]⟩ : ByteArray), .string (⟨#[]⟩ : ByteArray), .string (⟨#[]⟩ : ByteArray), .string (⟨#[]⟩ : ByteArray), .string (⟨#[]⟩ : ByteArray), .string (⟨#[]⟩ : ByteArray), .string (⟨#[]⟩ : ByteArray), .bool x247007_1, .bool x247008_1, .int .i64 x247009_1]) ?_ 7 _ rfl; (with_reducible repeat (first | refine blk_drewN ?_ _ | refine blk_drew ?_ | refine blk_alloc ?_ _)); refine blk_put (cs := #[.string (⟨#[]⟩ : ByteArray), .string (⟨#[]⟩ : ByteArray), .string (⟨#[]⟩ : ByteArray), .string (⟨#[]⟩ : ByteArray), .string (⟨#[]⟩ : ByteArray), .string (⟨#[]⟩ : ByteArray), .string x247006_1, .bool x247007_1, .bool x247008_1, .int .i64 x247009_1]) ?_ 6 _ rfl; (with_reducible repeat (first | refine blk_drewN ?_ _ | refine blk_drew ?_ | refine blk_alloc ?_ _)); refine blk_put (cs := #[.string (⟨#[]⟩ : ByteArray), .string (⟨#[]⟩ : ByteArray), .string (⟨#[]⟩ : ByteArray), .string (⟨#[]⟩ : ByteArray), .string (⟨#[]⟩ : ByteArray), .string x247005_1, .string x247006_1, .bool x247007_1, .bool x247008_1, .int .i64 x247009_1]) ?_ 5 _ rfl; (with_reducible repeat (first | refine blk_drewN ?_ _ | refine blk_drew ?_ | refine blk_alloc ?_ _)); refine blk_put (cs := #[.string (⟨#[]⟩ : ByteArray), .string (⟨#[]⟩ : ByteArray), .string (⟨#[]⟩ : ByteArray), .string (⟨#[]⟩ : ByteArray), .string x247004_1, .string x247005_1, .string x247006_1, .bool x247007_1, .bool x247008_1, .int .i64 x247009_1]) ?_ 4 _ rfl; (with_reducible repeat (first | refine blk_drewN ?_ _ | refine blk_drew ?_ | refine blk_alloc ?_ _)); refine blk_put (cs := #[.string (⟨#[]⟩ : ByteArray), .string (⟨#[]⟩ : ByteArray), .string (⟨#[]⟩ : ByteArray), .string x247003_1, .string x247004_1, .string x247005_1, .string x247006_1, .bool x247007_1, .bool x247008_1, .int .i64 x247009_1]) ?_ 3 _ rfl; (with_reducible repeat (first | refine blk_drewN ?_ _ | refine blk_drew ?_ | refine blk_alloc ?_ _)); refine blk_put (cs := #[.string (⟨#[]⟩ : ByteArray), .string (⟨#[]⟩ : ByteArray), .string x247002_1, .string x247003_1, .string x247004_1, .string x247005_1, .string x247006_1, .bool x247007_1, .bool x247008_1, .int .i64 x247009_1]) ?_ 2 _ rfl; (with_reducible repeat (first | refine blk_drewN ?_ _ | refine blk_drew ?_ | refine blk_alloc ?_ _)); refine blk_put (cs := #[.string (⟨#[]⟩ : ByteArray), .string x247001_1, .string x247002_1, .string x247003_1, .string x247004_1, .string x247005_1, .string x247006_1, .bool x247007_1, .bool x247008_1, .int .i64 x247009_1]) ?_ 1 _ rfl; (with_reducible repeat (first | refine blk_drewN ?_ _ | refine blk_drew ?_ | refine blk_alloc ?_ _)); refine blk_put (cs := #[.string x247000_1, .string x247001_1, .string x247002_1, .string x247003_1, .string x247004_1, .string x247005_1, .string x247006_1, .bool x247007_1, .bool x247008_1, .int .i64 x247009_1]) ?_ 0 _ rfl; (with_reducible repeat (first | refine blk_drewN ?_ _ | refine blk_drew ?_ | refine blk_alloc ?_ _)); exact BK246.out) Tryd.underlying27 rfl (by kernel_rfl)) rfl ?_
        exact ⟨by first | rfl | (simp [errW_none, errW_some] <;> rfl) | (simp [*, errW_none, errW_some] <;> rfl), by repeat (first | (with_reducible first | exact HB.out | apply below_alloc | apply pw_below_drewN | apply below_drew1 | refine below_set ?_ GE246.out) | exact HB.out)⟩

end Go.Proofs.YtmbhjogohfcjgaaDoor.L
