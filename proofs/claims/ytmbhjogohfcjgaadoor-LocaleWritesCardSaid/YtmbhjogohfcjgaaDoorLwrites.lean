/- LocaleWrites, the row and its card: in every world that holds the listed variables, for every number, every decimal, both forms and every text, the statement answers true and leaves all that was there as it was. No condition but the listed variables, which the card ties to the program's text. -/
import Derived.Test.YtmbhjogohfcjgaaDoorLr0
import Derived.Test.YtmbhjogohfcjgaaDoorLm6
import Derived.Lib.SmallJoins
namespace Go.Proofs.YtmbhjogohfcjgaaDoor.Lr.localeWrites
open Go.ChangeShapes Go.WideShapes Go.ChangeAt Go.RowKit Go.Proofs.YtmbhjogohfcjgaaDoor.L
open Go.ChangeMaps (open_string shut_string)
open Go.Joins (open_agg3 shut_agg3)
set_option linter.unusedVariables false

theorem walk (a0 : Int) (n : Bool) (d : ByteArray) (e : Int) (g : Bool) (t : ByteArray) (W : World) (hG : GL W) (w0 : (Lit.int .i64 a0).wf = true) :
    Calls Tryd.prog 4 #[.int .i64 a0, .agg #[.bool n, .string d, .int .i64 e], .bool g, .string t] W fun e W' => e = .returned (.bool true) ∧ Below W.heap.size W W' := by
  obtain ⟨h1, h2⟩ := bounds_i64 w0
  obtain ⟨k, hk⟩ := Lm.writes_ex a0 n d e g t h1 h2
  exact tabardlaw11_LocaleWrites.calls k a0 n d e g t true W hG hk

/-- A decimal, handed by value, reads as its three fields. -/
theorem decReads {H : Type} {enc : TypeId × Value → H} (W : World) (b : Nat) (sp : Nat → Bool) (hd : Bool) (n : Bool) (s : ByteArray) (e : Int) (ws : s.size ≤ maxLen) (we : (Lit.int .i64 e).wf = true) :
    DataW.Trod enc Tryd.prog W b sp hd 36 (.agg #[.bool n, .string s, .int .i64 e]) (.agg [.lit (.bool n), .lit (.string s.data.toList), .lit (.int .i64 e)]) [] := by
  simpa using shut_agg3 (enc := enc) (w := W) (base := b) (spare := sp) (held := hd) (y0 := (.lit (.bool n), [])) (y1 := (.lit (.string s.data.toList), [])) (y2 := (.lit (.int .i64 e), [])) Tryd.underlying36 (by kernel_rfl) (by kernel_rfl)
    ⟨1, by simp [DataW.trod, Tryd.underlying4]⟩ ⟨1, by simp [DataW.trod, Tryd.underlying9, ws]⟩ ⟨1, by simp [DataW.trod, Tryd.underlying3, we]⟩

set_option maxRecDepth 100000 in
theorem contract (H : Type) (enc : TypeId × Value → H) (W : World) (base : Nat) (args : Array Value) (ds gs : List (DataW H)) (before : List MemPlace)
    (hval0 : ∀ (j : Nat) t v, Tryd.f4.params[j]? = some t → args[j]? = some v → Value.okWide Tryd.prog W .any base t v)
    (hW : DataW.Whole enc Tryd.prog Tryd.f4.params.toList Rows.localeWritesSpec.vars false W args.toList ds gs before) (hL : laidMetH Tryd.prog Rows.localeWritesRow.laid W) (hsh : W.ShapedOpen Tryd.prog) :
    Calls Tryd.prog 4 args W fun e W' => ∃ v, e = .returned v ∧ Rows.localeWritesSpec.post enc Tryd.prog Tryd.f4 false true false false W args v W' := by
  have hval : ∀ (j : Nat) t v, Tryd.f4.params[j]? = some t → args[j]? = some v → Value.okWide Tryd.prog W .any base t v := hval0
  have hW' := hW
  obtain ⟨p, q, hA0, hV, rfl, hfz, hnd⟩ := hW
  have hA : DataW.TrodAll enc Tryd.prog W 0 (fun _ => true) true Tryd.f4.params.toList args.toList ds p := hA0
  rw [Tryd.params4] at hA hval
  obtain ⟨v0, vs0, d0, ds0, p0, q0, hargs, rfl, rfl, h0, r0⟩ := trodAll_cons hA
  obtain ⟨v1, vs1, d1, ds1, p1, q1, rfl, rfl, rfl, h1, r1⟩ := trodAll_cons r0
  obtain ⟨v2, vs2, d2, ds2, p2, q2, rfl, rfl, rfl, h2, r2⟩ := trodAll_cons r1
  obtain ⟨v3, vs3, d3, ds3, p3, q3, rfl, rfl, rfl, h3, r3⟩ := trodAll_cons r2
  obtain ⟨rfl, rfl, rfl⟩ := trodAll_nil r3
  obtain rfl : args = #[v0, v1, v2, v3] := by cases args; simp_all
  obtain ⟨rfl, rfl⟩ := trodVars_none hV
  obtain ⟨a0, rfl, rfl, rfl, w0⟩ := open_int Tryd.underlying3 (hval 0 3 v0 rfl rfl) h0
  obtain ⟨c0, c1, c2, y0, y1, y2, m, rfl, rfl, rfl, hy0, hy1, hy2⟩ := open_agg3 Tryd.underlying36 (by kernel_rfl) (by kernel_rfl) (hval 1 36 v1 rfl rfl) h1
  obtain ⟨n, e0, rfl⟩ := DataW.trod_bool Tryd.underlying4 hy0
  obtain ⟨s, e1, rfl, ws⟩ := DataW.trod_string Tryd.underlying9 hy1
  obtain ⟨e, e2, rfl, we⟩ := DataW.trod_int Tryd.underlying3 hy2
  simp at e0 e1 e2
  subst e0 e1 e2
  obtain ⟨g, rfl, rfl, rfl⟩ := open_bool Tryd.underlying4 (hval 2 4 v2 rfl rfl) h2
  obtain ⟨t, rfl, rfl, rfl, y3⟩ := open_string Tryd.underlying9 (hval 3 9 v3 rfl rfl) h3
  clear hA0 hval0
  refine (walk a0 n s e g t W (gl_of hL hsh) w0).mono fun e' W' ⟨he, bel⟩ => ?_
  subst he
  exact ⟨_, rfl, _, _, _, [], _, [], hW', trodAll_mk1 (shut_bool Tryd.underlying4 _), trodAll_cons_mk (shut_int Tryd.underlying3 w0) (trodAll_cons_mk (decReads W' _ _ _ n s e ws we) (trodAll_cons_mk (shut_bool Tryd.underlying4 _) (trodAll_cons_mk (shut_string Tryd.underlying9 y3) trodAll_mk0))), rfl, bel.frame _, fun h => by cases h⟩

theorem reads (os : Os) {H : Type} (enc : TypeId × Value → H) : ∃ places, DataW.whole enc Tryd.prog ((laidWorld os).forCall (fun _ _ => 0) ⟨#[], #[.int .i64 0, .agg #[.bool false, .string ByteArray.empty, .int .i64 0], .bool false, .string ByteArray.empty], []⟩).memory Tryd.f4.params.toList Rows.localeWritesSpec.vars false #[Value.int .i64 0, .agg #[.bool false, .string ByteArray.empty, .int .i64 0], .bool false, .string ByteArray.empty].toList 8 = some ([.lit (.int .i64 0), .agg [.lit (.bool false), .lit (.string []), .lit (.int .i64 0)], .lit (.bool false), .lit (.string [])], [], places) :=
  ⟨[], by kernel_rfl⟩

set_option maxRecDepth 100000 in
theorem lifted (os : Os) (started : os.Started) (H : Type) (enc : TypeId × Value → H) (F : Stop.Interp) :
    ReturnsInHanded {} Tryd.checked os 4 .any ((OpenSpec.ofChange Rows.localeWritesSpec).preRow enc Tryd.prog Tryd.f4 Rows.localeWritesRow.domain false Rows.localeWritesRow.laid) (((OpenSpec.ofChange Rows.localeWritesSpec).at F).post enc Tryd.prog Tryd.f4 false true false false) := by
  obtain ⟨places, hx⟩ := reads os enc
  refine returnsInHanded_of_row (C := Tryd.checked) (s := OpenSpec.ofChange Rows.localeWritesSpec) own started (by kernel_rfl) Tryd.func4
    (witness_row_at (enc := enc) (C := Tryd.checked) false (laidWorld os) #[.int .i64 0, .agg #[.bool false, .string ByteArray.empty, .int .i64 0], .bool false, .string ByteArray.empty] rfl (by kernel_rfl) (by kernel_rfl) (by kernel_rfl)
      (OpenSpec.preRow_of_cond 8 hx (by kernel_rfl) (fun k hk => by cases hk) (by kernel_rfl) (laid_met os _))) ?_
  intro W base args ds gs before hval hW _ _ _ hL hsh _
  exact contract H enc W base args ds gs before hval hW hL hsh

theorem said : Rows.LocaleWritesSaid :=
  OpenClaim.holds_of_cond 4 Tryd.f4 rfl rfl rfl rfl rfl rfl rfl ⟨rfl, rfl, rfl, rfl, rfl⟩ rfl rfl rfl rfl rfl (by kernel_rfl) Tryd.func4 (by kernel_rfl)
    (of_decide_eq_true (by kernel_rfl)) (by unfold Func.isWrapper; first | (rw [if_pos (by decide +kernel)]; kernel_rfl) | (rw [if_neg (by decide +kernel)]; exact ⟨rfl, rfl⟩))
    (fun os started H enc _ F => by rw [OpenClaim.pre_eq_preRow]; exact lifted os started H enc F)

theorem plain (f : FuncId) (fn : Func) (hf : Tryd.pinned.checked.prog.funcNamed "tabard/tabardlaw11.LocaleWrites" = some f) (hfn : Tryd.pinned.checked.prog.funcs[f]? = some fn) :
    true = Tryd.pinned.checked.prog.looks [] ∧ ∀ (j : Nat) t, fn.params[j]? = some t → Tryd.pinned.checked.prog.wantsStandIn t = false := by
  obtain rfl : f = 4 := Option.some.inj ((show Tryd.prog.funcNamed "tabard/tabardlaw11.LocaleWrites" = some 4 by kernel_rfl).symm.trans hf) |>.symm
  obtain rfl : fn = Tryd.f4 := (Option.some.inj (Tryd.func4.symm.trans hfn)).symm
  refine ⟨by kernel_rfl, fun j t ht => ?_⟩
  rw [Tryd.params4] at ht
  have hm := Array.mem_of_getElem? ht
  have h : t = 3 ∨ t = 36 ∨ t = 4 ∨ t = 9 := by simpa using hm
  rcases h with rfl | rfl | rfl | rfl
  · exact (show Tryd.prog.wantsStandIn 3 = false by kernel_rfl)
  · exact (show Tryd.prog.wantsStandIn 36 = false by kernel_rfl)
  · exact (show Tryd.prog.wantsStandIn 4 = false by kernel_rfl)
  · exact (show Tryd.prog.wantsStandIn 9 = false by kernel_rfl)

theorem card : Rows.LocaleWritesCardSaid :=
  Claim7.holds_tied_plain_at .later [] _ _ _ _ said (fun _ h => by cases h) (by kernel_rfl) (fun _ h => by cases h) localeWrites_row_tie rfl ⟨rfl, rfl⟩ (by kernel_rfl) rfl plain (by kernel_rfl)
end Go.Proofs.YtmbhjogohfcjgaaDoor.Lr.localeWrites
namespace Go.Proofs.YtmbhjogohfcjgaaDoor
/-- LocaleWrites: the card. -/
theorem localeWrites_card : Rows.LocaleWritesCardSaid := Lr.localeWrites.card
#print axioms localeWrites_card
end Go.Proofs.YtmbhjogohfcjgaaDoor
