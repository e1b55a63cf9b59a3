/- LocaleBack, the row and its card: in every world that holds the listed variables, for every number and every decimal, the statement answers true and leaves all that was there as it was. No condition but the listed variables, which the card ties to the program's text. -/
import Derived.Test.YtmbhjogohfcjgaaDoorLr0
import Derived.Test.YtmbhjogohfcjgaaDoorLmd
import Derived.Lib.SmallJoins
namespace Go.Proofs.YtmbhjogohfcjgaaDoor.Lr.localeBack
open Go.ChangeShapes Go.WideShapes Go.ChangeAt Go.RowKit Go.Proofs.YtmbhjogohfcjgaaDoor.L
open Go.ChangeMaps (open_string shut_string)
open Go.Joins (open_agg3 shut_agg3)
set_option linter.unusedVariables false

theorem walk (a0 : Int) (n : Bool) (d : ByteArray) (e : Int) (W : World) (hG : GL W) (w0 : (Lit.int .i64 a0).wf = true) :
    Calls Tryd.prog 5 #[.int .i64 a0, .agg #[.bool n, .string d, .int .i64 e]] W fun e W' => e = .returned (.bool true) ∧ Below W.heap.size W W' := by
  obtain ⟨h1, h2⟩ := bounds_i64 w0
  obtain ⟨k, hk⟩ := Lm.back_ex a0 n d e h1 h2
  exact tabardlaw11_LocaleBack.calls k a0 n d e true W hG hk

/-- A decimal, handed by value, reads as its three fields. -/
theorem decReads {H : Type} {enc : TypeId × Value → H} (W : World) (b : Nat) (sp : Nat → Bool) (hd : Bool) (n : Bool) (s : ByteArray) (e : Int) (ws : s.size ≤ maxLen) (we : (Lit.int .i64 e).wf = true) :
    DataW.Trod enc Tryd.prog W b sp hd 36 (.agg #[.bool n, .string s, .int .i64 e]) (.agg [.lit (.bool n), .lit (.string s.data.toList), .lit (.int .i64 e)]) [] := by
  simpa using shut_agg3 (enc := enc) (w := W) (base := b) (spare := sp) (held := hd) (y0 := (.lit (.bool n), [])) (y1 := (.lit (.string s.data.toList), [])) (y2 := (.lit (.int .i64 e), [])) Tryd.underlying36 (by kernel_rfl) (by kernel_rfl)
    ⟨1, by simp [DataW.trod, Tryd.underlying4]⟩ ⟨1, by simp [DataW.trod, Tryd.underlying9, ws]⟩ ⟨1, by simp [DataW.trod, Tryd.underlying3, we]⟩

set_option maxRecDepth 100000 in
theorem contract (H : Type) (enc : TypeId × Value → H) (W : World) (base : Nat) (args : Array Value) (ds gs : List (DataW H)) (before : List MemPlace)
    (hval0 : ∀ (j : Nat) t v, Tryd.f5.params[j]? = some t → args[j]? = some v → Value.okWide Tryd.prog W .any base t v)
    (hW : DataW.Whole enc Tryd.prog Tryd.f5.params.toList Rows.localeBackSpec.vars false W args.toList ds gs before) (hL : laidMetH Tryd.prog Rows.localeBackRow.laid W) (hsh : W.ShapedOpen Tryd.prog) :
    Calls Tryd.prog 5 args W fun e W' => ∃ v, e = .returned v ∧ Rows.localeBackSpec.post enc Tryd.prog Tryd.f5 false true false false W args v W' := by
  have hval : ∀ (j : Nat) t v, Tryd.f5.params[j]? = some t → args[j]? = some v → Value.okWide Tryd.prog W .any base t v := hval0
  have hW' := hW
  obtain ⟨p, q, hA0, hV, rfl, hfz, hnd⟩ := hW
  have hA : DataW.TrodAll enc Tryd.prog W 0 (fun _ => true) true Tryd.f5.params.toList args.toList ds p := hA0
  rw [Tryd.params5] at hA hval
  obtain ⟨v0, vs0, d0, ds0, p0, q0, hargs, rfl, rfl, h0, r0⟩ := trodAll_cons hA
  obtain ⟨v1, vs1, d1, ds1, p1, q1, rfl, rfl, rfl, h1, r1⟩ := trodAll_cons r0
  obtain ⟨rfl, rfl, rfl⟩ := trodAll_nil r1
  obtain rfl : args = #[v0, v1] := by cases args; simp_all
  obtain ⟨rfl, rfl⟩ := trodVars_none hV
  obtain ⟨a0, rfl, rfl, rfl, w0⟩ := open_int Tryd.underlying3 (hval 0 3 v0 rfl rfl) h0
  obtain ⟨c0, c1, c2, y0, y1, y2, m, rfl, rfl, rfl, hy0, hy1, hy2⟩ := open_agg3 Tryd.underlying36 (by kernel_rfl) (by kernel_rfl) (hval 1 36 v1 rfl rfl) h1
  obtain ⟨n, e0, rfl⟩ := DataW.trod_bool Tryd.underlying4 hy0
  obtain ⟨s, e1, rfl, ws⟩ := DataW.trod_string Tryd.underlying9 hy1
  obtain ⟨e, e2, rfl, we⟩ := DataW.trod_int Tryd.underlying3 hy2
  simp at e0 e1 e2
  subst e0 e1 e2
  clear hA0 hval0
  refine (walk a0 n s e W (gl_of hL hsh) w0).mono fun e' W' ⟨he, bel⟩ => ?_
  subst he
  exact ⟨_, rfl, _, _, _, [], _, [], hW', trodAll_mk1 (shut_bool Tryd.underlying4 _), trodAll_cons_mk (shut_int Tryd.underlying3 w0) (trodAll_cons_mk (decReads W' _ _ _ n s e ws we) trodAll_mk0), rfl, bel.frame _, fun h => by cases h⟩

theorem reads (os : Os) {H : Type} (enc : TypeId × Value → H) : ∃ places, DataW.whole enc Tryd.prog ((laidWorld os).forCall (fun _ _ => 0) ⟨#[], #[.int .i64 0, .agg #[.bool false, .string ByteArray.empty, .int .i64 0]], []⟩).memory Tryd.f5.params.toList Rows.localeBackSpec.vars false #[Value.int .i64 0, .agg #[.bool false, .string ByteArray.empty, .int .i64 0]].toList 8 = some ([.lit (.int .i64 0), .agg [.lit (.bool false), .lit (.string []), .lit (.int .i64 0)]], [], places) :=
  ⟨[], by kernel_rfl⟩

set_option maxRecDepth 100000 in
theorem lifted (os : Os) (started : os.Started) (H : Type) (enc : TypeId × Value → H) (F : Stop.Interp) :
    ReturnsInHanded {} Tryd.checked os 5 .any ((OpenSpec.ofChange Rows.localeBackSpec).preRow enc Tryd.prog Tryd.f5 Rows.localeBackRow.domain false Rows.localeBackRow.laid) (((OpenSpec.ofChange Rows.localeBackSpec).at F).post enc Tryd.prog Tryd.f5 false true false false) := by
  obtain ⟨places, hx⟩ := reads os enc
  refine returnsInHanded_of_row (C := Tryd.checked) (s := OpenSpec.ofChange Rows.localeBackSpec) own started (by kernel_rfl) Tryd.func5
    (witness_row_at (enc := enc) (C := Tryd.checked) false (laidWorld os) #[.int .i64 0, .agg #[.bool false, .string ByteArray.empty, .int .i64 0]] rfl (by kernel_rfl) (by kernel_rfl) (by kernel_rfl)
      (OpenSpec.preRow_of_cond 8 hx (by kernel_rfl) (fun k hk => by cases hk) (by kernel_rfl) (laid_met os _))) ?_
  intro W base args ds gs before hval hW _ _ _ hL hsh _
  exact contract H enc W base args ds gs before hval hW hL hsh

theorem said : Rows.LocaleBackSaid :=
  OpenClaim.holds_of_cond 5 Tryd.f5 rfl rfl rfl rfl rfl rfl rfl ⟨rfl, rfl, rfl, rfl, rfl⟩ rfl rfl rfl rfl rfl (by kernel_rfl) Tryd.func5 (by kernel_rfl)
    (of_decide_eq_true (by kernel_rfl)) (by unfold Func.isWrapper; first | (rw [if_pos (by decide +kernel)]; kernel_rfl) | (rw [if_neg (by decide +kernel)]; exact ⟨rfl, rfl⟩))
    (fun os started H enc _ F => by rw [OpenClaim.pre_eq_preRow]; exact lifted os started H enc F)

theorem plain (f : FuncId) (fn : Func) (hf : Tryd.pinned.checked.prog.funcNamed "tabard/tabardlaw11.LocaleBack" = some f) (hfn : Tryd.pinned.checked.prog.funcs[f]? = some fn) :
    true = Tryd.pinned.checked.prog.looks [] ∧ ∀ (j : Nat) t, fn.params[j]? = some t → Tryd.pinned.checked.prog.wantsStandIn t = false := by
  obtain rfl : f = 5 := Option.some.inj ((show Tryd.prog.funcNamed "tabard/tabardlaw11.LocaleBack" = some 5 by kernel_rfl).symm.trans hf) |>.symm
  obtain rfl : fn = Tryd.f5 := (Option.some.inj (Tryd.func5.symm.trans hfn)).symm
  refine ⟨by kernel_rfl, fun j t ht => ?_⟩
  rw [Tryd.params5] at ht
  have hm := Array.mem_of_getElem? ht
  have h : t = 3 ∨ t = 36 := by simpa using hm
  rcases h with rfl | rfl
  · exact (show Tryd.prog.wantsStandIn 3 = false by kernel_rfl)
  · exact (show Tryd.prog.wantsStandIn 36 = false by kernel_rfl)

theorem card : Rows.LocaleBackCardSaid :=
  Claim7.holds_tied_plain_at .later [] _ _ _ _ said (fun _ h => by cases h) (by kernel_rfl) (fun _ h => by cases h) localeBack_row_tie rfl ⟨rfl, rfl⟩ (by kernel_rfl) rfl plain (by kernel_rfl)
end Go.Proofs.YtmbhjogohfcjgaaDoor.Lr.localeBack
namespace Go.Proofs.YtmbhjogohfcjgaaDoor
/-- LocaleBack: the card. -/
theorem localeBack_card : Rows.LocaleBackCardSaid := Lr.localeBack.card
#print axioms localeBack_card
end Go.Proofs.YtmbhjogohfcjgaaDoor
