/- The law BitopWidths: for every input the call returns true; its arguments are as they were. -/
import Derived.Test.YtdnnlfpahnbfmaaAwake4
import Derived.Test.YtdnnlfpahnbfmaaRows
import Derived.ProofKit
import Derived.OpenShut
import Derived.ChangeOld
namespace Go.Proofs.Ytdnnlfpahnbfmaa.lawBitopWidths
open Go.ChangeShapes Go.WideShapes Go.ChangeAt Go.RowKit Pl
set_option linter.unusedVariables false

theorem widths_plain (signed : Bool) (a : Nat) (ha : a < 4294967296) :
    extN signed 1 2 a < 4294967296 ∧ extN signed 2 4 (extN signed 1 2 a) = extN signed 1 4 a ∧ extN signed 4 4 a = a ∧ extN signed 1 4 a % 256 = a % 256 ∧ extN signed 1 2 a % 256 = a % 256 := by
  unfold extN sgn
  simp only [Nat.reduceMul, Nat.reducePow, Nat.reduceSub]
  cases signed
  · simp only [Bool.false_and, Bool.false_eq_true, if_false]
    omega
  · simp only [Bool.true_and, beq_iff_eq]
    rcases (by omega : a % 256 / 128 % 2 = 0 ∨ a % 256 / 128 % 2 = 1) with h | h
    · have e1 : (if a % 256 / 128 % 2 = 1 then a % 256 + 65536 - 256 else a % 256) = a % 256 := if_neg (by omega)
      have e2 : (if a % 256 / 128 % 2 = 1 then a % 256 + 4294967296 - 256 else a % 256) = a % 256 := if_neg (by omega)
      rw [e1, e2, if_neg (by omega)]
      refine ⟨by omega, by omega, ?_, by omega, by omega⟩
      split <;> omega
    · have e1 : (if a % 256 / 128 % 2 = 1 then a % 256 + 65536 - 256 else a % 256) = a % 256 + 65536 - 256 := if_pos h
      have e2 : (if a % 256 / 128 % 2 = 1 then a % 256 + 4294967296 - 256 else a % 256) = a % 256 + 4294967296 - 256 := if_pos h
      rw [e1, e2, if_pos (by omega)]
      refine ⟨by omega, by omega, ?_, by omega, by omega⟩
      split <;> omega
set_option maxHeartbeats 1000000 in
theorem walk (signed : Bool) (a : Nat) (ha : a < 4294967296) (w : World) :
    Calls Try.prog 8 #[.bool signed, .int .u32 a] w fun e w' => e = .returned (.bool true) ∧ Below w.heap.size w w' := by
  obtain ⟨p0, p1, p2, p3, p4⟩ := widths_plain signed a ha
  have H1 := hide fun w => ext_ok signed 1 2 (by decide) a ha w
  have H2 := hide fun w => ext_ok signed 2 4 (by decide) (extN signed (Int.toNat 1) (Int.toNat 2) a) p0 w
  have H3 := hide fun w => ext_ok signed 1 4 (by decide) a ha w
  have H4 := hide fun w => ext_ok signed 4 4 (by decide) a ha w
  simp only [Int.reduceToNat] at H1 H2 H3 H4
  rw [p1] at H2
  rw [p2] at H4
  have q3 : (((extN signed 1 4 a : Nat) : Int) % 256 == (a : Int) % 256) = true := by simp; omega
  have q4 : (((extN signed 1 2 a : Nat) : Int) % 256 == (a : Int) % 256) = true := by simp; omega
  generalize extN signed 1 2 a = b at *
  generalize extN signed 1 4 a = d at *
  clear p0 p1 p2 p3 p4 ha
  go_enter Try.func8, Try.ntmps8
  go_wp2_with fail
  refine (awake_ok _).mono ?_
  rintro e w1 ⟨rfl, hb⟩
  go_wp2_with fail
  refine (H1.out _).mono ?_
  rintro e w' ⟨rfl, rfl⟩
  go_wp2_with fail
  refine (H2.out _).mono ?_
  rintro e w' ⟨rfl, rfl⟩
  go_wp2_with fail
  refine (H3.out _).mono ?_
  rintro e w' ⟨rfl, rfl⟩
  go_wp2_with fail
  refine (H4.out _).mono ?_
  rintro e w' ⟨rfl, rfl⟩
  go_wp2
  go_ret
  exact ⟨by simp, hb⟩

theorem own : ownKnob Try.prog.godebug = none := by kernel_rfl

set_option maxRecDepth 100000 in
theorem lifted (os : Os) (started : os.Started) (H : Type) (enc : TypeId × Value → H) :
    ReturnsInHanded {} Try.checked os 8 .any (Rows.bitopWidthsSpec.pre6 enc Try.prog Try.f8 Rows.bitopWidthsRow.domain false) (Rows.bitopWidthsSpec.post enc Try.prog Try.f8 false true false false) := by
  refine returnsInHanded_of_change (C := Try.checked) own started (by kernel_rfl) Try.func8
    (ChangeSpec.witness6 (enc := enc) (C := Try.checked) false ⟨#[], #[.bool false, .int .u32 0], []⟩ 8 (by kernel_rfl) (by kernel_rfl) (by kernel_rfl) (by kernel_rfl)) ?_
  intro W base args ds gs before hval0 hW hcnd _
  have hval : ∀ (j : Nat) t v, Try.f8.params[j]? = some t → args[j]? = some v → Value.okWide Try.prog W .any base t v := hval0
  have hW' := hW
  obtain ⟨p, q, hA0, hV, rfl, hfz, hnd⟩ := hW
  have hA : DataW.TrodAll enc Try.prog W 0 (fun _ => true) true Try.f8.params.toList args.toList ds p := hA0
  rw [Try.params8] at hA hval
  obtain ⟨v0, vs0, d0, ds0, p0, q0, hargs, rfl, rfl, h0, r0⟩ := trodAll_cons hA
  obtain ⟨v1, vs1, d1, ds1, p1, q1, rfl, rfl, rfl, h1, r1⟩ := trodAll_cons r0
  obtain ⟨rfl, rfl, rfl⟩ := trodAll_nil r1
  obtain rfl : args = #[v0, v1] := by cases args; simp_all
  obtain ⟨rfl, rfl⟩ := trodVars_none hV
  obtain ⟨a0, rfl, rfl, rfl⟩ := open_bool Try.underlying4 (hval 0 4 v0 rfl rfl) h0
  obtain ⟨a1, rfl, rfl, rfl, w1⟩ := open_int Try.underlying23 (hval 1 23 v1 rfl rfl) h1
  clear hA0 hval0
  simp only [List.append_nil] at hW'
  obtain ⟨n1, rfl, b1⟩ := u32_nat w1
  refine (walk a0 n1 b1 W).mono fun e W' ⟨he, bel⟩ => ?_
  subst he
  exact ⟨_, rfl, _, _, _, [], [], [], hW', trodAll_mk1 (shut_bool Try.underlying4 _), (trodAll_cons_mk (shut_bool Try.underlying4 _) (trodAll_cons_mk (shut_int Try.underlying23 w1) trodAll_mk0)), rfl, bel.frame _, fun h => by cases h⟩

theorem over : Rows.bitopWidthsRow.holds Try.pinned (OpenSpec.ofChange Rows.bitopWidthsSpec) :=
  OpenClaim.holds_of_wide 8 Try.f8 rfl rfl rfl rfl rfl rfl rfl ⟨rfl, rfl, rfl, rfl, rfl⟩ rfl rfl rfl rfl rfl (by kernel_rfl) Try.func8 (by kernel_rfl)
    (of_decide_eq_true (by kernel_rfl)) (by unfold Func.isWrapper; first | (rw [if_pos (by decide +kernel)]; kernel_rfl) | (rw [if_neg (by decide +kernel)]; exact ⟨rfl, rfl⟩))
    (fun os started H enc _ => lifted os started H enc)

theorem proved : Rows.BitopWidthsSaid :=
  over
end Go.Proofs.Ytdnnlfpahnbfmaa.lawBitopWidths
