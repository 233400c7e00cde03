/- The law BitopScans: for every input the call returns true; its arguments are as they were. -/
import Derived.Test.YtdnnlfpahnbfmaaAwake4
import Derived.Test.YtdnnlfpahnbfmaaExtNo
import Derived.Test.YtdnnlfpahnbfmaaRows
import Derived.ProofKit
import Derived.OpenShut
import Derived.ChangeOld
namespace Go.Proofs.Ytdnnlfpahnbfmaa.lawBitopScans
open Go.ChangeShapes Go.WideShapes Go.ChangeAt Go.RowKit Pl
set_option linter.unusedVariables false

set_option maxHeartbeats 1000000 in
theorem walk_of (up : Bool) (size to : Int) (a fl : Nat) (ha : a < 4294967296) (n : Int) (is : Bool) (f e x i : Int)
    (C1 : ∀ w, Calls Try.prog 15 #[.bool up, .int .i64 size, .int .u32 a, .int .u32 fl] w fun en w' => en = .returned (.tuple #[.int .u32 n, .bool is, .int .u32 f, .int .i64 e]) ∧ w = w')
    (C2 : ∀ w, Calls Try.prog 16 #[.bool up, .int .i64 size, .int .u32 a, .int .u32 fl] w fun en w' => en = .returned (.tuple #[.int .u32 n, .bool is, .int .u32 f, .int .i64 e]) ∧ w = w')
    (C3 : ∀ w, Calls Try.prog 17 #[.bool up, .int .i64 size, .int .i64 to, .int .u32 a] w fun en w' => en = .returned (.tuple #[.int .u32 x, .int .i64 i]) ∧ w = w')
    (C4 : ∀ w, Calls Try.prog 18 #[.bool up, .int .i64 size, .int .i64 to, .int .u32 a] w fun en w' => en = .returned (.tuple #[.int .u32 x, .int .i64 i]) ∧ w = w') (w : World) :
    Calls Try.prog 6 #[.bool up, .int .i64 size, .int .i64 to, .int .u32 a, .int .u32 fl] w fun e w' => e = .returned (.bool true) ∧ Below w.heap.size w w' := by
  have H1 := hide C1
  have H2 := hide C2
  have H3 := hide C3
  have H4 := hide C4
  have H5 := hide (swap_ok a ha)
  have H6 := hide (refswap_ok a ha)
  generalize swapN a = sw at *
  clear C1 C2 C3 C4 ha
  go_enter Try.func6, Try.ntmps6
  go_wp2_with (first
    | (go_at_call 10; refine (awake_ok _).mono ?_; rintro e w1 ⟨rfl, hb⟩)
    | (go_at_call 15; refine (H1.out _).mono ?_; rintro e w' ⟨rfl, rfl⟩)
    | (go_at_call 16; refine (H2.out _).mono ?_; rintro e w' ⟨rfl, rfl⟩)
    | (go_at_call 17; refine (H3.out _).mono ?_; rintro e w' ⟨rfl, rfl⟩)
    | (go_at_call 18; refine (H4.out _).mono ?_; rintro e w' ⟨rfl, rfl⟩)
    | (go_at_call 19; refine (H5.out _).mono ?_; rintro e w' ⟨rfl, rfl⟩)
    | (go_at_call 20; refine (H6.out _).mono ?_; rintro e w' ⟨rfl, rfl⟩))
  go_ret
  exact ⟨by simp, hb⟩
theorem ext_both (up : Bool) (f t : Int) (a : Nat) (ha : a < 4294967296) : ∃ x i : Int,
    (∀ w, Calls Try.prog 17 #[.bool up, .int .i64 f, .int .i64 t, .int .u32 a] w fun en w' => en = .returned (.tuple #[.int .u32 x, .int .i64 i]) ∧ w = w') ∧
    (∀ w, Calls Try.prog 18 #[.bool up, .int .i64 f, .int .i64 t, .int .u32 a] w fun en w' => en = .returned (.tuple #[.int .u32 x, .int .i64 i]) ∧ w = w') := by
  by_cases h : f = 1 ∧ t = 1 ∨ f = 1 ∧ t = 2 ∨ f = 1 ∧ t = 4 ∨ f = 2 ∧ t = 2 ∨ f = 2 ∧ t = 4 ∨ f = 4 ∧ t = 4
  · exact ⟨_, _, fun w => ext_ok up f t h a ha w, fun w => refext_ok up f t h a ha w⟩
  · exact ⟨_, _, fun w => ext_no up f t h a w, fun w => refext_no up f t h a w⟩
theorem scan_both (up : Bool) (size : Int) (a fl : Nat) (ha : a < 4294967296) (hf : fl < 4294967296) : ∃ (n : Int) (is : Bool) (f e : Int),
    (∀ w, Calls Try.prog 15 #[.bool up, .int .i64 size, .int .u32 a, .int .u32 fl] w fun en w' => en = .returned (.tuple #[.int .u32 n, .bool is, .int .u32 f, .int .i64 e]) ∧ w = w') ∧
    (∀ w, Calls Try.prog 16 #[.bool up, .int .i64 size, .int .u32 a, .int .u32 fl] w fun en w' => en = .returned (.tuple #[.int .u32 n, .bool is, .int .u32 f, .int .i64 e]) ∧ w = w') := by
  by_cases hs : size = 2 ∨ size = 4
  · rcases hs with rfl | rfl
    · have V := fun w => value16 a ha w
      have U := fun w => cut16 a w
      have hx : a % 65536 < 2 ^ (Int.toNat 16) := Nat.mod_lt _ (by decide)
      have hx' : a % 65536 < 4294967296 := by omega
      generalize a % 65536 = x at *
      by_cases h0 : x = 0
      · subst h0
        exact ⟨_, _, _, _, fun w => scan_zero up 2 (.inl rfl) a fl hf V w, fun w => refscan_zero up 2 16 (.inl ⟨rfl, rfl⟩) a fl ha hf U w⟩
      · cases up
        · exact ⟨_, _, _, _, fun w => scan_down 2 (.inl rfl) a fl x hf hx' h0 V w, fun w => refscan_down 2 16 (.inl ⟨rfl, rfl⟩) a fl x ha hf hx h0 U w⟩
        · exact ⟨_, _, _, _, fun w => scan_up 2 (.inl rfl) a fl x hf hx' h0 V w, fun w => refscan_up 2 16 (.inl ⟨rfl, rfl⟩) a fl x ha hf hx h0 U w⟩
    · have V := fun w => value32 a ha w
      have U := fun w => cut32 a w
      have hx : a % 4294967296 < 2 ^ (Int.toNat 32) := Nat.mod_lt _ (by decide)
      have hx' : a % 4294967296 < 4294967296 := by omega
      generalize a % 4294967296 = x at *
      by_cases h0 : x = 0
      · subst h0
        exact ⟨_, _, _, _, fun w => scan_zero up 4 (.inr rfl) a fl hf V w, fun w => refscan_zero up 4 32 (.inr ⟨rfl, rfl⟩) a fl ha hf U w⟩
      · cases up
        · exact ⟨_, _, _, _, fun w => scan_down 4 (.inr rfl) a fl x hf hx' h0 V w, fun w => refscan_down 4 32 (.inr ⟨rfl, rfl⟩) a fl x ha hf hx h0 U w⟩
        · exact ⟨_, _, _, _, fun w => scan_up 4 (.inr rfl) a fl x hf hx' h0 V w, fun w => refscan_up 4 32 (.inr ⟨rfl, rfl⟩) a fl x ha hf hx h0 U w⟩
  · exact ⟨_, _, _, _, fun w => scan_no up size (by omega) (by omega) a fl w, fun w => refscan_no up size (by omega) (by omega) a fl w⟩
theorem walk (up : Bool) (size : Int) (ws : (Lit.int .i64 size).wf = true) (to : Int) (wt : (Lit.int .i64 to).wf = true) (a : Nat) (ha : a < 4294967296) (fl : Nat) (hf : fl < 4294967296) (w : World) :
    Calls Try.prog 6 #[.bool up, .int .i64 size, .int .i64 to, .int .u32 a, .int .u32 fl] w fun e w' => e = .returned (.bool true) ∧ Below w.heap.size w w' := by
  obtain ⟨x, i, C3, C4⟩ := ext_both up size to a ha
  obtain ⟨n, is, f, e, C1, C2⟩ := scan_both up size a fl ha hf
  exact walk_of up size to a fl ha n is f e x i C1 C2 C3 C4 w

theorem own : ownKnob Try.prog.godebug = none := by kernel_rfl

set_option maxRecDepth 100000 in
theorem lifted (os : Os) (started : os.Started) (H : Type) (enc : TypeId × Value → H) :
    ReturnsInHanded {} Try.checked os 6 .any (Rows.bitopScansSpec.pre6 enc Try.prog Try.f6 Rows.bitopScansRow.domain false) (Rows.bitopScansSpec.post enc Try.prog Try.f6 false true false false) := by
  refine returnsInHanded_of_change (C := Try.checked) own started (by kernel_rfl) Try.func6
    (ChangeSpec.witness6 (enc := enc) (C := Try.checked) false ⟨#[], #[.bool false, .int .i64 0, .int .i64 0, .int .u32 0, .int .u32 0], []⟩ 8 (by kernel_rfl) (by kernel_rfl) (by kernel_rfl) (by kernel_rfl)) ?_
  intro W base args ds gs before hval0 hW hcnd _
  have hval : ∀ (j : Nat) t v, Try.f6.params[j]? = some t → args[j]? = some v → Value.okWide Try.prog W .any base t v := hval0
  have hW' := hW
  obtain ⟨p, q, hA0, hV, rfl, hfz, hnd⟩ := hW
  have hA : DataW.TrodAll enc Try.prog W 0 (fun _ => true) true Try.f6.params.toList args.toList ds p := hA0
  rw [Try.params6] at hA hval
  obtain ⟨v0, vs0, d0, ds0, p0, q0, hargs, rfl, rfl, h0, r0⟩ := trodAll_cons hA
  obtain ⟨v1, vs1, d1, ds1, p1, q1, rfl, rfl, rfl, h1, r1⟩ := trodAll_cons r0
  obtain ⟨v2, vs2, d2, ds2, p2, q2, rfl, rfl, rfl, h2, r2⟩ := trodAll_cons r1
  obtain ⟨v3, vs3, d3, ds3, p3, q3, rfl, rfl, rfl, h3, r3⟩ := trodAll_cons r2
  obtain ⟨v4, vs4, d4, ds4, p4, q4, rfl, rfl, rfl, h4, r4⟩ := trodAll_cons r3
  obtain ⟨rfl, rfl, rfl⟩ := trodAll_nil r4
  obtain rfl : args = #[v0, v1, v2, v3, v4] := by cases args; simp_all
  obtain ⟨rfl, rfl⟩ := trodVars_none hV
  obtain ⟨a0, rfl, rfl, rfl⟩ := open_bool Try.underlying4 (hval 0 4 v0 rfl rfl) h0
  obtain ⟨a1, rfl, rfl, rfl, w1⟩ := open_int Try.underlying3 (hval 1 3 v1 rfl rfl) h1
  obtain ⟨a2, rfl, rfl, rfl, w2⟩ := open_int Try.underlying3 (hval 2 3 v2 rfl rfl) h2
  obtain ⟨a3, rfl, rfl, rfl, w3⟩ := open_int Try.underlying23 (hval 3 23 v3 rfl rfl) h3
  obtain ⟨a4, rfl, rfl, rfl, w4⟩ := open_int Try.underlying23 (hval 4 23 v4 rfl rfl) h4
  clear hA0 hval0
  simp only [List.append_nil] at hW'
  obtain ⟨n3, rfl, b3⟩ := u32_nat w3
  obtain ⟨n4, rfl, b4⟩ := u32_nat w4
  refine (walk a0 a1 w1 a2 w2 n3 b3 n4 b4 W).mono fun e W' ⟨he, bel⟩ => ?_
  subst he
  exact ⟨_, rfl, _, _, _, [], [], [], hW', trodAll_mk1 (shut_bool Try.underlying4 _), (trodAll_cons_mk (shut_bool Try.underlying4 _) (trodAll_cons_mk (shut_int Try.underlying3 w1) (trodAll_cons_mk (shut_int Try.underlying3 w2) (trodAll_cons_mk (shut_int Try.underlying23 w3) (trodAll_cons_mk (shut_int Try.underlying23 w4) trodAll_mk0))))), rfl, bel.frame _, fun h => by cases h⟩

theorem over : Rows.bitopScansRow.holds Try.pinned (OpenSpec.ofChange Rows.bitopScansSpec) :=
  OpenClaim.holds_of_wide 6 Try.f6 rfl rfl rfl rfl rfl rfl rfl ⟨rfl, rfl, rfl, rfl, rfl⟩ rfl rfl rfl rfl rfl (by kernel_rfl) Try.func6 (by kernel_rfl)
    (of_decide_eq_true (by kernel_rfl)) (by unfold Func.isWrapper; first | (rw [if_pos (by decide +kernel)]; kernel_rfl) | (rw [if_neg (by decide +kernel)]; exact ⟨rfl, rfl⟩))
    (fun os started H enc _ => lifted os started H enc)

theorem proved : Rows.BitopScansSaid :=
  over
end Go.Proofs.Ytdnnlfpahnbfmaa.lawBitopScans
