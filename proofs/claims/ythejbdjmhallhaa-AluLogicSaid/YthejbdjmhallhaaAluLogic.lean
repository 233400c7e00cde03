/- The law AluLogic: for every input the call returns true; its arguments are as they were. -/
import Derived.Test.YthejbdjmhallhaaAluAll
import Derived.Test.YthejbdjmhallhaaRefFlags
import Derived.Test.YthejbdjmhallhaaAluLaws
import Derived.Test.YthejbdjmhallhaaRows
import Derived.ProofKit
import Derived.OpenShut
import Derived.ChangeOld
namespace Go.Proofs.Ythejbdjmhallhaa.lawAluLogic
open Go.ChangeShapes Go.WideShapes Go.ChangeAt Go.RowKit Pl
set_option linter.unusedVariables false

def DoC (op s : Int) (a b fl r f : Nat) : Prop := ∀ w, Calls Try.prog 11 #[.int .i64 op, .int .i64 s, .int .u32 a, .int .u32 b, .int .u32 fl] w fun en w' => en = .returned (.tuple #[.int .u32 r, .int .u32 f, .int .i64 0]) ∧ Below w.heap.size w w'
set_option maxRecDepth 20000 in
set_option maxHeartbeats 4000000 in
theorem walk_of (s : Int) (a b fl x y z f f1 f2 n m o f3 f4 f5 r8 fm : Nat) (hfm : bits .andNot .u32 (fl : Int) 2065 = (fm : Int)) (hxz : x + z = y) (hy : y < 4294967296)
    (C0 : DoC 4 s a b fl x f) (C1 : DoC 1 s a b fl y f1) (C2 : DoC 6 s a b fl z f2) (C3 : DoC 12 s a 0 fl n f3) (C4 : DoC 12 s b 0 fl m f4) (C5 : DoC 1 s n m fl o f5)
    (C6 : DoC 12 s o 0 fl x fl) (C7 : DoC 8 s a b fl r8 f)
    (C8 : ∀ w, Calls Try.prog 13 #[.int .i64 s, .int .u32 x, .int .u32 fm] w fun en w' => en = .returned (.tuple #[.int .u32 f, .int .i64 0]) ∧ w = w') (w : World) :
    Calls Try.prog 9 #[.int .i64 s, .int .u32 a, .int .u32 b, .int .u32 fl] w fun e w' => e = .returned (.bool true) ∧ Below w.heap.size w w' := by
  have H0 := hide C0
  have H1 := hide C1
  have H2 := hide C2
  have H3 := hide C3
  have H4 := hide C4
  have H5 := hide C5
  have H6 := hide C6
  have H7 := hide C7
  have H8 := hide C8
  have q : (((x : Int) + (z : Int)) % 4294967296) = (y : Int) := by omega
  have q' : ((x : Int) + (z : Int)) = (y : Int) := by omega
  clear C0 C1 C2 C3 C4 C5 C6 C7 C8 hxz hy
  go_enter Try.func9, Try.ntmps9
  go_wp2_with fail
  refine (awake_ok _).mono ?_
  rintro e w1 ⟨rfl, hb⟩
  go_wp2_with fail
  refine (H0.out _).mono ?_
  rintro e w1 ⟨rfl, h2⟩
  replace hb := hb.trans (h2.mono hb.size)
  clear h2
  go_wp2_with fail
  refine (H1.out _).mono ?_
  rintro e w1 ⟨rfl, h2⟩
  replace hb := hb.trans (h2.mono hb.size)
  clear h2
  go_wp2_with fail
  refine (H2.out _).mono ?_
  rintro e w1 ⟨rfl, h2⟩
  replace hb := hb.trans (h2.mono hb.size)
  clear h2
  go_wp2_with fail
  refine (H3.out _).mono ?_
  rintro e w1 ⟨rfl, h2⟩
  replace hb := hb.trans (h2.mono hb.size)
  clear h2
  go_wp2_with fail
  refine (H4.out _).mono ?_
  rintro e w1 ⟨rfl, h2⟩
  replace hb := hb.trans (h2.mono hb.size)
  clear h2
  go_wp2_with fail
  refine (H5.out _).mono ?_
  rintro e w1 ⟨rfl, h2⟩
  replace hb := hb.trans (h2.mono hb.size)
  clear h2
  go_wp2_with fail
  refine (H6.out _).mono ?_
  rintro e w1 ⟨rfl, h2⟩
  replace hb := hb.trans (h2.mono hb.size)
  clear h2
  go_wp2_with fail
  refine (H7.out _).mono ?_
  rintro e w1 ⟨rfl, h2⟩
  replace hb := hb.trans (h2.mono hb.size)
  clear h2
  go_wp2_with fail
  refine (H8.out _).mono ?_
  rintro e w' ⟨rfl, rfl⟩
  go_wp2
  go_ret
  exact ⟨by first | rfl | simp [q, q'], hb⟩
set_option maxRecDepth 20000 in
set_option maxHeartbeats 1000000 in
theorem walk_no (s a b fl : Int)
    (C : ∀ (op a b : Int) w, Calls Try.prog 11 #[.int .i64 op, .int .i64 s, .int .u32 a, .int .u32 b, .int .u32 fl] w fun en w' => en = .returned (.tuple #[.int .u32 0, .int .u32 0, .int .i64 2]) ∧ Below w.heap.size w w') (w : World) :
    Calls Try.prog 9 #[.int .i64 s, .int .u32 a, .int .u32 b, .int .u32 fl] w fun e w' => e = .returned (.bool true) ∧ Below w.heap.size w w' := by
  have H1 := hide (C 4 a b)
  have H2 := hide (C 1 a b)
  have H3 := hide (C 6 a b)
  clear C
  go_enter Try.func9, Try.ntmps9
  go_wp2_with fail
  refine (awake_ok _).mono ?_
  rintro e w1 ⟨rfl, hb⟩
  go_wp2_with fail
  refine (H1.out _).mono ?_
  rintro e w1 ⟨rfl, h2⟩
  replace hb := hb.trans (h2.mono hb.size)
  clear h2
  go_wp2_with fail
  refine (H2.out _).mono ?_
  rintro e w1 ⟨rfl, h2⟩
  replace hb := hb.trans (h2.mono hb.size)
  clear h2
  go_wp2_with fail
  refine (H3.out _).mono ?_
  rintro e w1 ⟨rfl, h2⟩
  replace hb := hb.trans (h2.mono hb.size)
  clear h2
  go_wp2
  go_ret
  exact ⟨rfl, hb⟩
theorem walk (s : Int) (ws : (Lit.int .i64 s).wf = true) (a : Nat) (ha : a < 4294967296) (b : Nat) (hb : b < 4294967296) (fl : Nat) (hf : fl < 4294967296) (w : World) :
    Calls Try.prog 9 #[.int .i64 s, .int .u32 a, .int .u32 b, .int .u32 fl] w fun e w' => e = .returned (.bool true) ∧ Below w.heap.size w w' := by
  by_cases hs : s = 1 ∨ s = 2 ∨ s = 4
  · have h32 : 2 ^ (8 * s.toNat) ≤ 4294967296 := by rcases hs with rfl | rfl | rfl <;> decide
    have hX : a % 2 ^ (8 * s.toNat) < 2 ^ (8 * s.toNat) := Nat.mod_lt _ (Nat.two_pow_pos _)
    have hY : b % 2 ^ (8 * s.toNat) < 2 ^ (8 * s.toNat) := Nat.mod_lt _ (Nat.two_pow_pos _)
    have hfm : fl &&& (4294967295 - 2065) < 4294967296 := Nat.and_lt_two_pow (n := 32) _ (by decide)
    have C0 := fun w => do_ok 4 (by decide) s hs a b fl ha hb hf w
    have C1 := fun w => do_ok 1 (by decide) s hs a b fl ha hb hf w
    have C2 := fun w => do_ok 6 (by decide) s hs a b fl ha hb hf w
    have C3 := fun w => do_ok 12 (by decide) s hs a 0 fl ha (by decide) hf w
    have C4 := fun w => do_ok 12 (by decide) s hs b 0 fl hb (by decide) hf w
    have C7 := fun w => do_ok 8 (by decide) s hs a b fl ha hb hf w
    have l1 : 2 ^ (8 * s.toNat) - 1 - a % 2 ^ (8 * s.toNat) < 2 ^ (8 * s.toNat) := by omega
    have l2 : 2 ^ (8 * s.toNat) - 1 - b % 2 ^ (8 * s.toNat) < 2 ^ (8 * s.toNat) := by omega
    have l3 : (2 ^ (8 * s.toNat) - 1 - a % 2 ^ (8 * s.toNat)) ||| (2 ^ (8 * s.toNat) - 1 - b % 2 ^ (8 * s.toNat)) < 2 ^ (8 * s.toNat) := Nat.or_lt_two_pow l1 l2
    have lx : a % 2 ^ (8 * s.toNat) &&& b % 2 ^ (8 * s.toNat) < 2 ^ (8 * s.toNat) := Nat.and_lt_two_pow _ hY
    have C5 := fun w => do_ok 1 (by decide) s hs (2 ^ (8 * s.toNat) - 1 - a % 2 ^ (8 * s.toNat)) (2 ^ (8 * s.toNat) - 1 - b % 2 ^ (8 * s.toNat)) fl (by omega) (by omega) hf w
    rw [Nat.mod_eq_of_lt l1, Nat.mod_eq_of_lt l2] at C5
    have C6 := fun w => do_ok 12 (by decide) s hs ((2 ^ (8 * s.toNat) - 1 - a % 2 ^ (8 * s.toNat)) ||| (2 ^ (8 * s.toNat) - 1 - b % 2 ^ (8 * s.toNat))) 0 fl (Nat.lt_of_lt_of_le l3 h32) (by decide) hf w
    rw [Nat.mod_eq_of_lt l3] at C6
    have e6 : doR (Int.toNat 12) (8 * s.toNat) ((2 ^ (8 * s.toNat) - 1 - a % 2 ^ (8 * s.toNat)) ||| (2 ^ (8 * s.toNat) - 1 - b % 2 ^ (8 * s.toNat))) (0 % 2 ^ (8 * s.toNat)) fl = a % 2 ^ (8 * s.toNat) &&& b % 2 ^ (8 * s.toNat) := not_or_not _ _ _ hX hY
    rw [e6] at C6
    have C8 := fun w => flags_ok s hs (a % 2 ^ (8 * s.toNat) &&& b % 2 ^ (8 * s.toNat)) (fl &&& (4294967295 - 2065)) (Nat.lt_of_lt_of_le lx h32) hfm w
    rw [Nat.mod_eq_of_lt lx, log_by _ _ _ hf] at C8
    exact walk_of s a b fl (a % 2 ^ (8 * s.toNat) &&& b % 2 ^ (8 * s.toNat)) _ _ _ _ _ _ _ _ _ _ _ _ _ (u32_andNot_nat fl 2065 hf (by decide)) (and_add_xor _ _ _ hX hY) (Nat.lt_of_lt_of_le (Nat.or_lt_two_pow hX hY) h32) C0 C1 C2 C3 C4 C5 C6 C7 C8 w
  · exact walk_no s a b fl (fun op a b w => do_size op s (by omega) (by omega) (by omega) a b fl w) w

theorem own : ownKnob Try.prog.godebug = none := by kernel_rfl

set_option maxRecDepth 100000 in
theorem lifted (os : Os) (started : os.Started) (H : Type) (enc : TypeId × Value → H) :
    ReturnsInHanded {} Try.checked os 9 .any (Rows.aluLogicSpec.pre6 enc Try.prog Try.f9 Rows.aluLogicRow.domain false) (Rows.aluLogicSpec.post enc Try.prog Try.f9 false true false false) := by
  refine returnsInHanded_of_change (C := Try.checked) own started (by kernel_rfl) Try.func9
    (ChangeSpec.witness6 (enc := enc) (C := Try.checked) false ⟨#[], #[.int .i64 0, .int .u32 0, .int .u32 0, .int .u32 0], []⟩ 8 (by kernel_rfl) (by kernel_rfl) (by kernel_rfl) (by kernel_rfl)) ?_
  intro W base args ds gs before hval0 hW hcnd _
  have hval : ∀ (j : Nat) t v, Try.f9.params[j]? = some t → args[j]? = some v → Value.okWide Try.prog W .any base t v := hval0
  have hW' := hW
  obtain ⟨p, q, hA0, hV, rfl, hfz, hnd⟩ := hW
  have hA : DataW.TrodAll enc Try.prog W 0 (fun _ => true) true Try.f9.params.toList args.toList ds p := hA0
  rw [Try.params9] at hA hval
  obtain ⟨v0, vs0, d0, ds0, p0, q0, hargs, rfl, rfl, h0, r0⟩ := trodAll_cons hA
  obtain ⟨v1, vs1, d1, ds1, p1, q1, rfl, rfl, rfl, h1, r1⟩ := trodAll_cons r0
  obtain ⟨v2, vs2, d2, ds2, p2, q2, rfl, rfl, rfl, h2, r2⟩ := trodAll_cons r1
  obtain ⟨v3, vs3, d3, ds3, p3, q3, rfl, rfl, rfl, h3, r3⟩ := trodAll_cons r2
  obtain ⟨rfl, rfl, rfl⟩ := trodAll_nil r3
  obtain rfl : args = #[v0, v1, v2, v3] := by cases args; simp_all
  obtain ⟨rfl, rfl⟩ := trodVars_none hV
  obtain ⟨a0, rfl, rfl, rfl, w0⟩ := open_int Try.underlying3 (hval 0 3 v0 rfl rfl) h0
  obtain ⟨a1, rfl, rfl, rfl, w1⟩ := open_int Try.underlying23 (hval 1 23 v1 rfl rfl) h1
  obtain ⟨a2, rfl, rfl, rfl, w2⟩ := open_int Try.underlying23 (hval 2 23 v2 rfl rfl) h2
  obtain ⟨a3, rfl, rfl, rfl, w3⟩ := open_int Try.underlying23 (hval 3 23 v3 rfl rfl) h3
  clear hA0 hval0
  simp only [List.append_nil] at hW'
  obtain ⟨n1, rfl, b1⟩ := u32_nat w1
  obtain ⟨n2, rfl, b2⟩ := u32_nat w2
  obtain ⟨n3, rfl, b3⟩ := u32_nat w3
  refine (walk a0 w0 n1 b1 n2 b2 n3 b3 W).mono fun e W' ⟨he, bel⟩ => ?_
  subst he
  exact ⟨_, rfl, _, _, _, [], [], [], hW', trodAll_mk1 (shut_bool Try.underlying4 _), (trodAll_cons_mk (shut_int Try.underlying3 w0) (trodAll_cons_mk (shut_int Try.underlying23 w1) (trodAll_cons_mk (shut_int Try.underlying23 w2) (trodAll_cons_mk (shut_int Try.underlying23 w3) trodAll_mk0)))), rfl, bel.frame _, fun h => by cases h⟩

theorem over : Rows.aluLogicRow.holds Try.pinned (OpenSpec.ofChange Rows.aluLogicSpec) :=
  OpenClaim.holds_of_wide 9 Try.f9 rfl rfl rfl rfl rfl rfl rfl ⟨rfl, rfl, rfl, rfl, rfl⟩ rfl rfl rfl rfl rfl (by kernel_rfl) Try.func9 (by kernel_rfl)
    (of_decide_eq_true (by kernel_rfl)) (by unfold Func.isWrapper; first | (rw [if_pos (by decide +kernel)]; kernel_rfl) | (rw [if_neg (by decide +kernel)]; exact ⟨rfl, rfl⟩))
    (fun os started H enc _ => lifted os started H enc)

theorem proved : Rows.AluLogicSaid :=
  over
end Go.Proofs.Ythejbdjmhallhaa.lawAluLogic
