/- The law AluOrders: for every input the call returns true; its arguments are as they were. -/
import Derived.Test.YthejbdjmhallhaaAluAll
import Derived.Test.YthejbdjmhallhaaRefFlags
import Derived.Test.YthejbdjmhallhaaAluLaws
import Derived.Test.YthejbdjmhallhaaRows
import Derived.ProofKit
import Derived.OpenShut
import Derived.ChangeOld
namespace Go.Proofs.Ythejbdjmhallhaa.lawAluOrders
open Go.ChangeShapes Go.WideShapes Go.ChangeAt Go.RowKit Pl
set_option linter.unusedVariables false

theorem i8_wrap (n : Int) : IntKind.i8.wrap n = (n + 128) % 256 - 128 := by
  simp [IntKind.wrap, IntKind.bits, IntKind.signed]
  split <;> omega
theorem i16_wrap (n : Int) : IntKind.i16.wrap n = (n + 32768) % 65536 - 32768 := by
  simp [IntKind.wrap, IntKind.bits, IntKind.signed]
  split <;> omega
set_option maxHeartbeats 1000000 in
theorem signed_ok (s : Int) (hs : s = 1 ∨ s = 2 ∨ s = 4) (x : Nat) (hx : x < 2 ^ (8 * s.toNat)) (w : World) :
    Calls Try.prog 16 #[.int .u32 x, .int .i64 s] w fun e w' => e = .returned (.int .i64 (sg (8 * s.toNat) x)) ∧ w = w' := by
  have HX := hide hx
  have hx' : x < 4294967296 := Nat.lt_of_lt_of_le hx (by rcases hs with rfl | rfl | rfl <;> decide)
  clear hx
  rcases hs with rfl | rfl | rfl
  all_goals
    go_enter Try.func16, Try.ntmps16
    go_wp2
    go_ret
    refine ⟨ret_int ?_, rfl⟩
    have hx := HX.out
    clear HX
    unfold sg sgn
    simp only [Int.reduceToNat, Nat.reduceMul, Nat.reducePow, Nat.reduceSub, beq_iff_eq, Int.reducePow] at hx ⊢
    first
      | (rw [i8_wrap]; unfold wrap64; split <;> omega)
      | (rw [i16_wrap]; unfold wrap64; split <;> omega)
      | (unfold wrap64 wrap32; split <;> omega)
      | (unfold wrap32; split <;> omega)
def DoC (op s : Int) (a b fl r f : Nat) : Prop := ∀ w, Calls Try.prog 11 #[.int .i64 op, .int .i64 s, .int .u32 a, .int .u32 b, .int .u32 fl] w fun en w' => en = .returned (.tuple #[.int .u32 r, .int .u32 f, .int .i64 0]) ∧ Below w.heap.size w w'
theorem has_int (f k : Nat) (q : Int) (h : q = (k : Int)) : ((f : Int) / q % 2 == 1) = hasF f k := by
  subst h
  unfold hasF
  rw [Bool.eq_iff_iff]
  simp only [beq_iff_eq]
  rw [show (f : Int) / (k : Int) = ((f / k : Nat) : Int) by simp]
  omega
set_option maxRecDepth 20000 in
set_option maxHeartbeats 4000000 in
theorem walk_of (s : Int) (a b fl x y f r f0 f1 : Nat) (sx sy : Int) (c z sf o : Bool)
    (C0 : DoC 1 s a a fl x f0) (C1 : DoC 1 s b b fl y f1) (C2 : DoC 7 s a b fl r f)
    (S1 : ∀ w, Calls Try.prog 16 #[.int .u32 x, .int .i64 s] w fun e w' => e = .returned (.int .i64 sx) ∧ w = w')
    (S2 : ∀ w, Calls Try.prog 16 #[.int .u32 y, .int .i64 s] w fun e w' => e = .returned (.int .i64 sy) ∧ w = w')
    (h1 : hasF f 1 = c) (h64 : hasF f 64 = z) (h128 : hasF f 128 = sf) (h2048 : hasF f 2048 = o)
    (e1 : c = decide (x < y)) (e2 : z = (x == y)) (e3 : (sf != o) = decide (sx < sy)) (w : World) :
    Calls Try.prog 7 #[.int .i64 s, .int .u32 a, .int .u32 b, .int .u32 fl] w fun e w' => e = .returned (.bool true) ∧ Below w.heap.size w w' := by
  have H0 := hide C0
  have H1 := hide C1
  have H2 := hide C2
  have H3 := hide S1
  have H4 := hide S2
  have q1 : ((f : Int) % 2 == 1) = c := by rw [← h1, ← has_int f 1 1 rfl]; simp
  have q2 : ((f : Int) / 64 % 2 == 1) = z := by rw [← h64, ← has_int f 64 64 rfl]
  have q3 : ((f : Int) / 128 % 2 == 1) = sf := by rw [← h128, ← has_int f 128 128 rfl]
  have q4 : ((f : Int) / 2048 % 2 == 1) = o := by rw [← h2048, ← has_int f 2048 2048 rfl]
  have q5 : decide ((x : Int) < (y : Int)) = c := by rw [e1, Bool.eq_iff_iff]; simp only [decide_eq_true_eq]; omega
  have q6 : ((x : Int) == (y : Int)) = z := by rw [e2, Bool.eq_iff_iff]; simp only [beq_iff_eq]; omega
  have q7 : decide (sx < sy) = (sf != o) := e3.symm
  have q8 : decide (x < y) = c := e1.symm
  have q9 : (x == y) = z := e2.symm
  clear C0 C1 C2 S1 S2 h1 h64 h128 h2048 e1 e2 e3
  cases c <;> cases z <;> cases sf <;> cases o
  all_goals
    try simp at q7
    go_enter Try.func7, Try.ntmps7
    go_wp2_with fail
    refine (awake_ok _).mono ?_
    rintro e w1 ⟨rfl, hb⟩
    go_wp2_with fail
    refine (H0.out _).mono ?_
    rintro e w1 ⟨rfl, h2⟩
    replace hb := hb.trans (h2.mono hb.size)
    clear h2
    go_wp2_with fail
    refine (H1.out _).mono ?_
    rintro e w1 ⟨rfl, h2⟩
    replace hb := hb.trans (h2.mono hb.size)
    clear h2
    go_wp2_with fail
    refine (H2.out _).mono ?_
    rintro e w1 ⟨rfl, h2⟩
    replace hb := hb.trans (h2.mono hb.size)
    clear h2
    go_wp2_with (go_at_call 15; go_in)
    refine (H3.out _).mono ?_
    rintro e w' ⟨rfl, rfl⟩
    go_wp2_with fail
    refine (H4.out _).mono ?_
    rintro e w' ⟨rfl, rfl⟩
    go_wp2
    go_ret
    exact ⟨by first | rfl | simp [*], hb⟩
set_option maxRecDepth 20000 in
set_option maxHeartbeats 1000000 in
theorem walk_no (s a b fl : Int)
    (C : ∀ (op a b : Int) w, Calls Try.prog 11 #[.int .i64 op, .int .i64 s, .int .u32 a, .int .u32 b, .int .u32 fl] w fun en w' => en = .returned (.tuple #[.int .u32 0, .int .u32 0, .int .i64 2]) ∧ Below w.heap.size w w') (w : World) :
    Calls Try.prog 7 #[.int .i64 s, .int .u32 a, .int .u32 b, .int .u32 fl] w fun e w' => e = .returned (.bool true) ∧ Below w.heap.size w w' := by
  have H1 := hide (C 1 a a)
  have H2 := hide (C 1 b b)
  have H3 := hide (C 7 a b)
  clear C
  go_enter Try.func7, Try.ntmps7
  go_wp2_with fail
  refine (awake_ok _).mono ?_
  rintro e w1 ⟨rfl, hb⟩
  go_wp2_with fail
  refine (H1.out _).mono ?_
  rintro e w1 ⟨rfl, h2⟩
  replace hb := hb.trans (h2.mono hb.size)
  clear h2
  go_wp2_with fail
  refine (H2.out _).mono ?_
  rintro e w1 ⟨rfl, h2⟩
  replace hb := hb.trans (h2.mono hb.size)
  clear h2
  go_wp2_with fail
  refine (H3.out _).mono ?_
  rintro e w1 ⟨rfl, h2⟩
  replace hb := hb.trans (h2.mono hb.size)
  clear h2
  go_wp2
  go_ret
  exact ⟨rfl, hb⟩
theorem walk (s : Int) (ws : (Lit.int .i64 s).wf = true) (a : Nat) (ha : a < 4294967296) (b : Nat) (hb : b < 4294967296) (fl : Nat) (hf : fl < 4294967296) (w : World) :
    Calls Try.prog 7 #[.int .i64 s, .int .u32 a, .int .u32 b, .int .u32 fl] w fun e w' => e = .returned (.bool true) ∧ Below w.heap.size w w' := by
  by_cases hs : s = 1 ∨ s = 2 ∨ s = 4
  · have hB : wb (8 * s.toNat) := by unfold wb; omega
    have hX : a % 2 ^ (8 * s.toNat) < 2 ^ (8 * s.toNat) := Nat.mod_lt _ (Nat.two_pow_pos _)
    have hY : b % 2 ^ (8 * s.toNat) < 2 ^ (8 * s.toNat) := Nat.mod_lt _ (Nat.two_pow_pos _)
    have C0 := fun w => do_ok 1 (by decide) s hs a a fl ha ha hf w
    have C1 := fun w => do_ok 1 (by decide) s hs b b fl hb hb hf w
    have C2 := fun w => do_ok 7 (by decide) s hs a b fl ha hb hf w
    have r0 : doR (Int.toNat 1) (8 * s.toNat) (a % 2 ^ (8 * s.toNat)) (a % 2 ^ (8 * s.toNat)) fl = a % 2 ^ (8 * s.toNat) := Nat.or_self _
    have r1 : doR (Int.toNat 1) (8 * s.toNat) (b % 2 ^ (8 * s.toNat)) (b % 2 ^ (8 * s.toNat)) fl = b % 2 ^ (8 * s.toNat) := Nat.or_self _
    have r2 : doF (Int.toNat 7) (8 * s.toNat) (a % 2 ^ (8 * s.toNat)) (b % 2 ^ (8 * s.toNat)) fl = subF (8 * s.toNat) (a % 2 ^ (8 * s.toNat)) (b % 2 ^ (8 * s.toNat)) 0 fl := rfl
    rw [r0] at C0
    rw [r1] at C1
    rw [r2] at C2
    generalize a % 2 ^ (8 * s.toNat) = x at *
    generalize b % 2 ^ (8 * s.toNat) = y at *
    exact walk_of s a b fl x y _ _ _ _ _ _ _ _ _ _ C0 C1 C2 (signed_ok s hs x hX) (signed_ok s hs y hY) (sub_cf _ _ _ _ _) (sub_zf _ _ _ _ _) (sub_sf _ _ _ _ _) (sub_of _ _ _ _ _)
      (by rw [Nat.add_zero]) (eq_zf _ _ _ hB hX hY) (lt_sf _ _ _ hB hX hY) w
  · exact walk_no s a b fl (fun op a b w => do_size op s (by omega) (by omega) (by omega) a b fl w) w

theorem own : ownKnob Try.prog.godebug = none := by kernel_rfl

set_option maxRecDepth 100000 in
theorem lifted (os : Os) (started : os.Started) (H : Type) (enc : TypeId × Value → H) :
    ReturnsInHanded {} Try.checked os 7 .any (Rows.aluOrdersSpec.pre6 enc Try.prog Try.f7 Rows.aluOrdersRow.domain false) (Rows.aluOrdersSpec.post enc Try.prog Try.f7 false true false false) := by
  refine returnsInHanded_of_change (C := Try.checked) own started (by kernel_rfl) Try.func7
    (ChangeSpec.witness6 (enc := enc) (C := Try.checked) false ⟨#[], #[.int .i64 0, .int .u32 0, .int .u32 0, .int .u32 0], []⟩ 8 (by kernel_rfl) (by kernel_rfl) (by kernel_rfl) (by kernel_rfl)) ?_
  intro W base args ds gs before hval0 hW hcnd _
  have hval : ∀ (j : Nat) t v, Try.f7.params[j]? = some t → args[j]? = some v → Value.okWide Try.prog W .any base t v := hval0
  have hW' := hW
  obtain ⟨p, q, hA0, hV, rfl, hfz, hnd⟩ := hW
  have hA : DataW.TrodAll enc Try.prog W 0 (fun _ => true) true Try.f7.params.toList args.toList ds p := hA0
  rw [Try.params7] at hA hval
  obtain ⟨v0, vs0, d0, ds0, p0, q0, hargs, rfl, rfl, h0, r0⟩ := trodAll_cons hA
  obtain ⟨v1, vs1, d1, ds1, p1, q1, rfl, rfl, rfl, h1, r1⟩ := trodAll_cons r0
  obtain ⟨v2, vs2, d2, ds2, p2, q2, rfl, rfl, rfl, h2, r2⟩ := trodAll_cons r1
  obtain ⟨v3, vs3, d3, ds3, p3, q3, rfl, rfl, rfl, h3, r3⟩ := trodAll_cons r2
  obtain ⟨rfl, rfl, rfl⟩ := trodAll_nil r3
  obtain rfl : args = #[v0, v1, v2, v3] := by cases args; simp_all
  obtain ⟨rfl, rfl⟩ := trodVars_none hV
  obtain ⟨a0, rfl, rfl, rfl, w0⟩ := open_int Try.underlying3 (hval 0 3 v0 rfl rfl) h0
  obtain ⟨a1, rfl, rfl, rfl, w1⟩ := open_int Try.underlying23 (hval 1 23 v1 rfl rfl) h1
  obtain ⟨a2, rfl, rfl, rfl, w2⟩ := open_int Try.underlying23 (hval 2 23 v2 rfl rfl) h2
  obtain ⟨a3, rfl, rfl, rfl, w3⟩ := open_int Try.underlying23 (hval 3 23 v3 rfl rfl) h3
  clear hA0 hval0
  simp only [List.append_nil] at hW'
  obtain ⟨n1, rfl, b1⟩ := u32_nat w1
  obtain ⟨n2, rfl, b2⟩ := u32_nat w2
  obtain ⟨n3, rfl, b3⟩ := u32_nat w3
  refine (walk a0 w0 n1 b1 n2 b2 n3 b3 W).mono fun e W' ⟨he, bel⟩ => ?_
  subst he
  exact ⟨_, rfl, _, _, _, [], [], [], hW', trodAll_mk1 (shut_bool Try.underlying4 _), (trodAll_cons_mk (shut_int Try.underlying3 w0) (trodAll_cons_mk (shut_int Try.underlying23 w1) (trodAll_cons_mk (shut_int Try.underlying23 w2) (trodAll_cons_mk (shut_int Try.underlying23 w3) trodAll_mk0)))), rfl, bel.frame _, fun h => by cases h⟩

theorem over : Rows.aluOrdersRow.holds Try.pinned (OpenSpec.ofChange Rows.aluOrdersSpec) :=
  OpenClaim.holds_of_wide 7 Try.f7 rfl rfl rfl rfl rfl rfl rfl ⟨rfl, rfl, rfl, rfl, rfl⟩ rfl rfl rfl rfl rfl (by kernel_rfl) Try.func7 (by kernel_rfl)
    (of_decide_eq_true (by kernel_rfl)) (by unfold Func.isWrapper; first | (rw [if_pos (by decide +kernel)]; kernel_rfl) | (rw [if_neg (by decide +kernel)]; exact ⟨rfl, rfl⟩))
    (fun os started H enc _ => lifted os started H enc)

theorem proved : Rows.AluOrdersSaid :=
  over
end Go.Proofs.Ythejbdjmhallhaa.lawAluOrders
