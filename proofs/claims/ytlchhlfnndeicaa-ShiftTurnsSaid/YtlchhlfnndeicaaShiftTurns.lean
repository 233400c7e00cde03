/- The law ShiftTurns: for every input the call returns true; its arguments are as they were. -/
import Derived.Test.YtlchhlfnndeicaaShAll
import Derived.Test.YtlchhlfnndeicaaShMoved
import Derived.Test.YtlchhlfnndeicaaShLaws
import Derived.Test.YtlchhlfnndeicaaRows
import Derived.ProofKit
import Derived.OpenShut
import Derived.ChangeOld
namespace Go.Proofs.Ytlchhlfnndeicaa.lawShiftTurns
open Go.ChangeShapes Go.WideShapes Go.ChangeAt Go.RowKit Pl
set_option linter.unusedVariables false

theorem low_eq (t : Nat) (V M : Int) (hM : M = 256 ∨ M = 65536 ∨ M = 4294967296) (ht : t = (V % M).toNat) : (IntKind.u64.wrap (t : Int) == (IntKind.u64.wrap V).tmod M) = true := by
  have e : ∀ z : Int, IntKind.u64.wrap z = z % 18446744073709551616 := fun _ => rfl
  rw [e, e, Int.tmod_eq_emod_of_nonneg (by omega), beq_iff_eq]
  rcases hM with rfl | rfl | rfl <;> omega
set_option maxRecDepth 20000 in
set_option maxHeartbeats 2000000 in
theorem walk_of (s b : Int) (a c fl n x p t : Nat) (f0 f1 f2 f3 f4 r : Nat) (hsb : s = 1 ∧ b = 8 ∨ s = 2 ∧ b = 16 ∨ s = 4 ∧ b = 32) (hn : n < 32) (e1 : (c : Int) % 32 = (n : Int)) (hx : x < 2 ^ b.toNat)
    (C1 : ∀ w, Calls Try.prog 11 #[.int .i64 5, .int .i64 s, .int .u32 a, .int .u32 0, .int .u32 fl] w fun en w' => en = .returned (.tuple #[.int .u32 x, .int .u32 f0, .int .i64 0]) ∧ Below w.heap.size w w')
    (C2 : ∀ w, Calls Try.prog 11 #[.int .i64 0, .int .i64 s, .int .u32 a, .int .u32 n, .int .u32 fl] w fun en w' => en = .returned (.tuple #[.int .u32 p, .int .u32 f1, .int .i64 0]) ∧ Below w.heap.size w w')
    (C3 : ∀ (z : Int), z = ((n % b.toNat : Nat) : Int) → ∀ w, Calls Try.prog 11 #[.int .i64 0, .int .i64 s, .int .u32 a, .int .u32 z, .int .u32 fl] w fun en w' => en = .returned (.tuple #[.int .u32 p, .int .u32 f2, .int .i64 0]) ∧ Below w.heap.size w w')
    (C4 : ∀ (z : Int), z = ((b.toNat - n % b.toNat : Nat) : Int) → ∀ w, Calls Try.prog 11 #[.int .i64 1, .int .i64 s, .int .u32 a, .int .u32 z, .int .u32 fl] w fun en w' => en = .returned (.tuple #[.int .u32 r, .int .u32 f3, .int .i64 0]) ∧ Below w.heap.size w w')
    (C5 : ∀ w, Calls Try.prog 11 #[.int .i64 7, .int .i64 s, .int .u32 a, .int .u32 n, .int .u32 fl] w fun en w' => en = .returned (.tuple #[.int .u32 t, .int .u32 f4, .int .i64 0]) ∧ Below w.heap.size w w')
    (hr : n % b.toNat = 0 ∧ p = x ∨ n % b.toNat ≠ 0 ∧ r = p) (ht : t = (sZ x b.toNat / 2 ^ n % 2 ^ b.toNat).toNat) (w : World) :
    Calls Try.prog 9 #[.int .i64 s, .int .u32 a, .int .u32 c, .int .u32 fl] w fun e w' => e = .returned (.bool true) ∧ Below w.heap.size w w' := by
  have H1 := hide C1
  have H2 := hide C2
  have H3 := hide C3
  have H4 := hide C4
  have H5 := hide C5
  have HT := hide ht
  clear C1 C2 C3 C4 C5 ht
  rcases hsb with ⟨rfl, rfl⟩ | ⟨rfl, rfl⟩ | ⟨rfl, rfl⟩
  · simp only [Int.reduceToNat, Nat.reducePow, Int.reducePow] at hx H3 H4 hr HT
    rcases hr with ⟨h0, hpx⟩ | ⟨h0, hpx⟩
    all_goals
      obtain rfl := hpx.symm
      have hq : ((x : Int) / 128 = 0 ∧ sZ x 8 = (x : Int)) ∨ ((x : Int) / 128 = 1 ∧ sZ x 8 = (x : Int) - 256) := by
        unfold sZ sgn
        simp only [Nat.reduceSub, Nat.reducePow, Int.reducePow]
        rcases (by omega : x / 128 % 2 = 0 ∨ x / 128 % 2 = 1) with h | h
        · left; rw [h]; exact ⟨by omega, rfl⟩
        · right; rw [h]; exact ⟨by omega, rfl⟩
      have h0' : (n : Int) % 8 = 0 ↔ n % 8 = 0 := by omega
      rcases hq with ⟨q1, q2⟩ | ⟨q1, q2⟩
      all_goals
        go_enter Try.func9, Try.ntmps9
        go_wp2_with fail
        refine (awake_ok _).mono ?_
        rintro e w1 ⟨rfl, hb⟩
        go_wp2_with fail
        refine (H1.out _).mono ?_
        rintro e w1 ⟨rfl, h2⟩
        replace hb := hb.trans (h2.mono hb.size)
        clear h2
        go_wp2_with fail
        refine (H2.out _).mono ?_
        rintro e w1 ⟨rfl, h2⟩
        replace hb := hb.trans (h2.mono hb.size)
        clear h2
        go_wp2_with fail
        refine (H3.out _ (by omega) _).mono ?_
        rintro e w1 ⟨rfl, h2⟩
        replace hb := hb.trans (h2.mono hb.size)
        clear h2
        go_wp2_with fail
        refine (H4.out _ (by omega) _).mono ?_
        rintro e w1 ⟨rfl, h2⟩
        replace hb := hb.trans (h2.mono hb.size)
        clear h2
        go_wp2_with fail
        refine (H5.out _).mono ?_
        rintro e w1 ⟨rfl, h2⟩
        replace hb := hb.trans (h2.mono hb.size)
        clear h2
        go_wp2
        go_ret
        refine ⟨ret_bool ?_, hb⟩
        have ht := HT.out
        rw [q2] at ht
        exact low_eq _ _ _ (by decide) ht
  · simp only [Int.reduceToNat, Nat.reducePow, Int.reducePow] at hx H3 H4 hr HT
    rcases hr with ⟨h0, hpx⟩ | ⟨h0, hpx⟩
    all_goals
      obtain rfl := hpx.symm
      have hq : ((x : Int) / 32768 = 0 ∧ sZ x 16 = (x : Int)) ∨ ((x : Int) / 32768 = 1 ∧ sZ x 16 = (x : Int) - 65536) := by
        unfold sZ sgn
        simp only [Nat.reduceSub, Nat.reducePow, Int.reducePow]
        rcases (by omega : x / 32768 % 2 = 0 ∨ x / 32768 % 2 = 1) with h | h
        · left; rw [h]; exact ⟨by omega, rfl⟩
        · right; rw [h]; exact ⟨by omega, rfl⟩
      have h0' : (n : Int) % 16 = 0 ↔ n % 16 = 0 := by omega
      rcases hq with ⟨q1, q2⟩ | ⟨q1, q2⟩
      all_goals
        go_enter Try.func9, Try.ntmps9
        go_wp2_with fail
        refine (awake_ok _).mono ?_
        rintro e w1 ⟨rfl, hb⟩
        go_wp2_with fail
        refine (H1.out _).mono ?_
        rintro e w1 ⟨rfl, h2⟩
        replace hb := hb.trans (h2.mono hb.size)
        clear h2
        go_wp2_with fail
        refine (H2.out _).mono ?_
        rintro e w1 ⟨rfl, h2⟩
        replace hb := hb.trans (h2.mono hb.size)
        clear h2
        go_wp2_with fail
        refine (H3.out _ (by omega) _).mono ?_
        rintro e w1 ⟨rfl, h2⟩
        replace hb := hb.trans (h2.mono hb.size)
        clear h2
        go_wp2_with fail
        refine (H4.out _ (by omega) _).mono ?_
        rintro e w1 ⟨rfl, h2⟩
        replace hb := hb.trans (h2.mono hb.size)
        clear h2
        go_wp2_with fail
        refine (H5.out _).mono ?_
        rintro e w1 ⟨rfl, h2⟩
        replace hb := hb.trans (h2.mono hb.size)
        clear h2
        go_wp2
        go_ret
        refine ⟨ret_bool ?_, hb⟩
        have ht := HT.out
        rw [q2] at ht
        exact low_eq _ _ _ (by decide) ht
  · simp only [Int.reduceToNat, Nat.reducePow, Int.reducePow] at hx H3 H4 hr HT
    rcases hr with ⟨h0, hpx⟩ | ⟨h0, hpx⟩
    all_goals
      obtain rfl := hpx.symm
      have hq : ((x : Int) / 2147483648 = 0 ∧ sZ x 32 = (x : Int)) ∨ ((x : Int) / 2147483648 = 1 ∧ sZ x 32 = (x : Int) - 4294967296) := by
        unfold sZ sgn
        simp only [Nat.reduceSub, Nat.reducePow, Int.reducePow]
        rcases (by omega : x / 2147483648 % 2 = 0 ∨ x / 2147483648 % 2 = 1) with h | h
        · left; rw [h]; exact ⟨by omega, rfl⟩
        · right; rw [h]; exact ⟨by omega, rfl⟩
      have h0' : (n : Int) % 32 = 0 ↔ n % 32 = 0 := by omega
      rcases hq with ⟨q1, q2⟩ | ⟨q1, q2⟩
      all_goals
        go_enter Try.func9, Try.ntmps9
        go_wp2_with fail
        refine (awake_ok _).mono ?_
        rintro e w1 ⟨rfl, hb⟩
        go_wp2_with fail
        refine (H1.out _).mono ?_
        rintro e w1 ⟨rfl, h2⟩
        replace hb := hb.trans (h2.mono hb.size)
        clear h2
        go_wp2_with fail
        refine (H2.out _).mono ?_
        rintro e w1 ⟨rfl, h2⟩
        replace hb := hb.trans (h2.mono hb.size)
        clear h2
        go_wp2_with fail
        refine (H3.out _ (by omega) _).mono ?_
        rintro e w1 ⟨rfl, h2⟩
        replace hb := hb.trans (h2.mono hb.size)
        clear h2
        go_wp2_with fail
        refine (H4.out _ (by omega) _).mono ?_
        rintro e w1 ⟨rfl, h2⟩
        replace hb := hb.trans (h2.mono hb.size)
        clear h2
        go_wp2_with fail
        refine (H5.out _).mono ?_
        rintro e w1 ⟨rfl, h2⟩
        replace hb := hb.trans (h2.mono hb.size)
        clear h2
        go_wp2
        go_ret
        refine ⟨ret_bool ?_, hb⟩
        have ht := HT.out
        rw [q2] at ht
        exact low_eq _ _ _ (by decide) ht
set_option maxRecDepth 20000 in
set_option maxHeartbeats 1000000 in
theorem walk_no (s a c fl : Int)
    (C : ∀ w, Calls Try.prog 11 #[.int .i64 5, .int .i64 s, .int .u32 a, .int .u32 0, .int .u32 fl] w fun en w' => en = .returned (.tuple #[.int .u32 0, .int .u32 0, .int .i64 2]) ∧ Below w.heap.size w w') (w : World) :
    Calls Try.prog 9 #[.int .i64 s, .int .u32 a, .int .u32 c, .int .u32 fl] w fun e w' => e = .returned (.bool true) ∧ Below w.heap.size w w' := by
  have H := hide C
  clear C
  go_enter Try.func9, Try.ntmps9
  go_wp2_with fail
  refine (awake_ok _).mono ?_
  rintro e w1 ⟨rfl, hb⟩
  go_wp2_with fail
  refine (H.out _).mono ?_
  rintro e w1 ⟨rfl, h2⟩
  replace hb := hb.trans (h2.mono hb.size)
  clear h2
  go_wp2
  go_ret
  exact ⟨rfl, hb⟩
theorem turns_plain (b x n fl : Nat) (hB : wB b) (hx : x < 2 ^ b) (hn : n < 32) :
    shDoR 0 b x (n % b) fl = shDoR 0 b x n fl ∧ (n % b = 0 ∧ shDoR 0 b x n fl = x ∨ n % b ≠ 0 ∧ shDoR 1 b x ((b - n % b) % 32) fl = shDoR 0 b x n fl) ∧ shDoR 7 b x n fl = (sZ x b / 2 ^ n % 2 ^ b).toNat := by
  have hb0 : 0 < b := by rcases hB with rfl | rfl | rfl <;> decide
  have hb32 : b ≤ 32 := by rcases hB with rfl | rfl | rfl <;> decide
  have hm : n % b < b := Nat.mod_lt _ hb0
  have r0 : ∀ k c, shR 0 b x k c = rotN x b (k % b) := fun _ _ => rfl
  have r1 : ∀ k c, shR 1 b x k c = rotN x b ((b - k % b) % b) := fun _ _ => rfl
  have h7 : shDoR 7 b x n fl = (sZ x b / 2 ^ n % 2 ^ b).toNat := by
    unfold shDoR
    by_cases h : n = 0
    · subst h
      rw [if_pos rfl, Int.pow_zero, Int.ediv_one, sZ_mod x b hB hx]
    · rw [if_neg h]; rfl
  refine ⟨?_, ?_, h7⟩
  · unfold shDoR
    by_cases h : n % b = 0
    · rw [if_pos h]
      by_cases h2 : n = 0
      · rw [if_pos h2]
      · rw [if_neg h2, r0, h, rot_zero x b hx]
    · rw [if_neg h, if_neg (by intro e; subst e; exact h (Nat.zero_mod _)), r0, r0, Nat.mod_mod]
  · by_cases h : n % b = 0
    · left
      refine ⟨h, ?_⟩
      unfold shDoR
      by_cases h2 : n = 0
      · rw [if_pos h2]
      · rw [if_neg h2, r0, h, rot_zero x b hx]
    · right
      refine ⟨h, ?_⟩
      have e : (b - n % b) % 32 = b - n % b := Nat.mod_eq_of_lt (by omega)
      unfold shDoR
      rw [e, if_neg (by omega), if_neg (by intro e; subst e; exact h (Nat.zero_mod _)), r0, r1]
      have e2 : (b - n % b) % b = b - n % b := Nat.mod_eq_of_lt (by omega)
      rw [e2, show b - (b - n % b) = n % b by omega, Nat.mod_mod]
theorem walk (s : Int) (ws : (Lit.int .i64 s).wf = true) (a : Nat) (ha : a < 4294967296) (c : Nat) (hc : c < 4294967296) (fl : Nat) (hf : fl < 4294967296) (w : World) :
    Calls Try.prog 9 #[.int .i64 s, .int .u32 a, .int .u32 c, .int .u32 fl] w fun e w' => e = .returned (.bool true) ∧ Below w.heap.size w w' := by
  by_cases hs : s = 1 ∨ s = 2 ∨ s = 4
  · obtain ⟨B, hsb, eB⟩ := sizes s hs
    have hX : a % 2 ^ (8 * s.toNat) < 2 ^ (8 * s.toNat) := Nat.mod_lt _ (Nat.two_pow_pos _)
    have hB : wB (8 * s.toNat) := by unfold wB; omega
    obtain ⟨n, hn, e1⟩ : ∃ n : Nat, n = c % 32 ∧ (c : Int) % 32 = (n : Int) := ⟨c % 32, rfl, by omega⟩
    have hn32 : n < 32 := by omega
    have k := turns_plain (8 * s.toNat) (a % 2 ^ (8 * s.toNat)) n fl hB hX hn32
    have hm : n % (8 * s.toNat) < 32 := Nat.lt_of_le_of_lt (Nat.mod_le _ _) hn32
    have C2 := fun w => sh_ok 0 s (by decide) hs a n fl ha (by omega) hf w
    rw [show n % 32 = n by omega] at C2
    have C3 := fun w => sh_ok 0 s (by decide) hs a (n % (8 * s.toNat)) fl ha (by omega) hf w
    rw [show n % (8 * s.toNat) % 32 = n % (8 * s.toNat) from Nat.mod_eq_of_lt hm, show Int.toNat 0 = 0 from rfl, k.1] at C3
    have C4 := fun w => sh_ok 1 s (by decide) hs a (8 * s.toNat - n % (8 * s.toNat)) fl ha (by omega) hf w
    have C5 := fun w => sh_ok 7 s (by decide) hs a n fl ha (by omega) hf w
    rw [show n % 32 = n by omega] at C5
    have C1 := fun w => shdo_zero 5 s (by decide) hs a 0 fl ha (by decide) (by decide) w
    rw [← eB] at C1 C2 C3 C4 C5 hX k
    exact walk_of s B a c fl n _ _ _ _ _ _ _ _ _ hsb hn32 e1 hX C1 C2 (fun z hz w => hz ▸ C3 w) (fun z hz w => hz ▸ C4 w) C5 k.2.1 k.2.2 w
  · exact walk_no s a c fl (fun w => sh_size 5 s (by omega) (by omega) (by omega) a 0 fl w) w

theorem own : ownKnob Try.prog.godebug = none := by kernel_rfl

set_option maxRecDepth 100000 in
theorem lifted (os : Os) (started : os.Started) (H : Type) (enc : TypeId × Value → H) :
    ReturnsInHanded {} Try.checked os 9 .any (Rows.shiftTurnsSpec.pre6 enc Try.prog Try.f9 Rows.shiftTurnsRow.domain false) (Rows.shiftTurnsSpec.post enc Try.prog Try.f9 false true false false) := by
  refine returnsInHanded_of_change (C := Try.checked) own started (by kernel_rfl) Try.func9
    (ChangeSpec.witness6 (enc := enc) (C := Try.checked) false ⟨#[], #[.int .i64 0, .int .u32 0, .int .u32 0, .int .u32 0], []⟩ 8 (by kernel_rfl) (by kernel_rfl) (by kernel_rfl) (by kernel_rfl)) ?_
  intro W base args ds gs before hval0 hW hcnd _
  have hval : ∀ (j : Nat) t v, Try.f9.params[j]? = some t → args[j]? = some v → Value.okWide Try.prog W .any base t v := hval0
  have hW' := hW
  obtain ⟨p, q, hA0, hV, rfl, hfz, hnd⟩ := hW
  have hA : DataW.TrodAll enc Try.prog W 0 (fun _ => true) true Try.f9.params.toList args.toList ds p := hA0
  rw [Try.params9] at hA hval
  obtain ⟨v0, vs0, d0, ds0, p0, q0, hargs, rfl, rfl, h0, r0⟩ := trodAll_cons hA
  obtain ⟨v1, vs1, d1, ds1, p1, q1, rfl, rfl, rfl, h1, r1⟩ := trodAll_cons r0
  obtain ⟨v2, vs2, d2, ds2, p2, q2, rfl, rfl, rfl, h2, r2⟩ := trodAll_cons r1
  obtain ⟨v3, vs3, d3, ds3, p3, q3, rfl, rfl, rfl, h3, r3⟩ := trodAll_cons r2
  obtain ⟨rfl, rfl, rfl⟩ := trodAll_nil r3
  obtain rfl : args = #[v0, v1, v2, v3] := by cases args; simp_all
  obtain ⟨rfl, rfl⟩ := trodVars_none hV
  obtain ⟨a0, rfl, rfl, rfl, w0⟩ := open_int Try.underlying3 (hval 0 3 v0 rfl rfl) h0
  obtain ⟨a1, rfl, rfl, rfl, w1⟩ := open_int Try.underlying23 (hval 1 23 v1 rfl rfl) h1
  obtain ⟨a2, rfl, rfl, rfl, w2⟩ := open_int Try.underlying23 (hval 2 23 v2 rfl rfl) h2
  obtain ⟨a3, rfl, rfl, rfl, w3⟩ := open_int Try.underlying23 (hval 3 23 v3 rfl rfl) h3
  clear hA0 hval0
  simp only [List.append_nil] at hW'
  obtain ⟨n1, rfl, b1⟩ := u32_nat w1
  obtain ⟨n2, rfl, b2⟩ := u32_nat w2
  obtain ⟨n3, rfl, b3⟩ := u32_nat w3
  refine (walk a0 w0 n1 b1 n2 b2 n3 b3 W).mono fun e W' ⟨he, bel⟩ => ?_
  subst he
  exact ⟨_, rfl, _, _, _, [], [], [], hW', trodAll_mk1 (shut_bool Try.underlying4 _), (trodAll_cons_mk (shut_int Try.underlying3 w0) (trodAll_cons_mk (shut_int Try.underlying23 w1) (trodAll_cons_mk (shut_int Try.underlying23 w2) (trodAll_cons_mk (shut_int Try.underlying23 w3) trodAll_mk0)))), rfl, bel.frame _, fun h => by cases h⟩

theorem over : Rows.shiftTurnsRow.holds Try.pinned (OpenSpec.ofChange Rows.shiftTurnsSpec) :=
  OpenClaim.holds_of_wide 9 Try.f9 rfl rfl rfl rfl rfl rfl rfl ⟨rfl, rfl, rfl, rfl, rfl⟩ rfl rfl rfl rfl rfl (by kernel_rfl) Try.func9 (by kernel_rfl)
    (of_decide_eq_true (by kernel_rfl)) (by unfold Func.isWrapper; first | (rw [if_pos (by decide +kernel)]; kernel_rfl) | (rw [if_neg (by decide +kernel)]; exact ⟨rfl, rfl⟩))
    (fun os started H enc _ => lifted os started H enc)

theorem proved : Rows.ShiftTurnsSaid :=
  over
end Go.Proofs.Ytlchhlfnndeicaa.lawShiftTurns
