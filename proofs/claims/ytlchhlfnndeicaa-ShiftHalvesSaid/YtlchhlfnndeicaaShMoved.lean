/- What the document's rotate answers. -/
import Derived.Test.YtlchhlfnndeicaaShRef
namespace Go.Proofs.Ytlchhlfnndeicaa
open Go.RowKit Pl

theorem bit_okI (n : Nat) (i : Int) (j : Nat) (h : i = (j : Int)) (hj : j < 64) (w : World) : Calls Try.prog 25 #[.int .u64 n, .int .i64 i] w fun e w' => e = .returned (.bool (n.testBit j)) ∧ w = w' := by
  subst h
  exact bit_ok n j hj w
theorem turned_okI (n k : Nat) (b q : Int) (hq : q = (k : Int)) (hb : b = 8 ∨ b = 16 ∨ b = 32 ∨ b = 9 ∨ b = 17 ∨ b = 33) (hn : n < 2 ^ b.toNat) (hk : k < 1000) (w : World) :
    Calls Try.prog 38 #[.int .u64 n, .int .i64 b, .int .i64 q] w fun e w' => e = .returned (.int .u64 ((rotN n b.toNat (k % b.toNat) : Nat) : Int)) ∧ w = w' := by
  subst hq
  exact turned_ok n k b hb hn hk w

theorem has_ok (fl : Nat) (w : World) : Calls Try.prog 15 #[.int .u32 fl, .int .u32 1] w fun e w' => e = .returned (.bool (fl % 2 == 1)) ∧ w = w' := by
  have q : ((fl : Int) % 2 == 1) = (fl % 2 == 1) := by
    rw [Bool.eq_iff_iff]
    simp only [beq_iff_eq]
    omega
  go_enter Try.func15, Try.ntmps15
  go_wp2
  go_ret
  exact ⟨ret_bool rfl, rfl⟩

theorem back_mod (b k : Nat) (hb : 0 < b) (hk : k ≤ b * 4) : (b * 4 - k) % b = (b - k % b) % b := by
  have h1 := Nat.div_add_mod k b
  have h2 : k % b < b := Nat.mod_lt _ hb
  have h3 : k / b ≤ 4 := Nat.div_le_of_le_mul hk
  rcases (by omega : k % b = 0 ∨ 0 < k % b) with h | h
  · rw [h, Nat.sub_zero, Nat.mod_self]
    have : b * 4 - k = b * (4 - k / b) := by rw [Nat.mul_sub]; omega
    rw [this, Nat.mul_mod_right]
  · have hlt : k / b < 4 := by
      rcases Nat.lt_or_ge (k / b) 4 with g | g
      · exact g
      · have : b * 4 ≤ b * (k / b) := Nat.mul_le_mul_left _ g
        omega
    have : b * 4 - k = b - k % b + b * (3 - k / b) := by
      have e : b * (3 - k / b) + b * (k / b) = b * 3 := by rw [← Nat.mul_add]; congr 1; omega
      omega
    rw [this, Nat.add_mul_mod_self_left]


set_option maxRecDepth 20000 in
set_option maxHeartbeats 2000000 in
theorem rotate0_ok (b : Int) (x k fl : Nat) (hb : b = 8 ∨ b = 16 ∨ b = 32) (hx : x < 2 ^ b.toNat) (hk : k < 32) (hf : fl < 4294967296) (w : World) :
    Calls Try.prog 22 #[.int .i64 0, .int .u64 x, .int .i64 b, .int .i64 k, .int .u32 fl] w fun e w' => e = .returned (.tuple #[.int .u64 ((shR 0 b.toNat x k (fl % 2) : Nat) : Int), .int .u32 ((shF 0 b.toNat x k fl : Nat) : Int)]) ∧ w = w' := by
  have V := hide fun q hq w => turned_okI x k b q hq (by omega) hx (by omega) w
  have e1 : shR 0 b.toNat x k (fl % 2) = rotN x b.toNat (k % b.toNat) := rfl
  have e2 : shF 0 b.toNat x k fl = setF (setF fl 1 ((rotN x b.toNat (k % b.toNat)).testBit (0))) 2048 ((rotN x b.toNat (k % b.toNat)).testBit (0) != (rotN x b.toNat (k % b.toNat)).testBit (b.toNat - 1)) := rfl
  rw [e1, e2]
  clear e1 e2
  generalize rotN x b.toNat (k % b.toNat) = r at *
  have B0 := hide fun i h w => bit_okI r i (0) h (by omega) w
  have B1 := hide fun i h w => bit_okI r i (b.toNat - 1) h (by omega) w
  have S1 := hide fun w => set_ok fl 1 (r.testBit (0)) (by decide) hf w
  have S2 := hide fun w => set_ok (setF fl 1 (r.testBit (0))) 2048 (r.testBit (0) != r.testBit (b.toNat - 1)) (by decide) (lt1 _ hf) w
  generalize r.testBit (0) = t0 at *
  generalize r.testBit (b.toNat - 1) = t1 at *
  simp only [Int.reduceToNat] at S1 S2
  generalize setF (setF fl 1 t0) 2048 (t0 != t1) = f2 at *
  generalize setF fl 1 t0 = f1 at *
  clear hx hf
  rcases hb with rfl | rfl | rfl
  all_goals
    go_enter Try.func22, Try.ntmps22
    go_wp2_with fail
    refine (V.out _ (by omega) _).mono ?_
    rintro e w' ⟨rfl, rfl⟩
    go_wp2_with fail
    refine (B0.out _ (by omega) _).mono ?_
    rintro e w' ⟨rfl, rfl⟩
    go_wp2_with fail
    refine (S1.out _).mono ?_
    rintro e w' ⟨rfl, rfl⟩
    go_wp2_with fail
    refine (B0.out _ (by omega) _).mono ?_
    rintro e w' ⟨rfl, rfl⟩
    go_wp2_with fail
    refine (B1.out _ (by omega) _).mono ?_
    rintro e w' ⟨rfl, rfl⟩
    go_wp2_with fail
    refine (S2.out _).mono ?_
    rintro e w' ⟨rfl, rfl⟩
    go_wp2
    go_ret2
    exact ⟨ret_ii rfl rfl, rfl⟩

set_option maxRecDepth 20000 in
set_option maxHeartbeats 2000000 in
theorem rotate1_ok (b : Int) (x k fl : Nat) (hb : b = 8 ∨ b = 16 ∨ b = 32) (hx : x < 2 ^ b.toNat) (hk : k < 32) (hf : fl < 4294967296) (w : World) :
    Calls Try.prog 22 #[.int .i64 1, .int .u64 x, .int .i64 b, .int .i64 k, .int .u32 fl] w fun e w' => e = .returned (.tuple #[.int .u64 ((shR 1 b.toNat x k (fl % 2) : Nat) : Int), .int .u32 ((shF 1 b.toNat x k fl : Nat) : Int)]) ∧ w = w' := by
  have V := fun q hq w => turned_okI x (b.toNat * 4 - k) b q hq (by omega) hx (by omega) w
  rw [back_mod b.toNat k (by omega) (by omega)] at V
  replace V := hide V
  have e1 : shR 1 b.toNat x k (fl % 2) = rotN x b.toNat ((b.toNat - k % b.toNat) % b.toNat) := rfl
  have e2 : shF 1 b.toNat x k fl = setF (setF fl 1 ((rotN x b.toNat ((b.toNat - k % b.toNat) % b.toNat)).testBit (b.toNat - 1))) 2048 ((rotN x b.toNat ((b.toNat - k % b.toNat) % b.toNat)).testBit (b.toNat - 1) != (rotN x b.toNat ((b.toNat - k % b.toNat) % b.toNat)).testBit (b.toNat - 2)) := rfl
  rw [e1, e2]
  clear e1 e2
  generalize rotN x b.toNat ((b.toNat - k % b.toNat) % b.toNat) = r at *
  have B0 := hide fun i h w => bit_okI r i (b.toNat - 1) h (by omega) w
  have B1 := hide fun i h w => bit_okI r i (b.toNat - 2) h (by omega) w
  have S1 := hide fun w => set_ok fl 1 (r.testBit (b.toNat - 1)) (by decide) hf w
  have S2 := hide fun w => set_ok (setF fl 1 (r.testBit (b.toNat - 1))) 2048 (r.testBit (b.toNat - 1) != r.testBit (b.toNat - 2)) (by decide) (lt1 _ hf) w
  generalize r.testBit (b.toNat - 1) = t0 at *
  generalize r.testBit (b.toNat - 2) = t1 at *
  simp only [Int.reduceToNat] at S1 S2
  generalize setF (setF fl 1 t0) 2048 (t0 != t1) = f2 at *
  generalize setF fl 1 t0 = f1 at *
  clear hx hf
  rcases hb with rfl | rfl | rfl
  all_goals
    go_enter Try.func22, Try.ntmps22
    go_wp2_with fail
    refine (V.out _ (by omega) _).mono ?_
    rintro e w' ⟨rfl, rfl⟩
    go_wp2_with fail
    refine (B0.out _ (by omega) _).mono ?_
    rintro e w' ⟨rfl, rfl⟩
    go_wp2_with fail
    refine (S1.out _).mono ?_
    rintro e w' ⟨rfl, rfl⟩
    go_wp2_with fail
    refine (B0.out _ (by omega) _).mono ?_
    rintro e w' ⟨rfl, rfl⟩
    go_wp2_with fail
    refine (B1.out _ (by omega) _).mono ?_
    rintro e w' ⟨rfl, rfl⟩
    go_wp2_with fail
    refine (S2.out _).mono ?_
    rintro e w' ⟨rfl, rfl⟩
    go_wp2
    go_ret2
    exact ⟨ret_ii rfl rfl, rfl⟩

set_option maxRecDepth 20000 in
set_option maxHeartbeats 2000000 in
theorem rotate2_ok (b : Int) (x k fl : Nat) (hb : b = 8 ∨ b = 16 ∨ b = 32) (hx : x < 2 ^ b.toNat) (hk : k < 32) (hf : fl < 4294967296) (w : World) :
    Calls Try.prog 22 #[.int .i64 2, .int .u64 x, .int .i64 b, .int .i64 k, .int .u32 fl] w fun e w' => e = .returned (.tuple #[.int .u64 ((shR 2 b.toNat x k (fl % 2) : Nat) : Int), .int .u32 ((shF 2 b.toNat x k fl : Nat) : Int)]) ∧ w = w' := by
  have hw : wideN x b.toNat (fl % 2) < 2 ^ (b.toNat + 1) := wide_lt hx (by omega)
  have hB : (b + 1).toNat = b.toNat + 1 := by omega
  have V : ∀ (z q b1 : Int), z = ((wideN x b.toNat (fl % 2) : Nat) : Int) → q = ((k : Nat) : Int) → b1 = b + 1 → ∀ w, Calls Try.prog 38 #[.int .u64 z, .int .i64 b1, .int .i64 q] w fun e w' => e = .returned (.int .u64 (((rotN (wideN x b.toNat (fl % 2)) (b.toNat + 1) (k % (b.toNat + 1))) : Nat) : Int)) ∧ w = w' := by
    intro z q b1 hz hq h1 w
    subst hz h1
    have h := turned_okI (wideN x b.toNat (fl % 2)) k (b + 1) q hq (by omega) (by rw [hB]; exact hw) (by omega) w
    rw [hB] at h
    exact h
  have hl : (rotN (wideN x b.toNat (fl % 2)) (b.toNat + 1) (k % (b.toNat + 1))) < 2 ^ (b.toNat + 1) := rot_lt _ _ _ hw (Nat.le_of_lt (Nat.mod_lt _ (by omega)))
  have e1 : shR 2 b.toNat x k (fl % 2) = ((rotN (wideN x b.toNat (fl % 2)) (b.toNat + 1) (k % (b.toNat + 1))) % 2 ^ b.toNat) := rfl
  have e2 : shF 2 b.toNat x k fl = setF (setF fl 1 ((rotN (wideN x b.toNat (fl % 2)) (b.toNat + 1) (k % (b.toNat + 1))).testBit b.toNat)) 2048 ((rotN (wideN x b.toNat (fl % 2)) (b.toNat + 1) (k % (b.toNat + 1))).testBit b.toNat != ((rotN (wideN x b.toNat (fl % 2)) (b.toNat + 1) (k % (b.toNat + 1))) % 2 ^ b.toNat).testBit (b.toNat - 1)) := rfl
  rw [e1, e2]
  clear e1 e2
  have hz : wideN x b.toNat (fl % 2) = x + (fl % 2) * 2 ^ b.toNat := rfl
  generalize wideN x b.toNat (fl % 2) = wd at *
  generalize rotN wd (b.toNat + 1) (k % (b.toNat + 1)) = wr at *
  have hr : wr % 2 ^ b.toNat < 18446744073709551616 := Nat.lt_of_lt_of_le (Nat.mod_lt _ (Nat.two_pow_pos _)) (Nat.pow_le_pow_right (n := 2) (j := 64) (by decide) (by omega))
  have C := hide fun w => cut6_ok (wr : Int) b (by omega) (by omega) w
  simp only [Int.toNat_natCast] at C
  have hr2 : ∀ i, (wr % 2 ^ b.toNat).testBit i = (wr % 2 ^ b.toNat).testBit i := fun _ => rfl
  generalize wr % 2 ^ b.toNat = r at *
  have H := hide (has_ok fl)
  have Bw := hide fun i h w => bit_okI wr i b.toNat h (by omega) w
  have B1 := hide fun i h w => bit_okI r i (b.toNat - 1) h (by omega) w
  have B2 := hide fun i h w => bit_okI r i (b.toNat - 2) h (by omega) w
  generalize wr.testBit b.toNat = tw at *
  have S1 := hide fun w => set_ok fl 1 tw (by decide) hf w
  have S2 := hide fun o w => set_ok (setF fl 1 tw) 2048 o (by decide) (lt1 _ hf) w
  generalize r.testBit (b.toNat - 1) = t1 at *
  generalize r.testBit (b.toNat - 2) = t2 at *
  simp only [Int.reduceToNat] at S1 S2
  generalize setF fl 1 tw = f1 at *
  have V' := hide V
  clear hf V hw hB hr2
  rcases Nat.mod_two_eq_zero_or_one fl with hc | hc
  all_goals
    rw [hc] at hz H
    clear hc
    rcases hb with rfl | rfl | rfl
    all_goals
      simp only [Nat.reduceBEq] at H
      simp only [Int.reduceToNat, Nat.reducePow] at hz hx
      go_enter Try.func22, Try.ntmps22
      go_wp2_with fail
      refine (H.out _).mono ?_
      rintro e w' ⟨rfl, rfl⟩
      go_wp2_with fail
      refine (V'.out _ _ _ (by omega) (by omega) (by omega) _).mono ?_
      rintro e w' ⟨rfl, rfl⟩
      go_wp2_with fail
      refine (C.out _).mono ?_
      rintro e w' ⟨rfl, rfl⟩
      go_wp2_with fail
      refine (Bw.out _ (by omega) _).mono ?_
      rintro e w' ⟨rfl, rfl⟩
      go_wp2_with fail
      refine (S1.out _).mono ?_
      rintro e w' ⟨rfl, rfl⟩
      go_wp2_with fail
      refine (Bw.out _ (by omega) _).mono ?_
      rintro e w' ⟨rfl, rfl⟩
      go_wp2_with fail
      refine (B1.out _ (by omega) _).mono ?_
      rintro e w' ⟨rfl, rfl⟩
      go_wp2_with fail
      refine (S2.out _ _).mono ?_
      rintro e w' ⟨rfl, rfl⟩
      go_wp2
      go_ret2
      exact ⟨ret_ii rfl rfl, rfl⟩

set_option maxRecDepth 20000 in
set_option maxHeartbeats 2000000 in
theorem rotate3_ok (b : Int) (x k fl : Nat) (hb : b = 8 ∨ b = 16 ∨ b = 32) (hx : x < 2 ^ b.toNat) (hk : k < 32) (hf : fl < 4294967296) (w : World) :
    Calls Try.prog 22 #[.int .i64 3, .int .u64 x, .int .i64 b, .int .i64 k, .int .u32 fl] w fun e w' => e = .returned (.tuple #[.int .u64 ((shR 3 b.toNat x k (fl % 2) : Nat) : Int), .int .u32 ((shF 3 b.toNat x k fl : Nat) : Int)]) ∧ w = w' := by
  have hw : wideN x b.toNat (fl % 2) < 2 ^ (b.toNat + 1) := wide_lt hx (by omega)
  have hB : (b + 1).toNat = b.toNat + 1 := by omega
  have V : ∀ (z q b1 : Int), z = ((wideN x b.toNat (fl % 2) : Nat) : Int) → q = ((((b.toNat + 1) * 4 - k) : Nat) : Int) → b1 = b + 1 → ∀ w, Calls Try.prog 38 #[.int .u64 z, .int .i64 b1, .int .i64 q] w fun e w' => e = .returned (.int .u64 (((rotN (wideN x b.toNat (fl % 2)) (b.toNat + 1) ((b.toNat + 1 - k % (b.toNat + 1)) % (b.toNat + 1))) : Nat) : Int)) ∧ w = w' := by
    intro z q b1 hz hq h1 w
    subst hz h1
    have h := turned_okI (wideN x b.toNat (fl % 2)) ((b.toNat + 1) * 4 - k) (b + 1) q hq (by omega) (by rw [hB]; exact hw) (by omega) w
    rw [hB] at h
    rw [back_mod (b.toNat + 1) k (by omega) (by omega)] at h
    exact h
  have hl : (rotN (wideN x b.toNat (fl % 2)) (b.toNat + 1) ((b.toNat + 1 - k % (b.toNat + 1)) % (b.toNat + 1))) < 2 ^ (b.toNat + 1) := rot_lt _ _ _ hw (Nat.le_of_lt (Nat.mod_lt _ (by omega)))
  have e1 : shR 3 b.toNat x k (fl % 2) = ((rotN (wideN x b.toNat (fl % 2)) (b.toNat + 1) ((b.toNat + 1 - k % (b.toNat + 1)) % (b.toNat + 1))) % 2 ^ b.toNat) := rfl
  have e2 : shF 3 b.toNat x k fl = setF (setF fl 1 ((rotN (wideN x b.toNat (fl % 2)) (b.toNat + 1) ((b.toNat + 1 - k % (b.toNat + 1)) % (b.toNat + 1))).testBit b.toNat)) 2048 (((rotN (wideN x b.toNat (fl % 2)) (b.toNat + 1) ((b.toNat + 1 - k % (b.toNat + 1)) % (b.toNat + 1))) % 2 ^ b.toNat).testBit (b.toNat - 1) != ((rotN (wideN x b.toNat (fl % 2)) (b.toNat + 1) ((b.toNat + 1 - k % (b.toNat + 1)) % (b.toNat + 1))) % 2 ^ b.toNat).testBit (b.toNat - 2)) := rfl
  rw [e1, e2]
  clear e1 e2
  have hz : wideN x b.toNat (fl % 2) = x + (fl % 2) * 2 ^ b.toNat := rfl
  generalize wideN x b.toNat (fl % 2) = wd at *
  generalize rotN wd (b.toNat + 1) ((b.toNat + 1 - k % (b.toNat + 1)) % (b.toNat + 1)) = wr at *
  have hr : wr % 2 ^ b.toNat < 18446744073709551616 := Nat.lt_of_lt_of_le (Nat.mod_lt _ (Nat.two_pow_pos _)) (Nat.pow_le_pow_right (n := 2) (j := 64) (by decide) (by omega))
  have C := hide fun w => cut6_ok (wr : Int) b (by omega) (by omega) w
  simp only [Int.toNat_natCast] at C
  have hr2 : ∀ i, (wr % 2 ^ b.toNat).testBit i = (wr % 2 ^ b.toNat).testBit i := fun _ => rfl
  generalize wr % 2 ^ b.toNat = r at *
  have H := hide (has_ok fl)
  have Bw := hide fun i h w => bit_okI wr i b.toNat h (by omega) w
  have B1 := hide fun i h w => bit_okI r i (b.toNat - 1) h (by omega) w
  have B2 := hide fun i h w => bit_okI r i (b.toNat - 2) h (by omega) w
  generalize wr.testBit b.toNat = tw at *
  have S1 := hide fun w => set_ok fl 1 tw (by decide) hf w
  have S2 := hide fun o w => set_ok (setF fl 1 tw) 2048 o (by decide) (lt1 _ hf) w
  generalize r.testBit (b.toNat - 1) = t1 at *
  generalize r.testBit (b.toNat - 2) = t2 at *
  simp only [Int.reduceToNat] at S1 S2
  generalize setF fl 1 tw = f1 at *
  have V' := hide V
  clear hf V hw hB hr2
  rcases Nat.mod_two_eq_zero_or_one fl with hc | hc
  all_goals
    rw [hc] at hz H
    clear hc
    rcases hb with rfl | rfl | rfl
    all_goals
      simp only [Nat.reduceBEq] at H
      simp only [Int.reduceToNat, Nat.reducePow] at hz hx
      go_enter Try.func22, Try.ntmps22
      go_wp2_with fail
      refine (H.out _).mono ?_
      rintro e w' ⟨rfl, rfl⟩
      go_wp2_with fail
      refine (V'.out _ _ _ (by omega) (by omega) (by omega) _).mono ?_
      rintro e w' ⟨rfl, rfl⟩
      go_wp2_with fail
      refine (C.out _).mono ?_
      rintro e w' ⟨rfl, rfl⟩
      go_wp2_with fail
      refine (Bw.out _ (by omega) _).mono ?_
      rintro e w' ⟨rfl, rfl⟩
      go_wp2_with fail
      refine (S1.out _).mono ?_
      rintro e w' ⟨rfl, rfl⟩
      go_wp2_with fail
      refine (B1.out _ (by omega) _).mono ?_
      rintro e w' ⟨rfl, rfl⟩
      go_wp2_with fail
      refine (B2.out _ (by omega) _).mono ?_
      rintro e w' ⟨rfl, rfl⟩
      go_wp2_with fail
      refine (S2.out _ _).mono ?_
      rintro e w' ⟨rfl, rfl⟩
      go_wp2
      go_ret2
      exact ⟨ret_ii rfl rfl, rfl⟩
end Go.Proofs.Ytlchhlfnndeicaa
