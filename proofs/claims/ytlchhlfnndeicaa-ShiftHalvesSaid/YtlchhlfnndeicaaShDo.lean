/- The program's Do of layer 2, operation by operation. -/
import Derived.Test.YtlchhlfnndeicaaShWorks
namespace Go.Proofs.Ytlchhlfnndeicaa
open Go.RowKit Pl

theorem low1 (fl : Nat) (hf : fl < 4294967296) : bits .and .u32 (fl : Int) 1 = ((fl % 2 : Nat) : Int) := by
  rw [show (1 : Int) = ((1 : Nat) : Int) from rfl, u32_and_nat _ _ hf (by decide), Nat.and_one_is_mod]
theorem low31 (c : Nat) (hc : c < 4294967296) : bits .and .u32 (c : Int) 31 = ((c % 32 : Nat) : Int) := by
  rw [show (31 : Int) = ((2 ^ 5 - 1 : Nat) : Int) from rfl, u32_and_nat _ _ hc (by decide), Nat.and_two_pow_sub_one_eq_mod]
theorem put_lt (k : Nat) (c : Bool) (hk : k < 4294967296) : put k c < 4294967296 := by
  unfold put
  split
  · exact hk
  · decide
theorem flags2_int (fl : Nat) (c o : Bool) (hf : fl < 4294967296) : bits .or .u32 (bits .or .u32 (bits .andNot .u32 (fl : Int) 2049) ((put 1 c : Nat) : Int)) ((put 2048 o : Nat) : Int) = ((setF (setF fl 1 c) 2048 o : Nat) : Int) := by
  have l0 : fl &&& (4294967295 - 2049) < 2 ^ 32 := Nat.and_lt_two_pow _ (by decide)
  have l1 : put 1 c < 2 ^ 32 := put_lt _ _ (by decide)
  have l2 : put 2048 o < 2 ^ 32 := put_lt _ _ (by decide)
  rw [show (2049 : Int) = ((2049 : Nat) : Int) from rfl, u32_andNot_nat _ _ hf (by decide), u32_or_nat _ _ l0 l1, u32_or_nat _ _ (Nat.or_lt_two_pow l0 l1) l2, asm2 _ _ _ hf]
theorem clr16_int (f : Nat) (hf : f < 4294967296) : bits .andNot .u32 (f : Int) 16 = ((setF f 16 false : Nat) : Int) := by
  rw [show (16 : Int) = ((16 : Nat) : Int) from rfl, u32_andNot_nat _ _ hf (by decide), clr16 f hf]
theorem idx_of {T : TypeId} {v : Array Value} {i : Int} {f : Value} (h : ∀ w, (Instr.index T (.agg v) (.int .i64 i)).run Try.prog w = .ok f w) : Hid (∀ w, (Instr.index T (.agg v) (.int .i64 i)).run Try.prog w = .ok f w) := h
theorem sizes (s : Int) (hs : s = 1 ∨ s = 2 ∨ s = 4) : ∃ B : Int, (s = 1 ∧ B = 8 ∨ s = 2 ∧ B = 16 ∨ s = 4 ∧ B = 32) ∧ B.toNat = 8 * s.toNat := by
  rcases hs with rfl | rfl | rfl
  · exact ⟨8, by decide, by decide⟩
  · exact ⟨16, by decide, by decide⟩
  · exact ⟨32, by decide, by decide⟩

set_option maxRecDepth 20000 in
set_option maxHeartbeats 1000000 in
theorem shdo_zero (op s : Int) (ho : 0 ≤ op ∧ op ≤ 7) (hs : s = 1 ∨ s = 2 ∨ s = 4) (a c fl : Nat) (ha : a < 4294967296) (hc : c < 4294967296) (hk : c % 32 = 0) (w : World) :
    Calls Try.prog 11 #[.int .i64 op, .int .i64 s, .int .u32 a, .int .u32 c, .int .u32 fl] w fun e w' => e = .returned (.tuple #[.int .u32 ((a % 2 ^ (8 * s.toNat) : Nat) : Int), .int .u32 fl, .int .i64 0]) ∧ Below w.heap.size w w' := by
  obtain ⟨B, hsb, eB⟩ := sizes s hs
  rw [← eB]
  have hB : B = 8 ∨ B = 16 ∨ B = 32 := by omega
  have V : ∀ w, Calls Try.prog 16 #[.int .u64 B, .int .u64 (a : Int)] w fun e w' => e = .returned (.int .u64 ((a % 2 ^ B.toNat : Nat) : Int)) ∧ w = w' := fun w => shvalue_ok B a (by omega) (by omega) (by omega) w
  have hx : a % 2 ^ B.toNat < 4294967296 := Nat.lt_of_le_of_lt (Nat.mod_le _ _) ha
  have e3 := low31 c hc
  rw [hk] at e3
  generalize a % 2 ^ B.toNat = x at *
  have V' := hide V
  clear V hc hk hB eB hs
  obtain ⟨ho0, ho7⟩ := ho
  rcases hsb with ⟨rfl, rfl⟩ | ⟨rfl, rfl⟩ | ⟨rfl, rfl⟩
  all_goals
    go_enter Try.func11, Try.ntmps11
    go_wp2_with fail
    refine (V'.out _).mono ?_
    rintro e w' ⟨rfl, rfl⟩
    go_wp2
    go_ret3
    exact ⟨ret_iii rfl rfl rfl, Below.refl _ _⟩

theorem idx0 : ∀ w, (Instr.index 40 (.agg tab) (.int .i64 0)).run Try.prog w = .ok (.func (.func 29) #[] #[]) w := by
  intro w
  kernel_rfl
set_option maxRecDepth 20000 in
set_option maxHeartbeats 2000000 in
theorem shdo0_ok (s : Int) (hs : s = 1 ∨ s = 2 ∨ s = 4) (a c fl : Nat) (ha : a < 4294967296) (hc : c < 4294967296) (hf : fl < 4294967296) (hk0 : 0 < c % 32) (w : World) :
    Calls Try.prog 11 #[.int .i64 0, .int .i64 s, .int .u32 a, .int .u32 c, .int .u32 fl] w fun e w' => e = .returned (.tuple #[.int .u32 ((shR 0 (8 * s.toNat) (a % 2 ^ (8 * s.toNat)) (c % 32) (fl % 2) : Nat) : Int), .int .u32 ((shF 0 (8 * s.toNat) (a % 2 ^ (8 * s.toNat)) (c % 32) fl : Nat) : Int), .int .i64 0]) ∧ Below w.heap.size w w' := by
  obtain ⟨B, hsb, eB⟩ := sizes s hs
  rw [← eB]
  have hB : B = 8 ∨ B = 16 ∨ B = 32 := by omega
  have V : ∀ w, Calls Try.prog 16 #[.int .u64 B, .int .u64 (a : Int)] w fun e w' => e = .returned (.int .u64 ((a % 2 ^ B.toNat : Nat) : Int)) ∧ w = w' := fun w => shvalue_ok B a (by omega) (by omega) (by omega) w
  have hx : a % 2 ^ B.toNat < 2 ^ B.toNat := Nat.mod_lt _ (Nat.two_pow_pos _)
  have e3 := low31 c hc
  have e2 := low1 fl hf
  have hk : c % 32 < 32 := Nat.mod_lt _ (by decide)
  generalize a % 2 ^ B.toNat = x at *
  generalize c % 32 = k at *
  have CL := fun w => rol_ok B x k (fl % 2) hB hx hk w
  have hr := shR_lt 0 B.toNat x k (fl % 2) hx (by omega)
  have eF : shF 0 B.toNat x k fl = setF (setF fl 1 (shC 0 B.toNat x k (fl % 2))) 2048 (shO 0 B.toNat x k (fl % 2)) := rfl
  rw [eF]
  clear eF
  have F2 := fun p (hp : p < 18446744073709551616) w => flag_ok 1 (by decide) p hp w
  have F3 := fun p (hp : p < 18446744073709551616) w => flag_ok 2048 (by decide) p hp w
  simp only [Int.reduceToNat] at F2 F3
  unfold Wk at CL
  generalize hC : shC 0 B.toNat x k (fl % 2) = C at *
  generalize hO : shO 0 B.toNat x k (fl % 2) = O at *
  clear hC hO
  have f2 := flags2_int fl C O hf
  generalize setF (setF fl 1 C) 2048 O = g2 at *
  generalize shR 0 B.toNat x k (fl % 2) = r at *
  have hcN : fl % 2 < 2 := Nat.mod_lt _ (by decide)
  generalize fl % 2 = cN at *
  have V' := hide V
  have CL' := hide CL
  have F2' := hide F2
  have F3' := hide F3
  have f2' := hide f2
  have I' := idx_of idx0
  clear V CL F2 F3 f2 hc hf eB hs
  rcases hsb with ⟨rfl, rfl⟩ | ⟨rfl, rfl⟩ | ⟨rfl, rfl⟩
  all_goals
    simp only [Int.reduceToNat, Nat.reducePow] at hr hx
    go_enter Try.func11, Try.ntmps11
    go_wp2_with fail
    refine (V'.out _).mono ?_
    rintro e w' ⟨rfl, rfl⟩
    go_wp2_with fail
    refine (works_ok _).mono ?_
    rintro e w1 ⟨rfl, hb⟩
    generalize tab = tb at *
    go_wp2_with fail
    rw [I'.out]
    go_wp2_with fail
    refine (CL'.out _).mono ?_
    rintro e w' ⟨⟨p, q, rfl, hp, hq, hC, hO⟩, rfl⟩
    go_wp2_with fail
    refine (F2'.out p hp _).mono ?_
    rintro e w' ⟨rfl, rfl⟩
    go_wp2_with fail
    refine (F3'.out q hq _).mono ?_
    rintro e w' ⟨rfl, rfl⟩
    have f2 := f2'.out
    go_wp2
    go_ret3
    exact ⟨ret_iii rfl rfl rfl, hb⟩

theorem idx1 : ∀ w, (Instr.index 40 (.agg tab) (.int .i64 1)).run Try.prog w = .ok (.func (.func 31) #[] #[]) w := by
  intro w
  kernel_rfl
set_option maxRecDepth 20000 in
set_option maxHeartbeats 2000000 in
theorem shdo1_ok (s : Int) (hs : s = 1 ∨ s = 2 ∨ s = 4) (a c fl : Nat) (ha : a < 4294967296) (hc : c < 4294967296) (hf : fl < 4294967296) (hk0 : 0 < c % 32) (w : World) :
    Calls Try.prog 11 #[.int .i64 1, .int .i64 s, .int .u32 a, .int .u32 c, .int .u32 fl] w fun e w' => e = .returned (.tuple #[.int .u32 ((shR 1 (8 * s.toNat) (a % 2 ^ (8 * s.toNat)) (c % 32) (fl % 2) : Nat) : Int), .int .u32 ((shF 1 (8 * s.toNat) (a % 2 ^ (8 * s.toNat)) (c % 32) fl : Nat) : Int), .int .i64 0]) ∧ Below w.heap.size w w' := by
  obtain ⟨B, hsb, eB⟩ := sizes s hs
  rw [← eB]
  have hB : B = 8 ∨ B = 16 ∨ B = 32 := by omega
  have V : ∀ w, Calls Try.prog 16 #[.int .u64 B, .int .u64 (a : Int)] w fun e w' => e = .returned (.int .u64 ((a % 2 ^ B.toNat : Nat) : Int)) ∧ w = w' := fun w => shvalue_ok B a (by omega) (by omega) (by omega) w
  have hx : a % 2 ^ B.toNat < 2 ^ B.toNat := Nat.mod_lt _ (Nat.two_pow_pos _)
  have e3 := low31 c hc
  have e2 := low1 fl hf
  have hk : c % 32 < 32 := Nat.mod_lt _ (by decide)
  generalize a % 2 ^ B.toNat = x at *
  generalize c % 32 = k at *
  have CL := fun w => ror_ok B x k (fl % 2) hB hx w
  have hr := shR_lt 1 B.toNat x k (fl % 2) hx (by omega)
  have eF : shF 1 B.toNat x k fl = setF (setF fl 1 (shC 1 B.toNat x k (fl % 2))) 2048 (shO 1 B.toNat x k (fl % 2)) := rfl
  rw [eF]
  clear eF
  have F2 := fun p (hp : p < 18446744073709551616) w => flag_ok 1 (by decide) p hp w
  have F3 := fun p (hp : p < 18446744073709551616) w => flag_ok 2048 (by decide) p hp w
  simp only [Int.reduceToNat] at F2 F3
  unfold Wk at CL
  generalize hC : shC 1 B.toNat x k (fl % 2) = C at *
  generalize hO : shO 1 B.toNat x k (fl % 2) = O at *
  clear hC hO
  have f2 := flags2_int fl C O hf
  generalize setF (setF fl 1 C) 2048 O = g2 at *
  generalize shR 1 B.toNat x k (fl % 2) = r at *
  have hcN : fl % 2 < 2 := Nat.mod_lt _ (by decide)
  generalize fl % 2 = cN at *
  have V' := hide V
  have CL' := hide CL
  have F2' := hide F2
  have F3' := hide F3
  have f2' := hide f2
  have I' := idx_of idx1
  clear V CL F2 F3 f2 hc hf eB hs
  rcases hsb with ⟨rfl, rfl⟩ | ⟨rfl, rfl⟩ | ⟨rfl, rfl⟩
  all_goals
    simp only [Int.reduceToNat, Nat.reducePow] at hr hx
    go_enter Try.func11, Try.ntmps11
    go_wp2_with fail
    refine (V'.out _).mono ?_
    rintro e w' ⟨rfl, rfl⟩
    go_wp2_with fail
    refine (works_ok _).mono ?_
    rintro e w1 ⟨rfl, hb⟩
    generalize tab = tb at *
    go_wp2_with fail
    rw [I'.out]
    go_wp2_with fail
    refine (CL'.out _).mono ?_
    rintro e w' ⟨⟨p, q, rfl, hp, hq, hC, hO⟩, rfl⟩
    go_wp2_with fail
    refine (F2'.out p hp _).mono ?_
    rintro e w' ⟨rfl, rfl⟩
    go_wp2_with fail
    refine (F3'.out q hq _).mono ?_
    rintro e w' ⟨rfl, rfl⟩
    have f2 := f2'.out
    go_wp2
    go_ret3
    exact ⟨ret_iii rfl rfl rfl, hb⟩

theorem idx2 : ∀ w, (Instr.index 40 (.agg tab) (.int .i64 2)).run Try.prog w = .ok (.func (.func 32) #[] #[]) w := by
  intro w
  kernel_rfl
set_option maxRecDepth 20000 in
set_option maxHeartbeats 2000000 in
theorem shdo2_ok (s : Int) (hs : s = 1 ∨ s = 2 ∨ s = 4) (a c fl : Nat) (ha : a < 4294967296) (hc : c < 4294967296) (hf : fl < 4294967296) (hk0 : 0 < c % 32) (w : World) :
    Calls Try.prog 11 #[.int .i64 2, .int .i64 s, .int .u32 a, .int .u32 c, .int .u32 fl] w fun e w' => e = .returned (.tuple #[.int .u32 ((shR 2 (8 * s.toNat) (a % 2 ^ (8 * s.toNat)) (c % 32) (fl % 2) : Nat) : Int), .int .u32 ((shF 2 (8 * s.toNat) (a % 2 ^ (8 * s.toNat)) (c % 32) fl : Nat) : Int), .int .i64 0]) ∧ Below w.heap.size w w' := by
  obtain ⟨B, hsb, eB⟩ := sizes s hs
  rw [← eB]
  have hB : B = 8 ∨ B = 16 ∨ B = 32 := by omega
  have V : ∀ w, Calls Try.prog 16 #[.int .u64 B, .int .u64 (a : Int)] w fun e w' => e = .returned (.int .u64 ((a % 2 ^ B.toNat : Nat) : Int)) ∧ w = w' := fun w => shvalue_ok B a (by omega) (by omega) (by omega) w
  have hx : a % 2 ^ B.toNat < 2 ^ B.toNat := Nat.mod_lt _ (Nat.two_pow_pos _)
  have e3 := low31 c hc
  have e2 := low1 fl hf
  have hk : c % 32 < 32 := Nat.mod_lt _ (by decide)
  generalize a % 2 ^ B.toNat = x at *
  generalize c % 32 = k at *
  have CL := fun w => rcl_ok B x k (fl % 2) hB hx hk (by omega) w
  have hr := shR_lt 2 B.toNat x k (fl % 2) hx (by omega)
  have eF : shF 2 B.toNat x k fl = setF (setF fl 1 (shC 2 B.toNat x k (fl % 2))) 2048 (shO 2 B.toNat x k (fl % 2)) := rfl
  rw [eF]
  clear eF
  have F2 := fun p (hp : p < 18446744073709551616) w => flag_ok 1 (by decide) p hp w
  have F3 := fun p (hp : p < 18446744073709551616) w => flag_ok 2048 (by decide) p hp w
  simp only [Int.reduceToNat] at F2 F3
  unfold Wk at CL
  generalize hC : shC 2 B.toNat x k (fl % 2) = C at *
  generalize hO : shO 2 B.toNat x k (fl % 2) = O at *
  clear hC hO
  have f2 := flags2_int fl C O hf
  generalize setF (setF fl 1 C) 2048 O = g2 at *
  generalize shR 2 B.toNat x k (fl % 2) = r at *
  have hcN : fl % 2 < 2 := Nat.mod_lt _ (by decide)
  generalize fl % 2 = cN at *
  have V' := hide V
  have CL' := hide CL
  have F2' := hide F2
  have F3' := hide F3
  have f2' := hide f2
  have I' := idx_of idx2
  clear V CL F2 F3 f2 hc hf eB hs
  rcases hsb with ⟨rfl, rfl⟩ | ⟨rfl, rfl⟩ | ⟨rfl, rfl⟩
  all_goals
    simp only [Int.reduceToNat, Nat.reducePow] at hr hx
    go_enter Try.func11, Try.ntmps11
    go_wp2_with fail
    refine (V'.out _).mono ?_
    rintro e w' ⟨rfl, rfl⟩
    go_wp2_with fail
    refine (works_ok _).mono ?_
    rintro e w1 ⟨rfl, hb⟩
    generalize tab = tb at *
    go_wp2_with fail
    rw [I'.out]
    go_wp2_with fail
    refine (CL'.out _).mono ?_
    rintro e w' ⟨⟨p, q, rfl, hp, hq, hC, hO⟩, rfl⟩
    go_wp2_with fail
    refine (F2'.out p hp _).mono ?_
    rintro e w' ⟨rfl, rfl⟩
    go_wp2_with fail
    refine (F3'.out q hq _).mono ?_
    rintro e w' ⟨rfl, rfl⟩
    have f2 := f2'.out
    go_wp2
    go_ret3
    exact ⟨ret_iii rfl rfl rfl, hb⟩

theorem idx3 : ∀ w, (Instr.index 40 (.agg tab) (.int .i64 3)).run Try.prog w = .ok (.func (.func 33) #[] #[]) w := by
  intro w
  kernel_rfl
set_option maxRecDepth 20000 in
set_option maxHeartbeats 2000000 in
theorem shdo3_ok (s : Int) (hs : s = 1 ∨ s = 2 ∨ s = 4) (a c fl : Nat) (ha : a < 4294967296) (hc : c < 4294967296) (hf : fl < 4294967296) (hk0 : 0 < c % 32) (w : World) :
    Calls Try.prog 11 #[.int .i64 3, .int .i64 s, .int .u32 a, .int .u32 c, .int .u32 fl] w fun e w' => e = .returned (.tuple #[.int .u32 ((shR 3 (8 * s.toNat) (a % 2 ^ (8 * s.toNat)) (c % 32) (fl % 2) : Nat) : Int), .int .u32 ((shF 3 (8 * s.toNat) (a % 2 ^ (8 * s.toNat)) (c % 32) fl : Nat) : Int), .int .i64 0]) ∧ Below w.heap.size w w' := by
  obtain ⟨B, hsb, eB⟩ := sizes s hs
  rw [← eB]
  have hB : B = 8 ∨ B = 16 ∨ B = 32 := by omega
  have V : ∀ w, Calls Try.prog 16 #[.int .u64 B, .int .u64 (a : Int)] w fun e w' => e = .returned (.int .u64 ((a % 2 ^ B.toNat : Nat) : Int)) ∧ w = w' := fun w => shvalue_ok B a (by omega) (by omega) (by omega) w
  have hx : a % 2 ^ B.toNat < 2 ^ B.toNat := Nat.mod_lt _ (Nat.two_pow_pos _)
  have e3 := low31 c hc
  have e2 := low1 fl hf
  have hk : c % 32 < 32 := Nat.mod_lt _ (by decide)
  generalize a % 2 ^ B.toNat = x at *
  generalize c % 32 = k at *
  have CL := fun w => rcr_ok B x k (fl % 2) hB hx hk (by omega) w
  have hr := shR_lt 3 B.toNat x k (fl % 2) hx (by omega)
  have eF : shF 3 B.toNat x k fl = setF (setF fl 1 (shC 3 B.toNat x k (fl % 2))) 2048 (shO 3 B.toNat x k (fl % 2)) := rfl
  rw [eF]
  clear eF
  have F2 := fun p (hp : p < 18446744073709551616) w => flag_ok 1 (by decide) p hp w
  have F3 := fun p (hp : p < 18446744073709551616) w => flag_ok 2048 (by decide) p hp w
  simp only [Int.reduceToNat] at F2 F3
  unfold Wk at CL
  generalize hC : shC 3 B.toNat x k (fl % 2) = C at *
  generalize hO : shO 3 B.toNat x k (fl % 2) = O at *
  clear hC hO
  have f2 := flags2_int fl C O hf
  generalize setF (setF fl 1 C) 2048 O = g2 at *
  generalize shR 3 B.toNat x k (fl % 2) = r at *
  have hcN : fl % 2 < 2 := Nat.mod_lt _ (by decide)
  generalize fl % 2 = cN at *
  have V' := hide V
  have CL' := hide CL
  have F2' := hide F2
  have F3' := hide F3
  have f2' := hide f2
  have I' := idx_of idx3
  clear V CL F2 F3 f2 hc hf eB hs
  rcases hsb with ⟨rfl, rfl⟩ | ⟨rfl, rfl⟩ | ⟨rfl, rfl⟩
  all_goals
    simp only [Int.reduceToNat, Nat.reducePow] at hr hx
    go_enter Try.func11, Try.ntmps11
    go_wp2_with fail
    refine (V'.out _).mono ?_
    rintro e w' ⟨rfl, rfl⟩
    go_wp2_with fail
    refine (works_ok _).mono ?_
    rintro e w1 ⟨rfl, hb⟩
    generalize tab = tb at *
    go_wp2_with fail
    rw [I'.out]
    go_wp2_with fail
    refine (CL'.out _).mono ?_
    rintro e w' ⟨⟨p, q, rfl, hp, hq, hC, hO⟩, rfl⟩
    go_wp2_with fail
    refine (F2'.out p hp _).mono ?_
    rintro e w' ⟨rfl, rfl⟩
    go_wp2_with fail
    refine (F3'.out q hq _).mono ?_
    rintro e w' ⟨rfl, rfl⟩
    have f2 := f2'.out
    go_wp2
    go_ret3
    exact ⟨ret_iii rfl rfl rfl, hb⟩

theorem idx4 : ∀ w, (Instr.index 40 (.agg tab) (.int .i64 4)).run Try.prog w = .ok (.func (.func 28) #[] #[]) w := by
  intro w
  kernel_rfl
set_option maxRecDepth 20000 in
set_option maxHeartbeats 2000000 in
theorem shdo4_ok (s : Int) (hs : s = 1 ∨ s = 2 ∨ s = 4) (a c fl : Nat) (ha : a < 4294967296) (hc : c < 4294967296) (hf : fl < 4294967296) (hk0 : 0 < c % 32) (w : World) :
    Calls Try.prog 11 #[.int .i64 4, .int .i64 s, .int .u32 a, .int .u32 c, .int .u32 fl] w fun e w' => e = .returned (.tuple #[.int .u32 ((shR 4 (8 * s.toNat) (a % 2 ^ (8 * s.toNat)) (c % 32) (fl % 2) : Nat) : Int), .int .u32 ((shF 4 (8 * s.toNat) (a % 2 ^ (8 * s.toNat)) (c % 32) fl : Nat) : Int), .int .i64 0]) ∧ Below w.heap.size w w' := by
  obtain ⟨B, hsb, eB⟩ := sizes s hs
  rw [← eB]
  have hB : B = 8 ∨ B = 16 ∨ B = 32 := by omega
  have V : ∀ w, Calls Try.prog 16 #[.int .u64 B, .int .u64 (a : Int)] w fun e w' => e = .returned (.int .u64 ((a % 2 ^ B.toNat : Nat) : Int)) ∧ w = w' := fun w => shvalue_ok B a (by omega) (by omega) (by omega) w
  have hx : a % 2 ^ B.toNat < 2 ^ B.toNat := Nat.mod_lt _ (Nat.two_pow_pos _)
  have e3 := low31 c hc
  have e2 := low1 fl hf
  have hk : c % 32 < 32 := Nat.mod_lt _ (by decide)
  generalize a % 2 ^ B.toNat = x at *
  generalize c % 32 = k at *
  have CL := fun w => shl_ok B x k (fl % 2) hB hx hk w
  have hr := shR_lt 4 B.toNat x k (fl % 2) hx (by omega)
  have eF : shF 4 B.toNat x k fl = byF (shR 4 B.toNat x k (fl % 2)) B.toNat (setF (setF (setF fl 1 (shC 4 B.toNat x k (fl % 2))) 2048 (shO 4 B.toNat x k (fl % 2))) 16 false) := by
    rw [set_turn]
    rfl
  rw [eF]
  clear eF
  have F2 := fun p (hp : p < 18446744073709551616) w => flag_ok 1 (by decide) p hp w
  have F3 := fun p (hp : p < 18446744073709551616) w => flag_ok 2048 (by decide) p hp w
  simp only [Int.reduceToNat] at F2 F3
  unfold Wk at CL
  generalize hC : shC 4 B.toNat x k (fl % 2) = C at *
  generalize hO : shO 4 B.toNat x k (fl % 2) = O at *
  clear hC hO
  have f2 := flags2_int fl C O hf
  have hg : setF (setF fl 1 C) 2048 O < 4294967296 := lt2048 _ (lt1 _ hf)
  have f3 := clr16_int _ hg
  have hg3 := lt16 false hg
  generalize setF (setF (setF fl 1 C) 2048 O) 16 false = g3 at *
  generalize setF (setF fl 1 C) 2048 O = g2 at *
  generalize shR 4 B.toNat x k (fl % 2) = r at *
  have hrl : r < 4294967296 := Nat.lt_of_lt_of_le hr (Nat.pow_le_pow_right (n := 2) (j := 32) (by decide) (by omega))
  have AF : ∀ w, Calls Try.prog 19 #[.int .i64 s, .int .u32 r, .int .u32 g3] w fun e w' => e = .returned (.tuple #[.int .u32 ((byF r B.toNat g3 : Nat) : Int), .int .i64 0]) ∧ w = w' := by
    intro w
    have h := flags_ok s hs r g3 hrl hg3 w
    rw [← eB, Nat.mod_eq_of_lt hr] at h
    exact h
  generalize byF r B.toNat g3 = rf at *
  have AF' := hide AF
  have f3' := hide f3
  clear AF f3
  have hcN : fl % 2 < 2 := Nat.mod_lt _ (by decide)
  generalize fl % 2 = cN at *
  have V' := hide V
  have CL' := hide CL
  have F2' := hide F2
  have F3' := hide F3
  have f2' := hide f2
  have I' := idx_of idx4
  clear V CL F2 F3 f2 hc hf eB hs hB hg hg3 hrl
  rcases hsb with ⟨rfl, rfl⟩ | ⟨rfl, rfl⟩ | ⟨rfl, rfl⟩
  all_goals
    simp only [Int.reduceToNat, Nat.reducePow] at hr hx
    go_enter Try.func11, Try.ntmps11
    go_wp2_with fail
    refine (V'.out _).mono ?_
    rintro e w' ⟨rfl, rfl⟩
    go_wp2_with fail
    refine (works_ok _).mono ?_
    rintro e w1 ⟨rfl, hb⟩
    generalize tab = tb at *
    go_wp2_with fail
    rw [I'.out]
    go_wp2_with fail
    refine (CL'.out _).mono ?_
    rintro e w' ⟨⟨p, q, rfl, hp, hq, hC, hO⟩, rfl⟩
    go_wp2_with fail
    refine (F2'.out p hp _).mono ?_
    rintro e w' ⟨rfl, rfl⟩
    go_wp2_with fail
    refine (F3'.out q hq _).mono ?_
    rintro e w' ⟨rfl, rfl⟩
    have f2 := f2'.out
    have f3 := f3'.out
    go_wp2_with fail
    refine (AF'.out _).mono ?_
    rintro e w' ⟨rfl, rfl⟩
    go_wp2
    go_ret3
    exact ⟨ret_iii rfl rfl rfl, hb⟩

theorem idx5 : ∀ w, (Instr.index 40 (.agg tab) (.int .i64 5)).run Try.prog w = .ok (.func (.func 34) #[] #[]) w := by
  intro w
  kernel_rfl
set_option maxRecDepth 20000 in
set_option maxHeartbeats 2000000 in
theorem shdo5_ok (s : Int) (hs : s = 1 ∨ s = 2 ∨ s = 4) (a c fl : Nat) (ha : a < 4294967296) (hc : c < 4294967296) (hf : fl < 4294967296) (hk0 : 0 < c % 32) (w : World) :
    Calls Try.prog 11 #[.int .i64 5, .int .i64 s, .int .u32 a, .int .u32 c, .int .u32 fl] w fun e w' => e = .returned (.tuple #[.int .u32 ((shR 5 (8 * s.toNat) (a % 2 ^ (8 * s.toNat)) (c % 32) (fl % 2) : Nat) : Int), .int .u32 ((shF 5 (8 * s.toNat) (a % 2 ^ (8 * s.toNat)) (c % 32) fl : Nat) : Int), .int .i64 0]) ∧ Below w.heap.size w w' := by
  obtain ⟨B, hsb, eB⟩ := sizes s hs
  rw [← eB]
  have hB : B = 8 ∨ B = 16 ∨ B = 32 := by omega
  have V : ∀ w, Calls Try.prog 16 #[.int .u64 B, .int .u64 (a : Int)] w fun e w' => e = .returned (.int .u64 ((a % 2 ^ B.toNat : Nat) : Int)) ∧ w = w' := fun w => shvalue_ok B a (by omega) (by omega) (by omega) w
  have hx : a % 2 ^ B.toNat < 2 ^ B.toNat := Nat.mod_lt _ (Nat.two_pow_pos _)
  have e3 := low31 c hc
  have e2 := low1 fl hf
  have hk : c % 32 < 32 := Nat.mod_lt _ (by decide)
  generalize a % 2 ^ B.toNat = x at *
  generalize c % 32 = k at *
  have CL := fun w => shr_ok B x k (fl % 2) hB hx hk hk0 w
  have hr := shR_lt 5 B.toNat x k (fl % 2) hx (by omega)
  have eF : shF 5 B.toNat x k fl = byF (shR 5 B.toNat x k (fl % 2)) B.toNat (setF (setF (setF fl 1 (shC 5 B.toNat x k (fl % 2))) 2048 (shO 5 B.toNat x k (fl % 2))) 16 false) := by
    rw [set_turn]
    rfl
  rw [eF]
  clear eF
  have F2 := fun p (hp : p < 18446744073709551616) w => flag_ok 1 (by decide) p hp w
  have F3 := fun p (hp : p < 18446744073709551616) w => flag_ok 2048 (by decide) p hp w
  simp only [Int.reduceToNat] at F2 F3
  unfold Wk at CL
  generalize hC : shC 5 B.toNat x k (fl % 2) = C at *
  generalize hO : shO 5 B.toNat x k (fl % 2) = O at *
  clear hC hO
  have f2 := flags2_int fl C O hf
  have hg : setF (setF fl 1 C) 2048 O < 4294967296 := lt2048 _ (lt1 _ hf)
  have f3 := clr16_int _ hg
  have hg3 := lt16 false hg
  generalize setF (setF (setF fl 1 C) 2048 O) 16 false = g3 at *
  generalize setF (setF fl 1 C) 2048 O = g2 at *
  generalize shR 5 B.toNat x k (fl % 2) = r at *
  have hrl : r < 4294967296 := Nat.lt_of_lt_of_le hr (Nat.pow_le_pow_right (n := 2) (j := 32) (by decide) (by omega))
  have AF : ∀ w, Calls Try.prog 19 #[.int .i64 s, .int .u32 r, .int .u32 g3] w fun e w' => e = .returned (.tuple #[.int .u32 ((byF r B.toNat g3 : Nat) : Int), .int .i64 0]) ∧ w = w' := by
    intro w
    have h := flags_ok s hs r g3 hrl hg3 w
    rw [← eB, Nat.mod_eq_of_lt hr] at h
    exact h
  generalize byF r B.toNat g3 = rf at *
  have AF' := hide AF
  have f3' := hide f3
  clear AF f3
  have hcN : fl % 2 < 2 := Nat.mod_lt _ (by decide)
  generalize fl % 2 = cN at *
  have V' := hide V
  have CL' := hide CL
  have F2' := hide F2
  have F3' := hide F3
  have f2' := hide f2
  have I' := idx_of idx5
  clear V CL F2 F3 f2 hc hf eB hs hB hg hg3 hrl
  rcases hsb with ⟨rfl, rfl⟩ | ⟨rfl, rfl⟩ | ⟨rfl, rfl⟩
  all_goals
    simp only [Int.reduceToNat, Nat.reducePow] at hr hx
    go_enter Try.func11, Try.ntmps11
    go_wp2_with fail
    refine (V'.out _).mono ?_
    rintro e w' ⟨rfl, rfl⟩
    go_wp2_with fail
    refine (works_ok _).mono ?_
    rintro e w1 ⟨rfl, hb⟩
    generalize tab = tb at *
    go_wp2_with fail
    rw [I'.out]
    go_wp2_with fail
    refine (CL'.out _).mono ?_
    rintro e w' ⟨⟨p, q, rfl, hp, hq, hC, hO⟩, rfl⟩
    go_wp2_with fail
    refine (F2'.out p hp _).mono ?_
    rintro e w' ⟨rfl, rfl⟩
    go_wp2_with fail
    refine (F3'.out q hq _).mono ?_
    rintro e w' ⟨rfl, rfl⟩
    have f2 := f2'.out
    have f3 := f3'.out
    go_wp2_with fail
    refine (AF'.out _).mono ?_
    rintro e w' ⟨rfl, rfl⟩
    go_wp2
    go_ret3
    exact ⟨ret_iii rfl rfl rfl, hb⟩

theorem idx6 : ∀ w, (Instr.index 40 (.agg tab) (.int .i64 6)).run Try.prog w = .ok (.func (.func 28) #[] #[]) w := by
  intro w
  kernel_rfl
set_option maxRecDepth 20000 in
set_option maxHeartbeats 2000000 in
theorem shdo6_ok (s : Int) (hs : s = 1 ∨ s = 2 ∨ s = 4) (a c fl : Nat) (ha : a < 4294967296) (hc : c < 4294967296) (hf : fl < 4294967296) (hk0 : 0 < c % 32) (w : World) :
    Calls Try.prog 11 #[.int .i64 6, .int .i64 s, .int .u32 a, .int .u32 c, .int .u32 fl] w fun e w' => e = .returned (.tuple #[.int .u32 ((shR 4 (8 * s.toNat) (a % 2 ^ (8 * s.toNat)) (c % 32) (fl % 2) : Nat) : Int), .int .u32 ((shF 4 (8 * s.toNat) (a % 2 ^ (8 * s.toNat)) (c % 32) fl : Nat) : Int), .int .i64 0]) ∧ Below w.heap.size w w' := by
  obtain ⟨B, hsb, eB⟩ := sizes s hs
  rw [← eB]
  have hB : B = 8 ∨ B = 16 ∨ B = 32 := by omega
  have V : ∀ w, Calls Try.prog 16 #[.int .u64 B, .int .u64 (a : Int)] w fun e w' => e = .returned (.int .u64 ((a % 2 ^ B.toNat : Nat) : Int)) ∧ w = w' := fun w => shvalue_ok B a (by omega) (by omega) (by omega) w
  have hx : a % 2 ^ B.toNat < 2 ^ B.toNat := Nat.mod_lt _ (Nat.two_pow_pos _)
  have e3 := low31 c hc
  have e2 := low1 fl hf
  have hk : c % 32 < 32 := Nat.mod_lt _ (by decide)
  generalize a % 2 ^ B.toNat = x at *
  generalize c % 32 = k at *
  have CL := fun w => shl_ok B x k (fl % 2) hB hx hk w
  have hr := shR_lt 4 B.toNat x k (fl % 2) hx (by omega)
  have eF : shF 4 B.toNat x k fl = byF (shR 4 B.toNat x k (fl % 2)) B.toNat (setF (setF (setF fl 1 (shC 4 B.toNat x k (fl % 2))) 2048 (shO 4 B.toNat x k (fl % 2))) 16 false) := by
    rw [set_turn]
    rfl
  rw [eF]
  clear eF
  have F2 := fun p (hp : p < 18446744073709551616) w => flag_ok 1 (by decide) p hp w
  have F3 := fun p (hp : p < 18446744073709551616) w => flag_ok 2048 (by decide) p hp w
  simp only [Int.reduceToNat] at F2 F3
  unfold Wk at CL
  generalize hC : shC 4 B.toNat x k (fl % 2) = C at *
  generalize hO : shO 4 B.toNat x k (fl % 2) = O at *
  clear hC hO
  have f2 := flags2_int fl C O hf
  have hg : setF (setF fl 1 C) 2048 O < 4294967296 := lt2048 _ (lt1 _ hf)
  have f3 := clr16_int _ hg
  have hg3 := lt16 false hg
  generalize setF (setF (setF fl 1 C) 2048 O) 16 false = g3 at *
  generalize setF (setF fl 1 C) 2048 O = g2 at *
  generalize shR 4 B.toNat x k (fl % 2) = r at *
  have hrl : r < 4294967296 := Nat.lt_of_lt_of_le hr (Nat.pow_le_pow_right (n := 2) (j := 32) (by decide) (by omega))
  have AF : ∀ w, Calls Try.prog 19 #[.int .i64 s, .int .u32 r, .int .u32 g3] w fun e w' => e = .returned (.tuple #[.int .u32 ((byF r B.toNat g3 : Nat) : Int), .int .i64 0]) ∧ w = w' := by
    intro w
    have h := flags_ok s hs r g3 hrl hg3 w
    rw [← eB, Nat.mod_eq_of_lt hr] at h
    exact h
  generalize byF r B.toNat g3 = rf at *
  have AF' := hide AF
  have f3' := hide f3
  clear AF f3
  have hcN : fl % 2 < 2 := Nat.mod_lt _ (by decide)
  generalize fl % 2 = cN at *
  have V' := hide V
  have CL' := hide CL
  have F2' := hide F2
  have F3' := hide F3
  have f2' := hide f2
  have I' := idx_of idx6
  clear V CL F2 F3 f2 hc hf eB hs hB hg hg3 hrl
  rcases hsb with ⟨rfl, rfl⟩ | ⟨rfl, rfl⟩ | ⟨rfl, rfl⟩
  all_goals
    simp only [Int.reduceToNat, Nat.reducePow] at hr hx
    go_enter Try.func11, Try.ntmps11
    go_wp2_with fail
    refine (V'.out _).mono ?_
    rintro e w' ⟨rfl, rfl⟩
    go_wp2_with fail
    refine (works_ok _).mono ?_
    rintro e w1 ⟨rfl, hb⟩
    generalize tab = tb at *
    go_wp2_with fail
    rw [I'.out]
    go_wp2_with fail
    refine (CL'.out _).mono ?_
    rintro e w' ⟨⟨p, q, rfl, hp, hq, hC, hO⟩, rfl⟩
    go_wp2_with fail
    refine (F2'.out p hp _).mono ?_
    rintro e w' ⟨rfl, rfl⟩
    go_wp2_with fail
    refine (F3'.out q hq _).mono ?_
    rintro e w' ⟨rfl, rfl⟩
    have f2 := f2'.out
    have f3 := f3'.out
    go_wp2_with fail
    refine (AF'.out _).mono ?_
    rintro e w' ⟨rfl, rfl⟩
    go_wp2
    go_ret3
    exact ⟨ret_iii rfl rfl rfl, hb⟩

theorem idx7 : ∀ w, (Instr.index 40 (.agg tab) (.int .i64 7)).run Try.prog w = .ok (.func (.func 35) #[] #[]) w := by
  intro w
  kernel_rfl
set_option maxRecDepth 20000 in
set_option maxHeartbeats 2000000 in
theorem shdo7_ok (s : Int) (hs : s = 1 ∨ s = 2 ∨ s = 4) (a c fl : Nat) (ha : a < 4294967296) (hc : c < 4294967296) (hf : fl < 4294967296) (hk0 : 0 < c % 32) (w : World) :
    Calls Try.prog 11 #[.int .i64 7, .int .i64 s, .int .u32 a, .int .u32 c, .int .u32 fl] w fun e w' => e = .returned (.tuple #[.int .u32 ((shR 7 (8 * s.toNat) (a % 2 ^ (8 * s.toNat)) (c % 32) (fl % 2) : Nat) : Int), .int .u32 ((shF 7 (8 * s.toNat) (a % 2 ^ (8 * s.toNat)) (c % 32) fl : Nat) : Int), .int .i64 0]) ∧ Below w.heap.size w w' := by
  obtain ⟨B, hsb, eB⟩ := sizes s hs
  rw [← eB]
  have hB : B = 8 ∨ B = 16 ∨ B = 32 := by omega
  have V : ∀ w, Calls Try.prog 16 #[.int .u64 B, .int .u64 (a : Int)] w fun e w' => e = .returned (.int .u64 ((a % 2 ^ B.toNat : Nat) : Int)) ∧ w = w' := fun w => shvalue_ok B a (by omega) (by omega) (by omega) w
  have hx : a % 2 ^ B.toNat < 2 ^ B.toNat := Nat.mod_lt _ (Nat.two_pow_pos _)
  have e3 := low31 c hc
  have e2 := low1 fl hf
  have hk : c % 32 < 32 := Nat.mod_lt _ (by decide)
  generalize a % 2 ^ B.toNat = x at *
  generalize c % 32 = k at *
  have CL := fun w => sar_ok B x k (fl % 2) hB hx hk hk0 w
  have hr := shR_lt 7 B.toNat x k (fl % 2) hx (by omega)
  have eF : shF 7 B.toNat x k fl = byF (shR 7 B.toNat x k (fl % 2)) B.toNat (setF (setF (setF fl 1 (shC 7 B.toNat x k (fl % 2))) 2048 (shO 7 B.toNat x k (fl % 2))) 16 false) := by
    rw [set_turn]
    rfl
  rw [eF]
  clear eF
  have F2 := fun p (hp : p < 18446744073709551616) w => flag_ok 1 (by decide) p hp w
  have F3 := fun p (hp : p < 18446744073709551616) w => flag_ok 2048 (by decide) p hp w
  simp only [Int.reduceToNat] at F2 F3
  unfold Wk at CL
  generalize hC : shC 7 B.toNat x k (fl % 2) = C at *
  generalize hO : shO 7 B.toNat x k (fl % 2) = O at *
  clear hC hO
  have f2 := flags2_int fl C O hf
  have hg : setF (setF fl 1 C) 2048 O < 4294967296 := lt2048 _ (lt1 _ hf)
  have f3 := clr16_int _ hg
  have hg3 := lt16 false hg
  generalize setF (setF (setF fl 1 C) 2048 O) 16 false = g3 at *
  generalize setF (setF fl 1 C) 2048 O = g2 at *
  generalize shR 7 B.toNat x k (fl % 2) = r at *
  have hrl : r < 4294967296 := Nat.lt_of_lt_of_le hr (Nat.pow_le_pow_right (n := 2) (j := 32) (by decide) (by omega))
  have AF : ∀ w, Calls Try.prog 19 #[.int .i64 s, .int .u32 r, .int .u32 g3] w fun e w' => e = .returned (.tuple #[.int .u32 ((byF r B.toNat g3 : Nat) : Int), .int .i64 0]) ∧ w = w' := by
    intro w
    have h := flags_ok s hs r g3 hrl hg3 w
    rw [← eB, Nat.mod_eq_of_lt hr] at h
    exact h
  generalize byF r B.toNat g3 = rf at *
  have AF' := hide AF
  have f3' := hide f3
  clear AF f3
  have hcN : fl % 2 < 2 := Nat.mod_lt _ (by decide)
  generalize fl % 2 = cN at *
  have V' := hide V
  have CL' := hide CL
  have F2' := hide F2
  have F3' := hide F3
  have f2' := hide f2
  have I' := idx_of idx7
  clear V CL F2 F3 f2 hc hf eB hs hB hg hg3 hrl
  rcases hsb with ⟨rfl, rfl⟩ | ⟨rfl, rfl⟩ | ⟨rfl, rfl⟩
  all_goals
    simp only [Int.reduceToNat, Nat.reducePow] at hr hx
    go_enter Try.func11, Try.ntmps11
    go_wp2_with fail
    refine (V'.out _).mono ?_
    rintro e w' ⟨rfl, rfl⟩
    go_wp2_with fail
    refine (works_ok _).mono ?_
    rintro e w1 ⟨rfl, hb⟩
    generalize tab = tb at *
    go_wp2_with fail
    rw [I'.out]
    go_wp2_with fail
    refine (CL'.out _).mono ?_
    rintro e w' ⟨⟨p, q, rfl, hp, hq, hC, hO⟩, rfl⟩
    go_wp2_with fail
    refine (F2'.out p hp _).mono ?_
    rintro e w' ⟨rfl, rfl⟩
    go_wp2_with fail
    refine (F3'.out q hq _).mono ?_
    rintro e w' ⟨rfl, rfl⟩
    have f2 := f2'.out
    have f3 := f3'.out
    go_wp2_with fail
    refine (AF'.out _).mono ?_
    rintro e w' ⟨rfl, rfl⟩
    go_wp2
    go_ret3
    exact ⟨ret_iii rfl rfl rfl, hb⟩
end Go.Proofs.Ytlchhlfnndeicaa
