/- The document's Do of layer 2, whatever the operation. -/
import Derived.Test.YtlchhlfnndeicaaShMov2
namespace Go.Proofs.Ytlchhlfnndeicaa
open Go.RowKit Pl
set_option linter.unusedVariables false


theorem rotate_ok (op b : Int) (ho : 0 ≤ op ∧ op < 4) (x k fl : Nat) (hb : b = 8 ∨ b = 16 ∨ b = 32) (hx : x < 2 ^ b.toNat) (hk : k < 32) (hf : fl < 4294967296) (w : World) :
    Calls Try.prog 22 #[.int .i64 op, .int .u64 x, .int .i64 b, .int .i64 k, .int .u32 fl] w fun e w' => e = .returned (.tuple #[.int .u64 ((shR op.toNat b.toNat x k (fl % 2) : Nat) : Int), .int .u32 ((shF op.toNat b.toNat x k fl : Nat) : Int)]) ∧ w = w' := by
  rcases (by omega : op = 0 ∨ op = 1 ∨ op = 2 ∨ op = 3) with rfl | rfl | rfl | rfl
  · exact rotate0_ok b x k fl hb hx hk hf w
  · exact rotate1_ok b x k fl hb hx hk hf w
  · exact rotate2_ok b x k fl hb hx hk hf w
  · exact rotate3_ok b x k fl hb hx hk hf w
theorem moved_ok (op b : Int) (ho : 4 ≤ op ∧ op ≤ 7) (x k fl : Nat) (hb : b = 8 ∨ b = 16 ∨ b = 32) (hx : x < 2 ^ b.toNat) (hk : k < 32) (hk0 : 0 < k) (hf : fl < 4294967296) (w : World) :
    Calls Try.prog 23 #[.int .i64 op, .int .u64 x, .int .i64 b, .int .i64 k, .int .u32 fl] w fun e w' => e = .returned (.tuple #[.int .u64 ((shR op.toNat b.toNat x k (fl % 2) : Nat) : Int), .int .u32 ((shF op.toNat b.toNat x k fl : Nat) : Int)]) ∧ w = w' := by
  rcases (by omega : op = 4 ∨ op = 5 ∨ op = 6 ∨ op = 7) with rfl | rfl | rfl | rfl
  · exact moved4_ok 4 b x k fl (by decide) hb hx hk hf w
  · exact moved5_ok b x k fl hb hk hk0 hf w
  · exact moved4_ok 6 b x k fl (by decide) hb hx hk hf w
  · exact moved7_ok b x k fl hb hx hk hk0 hf w

set_option maxRecDepth 20000 in
set_option maxHeartbeats 2000000 in
theorem refsh_ok (op s : Int) (ho : 0 ≤ op ∧ op ≤ 7) (hs : s = 1 ∨ s = 2 ∨ s = 4) (a c fl : Nat) (ha : a < 4294967296) (hc : c < 4294967296) (hf : fl < 4294967296) (w : World) :
    Calls Try.prog 12 #[.int .i64 op, .int .i64 s, .int .u32 a, .int .u32 c, .int .u32 fl] w fun e w' => e = .returned (.tuple #[.int .u32 ((shDoR op.toNat (8 * s.toNat) (a % 2 ^ (8 * s.toNat)) (c % 32) fl : Nat) : Int), .int .u32 ((shDoF op.toNat (8 * s.toNat) (a % 2 ^ (8 * s.toNat)) (c % 32) fl : Nat) : Int), .int .i64 0]) ∧ w = w' := by
  obtain ⟨B, hsb, eB⟩ : ∃ B : Int, (s = 1 ∧ B = 8 ∨ s = 2 ∧ B = 16 ∨ s = 4 ∧ B = 32) ∧ B.toNat = 8 * s.toNat := by
    rcases hs with rfl | rfl | rfl
    · exact ⟨8, by decide, by decide⟩
    · exact ⟨16, by decide, by decide⟩
    · exact ⟨32, by decide, by decide⟩
  rw [← eB]
  have hB : B = 8 ∨ B = 16 ∨ B = 32 := by omega
  have V : ∀ w, Calls Try.prog 21 #[.int .u64 (a : Int), .int .i64 B] w fun e w' => e = .returned (.int .u64 ((a % 2 ^ B.toNat : Nat) : Int)) ∧ w = w' := fun w => cut_ok a B (by omega) hB w
  have hx : a % 2 ^ B.toNat < 2 ^ B.toNat := Nat.mod_lt _ (Nat.two_pow_pos _)
  have hk : c % 32 < 32 := Nat.mod_lt _ (by decide)
  have e3 : (c : Int) % 32 = ((c % 32 : Nat) : Int) := by omega
  generalize a % 2 ^ B.toNat = x at *
  generalize c % 32 = k at *
  have hR := shDoR_lt op.toNat B.toNat x k fl hx (by omega)
  have R0 : op < 4 → 0 < k → ∀ w, Calls Try.prog 22 #[.int .i64 op, .int .u64 x, .int .i64 B, .int .i64 k, .int .u32 fl] w fun e w' => e = .returned (.tuple #[.int .u64 ((shDoR op.toNat B.toNat x k fl : Nat) : Int), .int .u32 ((shDoF op.toNat B.toNat x k fl : Nat) : Int)]) ∧ w = w' := by
    intro h4 h0 w
    unfold shDoR shDoF
    rw [if_neg (by omega), if_neg (by omega)]
    exact rotate_ok op B ⟨ho.1, h4⟩ x k fl hB hx hk hf w
  have R1 : ¬ op < 4 → 0 < k → ∀ w, Calls Try.prog 23 #[.int .i64 op, .int .u64 x, .int .i64 B, .int .i64 k, .int .u32 fl] w fun e w' => e = .returned (.tuple #[.int .u64 ((shDoR op.toNat B.toNat x k fl : Nat) : Int), .int .u32 ((shDoF op.toNat B.toNat x k fl : Nat) : Int)]) ∧ w = w' := by
    intro h4 h0 w
    unfold shDoR shDoF
    rw [if_neg (by omega), if_neg (by omega)]
    exact moved_ok op B ⟨by omega, ho.2⟩ x k fl hB hx hk h0 hf w
  have z1 : k = 0 → shDoR op.toNat B.toNat x k fl = x := fun h => by unfold shDoR; rw [if_pos h]
  have z2 : k = 0 → shDoF op.toNat B.toNat x k fl = fl := fun h => by unfold shDoF; rw [if_pos h]
  have hFl := shDoF_lt op.toNat B.toNat x k fl hf
  generalize shDoR op.toNat B.toNat x k fl = rr at *
  generalize shDoF op.toNat B.toNat x k fl = rf at *
  have V' := hide V
  have R0' := hide R0
  have R1' := hide R1
  have Z1 := hide z1
  have Z2 := hide z2
  clear V R0 R1 hB eB hs hc z1 z2 hFl
  obtain ⟨ho0, ho7⟩ := ho
  by_cases hk0 : k = 0
  · have z1 := Z1.out hk0
    have z2 := Z2.out hk0
    subst hk0 z1 z2
    clear R0' R1' Z1 Z2
    rcases hsb with ⟨rfl, rfl⟩ | ⟨rfl, rfl⟩ | ⟨rfl, rfl⟩
    all_goals
      simp only [Int.reduceToNat, Nat.reducePow] at hx
      go_enter Try.func12, Try.ntmps12
      go_wp2_with (go_at_call 20; go_in)
      refine (V'.out _).mono ?_
      rintro e w' ⟨rfl, rfl⟩
      go_wp2
      go_ret3
      exact ⟨ret_iii rfl rfl rfl, rfl⟩
  · have hk0' : 0 < k := by omega
    clear Z1 Z2
    by_cases h4 : op < 4
    · have R0 := hide (R0'.out h4 hk0')
      clear R0' R1'
      rcases hsb with ⟨rfl, rfl⟩ | ⟨rfl, rfl⟩ | ⟨rfl, rfl⟩
      all_goals
        simp only [Int.reduceToNat, Nat.reducePow] at hx hR
        go_enter Try.func12, Try.ntmps12
        go_wp2_with (go_at_call 20; go_in)
        refine (V'.out _).mono ?_
        rintro e w' ⟨rfl, rfl⟩
        go_wp2_with fail
        refine (R0.out _).mono ?_
        rintro e w' ⟨rfl, rfl⟩
        go_wp2
        go_ret3
        exact ⟨ret_iii rfl rfl rfl, rfl⟩
    · have R0 := hide (R1'.out h4 hk0')
      clear R0' R1'
      rcases hsb with ⟨rfl, rfl⟩ | ⟨rfl, rfl⟩ | ⟨rfl, rfl⟩
      all_goals
        simp only [Int.reduceToNat, Nat.reducePow] at hx hR
        go_enter Try.func12, Try.ntmps12
        go_wp2_with (go_at_call 20; go_in)
        refine (V'.out _).mono ?_
        rintro e w' ⟨rfl, rfl⟩
        go_wp2_with fail
        refine (R0.out _).mono ?_
        rintro e w' ⟨rfl, rfl⟩
        go_wp2
        go_ret3
        exact ⟨ret_iii rfl rfl rfl, rfl⟩

set_option maxRecDepth 20000 in
theorem refsh_size (op s : Int) (h1 : ¬ s = 1) (h2 : ¬ s = 2) (h4 : ¬ s = 4) (a c fl : Int) (w : World) :
    Calls Try.prog 12 #[.int .i64 op, .int .i64 s, .int .u32 a, .int .u32 c, .int .u32 fl] w fun e w' => e = .returned (.tuple #[.int .u32 0, .int .u32 0, .int .i64 2]) ∧ w = w' := by
  have k1 : (s == 1) = false := by simpa using h1
  have k2 : (s == 2) = false := by simpa using h2
  have k4 : (s == 4) = false := by simpa using h4
  clear h1 h2 h4
  go_enter Try.func12, Try.ntmps12
  go_wp2
  go_ret3
  exact ⟨rfl, rfl⟩
set_option maxRecDepth 20000 in
set_option maxHeartbeats 1000000 in
theorem refsh_op (op s : Int) (hs : s = 1 ∨ s = 2 ∨ s = 4) (ho : op < 0 ∨ 7 < op) (a c fl : Int) (w : World) :
    Calls Try.prog 12 #[.int .i64 op, .int .i64 s, .int .u32 a, .int .u32 c, .int .u32 fl] w fun e w' => e = .returned (.tuple #[.int .u32 0, .int .u32 0, .int .i64 3]) ∧ w = w' := by
  rcases hs with rfl | rfl | rfl
  all_goals
    by_cases ho0 : op < 0
    all_goals
      first
        | (have ho3 : 7 < op := by omega)
        | skip
      clear ho
      go_enter Try.func12, Try.ntmps12
      go_wp2
      go_ret3
      exact ⟨rfl, rfl⟩
end Go.Proofs.Ytlchhlfnndeicaa
