/- The program's Do and Double of layer 2, whatever their arguments; and the calls at the head of the laws of layer 2. -/
import Derived.Test.YtlchhlfnndeicaaShDo
import Derived.Test.YtlchhlfnndeicaaShDbl2
import Derived.Test.YtlchhlfnndeicaaShDbl4
import Derived.Test.YtlchhlfnndeicaaShSpec2
namespace Go.Proofs.Ytlchhlfnndeicaa
open Go.RowKit Pl
set_option linter.unusedVariables false

theorem sh_ok (op s : Int) (ho : 0 ≤ op ∧ op ≤ 7) (hs : s = 1 ∨ s = 2 ∨ s = 4) (a c fl : Nat) (ha : a < 4294967296) (hc : c < 4294967296) (hf : fl < 4294967296) (w : World) :
    Calls Try.prog 11 #[.int .i64 op, .int .i64 s, .int .u32 a, .int .u32 c, .int .u32 fl] w fun e w' => e = .returned (.tuple #[.int .u32 ((shDoR op.toNat (8 * s.toNat) (a % 2 ^ (8 * s.toNat)) (c % 32) fl : Nat) : Int), .int .u32 ((shDoF op.toNat (8 * s.toNat) (a % 2 ^ (8 * s.toNat)) (c % 32) fl : Nat) : Int), .int .i64 0]) ∧ Below w.heap.size w w' := by
  unfold shDoR shDoF
  rcases Nat.eq_zero_or_pos (c % 32) with hk | hk
  · rw [if_pos hk, if_pos hk]
    exact shdo_zero op s ho hs a c fl ha hc hk w
  · rw [if_neg (by omega), if_neg (by omega)]
    rcases (by omega : op = 0 ∨ op = 1 ∨ op = 2 ∨ op = 3 ∨ op = 4 ∨ op = 5 ∨ op = 6 ∨ op = 7) with rfl | rfl | rfl | rfl | rfl | rfl | rfl | rfl
    · exact shdo0_ok s hs a c fl ha hc hf hk w
    · exact shdo1_ok s hs a c fl ha hc hf hk w
    · exact shdo2_ok s hs a c fl ha hc hf hk w
    · exact shdo3_ok s hs a c fl ha hc hf hk w
    · exact shdo4_ok s hs a c fl ha hc hf hk w
    · exact shdo5_ok s hs a c fl ha hc hf hk w
    · exact shdo6_ok s hs a c fl ha hc hf hk w
    · exact shdo7_ok s hs a c fl ha hc hf hk w

set_option maxRecDepth 20000 in
theorem sh_size (op s : Int) (h1 : ¬ s = 1) (h2 : ¬ s = 2) (h4 : ¬ s = 4) (a c fl : Int) (w : World) :
    Calls Try.prog 11 #[.int .i64 op, .int .i64 s, .int .u32 a, .int .u32 c, .int .u32 fl] w fun e w' => e = .returned (.tuple #[.int .u32 0, .int .u32 0, .int .i64 2]) ∧ Below w.heap.size w w' := by
  have k1 : (s != 1) = true := by simpa using h1
  have k2 : (s != 2) = true := by simpa using h2
  have k4 : (s != 4) = true := by simpa using h4
  clear h1 h2 h4
  go_enter Try.func11, Try.ntmps11
  go_wp2
  go_ret3
  exact ⟨rfl, Below.refl _ _⟩
set_option maxRecDepth 20000 in
set_option maxHeartbeats 1000000 in
theorem sh_op (op s : Int) (hs : s = 1 ∨ s = 2 ∨ s = 4) (ho : op < 0 ∨ 7 < op) (a c fl : Int) (w : World) :
    Calls Try.prog 11 #[.int .i64 op, .int .i64 s, .int .u32 a, .int .u32 c, .int .u32 fl] w fun e w' => e = .returned (.tuple #[.int .u32 0, .int .u32 0, .int .i64 3]) ∧ Below w.heap.size w w' := by
  rcases hs with rfl | rfl | rfl
  all_goals
    by_cases ho0 : op < 0
    all_goals
      first
        | (have ho3 : 7 < op := by omega)
        | skip
      clear ho
      go_enter Try.func11, Try.ntmps11
      go_wp2
      go_ret3
      exact ⟨rfl, Below.refl _ _⟩
set_option maxRecDepth 20000 in
theorem db_size (to : Bool) (s : Int) (h2 : ¬ s = 2) (h4 : ¬ s = 4) (a b c fl : Int) (w : World) :
    Calls Try.prog 13 #[.bool to, .int .i64 s, .int .u32 a, .int .u32 b, .int .u32 c, .int .u32 fl] w fun e w' => e = .returned (.tuple #[.int .u32 0, .int .u32 0, .int .i64 2]) ∧ Below w.heap.size w w' := by
  have k2 : (s != 2) = true := by simpa using h2
  have k4 : (s != 4) = true := by simpa using h4
  clear h2 h4
  go_enter Try.func13, Try.ntmps13
  go_wp2
  go_ret3
  exact ⟨rfl, (Below.refl _ _).alloc (Nat.le_refl _) _⟩

set_option maxRecDepth 20000 in
set_option maxHeartbeats 4000000 in
theorem db_zero (to : Bool) (s : Int) (hs : s = 2 ∨ s = 4) (a b c fl : Nat) (ha : a < 4294967296) (hb : b < 4294967296) (hc : c < 4294967296) (hk : c % 32 = 0) (w : World) :
    Calls Try.prog 13 #[.bool to, .int .i64 s, .int .u32 a, .int .u32 b, .int .u32 c, .int .u32 fl] w fun e w' => e = .returned (.tuple #[.int .u32 ((a % 2 ^ (8 * s.toNat) : Nat) : Int), .int .u32 fl, .int .i64 0]) ∧ Below w.heap.size w w' := by
  have e3 := low31 c hc
  rw [hk] at e3
  have wa : IntKind.u64.wrap (a : Int) = (a : Int) := by
    show (a : Int) % 18446744073709551616 = _
    omega
  have wb : IntKind.u64.wrap (b : Int) = (b : Int) := by
    show (b : Int) % 18446744073709551616 = _
    omega
  obtain ⟨B, hsb, eB⟩ : ∃ B : Int, (s = 2 ∧ B = 16 ∨ s = 4 ∧ B = 32) ∧ B.toNat = 8 * s.toNat := by
    rcases hs with rfl | rfl
    · exact ⟨16, by decide, by decide⟩
    · exact ⟨32, by decide, by decide⟩
  rw [← eB]
  have V1 : ∀ w, Calls Try.prog 16 #[.int .u64 B, .int .u64 (a : Int)] w fun e w' => e = .returned (.int .u64 ((a % 2 ^ B.toNat : Nat) : Int)) ∧ w = w' := fun w => shvalue_ok B a (by omega) (by omega) (by omega) w
  have V2 : ∀ w, Calls Try.prog 16 #[.int .u64 B, .int .u64 (b : Int)] w fun e w' => e = .returned (.int .u64 ((b % 2 ^ B.toNat : Nat) : Int)) ∧ w = w' := fun w => shvalue_ok B b (by omega) (by omega) (by omega) w
  have hx : a % 2 ^ B.toNat < 4294967296 := Nat.lt_of_le_of_lt (Nat.mod_le _ _) ha
  generalize a % 2 ^ B.toNat = x at *
  generalize b % 2 ^ B.toNat = y at *
  have W1 := hide V1
  have W2 := hide V2
  clear V1 V2 eB hs hc hk
  rcases hsb with ⟨rfl, rfl⟩ | ⟨rfl, rfl⟩
  · go_enter Try.func13, Try.ntmps13
    go_wp2_with fail
    go_cut [16, 17] from 33 (fun s16 s17 wx => ∃ p q : Nat, s16 = .pointer (some ⟨p, 0, none⟩) ∧ s17 = .pointer (some ⟨q, 0, none⟩) ∧ Mem w.heap.size 16 x y p q to wx ∧ Below w.heap.size w wx)
    case first =>
      go_region_held3 (fun w' => w'.cell? ⟨w.heap.size + 1, 0, none⟩ = some (.int .u64 16)) (go_keep)
        (first | (go_at_call 16; with_reducible refine (W1.out _).mono ?_; rintro e w' ⟨rfl, rfl⟩) | (go_at_call 16; with_reducible refine (W2.out _).mono ?_; rintro e w' ⟨rfl, rfl⟩))
      all_goals
        go_wp2_with fail
        go_meet
        case rel =>
          refine ⟨_, _, rfl, rfl, ⟨⟨by simp <;> omega, by simp <;> omega, by simp <;> omega, by simp <;> omega⟩, ?_, ?_, ?_, ?_⟩, ?_⟩
          · simp; exact (cell4 _ _ _ _ _ _ _ _ _).1
          · simp; exact (cell4 _ _ _ _ _ _ _ _ _).2.1
          · simp; first | with_reducible exact (cell4 _ _ _ _ _ _ _ _ _).2.2.1 | exact (cell4 _ _ _ _ _ _ _ _ _).2.2.2
          · simp; first | with_reducible exact (cell4 _ _ _ _ _ _ _ _ _).2.2.2 | exact (cell4 _ _ _ _ _ _ _ _ _).2.2.1
          repeat (first | exact Below.refl _ _ | apply Below.drew | refine Below.alloc ?_ (by simp <;> omega) _)
    case rest =>
      obtain ⟨p, q, rfl, rfl, hm, hbl⟩ := hcut
      obtain ⟨⟨g1, g2, g3, g4⟩, c1, c2, c3, c4⟩ := hm
      go_wp2
      go_ret3
      exact ⟨ret_iii rfl rfl rfl, hbl⟩
  · go_enter Try.func13, Try.ntmps13
    go_wp2_with fail
    go_cut [16, 17] from 33 (fun s16 s17 wx => ∃ p q : Nat, s16 = .pointer (some ⟨p, 0, none⟩) ∧ s17 = .pointer (some ⟨q, 0, none⟩) ∧ Mem w.heap.size 32 x y p q to wx ∧ Below w.heap.size w wx)
    case first =>
      go_region_held3 (fun w' => w'.cell? ⟨w.heap.size + 1, 0, none⟩ = some (.int .u64 32)) (go_keep)
        (first | (go_at_call 16; with_reducible refine (W1.out _).mono ?_; rintro e w' ⟨rfl, rfl⟩) | (go_at_call 16; with_reducible refine (W2.out _).mono ?_; rintro e w' ⟨rfl, rfl⟩))
      all_goals
        go_wp2_with fail
        go_meet
        case rel =>
          refine ⟨_, _, rfl, rfl, ⟨⟨by simp <;> omega, by simp <;> omega, by simp <;> omega, by simp <;> omega⟩, ?_, ?_, ?_, ?_⟩, ?_⟩
          · simp; exact (cell4 _ _ _ _ _ _ _ _ _).1
          · simp; exact (cell4 _ _ _ _ _ _ _ _ _).2.1
          · simp; first | with_reducible exact (cell4 _ _ _ _ _ _ _ _ _).2.2.1 | exact (cell4 _ _ _ _ _ _ _ _ _).2.2.2
          · simp; first | with_reducible exact (cell4 _ _ _ _ _ _ _ _ _).2.2.2 | exact (cell4 _ _ _ _ _ _ _ _ _).2.2.1
          repeat (first | exact Below.refl _ _ | apply Below.drew | refine Below.alloc ?_ (by simp <;> omega) _)
    case rest =>
      obtain ⟨p, q, rfl, rfl, hm, hbl⟩ := hcut
      obtain ⟨⟨g1, g2, g3, g4⟩, c1, c2, c3, c4⟩ := hm
      go_wp2
      go_ret3
      exact ⟨ret_iii rfl rfl rfl, hbl⟩

theorem db_ok (to : Bool) (s : Int) (hs : s = 2 ∨ s = 4) (a b c fl : Nat) (ha : a < 4294967296) (hb : b < 4294967296) (hc : c < 4294967296) (hf : fl < 4294967296) (w : World) :
    Calls Try.prog 13 #[.bool to, .int .i64 s, .int .u32 a, .int .u32 b, .int .u32 c, .int .u32 fl] w fun e w' => e = .returned (.tuple #[.int .u32 ((dDoR to (8 * s.toNat) (a % 2 ^ (8 * s.toNat)) (b % 2 ^ (8 * s.toNat)) (c % 32) : Nat) : Int), .int .u32 ((dDoF to (8 * s.toNat) (a % 2 ^ (8 * s.toNat)) (b % 2 ^ (8 * s.toNat)) (c % 32) fl : Nat) : Int), .int .i64 0]) ∧ Below w.heap.size w w' := by
  unfold dDoR dDoF
  rcases Nat.eq_zero_or_pos (c % 32) with hk | hk
  · rw [if_pos hk, if_pos hk]
    exact db_zero to s hs a b c fl ha hb hc hk w
  · rw [if_neg (by omega), if_neg (by omega)]
    rcases hs with rfl | rfl
    · rw [show 2 ^ (8 * Int.toNat 2) = 65536 by decide, show 8 * Int.toNat 2 = 16 by decide]
      cases to
      · exact dbl2_false a b c fl ha hb hc hf hk w
      · exact dbl2_true a b c fl ha hb hc hf hk w
    · rw [show 2 ^ (8 * Int.toNat 4) = 4294967296 by decide, show 8 * Int.toNat 4 = 32 by decide]
      cases to
      · exact dbl4_false a b c fl ha hb hc hf hk w
      · exact dbl4_true a b c fl ha hb hc hf hk w

theorem awake_ok (w : World) : Calls Try.prog 10 #[] w fun e w' => e = .returned (.bool true) ∧ Below w.heap.size w w' := by
  have c1 : ∀ w, Calls Try.prog 11 #[.int .i64 0, .int .i64 1, .int .u32 129, .int .u32 1, .int .u32 0] w fun e w' => e = .returned (.tuple #[.int .u32 3, .int .u32 2049, .int .i64 0]) ∧ Below w.heap.size w w' := by
    intro w
    have h := shdo0_ok 1 (.inl rfl) 129 1 0 (by decide) (by decide) (by decide) (by decide) w
    have e1 : shR 0 (8 * Int.toNat 1) (129 % 2 ^ (8 * Int.toNat 1)) (1 % 32) (0 % 2) = 3 := by decide
    have e2 : shF 0 (8 * Int.toNat 1) (129 % 2 ^ (8 * Int.toNat 1)) (1 % 32) 0 = 2049 := by decide
    rw [e1, e2] at h
    exact h
  have c2 : ∀ w, Calls Try.prog 11 #[.int .i64 7, .int .i64 2, .int .u32 32768, .int .u32 20, .int .u32 0] w fun e w' => e = .returned (.tuple #[.int .u32 65535, .int .u32 133, .int .i64 0]) ∧ Below w.heap.size w w' := by
    intro w
    have h := shdo7_ok 2 (.inr (.inl rfl)) 32768 20 0 (by decide) (by decide) (by decide) (by decide) w
    have e1 : shR 7 (8 * Int.toNat 2) (32768 % 2 ^ (8 * Int.toNat 2)) (20 % 32) (0 % 2) = 65535 := by decide
    have e2 : shF 7 (8 * Int.toNat 2) (32768 % 2 ^ (8 * Int.toNat 2)) (20 % 32) 0 = 133 := by decide
    rw [e1, e2] at h
    exact h
  have c3 : ∀ w, Calls Try.prog 13 #[.bool true, .int .i64 2, .int .u32 4660, .int .u32 43981, .int .u32 4, .int .u32 0] w fun e w' => e = .returned (.tuple #[.int .u32 9034, .int .u32 1, .int .i64 0]) ∧ Below w.heap.size w w' := by
    intro w
    have h := dbl2_true 4660 43981 4 0 (by decide) (by decide) (by decide) (by decide) (by decide) w
    have e1 : dblR true 16 (4660 % 65536) (43981 % 65536) (4 % 32) = 9034 := by decide
    have e2 : dblF true 16 (4660 % 65536) (43981 % 65536) (4 % 32) 0 = 1 := by decide
    rw [e1, e2] at h
    exact h
  have C1 := hide c1
  have C2 := hide c2
  have C3 := hide c3
  clear c1 c2 c3
  go_enter Try.func10, Try.ntmps10
  go_wp2_with fail
  refine (C1.out _).mono ?_
  rintro e w1 ⟨rfl, hb1⟩
  go_wp2_with fail
  refine (C2.out _).mono ?_
  rintro e w2 ⟨rfl, hb2⟩
  go_wp2_with fail
  refine (C3.out _).mono ?_
  rintro e w3 ⟨rfl, hb3⟩
  go_wp2
  go_ret
  exact ⟨rfl, (hb1.trans (hb2.mono hb1.size)).trans (hb3.mono (hb1.trans (hb2.mono hb1.size)).size)⟩
end Go.Proofs.Ytlchhlfnndeicaa
