/- The program's Double of size 2. -/
import Derived.Test.YtlchhlfnndeicaaShDblA
import Derived.Deep.RegionHeld3
import Derived.Deep.Cut
namespace Go.Proofs.Ytlchhlfnndeicaa
open Go.RowKit Pl
set_option linter.unusedVariables false

set_option maxRecDepth 20000 in
set_option maxHeartbeats 4000000 in
theorem dbl2_false (a b c fl : Nat) (ha : a < 4294967296) (hb : b < 4294967296) (hc : c < 4294967296) (hf : fl < 4294967296) (hk0 : 0 < c % 32) (w : World) :
    Calls Try.prog 13 #[.bool false, .int .i64 2, .int .u32 a, .int .u32 b, .int .u32 c, .int .u32 fl] w fun e w' => e = .returned (.tuple #[.int .u32 ((dblR false 16 (a % 65536) (b % 65536) (c % 32) : Nat) : Int), .int .u32 ((dblF false 16 (a % 65536) (b % 65536) (c % 32) fl : Nat) : Int), .int .i64 0]) ∧ Below w.heap.size w w' := by
  have V1 : ∀ w, Calls Try.prog 16 #[.int .u64 16, .int .u64 (a : Int)] w fun e w' => e = .returned (.int .u64 ((a % 65536 : Nat) : Int)) ∧ w = w' := fun w => shvalue_ok 16 a (by omega) (by omega) (by omega) w
  have V2 : ∀ w, Calls Try.prog 16 #[.int .u64 16, .int .u64 (b : Int)] w fun e w' => e = .returned (.int .u64 ((b % 65536 : Nat) : Int)) ∧ w = w' := fun w => shvalue_ok 16 b (by omega) (by omega) (by omega) w
  have hx : a % 65536 < 65536 := Nat.mod_lt _ (by decide)
  have hy : b % 65536 < 65536 := Nat.mod_lt _ (by decide)
  have wa : IntKind.u64.wrap (a : Int) = (a : Int) := by
    show (a : Int) % 18446744073709551616 = _
    omega
  have wb : IntKind.u64.wrap (b : Int) = (b : Int) := by
    show (b : Int) % 18446744073709551616 = _
    omega
  have e3 := low31 c hc
  have hk : c % 32 < 32 := Nat.mod_lt _ (by decide)
  generalize a % 65536 = x at *
  generalize b % 65536 = y at *
  generalize c % 32 = k at *
  have AT := hide fun p q j hj z hz w' hm => at_mem w.heap.size 16 x y p q false (by decide) (by omega) (by omega) j hj z hz w' hm
  simp only [Int.reduceToNat, Nat.reduceMul] at AT
  have RF : dblR false 16 x y k = ofB (fun i => bit3 false 16 x y (k + i)) 16 := rfl
  have hR := ofB_lt (fun i => bit3 false 16 x y (k + i)) 16
  have hRm := fun m => ofB_lt (fun i => bit3 false 16 x y (k + i)) m
  have hRS : ∀ m, ofB (fun i => bit3 false 16 x y (k + i)) (m + 1) = ofB (fun i => bit3 false 16 x y (k + i)) m + (bit3 false 16 x y (k + m)).toNat * 2 ^ m := fun _ => rfl
  have hR0 : ofB (fun i => bit3 false 16 x y (k + i)) 0 = 0 := rfl
  have eC : dblC false 16 x y k = bit3 false 16 x y (k - 1) := rfl
  have eF : dblF false 16 x y k fl = byF (dblR false 16 x y k) 16 (setF (setF (setF fl 16 false) 1 (dblC false 16 x y k)) 2048 ((dblR false 16 x y k).testBit (16 - 1) != x.testBit (16 - 1))) := rfl
  rw [eF, eC, RF]
  clear eF eC RF
  generalize hT : ofB (fun i => bit3 false 16 x y (k + i)) = T at *
  clear hT
  have eO := xor_top (T 16) x 16 (Nat.lt_of_lt_of_le hR (by decide)) (by omega)
  have F1 := fun w => flag_bit 1 (by decide) (bit3 false 16 x y (k - 1)) w
  simp only [Int.reduceToNat] at F1
  have w2 : IntKind.u64.wrap (IntKind.u64.wrap 32 - (k : Int)) = ((32 - k : Nat) : Int) := wrap_sub 32 k (by decide) (by omega)
  have w3 : IntKind.u64.wrap (IntKind.u64.wrap 48 - (k : Int)) = ((48 - k : Nat) : Int) := wrap_sub 48 k (by decide) (by omega)
  have hO : bits .xor .u64 ((T 16 : Nat) : Int) (x : Int) / 32768 = (((T 16 ^^^ x) / 32768 : Nat) : Int) := xor_div_lt (T 16) x 32768 (Nat.lt_of_lt_of_le hR (by decide)) (by omega)
  have F2 : ∀ w, Calls Try.prog 18 #[.int .u32 2048, .int .u64 (bits .xor .u64 ((T 16 : Nat) : Int) (x : Int) / 32768)] w fun e w' => e = .returned (.int .u32 ((put 2048 ((T 16).testBit (16 - 1) != x.testBit (16 - 1)) : Nat) : Int)) ∧ w = w' := by
    intro w
    have h := flag_ok 2048 (by decide) ((T 16 ^^^ x) / 32768) (Nat.lt_of_le_of_lt (Nat.div_le_self _ _) (Nat.xor_lt_two_pow (n := 64) (Nat.lt_of_lt_of_le hR (by decide)) (by omega))) w
    rw [hO]
    rw [show ((T 16 ^^^ x) / 32768 % 2 == 1) = ((T 16).testBit (16 - 1) != x.testBit (16 - 1)) from eO] at h
    exact h
  clear eO hO
  have hg : setF (setF (setF fl 16 false) 1 (bit3 false 16 x y (k - 1))) 2048 ((T 16).testBit (16 - 1) != x.testBit (16 - 1)) < 4294967296 := lt2048 _ (lt1 _ (lt16 _ hf))
  have f2 := flags2a_int fl (bit3 false 16 x y (k - 1)) ((T 16).testBit (16 - 1) != x.testBit (16 - 1)) hf
  generalize hC : bit3 false 16 x y (k - 1) = C at *
  generalize ((T 16).testBit (16 - 1) != x.testBit (16 - 1)) = O at *
  generalize setF (setF (setF fl 16 false) 1 C) 2048 O = g at *
  have AF : ∀ w, Calls Try.prog 19 #[.int .i64 2, .int .u32 ((T 16 : Nat) : Int), .int .u32 g] w fun e w' => e = .returned (.tuple #[.int .u32 ((byF (T 16) 16 g : Nat) : Int), .int .i64 0]) ∧ w = w' := by
    intro w
    have h := flags_ok 2 (by decide) (T 16) g (Nat.lt_of_lt_of_le hR (by decide)) hg w
    simp only [Int.reduceToNat, Nat.reduceMul] at h
    rw [Nat.mod_eq_of_lt hR] at h
    exact h
  generalize byF (T 16) 16 g = rf at *
  have W1 := hide V1
  have W2 := hide V2
  have F1' := hide F1
  have F2' := hide F2
  have AF' := hide AF
  have HR := hide hR
  have HRm := hide hRm
  have HRS := hide hRS
  have HR0 := hide hR0
  have HC := hide hC
  clear V1 V2 F1 F2 AF hg hc hf hRm hRS hR0 hR hC
  go_enter Try.func13, Try.ntmps13
  go_wp2_with fail
  go_cut [16, 17] from 33 (fun s16 s17 wx => ∃ p q : Nat, s16 = .pointer (some ⟨p, 0, none⟩) ∧ s17 = .pointer (some ⟨q, 0, none⟩) ∧ Mem w.heap.size 16 x y p q false wx ∧ Below w.heap.size w wx)
  case first =>
    go_region_held3 (fun w' => w'.cell? ⟨w.heap.size + 1, 0, none⟩ = some (.int .u64 16)) (go_keep)
      (first | (go_at_call 16; with_reducible refine (W1.out _).mono ?_; rintro e w' ⟨rfl, rfl⟩) | (go_at_call 16; with_reducible refine (W2.out _).mono ?_; rintro e w' ⟨rfl, rfl⟩))
    all_goals
      go_wp2_with fail
      go_meet
      case rel =>
        refine ⟨_, _, rfl, rfl, ⟨⟨by simp <;> omega, by simp <;> omega, by simp <;> omega, by simp <;> omega⟩, ?_, ?_, ?_, ?_⟩, ?_⟩
        · simp; exact (cell4 _ _ _ _ _ _ _ _ _).1
        · simp; exact (cell4 _ _ _ _ _ _ _ _ _).2.1
        · simp; first | with_reducible exact (cell4 _ _ _ _ _ _ _ _ _).2.2.1 | exact (cell4 _ _ _ _ _ _ _ _ _).2.2.2
        · simp; first | with_reducible exact (cell4 _ _ _ _ _ _ _ _ _).2.2.2 | exact (cell4 _ _ _ _ _ _ _ _ _).2.2.1
        repeat (first | exact Below.refl _ _ | apply Below.drew | refine Below.alloc ?_ (by simp <;> omega) _)
  case rest =>
    obtain ⟨p, q, rfl, rfl, hm, hbl⟩ := hcut
    have hm0 := hm
    obtain ⟨⟨g1, g2, g3, g4⟩, c1, c2, c3, c4⟩ := hm0
    clear wa wb W1 W2
    go_wp2_with fail
    refine (AT.out p q (k - 1) (by omega) _ (by omega) _ hm).mono ?_
    rintro e w1 ⟨rfl, hm1, hb1⟩
    replace hbl := hbl.trans (hb1.mono hbl.size)
    clear c1 c2 c3 c4 g1 g2 g3 g4 hm hb1
    have hm0 := hm1
    obtain ⟨⟨g1, g2, g3, g4⟩, c1, c2, c3, c4⟩ := hm0
    rw [HC.out]
    go_wp2_with fail
    go_loopw [20, 23] (fun r i wr => ∃ m : Nat, m ≤ 16 ∧ r = .int .u64 (T m : Nat) ∧ i = .int .u64 m ∧ Mem w.heap.size 16 x y p q false wr ∧ Below w.heap.size w wr) (fun _ i _ => 16 - (intOf i).toNat)
    case atStart => exact ⟨0, Nat.zero_le _, by rw [HR0.out]; rfl, rfl, hm1, hbl⟩
    case round =>
      obtain ⟨m, hm, rfl, rfl, hme, hbw⟩ := hrel
      clear g1 g2 g3 g4 c1 c2 c3 c4 hm1 hbl
      have hm0 := hme
      obtain ⟨⟨g1, g2, g3, g4⟩, c1, c2, c3, c4⟩ := hm0
      by_cases hlt : m < 16
      · go_wp2_with fail
        refine (AT.out p q (k + m) (by omega) _ (by omega) _ hme).mono ?_
        rintro e w2 ⟨rfl, hm2, hb2⟩
        clear c1 c2 c3 c4
        have ho := or_step (T m) m (bit3 false 16 x y (k + m)) (HRm.out m) (by omega)
        rw [← HRS.out] at ho
        go_wp2
        go_roundw
        case rel => exact ⟨m + 1, by omega, rfl, by go_num, hm2, hbw.trans (hb2.mono hbw.size)⟩
        case measure => simp [intOf]; omega
      · obtain rfl : m = 16 := by omega
        have hR := HR.out
        simp only [Nat.reducePow] at hR
        go_wp2_with fail
        go_quiet ((go_at_call 18; first | (with_reducible exact quiet_left (F1'.out _)) | (with_reducible exact quiet_left (F2'.out _))))
        go_wp2_with fail
        refine (AF'.out _).mono ?_
        rintro e w' ⟨rfl, rfl⟩
        go_wp2
        go_ret3
        exact ⟨ret_iii rfl rfl rfl, below_drewN hbw _⟩

set_option maxRecDepth 20000 in
set_option maxHeartbeats 4000000 in
theorem dbl2_true (a b c fl : Nat) (ha : a < 4294967296) (hb : b < 4294967296) (hc : c < 4294967296) (hf : fl < 4294967296) (hk0 : 0 < c % 32) (w : World) :
    Calls Try.prog 13 #[.bool true, .int .i64 2, .int .u32 a, .int .u32 b, .int .u32 c, .int .u32 fl] w fun e w' => e = .returned (.tuple #[.int .u32 ((dblR true 16 (a % 65536) (b % 65536) (c % 32) : Nat) : Int), .int .u32 ((dblF true 16 (a % 65536) (b % 65536) (c % 32) fl : Nat) : Int), .int .i64 0]) ∧ Below w.heap.size w w' := by
  have V1 : ∀ w, Calls Try.prog 16 #[.int .u64 16, .int .u64 (a : Int)] w fun e w' => e = .returned (.int .u64 ((a % 65536 : Nat) : Int)) ∧ w = w' := fun w => shvalue_ok 16 a (by omega) (by omega) (by omega) w
  have V2 : ∀ w, Calls Try.prog 16 #[.int .u64 16, .int .u64 (b : Int)] w fun e w' => e = .returned (.int .u64 ((b % 65536 : Nat) : Int)) ∧ w = w' := fun w => shvalue_ok 16 b (by omega) (by omega) (by omega) w
  have hx : a % 65536 < 65536 := Nat.mod_lt _ (by decide)
  have hy : b % 65536 < 65536 := Nat.mod_lt _ (by decide)
  have wa : IntKind.u64.wrap (a : Int) = (a : Int) := by
    show (a : Int) % 18446744073709551616 = _
    omega
  have wb : IntKind.u64.wrap (b : Int) = (b : Int) := by
    show (b : Int) % 18446744073709551616 = _
    omega
  have e3 := low31 c hc
  have hk : c % 32 < 32 := Nat.mod_lt _ (by decide)
  generalize a % 65536 = x at *
  generalize b % 65536 = y at *
  generalize c % 32 = k at *
  have AT := hide fun p q j hj z hz w' hm => at_mem w.heap.size 16 x y p q true (by decide) (by omega) (by omega) j hj z hz w' hm
  simp only [Int.reduceToNat, Nat.reduceMul] at AT
  have RF : dblR true 16 x y k = ofB (fun i => bit3 true 16 x y ((32 - k) + i)) 16 := rfl
  have hR := ofB_lt (fun i => bit3 true 16 x y ((32 - k) + i)) 16
  have hRm := fun m => ofB_lt (fun i => bit3 true 16 x y ((32 - k) + i)) m
  have hRS : ∀ m, ofB (fun i => bit3 true 16 x y ((32 - k) + i)) (m + 1) = ofB (fun i => bit3 true 16 x y ((32 - k) + i)) m + (bit3 true 16 x y ((32 - k) + m)).toNat * 2 ^ m := fun _ => rfl
  have hR0 : ofB (fun i => bit3 true 16 x y ((32 - k) + i)) 0 = 0 := rfl
  have eC : dblC true 16 x y k = bit3 true 16 x y (48 - k) := rfl
  have eF : dblF true 16 x y k fl = byF (dblR true 16 x y k) 16 (setF (setF (setF fl 16 false) 1 (dblC true 16 x y k)) 2048 ((dblR true 16 x y k).testBit (16 - 1) != x.testBit (16 - 1))) := rfl
  rw [eF, eC, RF]
  clear eF eC RF
  generalize hT : ofB (fun i => bit3 true 16 x y ((32 - k) + i)) = T at *
  clear hT
  have eO := xor_top (T 16) x 16 (Nat.lt_of_lt_of_le hR (by decide)) (by omega)
  have F1 := fun w => flag_bit 1 (by decide) (bit3 true 16 x y (48 - k)) w
  simp only [Int.reduceToNat] at F1
  have w2 : IntKind.u64.wrap (IntKind.u64.wrap 32 - (k : Int)) = ((32 - k : Nat) : Int) := wrap_sub 32 k (by decide) (by omega)
  have w3 : IntKind.u64.wrap (IntKind.u64.wrap 48 - (k : Int)) = ((48 - k : Nat) : Int) := wrap_sub 48 k (by decide) (by omega)
  have hO : bits .xor .u64 ((T 16 : Nat) : Int) (x : Int) / 32768 = (((T 16 ^^^ x) / 32768 : Nat) : Int) := xor_div_lt (T 16) x 32768 (Nat.lt_of_lt_of_le hR (by decide)) (by omega)
  have F2 : ∀ w, Calls Try.prog 18 #[.int .u32 2048, .int .u64 (bits .xor .u64 ((T 16 : Nat) : Int) (x : Int) / 32768)] w fun e w' => e = .returned (.int .u32 ((put 2048 ((T 16).testBit (16 - 1) != x.testBit (16 - 1)) : Nat) : Int)) ∧ w = w' := by
    intro w
    have h := flag_ok 2048 (by decide) ((T 16 ^^^ x) / 32768) (Nat.lt_of_le_of_lt (Nat.div_le_self _ _) (Nat.xor_lt_two_pow (n := 64) (Nat.lt_of_lt_of_le hR (by decide)) (by omega))) w
    rw [hO]
    rw [show ((T 16 ^^^ x) / 32768 % 2 == 1) = ((T 16).testBit (16 - 1) != x.testBit (16 - 1)) from eO] at h
    exact h
  clear eO hO
  have hg : setF (setF (setF fl 16 false) 1 (bit3 true 16 x y (48 - k))) 2048 ((T 16).testBit (16 - 1) != x.testBit (16 - 1)) < 4294967296 := lt2048 _ (lt1 _ (lt16 _ hf))
  have f2 := flags2a_int fl (bit3 true 16 x y (48 - k)) ((T 16).testBit (16 - 1) != x.testBit (16 - 1)) hf
  generalize hC : bit3 true 16 x y (48 - k) = C at *
  generalize ((T 16).testBit (16 - 1) != x.testBit (16 - 1)) = O at *
  generalize setF (setF (setF fl 16 false) 1 C) 2048 O = g at *
  have AF : ∀ w, Calls Try.prog 19 #[.int .i64 2, .int .u32 ((T 16 : Nat) : Int), .int .u32 g] w fun e w' => e = .returned (.tuple #[.int .u32 ((byF (T 16) 16 g : Nat) : Int), .int .i64 0]) ∧ w = w' := by
    intro w
    have h := flags_ok 2 (by decide) (T 16) g (Nat.lt_of_lt_of_le hR (by decide)) hg w
    simp only [Int.reduceToNat, Nat.reduceMul] at h
    rw [Nat.mod_eq_of_lt hR] at h
    exact h
  generalize byF (T 16) 16 g = rf at *
  have W1 := hide V1
  have W2 := hide V2
  have F1' := hide F1
  have F2' := hide F2
  have AF' := hide AF
  have HR := hide hR
  have HRm := hide hRm
  have HRS := hide hRS
  have HR0 := hide hR0
  have HC := hide hC
  clear V1 V2 F1 F2 AF hg hc hf hRm hRS hR0 hR hC
  go_enter Try.func13, Try.ntmps13
  go_wp2_with fail
  go_cut [16, 17] from 33 (fun s16 s17 wx => ∃ p q : Nat, s16 = .pointer (some ⟨p, 0, none⟩) ∧ s17 = .pointer (some ⟨q, 0, none⟩) ∧ Mem w.heap.size 16 x y p q true wx ∧ Below w.heap.size w wx)
  case first =>
    go_region_held3 (fun w' => w'.cell? ⟨w.heap.size + 1, 0, none⟩ = some (.int .u64 16)) (go_keep)
      (first | (go_at_call 16; with_reducible refine (W1.out _).mono ?_; rintro e w' ⟨rfl, rfl⟩) | (go_at_call 16; with_reducible refine (W2.out _).mono ?_; rintro e w' ⟨rfl, rfl⟩))
    all_goals
      go_wp2_with fail
      go_meet
      case rel =>
        refine ⟨_, _, rfl, rfl, ⟨⟨by simp <;> omega, by simp <;> omega, by simp <;> omega, by simp <;> omega⟩, ?_, ?_, ?_, ?_⟩, ?_⟩
        · simp; exact (cell4 _ _ _ _ _ _ _ _ _).1
        · simp; exact (cell4 _ _ _ _ _ _ _ _ _).2.1
        · simp; first | with_reducible exact (cell4 _ _ _ _ _ _ _ _ _).2.2.1 | exact (cell4 _ _ _ _ _ _ _ _ _).2.2.2
        · simp; first | with_reducible exact (cell4 _ _ _ _ _ _ _ _ _).2.2.2 | exact (cell4 _ _ _ _ _ _ _ _ _).2.2.1
        repeat (first | exact Below.refl _ _ | apply Below.drew | refine Below.alloc ?_ (by simp <;> omega) _)
  case rest =>
    obtain ⟨p, q, rfl, rfl, hm, hbl⟩ := hcut
    have hm0 := hm
    obtain ⟨⟨g1, g2, g3, g4⟩, c1, c2, c3, c4⟩ := hm0
    clear wa wb W1 W2
    go_wp2_with fail
    refine (AT.out p q (k - 1) (by omega) _ (by omega) _ hm).mono ?_
    rintro e w1 ⟨rfl, hm1, hb1⟩
    replace hbl := hbl.trans (hb1.mono hbl.size)
    clear c1 c2 c3 c4 g1 g2 g3 g4 hm hb1
    have hm0 := hm1
    obtain ⟨⟨g1, g2, g3, g4⟩, c1, c2, c3, c4⟩ := hm0
    go_wp2_with fail
    go_cut [21, 22] from 57 (fun s21 s22 wx => s21 = .int .u64 (((32 - k) : Nat) : Int) ∧ s22 = .int .u64 ((C.toNat : Nat) : Int) ∧ Mem w.heap.size 16 x y p q true wx ∧ Below w.heap.size w wx)
    case first =>
      have hq : _root_.True := trivial
      go_region_held3 (fun w' => w'.cell? ⟨w.heap.size + 1, 0, none⟩ = some (.int .u64 16)) (go_keep)
        (first | (go_at_call 24; refine (AT.out p q (48 - k) (by omega) _ (by omega) _ ?_).mono ?_; (first | exact hm1 | exact hm1.step (below_drewN (Below.refl _ _) 1)); rintro e w2 ⟨rfl, hm2, hb2⟩; have hc2 := hm2.cb))
      all_goals
        go_wp2_with fail
        go_meet
        case rel => exact ⟨rfl, by rw [HC.out], hm2, hbl.trans ((below_drewN (Below.refl _ _) 1).trans hb2 |>.mono (by simp; omega))⟩
    case rest =>
      obtain ⟨rfl, rfl, hm2, hb2⟩ := hcut
      clear g1 g2 g3 g4 c1 c2 c3 c4 hm1 hbl
      have hm1 := hm2
      have hbl := hb2
      clear hm2 hb2
      obtain ⟨⟨g1, g2, g3, g4⟩, c1, c2, c3, c4⟩ := hm1
      have hm1 : Mem w.heap.size 16 x y p q true wc := ⟨⟨g1, g2, g3, g4⟩, c1, c2, c3, c4⟩
      go_wp2_with fail
      go_loopw [20, 23] (fun r i wr => ∃ m : Nat, m ≤ 16 ∧ r = .int .u64 (T m : Nat) ∧ i = .int .u64 m ∧ Mem w.heap.size 16 x y p q true wr ∧ Below w.heap.size w wr) (fun _ i _ => 16 - (intOf i).toNat)
      case atStart => exact ⟨0, Nat.zero_le _, by rw [HR0.out]; rfl, rfl, hm1, hbl⟩
      case round =>
        obtain ⟨m, hm, rfl, rfl, hme, hbw⟩ := hrel
        clear g1 g2 g3 g4 c1 c2 c3 c4 hm1 hbl
        have hm0 := hme
        obtain ⟨⟨g1, g2, g3, g4⟩, c1, c2, c3, c4⟩ := hm0
        by_cases hlt : m < 16
        · go_wp2_with fail
          refine (AT.out p q ((32 - k) + m) (by omega) _ (by omega) _ hme).mono ?_
          rintro e w2 ⟨rfl, hm2, hb2⟩
          clear c1 c2 c3 c4
          have ho := or_step (T m) m (bit3 true 16 x y ((32 - k) + m)) (HRm.out m) (by omega)
          rw [← HRS.out] at ho
          go_wp2
          go_roundw
          case rel => exact ⟨m + 1, by omega, rfl, by go_num, hm2, hbw.trans (hb2.mono hbw.size)⟩
          case measure => simp [intOf]; omega
        · obtain rfl : m = 16 := by omega
          have hR := HR.out
          simp only [Nat.reducePow] at hR
          go_wp2_with fail
          go_quiet ((go_at_call 18; first | (with_reducible exact quiet_left (F1'.out _)) | (with_reducible exact quiet_left (F2'.out _))))
          go_wp2_with fail
          refine (AF'.out _).mono ?_
          rintro e w' ⟨rfl, rfl⟩
          go_wp2
          go_ret3
          exact ⟨ret_iii rfl rfl rfl, below_drewN hbw _⟩

end Go.Proofs.Ytlchhlfnndeicaa
