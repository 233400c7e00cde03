/- The document's Double of size 4. -/
import Derived.Test.YtlchhlfnndeicaaShRowB
namespace Go.Proofs.Ytlchhlfnndeicaa
open Go.RowKit Pl
set_option linter.unusedVariables false

theorem mk96 : ∀ w, (Instr.makeSlice 51 (.int .i64 96) (.int .i64 96)).run Try.prog w = .ok (.slice (some ⟨w.heap.size, 0, none⟩) 96 96) (w.alloc (.cells (Array.replicate 96 (.bool false)) 4)) := by
  intro w
  kernel_rfl
theorem mk_row96 : ∃ R : (Nat → Bool) → Array Value, (∀ f i v, (R f).setIfInBounds i (.bool v) = R (fun j => if j = i then v else f j)) ∧ (∀ f i, i < 96 → (R f)[i]? = some (.bool (f i))) ∧ (∀ f g, (∀ j, j < 96 → f j = g j) → R f = R g) ∧
    (∀ f, (R f).size = 96) ∧ ∀ w, (Instr.makeSlice 51 (.int .i64 96) (.int .i64 96)).run Try.prog w = .ok (.slice (some ⟨w.heap.size, 0, none⟩) 96 96) (w.alloc (.cells (R fun _ => false) 4)) :=
  ⟨fun f => row f 96, fun f i v => row_set f 96 i v, fun f i h => row_get f 96 i h, fun f g h => row_ext f g 96 h, fun f => row_size f 96, fun w => by rw [mk96, rep_row]⟩

theorem lay32_false (x y m j : Nat) (hm : m < 32) (hj : j < 96) : (if j = 64 + m then y.testBit m else if j = 32 + m then y.testBit m else if j = m then x.testBit m else lay false 32 x y m j) = lay false 32 x y (m + 1) j := by
  have hd := Nat.div_add_mod j 32
  have hq : j / 32 = 0 ∨ j / 32 = 1 ∨ j / 32 = 2 := by omega
  unfold lay bit3
  by_cases hr : j % 32 = m
  · have e1 : decide (j % 32 < m + 1) = true := by simp; omega
    rw [e1, Bool.true_and, hr]
    rcases hq with q | q | q
    · rw [if_neg (by omega), if_neg (by omega), if_pos (by omega), q]; rfl
    · rw [if_neg (by omega), if_pos (by omega), q]; rfl
    · rw [if_pos (by omega), q]; rfl
  · have e1 : decide (j % 32 < m + 1) = decide (j % 32 < m) := by
      rw [Bool.eq_iff_iff]
      simp only [decide_eq_true_eq]
      omega
    rw [if_neg (by omega), if_neg (by omega), if_neg (by omega), e1]

set_option maxRecDepth 20000 in
set_option maxHeartbeats 4000000 in
theorem refdbl4_false (a b c fl : Nat) (ha : a < 4294967296) (hb : b < 4294967296) (hf : fl < 4294967296) (hk0 : 0 < c % 32) (w : World) :
    Calls Try.prog 14 #[.bool false, .int .i64 4, .int .u32 a, .int .u32 b, .int .u32 c, .int .u32 fl] w fun e w' => e = .returned (.tuple #[.int .u32 ((dblR false 32 (a % 4294967296) (b % 4294967296) (c % 32) : Nat) : Int), .int .u32 ((dblF false 32 (a % 4294967296) (b % 4294967296) (c % 32) fl : Nat) : Int), .int .i64 0]) ∧ Below w.heap.size w w' := by
  have V1 : ∀ w, Calls Try.prog 21 #[.int .u64 (a : Int), .int .i64 32] w fun e w' => e = .returned (.int .u64 ((a % 4294967296 : Nat) : Int)) ∧ w = w' := fun w => cut_ok a 32 (by omega) (by decide) w
  have V2 : ∀ w, Calls Try.prog 21 #[.int .u64 (b : Int), .int .i64 32] w fun e w' => e = .returned (.int .u64 ((b % 4294967296 : Nat) : Int)) ∧ w = w' := fun w => cut_ok b 32 (by omega) (by decide) w
  have hx : a % 4294967296 < 4294967296 := Nat.mod_lt _ (by decide)
  have hy : b % 4294967296 < 4294967296 := Nat.mod_lt _ (by decide)
  have e3 : (c : Int) % 32 = ((c % 32 : Nat) : Int) := by omega
  have hk : c % 32 < 32 := Nat.mod_lt _ (by decide)
  generalize a % 4294967296 = x at *
  generalize b % 4294967296 = y at *
  generalize c % 32 = k at *
  have RF : dblR false 32 x y k = ofB (fun i => bit3 false 32 x y (k + i)) 32 := rfl
  have hR := ofB_lt (fun i => bit3 false 32 x y (k + i)) 32
  have hRm := fun m => ofB_lt (fun i => bit3 false 32 x y (k + i)) m
  have hRS : ∀ m, ofB (fun i => bit3 false 32 x y (k + i)) (m + 1) = ofB (fun i => bit3 false 32 x y (k + i)) m + (bit3 false 32 x y (k + m)).toNat * 2 ^ m := fun _ => rfl
  have hR0 : ofB (fun i => bit3 false 32 x y (k + i)) 0 = 0 := rfl
  have eC : dblC false 32 x y k = bit3 false 32 x y (k - 1) := rfl
  have eF : dblF false 32 x y k fl = byF (dblR false 32 x y k) 32 (setF (setF (setF fl 16 false) 1 (dblC false 32 x y k)) 2048 ((dblR false 32 x y k).testBit 31 != x.testBit 31)) := rfl
  rw [eF, eC, RF]
  clear eF eC RF
  generalize hT : ofB (fun i => bit3 false 32 x y (k + i)) = T at *
  clear hT
  have BX := hide fun m (hm : m < 64) (w : World) => bit_ok x m hm w
  have BY := hide fun m (hm : m < 64) (w : World) => bit_ok y m hm w
  have BR : ∀ w, Calls Try.prog 25 #[.int .u64 ((T 32 : Nat) : Int), .int .i64 31] w fun e w' => e = .returned (.bool ((T 32).testBit 31)) ∧ w = w' := fun w => bit_ok (T 32) 31 (by decide) w
  have BT : ∀ w, Calls Try.prog 25 #[.int .u64 (x : Int), .int .i64 31] w fun e w' => e = .returned (.bool (x.testBit 31)) ∧ w = w' := fun w => bit_ok x 31 (by decide) w
  have S0 := hide fun w => set_ok fl 16 false (by decide) hf w
  have S1 := hide fun c w => set_ok (setF fl 16 false) 1 c (by decide) (lt16 _ hf) w
  have S2 := hide fun c o w => set_ok (setF (setF fl 16 false) 1 c) 2048 o (by decide) (lt1 _ (lt16 _ hf)) w
  have YY : ∀ c o w, Calls Try.prog 27 #[.int .u64 ((T 32 : Nat) : Int), .int .i64 32, .int .u32 ((setF (setF (setF fl 16 false) 1 c) 2048 o : Nat) : Int)] w fun e w' => e = .returned (.int .u32 ((byF (T 32) 32 (setF (setF (setF fl 16 false) 1 c) 2048 o) : Nat) : Int)) ∧ w = w' := fun c o w => by_ok (T 32) (setF (setF (setF fl 16 false) 1 c) 2048 o) 32 (by decide) (lt2048 _ (lt1 _ (lt16 _ hf))) w
  simp only [Int.reduceToNat] at S0 S1 S2
  generalize (T 32).testBit 31 = t1 at *
  generalize x.testBit 31 = t2 at *
  obtain ⟨R, rset, rget, rext, rsize, rmk⟩ := mk_row96
  have L0 : R (lay false 32 x y 0) = R (fun _ => false) := rext _ _ (fun j _ => by simp [lay])
  have L1 : R (lay false 32 x y 32) = R (bit3 false 32 x y) := rext _ _ (fun j _ => by simp [lay, Nat.mod_lt])
  have LS : ∀ m, m < 32 → R (fun j => if j = 64 + m then y.testBit m else if j = 32 + m then y.testBit m else if j = m then x.testBit m else lay false 32 x y m j) = R (lay false 32 x y (m + 1)) := fun m hm => rext _ _ fun j hj => lay32_false x y m j hm hj
  have MK := hide rmk
  have RX := hide rext
  have RS := hide rset
  have RG := hide rget
  have HL0 := hide L0
  have HL1 := hide L1
  have HLS := hide LS
  have W1 := hide V1
  have W2 := hide V2
  have HBR := hide BR
  have HBT := hide BT
  have HYY := hide YY
  have HR := hide hR
  have HRm := hide hRm
  have HRS := hide hRS
  have HR0 := hide hR0
  clear rmk rext rset rget rsize V1 V2 L0 L1 LS BR BT YY hf hR hRm hRS hR0
  go_enter Try.func14, Try.ntmps14
  go_wp2_with fail
  refine (W1.out _).mono ?_
  rintro e w' ⟨rfl, rfl⟩
  go_wp2_with fail
  refine (W2.out _).mono ?_
  rintro e w' ⟨rfl, rfl⟩
  go_wp2_with fail
  rw [MK.out]
  go_wp2_with fail
  go_loopw [20] (fun i wr => ∃ m : Nat, m ≤ 32 ∧ i = .int .i64 m ∧ wr = w.alloc (.cells (R (lay false 32 x y m)) 4)) (fun i _ => 32 - (intOf i).toNat)
  case atStart => exact ⟨0, Nat.zero_le _, rfl, by rw [HL0.out]⟩
  case round =>
    obtain ⟨m, hm, rfl, rfl⟩ := hrel
    by_cases hlt : m < 32
    · go_wp2_with fail
      refine (BX.out m (by omega) _).mono ?_
      rintro e w' ⟨rfl, rfl⟩
      have hget := RG.out
      have hset := RS.out
      have h1 : m < 96 := by omega
      have h2 : 32 + m < 96 := by omega
      have h3 : 64 + m < 96 := by omega
      go_wp2_with fail
      refine (BY.out m (by omega) _).mono ?_
      rintro e w' ⟨rfl, rfl⟩
      go_wp2_with fail
      refine (BY.out m (by omega) _).mono ?_
      rintro e w' ⟨rfl, rfl⟩
      go_wp2
      go_roundw
      case rel => exact ⟨m + 1, by omega, by go_num, by rw [HLS.out m hlt]⟩
      case measure => simp [intOf]; omega
    · obtain rfl : m = 32 := by omega
      rw [HL1.out]
      go_wp2_with fail
      go_loop [21, 23] (fun r i => ∃ m : Nat, m ≤ 32 ∧ r = .int .u64 (T m : Nat) ∧ i = .int .i64 m) (fun _ i => 32 - (intOf i).toNat)
      case atStart => exact ⟨0, Nat.zero_le _, by rw [HR0.out]; rfl, rfl⟩
      case round =>
        obtain ⟨m, hm, rfl, rfl⟩ := hrel
        by_cases hlt : m < 32
        · have hg := RG.out (bit3 false 32 x y) (k + m) (by omega)
          rw [show k + m = m + k by omega] at hg
          have hs := HRS.out m
          have hl := Nat.lt_of_lt_of_le (HRm.out (m + 1)) (Nat.pow_le_pow_right (n := 2) (j := 64) (by decide) (by omega))
          rw [show k + m = m + k by omega] at hs
          generalize bit3 false 32 x y (m + k) = v at *
          have HGS := hide hs
          clear hs
          cases v
          · go_wp2
            go_round
            case rel => exact ⟨m + 1, by omega, by rw [HGS.out]; simp, by go_num⟩
            case measure => simp [intOf]; omega
          · have hgr := grow_step (T m) (T (m + 1)) m (by rw [HGS.out]; simp) hl
            go_wp2
            go_round
            case rel => exact ⟨m + 1, by omega, rfl, by go_num⟩
            case measure => simp [intOf]; omega
        · obtain rfl : m = 32 := by omega
          have hg := RG.out (bit3 false 32 x y) (k - 1) (by omega)
          have hR := HR.out
          simp only [Nat.reducePow] at hR
          go_wp2_with fail
          refine (S0.out _).mono ?_
          rintro e w' ⟨rfl, rfl⟩
          go_wp2_with fail
          refine (S1.out _ _).mono ?_
          rintro e w' ⟨rfl, rfl⟩
          go_wp2_with fail
          refine (HBR.out _).mono ?_
          rintro e w' ⟨rfl, rfl⟩
          go_wp2_with fail
          refine (HBT.out _).mono ?_
          rintro e w' ⟨rfl, rfl⟩
          go_wp2_with fail
          refine (S2.out _ _ _).mono ?_
          rintro e w' ⟨rfl, rfl⟩
          go_wp2_with fail
          refine (HYY.out _ _ _).mono ?_
          rintro e w' ⟨rfl, rfl⟩
          go_wp2
          go_ret3
          exact ⟨ret_iii rfl (by cases t1 <;> cases t2 <;> rfl) rfl, (Below.refl _ _).alloc (Nat.le_refl _) _⟩

theorem lay32_true (x y m j : Nat) (hm : m < 32) (hj : j < 96) : (if j = 64 + m then x.testBit m else if j = 32 + m then y.testBit m else if j = m then y.testBit m else lay true 32 x y m j) = lay true 32 x y (m + 1) j := by
  have hd := Nat.div_add_mod j 32
  have hq : j / 32 = 0 ∨ j / 32 = 1 ∨ j / 32 = 2 := by omega
  unfold lay bit3
  by_cases hr : j % 32 = m
  · have e1 : decide (j % 32 < m + 1) = true := by simp; omega
    rw [e1, Bool.true_and, hr]
    rcases hq with q | q | q
    · rw [if_neg (by omega), if_neg (by omega), if_pos (by omega), q]; rfl
    · rw [if_neg (by omega), if_pos (by omega), q]; rfl
    · rw [if_pos (by omega), q]; rfl
  · have e1 : decide (j % 32 < m + 1) = decide (j % 32 < m) := by
      rw [Bool.eq_iff_iff]
      simp only [decide_eq_true_eq]
      omega
    rw [if_neg (by omega), if_neg (by omega), if_neg (by omega), e1]

set_option maxRecDepth 20000 in
set_option maxHeartbeats 4000000 in
theorem refdbl4_true (a b c fl : Nat) (ha : a < 4294967296) (hb : b < 4294967296) (hf : fl < 4294967296) (hk0 : 0 < c % 32) (w : World) :
    Calls Try.prog 14 #[.bool true, .int .i64 4, .int .u32 a, .int .u32 b, .int .u32 c, .int .u32 fl] w fun e w' => e = .returned (.tuple #[.int .u32 ((dblR true 32 (a % 4294967296) (b % 4294967296) (c % 32) : Nat) : Int), .int .u32 ((dblF true 32 (a % 4294967296) (b % 4294967296) (c % 32) fl : Nat) : Int), .int .i64 0]) ∧ Below w.heap.size w w' := by
  have V1 : ∀ w, Calls Try.prog 21 #[.int .u64 (a : Int), .int .i64 32] w fun e w' => e = .returned (.int .u64 ((a % 4294967296 : Nat) : Int)) ∧ w = w' := fun w => cut_ok a 32 (by omega) (by decide) w
  have V2 : ∀ w, Calls Try.prog 21 #[.int .u64 (b : Int), .int .i64 32] w fun e w' => e = .returned (.int .u64 ((b % 4294967296 : Nat) : Int)) ∧ w = w' := fun w => cut_ok b 32 (by omega) (by decide) w
  have hx : a % 4294967296 < 4294967296 := Nat.mod_lt _ (by decide)
  have hy : b % 4294967296 < 4294967296 := Nat.mod_lt _ (by decide)
  have e3 : (c : Int) % 32 = ((c % 32 : Nat) : Int) := by omega
  have hk : c % 32 < 32 := Nat.mod_lt _ (by decide)
  generalize a % 4294967296 = x at *
  generalize b % 4294967296 = y at *
  generalize c % 32 = k at *
  have RF : dblR true 32 x y k = ofB (fun i => bit3 true 32 x y ((64 - k) + i)) 32 := rfl
  have hR := ofB_lt (fun i => bit3 true 32 x y ((64 - k) + i)) 32
  have hRm := fun m => ofB_lt (fun i => bit3 true 32 x y ((64 - k) + i)) m
  have hRS : ∀ m, ofB (fun i => bit3 true 32 x y ((64 - k) + i)) (m + 1) = ofB (fun i => bit3 true 32 x y ((64 - k) + i)) m + (bit3 true 32 x y ((64 - k) + m)).toNat * 2 ^ m := fun _ => rfl
  have hR0 : ofB (fun i => bit3 true 32 x y ((64 - k) + i)) 0 = 0 := rfl
  have eC : dblC true 32 x y k = bit3 true 32 x y (96 - k) := rfl
  have eF : dblF true 32 x y k fl = byF (dblR true 32 x y k) 32 (setF (setF (setF fl 16 false) 1 (dblC true 32 x y k)) 2048 ((dblR true 32 x y k).testBit 31 != x.testBit 31)) := rfl
  rw [eF, eC, RF]
  clear eF eC RF
  generalize hT : ofB (fun i => bit3 true 32 x y ((64 - k) + i)) = T at *
  clear hT
  have BX := hide fun m (hm : m < 64) (w : World) => bit_ok x m hm w
  have BY := hide fun m (hm : m < 64) (w : World) => bit_ok y m hm w
  have BR : ∀ w, Calls Try.prog 25 #[.int .u64 ((T 32 : Nat) : Int), .int .i64 31] w fun e w' => e = .returned (.bool ((T 32).testBit 31)) ∧ w = w' := fun w => bit_ok (T 32) 31 (by decide) w
  have BT : ∀ w, Calls Try.prog 25 #[.int .u64 (x : Int), .int .i64 31] w fun e w' => e = .returned (.bool (x.testBit 31)) ∧ w = w' := fun w => bit_ok x 31 (by decide) w
  have S0 := hide fun w => set_ok fl 16 false (by decide) hf w
  have S1 := hide fun c w => set_ok (setF fl 16 false) 1 c (by decide) (lt16 _ hf) w
  have S2 := hide fun c o w => set_ok (setF (setF fl 16 false) 1 c) 2048 o (by decide) (lt1 _ (lt16 _ hf)) w
  have YY : ∀ c o w, Calls Try.prog 27 #[.int .u64 ((T 32 : Nat) : Int), .int .i64 32, .int .u32 ((setF (setF (setF fl 16 false) 1 c) 2048 o : Nat) : Int)] w fun e w' => e = .returned (.int .u32 ((byF (T 32) 32 (setF (setF (setF fl 16 false) 1 c) 2048 o) : Nat) : Int)) ∧ w = w' := fun c o w => by_ok (T 32) (setF (setF (setF fl 16 false) 1 c) 2048 o) 32 (by decide) (lt2048 _ (lt1 _ (lt16 _ hf))) w
  simp only [Int.reduceToNat] at S0 S1 S2
  generalize (T 32).testBit 31 = t1 at *
  generalize x.testBit 31 = t2 at *
  obtain ⟨R, rset, rget, rext, rsize, rmk⟩ := mk_row96
  have L0 : R (lay true 32 x y 0) = R (fun _ => false) := rext _ _ (fun j _ => by simp [lay])
  have L1 : R (lay true 32 x y 32) = R (bit3 true 32 x y) := rext _ _ (fun j _ => by simp [lay, Nat.mod_lt])
  have LS : ∀ m, m < 32 → R (fun j => if j = 64 + m then x.testBit m else if j = 32 + m then y.testBit m else if j = m then y.testBit m else lay true 32 x y m j) = R (lay true 32 x y (m + 1)) := fun m hm => rext _ _ fun j hj => lay32_true x y m j hm hj
  have MK := hide rmk
  have RX := hide rext
  have RS := hide rset
  have RG := hide rget
  have HL0 := hide L0
  have HL1 := hide L1
  have HLS := hide LS
  have W1 := hide V1
  have W2 := hide V2
  have HBR := hide BR
  have HBT := hide BT
  have HYY := hide YY
  have HR := hide hR
  have HRm := hide hRm
  have HRS := hide hRS
  have HR0 := hide hR0
  clear rmk rext rset rget rsize V1 V2 L0 L1 LS BR BT YY hf hR hRm hRS hR0
  go_enter Try.func14, Try.ntmps14
  go_wp2_with fail
  refine (W1.out _).mono ?_
  rintro e w' ⟨rfl, rfl⟩
  go_wp2_with fail
  refine (W2.out _).mono ?_
  rintro e w' ⟨rfl, rfl⟩
  go_wp2_with fail
  rw [MK.out]
  go_wp2_with fail
  go_loopw [20] (fun i wr => ∃ m : Nat, m ≤ 32 ∧ i = .int .i64 m ∧ wr = w.alloc (.cells (R (lay true 32 x y m)) 4)) (fun i _ => 32 - (intOf i).toNat)
  case atStart => exact ⟨0, Nat.zero_le _, rfl, by rw [HL0.out]⟩
  case round =>
    obtain ⟨m, hm, rfl, rfl⟩ := hrel
    by_cases hlt : m < 32
    · go_wp2_with fail
      refine (BY.out m (by omega) _).mono ?_
      rintro e w' ⟨rfl, rfl⟩
      have hget := RG.out
      have hset := RS.out
      have h1 : m < 96 := by omega
      have h2 : 32 + m < 96 := by omega
      have h3 : 64 + m < 96 := by omega
      go_wp2_with fail
      refine (BY.out m (by omega) _).mono ?_
      rintro e w' ⟨rfl, rfl⟩
      go_wp2_with fail
      refine (BX.out m (by omega) _).mono ?_
      rintro e w' ⟨rfl, rfl⟩
      go_wp2
      go_roundw
      case rel => exact ⟨m + 1, by omega, by go_num, by rw [HLS.out m hlt]⟩
      case measure => simp [intOf]; omega
    · obtain rfl : m = 32 := by omega
      rw [HL1.out]
      go_wp2_with fail
      go_loop [21, 23] (fun r i => ∃ m : Nat, m ≤ 32 ∧ r = .int .u64 (T m : Nat) ∧ i = .int .i64 m) (fun _ i => 32 - (intOf i).toNat)
      case atStart => exact ⟨0, Nat.zero_le _, by rw [HR0.out]; rfl, rfl⟩
      case round =>
        obtain ⟨m, hm, rfl, rfl⟩ := hrel
        by_cases hlt : m < 32
        · have hg := RG.out (bit3 true 32 x y) ((64 - k) + m) (by omega)
          rw [show (64 - k) + m = (64 + m - k) by omega] at hg
          have hs := HRS.out m
          have hl := Nat.lt_of_lt_of_le (HRm.out (m + 1)) (Nat.pow_le_pow_right (n := 2) (j := 64) (by decide) (by omega))
          rw [show (64 - k) + m = (64 + m - k) by omega] at hs
          generalize bit3 true 32 x y ((64 + m - k)) = v at *
          have HGS := hide hs
          clear hs
          cases v
          · go_wp2
            go_round
            case rel => exact ⟨m + 1, by omega, by rw [HGS.out]; simp, by go_num⟩
            case measure => simp [intOf]; omega
          · have hgr := grow_step (T m) (T (m + 1)) m (by rw [HGS.out]; simp) hl
            go_wp2
            go_round
            case rel => exact ⟨m + 1, by omega, rfl, by go_num⟩
            case measure => simp [intOf]; omega
        · obtain rfl : m = 32 := by omega
          have hg := RG.out (bit3 true 32 x y) (96 - k) (by omega)
          have hR := HR.out
          simp only [Nat.reducePow] at hR
          go_wp2_with fail
          refine (S0.out _).mono ?_
          rintro e w' ⟨rfl, rfl⟩
          go_wp2_with fail
          refine (S1.out _ _).mono ?_
          rintro e w' ⟨rfl, rfl⟩
          go_wp2_with fail
          refine (HBR.out _).mono ?_
          rintro e w' ⟨rfl, rfl⟩
          go_wp2_with fail
          refine (HBT.out _).mono ?_
          rintro e w' ⟨rfl, rfl⟩
          go_wp2_with fail
          refine (S2.out _ _ _).mono ?_
          rintro e w' ⟨rfl, rfl⟩
          go_wp2_with fail
          refine (HYY.out _ _ _).mono ?_
          rintro e w' ⟨rfl, rfl⟩
          go_wp2
          go_ret3
          exact ⟨ret_iii rfl (by cases t1 <;> cases t2 <;> rfl) rfl, (Below.refl _ _).alloc (Nat.le_refl _) _⟩

end Go.Proofs.Ytlchhlfnndeicaa
