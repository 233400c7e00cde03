/- The first bit that is set: what the program's Scan and the document's Scan answer. -/
import Derived.Test.YtdnnlfpahnbfmaaRefBit
import Derived.Test.YtdnnlfpahnbfmaaScanPlain
import Derived.Deep.LoopGhost
import Derived.Lib.Strings
import Derived.Lib.Slices
import Derived.Lib.Small
import Derived.Lib.Walk
namespace Go.Proofs.Ytdnnlfpahnbfmaa
open Go.RowKit Pl

def scanN (up : Bool) (x : Nat) : Nat := if x = 0 then 0 else if up then low x else Nat.log2 x
def scanF (x fl : Nat) : Nat := setF fl 64 (x == 0)

theorem f64_off (fl : Nat) (hf : fl < 4294967296) : bits .andNot .u32 (fl : Int) 64 = ((setF fl 64 false : Nat) : Int) := r_andn fl 6 hf (by decide)
theorem f64_on (fl : Nat) (hf : fl < 4294967296) : bits .or .u32 (fl : Int) 64 = ((setF fl 64 true : Nat) : Int) := r_or fl 6 hf (by decide)

theorem value16 (a : Nat) (ha : a < 4294967296) (w : World) : Calls Try.prog 23 #[.int .i64 2, .int .u32 a] w fun e w' => e = .returned (.int .u32 ((a % 65536 : Nat) : Int)) ∧ w = w' := by
  have e1 := hide (and_lit a 16 (by decide) ha)
  go_enter Try.func23, Try.ntmps23
  go_wp2
  go_ret
  exact ⟨ret_int e1.out, rfl⟩
theorem value32 (a : Nat) (ha : a < 4294967296) (w : World) : Calls Try.prog 23 #[.int .i64 4, .int .u32 a] w fun e w' => e = .returned (.int .u32 ((a % 4294967296 : Nat) : Int)) ∧ w = w' := by
  have e1 := hide (and_lit a 32 (by decide) ha)
  go_enter Try.func23, Try.ntmps23
  go_wp2
  go_ret
  exact ⟨ret_int e1.out, rfl⟩
theorem value8 (a : Nat) (ha : a < 4294967296) (w : World) : Calls Try.prog 23 #[.int .i64 1, .int .u32 a] w fun e w' => e = .returned (.int .u32 ((a % 256 : Nat) : Int)) ∧ w = w' := by
  have e1 := hide (and_lit a 8 (by decide) ha)
  go_enter Try.func23, Try.ntmps23
  go_wp2
  go_ret
  exact ⟨ret_int e1.out, rfl⟩
theorem cut16 (a : Nat) (w : World) : Calls Try.prog 24 #[.int .u64 a, .int .i64 16] w fun e w' => e = .returned (.int .u64 ((a % 65536 : Nat) : Int)) ∧ w = w' := by
  go_enter Try.func24, Try.ntmps24
  go_wp2
  go_ret
  exact ⟨ret_int (by simp), rfl⟩
theorem cut32 (a : Nat) (w : World) : Calls Try.prog 24 #[.int .u64 a, .int .i64 32] w fun e w' => e = .returned (.int .u64 ((a % 4294967296 : Nat) : Int)) ∧ w = w' := by
  go_enter Try.func24, Try.ntmps24
  go_wp2
  go_ret
  exact ⟨ret_int (by simp), rfl⟩
theorem cut8 (a : Nat) (w : World) : Calls Try.prog 24 #[.int .u64 a, .int .i64 8] w fun e w' => e = .returned (.int .u64 ((a % 256 : Nat) : Int)) ∧ w = w' := by
  go_enter Try.func24, Try.ntmps24
  go_wp2
  go_ret
  exact ⟨ret_int (by simp), rfl⟩

set_option maxRecDepth 100000 in
theorem len8tab_size : (Lib.len8tab.size : Int) = 256 := by
  have : Lib.len8tab.size = 256 := by decide
  omega
theorem len8_get (y : Int) (h : y.toNat < Lib.len8tab.size) : ((Lib.len8tab[y.toNat]'h).toNat : Int) = Lib.len8 y := by
  unfold Lib.len8
  rw [getElem?_pos Lib.len8tab y.toNat h]
  rfl
theorem wrap_add (k a b : Nat) (hk : k ≤ 56) (ha : a ≤ 8) (hb : b = k + a) : wrap64 ((k : Int) + wrap64 (a : Int)) = (b : Int) := by
  unfold wrap64
  omega
theorem wrap_wrap (a : Nat) (ha : a ≤ 8) : wrap64 (wrap64 (a : Int)) = (a : Int) := by
  unfold wrap64
  omega

set_option maxRecDepth 100000 in
set_option maxHeartbeats 4000000 in
theorem len_ok (x : Int) (h0 : 0 ≤ x) (h1 : x ≤ 4294967295) (w : World) : Calls Try.prog 26 #[.int .u32 x] w fun e w' => e = .returned (.int .i64 (Lib.bitLen x.toNat)) ∧ w = w' := by
  go_enter Try.func26, Try.ntmps26
  go_wp2
  all_goals first
    | (go_ret; refine ⟨ret_int ?_, rfl⟩)
    | (exfalso
       have hs := len8tab_size
       omega)
  all_goals first
    | (rw [len8_get (x / 65536 / 256) _, Lib.len8_of (x / 65536 / 256) (by omega) (by omega)]
       have e : (x / 65536 / 256).toNat = x.toNat / 16777216 := by omega
       have l := Lib.bitLen_le8' (x / 65536 / 256) (by omega) (by omega)
       have s := Lib.bitLen_shift24 x.toNat (by omega) (by omega)
       rw [e] at l ⊢
       exact wrap_add 24 _ _ (by decide) l s)
    | (rw [len8_get (x / 65536) _, Lib.len8_of (x / 65536) (by omega) (by omega)]
       have e : (x / 65536).toNat = x.toNat / 65536 := by omega
       have l := Lib.bitLen_le8' (x / 65536) (by omega) (by omega)
       have s := Lib.bitLen_shift16 x.toNat (by omega) (by omega)
       rw [e] at l ⊢
       exact wrap_add 16 _ _ (by decide) l s)
    | (rw [len8_get (x / 256) _, Lib.len8_of (x / 256) (by omega) (by omega)]
       have e : (x / 256).toNat = x.toNat / 256 := by omega
       have l := Lib.bitLen_le8' (x / 256) (by omega) (by omega)
       have s := Lib.bitLen_shift8 x.toNat (by omega) (by omega)
       rw [e] at l ⊢
       exact wrap_add 8 _ _ (by decide) l s)
    | (rw [len8_get x _, Lib.len8_of x (by omega) (by omega)]
       exact wrap_wrap _ (Lib.bitLen_le8' x (by omega) (by omega)))

theorem bit_is (x k b : Nat) (hx : x < 4294967296) (h : x / 2 ^ k % 2 = b) : bits .and .u32 ((x : Int) / 2 ^ k) 1 = (b : Int) := by
  have hd : x / 2 ^ k < 4294967296 := Nat.lt_of_le_of_lt (Nat.div_le_self _ _) hx
  rw [show (x : Int) / 2 ^ k = ((x / 2 ^ k : Nat) : Int) by simp, show (1 : Int) = ((1 : Nat) : Int) from rfl, u32_and_nat _ _ hd (by decide), Nat.and_one_is_mod, h]

set_option maxHeartbeats 1000000 in
theorem scan_zero (up : Bool) (size : Int) (hs : size = 2 ∨ size = 4) (a fl : Nat) (hf : fl < 4294967296)
    (HV : ∀ w, Calls Try.prog 23 #[.int .i64 size, .int .u32 a] w fun e w' => e = .returned (.int .u32 ((0 : Nat) : Int)) ∧ w = w') (w : World) :
    Calls Try.prog 15 #[.bool up, .int .i64 size, .int .u32 a, .int .u32 fl] w fun e w' => e = .returned (.tuple #[.int .u32 ((0 : Nat) : Int), .bool false, .int .u32 ((setF fl 64 true : Nat) : Int), .int .i64 0]) ∧ w = w' := by
  have H := hide HV
  have HF := hide (f64_on fl hf)
  clear HV hf
  rcases hs with rfl | rfl
  all_goals
    go_enter Try.func15, Try.ntmps15
    go_wp2
    go_step3
    go_wp2_with (go_at_call 23; refine (H.out _).mono ?_; rintro e w' ⟨rfl, rfl⟩)
    try rw [Exit.noGoto_ret]
    refine bodyPost_ret (results_tmp4 rfl _ _ _) rfl ?_
    exact ⟨ret_ibii rfl rfl HF.out rfl, rfl⟩

set_option maxHeartbeats 1000000 in
theorem scan_down (size : Int) (hs : size = 2 ∨ size = 4) (a fl x : Nat) (hf : fl < 4294967296) (hx : x < 4294967296) (h0 : x ≠ 0)
    (HV : ∀ w, Calls Try.prog 23 #[.int .i64 size, .int .u32 a] w fun e w' => e = .returned (.int .u32 (x : Int)) ∧ w = w') (w : World) :
    Calls Try.prog 15 #[.bool false, .int .i64 size, .int .u32 a, .int .u32 fl] w fun e w' => e = .returned (.tuple #[.int .u32 ((Nat.log2 x : Nat) : Int), .bool true, .int .u32 ((setF fl 64 false : Nat) : Int), .int .i64 0]) ∧ w = w' := by
  have H := hide HV
  have HF := hide (f64_off fl hf)
  have hl := high_lt x 32 h0 hx
  have hn : (((x : Int)) == 0) = false := by simp; omega
  have hb : ((Lib.bitLen x : Nat) : Int) = (Nat.log2 x : Int) + 1 := by rw [bitLen_high x h0 hx]; simp
  generalize Nat.log2 x = m at *
  have HB := hide hb
  clear HV hf hb h0
  rcases hs with rfl | rfl
  all_goals
    go_enter Try.func15, Try.ntmps15
    go_wp2
    go_step3
    go_wp2_with (first | (go_at_call 23; refine (H.out _).mono ?_; rintro e w' ⟨rfl, rfl⟩) | (go_at_call 26; refine (len_ok _ (by omega) (by omega) _).mono ?_; rintro e w' ⟨rfl, rfl⟩))
    try rw [Exit.noGoto_ret]
    refine bodyPost_ret (results_tmp4 rfl _ _ _) rfl ?_
    refine ⟨ret_ibii ?_ rfl HF.out rfl, rfl⟩
    have hb := HB.out
    simp [hb]
    unfold wrap64
    omega

set_option maxHeartbeats 1000000 in
theorem scan_up (size : Int) (hs : size = 2 ∨ size = 4) (a fl x : Nat) (hf : fl < 4294967296) (hx : x < 4294967296) (h0 : x ≠ 0)
    (HV : ∀ w, Calls Try.prog 23 #[.int .i64 size, .int .u32 a] w fun e w' => e = .returned (.int .u32 (x : Int)) ∧ w = w') (w : World) :
    Calls Try.prog 15 #[.bool true, .int .i64 size, .int .u32 a, .int .u32 fl] w fun e w' => e = .returned (.tuple #[.int .u32 ((low x : Nat) : Int), .bool true, .int .u32 ((setF fl 64 false : Nat) : Int), .int .i64 0]) ∧ w = w' := by
  have H := hide HV
  have HF := hide (f64_off fl hf)
  have hl := low_lt x 32 hx h0 hx
  have hn : (((x : Int)) == 0) = false := by simp; omega
  have B0 := hide fun k hk => bit_is x k 0 hx (below_low x k hx h0 hk)
  have B1 := hide (bit_is x (low x) 1 hx (low_spec x hx h0).1)
  generalize low x = m at *
  clear HV hf h0
  rcases hs with rfl | rfl
  all_goals
    go_enter Try.func15, Try.ntmps15
    go_wp2
    go_step3
    go_wp2_with (go_at_call 23; refine (H.out _).mono ?_; rintro e w' ⟨rfl, rfl⟩)
    go_step3
    go_wp2
    go_loop [8] (fun n => ∃ k : Nat, k ≤ m ∧ n = .int .u32 k) (fun n => m - (intOf n).toNat)
    case atStart => exact ⟨0, Nat.zero_le _, rfl⟩
    case round =>
      obtain ⟨k, hk, rfl⟩ := hrel
      by_cases hlt : k < m
      · have hb := B0.out k hlt
        go_wp2
        go_round
        case rel => exact ⟨k + 1, by omega, by go_num⟩
        case measure => simp [intOf]; omega
      · obtain rfl : k = m := by omega
        have hb := B1.out
        go_wp2
        try rw [Exit.noGoto_ret]
        refine bodyPost_ret (results_tmp4 rfl _ _ _) rfl ?_
        exact ⟨ret_ibii rfl rfl HF.out rfl, rfl⟩

set_option maxHeartbeats 1000000 in
theorem refscan_zero (up : Bool) (size bits : Int) (hs : size = 2 ∧ bits = 16 ∨ size = 4 ∧ bits = 32) (a fl : Nat) (ha : a < 4294967296) (hf : fl < 4294967296)
    (HV : ∀ w, Calls Try.prog 24 #[.int .u64 a, .int .i64 bits] w fun e w' => e = .returned (.int .u64 ((0 : Nat) : Int)) ∧ w = w') (w : World) :
    Calls Try.prog 16 #[.bool up, .int .i64 size, .int .u32 a, .int .u32 fl] w fun e w' => e = .returned (.tuple #[.int .u32 ((0 : Nat) : Int), .bool false, .int .u32 ((setF fl 64 true : Nat) : Int), .int .i64 0]) ∧ w = w' := by
  have H := hide HV
  have HF := hide hf
  clear HV hf
  rcases hs with ⟨rfl, rfl⟩ | ⟨rfl, rfl⟩
  all_goals
    go_enter Try.func16, Try.ntmps16
    go_wp2_with (first | (go_at_call 24; refine (H.out _).mono ?_; rintro e w' ⟨rfl, rfl⟩) | (go_at_call 25; refine (set_ok _ _ _ (by decide) HF.out _).mono ?_; rintro e w' ⟨rfl, rfl⟩))
    refine bodyPost_ret (results_tmp4 rfl _ _ _) rfl ?_
    exact ⟨ret_ibii rfl rfl rfl rfl, rfl⟩

theorem bit_no (x k b : Nat) (h : x / 2 ^ k % 2 = b) : (((x : Int) / 2 ^ k).tmod 2 == 1) = (b == 1) ∧ (((x : Int) / 2 ^ k) % 2 == 1) = (b == 1) := by
  have e : (x : Int) / 2 ^ k = ((x / 2 ^ k : Nat) : Int) := by simp
  rw [e]
  generalize x / 2 ^ k = q at *
  have e2 : ((q : Int).tmod 2) = (q : Int) % 2 := Int.tmod_eq_emod_of_nonneg (by omega)
  rw [e2]
  have e3 : (q : Int) % 2 = (b : Int) := by omega
  rw [e3]
  have : ((b : Int) == 1) = (b == 1) := by rw [Bool.eq_iff_iff]; simp; omega
  exact ⟨this, this⟩

set_option maxHeartbeats 1000000 in
theorem refscan_up (size bits : Int) (hs : size = 2 ∧ bits = 16 ∨ size = 4 ∧ bits = 32) (a fl x : Nat) (ha : a < 4294967296) (hf : fl < 4294967296) (hx : x < 2 ^ bits.toNat) (h0 : x ≠ 0)
    (HV : ∀ w, Calls Try.prog 24 #[.int .u64 a, .int .i64 bits] w fun e w' => e = .returned (.int .u64 (x : Int)) ∧ w = w') (w : World) :
    Calls Try.prog 16 #[.bool true, .int .i64 size, .int .u32 a, .int .u32 fl] w fun e w' => e = .returned (.tuple #[.int .u32 ((low x : Nat) : Int), .bool true, .int .u32 ((setF fl 64 false : Nat) : Int), .int .i64 0]) ∧ w = w' := by
  have H := hide HV
  have HF := hide hf
  have hx' : x < 4294967296 := Nat.lt_of_lt_of_le hx (by rcases hs with ⟨_, rfl⟩ | ⟨_, rfl⟩ <;> decide)
  have hl := low_lt x bits.toNat hx' h0 hx
  have hn : (((x : Int)) == 0) = false := by simp; omega
  have B0 := hide fun k hk => bit_no x k 0 (below_low x k hx' h0 hk)
  have B1 := hide (bit_no x (low x) 1 (low_spec x hx' h0).1)
  generalize low x = m at *
  clear HV hf h0 hx
  rcases hs with ⟨rfl, rfl⟩ | ⟨rfl, rfl⟩
  all_goals
    simp only [Int.reduceToNat] at hl
    go_enter Try.func16, Try.ntmps16
    go_wp2_with (first | (go_at_call 24; refine (H.out _).mono ?_; rintro e w' ⟨rfl, rfl⟩) | (go_at_call 25; refine (set_ok _ _ _ (by decide) HF.out _).mono ?_; rintro e w' ⟨rfl, rfl⟩))
    go_loop [14, 15] (fun t n => ∃ k : Nat, k ≤ m ∧ t = .int .i64 0 ∧ n = .int .i64 k) (fun _ n => m - (intOf n).toNat)
    case atStart => exact ⟨0, Nat.zero_le _, rfl, rfl⟩
    case round =>
      obtain ⟨k, hk, rfl, rfl⟩ := hrel
      by_cases hlt : k < m
      · have hb1 := (B0.out k hlt).1
        have hb2 := (B0.out k hlt).2
        simp only [Nat.reduceBEq] at hb1 hb2
        go_wp2
        go_round
        case rel => exact ⟨k + 1, by omega, rfl, by go_num⟩
        case measure => simp [intOf]; omega
      · obtain rfl : k = m := by omega
        have hb1 := B1.out.1
        have hb2 := B1.out.2
        simp only [Nat.reduceBEq] at hb1 hb2
        go_wp2
        refine bodyPost_ret (results_tmp4 rfl _ _ _) rfl ?_
        refine ⟨ret_ibii ?_ rfl rfl rfl, rfl⟩
        simp

set_option maxHeartbeats 1000000 in
theorem refscan_down (size bits : Int) (hs : size = 2 ∧ bits = 16 ∨ size = 4 ∧ bits = 32) (a fl x : Nat) (ha : a < 4294967296) (hf : fl < 4294967296) (hx : x < 2 ^ bits.toNat) (h0 : x ≠ 0)
    (HV : ∀ w, Calls Try.prog 24 #[.int .u64 a, .int .i64 bits] w fun e w' => e = .returned (.int .u64 (x : Int)) ∧ w = w') (w : World) :
    Calls Try.prog 16 #[.bool false, .int .i64 size, .int .u32 a, .int .u32 fl] w fun e w' => e = .returned (.tuple #[.int .u32 ((Nat.log2 x : Nat) : Int), .bool true, .int .u32 ((setF fl 64 false : Nat) : Int), .int .i64 0]) ∧ w = w' := by
  have H := hide HV
  have HF := hide hf
  have hx' : x < 4294967296 := Nat.lt_of_lt_of_le hx (by rcases hs with ⟨_, rfl⟩ | ⟨_, rfl⟩ <;> decide)
  have hl := hide (high_lt x bits.toNat h0 hx)
  have hn : (((x : Int)) == 0) = false := by simp; omega
  have HA := hide (hiB_all x bits.toNat h0 hx)
  clear HV hf h0 hx
  rcases hs with ⟨rfl, rfl⟩ | ⟨rfl, rfl⟩
  · go_enter Try.func16, Try.ntmps16
    go_wp2_with (first | (go_at_call 24; refine (H.out _).mono ?_; rintro e w' ⟨rfl, rfl⟩) | (go_at_call 25; refine (set_ok _ _ _ (by decide) HF.out _).mono ?_; rintro e w' ⟨rfl, rfl⟩))
    go_loop [14, 15] (fun t n => ∃ k : Nat, k ≤ 16 ∧ t = .int .i64 (hiB x k : Nat) ∧ n = .int .i64 k) (fun _ n => 16 - (intOf n).toNat)
    case atStart => exact ⟨0, Nat.zero_le _, by rw [hiB_zero]; rfl, rfl⟩
    case round =>
      obtain ⟨k, hk, rfl, rfl⟩ := hrel
      have hm := hiB_le x k
      have HS := hide (hiB_succ x k)
      by_cases hlt : k < 16
      · rcases Nat.mod_two_eq_zero_or_one (x / 2 ^ k) with hb | hb
        all_goals
          have hb1 := (bit_no x k _ hb).1
          have hb2 := (bit_no x k _ hb).2
          have HB := hide hb
          clear hb
          simp only [Nat.reduceBEq] at hb1 hb2
          go_wp2
          go_round
          case rel => exact ⟨k + 1, by omega, by rw [HS.out, HB.out]; rfl, by go_num⟩
          case measure => simp [intOf]; omega
      · obtain rfl : k = 16 := by omega
        go_wp2
        refine bodyPost_ret (results_tmp4 rfl _ _ _) rfl ?_
        refine ⟨ret_ibii ?_ rfl rfl rfl, rfl⟩
        rw [← HA.out]
        simp
  · go_enter Try.func16, Try.ntmps16
    go_wp2_with (first | (go_at_call 24; refine (H.out _).mono ?_; rintro e w' ⟨rfl, rfl⟩) | (go_at_call 25; refine (set_ok _ _ _ (by decide) HF.out _).mono ?_; rintro e w' ⟨rfl, rfl⟩))
    go_loop [14, 15] (fun t n => ∃ k : Nat, k ≤ 32 ∧ t = .int .i64 (hiB x k : Nat) ∧ n = .int .i64 k) (fun _ n => 32 - (intOf n).toNat)
    case atStart => exact ⟨0, Nat.zero_le _, by rw [hiB_zero]; rfl, rfl⟩
    case round =>
      obtain ⟨k, hk, rfl, rfl⟩ := hrel
      have hm := hiB_le x k
      have HS := hide (hiB_succ x k)
      by_cases hlt : k < 32
      · rcases Nat.mod_two_eq_zero_or_one (x / 2 ^ k) with hb | hb
        all_goals
          have hb1 := (bit_no x k _ hb).1
          have hb2 := (bit_no x k _ hb).2
          have HB := hide hb
          clear hb
          simp only [Nat.reduceBEq] at hb1 hb2
          go_wp2
          go_round
          case rel => exact ⟨k + 1, by omega, by rw [HS.out, HB.out]; rfl, by go_num⟩
          case measure => simp [intOf]; omega
      · obtain rfl : k = 32 := by omega
        go_wp2
        refine bodyPost_ret (results_tmp4 rfl _ _ _) rfl ?_
        refine ⟨ret_ibii ?_ rfl rfl rfl, rfl⟩
        rw [← HA.out]
        simp
end Go.Proofs.Ytdnnlfpahnbfmaa
