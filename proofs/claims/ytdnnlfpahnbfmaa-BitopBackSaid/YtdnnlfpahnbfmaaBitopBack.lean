/- The law BitopBack: for every input the call returns true; its arguments are as they were. -/
import Derived.Test.YtdnnlfpahnbfmaaAwake4
import Derived.Test.YtdnnlfpahnbfmaaRefBit
import Derived.Test.YtdnnlfpahnbfmaaRows
import Derived.ProofKit
import Derived.OpenShut
import Derived.ChangeOld
namespace Go.Proofs.Ytdnnlfpahnbfmaa.lawBitopBack
open Go.ChangeShapes Go.WideShapes Go.ChangeAt Go.RowKit Pl
set_option linter.unusedVariables false

theorem setF_small (x k b : Nat) (v : Bool) (hx : x < 2 ^ b) (hk : k < b) : setF x (2 ^ k) v < 2 ^ b := by
  apply Nat.lt_pow_two_of_testBit
  intro i hi
  rw [setF_bit, if_neg (by omega)]
  exact Nat.testBit_lt_two_pow (Nat.lt_of_lt_of_le hx (Nat.pow_le_pow_right (by decide) hi))
theorem setF_twice (x k : Nat) (v : Bool) : setF (setF x (2 ^ k) v) (2 ^ k) (hasF x (2 ^ k)) = x := by
  apply Nat.eq_of_testBit_eq
  intro i
  rw [setF_bit, setF_bit, hasF_bit]
  by_cases h : i = k
  · subst h; simp
  · simp [h]
theorem hasF_set (x k : Nat) (v : Bool) : hasF (setF x (2 ^ k) v) (2 ^ k) = v := by
  rw [hasF_bit, setF_bit, if_pos rfl]
theorem back_plain (b a n fl : Nat) (hb : 0 < b) :
    bitR 0 b a n = a % 2 ^ b ∧ bitR 3 b (bitR 3 b a n) n = a % 2 ^ b ∧ bitF b (bitR 1 b a n) n fl % 2 = 1 := by
  have hk : n % b < b := Nat.mod_lt _ hb
  have hx : a % 2 ^ b < 2 ^ b := Nat.mod_lt _ (Nat.two_pow_pos b)
  refine ⟨?_, ?_, ?_⟩
  · simp only [bitR]
    exact set_self _ _
  · have e : bitR 3 b a n % 2 ^ b = setF (a % 2 ^ b) (2 ^ (n % b)) (!hasF (a % 2 ^ b) (2 ^ (n % b))) := Nat.mod_eq_of_lt (setF_small _ _ _ _ hx hk)
    show setF (bitR 3 b a n % 2 ^ b) (2 ^ (n % b)) (!hasF (bitR 3 b a n % 2 ^ b) (2 ^ (n % b))) = _
    rw [e, hasF_set, Bool.not_not]
    exact setF_twice _ _ _
  · have e : bitR 1 b a n % 2 ^ b = setF (a % 2 ^ b) (2 ^ (n % b)) true := Nat.mod_eq_of_lt (setF_small _ _ _ _ hx hk)
    unfold bitF
    rw [e, hasF_set]
    have := setF_bit fl 0 true 0
    rw [Nat.testBit_zero, if_pos rfl] at this
    simpa using this
theorem digits4 (b0 b1 b2 b3 : Nat) (h1 : b1 < 256) (h2 : b2 < 256) (h3 : b3 < 256) :
    (b0 * 16777216 + b1 * 65536 + b2 * 256 + b3) % 256 = b3 ∧ (b0 * 16777216 + b1 * 65536 + b2 * 256 + b3) / 256 % 256 = b2 ∧
    (b0 * 16777216 + b1 * 65536 + b2 * 256 + b3) / 65536 % 256 = b1 ∧ (b0 * 16777216 + b1 * 65536 + b2 * 256 + b3) / 16777216 = b0 := by
  have v2 : (b0 * 16777216 + b1 * 65536 + b2 * 256 + b3) / 256 = b0 * 65536 + b1 * 256 + b2 := Nat.div_eq_of_lt_le (by omega) (by omega)
  have v3 : (b0 * 65536 + b1 * 256 + b2) / 256 = b0 * 256 + b1 := Nat.div_eq_of_lt_le (by omega) (by omega)
  have v4 : (b0 * 256 + b1) / 256 = b0 := Nat.div_eq_of_lt_le (by omega) (by omega)
  have q3 := Nat.div_div_eq_div_mul (b0 * 16777216 + b1 * 65536 + b2 * 256 + b3) 256 256
  have q4 := Nat.div_div_eq_div_mul (b0 * 16777216 + b1 * 65536 + b2 * 256 + b3) 65536 256
  simp only [Nat.reduceMul] at q3 q4
  rw [← q4, ← q3, v2, v3, v4]
  omega
theorem swap_swap (a : Nat) (ha : a < 4294967296) : swapN a < 4294967296 ∧ swapN (swapN a) = a := by
  have h0 : a % 256 < 256 := by omega
  have h1 : a / 256 % 256 < 256 := by omega
  have h2 : a / 65536 % 256 < 256 := by omega
  have h3 : a / 16777216 < 256 := by omega
  obtain ⟨d1, d2, d3, d4⟩ := digits4 (a % 256) _ _ _ h1 h2 h3
  constructor
  · unfold swapN
    clear d1 d2 d3 d4
    generalize a % 256 = b0 at *
    generalize a / 256 % 256 = b1 at *
    generalize a / 65536 % 256 = b2 at *
    generalize a / 16777216 = b3 at *
    omega
  · unfold swapN
    rw [d1, d2, d3, d4]
    clear d1 d2 d3 d4
    omega
theorem bitR_lt (op b a n : Nat) (hb : 0 < b) (hb2 : b ≤ 32) : bitR op b a n < 4294967296 :=
  Nat.lt_of_lt_of_le (setF_small _ _ b _ (Nat.mod_lt _ (Nat.two_pow_pos b)) (Nat.mod_lt _ hb)) (Nat.pow_le_pow_right (n := 2) (i := b) (j := 32) (by decide) hb2)

set_option maxRecDepth 20000 in
set_option maxHeartbeats 4000000 in
theorem walk_of (size : Int) (a n fl : Nat) (x y f s h sw lo hi z : Nat) (is : Bool)
    (his : is = (x != 0)) (hh : h % 2 = 1) (h1 : is = true → x / 2 ^ lo % 2 = 1 ∧ x % 2 ^ lo = 0 ∧ x / 2 ^ hi = 1 ∧ lo < 32 ∧ hi < 32)
    (hx : x < 4294967296)
    (C1 : ∀ w, Calls Try.prog 13 #[.int .i64 0, .int .i64 size, .int .u32 a, .int .u32 n, .int .u32 fl] w fun en w' => en = .returned (.tuple #[.int .u32 x, .int .u32 f, .int .i64 0]) ∧ w = w')
    (C2 : ∀ w, Calls Try.prog 13 #[.int .i64 3, .int .i64 size, .int .u32 a, .int .u32 n, .int .u32 fl] w fun en w' => en = .returned (.tuple #[.int .u32 y, .int .u32 f, .int .i64 0]) ∧ w = w')
    (C3 : ∀ w, Calls Try.prog 13 #[.int .i64 3, .int .i64 size, .int .u32 y, .int .u32 n, .int .u32 fl] w fun en w' => en = .returned (.tuple #[.int .u32 x, .int .u32 z, .int .i64 0]) ∧ w = w')
    (C4 : ∀ w, Calls Try.prog 13 #[.int .i64 1, .int .i64 size, .int .u32 a, .int .u32 n, .int .u32 fl] w fun en w' => en = .returned (.tuple #[.int .u32 s, .int .u32 f, .int .i64 0]) ∧ w = w')
    (C5 : ∃ r : Int, ∀ w, Calls Try.prog 13 #[.int .i64 0, .int .i64 size, .int .u32 s, .int .u32 n, .int .u32 fl] w fun en w' => en = .returned (.tuple #[.int .u32 r, .int .u32 h, .int .i64 0]) ∧ w = w')
    (C6 : ∀ w, Calls Try.prog 19 #[.int .u32 a] w fun en w' => en = .returned (.int .u32 sw) ∧ w = w')
    (C7 : ∀ w, Calls Try.prog 19 #[.int .u32 sw] w fun en w' => en = .returned (.int .u32 a) ∧ w = w')
    (C8 : ∃ q : Int, ∀ w, Calls Try.prog 15 #[.bool true, .int .i64 size, .int .u32 a, .int .u32 fl] w fun en w' => en = .returned (.tuple #[.int .u32 lo, .bool is, .int .u32 q, .int .i64 0]) ∧ w = w')
    (C9 : ∃ q : Int, ∀ w, Calls Try.prog 15 #[.bool false, .int .i64 size, .int .u32 a, .int .u32 fl] w fun en w' => en = .returned (.tuple #[.int .u32 hi, .bool is, .int .u32 q, .int .i64 0]) ∧ w = w') (w : World) :
    Calls Try.prog 7 #[.int .i64 size, .int .u32 a, .int .u32 n, .int .u32 fl] w fun e w' => e = .returned (.bool true) ∧ Below w.heap.size w w' := by
  obtain ⟨r5, C5⟩ := C5
  obtain ⟨q8, C8⟩ := C8
  obtain ⟨q9, C9⟩ := C9
  have H1 := hide C1
  have H2 := hide C2
  have H3 := hide C3
  have H4 := hide C4
  have H5 := hide C5
  have H6 := hide C6
  have H7 := hide C7
  have H8 := hide C8
  have H9 := hide C9
  clear C1 C2 C3 C4 C5 C6 C7 C8 C9
  have hh1 : ((h : Int) % 2 == 1) = true := by simp; omega
  have hh2 : ((h : Int) % 2 != 1) = false := by simp; omega
  have HL := hide h1
  clear hh h1
  have HX := hide hx
  clear hx
  cases is
  · have hx0 : x = 0 := by simpa using his.symm
    subst hx0
    clear his HL
    go_enter Try.func7, Try.ntmps7
    go_wp2_with fail
    refine (awake_ok _).mono ?_
    rintro e w1 ⟨rfl, hb⟩
    go_wp2_with fail
    refine (H1.out _).mono ?_
    rintro e w' ⟨rfl, rfl⟩
    go_wp2_with fail
    refine (H2.out _).mono ?_
    rintro e w' ⟨rfl, rfl⟩
    go_wp2_with fail
    refine (H3.out _).mono ?_
    rintro e w' ⟨rfl, rfl⟩
    go_wp2_with fail
    refine (H4.out _).mono ?_
    rintro e w' ⟨rfl, rfl⟩
    go_wp2_with fail
    refine (H5.out _).mono ?_
    rintro e w' ⟨rfl, rfl⟩
    go_wp2_with fail
    refine (H6.out _).mono ?_
    rintro e w' ⟨rfl, rfl⟩
    go_wp2_with fail
    refine (H7.out _).mono ?_
    rintro e w' ⟨rfl, rfl⟩
    go_wp2_with fail
    refine (H8.out _).mono ?_
    rintro e w' ⟨rfl, rfl⟩
    go_wp2_with fail
    refine (H9.out _).mono ?_
    rintro e w' ⟨rfl, rfl⟩
    go_wp2
    go_ret
    exact ⟨by simp, hb⟩
  · have hx0 : x ≠ 0 := by simpa using his.symm
    obtain ⟨l1, l2, l3, l4, l5⟩ := HL.out rfl
    have g1 : ((x : Int) != 0) = true := by simp; omega
    have g2 : ((x : Int) == 0) = false := by simp; omega
    have g3 : (((x : Int) / 2 ^ lo) % 2 == 1) = true := by
      rw [show (x : Int) / 2 ^ lo = ((x / 2 ^ lo : Nat) : Int) by simp]
      generalize x / 2 ^ lo = q at l1
      rw [show ((q : Int) % 2) = 1 by omega]
      rfl
    have g4 : ((x : Int) / 2 ^ lo * 2 ^ lo % 4294967296) = (x : Int) := by
      have hx := HX.out
      have e := Nat.div_add_mod x (2 ^ lo)
      rw [l2, Nat.mul_comm] at e
      rw [show (x : Int) / 2 ^ lo * 2 ^ lo = ((x / 2 ^ lo * 2 ^ lo : Nat) : Int) by simp]
      omega
    have g5 : ((x : Int) / 2 ^ hi == 1) = true := by
      rw [show (x : Int) / 2 ^ hi = ((x / 2 ^ hi : Nat) : Int) by simp, l3]; rfl
    have g6 := (bit_no x lo 1 l1).1
    simp only [Nat.reduceBEq] at g6
    have G3 := hide g3
    have G6 := hide g6
    have G4 := hide g4
    have G5 := hide g5
    clear his HL hx0 l1 l2 l3 g3 g4 g5 g6
    go_enter Try.func7, Try.ntmps7
    go_wp2_with fail
    refine (awake_ok _).mono ?_
    rintro e w1 ⟨rfl, hb⟩
    go_wp2_with fail
    refine (H1.out _).mono ?_
    rintro e w' ⟨rfl, rfl⟩
    go_wp2_with fail
    refine (H2.out _).mono ?_
    rintro e w' ⟨rfl, rfl⟩
    go_wp2_with fail
    refine (H3.out _).mono ?_
    rintro e w' ⟨rfl, rfl⟩
    go_wp2_with fail
    refine (H4.out _).mono ?_
    rintro e w' ⟨rfl, rfl⟩
    go_wp2_with fail
    refine (H5.out _).mono ?_
    rintro e w' ⟨rfl, rfl⟩
    go_wp2_with fail
    refine (H6.out _).mono ?_
    rintro e w' ⟨rfl, rfl⟩
    go_wp2_with fail
    refine (H7.out _).mono ?_
    rintro e w' ⟨rfl, rfl⟩
    go_wp2_with fail
    refine (H8.out _).mono ?_
    rintro e w' ⟨rfl, rfl⟩
    go_wp2_with fail
    refine (H9.out _).mono ?_
    rintro e w' ⟨rfl, rfl⟩
    have g3 := G3.out
    have g4 := G4.out
    have g5 := G5.out
    have g6 := G6.out
    go_wp2
    go_ret
    exact ⟨rfl, hb⟩
set_option maxHeartbeats 1000000 in
set_option maxRecDepth 20000 in
theorem walk_no (size a n fl : Int)
    (C : ∀ w, Calls Try.prog 13 #[.int .i64 0, .int .i64 size, .int .u32 a, .int .u32 n, .int .u32 fl] w fun en w' => en = .returned (.tuple #[.int .u32 0, .int .u32 0, .int .i64 2]) ∧ w = w') (w : World) :
    Calls Try.prog 7 #[.int .i64 size, .int .u32 a, .int .u32 n, .int .u32 fl] w fun e w' => e = .returned (.bool true) ∧ Below w.heap.size w w' := by
  have H := hide C
  clear C
  go_enter Try.func7, Try.ntmps7
  go_wp2_with fail
  refine (awake_ok _).mono ?_
  rintro e w1 ⟨rfl, hb⟩
  go_wp2_with fail
  refine (H.out _).mono ?_
  rintro e w' ⟨rfl, rfl⟩
  go_wp2
  go_ret
  exact ⟨by simp, hb⟩
theorem walk (size : Int) (ws : (Lit.int .i64 size).wf = true) (a : Nat) (ha : a < 4294967296) (n : Nat) (hn : n < 4294967296) (fl : Nat) (hf : fl < 4294967296) (w : World) :
    Calls Try.prog 7 #[.int .i64 size, .int .u32 a, .int .u32 n, .int .u32 fl] w fun e w' => e = .returned (.bool true) ∧ Below w.heap.size w w' := by
  obtain ⟨s1, s2⟩ := swap_swap a ha
  have C6 := fun w => swap_ok a ha w
  have C7 := fun w => swap_ok (swapN a) s1 w
  rw [s2] at C7
  by_cases hs : size = 2 ∨ size = 4
  · rcases hs with rfl | rfl
    · obtain ⟨p1, p2, p3⟩ : bitR 0 16 a n = a % 65536 ∧ bitR 3 16 (bitR 3 16 a n) n = a % 65536 ∧ bitF 16 (bitR 1 16 a n) n fl % 2 = 1 := back_plain 16 a n fl (by decide)
      have C1 := fun w => bit_ok 0 2 (by decide) (by decide) a n fl ha hn hf w
      have C2 := fun w => bit_ok 3 2 (by decide) (by decide) a n fl ha hn hf w
      have C3 := fun w => bit_ok 3 2 (by decide) (by decide) (bitR 3 16 a n) n fl (bitR_lt _ _ _ _ (by decide) (by decide)) hn hf w
      have C4 := fun w => bit_ok 1 2 (by decide) (by decide) a n fl ha hn hf w
      have C5 := fun w => bit_ok 0 2 (by decide) (by decide) (bitR 1 16 a n) n fl (bitR_lt _ _ _ _ (by decide) (by decide)) hn hf w
      simp only [Int.reduceToNat, Nat.reduceMul] at C1 C2 C3 C4 C5
      rw [p1] at C1
      rw [p2] at C3
      have V := fun w => value16 a ha w
      have hx : a % 65536 < 4294967296 := by omega
      have hx2 : a % 65536 < 2 ^ 16 := by omega
      by_cases h0 : a % 65536 = 0
      · rw [h0] at V
        exact walk_of 2 a n fl _ _ _ _ _ _ 0 0 _ false (by rw [h0]; rfl) p3 (fun h => by cases h) hx C1 C2 C3 C4 ⟨_, C5⟩ C6 C7 ⟨_, fun w => scan_zero true 2 (by decide) a fl hf V w⟩ ⟨_, fun w => scan_zero false 2 (by decide) a fl hf V w⟩ w
      · exact walk_of 2 a n fl _ _ _ _ _ _ (low (a % 65536)) (Nat.log2 (a % 65536)) _ true (by simp [h0]) p3
          (fun _ => ⟨(low_spec _ hx h0).1, (low_spec _ hx h0).2, high_div _ h0, low_lt _ 32 hx h0 hx, high_lt _ 32 h0 hx⟩) hx C1 C2 C3 C4 ⟨_, C5⟩ C6 C7 ⟨_, fun w => scan_up 2 (by decide) a fl _ hf hx h0 V w⟩ ⟨_, fun w => scan_down 2 (by decide) a fl _ hf hx h0 V w⟩ w
    · obtain ⟨p1, p2, p3⟩ : bitR 0 32 a n = a % 4294967296 ∧ bitR 3 32 (bitR 3 32 a n) n = a % 4294967296 ∧ bitF 32 (bitR 1 32 a n) n fl % 2 = 1 := back_plain 32 a n fl (by decide)
      have C1 := fun w => bit_ok 0 4 (by decide) (by decide) a n fl ha hn hf w
      have C2 := fun w => bit_ok 3 4 (by decide) (by decide) a n fl ha hn hf w
      have C3 := fun w => bit_ok 3 4 (by decide) (by decide) (bitR 3 32 a n) n fl (bitR_lt _ _ _ _ (by decide) (by decide)) hn hf w
      have C4 := fun w => bit_ok 1 4 (by decide) (by decide) a n fl ha hn hf w
      have C5 := fun w => bit_ok 0 4 (by decide) (by decide) (bitR 1 32 a n) n fl (bitR_lt _ _ _ _ (by decide) (by decide)) hn hf w
      simp only [Int.reduceToNat, Nat.reduceMul] at C1 C2 C3 C4 C5
      rw [p1] at C1
      rw [p2] at C3
      have V := fun w => value32 a ha w
      have hx : a % 4294967296 < 4294967296 := by omega
      by_cases h0 : a % 4294967296 = 0
      · rw [h0] at V
        exact walk_of 4 a n fl _ _ _ _ _ _ 0 0 _ false (by rw [h0]; rfl) p3 (fun h => by cases h) hx C1 C2 C3 C4 ⟨_, C5⟩ C6 C7 ⟨_, fun w => scan_zero true 4 (by decide) a fl hf V w⟩ ⟨_, fun w => scan_zero false 4 (by decide) a fl hf V w⟩ w
      · exact walk_of 4 a n fl _ _ _ _ _ _ (low (a % 4294967296)) (Nat.log2 (a % 4294967296)) _ true (by simp [h0]) p3
          (fun _ => ⟨(low_spec _ hx h0).1, (low_spec _ hx h0).2, high_div _ h0, low_lt _ 32 hx h0 hx, high_lt _ 32 h0 hx⟩) hx C1 C2 C3 C4 ⟨_, C5⟩ C6 C7 ⟨_, fun w => scan_up 4 (by decide) a fl _ hf hx h0 V w⟩ ⟨_, fun w => scan_down 4 (by decide) a fl _ hf hx h0 V w⟩ w
  · exact walk_no size a n fl (fun w => bit_size 0 size (by omega) (by omega) a n fl w) w

theorem own : ownKnob Try.prog.godebug = none := by kernel_rfl

set_option maxRecDepth 100000 in
theorem lifted (os : Os) (started : os.Started) (H : Type) (enc : TypeId × Value → H) :
    ReturnsInHanded {} Try.checked os 7 .any (Rows.bitopBackSpec.pre6 enc Try.prog Try.f7 Rows.bitopBackRow.domain false) (Rows.bitopBackSpec.post enc Try.prog Try.f7 false true false false) := by
  refine returnsInHanded_of_change (C := Try.checked) own started (by kernel_rfl) Try.func7
    (ChangeSpec.witness6 (enc := enc) (C := Try.checked) false ⟨#[], #[.int .i64 0, .int .u32 0, .int .u32 0, .int .u32 0], []⟩ 8 (by kernel_rfl) (by kernel_rfl) (by kernel_rfl) (by kernel_rfl)) ?_
  intro W base args ds gs before hval0 hW hcnd _
  have hval : ∀ (j : Nat) t v, Try.f7.params[j]? = some t → args[j]? = some v → Value.okWide Try.prog W .any base t v := hval0
  have hW' := hW
  obtain ⟨p, q, hA0, hV, rfl, hfz, hnd⟩ := hW
  have hA : DataW.TrodAll enc Try.prog W 0 (fun _ => true) true Try.f7.params.toList args.toList ds p := hA0
  rw [Try.params7] at hA hval
  obtain ⟨v0, vs0, d0, ds0, p0, q0, hargs, rfl, rfl, h0, r0⟩ := trodAll_cons hA
  obtain ⟨v1, vs1, d1, ds1, p1, q1, rfl, rfl, rfl, h1, r1⟩ := trodAll_cons r0
  obtain ⟨v2, vs2, d2, ds2, p2, q2, rfl, rfl, rfl, h2, r2⟩ := trodAll_cons r1
  obtain ⟨v3, vs3, d3, ds3, p3, q3, rfl, rfl, rfl, h3, r3⟩ := trodAll_cons r2
  obtain ⟨rfl, rfl, rfl⟩ := trodAll_nil r3
  obtain rfl : args = #[v0, v1, v2, v3] := by cases args; simp_all
  obtain ⟨rfl, rfl⟩ := trodVars_none hV
  obtain ⟨a0, rfl, rfl, rfl, w0⟩ := open_int Try.underlying3 (hval 0 3 v0 rfl rfl) h0
  obtain ⟨a1, rfl, rfl, rfl, w1⟩ := open_int Try.underlying23 (hval 1 23 v1 rfl rfl) h1
  obtain ⟨a2, rfl, rfl, rfl, w2⟩ := open_int Try.underlying23 (hval 2 23 v2 rfl rfl) h2
  obtain ⟨a3, rfl, rfl, rfl, w3⟩ := open_int Try.underlying23 (hval 3 23 v3 rfl rfl) h3
  clear hA0 hval0
  simp only [List.append_nil] at hW'
  obtain ⟨n1, rfl, b1⟩ := u32_nat w1
  obtain ⟨n2, rfl, b2⟩ := u32_nat w2
  obtain ⟨n3, rfl, b3⟩ := u32_nat w3
  refine (walk a0 w0 n1 b1 n2 b2 n3 b3 W).mono fun e W' ⟨he, bel⟩ => ?_
  subst he
  exact ⟨_, rfl, _, _, _, [], [], [], hW', trodAll_mk1 (shut_bool Try.underlying4 _), (trodAll_cons_mk (shut_int Try.underlying3 w0) (trodAll_cons_mk (shut_int Try.underlying23 w1) (trodAll_cons_mk (shut_int Try.underlying23 w2) (trodAll_cons_mk (shut_int Try.underlying23 w3) trodAll_mk0)))), rfl, bel.frame _, fun h => by cases h⟩

theorem over : Rows.bitopBackRow.holds Try.pinned (OpenSpec.ofChange Rows.bitopBackSpec) :=
  OpenClaim.holds_of_wide 7 Try.f7 rfl rfl rfl rfl rfl rfl rfl ⟨rfl, rfl, rfl, rfl, rfl⟩ rfl rfl rfl rfl rfl (by kernel_rfl) Try.func7 (by kernel_rfl)
    (of_decide_eq_true (by kernel_rfl)) (by unfold Func.isWrapper; first | (rw [if_pos (by decide +kernel)]; kernel_rfl) | (rw [if_neg (by decide +kernel)]; exact ⟨rfl, rfl⟩))
    (fun os started H enc _ => lifted os started H enc)

theorem proved : Rows.BitopBackSaid :=
  over
end Go.Proofs.Ytdnnlfpahnbfmaa.lawBitopBack
