/- The document's daa. -/
import Derived.Test.YtfjjipkieecpcaaMdAdjP
import Derived.Test.YtfjjipkieecpcaaRef1
namespace Go.Proofs.Ytfjjipkieecpcaa
open Go.RowKit Pl
set_option linter.unusedVariables false

theorem rt_has (fl k : Nat) : ((fl : Int) / (k : Int) % 2 == 1) = hasF fl k := by
  unfold hasF
  rw [Bool.eq_iff_iff]
  simp only [beq_iff_eq]
  have : (fl : Int) / (k : Int) = ((fl / k : Nat) : Int) := by simp
  rw [this]
  omega
theorem hasR1_ok (fl : Nat) (w : World) : Calls Try.prog 30 #[.int .u32 fl, .int .u32 1] w fun e w' => e = .returned (.bool (hasF fl 1)) ∧ w = w' := by
  have q : ((fl : Int) % 2 == 1) = hasF fl 1 := by
    rw [← rt_has fl 1]
    simp
  rw [← q]
  clear q
  go_enter Try.func30, Try.ntmps30
  go_wp2
  go_ret
  exact ⟨ret_bool rfl, rfl⟩
theorem hasR16_ok (fl : Nat) (w : World) : Calls Try.prog 30 #[.int .u32 fl, .int .u32 16] w fun e w' => e = .returned (.bool (hasF fl 16)) ∧ w = w' := by
  have q : ((fl : Int) / 16 % 2 == 1) = hasF fl 16 := rt_has fl 16
  rw [← q]
  clear q
  go_enter Try.func30, Try.ntmps30
  go_wp2
  go_ret
  exact ⟨ret_bool rfl, rfl⟩
theorem ret_xf {x y : Int} {f : Int} (h : x = y) : Ending.returned (.tuple #[.int .u64 x, .int .u32 f]) = Ending.returned (.tuple #[.int .u64 y, .int .u32 f]) := by rw [h]
theorem norm1 (fl : Nat) (c d a : Bool) : setF (setF (setF fl 1 c) 1 d) 16 a = setF (setF fl 1 d) 16 a := by
  apply Nat.eq_of_testBit_eq
  intro i
  simp only [setF1, setF16]
  by_cases h4 : i = 4
  · simp [h4]
  · by_cases h0 : i = 0
    · simp [h0]
    · simp [h4, h0]
theorem norm2 (fl : Nat) (c d a : Bool) : setF (setF (setF fl 1 c) 16 a) 1 d = setF (setF fl 1 d) 16 a := by
  apply Nat.eq_of_testBit_eq
  intro i
  simp only [setF1, setF16]
  by_cases h4 : i = 4
  · simp [h4]
  · by_cases h0 : i = 0
    · simp [h0]
    · simp [h4, h0]
theorem norm3 (fl : Nat) (c d a b : Bool) : setF (setF (setF (setF fl 1 c) 16 a) 1 d) 16 b = setF (setF fl 1 d) 16 b := by
  apply Nat.eq_of_testBit_eq
  intro i
  simp only [setF1, setF16]
  by_cases h4 : i = 4
  · simp [h4]
  · by_cases h0 : i = 0
    · simp [h0]
    · simp [h4, h0]
theorem has_kept (fl : Nat) (c : Bool) : hasF (setF fl 1 c) 16 = hasF fl 16 := by
  have h1 := hasF_bit (setF fl 1 c) 4
  have h2 := hasF_bit fl 4
  rw [show (2 : Nat) ^ 4 = 16 from rfl] at h1 h2
  rw [h1, h2, setF1]
  simp

set_option maxRecDepth 20000 in
set_option maxHeartbeats 1000000 in
theorem daa_agl (x fl f1 f2 f3 f4 : Nat) (cf : Bool) (hx : x < 256) (h1 : ((153 : Int) < (x : Int)) = True) (h9 : ((9 : Int) < (x : Int) % 16) = True) 
    (HC : ∀ w, Calls Try.prog 30 #[.int .u32 fl, .int .u32 1] w fun e w' => e = .returned (.bool cf) ∧ w = w') 
    (SC : ∀ w, Calls Try.prog 27 #[.int .u32 fl, .int .u32 1, .bool false] w fun e w' => e = .returned (.int .u32 f1) ∧ w = w') 
    (SA : ∀ w, Calls Try.prog 27 #[.int .u32 f1, .int .u32 16, .bool true] w fun e w' => e = .returned (.int .u32 f3) ∧ w = w') 
    (SH : ∀ w, Calls Try.prog 27 #[.int .u32 f3, .int .u32 1, .bool true] w fun e w' => e = .returned (.int .u32 f4) ∧ w = w') (w : World) :
    Calls Try.prog 31 #[.bool false, .int .u64 x, .int .u32 fl] w fun e w' => e = .returned (.tuple #[.int .u64 (((x + 6) % 256 + 96) % 256 : Nat), .int .u32 f4]) ∧ w = w' := by
  have HHC := hide HC
  have HSC := hide SC
  have HSA := hide SA
  have HSH := hide SH
  clear HC SC SA SH
  go_enter Try.func31, Try.ntmps31
  go_wp2_with fail
  refine (HHC.out _).mono ?_
  rintro e w' ⟨rfl, rfl⟩
  go_wp2_with fail
  refine (HSC.out _).mono ?_
  rintro e w' ⟨rfl, rfl⟩
  go_wp2_with fail
  refine (HSA.out _).mono ?_
  rintro e w' ⟨rfl, rfl⟩
  go_wp2_with fail
  refine (HSH.out _).mono ?_
  rintro e w' ⟨rfl, rfl⟩
  go_wp2
  go_ret2
  exact ⟨ret_xf (by first | rfl | omega), rfl⟩
set_option maxRecDepth 20000 in
set_option maxHeartbeats 1000000 in
theorem daa_agm (x fl f1 f2 f3 f4 : Nat) (cf : Bool) (hx : x < 256) (h1 : ((153 : Int) < (x : Int)) = True) (h9 : ((9 : Int) < (x : Int) % 16) = False) 
    (HC : ∀ w, Calls Try.prog 30 #[.int .u32 fl, .int .u32 1] w fun e w' => e = .returned (.bool cf) ∧ w = w') 
    (SC : ∀ w, Calls Try.prog 27 #[.int .u32 fl, .int .u32 1, .bool false] w fun e w' => e = .returned (.int .u32 f1) ∧ w = w') 
    (HA : ∀ w, Calls Try.prog 30 #[.int .u32 f1, .int .u32 16] w fun e w' => e = .returned (.bool true) ∧ w = w') 
    (SA : ∀ w, Calls Try.prog 27 #[.int .u32 f1, .int .u32 16, .bool true] w fun e w' => e = .returned (.int .u32 f3) ∧ w = w') 
    (SH : ∀ w, Calls Try.prog 27 #[.int .u32 f3, .int .u32 1, .bool true] w fun e w' => e = .returned (.int .u32 f4) ∧ w = w') (w : World) :
    Calls Try.prog 31 #[.bool false, .int .u64 x, .int .u32 fl] w fun e w' => e = .returned (.tuple #[.int .u64 (((x + 6) % 256 + 96) % 256 : Nat), .int .u32 f4]) ∧ w = w' := by
  have HHC := hide HC
  have HSC := hide SC
  have HHA := hide HA
  have HSA := hide SA
  have HSH := hide SH
  clear HC SC HA SA SH
  go_enter Try.func31, Try.ntmps31
  go_wp2_with fail
  refine (HHC.out _).mono ?_
  rintro e w' ⟨rfl, rfl⟩
  go_wp2_with fail
  refine (HSC.out _).mono ?_
  rintro e w' ⟨rfl, rfl⟩
  go_wp2_with fail
  refine (HHA.out _).mono ?_
  rintro e w' ⟨rfl, rfl⟩
  go_wp2_with fail
  refine (HSA.out _).mono ?_
  rintro e w' ⟨rfl, rfl⟩
  go_wp2_with fail
  refine (HSH.out _).mono ?_
  rintro e w' ⟨rfl, rfl⟩
  go_wp2
  go_ret2
  exact ⟨ret_xf (by first | rfl | omega), rfl⟩
set_option maxRecDepth 20000 in
set_option maxHeartbeats 1000000 in
theorem daa_agk (x fl f1 f2 f3 f4 : Nat) (cf : Bool) (hx : x < 256) (h1 : ((153 : Int) < (x : Int)) = True) (h9 : ((9 : Int) < (x : Int) % 16) = False) 
    (HC : ∀ w, Calls Try.prog 30 #[.int .u32 fl, .int .u32 1] w fun e w' => e = .returned (.bool cf) ∧ w = w') 
    (SC : ∀ w, Calls Try.prog 27 #[.int .u32 fl, .int .u32 1, .bool false] w fun e w' => e = .returned (.int .u32 f1) ∧ w = w') 
    (HA : ∀ w, Calls Try.prog 30 #[.int .u32 f1, .int .u32 16] w fun e w' => e = .returned (.bool false) ∧ w = w') 
    (SA : ∀ w, Calls Try.prog 27 #[.int .u32 f1, .int .u32 16, .bool false] w fun e w' => e = .returned (.int .u32 f3) ∧ w = w') 
    (SH : ∀ w, Calls Try.prog 27 #[.int .u32 f3, .int .u32 1, .bool true] w fun e w' => e = .returned (.int .u32 f4) ∧ w = w') (w : World) :
    Calls Try.prog 31 #[.bool false, .int .u64 x, .int .u32 fl] w fun e w' => e = .returned (.tuple #[.int .u64 ((x + 96) % 256 : Nat), .int .u32 f4]) ∧ w = w' := by
  have HHC := hide HC
  have HSC := hide SC
  have HHA := hide HA
  have HSA := hide SA
  have HSH := hide SH
  clear HC SC HA SA SH
  go_enter Try.func31, Try.ntmps31
  go_wp2_with fail
  refine (HHC.out _).mono ?_
  rintro e w' ⟨rfl, rfl⟩
  go_wp2_with fail
  refine (HSC.out _).mono ?_
  rintro e w' ⟨rfl, rfl⟩
  go_wp2_with fail
  refine (HHA.out _).mono ?_
  rintro e w' ⟨rfl, rfl⟩
  go_wp2_with fail
  refine (HSA.out _).mono ?_
  rintro e w' ⟨rfl, rfl⟩
  go_wp2_with fail
  refine (HSH.out _).mono ?_
  rintro e w' ⟨rfl, rfl⟩
  go_wp2
  go_ret2
  exact ⟨ret_xf (by first | rfl | omega), rfl⟩
set_option maxRecDepth 20000 in
set_option maxHeartbeats 1000000 in
theorem daa_acl (x fl f1 f2 f3 f4 : Nat) (hx : x < 256) (h1 : ((153 : Int) < (x : Int)) = False) (h9 : ((9 : Int) < (x : Int) % 16) = True) 
    (HC : ∀ w, Calls Try.prog 30 #[.int .u32 fl, .int .u32 1] w fun e w' => e = .returned (.bool true) ∧ w = w') 
    (SC : ∀ w, Calls Try.prog 27 #[.int .u32 fl, .int .u32 1, .bool false] w fun e w' => e = .returned (.int .u32 f1) ∧ w = w') 
    (SA : ∀ w, Calls Try.prog 27 #[.int .u32 f1, .int .u32 16, .bool true] w fun e w' => e = .returned (.int .u32 f3) ∧ w = w') 
    (SH : ∀ w, Calls Try.prog 27 #[.int .u32 f3, .int .u32 1, .bool true] w fun e w' => e = .returned (.int .u32 f4) ∧ w = w') (w : World) :
    Calls Try.prog 31 #[.bool false, .int .u64 x, .int .u32 fl] w fun e w' => e = .returned (.tuple #[.int .u64 (((x + 6) % 256 + 96) % 256 : Nat), .int .u32 f4]) ∧ w = w' := by
  have HHC := hide HC
  have HSC := hide SC
  have HSA := hide SA
  have HSH := hide SH
  clear HC SC SA SH
  go_enter Try.func31, Try.ntmps31
  go_wp2_with fail
  refine (HHC.out _).mono ?_
  rintro e w' ⟨rfl, rfl⟩
  go_wp2_with fail
  refine (HSC.out _).mono ?_
  rintro e w' ⟨rfl, rfl⟩
  go_wp2_with fail
  refine (HSA.out _).mono ?_
  rintro e w' ⟨rfl, rfl⟩
  go_wp2_with fail
  refine (HSH.out _).mono ?_
  rintro e w' ⟨rfl, rfl⟩
  go_wp2
  go_ret2
  exact ⟨ret_xf (by first | rfl | omega), rfl⟩
set_option maxRecDepth 20000 in
set_option maxHeartbeats 1000000 in
theorem daa_acm (x fl f1 f2 f3 f4 : Nat) (hx : x < 256) (h1 : ((153 : Int) < (x : Int)) = False) (h9 : ((9 : Int) < (x : Int) % 16) = False) 
    (HC : ∀ w, Calls Try.prog 30 #[.int .u32 fl, .int .u32 1] w fun e w' => e = .returned (.bool true) ∧ w = w') 
    (SC : ∀ w, Calls Try.prog 27 #[.int .u32 fl, .int .u32 1, .bool false] w fun e w' => e = .returned (.int .u32 f1) ∧ w = w') 
    (HA : ∀ w, Calls Try.prog 30 #[.int .u32 f1, .int .u32 16] w fun e w' => e = .returned (.bool true) ∧ w = w') 
    (SA : ∀ w, Calls Try.prog 27 #[.int .u32 f1, .int .u32 16, .bool true] w fun e w' => e = .returned (.int .u32 f3) ∧ w = w') 
    (SH : ∀ w, Calls Try.prog 27 #[.int .u32 f3, .int .u32 1, .bool true] w fun e w' => e = .returned (.int .u32 f4) ∧ w = w') (w : World) :
    Calls Try.prog 31 #[.bool false, .int .u64 x, .int .u32 fl] w fun e w' => e = .returned (.tuple #[.int .u64 (((x + 6) % 256 + 96) % 256 : Nat), .int .u32 f4]) ∧ w = w' := by
  have HHC := hide HC
  have HSC := hide SC
  have HHA := hide HA
  have HSA := hide SA
  have HSH := hide SH
  clear HC SC HA SA SH
  go_enter Try.func31, Try.ntmps31
  go_wp2_with fail
  refine (HHC.out _).mono ?_
  rintro e w' ⟨rfl, rfl⟩
  go_wp2_with fail
  refine (HSC.out _).mono ?_
  rintro e w' ⟨rfl, rfl⟩
  go_wp2_with fail
  refine (HHA.out _).mono ?_
  rintro e w' ⟨rfl, rfl⟩
  go_wp2_with fail
  refine (HSA.out _).mono ?_
  rintro e w' ⟨rfl, rfl⟩
  go_wp2_with fail
  refine (HSH.out _).mono ?_
  rintro e w' ⟨rfl, rfl⟩
  go_wp2
  go_ret2
  exact ⟨ret_xf (by first | rfl | omega), rfl⟩
set_option maxRecDepth 20000 in
set_option maxHeartbeats 1000000 in
theorem daa_ack (x fl f1 f2 f3 f4 : Nat) (hx : x < 256) (h1 : ((153 : Int) < (x : Int)) = False) (h9 : ((9 : Int) < (x : Int) % 16) = False) 
    (HC : ∀ w, Calls Try.prog 30 #[.int .u32 fl, .int .u32 1] w fun e w' => e = .returned (.bool true) ∧ w = w') 
    (SC : ∀ w, Calls Try.prog 27 #[.int .u32 fl, .int .u32 1, .bool false] w fun e w' => e = .returned (.int .u32 f1) ∧ w = w') 
    (HA : ∀ w, Calls Try.prog 30 #[.int .u32 f1, .int .u32 16] w fun e w' => e = .returned (.bool false) ∧ w = w') 
    (SA : ∀ w, Calls Try.prog 27 #[.int .u32 f1, .int .u32 16, .bool false] w fun e w' => e = .returned (.int .u32 f3) ∧ w = w') 
    (SH : ∀ w, Calls Try.prog 27 #[.int .u32 f3, .int .u32 1, .bool true] w fun e w' => e = .returned (.int .u32 f4) ∧ w = w') (w : World) :
    Calls Try.prog 31 #[.bool false, .int .u64 x, .int .u32 fl] w fun e w' => e = .returned (.tuple #[.int .u64 ((x + 96) % 256 : Nat), .int .u32 f4]) ∧ w = w' := by
  have HHC := hide HC
  have HSC := hide SC
  have HHA := hide HA
  have HSA := hide SA
  have HSH := hide SH
  clear HC SC HA SA SH
  go_enter Try.func31, Try.ntmps31
  go_wp2_with fail
  refine (HHC.out _).mono ?_
  rintro e w' ⟨rfl, rfl⟩
  go_wp2_with fail
  refine (HSC.out _).mono ?_
  rintro e w' ⟨rfl, rfl⟩
  go_wp2_with fail
  refine (HHA.out _).mono ?_
  rintro e w' ⟨rfl, rfl⟩
  go_wp2_with fail
  refine (HSA.out _).mono ?_
  rintro e w' ⟨rfl, rfl⟩
  go_wp2_with fail
  refine (HSH.out _).mono ?_
  rintro e w' ⟨rfl, rfl⟩
  go_wp2
  go_ret2
  exact ⟨ret_xf (by first | rfl | omega), rfl⟩
set_option maxRecDepth 20000 in
set_option maxHeartbeats 1000000 in
theorem daa_anl (x fl f1 f2 f3 f4 : Nat) (hx : x < 256) (h1 : ((153 : Int) < (x : Int)) = False) (h9 : ((9 : Int) < (x : Int) % 16) = True) 
    (HC : ∀ w, Calls Try.prog 30 #[.int .u32 fl, .int .u32 1] w fun e w' => e = .returned (.bool false) ∧ w = w') 
    (SC : ∀ w, Calls Try.prog 27 #[.int .u32 fl, .int .u32 1, .bool false] w fun e w' => e = .returned (.int .u32 f1) ∧ w = w') 
    (SA : ∀ w, Calls Try.prog 27 #[.int .u32 f1, .int .u32 16, .bool true] w fun e w' => e = .returned (.int .u32 f3) ∧ w = w') (w : World) :
    Calls Try.prog 31 #[.bool false, .int .u64 x, .int .u32 fl] w fun e w' => e = .returned (.tuple #[.int .u64 ((x + 6) % 256 : Nat), .int .u32 f3]) ∧ w = w' := by
  have HHC := hide HC
  have HSC := hide SC
  have HSA := hide SA
  clear HC SC SA
  go_enter Try.func31, Try.ntmps31
  go_wp2_with fail
  refine (HHC.out _).mono ?_
  rintro e w' ⟨rfl, rfl⟩
  go_wp2_with fail
  refine (HSC.out _).mono ?_
  rintro e w' ⟨rfl, rfl⟩
  go_wp2_with fail
  refine (HSA.out _).mono ?_
  rintro e w' ⟨rfl, rfl⟩
  go_wp2
  go_ret2
  exact ⟨ret_xf (by first | rfl | omega), rfl⟩
set_option maxRecDepth 20000 in
set_option maxHeartbeats 1000000 in
theorem daa_anm (x fl f1 f2 f3 f4 : Nat) (hx : x < 256) (h1 : ((153 : Int) < (x : Int)) = False) (h9 : ((9 : Int) < (x : Int) % 16) = False) 
    (HC : ∀ w, Calls Try.prog 30 #[.int .u32 fl, .int .u32 1] w fun e w' => e = .returned (.bool false) ∧ w = w') 
    (SC : ∀ w, Calls Try.prog 27 #[.int .u32 fl, .int .u32 1, .bool false] w fun e w' => e = .returned (.int .u32 f1) ∧ w = w') 
    (HA : ∀ w, Calls Try.prog 30 #[.int .u32 f1, .int .u32 16] w fun e w' => e = .returned (.bool true) ∧ w = w') 
    (SA : ∀ w, Calls Try.prog 27 #[.int .u32 f1, .int .u32 16, .bool true] w fun e w' => e = .returned (.int .u32 f3) ∧ w = w') (w : World) :
    Calls Try.prog 31 #[.bool false, .int .u64 x, .int .u32 fl] w fun e w' => e = .returned (.tuple #[.int .u64 ((x + 6) % 256 : Nat), .int .u32 f3]) ∧ w = w' := by
  have HHC := hide HC
  have HSC := hide SC
  have HHA := hide HA
  have HSA := hide SA
  clear HC SC HA SA
  go_enter Try.func31, Try.ntmps31
  go_wp2_with fail
  refine (HHC.out _).mono ?_
  rintro e w' ⟨rfl, rfl⟩
  go_wp2_with fail
  refine (HSC.out _).mono ?_
  rintro e w' ⟨rfl, rfl⟩
  go_wp2_with fail
  refine (HHA.out _).mono ?_
  rintro e w' ⟨rfl, rfl⟩
  go_wp2_with fail
  refine (HSA.out _).mono ?_
  rintro e w' ⟨rfl, rfl⟩
  go_wp2
  go_ret2
  exact ⟨ret_xf (by first | rfl | omega), rfl⟩
set_option maxRecDepth 20000 in
set_option maxHeartbeats 1000000 in
theorem daa_ank (x fl f1 f2 f3 f4 : Nat) (hx : x < 256) (h1 : ((153 : Int) < (x : Int)) = False) (h9 : ((9 : Int) < (x : Int) % 16) = False) 
    (HC : ∀ w, Calls Try.prog 30 #[.int .u32 fl, .int .u32 1] w fun e w' => e = .returned (.bool false) ∧ w = w') 
    (SC : ∀ w, Calls Try.prog 27 #[.int .u32 fl, .int .u32 1, .bool false] w fun e w' => e = .returned (.int .u32 f1) ∧ w = w') 
    (HA : ∀ w, Calls Try.prog 30 #[.int .u32 f1, .int .u32 16] w fun e w' => e = .returned (.bool false) ∧ w = w') 
    (SA : ∀ w, Calls Try.prog 27 #[.int .u32 f1, .int .u32 16, .bool false] w fun e w' => e = .returned (.int .u32 f3) ∧ w = w') (w : World) :
    Calls Try.prog 31 #[.bool false, .int .u64 x, .int .u32 fl] w fun e w' => e = .returned (.tuple #[.int .u64 (x : Nat), .int .u32 f3]) ∧ w = w' := by
  have HHC := hide HC
  have HSC := hide SC
  have HHA := hide HA
  have HSA := hide SA
  clear HC SC HA SA
  go_enter Try.func31, Try.ntmps31
  go_wp2_with fail
  refine (HHC.out _).mono ?_
  rintro e w' ⟨rfl, rfl⟩
  go_wp2_with fail
  refine (HSC.out _).mono ?_
  rintro e w' ⟨rfl, rfl⟩
  go_wp2_with fail
  refine (HHA.out _).mono ?_
  rintro e w' ⟨rfl, rfl⟩
  go_wp2_with fail
  refine (HSA.out _).mono ?_
  rintro e w' ⟨rfl, rfl⟩
  go_wp2
  go_ret2
  exact ⟨ret_xf (by first | rfl | omega), rfl⟩
set_option maxRecDepth 20000 in
set_option maxHeartbeats 1000000 in
theorem daa_sgl (x fl f1 f2 f3 f4 : Nat) (cf : Bool) (hx : x < 256) (h1 : ((153 : Int) < (x : Int)) = True) (h9 : ((9 : Int) < (x : Int) % 16) = True) 
    (HC : ∀ w, Calls Try.prog 30 #[.int .u32 fl, .int .u32 1] w fun e w' => e = .returned (.bool cf) ∧ w = w') 
    (SC : ∀ w, Calls Try.prog 27 #[.int .u32 fl, .int .u32 1, .bool false] w fun e w' => e = .returned (.int .u32 f1) ∧ w = w') 
    (S6 : ∀ w, Calls Try.prog 27 #[.int .u32 f1, .int .u32 1, .bool (decide ((x : Int) < 6))] w fun e w' => e = .returned (.int .u32 f2) ∧ w = w') 
    (SA : ∀ w, Calls Try.prog 27 #[.int .u32 f2, .int .u32 16, .bool true] w fun e w' => e = .returned (.int .u32 f3) ∧ w = w') 
    (SH : ∀ w, Calls Try.prog 27 #[.int .u32 f3, .int .u32 1, .bool true] w fun e w' => e = .returned (.int .u32 f4) ∧ w = w') (w : World) :
    Calls Try.prog 31 #[.bool true, .int .u64 x, .int .u32 fl] w fun e w' => e = .returned (.tuple #[.int .u64 (((x + 250) % 256 + 160) % 256 : Nat), .int .u32 f4]) ∧ w = w' := by
  have HHC := hide HC
  have HSC := hide SC
  have HS6 := hide S6
  have HSA := hide SA
  have HSH := hide SH
  clear HC SC S6 SA SH
  go_enter Try.func31, Try.ntmps31
  go_wp2_with fail
  refine (HHC.out _).mono ?_
  rintro e w' ⟨rfl, rfl⟩
  go_wp2_with fail
  refine (HSC.out _).mono ?_
  rintro e w' ⟨rfl, rfl⟩
  go_wp2_with fail
  refine (HS6.out _).mono ?_
  rintro e w' ⟨rfl, rfl⟩
  go_wp2_with fail
  refine (HSA.out _).mono ?_
  rintro e w' ⟨rfl, rfl⟩
  go_wp2_with fail
  refine (HSH.out _).mono ?_
  rintro e w' ⟨rfl, rfl⟩
  go_wp2
  go_ret2
  exact ⟨ret_xf (by first | rfl | omega), rfl⟩
set_option maxRecDepth 20000 in
set_option maxHeartbeats 1000000 in
theorem daa_sgm (x fl f1 f2 f3 f4 : Nat) (cf : Bool) (hx : x < 256) (h1 : ((153 : Int) < (x : Int)) = True) (h9 : ((9 : Int) < (x : Int) % 16) = False) 
    (HC : ∀ w, Calls Try.prog 30 #[.int .u32 fl, .int .u32 1] w fun e w' => e = .returned (.bool cf) ∧ w = w') 
    (SC : ∀ w, Calls Try.prog 27 #[.int .u32 fl, .int .u32 1, .bool false] w fun e w' => e = .returned (.int .u32 f1) ∧ w = w') 
    (HA : ∀ w, Calls Try.prog 30 #[.int .u32 f1, .int .u32 16] w fun e w' => e = .returned (.bool true) ∧ w = w') 
    (S6 : ∀ w, Calls Try.prog 27 #[.int .u32 f1, .int .u32 1, .bool (decide ((x : Int) < 6))] w fun e w' => e = .returned (.int .u32 f2) ∧ w = w') 
    (SA : ∀ w, Calls Try.prog 27 #[.int .u32 f2, .int .u32 16, .bool true] w fun e w' => e = .returned (.int .u32 f3) ∧ w = w') 
    (SH : ∀ w, Calls Try.prog 27 #[.int .u32 f3, .int .u32 1, .bool true] w fun e w' => e = .returned (.int .u32 f4) ∧ w = w') (w : World) :
    Calls Try.prog 31 #[.bool true, .int .u64 x, .int .u32 fl] w fun e w' => e = .returned (.tuple #[.int .u64 (((x + 250) % 256 + 160) % 256 : Nat), .int .u32 f4]) ∧ w = w' := by
  have HHC := hide HC
  have HSC := hide SC
  have HHA := hide HA
  have HS6 := hide S6
  have HSA := hide SA
  have HSH := hide SH
  clear HC SC HA S6 SA SH
  go_enter Try.func31, Try.ntmps31
  go_wp2_with fail
  refine (HHC.out _).mono ?_
  rintro e w' ⟨rfl, rfl⟩
  go_wp2_with fail
  refine (HSC.out _).mono ?_
  rintro e w' ⟨rfl, rfl⟩
  go_wp2_with fail
  refine (HHA.out _).mono ?_
  rintro e w' ⟨rfl, rfl⟩
  go_wp2_with fail
  refine (HS6.out _).mono ?_
  rintro e w' ⟨rfl, rfl⟩
  go_wp2_with fail
  refine (HSA.out _).mono ?_
  rintro e w' ⟨rfl, rfl⟩
  go_wp2_with fail
  refine (HSH.out _).mono ?_
  rintro e w' ⟨rfl, rfl⟩
  go_wp2
  go_ret2
  exact ⟨ret_xf (by first | rfl | omega), rfl⟩
set_option maxRecDepth 20000 in
set_option maxHeartbeats 1000000 in
theorem daa_sgk (x fl f1 f2 f3 f4 : Nat) (cf : Bool) (hx : x < 256) (h1 : ((153 : Int) < (x : Int)) = True) (h9 : ((9 : Int) < (x : Int) % 16) = False) 
    (HC : ∀ w, Calls Try.prog 30 #[.int .u32 fl, .int .u32 1] w fun e w' => e = .returned (.bool cf) ∧ w = w') 
    (SC : ∀ w, Calls Try.prog 27 #[.int .u32 fl, .int .u32 1, .bool false] w fun e w' => e = .returned (.int .u32 f1) ∧ w = w') 
    (HA : ∀ w, Calls Try.prog 30 #[.int .u32 f1, .int .u32 16] w fun e w' => e = .returned (.bool false) ∧ w = w') 
    (SA : ∀ w, Calls Try.prog 27 #[.int .u32 f1, .int .u32 16, .bool false] w fun e w' => e = .returned (.int .u32 f3) ∧ w = w') 
    (SH : ∀ w, Calls Try.prog 27 #[.int .u32 f3, .int .u32 1, .bool true] w fun e w' => e = .returned (.int .u32 f4) ∧ w = w') (w : World) :
    Calls Try.prog 31 #[.bool true, .int .u64 x, .int .u32 fl] w fun e w' => e = .returned (.tuple #[.int .u64 ((x + 160) % 256 : Nat), .int .u32 f4]) ∧ w = w' := by
  have HHC := hide HC
  have HSC := hide SC
  have HHA := hide HA
  have HSA := hide SA
  have HSH := hide SH
  clear HC SC HA SA SH
  go_enter Try.func31, Try.ntmps31
  go_wp2_with fail
  refine (HHC.out _).mono ?_
  rintro e w' ⟨rfl, rfl⟩
  go_wp2_with fail
  refine (HSC.out _).mono ?_
  rintro e w' ⟨rfl, rfl⟩
  go_wp2_with fail
  refine (HHA.out _).mono ?_
  rintro e w' ⟨rfl, rfl⟩
  go_wp2_with fail
  refine (HSA.out _).mono ?_
  rintro e w' ⟨rfl, rfl⟩
  go_wp2_with fail
  refine (HSH.out _).mono ?_
  rintro e w' ⟨rfl, rfl⟩
  go_wp2
  go_ret2
  exact ⟨ret_xf (by first | rfl | omega), rfl⟩
set_option maxRecDepth 20000 in
set_option maxHeartbeats 1000000 in
theorem daa_scl (x fl f1 f2 f3 f4 : Nat) (hx : x < 256) (h1 : ((153 : Int) < (x : Int)) = False) (h9 : ((9 : Int) < (x : Int) % 16) = True) 
    (HC : ∀ w, Calls Try.prog 30 #[.int .u32 fl, .int .u32 1] w fun e w' => e = .returned (.bool true) ∧ w = w') 
    (SC : ∀ w, Calls Try.prog 27 #[.int .u32 fl, .int .u32 1, .bool false] w fun e w' => e = .returned (.int .u32 f1) ∧ w = w') 
    (S6 : ∀ w, Calls Try.prog 27 #[.int .u32 f1, .int .u32 1, .bool (decide ((x : Int) < 6))] w fun e w' => e = .returned (.int .u32 f2) ∧ w = w') 
    (SA : ∀ w, Calls Try.prog 27 #[.int .u32 f2, .int .u32 16, .bool true] w fun e w' => e = .returned (.int .u32 f3) ∧ w = w') 
    (SH : ∀ w, Calls Try.prog 27 #[.int .u32 f3, .int .u32 1, .bool true] w fun e w' => e = .returned (.int .u32 f4) ∧ w = w') (w : World) :
    Calls Try.prog 31 #[.bool true, .int .u64 x, .int .u32 fl] w fun e w' => e = .returned (.tuple #[.int .u64 (((x + 250) % 256 + 160) % 256 : Nat), .int .u32 f4]) ∧ w = w' := by
  have HHC := hide HC
  have HSC := hide SC
  have HS6 := hide S6
  have HSA := hide SA
  have HSH := hide SH
  clear HC SC S6 SA SH
  go_enter Try.func31, Try.ntmps31
  go_wp2_with fail
  refine (HHC.out _).mono ?_
  rintro e w' ⟨rfl, rfl⟩
  go_wp2_with fail
  refine (HSC.out _).mono ?_
  rintro e w' ⟨rfl, rfl⟩
  go_wp2_with fail
  refine (HS6.out _).mono ?_
  rintro e w' ⟨rfl, rfl⟩
  go_wp2_with fail
  refine (HSA.out _).mono ?_
  rintro e w' ⟨rfl, rfl⟩
  go_wp2_with fail
  refine (HSH.out _).mono ?_
  rintro e w' ⟨rfl, rfl⟩
  go_wp2
  go_ret2
  exact ⟨ret_xf (by first | rfl | omega), rfl⟩
set_option maxRecDepth 20000 in
set_option maxHeartbeats 1000000 in
theorem daa_scm (x fl f1 f2 f3 f4 : Nat) (hx : x < 256) (h1 : ((153 : Int) < (x : Int)) = False) (h9 : ((9 : Int) < (x : Int) % 16) = False) 
    (HC : ∀ w, Calls Try.prog 30 #[.int .u32 fl, .int .u32 1] w fun e w' => e = .returned (.bool true) ∧ w = w') 
    (SC : ∀ w, Calls Try.prog 27 #[.int .u32 fl, .int .u32 1, .bool false] w fun e w' => e = .returned (.int .u32 f1) ∧ w = w') 
    (HA : ∀ w, Calls Try.prog 30 #[.int .u32 f1, .int .u32 16] w fun e w' => e = .returned (.bool true) ∧ w = w') 
    (S6 : ∀ w, Calls Try.prog 27 #[.int .u32 f1, .int .u32 1, .bool (decide ((x : Int) < 6))] w fun e w' => e = .returned (.int .u32 f2) ∧ w = w') 
    (SA : ∀ w, Calls Try.prog 27 #[.int .u32 f2, .int .u32 16, .bool true] w fun e w' => e = .returned (.int .u32 f3) ∧ w = w') 
    (SH : ∀ w, Calls Try.prog 27 #[.int .u32 f3, .int .u32 1, .bool true] w fun e w' => e = .returned (.int .u32 f4) ∧ w = w') (w : World) :
    Calls Try.prog 31 #[.bool true, .int .u64 x, .int .u32 fl] w fun e w' => e = .returned (.tuple #[.int .u64 (((x + 250) % 256 + 160) % 256 : Nat), .int .u32 f4]) ∧ w = w' := by
  have HHC := hide HC
  have HSC := hide SC
  have HHA := hide HA
  have HS6 := hide S6
  have HSA := hide SA
  have HSH := hide SH
  clear HC SC HA S6 SA SH
  go_enter Try.func31, Try.ntmps31
  go_wp2_with fail
  refine (HHC.out _).mono ?_
  rintro e w' ⟨rfl, rfl⟩
  go_wp2_with fail
  refine (HSC.out _).mono ?_
  rintro e w' ⟨rfl, rfl⟩
  go_wp2_with fail
  refine (HHA.out _).mono ?_
  rintro e w' ⟨rfl, rfl⟩
  go_wp2_with fail
  refine (HS6.out _).mono ?_
  rintro e w' ⟨rfl, rfl⟩
  go_wp2_with fail
  refine (HSA.out _).mono ?_
  rintro e w' ⟨rfl, rfl⟩
  go_wp2_with fail
  refine (HSH.out _).mono ?_
  rintro e w' ⟨rfl, rfl⟩
  go_wp2
  go_ret2
  exact ⟨ret_xf (by first | rfl | omega), rfl⟩
set_option maxRecDepth 20000 in
set_option maxHeartbeats 1000000 in
theorem daa_sck (x fl f1 f2 f3 f4 : Nat) (hx : x < 256) (h1 : ((153 : Int) < (x : Int)) = False) (h9 : ((9 : Int) < (x : Int) % 16) = False) 
    (HC : ∀ w, Calls Try.prog 30 #[.int .u32 fl, .int .u32 1] w fun e w' => e = .returned (.bool true) ∧ w = w') 
    (SC : ∀ w, Calls Try.prog 27 #[.int .u32 fl, .int .u32 1, .bool false] w fun e w' => e = .returned (.int .u32 f1) ∧ w = w') 
    (HA : ∀ w, Calls Try.prog 30 #[.int .u32 f1, .int .u32 16] w fun e w' => e = .returned (.bool false) ∧ w = w') 
    (SA : ∀ w, Calls Try.prog 27 #[.int .u32 f1, .int .u32 16, .bool false] w fun e w' => e = .returned (.int .u32 f3) ∧ w = w') 
    (SH : ∀ w, Calls Try.prog 27 #[.int .u32 f3, .int .u32 1, .bool true] w fun e w' => e = .returned (.int .u32 f4) ∧ w = w') (w : World) :
    Calls Try.prog 31 #[.bool true, .int .u64 x, .int .u32 fl] w fun e w' => e = .returned (.tuple #[.int .u64 ((x + 160) % 256 : Nat), .int .u32 f4]) ∧ w = w' := by
  have HHC := hide HC
  have HSC := hide SC
  have HHA := hide HA
  have HSA := hide SA
  have HSH := hide SH
  clear HC SC HA SA SH
  go_enter Try.func31, Try.ntmps31
  go_wp2_with fail
  refine (HHC.out _).mono ?_
  rintro e w' ⟨rfl, rfl⟩
  go_wp2_with fail
  refine (HSC.out _).mono ?_
  rintro e w' ⟨rfl, rfl⟩
  go_wp2_with fail
  refine (HHA.out _).mono ?_
  rintro e w' ⟨rfl, rfl⟩
  go_wp2_with fail
  refine (HSA.out _).mono ?_
  rintro e w' ⟨rfl, rfl⟩
  go_wp2_with fail
  refine (HSH.out _).mono ?_
  rintro e w' ⟨rfl, rfl⟩
  go_wp2
  go_ret2
  exact ⟨ret_xf (by first | rfl | omega), rfl⟩
set_option maxRecDepth 20000 in
set_option maxHeartbeats 1000000 in
theorem daa_snl (x fl f1 f2 f3 f4 : Nat) (hx : x < 256) (h1 : ((153 : Int) < (x : Int)) = False) (h9 : ((9 : Int) < (x : Int) % 16) = True) 
    (HC : ∀ w, Calls Try.prog 30 #[.int .u32 fl, .int .u32 1] w fun e w' => e = .returned (.bool false) ∧ w = w') 
    (SC : ∀ w, Calls Try.prog 27 #[.int .u32 fl, .int .u32 1, .bool false] w fun e w' => e = .returned (.int .u32 f1) ∧ w = w') 
    (S6 : ∀ w, Calls Try.prog 27 #[.int .u32 f1, .int .u32 1, .bool (decide ((x : Int) < 6))] w fun e w' => e = .returned (.int .u32 f2) ∧ w = w') 
    (SA : ∀ w, Calls Try.prog 27 #[.int .u32 f2, .int .u32 16, .bool true] w fun e w' => e = .returned (.int .u32 f3) ∧ w = w') (w : World) :
    Calls Try.prog 31 #[.bool true, .int .u64 x, .int .u32 fl] w fun e w' => e = .returned (.tuple #[.int .u64 ((x + 250) % 256 : Nat), .int .u32 f3]) ∧ w = w' := by
  have HHC := hide HC
  have HSC := hide SC
  have HS6 := hide S6
  have HSA := hide SA
  clear HC SC S6 SA
  go_enter Try.func31, Try.ntmps31
  go_wp2_with fail
  refine (HHC.out _).mono ?_
  rintro e w' ⟨rfl, rfl⟩
  go_wp2_with fail
  refine (HSC.out _).mono ?_
  rintro e w' ⟨rfl, rfl⟩
  go_wp2_with fail
  refine (HS6.out _).mono ?_
  rintro e w' ⟨rfl, rfl⟩
  go_wp2_with fail
  refine (HSA.out _).mono ?_
  rintro e w' ⟨rfl, rfl⟩
  go_wp2
  go_ret2
  exact ⟨ret_xf (by first | rfl | omega), rfl⟩
set_option maxRecDepth 20000 in
set_option maxHeartbeats 1000000 in
theorem daa_snm (x fl f1 f2 f3 f4 : Nat) (hx : x < 256) (h1 : ((153 : Int) < (x : Int)) = False) (h9 : ((9 : Int) < (x : Int) % 16) = False) 
    (HC : ∀ w, Calls Try.prog 30 #[.int .u32 fl, .int .u32 1] w fun e w' => e = .returned (.bool false) ∧ w = w') 
    (SC : ∀ w, Calls Try.prog 27 #[.int .u32 fl, .int .u32 1, .bool false] w fun e w' => e = .returned (.int .u32 f1) ∧ w = w') 
    (HA : ∀ w, Calls Try.prog 30 #[.int .u32 f1, .int .u32 16] w fun e w' => e = .returned (.bool true) ∧ w = w') 
    (S6 : ∀ w, Calls Try.prog 27 #[.int .u32 f1, .int .u32 1, .bool (decide ((x : Int) < 6))] w fun e w' => e = .returned (.int .u32 f2) ∧ w = w') 
    (SA : ∀ w, Calls Try.prog 27 #[.int .u32 f2, .int .u32 16, .bool true] w fun e w' => e = .returned (.int .u32 f3) ∧ w = w') (w : World) :
    Calls Try.prog 31 #[.bool true, .int .u64 x, .int .u32 fl] w fun e w' => e = .returned (.tuple #[.int .u64 ((x + 250) % 256 : Nat), .int .u32 f3]) ∧ w = w' := by
  have HHC := hide HC
  have HSC := hide SC
  have HHA := hide HA
  have HS6 := hide S6
  have HSA := hide SA
  clear HC SC HA S6 SA
  go_enter Try.func31, Try.ntmps31
  go_wp2_with fail
  refine (HHC.out _).mono ?_
  rintro e w' ⟨rfl, rfl⟩
  go_wp2_with fail
  refine (HSC.out _).mono ?_
  rintro e w' ⟨rfl, rfl⟩
  go_wp2_with fail
  refine (HHA.out _).mono ?_
  rintro e w' ⟨rfl, rfl⟩
  go_wp2_with fail
  refine (HS6.out _).mono ?_
  rintro e w' ⟨rfl, rfl⟩
  go_wp2_with fail
  refine (HSA.out _).mono ?_
  rintro e w' ⟨rfl, rfl⟩
  go_wp2
  go_ret2
  exact ⟨ret_xf (by first | rfl | omega), rfl⟩
set_option maxRecDepth 20000 in
set_option maxHeartbeats 1000000 in
theorem daa_snk (x fl f1 f2 f3 f4 : Nat) (hx : x < 256) (h1 : ((153 : Int) < (x : Int)) = False) (h9 : ((9 : Int) < (x : Int) % 16) = False) 
    (HC : ∀ w, Calls Try.prog 30 #[.int .u32 fl, .int .u32 1] w fun e w' => e = .returned (.bool false) ∧ w = w') 
    (SC : ∀ w, Calls Try.prog 27 #[.int .u32 fl, .int .u32 1, .bool false] w fun e w' => e = .returned (.int .u32 f1) ∧ w = w') 
    (HA : ∀ w, Calls Try.prog 30 #[.int .u32 f1, .int .u32 16] w fun e w' => e = .returned (.bool false) ∧ w = w') 
    (SA : ∀ w, Calls Try.prog 27 #[.int .u32 f1, .int .u32 16, .bool false] w fun e w' => e = .returned (.int .u32 f3) ∧ w = w') (w : World) :
    Calls Try.prog 31 #[.bool true, .int .u64 x, .int .u32 fl] w fun e w' => e = .returned (.tuple #[.int .u64 (x : Nat), .int .u32 f3]) ∧ w = w' := by
  have HHC := hide HC
  have HSC := hide SC
  have HHA := hide HA
  have HSA := hide SA
  clear HC SC HA SA
  go_enter Try.func31, Try.ntmps31
  go_wp2_with fail
  refine (HHC.out _).mono ?_
  rintro e w' ⟨rfl, rfl⟩
  go_wp2_with fail
  refine (HSC.out _).mono ?_
  rintro e w' ⟨rfl, rfl⟩
  go_wp2_with fail
  refine (HHA.out _).mono ?_
  rintro e w' ⟨rfl, rfl⟩
  go_wp2_with fail
  refine (HSA.out _).mono ?_
  rintro e w' ⟨rfl, rfl⟩
  go_wp2
  go_ret2
  exact ⟨ret_xf (by first | rfl | omega), rfl⟩
theorem lt_noR {a b : Int} (h : ¬ a < b) : (a < b) = False := by
  rw [eq_iff_iff, iff_false]
  exact h
theorem lt_yesR {a b : Int} (h : a < b) : (a < b) = True := by
  rw [eq_iff_iff, iff_true]
  exact h
/-- the document's Daa and Das -/
theorem daa_ok (less : Bool) (x fl : Nat) (hx : x < 256) (hf : fl < 4294967296) (w : World) :
    Calls Try.prog 31 #[.bool less, .int .u64 x, .int .u32 fl] w fun e w' => e = .returned (.tuple #[.int .u64 ((pkA less x (hasF fl 1) (hasF fl 16) : Nat) : Int), .int .u32 ((setF (setF fl 1 (pkC less x (hasF fl 1) (hasF fl 16))) 16 (loB x (hasF fl 16)) : Nat) : Int)]) ∧ w = w' := by
  have HC := hasR1_ok fl
  have HA := hasR16_ok (setF fl 1 false)
  rw [has_kept] at HA
  have SC := fun w => set_ok fl 1 false (by decide) hf w
  have l1 : setF fl 1 false < 4294967296 := lt1 _ hf
  have S6 := fun w => set_ok (setF fl 1 false) 1 (decide ((x : Int) < 6)) (by decide) l1 w
  have l2 : setF (setF fl 1 false) 1 (decide ((x : Int) < 6)) < 4294967296 := lt1 _ l1
  have SA1 := fun (a : Bool) w => set_ok (setF fl 1 false) 16 a (by decide) l1 w
  have l3 : ∀ a, setF (setF fl 1 false) 16 a < 4294967296 := fun a => lt16 a l1
  have SA2 := fun (a : Bool) w => set_ok (setF (setF fl 1 false) 1 (decide ((x : Int) < 6))) 16 a (by decide) l2 w
  have l4 : ∀ a, setF (setF (setF fl 1 false) 1 (decide ((x : Int) < 6))) 16 a < 4294967296 := fun a => lt16 a l2
  have SH1 := fun (a : Bool) w => set_ok (setF (setF fl 1 false) 16 a) 1 true (by decide) (l3 a) w
  have SH2 := fun (a : Bool) w => set_ok (setF (setF (setF fl 1 false) 1 (decide ((x : Int) < 6))) 16 a) 1 true (by decide) (l4 a) w
  simp only [Int.reduceToNat] at SC S6 SA1 SA2 SH1 SH2
  have e6 : decide ((x : Int) < 6) = decide (x < 6) := by
    rw [Bool.eq_iff_iff]
    simp only [decide_eq_true_eq]
    omega
  generalize hcf : hasF fl 1 = cf at *
  generalize haf : hasF fl 16 = af at *
  clear hcf haf
  cases less
  · by_cases h1 : (153 : Int) < (x : Int)
    · skip
      by_cases h9 : (9 : Int) < (x : Int) % 16
      · skip
        have el : loB x af = true := by simp [loB, decide_eq_true (show 9 < x % 16 by omega)]
        have eh : hiB x cf = true := by simp [hiB, decide_eq_true (show 153 < x by omega)]
        have e1 : pkA false x cf af = ((x + 6) % 256 + 96) % 256 := by simp [pkA, pkL, el, eh]
        have e2 : pkC false x cf af = true := by simp [pkC, eh]
        have e3 : setF (setF (setF fl 1 false) 16 true) 1 true = setF (setF fl 1 true) 16 true := norm2 _ _ _ _
        rw [e1, e2, el, ← e3]
        exact daa_agl x fl _ 0 _ _ cf hx (lt_yesR h1) (lt_yesR h9) HC SC (SA1 true) (SH1 true) w
      · cases af
        · skip
          have el : loB x false = false := by simp [loB, decide_eq_false (show ¬ 9 < x % 16 by omega)]
          have eh : hiB x cf = true := by simp [hiB, decide_eq_true (show 153 < x by omega)]
          have e1 : pkA false x cf false = (x + 96) % 256 := by simp [pkA, pkL, el, eh]
          have e2 : pkC false x cf false = true := by simp [pkC, eh]
          have e3 : setF (setF (setF fl 1 false) 16 false) 1 true = setF (setF fl 1 true) 16 false := norm2 _ _ _ _
          rw [e1, e2, el, ← e3]
          exact daa_agk x fl _ 0 _ _ cf hx (lt_yesR h1) (lt_noR h9) HC SC HA (SA1 false) (SH1 false) w
        · skip
          have el : loB x true = true := by simp [loB, decide_eq_false (show ¬ 9 < x % 16 by omega)]
          have eh : hiB x cf = true := by simp [hiB, decide_eq_true (show 153 < x by omega)]
          have e1 : pkA false x cf true = ((x + 6) % 256 + 96) % 256 := by simp [pkA, pkL, el, eh]
          have e2 : pkC false x cf true = true := by simp [pkC, eh]
          have e3 : setF (setF (setF fl 1 false) 16 true) 1 true = setF (setF fl 1 true) 16 true := norm2 _ _ _ _
          rw [e1, e2, el, ← e3]
          exact daa_agm x fl _ 0 _ _ cf hx (lt_yesR h1) (lt_noR h9) HC SC HA (SA1 true) (SH1 true) w
    · cases cf
      · skip
        by_cases h9 : (9 : Int) < (x : Int) % 16
        · skip
          have el : loB x af = true := by simp [loB, decide_eq_true (show 9 < x % 16 by omega)]
          have eh : hiB x false = false := by simp [hiB, decide_eq_false (show ¬ 153 < x by omega)]
          have e1 : pkA false x false af = (x + 6) % 256 := by simp [pkA, pkL, el, eh]
          have e2 : pkC false x false af = false := by simp [pkC, eh]
          have e3 : setF (setF fl 1 false) 16 true = setF (setF fl 1 false) 16 true := rfl
          rw [e1, e2, el, ← e3]
          exact daa_anl x fl _ 0 _ 0 hx (lt_noR h1) (lt_yesR h9) HC SC (SA1 true) w
        · cases af
          · skip
            have el : loB x false = false := by simp [loB, decide_eq_false (show ¬ 9 < x % 16 by omega)]
            have eh : hiB x false = false := by simp [hiB, decide_eq_false (show ¬ 153 < x by omega)]
            have e1 : pkA false x false false = x := by simp [pkA, pkL, el, eh]
            have e2 : pkC false x false false = false := by simp [pkC, eh]
            have e3 : setF (setF fl 1 false) 16 false = setF (setF fl 1 false) 16 false := rfl
            rw [e1, e2, el, ← e3]
            exact daa_ank x fl _ 0 _ 0 hx (lt_noR h1) (lt_noR h9) HC SC HA (SA1 false) w
          · skip
            have el : loB x true = true := by simp [loB, decide_eq_false (show ¬ 9 < x % 16 by omega)]
            have eh : hiB x false = false := by simp [hiB, decide_eq_false (show ¬ 153 < x by omega)]
            have e1 : pkA false x false true = (x + 6) % 256 := by simp [pkA, pkL, el, eh]
            have e2 : pkC false x false true = false := by simp [pkC, eh]
            have e3 : setF (setF fl 1 false) 16 true = setF (setF fl 1 false) 16 true := rfl
            rw [e1, e2, el, ← e3]
            exact daa_anm x fl _ 0 _ 0 hx (lt_noR h1) (lt_noR h9) HC SC HA (SA1 true) w
      · skip
        by_cases h9 : (9 : Int) < (x : Int) % 16
        · skip
          have el : loB x af = true := by simp [loB, decide_eq_true (show 9 < x % 16 by omega)]
          have eh : hiB x true = true := by simp [hiB, decide_eq_false (show ¬ 153 < x by omega)]
          have e1 : pkA false x true af = ((x + 6) % 256 + 96) % 256 := by simp [pkA, pkL, el, eh]
          have e2 : pkC false x true af = true := by simp [pkC, eh]
          have e3 : setF (setF (setF fl 1 false) 16 true) 1 true = setF (setF fl 1 true) 16 true := norm2 _ _ _ _
          rw [e1, e2, el, ← e3]
          exact daa_acl x fl _ 0 _ _ hx (lt_noR h1) (lt_yesR h9) HC SC (SA1 true) (SH1 true) w
        · cases af
          · skip
            have el : loB x false = false := by simp [loB, decide_eq_false (show ¬ 9 < x % 16 by omega)]
            have eh : hiB x true = true := by simp [hiB, decide_eq_false (show ¬ 153 < x by omega)]
            have e1 : pkA false x true false = (x + 96) % 256 := by simp [pkA, pkL, el, eh]
            have e2 : pkC false x true false = true := by simp [pkC, eh]
            have e3 : setF (setF (setF fl 1 false) 16 false) 1 true = setF (setF fl 1 true) 16 false := norm2 _ _ _ _
            rw [e1, e2, el, ← e3]
            exact daa_ack x fl _ 0 _ _ hx (lt_noR h1) (lt_noR h9) HC SC HA (SA1 false) (SH1 false) w
          · skip
            have el : loB x true = true := by simp [loB, decide_eq_false (show ¬ 9 < x % 16 by omega)]
            have eh : hiB x true = true := by simp [hiB, decide_eq_false (show ¬ 153 < x by omega)]
            have e1 : pkA false x true true = ((x + 6) % 256 + 96) % 256 := by simp [pkA, pkL, el, eh]
            have e2 : pkC false x true true = true := by simp [pkC, eh]
            have e3 : setF (setF (setF fl 1 false) 16 true) 1 true = setF (setF fl 1 true) 16 true := norm2 _ _ _ _
            rw [e1, e2, el, ← e3]
            exact daa_acm x fl _ 0 _ _ hx (lt_noR h1) (lt_noR h9) HC SC HA (SA1 true) (SH1 true) w
  · by_cases h1 : (153 : Int) < (x : Int)
    · skip
      by_cases h9 : (9 : Int) < (x : Int) % 16
      · skip
        have el : loB x af = true := by simp [loB, decide_eq_true (show 9 < x % 16 by omega)]
        have eh : hiB x cf = true := by simp [hiB, decide_eq_true (show 153 < x by omega)]
        have e1 : pkA true x cf af = ((x + 250) % 256 + 160) % 256 := by simp [pkA, pkL, el, eh]
        have e2 : pkC true x cf af = true := by simp [pkC, eh]
        have e3 : setF (setF (setF (setF fl 1 false) 1 (decide ((x : Int) < 6))) 16 true) 1 true = setF (setF fl 1 true) 16 true := by rw [norm2, norm1]
        rw [e1, e2, el, ← e3]
        exact daa_sgl x fl _ _ _ _ cf hx (lt_yesR h1) (lt_yesR h9) HC SC S6 (SA2 true) (SH2 true) w
      · cases af
        · skip
          have el : loB x false = false := by simp [loB, decide_eq_false (show ¬ 9 < x % 16 by omega)]
          have eh : hiB x cf = true := by simp [hiB, decide_eq_true (show 153 < x by omega)]
          have e1 : pkA true x cf false = (x + 160) % 256 := by simp [pkA, pkL, el, eh]
          have e2 : pkC true x cf false = true := by simp [pkC, eh]
          have e3 : setF (setF (setF fl 1 false) 16 false) 1 true = setF (setF fl 1 true) 16 false := norm2 _ _ _ _
          rw [e1, e2, el, ← e3]
          exact daa_sgk x fl _ 0 _ _ cf hx (lt_yesR h1) (lt_noR h9) HC SC HA (SA1 false) (SH1 false) w
        · skip
          have el : loB x true = true := by simp [loB, decide_eq_false (show ¬ 9 < x % 16 by omega)]
          have eh : hiB x cf = true := by simp [hiB, decide_eq_true (show 153 < x by omega)]
          have e1 : pkA true x cf true = ((x + 250) % 256 + 160) % 256 := by simp [pkA, pkL, el, eh]
          have e2 : pkC true x cf true = true := by simp [pkC, eh]
          have e3 : setF (setF (setF (setF fl 1 false) 1 (decide ((x : Int) < 6))) 16 true) 1 true = setF (setF fl 1 true) 16 true := by rw [norm2, norm1]
          rw [e1, e2, el, ← e3]
          exact daa_sgm x fl _ _ _ _ cf hx (lt_yesR h1) (lt_noR h9) HC SC HA S6 (SA2 true) (SH2 true) w
    · cases cf
      · skip
        by_cases h9 : (9 : Int) < (x : Int) % 16
        · skip
          have el : loB x af = true := by simp [loB, decide_eq_true (show 9 < x % 16 by omega)]
          have eh : hiB x false = false := by simp [hiB, decide_eq_false (show ¬ 153 < x by omega)]
          have e1 : pkA true x false af = (x + 250) % 256 := by simp [pkA, pkL, el, eh]
          have e2 : pkC true x false af = (decide ((x : Int) < 6)) := by rw [e6]; simp [pkC, el, eh]
          have e3 : setF (setF (setF fl 1 false) 1 (decide ((x : Int) < 6))) 16 true = setF (setF fl 1 (decide ((x : Int) < 6))) 16 true := norm1 _ _ _ _
          rw [e1, e2, el, ← e3]
          exact daa_snl x fl _ _ _ 0 hx (lt_noR h1) (lt_yesR h9) HC SC S6 (SA2 true) w
        · cases af
          · skip
            have el : loB x false = false := by simp [loB, decide_eq_false (show ¬ 9 < x % 16 by omega)]
            have eh : hiB x false = false := by simp [hiB, decide_eq_false (show ¬ 153 < x by omega)]
            have e1 : pkA true x false false = x := by simp [pkA, pkL, el, eh]
            have e2 : pkC true x false false = false := by simp [pkC, el, eh]
            have e3 : setF (setF fl 1 false) 16 false = setF (setF fl 1 false) 16 false := rfl
            rw [e1, e2, el, ← e3]
            exact daa_snk x fl _ 0 _ 0 hx (lt_noR h1) (lt_noR h9) HC SC HA (SA1 false) w
          · skip
            have el : loB x true = true := by simp [loB, decide_eq_false (show ¬ 9 < x % 16 by omega)]
            have eh : hiB x false = false := by simp [hiB, decide_eq_false (show ¬ 153 < x by omega)]
            have e1 : pkA true x false true = (x + 250) % 256 := by simp [pkA, pkL, el, eh]
            have e2 : pkC true x false true = (decide ((x : Int) < 6)) := by rw [e6]; simp [pkC, el, eh]
            have e3 : setF (setF (setF fl 1 false) 1 (decide ((x : Int) < 6))) 16 true = setF (setF fl 1 (decide ((x : Int) < 6))) 16 true := norm1 _ _ _ _
            rw [e1, e2, el, ← e3]
            exact daa_snm x fl _ _ _ 0 hx (lt_noR h1) (lt_noR h9) HC SC HA S6 (SA2 true) w
      · skip
        by_cases h9 : (9 : Int) < (x : Int) % 16
        · skip
          have el : loB x af = true := by simp [loB, decide_eq_true (show 9 < x % 16 by omega)]
          have eh : hiB x true = true := by simp [hiB, decide_eq_false (show ¬ 153 < x by omega)]
          have e1 : pkA true x true af = ((x + 250) % 256 + 160) % 256 := by simp [pkA, pkL, el, eh]
          have e2 : pkC true x true af = true := by simp [pkC, eh]
          have e3 : setF (setF (setF (setF fl 1 false) 1 (decide ((x : Int) < 6))) 16 true) 1 true = setF (setF fl 1 true) 16 true := by rw [norm2, norm1]
          rw [e1, e2, el, ← e3]
          exact daa_scl x fl _ _ _ _ hx (lt_noR h1) (lt_yesR h9) HC SC S6 (SA2 true) (SH2 true) w
        · cases af
          · skip
            have el : loB x false = false := by simp [loB, decide_eq_false (show ¬ 9 < x % 16 by omega)]
            have eh : hiB x true = true := by simp [hiB, decide_eq_false (show ¬ 153 < x by omega)]
            have e1 : pkA true x true false = (x + 160) % 256 := by simp [pkA, pkL, el, eh]
            have e2 : pkC true x true false = true := by simp [pkC, eh]
            have e3 : setF (setF (setF fl 1 false) 16 false) 1 true = setF (setF fl 1 true) 16 false := norm2 _ _ _ _
            rw [e1, e2, el, ← e3]
            exact daa_sck x fl _ 0 _ _ hx (lt_noR h1) (lt_noR h9) HC SC HA (SA1 false) (SH1 false) w
          · skip
            have el : loB x true = true := by simp [loB, decide_eq_false (show ¬ 9 < x % 16 by omega)]
            have eh : hiB x true = true := by simp [hiB, decide_eq_false (show ¬ 153 < x by omega)]
            have e1 : pkA true x true true = ((x + 250) % 256 + 160) % 256 := by simp [pkA, pkL, el, eh]
            have e2 : pkC true x true true = true := by simp [pkC, eh]
            have e3 : setF (setF (setF (setF fl 1 false) 1 (decide ((x : Int) < 6))) 16 true) 1 true = setF (setF fl 1 true) 16 true := by rw [norm2, norm1]
            rw [e1, e2, el, ← e3]
            exact daa_scm x fl _ _ _ _ hx (lt_noR h1) (lt_noR h9) HC SC HA S6 (SA2 true) (SH2 true) w
end Go.Proofs.Ytfjjipkieecpcaa
