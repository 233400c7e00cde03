/- The law MuldivDigits: for every input the call returns true; its arguments are as they were. -/
import Derived.Test.YtfjjipkieecpcaaMdAwake
import Derived.Test.YtfjjipkieecpcaaMdAdjA
import Derived.Test.YtfjjipkieecpcaaMdDgPl
import Derived.Test.YtfjjipkieecpcaaRows
import Derived.ProofKit
import Derived.OpenShut
import Derived.ChangeOld
namespace Go.Proofs.Ytfjjipkieecpcaa.lawMuldivDigits
open Go.ChangeShapes Go.WideShapes Go.ChangeAt Go.RowKit Pl
set_option linter.unusedVariables false

set_option maxRecDepth 100000 in
set_option maxHeartbeats 4000000 in
theorem walk_ffff (a base b A x y m n p q r s G1 G2 F : Nat) (ha : a < 4294967296) (hba : base < 4294967296) (hb' : b < 4294967296) (hF : F < 4294967296)
    (eA : ((A : Int) != (a : Int) % 256) = false) (tb : ((base : Int) % 256 != 0) = false) (em : (a : Int) % 100 = (m : Int)) (hm : m < 100) (en : (b : Int) % 100 = (n : Int)) (hn : n < 100)
    (ep : (m : Int) / 10 * 16 + (m : Int) % 10 = (p : Int)) (hp : p < 160) (eq : (n : Int) / 10 * 16 + (n : Int) % 10 = (q : Int)) (hq : q < 160) (hr : r = (p + q) % 256)
    (t1 : ((15 : Int) < (p : Int) % 16 + (q : Int) % 16) = False) (t2 : ((255 : Int) < (p : Int) + (q : Int)) = False) (t3 : ((99 : Int) < (m : Int) + (n : Int)) = False)
    (es : ((m : Int) + (n : Int)) % 100 / 10 * 16 + ((m : Int) + (n : Int)) % 10 = (s : Int)) (hs : s < 160) (eF : ((F : Int) % 2 == 1) = false)
    (C1 : ∀ w, Calls Try.prog 16 #[.int .i64 4, .int .u32 a, .int .u32 0, .int .u32 base, .int .u32 0] w fun en w' => en = .returned (.tuple #[.int .u32 (x : Int), .int .u32 (y : Int), .int .u32 (G1 : Int), .bool false, .int .i64 0]) ∧ Below w.heap.size w w')
    (C3 : ∀ z : Int, z = (r : Int) → ∀ w, Calls Try.prog 16 #[.int .i64 0, .int .u32 z, .int .u32 0, .int .u32 0, .int .u32 0] w fun en w' => en = .returned (.tuple #[.int .u32 (s : Int), .int .u32 0, .int .u32 (F : Int), .bool true, .int .i64 0]) ∧ Below w.heap.size w w') (w : World) :
    Calls Try.prog 10 #[.int .u32 a, .int .u32 base, .int .u32 b] w fun e w' => e = .returned (.bool true) ∧ Below w.heap.size w w' := by
  have H1 := hide C1
  have H3 := hide C3
  have Hes := hide es
  have Ht3 := hide t3
  have HeF := hide eF
  have Hhr := hide hr
  have HeA := hide eA
  clear C1 C3 es t3 eF hr eA
  go_enter Try.func10, Try.ntmps10
  go_wp2_with fail
  refine (awake_ok _).mono ?_
  rintro e w1 ⟨rfl, hb⟩
  go_wp2_with fail
  refine (H1.out _).mono ?_
  rintro e w1 ⟨rfl, h2⟩
  replace hb := hb.trans (h2.mono hb.size)
  clear h2
  go_wp2_with fail
  refine (H3.out _ (by have := Hhr.out; omega) _).mono ?_
  rintro e w1 ⟨rfl, h2⟩
  replace hb := hb.trans (h2.mono hb.size)
  clear h2
  have es := Hes.out
  have t3 := Ht3.out
  have eF := HeF.out
  clear Hes Ht3 HeF Hhr HeA ep eq t1 t2 tb
  go_wp2
  go_ret
  exact ⟨by simp, hb⟩
set_option maxRecDepth 100000 in
set_option maxHeartbeats 4000000 in
theorem walk_ffft (a base b A x y m n p q r s G1 G2 F : Nat) (ha : a < 4294967296) (hba : base < 4294967296) (hb' : b < 4294967296) (hF : F < 4294967296)
    (eA : ((A : Int) != (a : Int) % 256) = false) (tb : ((base : Int) % 256 != 0) = false) (em : (a : Int) % 100 = (m : Int)) (hm : m < 100) (en : (b : Int) % 100 = (n : Int)) (hn : n < 100)
    (ep : (m : Int) / 10 * 16 + (m : Int) % 10 = (p : Int)) (hp : p < 160) (eq : (n : Int) / 10 * 16 + (n : Int) % 10 = (q : Int)) (hq : q < 160) (hr : r = (p + q) % 256)
    (t1 : ((15 : Int) < (p : Int) % 16 + (q : Int) % 16) = False) (t2 : ((255 : Int) < (p : Int) + (q : Int)) = False) (t3 : ((99 : Int) < (m : Int) + (n : Int)) = True)
    (es : ((m : Int) + (n : Int)) % 100 / 10 * 16 + ((m : Int) + (n : Int)) % 10 = (s : Int)) (hs : s < 160) (eF : ((F : Int) % 2 == 1) = true)
    (C1 : ∀ w, Calls Try.prog 16 #[.int .i64 4, .int .u32 a, .int .u32 0, .int .u32 base, .int .u32 0] w fun en w' => en = .returned (.tuple #[.int .u32 (x : Int), .int .u32 (y : Int), .int .u32 (G1 : Int), .bool false, .int .i64 0]) ∧ Below w.heap.size w w')
    (C3 : ∀ z : Int, z = (r : Int) → ∀ w, Calls Try.prog 16 #[.int .i64 0, .int .u32 z, .int .u32 0, .int .u32 0, .int .u32 0] w fun en w' => en = .returned (.tuple #[.int .u32 (s : Int), .int .u32 0, .int .u32 (F : Int), .bool true, .int .i64 0]) ∧ Below w.heap.size w w') (w : World) :
    Calls Try.prog 10 #[.int .u32 a, .int .u32 base, .int .u32 b] w fun e w' => e = .returned (.bool true) ∧ Below w.heap.size w w' := by
  have H1 := hide C1
  have H3 := hide C3
  have Hes := hide es
  have Ht3 := hide t3
  have HeF := hide eF
  have Hhr := hide hr
  have HeA := hide eA
  clear C1 C3 es t3 eF hr eA
  go_enter Try.func10, Try.ntmps10
  go_wp2_with fail
  refine (awake_ok _).mono ?_
  rintro e w1 ⟨rfl, hb⟩
  go_wp2_with fail
  refine (H1.out _).mono ?_
  rintro e w1 ⟨rfl, h2⟩
  replace hb := hb.trans (h2.mono hb.size)
  clear h2
  go_wp2_with fail
  refine (H3.out _ (by have := Hhr.out; omega) _).mono ?_
  rintro e w1 ⟨rfl, h2⟩
  replace hb := hb.trans (h2.mono hb.size)
  clear h2
  have es := Hes.out
  have t3 := Ht3.out
  have eF := HeF.out
  clear Hes Ht3 HeF Hhr HeA ep eq t1 t2 tb
  go_wp2
  go_ret
  exact ⟨by simp, hb⟩
set_option maxRecDepth 100000 in
set_option maxHeartbeats 4000000 in
theorem walk_fftf (a base b A x y m n p q r s G1 G2 F : Nat) (ha : a < 4294967296) (hba : base < 4294967296) (hb' : b < 4294967296) (hF : F < 4294967296)
    (eA : ((A : Int) != (a : Int) % 256) = false) (tb : ((base : Int) % 256 != 0) = false) (em : (a : Int) % 100 = (m : Int)) (hm : m < 100) (en : (b : Int) % 100 = (n : Int)) (hn : n < 100)
    (ep : (m : Int) / 10 * 16 + (m : Int) % 10 = (p : Int)) (hp : p < 160) (eq : (n : Int) / 10 * 16 + (n : Int) % 10 = (q : Int)) (hq : q < 160) (hr : r = (p + q) % 256)
    (t1 : ((15 : Int) < (p : Int) % 16 + (q : Int) % 16) = False) (t2 : ((255 : Int) < (p : Int) + (q : Int)) = True) (t3 : ((99 : Int) < (m : Int) + (n : Int)) = False)
    (es : ((m : Int) + (n : Int)) % 100 / 10 * 16 + ((m : Int) + (n : Int)) % 10 = (s : Int)) (hs : s < 160) (eF : ((F : Int) % 2 == 1) = false)
    (C1 : ∀ w, Calls Try.prog 16 #[.int .i64 4, .int .u32 a, .int .u32 0, .int .u32 base, .int .u32 0] w fun en w' => en = .returned (.tuple #[.int .u32 (x : Int), .int .u32 (y : Int), .int .u32 (G1 : Int), .bool false, .int .i64 0]) ∧ Below w.heap.size w w')
    (C3 : ∀ z : Int, z = (r : Int) → ∀ w, Calls Try.prog 16 #[.int .i64 0, .int .u32 z, .int .u32 0, .int .u32 0, .int .u32 1] w fun en w' => en = .returned (.tuple #[.int .u32 (s : Int), .int .u32 0, .int .u32 (F : Int), .bool true, .int .i64 0]) ∧ Below w.heap.size w w') (w : World) :
    Calls Try.prog 10 #[.int .u32 a, .int .u32 base, .int .u32 b] w fun e w' => e = .returned (.bool true) ∧ Below w.heap.size w w' := by
  have H1 := hide C1
  have H3 := hide C3
  have Hes := hide es
  have Ht3 := hide t3
  have HeF := hide eF
  have Hhr := hide hr
  have HeA := hide eA
  clear C1 C3 es t3 eF hr eA
  go_enter Try.func10, Try.ntmps10
  go_wp2_with fail
  refine (awake_ok _).mono ?_
  rintro e w1 ⟨rfl, hb⟩
  go_wp2_with fail
  refine (H1.out _).mono ?_
  rintro e w1 ⟨rfl, h2⟩
  replace hb := hb.trans (h2.mono hb.size)
  clear h2
  go_wp2_with fail
  refine (H3.out _ (by have := Hhr.out; omega) _).mono ?_
  rintro e w1 ⟨rfl, h2⟩
  replace hb := hb.trans (h2.mono hb.size)
  clear h2
  have es := Hes.out
  have t3 := Ht3.out
  have eF := HeF.out
  clear Hes Ht3 HeF Hhr HeA ep eq t1 t2 tb
  go_wp2
  go_ret
  exact ⟨by simp, hb⟩
set_option maxRecDepth 100000 in
set_option maxHeartbeats 4000000 in
theorem walk_fftt (a base b A x y m n p q r s G1 G2 F : Nat) (ha : a < 4294967296) (hba : base < 4294967296) (hb' : b < 4294967296) (hF : F < 4294967296)
    (eA : ((A : Int) != (a : Int) % 256) = false) (tb : ((base : Int) % 256 != 0) = false) (em : (a : Int) % 100 = (m : Int)) (hm : m < 100) (en : (b : Int) % 100 = (n : Int)) (hn : n < 100)
    (ep : (m : Int) / 10 * 16 + (m : Int) % 10 = (p : Int)) (hp : p < 160) (eq : (n : Int) / 10 * 16 + (n : Int) % 10 = (q : Int)) (hq : q < 160) (hr : r = (p + q) % 256)
    (t1 : ((15 : Int) < (p : Int) % 16 + (q : Int) % 16) = False) (t2 : ((255 : Int) < (p : Int) + (q : Int)) = True) (t3 : ((99 : Int) < (m : Int) + (n : Int)) = True)
    (es : ((m : Int) + (n : Int)) % 100 / 10 * 16 + ((m : Int) + (n : Int)) % 10 = (s : Int)) (hs : s < 160) (eF : ((F : Int) % 2 == 1) = true)
    (C1 : ∀ w, Calls Try.prog 16 #[.int .i64 4, .int .u32 a, .int .u32 0, .int .u32 base, .int .u32 0] w fun en w' => en = .returned (.tuple #[.int .u32 (x : Int), .int .u32 (y : Int), .int .u32 (G1 : Int), .bool false, .int .i64 0]) ∧ Below w.heap.size w w')
    (C3 : ∀ z : Int, z = (r : Int) → ∀ w, Calls Try.prog 16 #[.int .i64 0, .int .u32 z, .int .u32 0, .int .u32 0, .int .u32 1] w fun en w' => en = .returned (.tuple #[.int .u32 (s : Int), .int .u32 0, .int .u32 (F : Int), .bool true, .int .i64 0]) ∧ Below w.heap.size w w') (w : World) :
    Calls Try.prog 10 #[.int .u32 a, .int .u32 base, .int .u32 b] w fun e w' => e = .returned (.bool true) ∧ Below w.heap.size w w' := by
  have H1 := hide C1
  have H3 := hide C3
  have Hes := hide es
  have Ht3 := hide t3
  have HeF := hide eF
  have Hhr := hide hr
  have HeA := hide eA
  clear C1 C3 es t3 eF hr eA
  go_enter Try.func10, Try.ntmps10
  go_wp2_with fail
  refine (awake_ok _).mono ?_
  rintro e w1 ⟨rfl, hb⟩
  go_wp2_with fail
  refine (H1.out _).mono ?_
  rintro e w1 ⟨rfl, h2⟩
  replace hb := hb.trans (h2.mono hb.size)
  clear h2
  go_wp2_with fail
  refine (H3.out _ (by have := Hhr.out; omega) _).mono ?_
  rintro e w1 ⟨rfl, h2⟩
  replace hb := hb.trans (h2.mono hb.size)
  clear h2
  have es := Hes.out
  have t3 := Ht3.out
  have eF := HeF.out
  clear Hes Ht3 HeF Hhr HeA ep eq t1 t2 tb
  go_wp2
  go_ret
  exact ⟨by simp, hb⟩
set_option maxRecDepth 100000 in
set_option maxHeartbeats 4000000 in
theorem walk_ftff (a base b A x y m n p q r s G1 G2 F : Nat) (ha : a < 4294967296) (hba : base < 4294967296) (hb' : b < 4294967296) (hF : F < 4294967296)
    (eA : ((A : Int) != (a : Int) % 256) = false) (tb : ((base : Int) % 256 != 0) = false) (em : (a : Int) % 100 = (m : Int)) (hm : m < 100) (en : (b : Int) % 100 = (n : Int)) (hn : n < 100)
    (ep : (m : Int) / 10 * 16 + (m : Int) % 10 = (p : Int)) (hp : p < 160) (eq : (n : Int) / 10 * 16 + (n : Int) % 10 = (q : Int)) (hq : q < 160) (hr : r = (p + q) % 256)
    (t1 : ((15 : Int) < (p : Int) % 16 + (q : Int) % 16) = True) (t2 : ((255 : Int) < (p : Int) + (q : Int)) = False) (t3 : ((99 : Int) < (m : Int) + (n : Int)) = False)
    (es : ((m : Int) + (n : Int)) % 100 / 10 * 16 + ((m : Int) + (n : Int)) % 10 = (s : Int)) (hs : s < 160) (eF : ((F : Int) % 2 == 1) = false)
    (C1 : ∀ w, Calls Try.prog 16 #[.int .i64 4, .int .u32 a, .int .u32 0, .int .u32 base, .int .u32 0] w fun en w' => en = .returned (.tuple #[.int .u32 (x : Int), .int .u32 (y : Int), .int .u32 (G1 : Int), .bool false, .int .i64 0]) ∧ Below w.heap.size w w')
    (C3 : ∀ z : Int, z = (r : Int) → ∀ w, Calls Try.prog 16 #[.int .i64 0, .int .u32 z, .int .u32 0, .int .u32 0, .int .u32 16] w fun en w' => en = .returned (.tuple #[.int .u32 (s : Int), .int .u32 0, .int .u32 (F : Int), .bool true, .int .i64 0]) ∧ Below w.heap.size w w') (w : World) :
    Calls Try.prog 10 #[.int .u32 a, .int .u32 base, .int .u32 b] w fun e w' => e = .returned (.bool true) ∧ Below w.heap.size w w' := by
  have H1 := hide C1
  have H3 := hide C3
  have Hes := hide es
  have Ht3 := hide t3
  have HeF := hide eF
  have Hhr := hide hr
  have HeA := hide eA
  clear C1 C3 es t3 eF hr eA
  go_enter Try.func10, Try.ntmps10
  go_wp2_with fail
  refine (awake_ok _).mono ?_
  rintro e w1 ⟨rfl, hb⟩
  go_wp2_with fail
  refine (H1.out _).mono ?_
  rintro e w1 ⟨rfl, h2⟩
  replace hb := hb.trans (h2.mono hb.size)
  clear h2
  go_wp2_with fail
  refine (H3.out _ (by have := Hhr.out; omega) _).mono ?_
  rintro e w1 ⟨rfl, h2⟩
  replace hb := hb.trans (h2.mono hb.size)
  clear h2
  have es := Hes.out
  have t3 := Ht3.out
  have eF := HeF.out
  clear Hes Ht3 HeF Hhr HeA ep eq t1 t2 tb
  go_wp2
  go_ret
  exact ⟨by simp, hb⟩
set_option maxRecDepth 100000 in
set_option maxHeartbeats 4000000 in
theorem walk_ftft (a base b A x y m n p q r s G1 G2 F : Nat) (ha : a < 4294967296) (hba : base < 4294967296) (hb' : b < 4294967296) (hF : F < 4294967296)
    (eA : ((A : Int) != (a : Int) % 256) = false) (tb : ((base : Int) % 256 != 0) = false) (em : (a : Int) % 100 = (m : Int)) (hm : m < 100) (en : (b : Int) % 100 = (n : Int)) (hn : n < 100)
    (ep : (m : Int) / 10 * 16 + (m : Int) % 10 = (p : Int)) (hp : p < 160) (eq : (n : Int) / 10 * 16 + (n : Int) % 10 = (q : Int)) (hq : q < 160) (hr : r = (p + q) % 256)
    (t1 : ((15 : Int) < (p : Int) % 16 + (q : Int) % 16) = True) (t2 : ((255 : Int) < (p : Int) + (q : Int)) = False) (t3 : ((99 : Int) < (m : Int) + (n : Int)) = True)
    (es : ((m : Int) + (n : Int)) % 100 / 10 * 16 + ((m : Int) + (n : Int)) % 10 = (s : Int)) (hs : s < 160) (eF : ((F : Int) % 2 == 1) = true)
    (C1 : ∀ w, Calls Try.prog 16 #[.int .i64 4, .int .u32 a, .int .u32 0, .int .u32 base, .int .u32 0] w fun en w' => en = .returned (.tuple #[.int .u32 (x : Int), .int .u32 (y : Int), .int .u32 (G1 : Int), .bool false, .int .i64 0]) ∧ Below w.heap.size w w')
    (C3 : ∀ z : Int, z = (r : Int) → ∀ w, Calls Try.prog 16 #[.int .i64 0, .int .u32 z, .int .u32 0, .int .u32 0, .int .u32 16] w fun en w' => en = .returned (.tuple #[.int .u32 (s : Int), .int .u32 0, .int .u32 (F : Int), .bool true, .int .i64 0]) ∧ Below w.heap.size w w') (w : World) :
    Calls Try.prog 10 #[.int .u32 a, .int .u32 base, .int .u32 b] w fun e w' => e = .returned (.bool true) ∧ Below w.heap.size w w' := by
  have H1 := hide C1
  have H3 := hide C3
  have Hes := hide es
  have Ht3 := hide t3
  have HeF := hide eF
  have Hhr := hide hr
  have HeA := hide eA
  clear C1 C3 es t3 eF hr eA
  go_enter Try.func10, Try.ntmps10
  go_wp2_with fail
  refine (awake_ok _).mono ?_
  rintro e w1 ⟨rfl, hb⟩
  go_wp2_with fail
  refine (H1.out _).mono ?_
  rintro e w1 ⟨rfl, h2⟩
  replace hb := hb.trans (h2.mono hb.size)
  clear h2
  go_wp2_with fail
  refine (H3.out _ (by have := Hhr.out; omega) _).mono ?_
  rintro e w1 ⟨rfl, h2⟩
  replace hb := hb.trans (h2.mono hb.size)
  clear h2
  have es := Hes.out
  have t3 := Ht3.out
  have eF := HeF.out
  clear Hes Ht3 HeF Hhr HeA ep eq t1 t2 tb
  go_wp2
  go_ret
  exact ⟨by simp, hb⟩
set_option maxRecDepth 100000 in
set_option maxHeartbeats 4000000 in
theorem walk_fttf (a base b A x y m n p q r s G1 G2 F : Nat) (ha : a < 4294967296) (hba : base < 4294967296) (hb' : b < 4294967296) (hF : F < 4294967296)
    (eA : ((A : Int) != (a : Int) % 256) = false) (tb : ((base : Int) % 256 != 0) = false) (em : (a : Int) % 100 = (m : Int)) (hm : m < 100) (en : (b : Int) % 100 = (n : Int)) (hn : n < 100)
    (ep : (m : Int) / 10 * 16 + (m : Int) % 10 = (p : Int)) (hp : p < 160) (eq : (n : Int) / 10 * 16 + (n : Int) % 10 = (q : Int)) (hq : q < 160) (hr : r = (p + q) % 256)
    (t1 : ((15 : Int) < (p : Int) % 16 + (q : Int) % 16) = True) (t2 : ((255 : Int) < (p : Int) + (q : Int)) = True) (t3 : ((99 : Int) < (m : Int) + (n : Int)) = False)
    (es : ((m : Int) + (n : Int)) % 100 / 10 * 16 + ((m : Int) + (n : Int)) % 10 = (s : Int)) (hs : s < 160) (eF : ((F : Int) % 2 == 1) = false)
    (C1 : ∀ w, Calls Try.prog 16 #[.int .i64 4, .int .u32 a, .int .u32 0, .int .u32 base, .int .u32 0] w fun en w' => en = .returned (.tuple #[.int .u32 (x : Int), .int .u32 (y : Int), .int .u32 (G1 : Int), .bool false, .int .i64 0]) ∧ Below w.heap.size w w')
    (C3 : ∀ z : Int, z = (r : Int) → ∀ w, Calls Try.prog 16 #[.int .i64 0, .int .u32 z, .int .u32 0, .int .u32 0, .int .u32 17] w fun en w' => en = .returned (.tuple #[.int .u32 (s : Int), .int .u32 0, .int .u32 (F : Int), .bool true, .int .i64 0]) ∧ Below w.heap.size w w') (w : World) :
    Calls Try.prog 10 #[.int .u32 a, .int .u32 base, .int .u32 b] w fun e w' => e = .returned (.bool true) ∧ Below w.heap.size w w' := by
  have H1 := hide C1
  have H3 := hide C3
  have Hes := hide es
  have Ht3 := hide t3
  have HeF := hide eF
  have Hhr := hide hr
  have HeA := hide eA
  clear C1 C3 es t3 eF hr eA
  go_enter Try.func10, Try.ntmps10
  go_wp2_with fail
  refine (awake_ok _).mono ?_
  rintro e w1 ⟨rfl, hb⟩
  go_wp2_with fail
  refine (H1.out _).mono ?_
  rintro e w1 ⟨rfl, h2⟩
  replace hb := hb.trans (h2.mono hb.size)
  clear h2
  go_wp2_with fail
  refine (H3.out _ (by have := Hhr.out; omega) _).mono ?_
  rintro e w1 ⟨rfl, h2⟩
  replace hb := hb.trans (h2.mono hb.size)
  clear h2
  have es := Hes.out
  have t3 := Ht3.out
  have eF := HeF.out
  clear Hes Ht3 HeF Hhr HeA ep eq t1 t2 tb
  go_wp2
  go_ret
  exact ⟨by simp, hb⟩
set_option maxRecDepth 100000 in
set_option maxHeartbeats 4000000 in
theorem walk_fttt (a base b A x y m n p q r s G1 G2 F : Nat) (ha : a < 4294967296) (hba : base < 4294967296) (hb' : b < 4294967296) (hF : F < 4294967296)
    (eA : ((A : Int) != (a : Int) % 256) = false) (tb : ((base : Int) % 256 != 0) = false) (em : (a : Int) % 100 = (m : Int)) (hm : m < 100) (en : (b : Int) % 100 = (n : Int)) (hn : n < 100)
    (ep : (m : Int) / 10 * 16 + (m : Int) % 10 = (p : Int)) (hp : p < 160) (eq : (n : Int) / 10 * 16 + (n : Int) % 10 = (q : Int)) (hq : q < 160) (hr : r = (p + q) % 256)
    (t1 : ((15 : Int) < (p : Int) % 16 + (q : Int) % 16) = True) (t2 : ((255 : Int) < (p : Int) + (q : Int)) = True) (t3 : ((99 : Int) < (m : Int) + (n : Int)) = True)
    (es : ((m : Int) + (n : Int)) % 100 / 10 * 16 + ((m : Int) + (n : Int)) % 10 = (s : Int)) (hs : s < 160) (eF : ((F : Int) % 2 == 1) = true)
    (C1 : ∀ w, Calls Try.prog 16 #[.int .i64 4, .int .u32 a, .int .u32 0, .int .u32 base, .int .u32 0] w fun en w' => en = .returned (.tuple #[.int .u32 (x : Int), .int .u32 (y : Int), .int .u32 (G1 : Int), .bool false, .int .i64 0]) ∧ Below w.heap.size w w')
    (C3 : ∀ z : Int, z = (r : Int) → ∀ w, Calls Try.prog 16 #[.int .i64 0, .int .u32 z, .int .u32 0, .int .u32 0, .int .u32 17] w fun en w' => en = .returned (.tuple #[.int .u32 (s : Int), .int .u32 0, .int .u32 (F : Int), .bool true, .int .i64 0]) ∧ Below w.heap.size w w') (w : World) :
    Calls Try.prog 10 #[.int .u32 a, .int .u32 base, .int .u32 b] w fun e w' => e = .returned (.bool true) ∧ Below w.heap.size w w' := by
  have H1 := hide C1
  have H3 := hide C3
  have Hes := hide es
  have Ht3 := hide t3
  have HeF := hide eF
  have Hhr := hide hr
  have HeA := hide eA
  clear C1 C3 es t3 eF hr eA
  go_enter Try.func10, Try.ntmps10
  go_wp2_with fail
  refine (awake_ok _).mono ?_
  rintro e w1 ⟨rfl, hb⟩
  go_wp2_with fail
  refine (H1.out _).mono ?_
  rintro e w1 ⟨rfl, h2⟩
  replace hb := hb.trans (h2.mono hb.size)
  clear h2
  go_wp2_with fail
  refine (H3.out _ (by have := Hhr.out; omega) _).mono ?_
  rintro e w1 ⟨rfl, h2⟩
  replace hb := hb.trans (h2.mono hb.size)
  clear h2
  have es := Hes.out
  have t3 := Ht3.out
  have eF := HeF.out
  clear Hes Ht3 HeF Hhr HeA ep eq t1 t2 tb
  go_wp2
  go_ret
  exact ⟨by simp, hb⟩
set_option maxRecDepth 100000 in
set_option maxHeartbeats 4000000 in
theorem walk_tfff (a base b A x y m n p q r s G1 G2 F : Nat) (ha : a < 4294967296) (hba : base < 4294967296) (hb' : b < 4294967296) (hF : F < 4294967296)
    (eA : ((A : Int) != (a : Int) % 256) = false) (tb : ((base : Int) % 256 != 0) = true) (em : (a : Int) % 100 = (m : Int)) (hm : m < 100) (en : (b : Int) % 100 = (n : Int)) (hn : n < 100)
    (ep : (m : Int) / 10 * 16 + (m : Int) % 10 = (p : Int)) (hp : p < 160) (eq : (n : Int) / 10 * 16 + (n : Int) % 10 = (q : Int)) (hq : q < 160) (hr : r = (p + q) % 256)
    (t1 : ((15 : Int) < (p : Int) % 16 + (q : Int) % 16) = False) (t2 : ((255 : Int) < (p : Int) + (q : Int)) = False) (t3 : ((99 : Int) < (m : Int) + (n : Int)) = False)
    (es : ((m : Int) + (n : Int)) % 100 / 10 * 16 + ((m : Int) + (n : Int)) % 10 = (s : Int)) (hs : s < 160) (eF : ((F : Int) % 2 == 1) = false)
    (C1 : ∀ w, Calls Try.prog 16 #[.int .i64 4, .int .u32 a, .int .u32 0, .int .u32 base, .int .u32 0] w fun en w' => en = .returned (.tuple #[.int .u32 (x : Int), .int .u32 (y : Int), .int .u32 (G1 : Int), .bool true, .int .i64 0]) ∧ Below w.heap.size w w')
    (C2 : ∀ w, Calls Try.prog 16 #[.int .i64 5, .int .u32 (x : Int), .int .u32 (y : Int), .int .u32 base, .int .u32 0] w fun en w' => en = .returned (.tuple #[.int .u32 (A : Int), .int .u32 0, .int .u32 (G2 : Int), .bool true, .int .i64 0]) ∧ Below w.heap.size w w')
    (C3 : ∀ z : Int, z = (r : Int) → ∀ w, Calls Try.prog 16 #[.int .i64 0, .int .u32 z, .int .u32 0, .int .u32 0, .int .u32 0] w fun en w' => en = .returned (.tuple #[.int .u32 (s : Int), .int .u32 0, .int .u32 (F : Int), .bool true, .int .i64 0]) ∧ Below w.heap.size w w') (w : World) :
    Calls Try.prog 10 #[.int .u32 a, .int .u32 base, .int .u32 b] w fun e w' => e = .returned (.bool true) ∧ Below w.heap.size w w' := by
  have H1 := hide C1
  have H2 := hide C2
  have H3 := hide C3
  have Hes := hide es
  have Ht3 := hide t3
  have HeF := hide eF
  have Hhr := hide hr
  have HeA := hide eA
  clear C1 C2 C3 es t3 eF hr eA
  go_enter Try.func10, Try.ntmps10
  go_wp2_with fail
  refine (awake_ok _).mono ?_
  rintro e w1 ⟨rfl, hb⟩
  go_wp2_with fail
  refine (H1.out _).mono ?_
  rintro e w1 ⟨rfl, h2⟩
  replace hb := hb.trans (h2.mono hb.size)
  clear h2
  go_wp2_with fail
  refine (H2.out _).mono ?_
  rintro e w1 ⟨rfl, h2⟩
  replace hb := hb.trans (h2.mono hb.size)
  clear h2
  have eA := HeA.out
  go_wp2_with fail
  refine (H3.out _ (by have := Hhr.out; omega) _).mono ?_
  rintro e w1 ⟨rfl, h2⟩
  replace hb := hb.trans (h2.mono hb.size)
  clear h2
  have es := Hes.out
  have t3 := Ht3.out
  have eF := HeF.out
  clear Hes Ht3 HeF Hhr HeA ep eq t1 t2 tb
  go_wp2
  go_ret
  exact ⟨by simp, hb⟩
set_option maxRecDepth 100000 in
set_option maxHeartbeats 4000000 in
theorem walk_tfft (a base b A x y m n p q r s G1 G2 F : Nat) (ha : a < 4294967296) (hba : base < 4294967296) (hb' : b < 4294967296) (hF : F < 4294967296)
    (eA : ((A : Int) != (a : Int) % 256) = false) (tb : ((base : Int) % 256 != 0) = true) (em : (a : Int) % 100 = (m : Int)) (hm : m < 100) (en : (b : Int) % 100 = (n : Int)) (hn : n < 100)
    (ep : (m : Int) / 10 * 16 + (m : Int) % 10 = (p : Int)) (hp : p < 160) (eq : (n : Int) / 10 * 16 + (n : Int) % 10 = (q : Int)) (hq : q < 160) (hr : r = (p + q) % 256)
    (t1 : ((15 : Int) < (p : Int) % 16 + (q : Int) % 16) = False) (t2 : ((255 : Int) < (p : Int) + (q : Int)) = False) (t3 : ((99 : Int) < (m : Int) + (n : Int)) = True)
    (es : ((m : Int) + (n : Int)) % 100 / 10 * 16 + ((m : Int) + (n : Int)) % 10 = (s : Int)) (hs : s < 160) (eF : ((F : Int) % 2 == 1) = true)
    (C1 : ∀ w, Calls Try.prog 16 #[.int .i64 4, .int .u32 a, .int .u32 0, .int .u32 base, .int .u32 0] w fun en w' => en = .returned (.tuple #[.int .u32 (x : Int), .int .u32 (y : Int), .int .u32 (G1 : Int), .bool true, .int .i64 0]) ∧ Below w.heap.size w w')
    (C2 : ∀ w, Calls Try.prog 16 #[.int .i64 5, .int .u32 (x : Int), .int .u32 (y : Int), .int .u32 base, .int .u32 0] w fun en w' => en = .returned (.tuple #[.int .u32 (A : Int), .int .u32 0, .int .u32 (G2 : Int), .bool true, .int .i64 0]) ∧ Below w.heap.size w w')
    (C3 : ∀ z : Int, z = (r : Int) → ∀ w, Calls Try.prog 16 #[.int .i64 0, .int .u32 z, .int .u32 0, .int .u32 0, .int .u32 0] w fun en w' => en = .returned (.tuple #[.int .u32 (s : Int), .int .u32 0, .int .u32 (F : Int), .bool true, .int .i64 0]) ∧ Below w.heap.size w w') (w : World) :
    Calls Try.prog 10 #[.int .u32 a, .int .u32 base, .int .u32 b] w fun e w' => e = .returned (.bool true) ∧ Below w.heap.size w w' := by
  have H1 := hide C1
  have H2 := hide C2
  have H3 := hide C3
  have Hes := hide es
  have Ht3 := hide t3
  have HeF := hide eF
  have Hhr := hide hr
  have HeA := hide eA
  clear C1 C2 C3 es t3 eF hr eA
  go_enter Try.func10, Try.ntmps10
  go_wp2_with fail
  refine (awake_ok _).mono ?_
  rintro e w1 ⟨rfl, hb⟩
  go_wp2_with fail
  refine (H1.out _).mono ?_
  rintro e w1 ⟨rfl, h2⟩
  replace hb := hb.trans (h2.mono hb.size)
  clear h2
  go_wp2_with fail
  refine (H2.out _).mono ?_
  rintro e w1 ⟨rfl, h2⟩
  replace hb := hb.trans (h2.mono hb.size)
  clear h2
  have eA := HeA.out
  go_wp2_with fail
  refine (H3.out _ (by have := Hhr.out; omega) _).mono ?_
  rintro e w1 ⟨rfl, h2⟩
  replace hb := hb.trans (h2.mono hb.size)
  clear h2
  have es := Hes.out
  have t3 := Ht3.out
  have eF := HeF.out
  clear Hes Ht3 HeF Hhr HeA ep eq t1 t2 tb
  go_wp2
  go_ret
  exact ⟨by simp, hb⟩
set_option maxRecDepth 100000 in
set_option maxHeartbeats 4000000 in
theorem walk_tftf (a base b A x y m n p q r s G1 G2 F : Nat) (ha : a < 4294967296) (hba : base < 4294967296) (hb' : b < 4294967296) (hF : F < 4294967296)
    (eA : ((A : Int) != (a : Int) % 256) = false) (tb : ((base : Int) % 256 != 0) = true) (em : (a : Int) % 100 = (m : Int)) (hm : m < 100) (en : (b : Int) % 100 = (n : Int)) (hn : n < 100)
    (ep : (m : Int) / 10 * 16 + (m : Int) % 10 = (p : Int)) (hp : p < 160) (eq : (n : Int) / 10 * 16 + (n : Int) % 10 = (q : Int)) (hq : q < 160) (hr : r = (p + q) % 256)
    (t1 : ((15 : Int) < (p : Int) % 16 + (q : Int) % 16) = False) (t2 : ((255 : Int) < (p : Int) + (q : Int)) = True) (t3 : ((99 : Int) < (m : Int) + (n : Int)) = False)
    (es : ((m : Int) + (n : Int)) % 100 / 10 * 16 + ((m : Int) + (n : Int)) % 10 = (s : Int)) (hs : s < 160) (eF : ((F : Int) % 2 == 1) = false)
    (C1 : ∀ w, Calls Try.prog 16 #[.int .i64 4, .int .u32 a, .int .u32 0, .int .u32 base, .int .u32 0] w fun en w' => en = .returned (.tuple #[.int .u32 (x : Int), .int .u32 (y : Int), .int .u32 (G1 : Int), .bool true, .int .i64 0]) ∧ Below w.heap.size w w')
    (C2 : ∀ w, Calls Try.prog 16 #[.int .i64 5, .int .u32 (x : Int), .int .u32 (y : Int), .int .u32 base, .int .u32 0] w fun en w' => en = .returned (.tuple #[.int .u32 (A : Int), .int .u32 0, .int .u32 (G2 : Int), .bool true, .int .i64 0]) ∧ Below w.heap.size w w')
    (C3 : ∀ z : Int, z = (r : Int) → ∀ w, Calls Try.prog 16 #[.int .i64 0, .int .u32 z, .int .u32 0, .int .u32 0, .int .u32 1] w fun en w' => en = .returned (.tuple #[.int .u32 (s : Int), .int .u32 0, .int .u32 (F : Int), .bool true, .int .i64 0]) ∧ Below w.heap.size w w') (w : World) :
    Calls Try.prog 10 #[.int .u32 a, .int .u32 base, .int .u32 b] w fun e w' => e = .returned (.bool true) ∧ Below w.heap.size w w' := by
  have H1 := hide C1
  have H2 := hide C2
  have H3 := hide C3
  have Hes := hide es
  have Ht3 := hide t3
  have HeF := hide eF
  have Hhr := hide hr
  have HeA := hide eA
  clear C1 C2 C3 es t3 eF hr eA
  go_enter Try.func10, Try.ntmps10
  go_wp2_with fail
  refine (awake_ok _).mono ?_
  rintro e w1 ⟨rfl, hb⟩
  go_wp2_with fail
  refine (H1.out _).mono ?_
  rintro e w1 ⟨rfl, h2⟩
  replace hb := hb.trans (h2.mono hb.size)
  clear h2
  go_wp2_with fail
  refine (H2.out _).mono ?_
  rintro e w1 ⟨rfl, h2⟩
  replace hb := hb.trans (h2.mono hb.size)
  clear h2
  have eA := HeA.out
  go_wp2_with fail
  refine (H3.out _ (by have := Hhr.out; omega) _).mono ?_
  rintro e w1 ⟨rfl, h2⟩
  replace hb := hb.trans (h2.mono hb.size)
  clear h2
  have es := Hes.out
  have t3 := Ht3.out
  have eF := HeF.out
  clear Hes Ht3 HeF Hhr HeA ep eq t1 t2 tb
  go_wp2
  go_ret
  exact ⟨by simp, hb⟩
set_option maxRecDepth 100000 in
set_option maxHeartbeats 4000000 in
theorem walk_tftt (a base b A x y m n p q r s G1 G2 F : Nat) (ha : a < 4294967296) (hba : base < 4294967296) (hb' : b < 4294967296) (hF : F < 4294967296)
    (eA : ((A : Int) != (a : Int) % 256) = false) (tb : ((base : Int) % 256 != 0) = true) (em : (a : Int) % 100 = (m : Int)) (hm : m < 100) (en : (b : Int) % 100 = (n : Int)) (hn : n < 100)
    (ep : (m : Int) / 10 * 16 + (m : Int) % 10 = (p : Int)) (hp : p < 160) (eq : (n : Int) / 10 * 16 + (n : Int) % 10 = (q : Int)) (hq : q < 160) (hr : r = (p + q) % 256)
    (t1 : ((15 : Int) < (p : Int) % 16 + (q : Int) % 16) = False) (t2 : ((255 : Int) < (p : Int) + (q : Int)) = True) (t3 : ((99 : Int) < (m : Int) + (n : Int)) = True)
    (es : ((m : Int) + (n : Int)) % 100 / 10 * 16 + ((m : Int) + (n : Int)) % 10 = (s : Int)) (hs : s < 160) (eF : ((F : Int) % 2 == 1) = true)
    (C1 : ∀ w, Calls Try.prog 16 #[.int .i64 4, .int .u32 a, .int .u32 0, .int .u32 base, .int .u32 0] w fun en w' => en = .returned (.tuple #[.int .u32 (x : Int), .int .u32 (y : Int), .int .u32 (G1 : Int), .bool true, .int .i64 0]) ∧ Below w.heap.size w w')
    (C2 : ∀ w, Calls Try.prog 16 #[.int .i64 5, .int .u32 (x : Int), .int .u32 (y : Int), .int .u32 base, .int .u32 0] w fun en w' => en = .returned (.tuple #[.int .u32 (A : Int), .int .u32 0, .int .u32 (G2 : Int), .bool true, .int .i64 0]) ∧ Below w.heap.size w w')
    (C3 : ∀ z : Int, z = (r : Int) → ∀ w, Calls Try.prog 16 #[.int .i64 0, .int .u32 z, .int .u32 0, .int .u32 0, .int .u32 1] w fun en w' => en = .returned (.tuple #[.int .u32 (s : Int), .int .u32 0, .int .u32 (F : Int), .bool true, .int .i64 0]) ∧ Below w.heap.size w w') (w : World) :
    Calls Try.prog 10 #[.int .u32 a, .int .u32 base, .int .u32 b] w fun e w' => e = .returned (.bool true) ∧ Below w.heap.size w w' := by
  have H1 := hide C1
  have H2 := hide C2
  have H3 := hide C3
  have Hes := hide es
  have Ht3 := hide t3
  have HeF := hide eF
  have Hhr := hide hr
  have HeA := hide eA
  clear C1 C2 C3 es t3 eF hr eA
  go_enter Try.func10, Try.ntmps10
  go_wp2_with fail
  refine (awake_ok _).mono ?_
  rintro e w1 ⟨rfl, hb⟩
  go_wp2_with fail
  refine (H1.out _).mono ?_
  rintro e w1 ⟨rfl, h2⟩
  replace hb := hb.trans (h2.mono hb.size)
  clear h2
  go_wp2_with fail
  refine (H2.out _).mono ?_
  rintro e w1 ⟨rfl, h2⟩
  replace hb := hb.trans (h2.mono hb.size)
  clear h2
  have eA := HeA.out
  go_wp2_with fail
  refine (H3.out _ (by have := Hhr.out; omega) _).mono ?_
  rintro e w1 ⟨rfl, h2⟩
  replace hb := hb.trans (h2.mono hb.size)
  clear h2
  have es := Hes.out
  have t3 := Ht3.out
  have eF := HeF.out
  clear Hes Ht3 HeF Hhr HeA ep eq t1 t2 tb
  go_wp2
  go_ret
  exact ⟨by simp, hb⟩
set_option maxRecDepth 100000 in
set_option maxHeartbeats 4000000 in
theorem walk_ttff (a base b A x y m n p q r s G1 G2 F : Nat) (ha : a < 4294967296) (hba : base < 4294967296) (hb' : b < 4294967296) (hF : F < 4294967296)
    (eA : ((A : Int) != (a : Int) % 256) = false) (tb : ((base : Int) % 256 != 0) = true) (em : (a : Int) % 100 = (m : Int)) (hm : m < 100) (en : (b : Int) % 100 = (n : Int)) (hn : n < 100)
    (ep : (m : Int) / 10 * 16 + (m : Int) % 10 = (p : Int)) (hp : p < 160) (eq : (n : Int) / 10 * 16 + (n : Int) % 10 = (q : Int)) (hq : q < 160) (hr : r = (p + q) % 256)
    (t1 : ((15 : Int) < (p : Int) % 16 + (q : Int) % 16) = True) (t2 : ((255 : Int) < (p : Int) + (q : Int)) = False) (t3 : ((99 : Int) < (m : Int) + (n : Int)) = False)
    (es : ((m : Int) + (n : Int)) % 100 / 10 * 16 + ((m : Int) + (n : Int)) % 10 = (s : Int)) (hs : s < 160) (eF : ((F : Int) % 2 == 1) = false)
    (C1 : ∀ w, Calls Try.prog 16 #[.int .i64 4, .int .u32 a, .int .u32 0, .int .u32 base, .int .u32 0] w fun en w' => en = .returned (.tuple #[.int .u32 (x : Int), .int .u32 (y : Int), .int .u32 (G1 : Int), .bool true, .int .i64 0]) ∧ Below w.heap.size w w')
    (C2 : ∀ w, Calls Try.prog 16 #[.int .i64 5, .int .u32 (x : Int), .int .u32 (y : Int), .int .u32 base, .int .u32 0] w fun en w' => en = .returned (.tuple #[.int .u32 (A : Int), .int .u32 0, .int .u32 (G2 : Int), .bool true, .int .i64 0]) ∧ Below w.heap.size w w')
    (C3 : ∀ z : Int, z = (r : Int) → ∀ w, Calls Try.prog 16 #[.int .i64 0, .int .u32 z, .int .u32 0, .int .u32 0, .int .u32 16] w fun en w' => en = .returned (.tuple #[.int .u32 (s : Int), .int .u32 0, .int .u32 (F : Int), .bool true, .int .i64 0]) ∧ Below w.heap.size w w') (w : World) :
    Calls Try.prog 10 #[.int .u32 a, .int .u32 base, .int .u32 b] w fun e w' => e = .returned (.bool true) ∧ Below w.heap.size w w' := by
  have H1 := hide C1
  have H2 := hide C2
  have H3 := hide C3
  have Hes := hide es
  have Ht3 := hide t3
  have HeF := hide eF
  have Hhr := hide hr
  have HeA := hide eA
  clear C1 C2 C3 es t3 eF hr eA
  go_enter Try.func10, Try.ntmps10
  go_wp2_with fail
  refine (awake_ok _).mono ?_
  rintro e w1 ⟨rfl, hb⟩
  go_wp2_with fail
  refine (H1.out _).mono ?_
  rintro e w1 ⟨rfl, h2⟩
  replace hb := hb.trans (h2.mono hb.size)
  clear h2
  go_wp2_with fail
  refine (H2.out _).mono ?_
  rintro e w1 ⟨rfl, h2⟩
  replace hb := hb.trans (h2.mono hb.size)
  clear h2
  have eA := HeA.out
  go_wp2_with fail
  refine (H3.out _ (by have := Hhr.out; omega) _).mono ?_
  rintro e w1 ⟨rfl, h2⟩
  replace hb := hb.trans (h2.mono hb.size)
  clear h2
  have es := Hes.out
  have t3 := Ht3.out
  have eF := HeF.out
  clear Hes Ht3 HeF Hhr HeA ep eq t1 t2 tb
  go_wp2
  go_ret
  exact ⟨by simp, hb⟩
set_option maxRecDepth 100000 in
set_option maxHeartbeats 4000000 in
theorem walk_ttft (a base b A x y m n p q r s G1 G2 F : Nat) (ha : a < 4294967296) (hba : base < 4294967296) (hb' : b < 4294967296) (hF : F < 4294967296)
    (eA : ((A : Int) != (a : Int) % 256) = false) (tb : ((base : Int) % 256 != 0) = true) (em : (a : Int) % 100 = (m : Int)) (hm : m < 100) (en : (b : Int) % 100 = (n : Int)) (hn : n < 100)
    (ep : (m : Int) / 10 * 16 + (m : Int) % 10 = (p : Int)) (hp : p < 160) (eq : (n : Int) / 10 * 16 + (n : Int) % 10 = (q : Int)) (hq : q < 160) (hr : r = (p + q) % 256)
    (t1 : ((15 : Int) < (p : Int) % 16 + (q : Int) % 16) = True) (t2 : ((255 : Int) < (p : Int) + (q : Int)) = False) (t3 : ((99 : Int) < (m : Int) + (n : Int)) = True)
    (es : ((m : Int) + (n : Int)) % 100 / 10 * 16 + ((m : Int) + (n : Int)) % 10 = (s : Int)) (hs : s < 160) (eF : ((F : Int) % 2 == 1) = true)
    (C1 : ∀ w, Calls Try.prog 16 #[.int .i64 4, .int .u32 a, .int .u32 0, .int .u32 base, .int .u32 0] w fun en w' => en = .returned (.tuple #[.int .u32 (x : Int), .int .u32 (y : Int), .int .u32 (G1 : Int), .bool true, .int .i64 0]) ∧ Below w.heap.size w w')
    (C2 : ∀ w, Calls Try.prog 16 #[.int .i64 5, .int .u32 (x : Int), .int .u32 (y : Int), .int .u32 base, .int .u32 0] w fun en w' => en = .returned (.tuple #[.int .u32 (A : Int), .int .u32 0, .int .u32 (G2 : Int), .bool true, .int .i64 0]) ∧ Below w.heap.size w w')
    (C3 : ∀ z : Int, z = (r : Int) → ∀ w, Calls Try.prog 16 #[.int .i64 0, .int .u32 z, .int .u32 0, .int .u32 0, .int .u32 16] w fun en w' => en = .returned (.tuple #[.int .u32 (s : Int), .int .u32 0, .int .u32 (F : Int), .bool true, .int .i64 0]) ∧ Below w.heap.size w w') (w : World) :
    Calls Try.prog 10 #[.int .u32 a, .int .u32 base, .int .u32 b] w fun e w' => e = .returned (.bool true) ∧ Below w.heap.size w w' := by
  have H1 := hide C1
  have H2 := hide C2
  have H3 := hide C3
  have Hes := hide es
  have Ht3 := hide t3
  have HeF := hide eF
  have Hhr := hide hr
  have HeA := hide eA
  clear C1 C2 C3 es t3 eF hr eA
  go_enter Try.func10, Try.ntmps10
  go_wp2_with fail
  refine (awake_ok _).mono ?_
  rintro e w1 ⟨rfl, hb⟩
  go_wp2_with fail
  refine (H1.out _).mono ?_
  rintro e w1 ⟨rfl, h2⟩
  replace hb := hb.trans (h2.mono hb.size)
  clear h2
  go_wp2_with fail
  refine (H2.out _).mono ?_
  rintro e w1 ⟨rfl, h2⟩
  replace hb := hb.trans (h2.mono hb.size)
  clear h2
  have eA := HeA.out
  go_wp2_with fail
  refine (H3.out _ (by have := Hhr.out; omega) _).mono ?_
  rintro e w1 ⟨rfl, h2⟩
  replace hb := hb.trans (h2.mono hb.size)
  clear h2
  have es := Hes.out
  have t3 := Ht3.out
  have eF := HeF.out
  clear Hes Ht3 HeF Hhr HeA ep eq t1 t2 tb
  go_wp2
  go_ret
  exact ⟨by simp, hb⟩
set_option maxRecDepth 100000 in
set_option maxHeartbeats 4000000 in
theorem walk_tttf (a base b A x y m n p q r s G1 G2 F : Nat) (ha : a < 4294967296) (hba : base < 4294967296) (hb' : b < 4294967296) (hF : F < 4294967296)
    (eA : ((A : Int) != (a : Int) % 256) = false) (tb : ((base : Int) % 256 != 0) = true) (em : (a : Int) % 100 = (m : Int)) (hm : m < 100) (en : (b : Int) % 100 = (n : Int)) (hn : n < 100)
    (ep : (m : Int) / 10 * 16 + (m : Int) % 10 = (p : Int)) (hp : p < 160) (eq : (n : Int) / 10 * 16 + (n : Int) % 10 = (q : Int)) (hq : q < 160) (hr : r = (p + q) % 256)
    (t1 : ((15 : Int) < (p : Int) % 16 + (q : Int) % 16) = True) (t2 : ((255 : Int) < (p : Int) + (q : Int)) = True) (t3 : ((99 : Int) < (m : Int) + (n : Int)) = False)
    (es : ((m : Int) + (n : Int)) % 100 / 10 * 16 + ((m : Int) + (n : Int)) % 10 = (s : Int)) (hs : s < 160) (eF : ((F : Int) % 2 == 1) = false)
    (C1 : ∀ w, Calls Try.prog 16 #[.int .i64 4, .int .u32 a, .int .u32 0, .int .u32 base, .int .u32 0] w fun en w' => en = .returned (.tuple #[.int .u32 (x : Int), .int .u32 (y : Int), .int .u32 (G1 : Int), .bool true, .int .i64 0]) ∧ Below w.heap.size w w')
    (C2 : ∀ w, Calls Try.prog 16 #[.int .i64 5, .int .u32 (x : Int), .int .u32 (y : Int), .int .u32 base, .int .u32 0] w fun en w' => en = .returned (.tuple #[.int .u32 (A : Int), .int .u32 0, .int .u32 (G2 : Int), .bool true, .int .i64 0]) ∧ Below w.heap.size w w')
    (C3 : ∀ z : Int, z = (r : Int) → ∀ w, Calls Try.prog 16 #[.int .i64 0, .int .u32 z, .int .u32 0, .int .u32 0, .int .u32 17] w fun en w' => en = .returned (.tuple #[.int .u32 (s : Int), .int .u32 0, .int .u32 (F : Int), .bool true, .int .i64 0]) ∧ Below w.heap.size w w') (w : World) :
    Calls Try.prog 10 #[.int .u32 a, .int .u32 base, .int .u32 b] w fun e w' => e = .returned (.bool true) ∧ Below w.heap.size w w' := by
  have H1 := hide C1
  have H2 := hide C2
  have H3 := hide C3
  have Hes := hide es
  have Ht3 := hide t3
  have HeF := hide eF
  have Hhr := hide hr
  have HeA := hide eA
  clear C1 C2 C3 es t3 eF hr eA
  go_enter Try.func10, Try.ntmps10
  go_wp2_with fail
  refine (awake_ok _).mono ?_
  rintro e w1 ⟨rfl, hb⟩
  go_wp2_with fail
  refine (H1.out _).mono ?_
  rintro e w1 ⟨rfl, h2⟩
  replace hb := hb.trans (h2.mono hb.size)
  clear h2
  go_wp2_with fail
  refine (H2.out _).mono ?_
  rintro e w1 ⟨rfl, h2⟩
  replace hb := hb.trans (h2.mono hb.size)
  clear h2
  have eA := HeA.out
  go_wp2_with fail
  refine (H3.out _ (by have := Hhr.out; omega) _).mono ?_
  rintro e w1 ⟨rfl, h2⟩
  replace hb := hb.trans (h2.mono hb.size)
  clear h2
  have es := Hes.out
  have t3 := Ht3.out
  have eF := HeF.out
  clear Hes Ht3 HeF Hhr HeA ep eq t1 t2 tb
  go_wp2
  go_ret
  exact ⟨by simp, hb⟩
set_option maxRecDepth 100000 in
set_option maxHeartbeats 4000000 in
theorem walk_tttt (a base b A x y m n p q r s G1 G2 F : Nat) (ha : a < 4294967296) (hba : base < 4294967296) (hb' : b < 4294967296) (hF : F < 4294967296)
    (eA : ((A : Int) != (a : Int) % 256) = false) (tb : ((base : Int) % 256 != 0) = true) (em : (a : Int) % 100 = (m : Int)) (hm : m < 100) (en : (b : Int) % 100 = (n : Int)) (hn : n < 100)
    (ep : (m : Int) / 10 * 16 + (m : Int) % 10 = (p : Int)) (hp : p < 160) (eq : (n : Int) / 10 * 16 + (n : Int) % 10 = (q : Int)) (hq : q < 160) (hr : r = (p + q) % 256)
    (t1 : ((15 : Int) < (p : Int) % 16 + (q : Int) % 16) = True) (t2 : ((255 : Int) < (p : Int) + (q : Int)) = True) (t3 : ((99 : Int) < (m : Int) + (n : Int)) = True)
    (es : ((m : Int) + (n : Int)) % 100 / 10 * 16 + ((m : Int) + (n : Int)) % 10 = (s : Int)) (hs : s < 160) (eF : ((F : Int) % 2 == 1) = true)
    (C1 : ∀ w, Calls Try.prog 16 #[.int .i64 4, .int .u32 a, .int .u32 0, .int .u32 base, .int .u32 0] w fun en w' => en = .returned (.tuple #[.int .u32 (x : Int), .int .u32 (y : Int), .int .u32 (G1 : Int), .bool true, .int .i64 0]) ∧ Below w.heap.size w w')
    (C2 : ∀ w, Calls Try.prog 16 #[.int .i64 5, .int .u32 (x : Int), .int .u32 (y : Int), .int .u32 base, .int .u32 0] w fun en w' => en = .returned (.tuple #[.int .u32 (A : Int), .int .u32 0, .int .u32 (G2 : Int), .bool true, .int .i64 0]) ∧ Below w.heap.size w w')
    (C3 : ∀ z : Int, z = (r : Int) → ∀ w, Calls Try.prog 16 #[.int .i64 0, .int .u32 z, .int .u32 0, .int .u32 0, .int .u32 17] w fun en w' => en = .returned (.tuple #[.int .u32 (s : Int), .int .u32 0, .int .u32 (F : Int), .bool true, .int .i64 0]) ∧ Below w.heap.size w w') (w : World) :
    Calls Try.prog 10 #[.int .u32 a, .int .u32 base, .int .u32 b] w fun e w' => e = .returned (.bool true) ∧ Below w.heap.size w w' := by
  have H1 := hide C1
  have H2 := hide C2
  have H3 := hide C3
  have Hes := hide es
  have Ht3 := hide t3
  have HeF := hide eF
  have Hhr := hide hr
  have HeA := hide eA
  clear C1 C2 C3 es t3 eF hr eA
  go_enter Try.func10, Try.ntmps10
  go_wp2_with fail
  refine (awake_ok _).mono ?_
  rintro e w1 ⟨rfl, hb⟩
  go_wp2_with fail
  refine (H1.out _).mono ?_
  rintro e w1 ⟨rfl, h2⟩
  replace hb := hb.trans (h2.mono hb.size)
  clear h2
  go_wp2_with fail
  refine (H2.out _).mono ?_
  rintro e w1 ⟨rfl, h2⟩
  replace hb := hb.trans (h2.mono hb.size)
  clear h2
  have eA := HeA.out
  go_wp2_with fail
  refine (H3.out _ (by have := Hhr.out; omega) _).mono ?_
  rintro e w1 ⟨rfl, h2⟩
  replace hb := hb.trans (h2.mono hb.size)
  clear h2
  have es := Hes.out
  have t3 := Ht3.out
  have eF := HeF.out
  clear Hes Ht3 HeF Hhr HeA ep eq t1 t2 tb
  go_wp2
  go_ret
  exact ⟨by simp, hb⟩
theorem daa_at (t1 t2 : Bool) (fl : Nat) (hfl : fl < 4294967296) (h1 : hasF fl 1 = t2) (h16 : hasF fl 16 = t1) (m n p q r : Nat) (hm : m < 100) (hn : n < 100) (hp : p = m / 10 * 16 + m % 10) (hq : q = n / 10 * 16 + n % 10) (hr : r = (p + q) % 256)
    (e1 : t1 = decide (15 < p % 16 + q % 16)) (e2 : t2 = decide (255 < p + q)) :
    ∃ F : Nat, F < 4294967296 ∧ (F % 2 == 1) = decide (99 < m + n) ∧ ∀ z : Int, z = (r : Int) → ∀ w, Calls Try.prog 16 #[.int .i64 0, .int .u32 z, .int .u32 0, .int .u32 0, .int .u32 fl] w fun en w' => en = .returned (.tuple #[.int .u32 (((m + n) % 100 / 10 * 16 + (m + n) % 10 : Nat) : Int), .int .u32 0, .int .u32 (F : Int), .bool true, .int .i64 0]) ∧ Below w.heap.size w w' := by
  have hb := bcd m n p q r t1 t2 hm hn hp hq hr e1 e2
  have lr : r < 256 := by omega
  refine ⟨adjF fl (pkA false r t2 t1) (pkC false r t2 t1) (loB r t1), adjF_lt _ _ _ _ hfl, ?_, ?_⟩
  · rw [adjF_low]
    exact hb.2
  · intro z hz w
    subst hz
    have h := adj_ok 0 (by decide) r 0 0 fl (by omega) (by decide) (by decide) hfl (by omega) w
    rw [h1, h16, Nat.mod_eq_of_lt lr] at h
    rw [← hb.1]
    exact h
theorem aam_at (a base : Nat) (ha : a < 4294967296) (hba : base < 4294967296) (h0 : base % 256 ≠ 0) : ∃ x y G1 G2 : Nat, (∀ w, Calls Try.prog 16 #[.int .i64 4, .int .u32 a, .int .u32 0, .int .u32 base, .int .u32 0] w fun en w' => en = .returned (.tuple #[.int .u32 (x : Int), .int .u32 (y : Int), .int .u32 (G1 : Int), .bool true, .int .i64 0]) ∧ Below w.heap.size w w') ∧ (∀ w, Calls Try.prog 16 #[.int .i64 5, .int .u32 (x : Int), .int .u32 (y : Int), .int .u32 base, .int .u32 0] w fun en w' => en = .returned (.tuple #[.int .u32 ((a % 256 : Nat) : Int), .int .u32 0, .int .u32 (G2 : Int), .bool true, .int .i64 0]) ∧ Below w.heap.size w w') := by
  have hx : a % 256 < 256 := Nat.mod_lt _ (by decide)
  have hb : base % 256 < 256 := Nat.mod_lt _ (by decide)
  have l1 : a % 256 % (base % 256) < 4294967296 := Nat.lt_of_le_of_lt (Nat.mod_le _ _) (by omega)
  have l2 : a % 256 / (base % 256) < 4294967296 := Nat.lt_of_le_of_lt (Nat.div_le_self _ _) (by omega)
  have e : adjX 5 (a % 256 % (base % 256) % 256) (a % 256 / (base % 256) % 256) (base % 256) (hasF 0 1) (hasF 0 16) = a % 256 := parted _ _ (Nat.pos_of_ne_zero h0) hb hx
  have h1 := fun w => adj_ok 4 (by decide) a 0 base 0 ha (by decide) hba (by decide) (fun h => h0 h.2) w
  have h2 := fun w => adj_ok 5 (by decide) (a % 256 % (base % 256)) (a % 256 / (base % 256)) base 0 l1 l2 hba (by decide) (fun h => absurd h.1 (by decide)) w
  rw [e] at h2
  exact ⟨_, _, _, _, h1, h2⟩
theorem aam_no (a base : Nat) (ha : a < 4294967296) (hba : base < 4294967296) (h0 : base % 256 = 0) : ∀ w, Calls Try.prog 16 #[.int .i64 4, .int .u32 a, .int .u32 0, .int .u32 base, .int .u32 0] w fun en w' => en = .returned (.tuple #[.int .u32 ((0 : Nat) : Int), .int .u32 ((0 : Nat) : Int), .int .u32 ((0 : Nat) : Int), .bool false, .int .i64 0]) ∧ Below w.heap.size w w' :=
  adj4_z a 0 base 0 (a % 256) (0 % 256) _ _ _ _ ha (by decide) hba (by decide) (by simp) (by simp) (by omega) (Nat.mod_lt _ (by decide)) (Nat.mod_lt _ (by decide)) rfl (tst1 0 (by decide)) rfl (tst16 0 (by decide))
theorem lt_noI {a b : Int} (h : ¬ a < b) : (a < b) = False := by
  rw [eq_iff_iff, iff_false]
  exact h
theorem lt_yesI {a b : Int} (h : a < b) : (a < b) = True := by
  rw [eq_iff_iff, iff_true]
  exact h
theorem odd_int (F : Nat) : ((F : Int) % 2 == 1) = (F % 2 == 1) := by
  rw [Bool.eq_iff_iff]
  simp only [beq_iff_eq]
  omega
theorem dig_int (m : Nat) : (m : Int) / 10 * 16 + (m : Int) % 10 = ((m / 10 * 16 + m % 10 : Nat) : Int) := by simp
theorem dig_int2 (m n : Nat) : ((m : Int) + (n : Int)) % 100 / 10 * 16 + ((m : Int) + (n : Int)) % 10 = (((m + n) % 100 / 10 * 16 + (m + n) % 10 : Nat) : Int) := by simp
theorem dig_lt (m : Nat) (h : m < 100) : m / 10 * 16 + m % 10 < 160 := by omega
theorem dig_lt2 (k : Nat) : k % 100 / 10 * 16 + k % 10 < 160 := by omega
theorem walk (a : Nat) (ha : a < 4294967296) (base : Nat) (hba : base < 4294967296) (b : Nat) (hb : b < 4294967296) (w : World) :
    Calls Try.prog 10 #[.int .u32 a, .int .u32 base, .int .u32 b] w fun e w' => e = .returned (.bool true) ∧ Below w.heap.size w w' := by
  have hm : a % 100 < 100 := Nat.mod_lt _ (by decide)
  have hn : b % 100 < 100 := Nat.mod_lt _ (by decide)
  have eA : (((a % 256 : Nat) : Int) != (a : Int) % 256) = false := by simp
  have em : (a : Int) % 100 = ((a % 100 : Nat) : Int) := by simp
  have en : (b : Int) % 100 = ((b % 100 : Nat) : Int) := by simp
  have D := fun t1 t2 fl hfl h1 h16 => daa_at t1 t2 fl hfl h1 h16 (a % 100) (b % 100) _ _ _ hm hn rfl rfl rfl
  by_cases h0 : base % 256 = 0
  · have C1 := aam_no a base ha hba h0
    have tb : ((base : Int) % 256 != 0) = false := by simp; omega
    by_cases h1 : (15 : Int) < ((a % 100 / 10 * 16 + a % 100 % 10 : Nat) : Int) % 16 + ((b % 100 / 10 * 16 + b % 100 % 10 : Nat) : Int) % 16
    · by_cases h2 : (255 : Int) < ((a % 100 / 10 * 16 + a % 100 % 10 : Nat) : Int) + ((b % 100 / 10 * 16 + b % 100 % 10 : Nat) : Int)
      · by_cases h3 : (99 : Int) < ((a % 100 : Nat) : Int) + ((b % 100 : Nat) : Int)
        · skip
          obtain ⟨F, lF, oF, C3⟩ := D true true 17 (by decide) (by decide) (by decide) (decide_eq_true (by omega)).symm (decide_eq_true (by omega)).symm
          have eF := (odd_int F).trans (oF.trans (decide_eq_true (by omega)))
          exact walk_fttt a base b (a % 256) 0 0 _ _ _ _ _ _ 0 0 F ha hba hb lF eA tb em hm en hn (dig_int _) (dig_lt _ hm) (dig_int _) (dig_lt _ hn) rfl (lt_yesI h1) (lt_yesI h2) (lt_yesI h3) (dig_int2 _ _) (dig_lt2 _) eF C1 C3 w
        · skip
          obtain ⟨F, lF, oF, C3⟩ := D true true 17 (by decide) (by decide) (by decide) (decide_eq_true (by omega)).symm (decide_eq_true (by omega)).symm
          have eF := (odd_int F).trans (oF.trans (decide_eq_false (by omega)))
          exact walk_fttf a base b (a % 256) 0 0 _ _ _ _ _ _ 0 0 F ha hba hb lF eA tb em hm en hn (dig_int _) (dig_lt _ hm) (dig_int _) (dig_lt _ hn) rfl (lt_yesI h1) (lt_yesI h2) (lt_noI h3) (dig_int2 _ _) (dig_lt2 _) eF C1 C3 w
      · by_cases h3 : (99 : Int) < ((a % 100 : Nat) : Int) + ((b % 100 : Nat) : Int)
        · skip
          obtain ⟨F, lF, oF, C3⟩ := D true false 16 (by decide) (by decide) (by decide) (decide_eq_true (by omega)).symm (decide_eq_false (by omega)).symm
          have eF := (odd_int F).trans (oF.trans (decide_eq_true (by omega)))
          exact walk_ftft a base b (a % 256) 0 0 _ _ _ _ _ _ 0 0 F ha hba hb lF eA tb em hm en hn (dig_int _) (dig_lt _ hm) (dig_int _) (dig_lt _ hn) rfl (lt_yesI h1) (lt_noI h2) (lt_yesI h3) (dig_int2 _ _) (dig_lt2 _) eF C1 C3 w
        · skip
          obtain ⟨F, lF, oF, C3⟩ := D true false 16 (by decide) (by decide) (by decide) (decide_eq_true (by omega)).symm (decide_eq_false (by omega)).symm
          have eF := (odd_int F).trans (oF.trans (decide_eq_false (by omega)))
          exact walk_ftff a base b (a % 256) 0 0 _ _ _ _ _ _ 0 0 F ha hba hb lF eA tb em hm en hn (dig_int _) (dig_lt _ hm) (dig_int _) (dig_lt _ hn) rfl (lt_yesI h1) (lt_noI h2) (lt_noI h3) (dig_int2 _ _) (dig_lt2 _) eF C1 C3 w
    · by_cases h2 : (255 : Int) < ((a % 100 / 10 * 16 + a % 100 % 10 : Nat) : Int) + ((b % 100 / 10 * 16 + b % 100 % 10 : Nat) : Int)
      · by_cases h3 : (99 : Int) < ((a % 100 : Nat) : Int) + ((b % 100 : Nat) : Int)
        · skip
          obtain ⟨F, lF, oF, C3⟩ := D false true 1 (by decide) (by decide) (by decide) (decide_eq_false (by omega)).symm (decide_eq_true (by omega)).symm
          have eF := (odd_int F).trans (oF.trans (decide_eq_true (by omega)))
          exact walk_fftt a base b (a % 256) 0 0 _ _ _ _ _ _ 0 0 F ha hba hb lF eA tb em hm en hn (dig_int _) (dig_lt _ hm) (dig_int _) (dig_lt _ hn) rfl (lt_noI h1) (lt_yesI h2) (lt_yesI h3) (dig_int2 _ _) (dig_lt2 _) eF C1 C3 w
        · skip
          obtain ⟨F, lF, oF, C3⟩ := D false true 1 (by decide) (by decide) (by decide) (decide_eq_false (by omega)).symm (decide_eq_true (by omega)).symm
          have eF := (odd_int F).trans (oF.trans (decide_eq_false (by omega)))
          exact walk_fftf a base b (a % 256) 0 0 _ _ _ _ _ _ 0 0 F ha hba hb lF eA tb em hm en hn (dig_int _) (dig_lt _ hm) (dig_int _) (dig_lt _ hn) rfl (lt_noI h1) (lt_yesI h2) (lt_noI h3) (dig_int2 _ _) (dig_lt2 _) eF C1 C3 w
      · by_cases h3 : (99 : Int) < ((a % 100 : Nat) : Int) + ((b % 100 : Nat) : Int)
        · skip
          obtain ⟨F, lF, oF, C3⟩ := D false false 0 (by decide) (by decide) (by decide) (decide_eq_false (by omega)).symm (decide_eq_false (by omega)).symm
          have eF := (odd_int F).trans (oF.trans (decide_eq_true (by omega)))
          exact walk_ffft a base b (a % 256) 0 0 _ _ _ _ _ _ 0 0 F ha hba hb lF eA tb em hm en hn (dig_int _) (dig_lt _ hm) (dig_int _) (dig_lt _ hn) rfl (lt_noI h1) (lt_noI h2) (lt_yesI h3) (dig_int2 _ _) (dig_lt2 _) eF C1 C3 w
        · skip
          obtain ⟨F, lF, oF, C3⟩ := D false false 0 (by decide) (by decide) (by decide) (decide_eq_false (by omega)).symm (decide_eq_false (by omega)).symm
          have eF := (odd_int F).trans (oF.trans (decide_eq_false (by omega)))
          exact walk_ffff a base b (a % 256) 0 0 _ _ _ _ _ _ 0 0 F ha hba hb lF eA tb em hm en hn (dig_int _) (dig_lt _ hm) (dig_int _) (dig_lt _ hn) rfl (lt_noI h1) (lt_noI h2) (lt_noI h3) (dig_int2 _ _) (dig_lt2 _) eF C1 C3 w
  · obtain ⟨x, y, G1, G2, C1, C2⟩ := aam_at a base ha hba h0
    have tb : ((base : Int) % 256 != 0) = true := by simp; omega
    by_cases h1 : (15 : Int) < ((a % 100 / 10 * 16 + a % 100 % 10 : Nat) : Int) % 16 + ((b % 100 / 10 * 16 + b % 100 % 10 : Nat) : Int) % 16
    · by_cases h2 : (255 : Int) < ((a % 100 / 10 * 16 + a % 100 % 10 : Nat) : Int) + ((b % 100 / 10 * 16 + b % 100 % 10 : Nat) : Int)
      · by_cases h3 : (99 : Int) < ((a % 100 : Nat) : Int) + ((b % 100 : Nat) : Int)
        · skip
          obtain ⟨F, lF, oF, C3⟩ := D true true 17 (by decide) (by decide) (by decide) (decide_eq_true (by omega)).symm (decide_eq_true (by omega)).symm
          have eF := (odd_int F).trans (oF.trans (decide_eq_true (by omega)))
          exact walk_tttt a base b (a % 256) x y _ _ _ _ _ _ G1 G2 F ha hba hb lF eA tb em hm en hn (dig_int _) (dig_lt _ hm) (dig_int _) (dig_lt _ hn) rfl (lt_yesI h1) (lt_yesI h2) (lt_yesI h3) (dig_int2 _ _) (dig_lt2 _) eF C1 C2 C3 w
        · skip
          obtain ⟨F, lF, oF, C3⟩ := D true true 17 (by decide) (by decide) (by decide) (decide_eq_true (by omega)).symm (decide_eq_true (by omega)).symm
          have eF := (odd_int F).trans (oF.trans (decide_eq_false (by omega)))
          exact walk_tttf a base b (a % 256) x y _ _ _ _ _ _ G1 G2 F ha hba hb lF eA tb em hm en hn (dig_int _) (dig_lt _ hm) (dig_int _) (dig_lt _ hn) rfl (lt_yesI h1) (lt_yesI h2) (lt_noI h3) (dig_int2 _ _) (dig_lt2 _) eF C1 C2 C3 w
      · by_cases h3 : (99 : Int) < ((a % 100 : Nat) : Int) + ((b % 100 : Nat) : Int)
        · skip
          obtain ⟨F, lF, oF, C3⟩ := D true false 16 (by decide) (by decide) (by decide) (decide_eq_true (by omega)).symm (decide_eq_false (by omega)).symm
          have eF := (odd_int F).trans (oF.trans (decide_eq_true (by omega)))
          exact walk_ttft a base b (a % 256) x y _ _ _ _ _ _ G1 G2 F ha hba hb lF eA tb em hm en hn (dig_int _) (dig_lt _ hm) (dig_int _) (dig_lt _ hn) rfl (lt_yesI h1) (lt_noI h2) (lt_yesI h3) (dig_int2 _ _) (dig_lt2 _) eF C1 C2 C3 w
        · skip
          obtain ⟨F, lF, oF, C3⟩ := D true false 16 (by decide) (by decide) (by decide) (decide_eq_true (by omega)).symm (decide_eq_false (by omega)).symm
          have eF := (odd_int F).trans (oF.trans (decide_eq_false (by omega)))
          exact walk_ttff a base b (a % 256) x y _ _ _ _ _ _ G1 G2 F ha hba hb lF eA tb em hm en hn (dig_int _) (dig_lt _ hm) (dig_int _) (dig_lt _ hn) rfl (lt_yesI h1) (lt_noI h2) (lt_noI h3) (dig_int2 _ _) (dig_lt2 _) eF C1 C2 C3 w
    · by_cases h2 : (255 : Int) < ((a % 100 / 10 * 16 + a % 100 % 10 : Nat) : Int) + ((b % 100 / 10 * 16 + b % 100 % 10 : Nat) : Int)
      · by_cases h3 : (99 : Int) < ((a % 100 : Nat) : Int) + ((b % 100 : Nat) : Int)
        · skip
          obtain ⟨F, lF, oF, C3⟩ := D false true 1 (by decide) (by decide) (by decide) (decide_eq_false (by omega)).symm (decide_eq_true (by omega)).symm
          have eF := (odd_int F).trans (oF.trans (decide_eq_true (by omega)))
          exact walk_tftt a base b (a % 256) x y _ _ _ _ _ _ G1 G2 F ha hba hb lF eA tb em hm en hn (dig_int _) (dig_lt _ hm) (dig_int _) (dig_lt _ hn) rfl (lt_noI h1) (lt_yesI h2) (lt_yesI h3) (dig_int2 _ _) (dig_lt2 _) eF C1 C2 C3 w
        · skip
          obtain ⟨F, lF, oF, C3⟩ := D false true 1 (by decide) (by decide) (by decide) (decide_eq_false (by omega)).symm (decide_eq_true (by omega)).symm
          have eF := (odd_int F).trans (oF.trans (decide_eq_false (by omega)))
          exact walk_tftf a base b (a % 256) x y _ _ _ _ _ _ G1 G2 F ha hba hb lF eA tb em hm en hn (dig_int _) (dig_lt _ hm) (dig_int _) (dig_lt _ hn) rfl (lt_noI h1) (lt_yesI h2) (lt_noI h3) (dig_int2 _ _) (dig_lt2 _) eF C1 C2 C3 w
      · by_cases h3 : (99 : Int) < ((a % 100 : Nat) : Int) + ((b % 100 : Nat) : Int)
        · skip
          obtain ⟨F, lF, oF, C3⟩ := D false false 0 (by decide) (by decide) (by decide) (decide_eq_false (by omega)).symm (decide_eq_false (by omega)).symm
          have eF := (odd_int F).trans (oF.trans (decide_eq_true (by omega)))
          exact walk_tfft a base b (a % 256) x y _ _ _ _ _ _ G1 G2 F ha hba hb lF eA tb em hm en hn (dig_int _) (dig_lt _ hm) (dig_int _) (dig_lt _ hn) rfl (lt_noI h1) (lt_noI h2) (lt_yesI h3) (dig_int2 _ _) (dig_lt2 _) eF C1 C2 C3 w
        · skip
          obtain ⟨F, lF, oF, C3⟩ := D false false 0 (by decide) (by decide) (by decide) (decide_eq_false (by omega)).symm (decide_eq_false (by omega)).symm
          have eF := (odd_int F).trans (oF.trans (decide_eq_false (by omega)))
          exact walk_tfff a base b (a % 256) x y _ _ _ _ _ _ G1 G2 F ha hba hb lF eA tb em hm en hn (dig_int _) (dig_lt _ hm) (dig_int _) (dig_lt _ hn) rfl (lt_noI h1) (lt_noI h2) (lt_noI h3) (dig_int2 _ _) (dig_lt2 _) eF C1 C2 C3 w

theorem own : ownKnob Try.prog.godebug = none := by kernel_rfl

set_option maxRecDepth 100000 in
theorem lifted (os : Os) (started : os.Started) (H : Type) (enc : TypeId × Value → H) :
    ReturnsInHanded {} Try.checked os 10 .any (Rows.muldivDigitsSpec.pre6 enc Try.prog Try.f10 Rows.muldivDigitsRow.domain false) (Rows.muldivDigitsSpec.post enc Try.prog Try.f10 false true false false) := by
  refine returnsInHanded_of_change (C := Try.checked) own started (by kernel_rfl) Try.func10
    (ChangeSpec.witness6 (enc := enc) (C := Try.checked) false ⟨#[], #[.int .u32 0, .int .u32 0, .int .u32 0], []⟩ 8 (by kernel_rfl) (by kernel_rfl) (by kernel_rfl) (by kernel_rfl)) ?_
  intro W base args ds gs before hval0 hW hcnd _
  have hval : ∀ (j : Nat) t v, Try.f10.params[j]? = some t → args[j]? = some v → Value.okWide Try.prog W .any base t v := hval0
  have hW' := hW
  obtain ⟨p, q, hA0, hV, rfl, hfz, hnd⟩ := hW
  have hA : DataW.TrodAll enc Try.prog W 0 (fun _ => true) true Try.f10.params.toList args.toList ds p := hA0
  rw [Try.params10] at hA hval
  obtain ⟨v0, vs0, d0, ds0, p0, q0, hargs, rfl, rfl, h0, r0⟩ := trodAll_cons hA
  obtain ⟨v1, vs1, d1, ds1, p1, q1, rfl, rfl, rfl, h1, r1⟩ := trodAll_cons r0
  obtain ⟨v2, vs2, d2, ds2, p2, q2, rfl, rfl, rfl, h2, r2⟩ := trodAll_cons r1
  obtain ⟨rfl, rfl, rfl⟩ := trodAll_nil r2
  obtain rfl : args = #[v0, v1, v2] := by cases args; simp_all
  obtain ⟨rfl, rfl⟩ := trodVars_none hV
  obtain ⟨a0, rfl, rfl, rfl, w0⟩ := open_int Try.underlying22 (hval 0 22 v0 rfl rfl) h0
  obtain ⟨a1, rfl, rfl, rfl, w1⟩ := open_int Try.underlying22 (hval 1 22 v1 rfl rfl) h1
  obtain ⟨a2, rfl, rfl, rfl, w2⟩ := open_int Try.underlying22 (hval 2 22 v2 rfl rfl) h2
  clear hA0 hval0
  simp only [List.append_nil] at hW'
  obtain ⟨n0, rfl, b0⟩ := u32_nat w0
  obtain ⟨n1, rfl, b1⟩ := u32_nat w1
  obtain ⟨n2, rfl, b2⟩ := u32_nat w2
  refine (walk n0 b0 n1 b1 n2 b2 W).mono fun e W' ⟨he, bel⟩ => ?_
  subst he
  exact ⟨_, rfl, _, _, _, [], [], [], hW', trodAll_mk1 (shut_bool Try.underlying4 _), (trodAll_cons_mk (shut_int Try.underlying22 w0) (trodAll_cons_mk (shut_int Try.underlying22 w1) (trodAll_cons_mk (shut_int Try.underlying22 w2) trodAll_mk0))), rfl, bel.frame _, fun h => by cases h⟩

theorem over : Rows.muldivDigitsRow.holds Try.pinned (OpenSpec.ofChange Rows.muldivDigitsSpec) :=
  OpenClaim.holds_of_wide 10 Try.f10 rfl rfl rfl rfl rfl rfl rfl ⟨rfl, rfl, rfl, rfl, rfl⟩ rfl rfl rfl rfl rfl (by kernel_rfl) Try.func10 (by kernel_rfl)
    (of_decide_eq_true (by kernel_rfl)) (by unfold Func.isWrapper; first | (rw [if_pos (by decide +kernel)]; kernel_rfl) | (rw [if_neg (by decide +kernel)]; exact ⟨rfl, rfl⟩))
    (fun os started H enc _ => lifted os started H enc)

theorem proved : Rows.MuldivDigitsSaid :=
  over
end Go.Proofs.Ytfjjipkieecpcaa.lawMuldivDigits
