/- The law MuldivSigns: for every input the call returns true; its arguments are as they were. -/
import Derived.Test.YtfjjipkieecpcaaMdAwake
import Derived.Test.YtfjjipkieecpcaaMdDivA
import Derived.Test.YtfjjipkieecpcaaMdSgPl
import Derived.Test.YtfjjipkieecpcaaRows
import Derived.ProofKit
import Derived.OpenShut
import Derived.ChangeOld
namespace Go.Proofs.Ytfjjipkieecpcaa.lawMuldivSigns
open Go.ChangeShapes Go.WideShapes Go.ChangeAt Go.RowKit Pl
set_option linter.unusedVariables false

set_option maxRecDepth 100000 in
set_option maxHeartbeats 4000000 in
theorem walk_sz (a b na : Int) (ha : -2147483648 ≤ a ∧ a ≤ 2147483647) (hb' : -2147483648 ≤ b ∧ b ≤ 2147483647) (A B C L H f M I g U q r : Nat) (P T : Int)
    (eA : IntKind.u32.wrap a = (A : Int)) (eB : IntKind.u32.wrap b = (B : Int)) (hna : wrap32 (-a) = na) (eC : IntKind.u32.wrap na = (C : Int)) (eU : IntKind.u64.wrap a = (U : Int)) (hU : U < 18446744073709551616)
    (hL : L < 4294967296) (hH : H < 4294967296) (hM : M < 4294967296) (hI : I < 4294967296)
    (eP : wrap64 ((H : Int) * 4294967296 + (L : Int)) = P) (eP2 : wrap64 (a * b) = P) (eT : wrap64 ((I : Int) * 4294967296 + (M : Int)) = T) (eN : wrap64 (-P) = -P)
    (C1 : ∀ w, Calls Try.prog 12 #[.bool true, .int .i64 4, .int .u32 A, .int .u32 B, .int .u32 0] w fun en w' => en = .returned (.tuple #[.int .u32 L, .int .u32 H, .int .u32 f, .int .i64 0]) ∧ Below w.heap.size w w')
    (C2 : ∀ w, Calls Try.prog 12 #[.bool true, .int .i64 4, .int .u32 C, .int .u32 B, .int .u32 0] w fun en w' => en = .returned (.tuple #[.int .u32 M, .int .u32 I, .int .u32 g, .int .i64 0]) ∧ Below w.heap.size w w')
    (C3 : ∀ w, Calls Try.prog 14 #[.bool true, .int .i64 4, .int .u32 A, .int .u32 ((U : Int) / 4294967296), .int .u32 B] w fun en w' => en = .returned (.tuple #[.int .u32 q, .int .u32 r, .bool false, .int .i64 0]) ∧ Below w.heap.size w w')
    (t1 : (a != na) = false) (b0 : (b != 0) = false) (w : World) :
    Calls Try.prog 9 #[.int .i32 a, .int .i32 b] w fun e w' => e = .returned (.bool true) ∧ Below w.heap.size w w' := by
  have H1 := hide C1
  have H2 := hide C2
  have H3 := hide C3
  clear C1 C2 C3
  go_enter Try.func9, Try.ntmps9
  go_wp2_with fail
  refine (awake_ok _).mono ?_
  rintro e w1 ⟨rfl, hb⟩
  go_wp2_with fail
  refine (H1.out _).mono ?_
  rintro e w1 ⟨rfl, h2⟩
  replace hb := hb.trans (h2.mono hb.size)
  clear h2
  go_wp2_with fail
  refine (H2.out _).mono ?_
  rintro e w1 ⟨rfl, h2⟩
  replace hb := hb.trans (h2.mono hb.size)
  clear h2
  go_wp2_with fail
  refine (H3.out _).mono ?_
  rintro e w1 ⟨rfl, h2⟩
  replace hb := hb.trans (h2.mono hb.size)
  clear h2
  go_wp2
  go_ret
  exact ⟨by simp, hb⟩
set_option maxRecDepth 100000 in
set_option maxHeartbeats 4000000 in
theorem walk_sm (a b na : Int) (ha : -2147483648 ≤ a ∧ a ≤ 2147483647) (hb' : -2147483648 ≤ b ∧ b ≤ 2147483647) (A B C L H f M I g U q r : Nat) (P T : Int)
    (eA : IntKind.u32.wrap a = (A : Int)) (eB : IntKind.u32.wrap b = (B : Int)) (hna : wrap32 (-a) = na) (eC : IntKind.u32.wrap na = (C : Int)) (eU : IntKind.u64.wrap a = (U : Int)) (hU : U < 18446744073709551616)
    (hL : L < 4294967296) (hH : H < 4294967296) (hM : M < 4294967296) (hI : I < 4294967296)
    (eP : wrap64 ((H : Int) * 4294967296 + (L : Int)) = P) (eP2 : wrap64 (a * b) = P) (eT : wrap64 ((I : Int) * 4294967296 + (M : Int)) = T) (eN : wrap64 (-P) = -P)
    (C1 : ∀ w, Calls Try.prog 12 #[.bool true, .int .i64 4, .int .u32 A, .int .u32 B, .int .u32 0] w fun en w' => en = .returned (.tuple #[.int .u32 L, .int .u32 H, .int .u32 f, .int .i64 0]) ∧ Below w.heap.size w w')
    (C2 : ∀ w, Calls Try.prog 12 #[.bool true, .int .i64 4, .int .u32 C, .int .u32 B, .int .u32 0] w fun en w' => en = .returned (.tuple #[.int .u32 M, .int .u32 I, .int .u32 g, .int .i64 0]) ∧ Below w.heap.size w w')
    (C3 : ∀ w, Calls Try.prog 14 #[.bool true, .int .i64 4, .int .u32 A, .int .u32 ((U : Int) / 4294967296), .int .u32 B] w fun en w' => en = .returned (.tuple #[.int .u32 q, .int .u32 r, .bool false, .int .i64 0]) ∧ Below w.heap.size w w')
    (t1 : (a != na) = false) (b0 : (b != 0) = true) (b1 : (b != -1) = false) (a1 : (a != -2147483648) = false) (w : World) :
    Calls Try.prog 9 #[.int .i32 a, .int .i32 b] w fun e w' => e = .returned (.bool true) ∧ Below w.heap.size w w' := by
  have H1 := hide C1
  have H2 := hide C2
  have H3 := hide C3
  clear C1 C2 C3
  go_enter Try.func9, Try.ntmps9
  go_wp2_with fail
  refine (awake_ok _).mono ?_
  rintro e w1 ⟨rfl, hb⟩
  go_wp2_with fail
  refine (H1.out _).mono ?_
  rintro e w1 ⟨rfl, h2⟩
  replace hb := hb.trans (h2.mono hb.size)
  clear h2
  go_wp2_with fail
  refine (H2.out _).mono ?_
  rintro e w1 ⟨rfl, h2⟩
  replace hb := hb.trans (h2.mono hb.size)
  clear h2
  go_wp2_with fail
  refine (H3.out _).mono ?_
  rintro e w1 ⟨rfl, h2⟩
  replace hb := hb.trans (h2.mono hb.size)
  clear h2
  go_wp2
  go_ret
  exact ⟨by simp, hb⟩
set_option maxRecDepth 100000 in
set_option maxHeartbeats 4000000 in
theorem walk_sn (a b na : Int) (ha : -2147483648 ≤ a ∧ a ≤ 2147483647) (hb' : -2147483648 ≤ b ∧ b ≤ 2147483647) (A B C L H f M I g U q r : Nat) (P T : Int)
    (eA : IntKind.u32.wrap a = (A : Int)) (eB : IntKind.u32.wrap b = (B : Int)) (hna : wrap32 (-a) = na) (eC : IntKind.u32.wrap na = (C : Int)) (eU : IntKind.u64.wrap a = (U : Int)) (hU : U < 18446744073709551616)
    (hL : L < 4294967296) (hH : H < 4294967296) (hM : M < 4294967296) (hI : I < 4294967296)
    (eP : wrap64 ((H : Int) * 4294967296 + (L : Int)) = P) (eP2 : wrap64 (a * b) = P) (eT : wrap64 ((I : Int) * 4294967296 + (M : Int)) = T) (eN : wrap64 (-P) = -P)
    (C1 : ∀ w, Calls Try.prog 12 #[.bool true, .int .i64 4, .int .u32 A, .int .u32 B, .int .u32 0] w fun en w' => en = .returned (.tuple #[.int .u32 L, .int .u32 H, .int .u32 f, .int .i64 0]) ∧ Below w.heap.size w w')
    (C2 : ∀ w, Calls Try.prog 12 #[.bool true, .int .i64 4, .int .u32 C, .int .u32 B, .int .u32 0] w fun en w' => en = .returned (.tuple #[.int .u32 M, .int .u32 I, .int .u32 g, .int .i64 0]) ∧ Below w.heap.size w w')
    (C3 : ∀ w, Calls Try.prog 14 #[.bool true, .int .i64 4, .int .u32 A, .int .u32 ((U : Int) / 4294967296), .int .u32 B] w fun en w' => en = .returned (.tuple #[.int .u32 q, .int .u32 r, .bool true, .int .i64 0]) ∧ Below w.heap.size w w')
    (t1 : (a != na) = false) (b0 : (b != 0) = true) (b1 : (b != -1) = true)
    (bn : b ≠ 0) (eQ : wrap32 (q : Int) = a.tdiv b) (eR : wrap32 (r : Int) = a.tmod b) (eQ2 : wrap32 (a.tdiv b) = a.tdiv b) (eR2 : wrap32 (a.tmod b) = a.tmod b) (w : World) :
    Calls Try.prog 9 #[.int .i32 a, .int .i32 b] w fun e w' => e = .returned (.bool true) ∧ Below w.heap.size w w' := by
  have H1 := hide C1
  have H2 := hide C2
  have H3 := hide C3
  clear C1 C2 C3
  go_enter Try.func9, Try.ntmps9
  go_wp2_with fail
  refine (awake_ok _).mono ?_
  rintro e w1 ⟨rfl, hb⟩
  go_wp2_with fail
  refine (H1.out _).mono ?_
  rintro e w1 ⟨rfl, h2⟩
  replace hb := hb.trans (h2.mono hb.size)
  clear h2
  go_wp2_with fail
  refine (H2.out _).mono ?_
  rintro e w1 ⟨rfl, h2⟩
  replace hb := hb.trans (h2.mono hb.size)
  clear h2
  go_wp2_with fail
  refine (H3.out _).mono ?_
  rintro e w1 ⟨rfl, h2⟩
  replace hb := hb.trans (h2.mono hb.size)
  clear h2
  go_wp2
  go_ret
  exact ⟨by simp, hb⟩
set_option maxRecDepth 100000 in
set_option maxHeartbeats 4000000 in
theorem walk_sp (a b na : Int) (ha : -2147483648 ≤ a ∧ a ≤ 2147483647) (hb' : -2147483648 ≤ b ∧ b ≤ 2147483647) (A B C L H f M I g U q r : Nat) (P T : Int)
    (eA : IntKind.u32.wrap a = (A : Int)) (eB : IntKind.u32.wrap b = (B : Int)) (hna : wrap32 (-a) = na) (eC : IntKind.u32.wrap na = (C : Int)) (eU : IntKind.u64.wrap a = (U : Int)) (hU : U < 18446744073709551616)
    (hL : L < 4294967296) (hH : H < 4294967296) (hM : M < 4294967296) (hI : I < 4294967296)
    (eP : wrap64 ((H : Int) * 4294967296 + (L : Int)) = P) (eP2 : wrap64 (a * b) = P) (eT : wrap64 ((I : Int) * 4294967296 + (M : Int)) = T) (eN : wrap64 (-P) = -P)
    (C1 : ∀ w, Calls Try.prog 12 #[.bool true, .int .i64 4, .int .u32 A, .int .u32 B, .int .u32 0] w fun en w' => en = .returned (.tuple #[.int .u32 L, .int .u32 H, .int .u32 f, .int .i64 0]) ∧ Below w.heap.size w w')
    (C2 : ∀ w, Calls Try.prog 12 #[.bool true, .int .i64 4, .int .u32 C, .int .u32 B, .int .u32 0] w fun en w' => en = .returned (.tuple #[.int .u32 M, .int .u32 I, .int .u32 g, .int .i64 0]) ∧ Below w.heap.size w w')
    (C3 : ∀ w, Calls Try.prog 14 #[.bool true, .int .i64 4, .int .u32 A, .int .u32 ((U : Int) / 4294967296), .int .u32 B] w fun en w' => en = .returned (.tuple #[.int .u32 q, .int .u32 r, .bool true, .int .i64 0]) ∧ Below w.heap.size w w')
    (t1 : (a != na) = false) (b0 : (b != 0) = true) (b1 : (b != -1) = false) (a1 : (a != -2147483648) = true)
    (bn : b ≠ 0) (eQ : wrap32 (q : Int) = a.tdiv b) (eR : wrap32 (r : Int) = a.tmod b) (eQ2 : wrap32 (a.tdiv b) = a.tdiv b) (eR2 : wrap32 (a.tmod b) = a.tmod b) (w : World) :
    Calls Try.prog 9 #[.int .i32 a, .int .i32 b] w fun e w' => e = .returned (.bool true) ∧ Below w.heap.size w w' := by
  have H1 := hide C1
  have H2 := hide C2
  have H3 := hide C3
  clear C1 C2 C3
  go_enter Try.func9, Try.ntmps9
  go_wp2_with fail
  refine (awake_ok _).mono ?_
  rintro e w1 ⟨rfl, hb⟩
  go_wp2_with fail
  refine (H1.out _).mono ?_
  rintro e w1 ⟨rfl, h2⟩
  replace hb := hb.trans (h2.mono hb.size)
  clear h2
  go_wp2_with fail
  refine (H2.out _).mono ?_
  rintro e w1 ⟨rfl, h2⟩
  replace hb := hb.trans (h2.mono hb.size)
  clear h2
  go_wp2_with fail
  refine (H3.out _).mono ?_
  rintro e w1 ⟨rfl, h2⟩
  replace hb := hb.trans (h2.mono hb.size)
  clear h2
  go_wp2
  go_ret
  exact ⟨by simp, hb⟩
set_option maxRecDepth 100000 in
set_option maxHeartbeats 4000000 in
theorem walk_dz (a b na : Int) (ha : -2147483648 ≤ a ∧ a ≤ 2147483647) (hb' : -2147483648 ≤ b ∧ b ≤ 2147483647) (A B C L H f M I g U q r : Nat) (P T : Int)
    (eA : IntKind.u32.wrap a = (A : Int)) (eB : IntKind.u32.wrap b = (B : Int)) (hna : wrap32 (-a) = na) (eC : IntKind.u32.wrap na = (C : Int)) (eU : IntKind.u64.wrap a = (U : Int)) (hU : U < 18446744073709551616)
    (hL : L < 4294967296) (hH : H < 4294967296) (hM : M < 4294967296) (hI : I < 4294967296)
    (eP : wrap64 ((H : Int) * 4294967296 + (L : Int)) = P) (eP2 : wrap64 (a * b) = P) (eT : wrap64 ((I : Int) * 4294967296 + (M : Int)) = T) (eN : wrap64 (-P) = -P)
    (C1 : ∀ w, Calls Try.prog 12 #[.bool true, .int .i64 4, .int .u32 A, .int .u32 B, .int .u32 0] w fun en w' => en = .returned (.tuple #[.int .u32 L, .int .u32 H, .int .u32 f, .int .i64 0]) ∧ Below w.heap.size w w')
    (C2 : ∀ w, Calls Try.prog 12 #[.bool true, .int .i64 4, .int .u32 C, .int .u32 B, .int .u32 0] w fun en w' => en = .returned (.tuple #[.int .u32 M, .int .u32 I, .int .u32 g, .int .i64 0]) ∧ Below w.heap.size w w')
    (C3 : ∀ w, Calls Try.prog 14 #[.bool true, .int .i64 4, .int .u32 A, .int .u32 ((U : Int) / 4294967296), .int .u32 B] w fun en w' => en = .returned (.tuple #[.int .u32 q, .int .u32 r, .bool false, .int .i64 0]) ∧ Below w.heap.size w w')
    (t1 : (a != na) = true) (t2 : T = -P) (b0 : (b != 0) = false) (w : World) :
    Calls Try.prog 9 #[.int .i32 a, .int .i32 b] w fun e w' => e = .returned (.bool true) ∧ Below w.heap.size w w' := by
  have H1 := hide C1
  have H2 := hide C2
  have H3 := hide C3
  clear C1 C2 C3
  subst t2
  go_enter Try.func9, Try.ntmps9
  go_wp2_with fail
  refine (awake_ok _).mono ?_
  rintro e w1 ⟨rfl, hb⟩
  go_wp2_with fail
  refine (H1.out _).mono ?_
  rintro e w1 ⟨rfl, h2⟩
  replace hb := hb.trans (h2.mono hb.size)
  clear h2
  go_wp2_with fail
  refine (H2.out _).mono ?_
  rintro e w1 ⟨rfl, h2⟩
  replace hb := hb.trans (h2.mono hb.size)
  clear h2
  go_wp2_with fail
  refine (H3.out _).mono ?_
  rintro e w1 ⟨rfl, h2⟩
  replace hb := hb.trans (h2.mono hb.size)
  clear h2
  go_wp2
  go_ret
  exact ⟨by simp, hb⟩
set_option maxRecDepth 100000 in
set_option maxHeartbeats 4000000 in
theorem walk_dn (a b na : Int) (ha : -2147483648 ≤ a ∧ a ≤ 2147483647) (hb' : -2147483648 ≤ b ∧ b ≤ 2147483647) (A B C L H f M I g U q r : Nat) (P T : Int)
    (eA : IntKind.u32.wrap a = (A : Int)) (eB : IntKind.u32.wrap b = (B : Int)) (hna : wrap32 (-a) = na) (eC : IntKind.u32.wrap na = (C : Int)) (eU : IntKind.u64.wrap a = (U : Int)) (hU : U < 18446744073709551616)
    (hL : L < 4294967296) (hH : H < 4294967296) (hM : M < 4294967296) (hI : I < 4294967296)
    (eP : wrap64 ((H : Int) * 4294967296 + (L : Int)) = P) (eP2 : wrap64 (a * b) = P) (eT : wrap64 ((I : Int) * 4294967296 + (M : Int)) = T) (eN : wrap64 (-P) = -P)
    (C1 : ∀ w, Calls Try.prog 12 #[.bool true, .int .i64 4, .int .u32 A, .int .u32 B, .int .u32 0] w fun en w' => en = .returned (.tuple #[.int .u32 L, .int .u32 H, .int .u32 f, .int .i64 0]) ∧ Below w.heap.size w w')
    (C2 : ∀ w, Calls Try.prog 12 #[.bool true, .int .i64 4, .int .u32 C, .int .u32 B, .int .u32 0] w fun en w' => en = .returned (.tuple #[.int .u32 M, .int .u32 I, .int .u32 g, .int .i64 0]) ∧ Below w.heap.size w w')
    (C3 : ∀ w, Calls Try.prog 14 #[.bool true, .int .i64 4, .int .u32 A, .int .u32 ((U : Int) / 4294967296), .int .u32 B] w fun en w' => en = .returned (.tuple #[.int .u32 q, .int .u32 r, .bool true, .int .i64 0]) ∧ Below w.heap.size w w')
    (t1 : (a != na) = true) (t2 : T = -P) (b0 : (b != 0) = true) (b1 : (b != -1) = true)
    (bn : b ≠ 0) (eQ : wrap32 (q : Int) = a.tdiv b) (eR : wrap32 (r : Int) = a.tmod b) (eQ2 : wrap32 (a.tdiv b) = a.tdiv b) (eR2 : wrap32 (a.tmod b) = a.tmod b) (w : World) :
    Calls Try.prog 9 #[.int .i32 a, .int .i32 b] w fun e w' => e = .returned (.bool true) ∧ Below w.heap.size w w' := by
  have H1 := hide C1
  have H2 := hide C2
  have H3 := hide C3
  clear C1 C2 C3
  subst t2
  go_enter Try.func9, Try.ntmps9
  go_wp2_with fail
  refine (awake_ok _).mono ?_
  rintro e w1 ⟨rfl, hb⟩
  go_wp2_with fail
  refine (H1.out _).mono ?_
  rintro e w1 ⟨rfl, h2⟩
  replace hb := hb.trans (h2.mono hb.size)
  clear h2
  go_wp2_with fail
  refine (H2.out _).mono ?_
  rintro e w1 ⟨rfl, h2⟩
  replace hb := hb.trans (h2.mono hb.size)
  clear h2
  go_wp2_with fail
  refine (H3.out _).mono ?_
  rintro e w1 ⟨rfl, h2⟩
  replace hb := hb.trans (h2.mono hb.size)
  clear h2
  go_wp2
  go_ret
  exact ⟨by simp, hb⟩
set_option maxRecDepth 100000 in
set_option maxHeartbeats 4000000 in
theorem walk_dp (a b na : Int) (ha : -2147483648 ≤ a ∧ a ≤ 2147483647) (hb' : -2147483648 ≤ b ∧ b ≤ 2147483647) (A B C L H f M I g U q r : Nat) (P T : Int)
    (eA : IntKind.u32.wrap a = (A : Int)) (eB : IntKind.u32.wrap b = (B : Int)) (hna : wrap32 (-a) = na) (eC : IntKind.u32.wrap na = (C : Int)) (eU : IntKind.u64.wrap a = (U : Int)) (hU : U < 18446744073709551616)
    (hL : L < 4294967296) (hH : H < 4294967296) (hM : M < 4294967296) (hI : I < 4294967296)
    (eP : wrap64 ((H : Int) * 4294967296 + (L : Int)) = P) (eP2 : wrap64 (a * b) = P) (eT : wrap64 ((I : Int) * 4294967296 + (M : Int)) = T) (eN : wrap64 (-P) = -P)
    (C1 : ∀ w, Calls Try.prog 12 #[.bool true, .int .i64 4, .int .u32 A, .int .u32 B, .int .u32 0] w fun en w' => en = .returned (.tuple #[.int .u32 L, .int .u32 H, .int .u32 f, .int .i64 0]) ∧ Below w.heap.size w w')
    (C2 : ∀ w, Calls Try.prog 12 #[.bool true, .int .i64 4, .int .u32 C, .int .u32 B, .int .u32 0] w fun en w' => en = .returned (.tuple #[.int .u32 M, .int .u32 I, .int .u32 g, .int .i64 0]) ∧ Below w.heap.size w w')
    (C3 : ∀ w, Calls Try.prog 14 #[.bool true, .int .i64 4, .int .u32 A, .int .u32 ((U : Int) / 4294967296), .int .u32 B] w fun en w' => en = .returned (.tuple #[.int .u32 q, .int .u32 r, .bool true, .int .i64 0]) ∧ Below w.heap.size w w')
    (t1 : (a != na) = true) (t2 : T = -P) (b0 : (b != 0) = true) (b1 : (b != -1) = false) (a1 : (a != -2147483648) = true)
    (bn : b ≠ 0) (eQ : wrap32 (q : Int) = a.tdiv b) (eR : wrap32 (r : Int) = a.tmod b) (eQ2 : wrap32 (a.tdiv b) = a.tdiv b) (eR2 : wrap32 (a.tmod b) = a.tmod b) (w : World) :
    Calls Try.prog 9 #[.int .i32 a, .int .i32 b] w fun e w' => e = .returned (.bool true) ∧ Below w.heap.size w w' := by
  have H1 := hide C1
  have H2 := hide C2
  have H3 := hide C3
  clear C1 C2 C3
  subst t2
  go_enter Try.func9, Try.ntmps9
  go_wp2_with fail
  refine (awake_ok _).mono ?_
  rintro e w1 ⟨rfl, hb⟩
  go_wp2_with fail
  refine (H1.out _).mono ?_
  rintro e w1 ⟨rfl, h2⟩
  replace hb := hb.trans (h2.mono hb.size)
  clear h2
  go_wp2_with fail
  refine (H2.out _).mono ?_
  rintro e w1 ⟨rfl, h2⟩
  replace hb := hb.trans (h2.mono hb.size)
  clear h2
  go_wp2_with fail
  refine (H3.out _).mono ?_
  rintro e w1 ⟨rfl, h2⟩
  replace hb := hb.trans (h2.mono hb.size)
  clear h2
  go_wp2
  go_ret
  exact ⟨by simp, hb⟩
theorem divE_true {sg : Bool} {b n d : Nat} {e : Ending} (h : divOk sg b n d = true) (he : DivE sg b n d e) : e = .returned (.tuple #[.int .u32 ((divQ sg b n d : Nat) : Int), .int .u32 ((divR sg b n d : Nat) : Int), .bool true, .int .i64 0]) := by
  rcases he with ⟨_, he⟩ | ⟨h2, _⟩
  · exact he
  · rw [h] at h2; exact absurd h2 (by decide)
theorem divE_false {sg : Bool} {b n d : Nat} {e : Ending} (h : divOk sg b n d = false) (he : DivE sg b n d e) : e = .returned (.tuple #[.int .u32 ((0 : Nat) : Int), .int .u32 ((0 : Nat) : Int), .bool false, .int .i64 0]) := by
  rcases he with ⟨h2, _⟩ | ⟨_, he⟩
  · rw [h] at h2; exact absurd h2 (by decide)
  · exact he
theorem wrap_u32n (z : Int) : ∃ n : Nat, IntKind.u32.wrap z = (n : Int) ∧ n < 4294967296 ∧ (n : Int) = z % 4294967296 := by
  refine ⟨(z % 4294967296).toNat, ?_, by omega, by omega⟩
  show z % 4294967296 = _
  omega
theorem mod_id (A : Nat) (h : A < 4294967296) : A % 4294967296 = A := Nat.mod_eq_of_lt h
/-- the program's product of two signed numbers -/
theorem mul_of (A B : Nat) (hA : A < 4294967296) (hB : B < 4294967296) :
    ∃ f : Nat, ∀ w, Calls Try.prog 12 #[.bool true, .int .i64 4, .int .u32 A, .int .u32 B, .int .u32 0] w fun en w' => en = .returned (.tuple #[.int .u32 ((mulN true 32 A B % 4294967296 : Nat) : Int), .int .u32 ((mulN true 32 A B / 4294967296 : Nat) : Int), .int .u32 (f : Int), .int .i64 0]) ∧ Below w.heap.size w w' := by
  refine ⟨mulF true 32 (A % 4294967296) (B % 4294967296) 0, fun w => ?_⟩
  have h := mul4_true A B 0 hA hB (by decide) w
  rw [mod_id A hA, mod_id B hB] at h ⊢
  exact h
theorem neg32 (a : Int) (ha : -2147483648 ≤ a ∧ a ≤ 2147483647) : ∃ na : Int, wrap32 (-a) = na ∧ (-2147483648 ≤ na ∧ na ≤ 2147483647) ∧ (na = a ∧ (a != na) = false ∨ (a != na) = true ∧ na = -a ∧ (a != -2147483648) = true) := by
  by_cases h : a = -2147483648
  · subst h
    refine ⟨-2147483648, ?_, by omega, .inl ⟨rfl, by decide⟩⟩
    unfold wrap32
    omega
  · refine ⟨-a, ?_, by omega, ?_⟩
    · unfold wrap32
      omega
    · by_cases h0 : a = 0
      · subst h0
        exact .inl ⟨by decide, by decide⟩
      · refine .inr ⟨?_, rfl, ?_⟩
        · rw [bne_iff_ne]
          omega
        · rw [bne_iff_ne]
          exact h
theorem neg_prod {a b na : Int} (h : na = -a) : na * b = -(a * b) := by
  rw [h, Int.neg_mul]
theorem bne_no {x y : Int} (h : x = y) : (x != y) = false := by simp [h]
theorem bne_yes {x y : Int} (h : x ≠ y) : (x != y) = true := by simp [h]
theorem nat_div (U : Nat) : (U : Int) / 4294967296 = ((U / 4294967296 : Nat) : Int) := by simp
theorem wide_num {a : Int} {A U : Nat} (h : (U : Int) = a % 18446744073709551616) (hA : (A : Int) = a % 4294967296) (hU : U < 18446744073709551616) (lA : A < 4294967296) :
    U / 4294967296 % 4294967296 * 4294967296 + A % 4294967296 = U := by
  omega
theorem u_hi {U : Nat} (hU : U < 18446744073709551616) : U / 4294967296 < 4294967296 := by omega
set_option maxRecDepth 20000 in
theorem walk (a : Int) (wa : (Lit.int .i32 a).wf = true) (b : Int) (wb : (Lit.int .i32 b).wf = true) (w : World) :
    Calls Try.prog 9 #[.int .i32 a, .int .i32 b] w fun e w' => e = .returned (.bool true) ∧ Below w.heap.size w w' := by
  have ha := i32_bounds wa
  have hb := i32_bounds wb
  clear wa wb
  obtain ⟨A, eA, lA, mA⟩ := wrap_u32n a
  obtain ⟨B, eB, lB, mB⟩ := wrap_u32n b
  obtain ⟨na, hna, rna, cna⟩ := neg32 a ha
  obtain ⟨C, eC, lC, mC⟩ := wrap_u32n na
  obtain ⟨U, eU, lU, mU⟩ := wrap_u64 a
  obtain ⟨f, C1⟩ := mul_of A B lA lB
  obtain ⟨g, C2⟩ := mul_of C B lC lB
  have p1 := sprod a b A B _ ha hb mA mB rfl
  have p2 := sprod na b C B _ rna hb mC mB rfl
  have q1 := halves_of (mulN true 32 A B) 4294967296 _ _ (by decide) rfl rfl
  have q2 := halves_of (mulN true 32 C B) 4294967296 _ _ (by decide) rfl rfl
  have hi1 : mulN true 32 A B / 4294967296 < 4294967296 := hi_lt p1.2.2
  have hi2 : mulN true 32 C B / 4294967296 < 4294967296 := hi_lt p2.2.2
  have lo1 : mulN true 32 A B % 4294967296 < 4294967296 := Nat.mod_lt _ (by decide)
  have lo2 : mulN true 32 C B % 4294967296 < 4294967296 := Nat.mod_lt _ (by decide)
  have r1 := wrap_prod p1.1 p1.2.1 p1.2.2 q1
  have r2 := wrap_prod p2.1 p2.2.1 p2.2.2 q2
  have D := fun w => div4_true A (U / 4294967296) B lA (u_hi lU) lB w
  rw [wide_num mU mA lU lA, mod_id B lB, ← nat_div] at D
  rcases sg_quo a b U B ha hb mU mB with ⟨b0, ok⟩ | ⟨b0, b1, ok, eQ, eR⟩
  · have C3 := fun w => (D w).mono fun e w' h => (⟨divE_false ok h.1, h.2⟩ : _ ∧ _)
    rcases b0 with b0 | ⟨b0, b1⟩
    · rcases cna with ⟨e1, t1⟩ | ⟨t1, e1, t2⟩
      · exact walk_sz a b na ha hb A B C _ _ f _ _ g U _ _ _ _ eA eB hna eC eU lU lo1 hi1 lo2 hi2 r1.1 r1.2.1 r2.1 r1.2.2 C1 C2 C3 t1 (bne_no b0) w
      · exact walk_dz a b na ha hb A B C _ _ f _ _ g U _ _ _ _ eA eB hna eC eU lU lo1 hi1 lo2 hi2 r1.1 r1.2.1 r2.1 r1.2.2 C1 C2 C3 t1 (neg_prod e1) (bne_no b0) w
    · rcases cna with ⟨e1, t1⟩ | ⟨t1, e1, t2⟩
      · exact walk_sm a b na ha hb A B C _ _ f _ _ g U _ _ _ _ eA eB hna eC eU lU lo1 hi1 lo2 hi2 r1.1 r1.2.1 r2.1 r1.2.2 C1 C2 C3 t1 (bne_yes (by omega)) (bne_no b0) (bne_no b1) w
      · rw [bne_no b1] at t2
        exact absurd t2 (by decide)
  · have C3 := fun w => (D w).mono fun e w' h => (⟨divE_true ok h.1, h.2⟩ : _ ∧ _)
    have eQ2 : wrap32 (a.tdiv b) = a.tdiv b := wrap32_again eQ
    have eR2 : wrap32 (a.tmod b) = a.tmod b := wrap32_again eR
    by_cases b2 : b = -1
    · have a1 : a ≠ -2147483648 := b1.resolve_left (fun h => h b2)
      rcases cna with ⟨e1, t1⟩ | ⟨t1, e1, t2⟩
      · exact walk_sp a b na ha hb A B C _ _ f _ _ g U _ _ _ _ eA eB hna eC eU lU lo1 hi1 lo2 hi2 r1.1 r1.2.1 r2.1 r1.2.2 C1 C2 C3 t1 (bne_yes b0) (bne_no b2) (bne_yes a1) b0 eQ eR eQ2 eR2 w
      · exact walk_dp a b na ha hb A B C _ _ f _ _ g U _ _ _ _ eA eB hna eC eU lU lo1 hi1 lo2 hi2 r1.1 r1.2.1 r2.1 r1.2.2 C1 C2 C3 t1 (neg_prod e1) (bne_yes b0) (bne_no b2) (bne_yes a1) b0 eQ eR eQ2 eR2 w
    · rcases cna with ⟨e1, t1⟩ | ⟨t1, e1, t2⟩
      · exact walk_sn a b na ha hb A B C _ _ f _ _ g U _ _ _ _ eA eB hna eC eU lU lo1 hi1 lo2 hi2 r1.1 r1.2.1 r2.1 r1.2.2 C1 C2 C3 t1 (bne_yes b0) (bne_yes b2) b0 eQ eR eQ2 eR2 w
      · exact walk_dn a b na ha hb A B C _ _ f _ _ g U _ _ _ _ eA eB hna eC eU lU lo1 hi1 lo2 hi2 r1.1 r1.2.1 r2.1 r1.2.2 C1 C2 C3 t1 (neg_prod e1) (bne_yes b0) (bne_yes b2) b0 eQ eR eQ2 eR2 w

theorem own : ownKnob Try.prog.godebug = none := by kernel_rfl

set_option maxRecDepth 100000 in
theorem lifted (os : Os) (started : os.Started) (H : Type) (enc : TypeId × Value → H) :
    ReturnsInHanded {} Try.checked os 9 .any (Rows.muldivSignsSpec.pre6 enc Try.prog Try.f9 Rows.muldivSignsRow.domain false) (Rows.muldivSignsSpec.post enc Try.prog Try.f9 false true false false) := by
  refine returnsInHanded_of_change (C := Try.checked) own started (by kernel_rfl) Try.func9
    (ChangeSpec.witness6 (enc := enc) (C := Try.checked) false ⟨#[], #[.int .i32 0, .int .i32 0], []⟩ 8 (by kernel_rfl) (by kernel_rfl) (by kernel_rfl) (by kernel_rfl)) ?_
  intro W base args ds gs before hval0 hW hcnd _
  have hval : ∀ (j : Nat) t v, Try.f9.params[j]? = some t → args[j]? = some v → Value.okWide Try.prog W .any base t v := hval0
  have hW' := hW
  obtain ⟨p, q, hA0, hV, rfl, hfz, hnd⟩ := hW
  have hA : DataW.TrodAll enc Try.prog W 0 (fun _ => true) true Try.f9.params.toList args.toList ds p := hA0
  rw [Try.params9] at hA hval
  obtain ⟨v0, vs0, d0, ds0, p0, q0, hargs, rfl, rfl, h0, r0⟩ := trodAll_cons hA
  obtain ⟨v1, vs1, d1, ds1, p1, q1, rfl, rfl, rfl, h1, r1⟩ := trodAll_cons r0
  obtain ⟨rfl, rfl, rfl⟩ := trodAll_nil r1
  obtain rfl : args = #[v0, v1] := by cases args; simp_all
  obtain ⟨rfl, rfl⟩ := trodVars_none hV
  obtain ⟨a0, rfl, rfl, rfl, w0⟩ := open_int Try.underlying21 (hval 0 21 v0 rfl rfl) h0
  obtain ⟨a1, rfl, rfl, rfl, w1⟩ := open_int Try.underlying21 (hval 1 21 v1 rfl rfl) h1
  clear hA0 hval0
  simp only [List.append_nil] at hW'
  refine (walk a0 w0 a1 w1 W).mono fun e W' ⟨he, bel⟩ => ?_
  subst he
  exact ⟨_, rfl, _, _, _, [], [], [], hW', trodAll_mk1 (shut_bool Try.underlying4 _), (trodAll_cons_mk (shut_int Try.underlying21 w0) (trodAll_cons_mk (shut_int Try.underlying21 w1) trodAll_mk0)), rfl, bel.frame _, fun h => by cases h⟩

theorem over : Rows.muldivSignsRow.holds Try.pinned (OpenSpec.ofChange Rows.muldivSignsSpec) :=
  OpenClaim.holds_of_wide 9 Try.f9 rfl rfl rfl rfl rfl rfl rfl ⟨rfl, rfl, rfl, rfl, rfl⟩ rfl rfl rfl rfl rfl (by kernel_rfl) Try.func9 (by kernel_rfl)
    (of_decide_eq_true (by kernel_rfl)) (by unfold Func.isWrapper; first | (rw [if_pos (by decide +kernel)]; kernel_rfl) | (rw [if_neg (by decide +kernel)]; exact ⟨rfl, rfl⟩))
    (fun os started H enc _ => lifted os started H enc)

theorem proved : Rows.MuldivSignsSaid :=
  over
end Go.Proofs.Ytfjjipkieecpcaa.lawMuldivSigns
