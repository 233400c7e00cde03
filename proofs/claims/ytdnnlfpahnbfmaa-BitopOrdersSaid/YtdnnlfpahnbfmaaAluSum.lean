/- The sum and the difference inside the program's Do. -/
import Derived.Test.YtdnnlfpahnbfmaaAluBy
import Derived.Deep.QuietTactic
import Derived.BigQuiet
namespace Go.Proofs.Ytdnnlfpahnbfmaa
open Go.RowKit Pl

theorem quiet_left {P : Program} {f : FuncId} {args : Array Value} {w : World} {n : Nat} {v : Value}
    (h : Calls P f args (w.drewN n) fun e w' => e = .returned v ∧ w.drewN n = w') : Calls P f args (w.drewN n) fun e w'' => e = .returned v ∧ ∃ m, w'' = w.drewN m :=
  h.mono fun _ _ ⟨he, hm⟩ => ⟨he, n, hm.symm⟩
theorem quiet_add_left {P : Program} {f : FuncId} {args : Array Value} {w : World} {a n : Nat} {v : Value}
    (h : Calls P f args (w.drewN (a + n)) fun e w' => e = .returned v ∧ w.drewN (a + n) = w') :
    Calls P f args (w.drewN (a + n)) fun e w'' => e = .returned v ∧ ∃ m, w'' = w.drewN (a + m) :=
  h.mono fun _ _ ⟨he, hm⟩ => ⟨he, n, hm.symm⟩

theorem put_lt (k : Nat) (c : Bool) (h : k < 4294967296) : put k c < 4294967296 := by unfold put; split <;> omega

/-- the bits of a sum's, or a difference's, flags put together -/
theorem flags_int (fl cN t z n b : Nat) (c a o : Bool) (hf : fl < 4294967296) (ec : cN = put 1 c) (et : t * 2048 = put 2048 o) (ht : t ≤ 1) (hz : z < 4294967296) (ez : z &&& 16 = put 16 a) :
    bits .or .u32 (bits .or .u32 ((fl &&& (4294967295 - 2261) : Nat) : Int) (bits .or .u32 (bits .or .u32 (cN : Int) ((t : Int) * 2048)) (bits .and .u32 (z : Int) 16))) ((byB n b : Nat) : Int) =
      ((byF n b (setF (setF (setF fl 1 c) 16 a) 2048 o) : Nat) : Int) := by
  have l1 : cN < 2 ^ 32 := by rw [ec]; exact put_lt 1 c (by decide)
  have l2 : t * 2048 < 2 ^ 32 := by omega
  have l3 : z &&& 16 < 2 ^ 32 := by rw [ez]; exact put_lt 16 a (by decide)
  have l4 : fl &&& (4294967295 - 2261) < 2 ^ 32 := Nat.and_lt_two_pow _ (by decide)
  rw [show (16 : Int) = ((16 : Nat) : Int) from rfl, u32_and_nat _ _ hz (by decide), show (t : Int) * 2048 = ((t * 2048 : Nat) : Int) by simp, u32_or_nat _ _ l1 l2,
    u32_or_nat _ _ (Nat.or_lt_two_pow l1 l2) l3, u32_or_nat _ _ l4 (Nat.or_lt_two_pow (Nat.or_lt_two_pow l1 l2) l3),
    u32_or_nat _ _ (Nat.or_lt_two_pow l4 (Nat.or_lt_two_pow (Nat.or_lt_two_pow l1 l2) l3)) (byB_lt _ _), ec, et, ez, asm6 _ _ _ _ _ _ hf]

theorem carry_put (n P : Nat) (hn : n < 2 * P) : n / P = put 1 (n != n % P) := by
  have hP : 0 < P := by omega
  unfold put
  rcases Nat.lt_or_ge n P with h | h
  · rw [Nat.div_eq_of_lt h, Nat.mod_eq_of_lt h]; simp
  · have d : n / P = 1 := Nat.div_eq_of_lt_le (by omega) (by omega)
    have e := Nat.div_add_mod n P
    rw [d] at e ⊢
    have hne : (n != n % P) = true := by simp; omega
    rw [hne]
    rfl
theorem put_and (c : Bool) : bits .and .u32 ((put 1 c : Nat) : Int) 1 = ((put 1 c : Nat) : Int) := by
  cases c
  · rfl
  · rfl
theorem put_mod (c : Bool) : ((put 1 c : Nat) : Int) % 4294967296 = ((put 1 c : Nat) : Int) := by
  cases c
  · rfl
  · rfl

theorem sum_flags (b x y c fl : Nat) (q : Int) (hb : b = 8 ∧ q = 256 ∨ b = 16 ∧ q = 65536 ∨ b = 32 ∧ q = 4294967296) (hx : x < 2 ^ b) (hy : y < 2 ^ b) (hc : c ≤ 1) (hf : fl < 4294967296) (hx' : x < 4294967296) (hy' : y < 4294967296)
    (r m t v rest a1 a2 : Nat) (er : addR b x y c = r) (e1 : x ^^^ r = a1) (e2 : y ^^^ r = a2) (em : a1 &&& a2 = m) (et : m / 2 ^ (b - 1) % 2 = t) (ev : byB r b = v) (erest : fl &&& (4294967295 - 2261) = rest) (hr : r < 4294967296) :
    bits .or .u32 (bits .or .u32 (rest : Int) (bits .or .u32 (bits .or .u32 (bits .and .u32 (((x : Int) + y + c) / q) 1 % 4294967296) ((t : Int) * 2048)) (bits .and .u32 (bits .xor .u32 (bits .xor .u32 (x : Int) (y : Int)) (r : Int)) 16))) (v : Int) =
      ((addF b x y c fl : Nat) : Int) := by
  have h0 : ((x : Int) + y + c) / q = (((x + y + c) / 2 ^ b : Nat) : Int) := by
    rcases hb with ⟨rfl, rfl⟩ | ⟨rfl, rfl⟩ | ⟨rfl, rfl⟩ <;> simp only [Nat.reducePow] <;> omega
  have h1 : (x + y + c) / 2 ^ b = put 1 (x + y + c != r) := by
    rw [← er]
    exact carry_put _ _ (by rcases hb with ⟨rfl, _⟩ | ⟨rfl, _⟩ | ⟨rfl, _⟩ <;> omega)
  have et2 : t * 2048 = put 2048 (sgn x b == sgn y b && sgn r b != sgn x b) := by
    rw [← et, bit_put, ← em, ← e1, ← e2, of_add]
  have hz : (x ^^^ y) ^^^ r < 4294967296 := Nat.xor_lt_two_pow (n := 32) (Nat.xor_lt_two_pow (n := 32) hx' hy') hr
  have ez : ((x ^^^ y) ^^^ r) &&& 16 = put 16 (decide (15 < x % 16 + y % 16 + c)) := by
    rw [af_any, af_add x y c r _ hc]
    rw [← er]
    unfold addR
    rcases hb with ⟨rfl, _⟩ | ⟨rfl, _⟩ | ⟨rfl, _⟩ <;> simp only [Nat.reducePow] <;> omega
  rw [h0, h1, put_and, put_mod, u32_xor_nat _ _ hx' hy', u32_xor_nat _ _ (Nat.xor_lt_two_pow (n := 32) hx' hy') hr, ← erest, ← ev,
    flags_int fl _ t _ r b _ _ _ hf rfl et2 (by omega) hz ez, ← er]
  rfl

theorem diff_flags (b x y c fl : Nat) (hb : b = 8 ∨ b = 16 ∨ b = 32) (hx : x < 2 ^ b) (hy : y < 2 ^ b) (hc : c ≤ 1) (hf : fl < 4294967296) (hx' : x < 4294967296) (hy' : y < 4294967296)
    (r m t v rest a1 a2 k1 : Nat) (er : subR b x y c = r) (e1 : x ^^^ y = a1) (e2 : x ^^^ r = a2) (em : a1 &&& a2 = m) (et : m / 2 ^ (b - 1) % 2 = t) (ev : byB r b = v) (erest : fl &&& (4294967295 - 2261) = rest) (hr : r < 4294967296) (ek : put 1 (decide (x < y + c)) = k1) :
    bits .or .u32 (bits .or .u32 (rest : Int) (bits .or .u32 (bits .or .u32 (k1 : Int) ((t : Int) * 2048)) (bits .and .u32 (bits .xor .u32 (a1 : Int) (r : Int)) 16))) (v : Int) =
      ((subF b x y c fl : Nat) : Int) := by
  have et2 : t * 2048 = put 2048 (sgn x b != sgn y b && sgn r b == sgn y b) := by
    rw [← et, bit_put, ← em, ← e1, ← e2, of_sub]
  have ha1 : a1 < 4294967296 := by rw [← e1]; exact Nat.xor_lt_two_pow (n := 32) hx' hy'
  have hz : a1 ^^^ r < 4294967296 := Nat.xor_lt_two_pow (n := 32) ha1 hr
  have ez : (a1 ^^^ r) &&& 16 = put 16 (decide (x % 16 < y % 16 + c)) := by
    rw [← e1, af_any, af_sub x y c r _ hc]
    rw [← er]
    unfold subR
    rcases hb with rfl | rfl | rfl <;> simp only [Nat.reducePow, Nat.reduceAdd] at * <;> omega
  rw [u32_xor_nat _ _ ha1 hr, ← erest, ← ev, ← ek,
    flags_int fl _ t _ r b _ _ _ hf rfl et2 (by omega) hz ez, ← er]
  rfl

set_option maxRecDepth 20000 in
set_option maxHeartbeats 4000000 in
theorem sum_ok (s : Int) (x y c fl : Nat) (hs : s = 1 ∨ s = 2 ∨ s = 4) (hx : x < 2 ^ (8 * s.toNat)) (hy : y < 2 ^ (8 * s.toNat)) (hc : c ≤ 1) (hf : fl < 4294967296)
    (p q : Addr) (w : World) (hp : w.cell? p = some (.int .i64 s)) (hq : w.cell? q = some (.int .u32 ((fl &&& (4294967295 - 2261) : Nat) : Int))) :
    Calls Try.prog 32 #[.int .u32 x, .int .u32 y, .int .u32 c, .pointer (some p), .pointer (some q)] w fun e w' => e = .returned (.tuple #[.int .u32 ((addR (8 * s.toNat) x y c : Nat) : Int), .int .u32 ((addF (8 * s.toNat) x y c fl : Nat) : Int)]) ∧ ∃ n, w' = w.drewN n := by
  have hx' : x < 4294967296 := Nat.lt_of_lt_of_le hx (by rcases hs with rfl | rfl | rfl <;> decide)
  have hy' : y < 4294967296 := Nat.lt_of_lt_of_le hy (by rcases hs with rfl | rfl | rfl <;> decide)
  have hr : addR (8 * s.toNat) x y c < 2 ^ (8 * s.toNat) := Nat.mod_lt _ (Nat.two_pow_pos _)
  have hr' : addR (8 * s.toNat) x y c < 4294967296 := Nat.lt_of_lt_of_le hr (by rcases hs with rfl | rfl | rfl <;> decide)
  have er : addR (8 * s.toNat) x y c = (x + y + c) % 2 ^ (8 * s.toNat) := rfl
  have H1 := hide fun (z : Int) (h0 : 0 ≤ z) (h1 : z < 4294967296) w => aluvalue_ok s z hs h0 h1 w
  generalize hr0 : addR (8 * s.toNat) x y c = r at *
  have lm : (x ^^^ r) &&& (y ^^^ r) < 4294967296 := Nat.and_lt_two_pow (n := 32) _ (Nat.xor_lt_two_pow (n := 32) hy' hr')
  have H2 := hide fun w => alutop_ok s ((x ^^^ r) &&& (y ^^^ r)) hs lm w
  have H3 := hide fun w => aluby_ok s r hs hr w
  have HB := hide hr'
  have ht : ((x ^^^ r) &&& (y ^^^ r)) / 2 ^ (8 * s.toNat - 1) % 2 ≤ 1 := by omega
  have x1 : bits .xor .u32 (x : Int) (r : Int) = ((x ^^^ r : Nat) : Int) := u32_xor_nat _ _ hx' hr'
  have x2 : bits .xor .u32 (y : Int) (r : Int) = ((y ^^^ r : Nat) : Int) := u32_xor_nat _ _ hy' hr'
  have x3 : bits .and .u32 ((x ^^^ r : Nat) : Int) ((y ^^^ r : Nat) : Int) = (((x ^^^ r) &&& (y ^^^ r) : Nat) : Int) := u32_and_nat _ _ (Nat.xor_lt_two_pow (n := 32) hx' hr') (Nat.xor_lt_two_pow (n := 32) hy' hr')
  generalize hm : (x ^^^ r) &&& (y ^^^ r) = m at *
  generalize hk1 : x ^^^ r = a1 at *
  generalize hk2 : y ^^^ r = a2 at *
  generalize htt : m / 2 ^ (8 * s.toNat - 1) % 2 = t at *
  generalize hv : byB r (8 * s.toNat) = v at *
  generalize hrest : fl &&& (4294967295 - 2261) = rest at *
  have X1 := hide hm
  have X2 := hide htt
  have X3 := hide hv
  have X4 := hide hrest
  have X5 := hide er
  have X6 := hide hr0
  have X7 := hide hk1
  have X8 := hide hk2
  clear hk1 hk2 hm htt hv hrest hr' er hr lm hr0
  rcases hs with rfl | rfl | rfl
  · have HX := hide hx
    have HY := hide hy
    simp only [Int.reduceToNat, Nat.reduceMul, Nat.reducePow] at hx hy
    have H1' := hide (H1.out ((x : Int) + y + c) (by omega) (by omega))
    rw [show ((x : Int) + y + c).toNat = x + y + c by omega, ← X5.out] at H1'
    have KK := hide (sum_flags 8 x y c fl 256 (by decide) hx hy hc hf hx' hy' r m t v rest a1 a2 X6.out X7.out X8.out X1.out X2.out X3.out X4.out HB.out)
    clear H1
    go_enter Try.func32, Try.ntmps32
    go_wp2_with fail
    refine (H1'.out _).mono ?_
    rintro e w' ⟨rfl, rfl⟩
    go_wp2_with fail
    go_quiet ((go_at_call 33; exact quiet_left (H2.out _)))
    go_wp2_with fail
    go_quiet ((go_at_call 34; exact quiet_add_left (H3.out _)))
    go_wp2
    go_ret2
    refine ⟨ret_ii rfl ?_, _, World.drewN_drewN _ _ _⟩
    exact KK.out
  · have HX := hide hx
    have HY := hide hy
    simp only [Int.reduceToNat, Nat.reduceMul, Nat.reducePow] at hx hy
    have H1' := hide (H1.out ((x : Int) + y + c) (by omega) (by omega))
    rw [show ((x : Int) + y + c).toNat = x + y + c by omega, ← X5.out] at H1'
    have KK := hide (sum_flags 16 x y c fl 65536 (by decide) hx hy hc hf hx' hy' r m t v rest a1 a2 X6.out X7.out X8.out X1.out X2.out X3.out X4.out HB.out)
    clear H1
    go_enter Try.func32, Try.ntmps32
    go_wp2_with fail
    refine (H1'.out _).mono ?_
    rintro e w' ⟨rfl, rfl⟩
    go_wp2_with fail
    go_quiet ((go_at_call 33; exact quiet_left (H2.out _)))
    go_wp2_with fail
    go_quiet ((go_at_call 34; exact quiet_add_left (H3.out _)))
    go_wp2
    go_ret2
    refine ⟨ret_ii rfl ?_, _, World.drewN_drewN _ _ _⟩
    exact KK.out
  · have HX := hide hx
    have HY := hide hy
    simp only [Int.reduceToNat, Nat.reduceMul, Nat.reducePow] at hx hy
    have H1' := hide (H1.out (((x : Int) + y + c) % 4294967296) (by omega) (by omega))
    rw [show (((x : Int) + y + c) % 4294967296).toNat = (x + y + c) % 4294967296 by omega, show (x + y + c) % 4294967296 % 2 ^ (8 * Int.toNat 4) = (x + y + c) % 2 ^ (8 * Int.toNat 4) from Nat.mod_mod _ _, ← X5.out] at H1'
    have KK := hide (sum_flags 32 x y c fl 4294967296 (by decide) hx hy hc hf hx' hy' r m t v rest a1 a2 X6.out X7.out X8.out X1.out X2.out X3.out X4.out HB.out)
    clear H1
    go_enter Try.func32, Try.ntmps32
    go_wp2_with fail
    refine (H1'.out _).mono ?_
    rintro e w' ⟨rfl, rfl⟩
    go_wp2_with fail
    go_quiet ((go_at_call 33; exact quiet_left (H2.out _)))
    go_wp2_with fail
    go_quiet ((go_at_call 34; exact quiet_add_left (H3.out _)))
    go_wp2
    go_ret2
    refine ⟨ret_ii rfl ?_, _, World.drewN_drewN _ _ _⟩
    exact KK.out

set_option maxRecDepth 20000 in
set_option maxHeartbeats 4000000 in
theorem less_ok (s : Int) (x y c fl : Nat) (hs : s = 1 ∨ s = 2 ∨ s = 4) (hx : x < 2 ^ (8 * s.toNat)) (hy : y < 2 ^ (8 * s.toNat)) (hc : c ≤ 1) (hf : fl < 4294967296)
    (p q : Addr) (w : World) (hp : w.cell? p = some (.int .i64 s)) (hq : w.cell? q = some (.int .u32 ((fl &&& (4294967295 - 2261) : Nat) : Int))) :
    Calls Try.prog 35 #[.int .u32 x, .int .u32 y, .int .u32 c, .pointer (some p), .pointer (some q)] w fun e w' => e = .returned (.tuple #[.int .u32 ((subR (8 * s.toNat) x y c : Nat) : Int), .int .u32 ((subF (8 * s.toNat) x y c fl : Nat) : Int)]) ∧ ∃ n, w' = w.drewN n := by
  have hx' : x < 4294967296 := Nat.lt_of_lt_of_le hx (by rcases hs with rfl | rfl | rfl <;> decide)
  have hy' : y < 4294967296 := Nat.lt_of_lt_of_le hy (by rcases hs with rfl | rfl | rfl <;> decide)
  have hr : subR (8 * s.toNat) x y c < 2 ^ (8 * s.toNat) := Nat.mod_lt _ (Nat.two_pow_pos _)
  have hr' : subR (8 * s.toNat) x y c < 4294967296 := Nat.lt_of_lt_of_le hr (by rcases hs with rfl | rfl | rfl <;> decide)
  have er : (((x : Int) - y - c) % 4294967296).toNat % 2 ^ (8 * s.toNat) = subR (8 * s.toNat) x y c := by
    unfold subR
    rcases hs with rfl | rfl | rfl <;> simp only [Int.reduceToNat, Nat.reduceMul, Nat.reducePow, Nat.reduceAdd] at * <;> omega
  have H1 := hide fun w => aluvalue_ok s (((x : Int) - y - c) % 4294967296) hs (by omega) (by omega) w
  rw [er] at H1
  generalize hr0 : subR (8 * s.toNat) x y c = r at *
  have lm : (x ^^^ y) &&& (x ^^^ r) < 4294967296 := Nat.and_lt_two_pow (n := 32) _ (Nat.xor_lt_two_pow (n := 32) hx' hr')
  have H2 := hide fun w => alutop_ok s ((x ^^^ y) &&& (x ^^^ r)) hs lm w
  have H3 := hide fun w => aluby_ok s r hs hr w
  have H4 := hide fun w => alubit_ok 1 (decide (x < y + c)) w
  have HB := hide hr'
  have ht : ((x ^^^ y) &&& (x ^^^ r)) / 2 ^ (8 * s.toNat - 1) % 2 ≤ 1 := by omega
  have x1 : bits .xor .u32 (x : Int) (y : Int) = ((x ^^^ y : Nat) : Int) := u32_xor_nat _ _ hx' hy'
  have x2 : bits .xor .u32 (x : Int) (r : Int) = ((x ^^^ r : Nat) : Int) := u32_xor_nat _ _ hx' hr'
  have x3 : bits .and .u32 ((x ^^^ y : Nat) : Int) ((x ^^^ r : Nat) : Int) = (((x ^^^ y) &&& (x ^^^ r) : Nat) : Int) := u32_and_nat _ _ (Nat.xor_lt_two_pow (n := 32) hx' hy') (Nat.xor_lt_two_pow (n := 32) hx' hr')
  have q4 : decide ((x : Int) < (y : Int) + (c : Int)) = decide (x < y + c) := by
    rw [Bool.eq_iff_iff]
    simp only [decide_eq_true_eq]
    omega
  generalize hm : (x ^^^ y) &&& (x ^^^ r) = m at *
  generalize hk1 : x ^^^ y = a1 at *
  generalize hk2 : x ^^^ r = a2 at *
  generalize htt : m / 2 ^ (8 * s.toNat - 1) % 2 = t at *
  generalize hv : byB r (8 * s.toNat) = v at *
  generalize hrest : fl &&& (4294967295 - 2261) = rest at *
  generalize hcb : put 1 (decide (x < y + c)) = k1 at *
  rw [← q4] at H4
  have X1 := hide hm
  have X2 := hide htt
  have X3 := hide hv
  have X4 := hide hrest
  have X6 := hide hr0
  have X7 := hide hk1
  have X8 := hide hk2
  have X9 := hide hcb
  clear hk1 hk2 hm htt hv hrest hr' er hr lm hr0 hcb q4
  have KK := hide (diff_flags (8 * s.toNat) x y c fl (by rcases hs with rfl | rfl | rfl <;> decide) hx hy hc hf hx' hy' r m t v rest a1 a2 k1 X6.out X7.out X8.out X1.out X2.out X3.out X4.out HB.out X9.out)
  clear hx hy
  rcases hs with rfl | rfl | rfl
  all_goals
    go_enter Try.func35, Try.ntmps35
    go_wp2_with fail
    refine (H1.out _).mono ?_
    rintro e w' ⟨rfl, rfl⟩
    go_wp2_with fail
    go_quiet ((first | (go_at_call 36; first | exact quiet_left (H4.out _) | exact quiet_add_left (H4.out _)) | (go_at_call 33; first | exact quiet_left (H2.out _) | exact quiet_add_left (H2.out _))))
    go_wp2_with fail
    go_quiet ((go_at_call 34; exact quiet_add_left (H3.out _)))
    go_wp2
    go_ret2
    refine ⟨ret_ii rfl ?_, _, World.drewN_drewN _ _ _⟩
    exact KK.out
end Go.Proofs.Ytdnnlfpahnbfmaa
