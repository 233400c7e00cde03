/- The law MuldivBack: for every input the call returns true; its arguments are as they were. -/
import Derived.Test.YtfjjipkieecpcaaMdAwake
import Derived.Test.YtfjjipkieecpcaaMdDivU
import Derived.Test.YtfjjipkieecpcaaRows
import Derived.ProofKit
import Derived.OpenShut
import Derived.ChangeOld
namespace Go.Proofs.Ytfjjipkieecpcaa.lawMuldivBack
open Go.ChangeShapes Go.WideShapes Go.ChangeAt Go.RowKit Pl
set_option linter.unusedVariables false

set_option maxRecDepth 100000 in
set_option maxHeartbeats 4000000 in
theorem walk_of (s M : Int) (a b c x y z N L H P q r f : Nat) (ok : Bool) (ha : a < 4294967296) (hb' : b < 4294967296) (hc : c < 4294967296) (hq : q < 4294967296) (hPb : (P : Int) + (r : Int) < 18446744073709551616) (hsb : s = 1 ∧ M = 256 ∨ s = 2 ∧ M = 65536 ∨ s = 4 ∧ M = 4294967296)
    (xa : (a : Int) % M = (x : Int)) (yb : (b : Int) % M = (y : Int)) (zc : (c : Int) % M = (z : Int)) (hx : (x : Int) < M) (hy : (y : Int) < M) (hz : (z : Int) < M) (hL : (L : Int) < M) (hH : (H : Int) < M)
    (eN : IntKind.u64.wrap ((x : Int) * (y : Int)) = (N : Int)) (eHL : (H : Int) * M + (L : Int) = (N : Int))
    (hok : ok = true ∧ z ≠ 0 ∧ y < z ∧ r < z ∧ IntKind.u64.wrap ((q : Int) * (z : Int)) = (P : Int) ∧ (P : Int) + (r : Int) = (y : Int) * M + (x : Int) ∨ ok = false ∧ (z = 0 ∨ z ≠ 0 ∧ z ≤ y))
    (C1 : ∀ w, Calls Try.prog 12 #[.bool false, .int .i64 s, .int .u32 a, .int .u32 b, .int .u32 0] w fun en w' => en = .returned (.tuple #[.int .u32 L, .int .u32 H, .int .u32 f, .int .i64 0]) ∧ Below w.heap.size w w')
    (C2 : y ≠ 0 → ∀ w, Calls Try.prog 14 #[.bool false, .int .i64 s, .int .u32 L, .int .u32 H, .int .u32 b] w fun en w' => en = .returned (.tuple #[.int .u32 x, .int .u32 0, .bool true, .int .i64 0]) ∧ Below w.heap.size w w')
    (C3 : ∀ w, Calls Try.prog 14 #[.bool false, .int .i64 s, .int .u32 a, .int .u32 b, .int .u32 c] w fun en w' => en = .returned (.tuple #[.int .u32 q, .int .u32 r, .bool ok, .int .i64 0]) ∧ Below w.heap.size w w') (w : World) :
    Calls Try.prog 8 #[.int .i64 s, .int .u32 a, .int .u32 b, .int .u32 c] w fun e w' => e = .returned (.bool true) ∧ Below w.heap.size w w' := by
  have H1 := hide C1
  have H2 := hide C2
  have H3 := hide C3
  clear C1 C2 C3
  have hq0 : (0 : Int) ≤ q := Int.natCast_nonneg _
  rcases hsb with ⟨rfl, rfl⟩ | ⟨rfl, rfl⟩ | ⟨rfl, rfl⟩
  all_goals
    rcases Nat.eq_zero_or_pos y with hy0 | hy0
    · have t1 : ((y : Int) != 0) = false := by simp; omega
      clear hy0
      rcases hok with ⟨rfl, z0, yz, rz, eP, hP⟩ | ⟨rfl, z0 | ⟨z0, yz⟩⟩
      · have t2 : ((z : Int) != 0) = true := by simp; omega
        go_enter Try.func8, Try.ntmps8
        go_wp2_with fail
        refine (awake_ok _).mono ?_
        rintro e w1 ⟨rfl, hb⟩
        go_wp2_with fail
        refine (H1.out _).mono ?_
        rintro e w1 ⟨rfl, h2⟩
        replace hb := hb.trans (h2.mono hb.size)
        clear h2
        go_wp2_with fail
        refine (H3.out _).mono ?_
        rintro e w1 ⟨rfl, h2⟩
        replace hb := hb.trans (h2.mono hb.size)
        clear h2
        go_wp2
        go_ret
        exact ⟨by simp, hb⟩
      · have t2 : ((z : Int) != 0) = false := by simp; omega
        clear z0
        go_enter Try.func8, Try.ntmps8
        go_wp2_with fail
        refine (awake_ok _).mono ?_
        rintro e w1 ⟨rfl, hb⟩
        go_wp2_with fail
        refine (H1.out _).mono ?_
        rintro e w1 ⟨rfl, h2⟩
        replace hb := hb.trans (h2.mono hb.size)
        clear h2
        go_wp2_with fail
        refine (H3.out _).mono ?_
        rintro e w1 ⟨rfl, h2⟩
        replace hb := hb.trans (h2.mono hb.size)
        clear h2
        go_wp2
        go_ret
        exact ⟨by simp, hb⟩
      · have t2 : ((z : Int) != 0) = true := by simp; omega
        have t3 : ((y : Int) < (z : Int)) = False := by
          rw [eq_iff_iff, iff_false]
          omega
        clear z0 yz
        go_enter Try.func8, Try.ntmps8
        go_wp2_with fail
        refine (awake_ok _).mono ?_
        rintro e w1 ⟨rfl, hb⟩
        go_wp2_with fail
        refine (H1.out _).mono ?_
        rintro e w1 ⟨rfl, h2⟩
        replace hb := hb.trans (h2.mono hb.size)
        clear h2
        go_wp2_with fail
        refine (H3.out _).mono ?_
        rintro e w1 ⟨rfl, h2⟩
        replace hb := hb.trans (h2.mono hb.size)
        clear h2
        go_wp2
        go_ret
        exact ⟨by simp, hb⟩
    · have t1 : ((y : Int) != 0) = true := by simp; omega
      have HD := hide (H2.out (by omega))
      clear hy0
      rcases hok with ⟨rfl, z0, yz, rz, eP, hP⟩ | ⟨rfl, z0 | ⟨z0, yz⟩⟩
      · have t2 : ((z : Int) != 0) = true := by simp; omega
        go_enter Try.func8, Try.ntmps8
        go_wp2_with fail
        refine (awake_ok _).mono ?_
        rintro e w1 ⟨rfl, hb⟩
        go_wp2_with fail
        refine (H1.out _).mono ?_
        rintro e w1 ⟨rfl, h2⟩
        replace hb := hb.trans (h2.mono hb.size)
        clear h2
        go_wp2_with fail
        refine (HD.out _).mono ?_
        rintro e w1 ⟨rfl, h2⟩
        replace hb := hb.trans (h2.mono hb.size)
        clear h2
        go_wp2_with fail
        refine (H3.out _).mono ?_
        rintro e w1 ⟨rfl, h2⟩
        replace hb := hb.trans (h2.mono hb.size)
        clear h2
        go_wp2
        go_ret
        exact ⟨by simp, hb⟩
      · have t2 : ((z : Int) != 0) = false := by simp; omega
        clear z0
        go_enter Try.func8, Try.ntmps8
        go_wp2_with fail
        refine (awake_ok _).mono ?_
        rintro e w1 ⟨rfl, hb⟩
        go_wp2_with fail
        refine (H1.out _).mono ?_
        rintro e w1 ⟨rfl, h2⟩
        replace hb := hb.trans (h2.mono hb.size)
        clear h2
        go_wp2_with fail
        refine (HD.out _).mono ?_
        rintro e w1 ⟨rfl, h2⟩
        replace hb := hb.trans (h2.mono hb.size)
        clear h2
        go_wp2_with fail
        refine (H3.out _).mono ?_
        rintro e w1 ⟨rfl, h2⟩
        replace hb := hb.trans (h2.mono hb.size)
        clear h2
        go_wp2
        go_ret
        exact ⟨by simp, hb⟩
      · have t2 : ((z : Int) != 0) = true := by simp; omega
        have t3 : ((y : Int) < (z : Int)) = False := by
          rw [eq_iff_iff, iff_false]
          omega
        clear z0 yz
        go_enter Try.func8, Try.ntmps8
        go_wp2_with fail
        refine (awake_ok _).mono ?_
        rintro e w1 ⟨rfl, hb⟩
        go_wp2_with fail
        refine (H1.out _).mono ?_
        rintro e w1 ⟨rfl, h2⟩
        replace hb := hb.trans (h2.mono hb.size)
        clear h2
        go_wp2_with fail
        refine (HD.out _).mono ?_
        rintro e w1 ⟨rfl, h2⟩
        replace hb := hb.trans (h2.mono hb.size)
        clear h2
        go_wp2_with fail
        refine (H3.out _).mono ?_
        rintro e w1 ⟨rfl, h2⟩
        replace hb := hb.trans (h2.mono hb.size)
        clear h2
        go_wp2
        go_ret
        exact ⟨by simp, hb⟩
set_option maxRecDepth 20000 in
set_option maxHeartbeats 1000000 in
theorem walk_no (s a b c : Int) (h1 : ¬ s = 1) (h2 : ¬ s = 2) (h4 : ¬ s = 4)
    (C : ∀ w, Calls Try.prog 12 #[.bool false, .int .i64 s, .int .u32 a, .int .u32 b, .int .u32 0] w fun en w' => en = .returned (.tuple #[.int .u32 0, .int .u32 0, .int .u32 0, .int .i64 2]) ∧ Below w.heap.size w w') (w : World) :
    Calls Try.prog 8 #[.int .i64 s, .int .u32 a, .int .u32 b, .int .u32 c] w fun e w' => e = .returned (.bool true) ∧ Below w.heap.size w w' := by
  have H1 := hide C
  clear C
  have k1 : (s != 1) = true := by simpa using h1
  have k2 : (s != 2) = true := by simpa using h2
  have k4 : (s != 4) = true := by simpa using h4
  clear h1 h2 h4
  go_enter Try.func8, Try.ntmps8
  go_wp2_with fail
  refine (awake_ok _).mono ?_
  rintro e w1 ⟨rfl, hb⟩
  go_wp2_with fail
  refine (H1.out _).mono ?_
  rintro e w1 ⟨rfl, h2⟩
  replace hb := hb.trans (h2.mono hb.size)
  clear h2
  go_wp2
  go_ret
  exact ⟨rfl, hb⟩
theorem divE_true {sg : Bool} {b n d : Nat} {e : Ending} (h : divOk sg b n d = true) (he : DivE sg b n d e) : e = .returned (.tuple #[.int .u32 ((divQ sg b n d : Nat) : Int), .int .u32 ((divR sg b n d : Nat) : Int), .bool true, .int .i64 0]) := by
  rcases he with ⟨_, he⟩ | ⟨h2, _⟩
  · exact he
  · rw [h] at h2; exact absurd h2 (by decide)
theorem divE_false {sg : Bool} {b n d : Nat} {e : Ending} (h : divOk sg b n d = false) (he : DivE sg b n d e) : e = .returned (.tuple #[.int .u32 0, .int .u32 0, .bool false, .int .i64 0]) := by
  rcases he with ⟨h2, _⟩ | ⟨_, he⟩
  · rw [h] at h2; exact absurd h2 (by decide)
  · exact he
theorem walk (s : Int) (ws : (Lit.int .i64 s).wf = true) (a : Nat) (ha : a < 4294967296) (b : Nat) (hb : b < 4294967296) (c : Nat) (hc : c < 4294967296) (w : World) :
    Calls Try.prog 8 #[.int .i64 s, .int .u32 a, .int .u32 b, .int .u32 c] w fun e w' => e = .returned (.bool true) ∧ Below w.heap.size w w' := by
  by_cases hs : s = 1 ∨ s = 2 ∨ s = 4
  · obtain ⟨M, hsb, hM⟩ : ∃ M : Int, (s = 1 ∧ M = 256 ∨ s = 2 ∧ M = 65536 ∨ s = 4 ∧ M = 4294967296) ∧ M = ((2 ^ (8 * s.toNat) : Nat) : Int) := by
      rcases hs with rfl | rfl | rfl
      · exact ⟨256, by decide, by decide⟩
      · exact ⟨65536, by decide, by decide⟩
      · exact ⟨4294967296, by decide, by decide⟩
    have h32 : 2 ^ (8 * s.toNat) ≤ 4294967296 := by rcases hs with rfl | rfl | rfl <;> decide
    have C1 := fun w => mul_ok false s hs a b 0 ha hb (by decide) w
    have C3 := fun w => divu_ok s hs a b c ha hb hc w
    have hp : 0 < 2 ^ (8 * s.toNat) := Nat.two_pow_pos _
    have D2 := fun (l h : Nat) (hl : l < 4294967296) (hh : h < 4294967296) w => divu_ok s hs l h b hl hh hb w
    generalize hPe' : 2 ^ (8 * s.toNat) = P at *
    have hPe : P = 2 ^ (8 * s.toNat) := hPe'.symm
    clear hPe'
    have hx : a % P < P := Nat.mod_lt _ hp
    have hy : b % P < P := Nat.mod_lt _ hp
    have hz : c % P < P := Nat.mod_lt _ hp
    have xa : (a : Int) % M = ((a % P : Nat) : Int) := by subst hM; simp
    have yb : (b : Int) % M = ((b % P : Nat) : Int) := by subst hM; simp
    have zc : (c : Int) % M = ((c % P : Nat) : Int) := by subst hM; simp
    have hN : a % P * (b % P) < P * P := Nat.mul_lt_mul'' hx hy
    have hPP : P * P ≤ 18446744073709551616 := Nat.mul_le_mul h32 h32
    have eN : IntKind.u64.wrap (((a % P : Nat) : Int) * ((b % P : Nat) : Int)) = ((a % P * (b % P) : Nat) : Int) := by
      have e : ((a % P : Nat) : Int) * ((b % P : Nat) : Int) = ((a % P * (b % P) : Nat) : Int) := by simp
      rw [e]
      show ((a % P * (b % P) : Nat) : Int) % 18446744073709551616 = _
      omega
    have em : mulN false (8 * s.toNat) (a % P) (b % P) = a % P * (b % P) := rfl
    rw [em] at C1
    have hL : a % P * (b % P) % P < P := Nat.mod_lt _ hp
    have hH : a % P * (b % P) / P < P := Nat.div_lt_of_lt_mul hN
    have eHL : ((a % P * (b % P) / P : Nat) : Int) * M + ((a % P * (b % P) % P : Nat) : Int) = ((a % P * (b % P) : Nat) : Int) := by
      subst hM
      have h := Nat.div_add_mod (a % P * (b % P)) P
      rw [Nat.mul_comm] at h
      generalize a % P * (b % P) = N at *
      rw [← Int.natCast_mul, ← Int.natCast_add, h]
    have hMi : ∀ k : Nat, k < P → (k : Int) < M := fun k h => by subst hM; omega
    have C2 : b % P ≠ 0 → ∀ w, Calls Try.prog 14 #[.bool false, .int .i64 s, .int .u32 ((a % P * (b % P) % P : Nat) : Int), .int .u32 ((a % P * (b % P) / P : Nat) : Int), .int .u32 b] w fun en w' => en = .returned (.tuple #[.int .u32 ((a % P : Nat) : Int), .int .u32 0, .bool true, .int .i64 0]) ∧ Below w.heap.size w w' := by
      intro h0 w
      refine (D2 _ _ (Nat.lt_of_lt_of_le hL h32) (Nat.lt_of_lt_of_le hH h32) w).mono fun e w' he => ⟨?_, he.2⟩
      have he1 := he.1
      rw [Nat.mod_eq_of_lt hH, Nat.mod_mod, Nat.div_add_mod' ] at he1
      have hq : a % P * (b % P) / (b % P) = a % P := Nat.mul_div_cancel _ (by omega)
      have hr : a % P * (b % P) % (b % P) = 0 := Nat.mul_mod_left _ _
      have e1 : divOk false (8 * s.toNat) (a % P * (b % P)) (b % P) = true := by
        rw [divOk_un _ _ _ P hPe h0, hq]
        simpa using hx
      have e2 : divQ false (8 * s.toNat) (a % P * (b % P)) (b % P) = a % P := hq
      have e3 : divR false (8 * s.toNat) (a % P * (b % P)) (b % P) = 0 := hr
      have := divE_true e1 he1
      rw [e2, e3] at this
      exact this
    rcases Nat.eq_zero_or_pos (c % P) with hz0 | hz0
    · have e1 : divOk false (8 * s.toNat) (b % P * P + a % P) (c % P) = false := by unfold divOk; rw [if_pos hz0]
      exact walk_of s M a b c (a % P) (b % P) (c % P) _ _ _ 0 0 0 _ false ha hb hc (by decide) (by decide) hsb xa yb zc (hMi _ hx) (hMi _ hy) (hMi _ hz) (hMi _ hL) (hMi _ hH) eN eHL (.inr ⟨rfl, .inl hz0⟩) C1 C2 (fun w => (C3 w).mono fun e w' he => ⟨divE_false e1 he.1, he.2⟩) w
    · rcases Nat.lt_or_ge (b % P) (c % P) with hyz | hyz
      · have hq : (b % P * P + a % P) / (c % P) < P := by
          rw [Nat.div_lt_iff_lt_mul hz0]
          have h1 : (b % P + 1) * P ≤ c % P * P := Nat.mul_le_mul_right _ hyz
          rw [Nat.add_mul] at h1
          rw [Nat.mul_comm P]
          omega
        have e1 : divOk false (8 * s.toNat) (b % P * P + a % P) (c % P) = true := by
          rw [divOk_un _ _ _ P hPe (by omega)]
          simpa using hq
        have hm := Nat.mod_lt (b % P * P + a % P) hz0
        have hd := Nat.div_add_mod (b % P * P + a % P) (c % P)
        rw [Nat.mul_comm] at hd
        have hb1 : b % P * P + a % P < P * P := by
          have h1 : (b % P + 1) * P ≤ P * P := Nat.mul_le_mul_right _ hy
          rw [Nat.add_mul] at h1
          omega
        have eP : IntKind.u64.wrap ((((b % P * P + a % P) / (c % P) : Nat) : Int) * ((c % P : Nat) : Int)) = (((b % P * P + a % P) / (c % P) * (c % P) : Nat) : Int) := by
          have e : (((b % P * P + a % P) / (c % P) : Nat) : Int) * ((c % P : Nat) : Int) = (((b % P * P + a % P) / (c % P) * (c % P) : Nat) : Int) := by simp
          rw [e]
          show (((b % P * P + a % P) / (c % P) * (c % P) : Nat) : Int) % 18446744073709551616 = _
          omega
        have hPr : (((b % P * P + a % P) / (c % P) * (c % P) : Nat) : Int) + (((b % P * P + a % P) % (c % P) : Nat) : Int) = ((b % P : Nat) : Int) * M + ((a % P : Nat) : Int) := by
          rw [hM, ← Int.natCast_mul, ← Int.natCast_add, ← Int.natCast_add, hd]
        exact walk_of s M a b c (a % P) (b % P) (c % P) _ _ _ _ _ _ _ true ha hb hc (Nat.lt_of_lt_of_le hq h32) (by omega) hsb xa yb zc (hMi _ hx) (hMi _ hy) (hMi _ hz) (hMi _ hL) (hMi _ hH) eN eHL (.inl ⟨rfl, by omega, hyz, hm, eP, hPr⟩) C1 C2 (fun w => (C3 w).mono fun e w' he => ⟨divE_true e1 he.1, he.2⟩) w
      · have e1 : divOk false (8 * s.toNat) (b % P * P + a % P) (c % P) = false := by
          rw [divOk_un _ _ _ P hPe (by omega)]
          have hq : P ≤ (b % P * P + a % P) / (c % P) := by
            rw [Nat.le_div_iff_mul_le hz0]
            have h1 : c % P * P ≤ b % P * P := Nat.mul_le_mul_right _ hyz
            rw [Nat.mul_comm P]
            omega
          simpa using hq
        exact walk_of s M a b c (a % P) (b % P) (c % P) _ _ _ 0 0 0 _ false ha hb hc (by decide) (by decide) hsb xa yb zc (hMi _ hx) (hMi _ hy) (hMi _ hz) (hMi _ hL) (hMi _ hH) eN eHL (.inr ⟨rfl, .inr ⟨by omega, hyz⟩⟩) C1 C2 (fun w => (C3 w).mono fun e w' he => ⟨divE_false e1 he.1, he.2⟩) w
  · exact walk_no s a b c (by omega) (by omega) (by omega) (fun w => mul_size false s (by omega) (by omega) (by omega) a b 0 w) w

theorem own : ownKnob Try.prog.godebug = none := by kernel_rfl

set_option maxRecDepth 100000 in
theorem lifted (os : Os) (started : os.Started) (H : Type) (enc : TypeId × Value → H) :
    ReturnsInHanded {} Try.checked os 8 .any (Rows.muldivBackSpec.pre6 enc Try.prog Try.f8 Rows.muldivBackRow.domain false) (Rows.muldivBackSpec.post enc Try.prog Try.f8 false true false false) := by
  refine returnsInHanded_of_change (C := Try.checked) own started (by kernel_rfl) Try.func8
    (ChangeSpec.witness6 (enc := enc) (C := Try.checked) false ⟨#[], #[.int .i64 0, .int .u32 0, .int .u32 0, .int .u32 0], []⟩ 8 (by kernel_rfl) (by kernel_rfl) (by kernel_rfl) (by kernel_rfl)) ?_
  intro W base args ds gs before hval0 hW hcnd _
  have hval : ∀ (j : Nat) t v, Try.f8.params[j]? = some t → args[j]? = some v → Value.okWide Try.prog W .any base t v := hval0
  have hW' := hW
  obtain ⟨p, q, hA0, hV, rfl, hfz, hnd⟩ := hW
  have hA : DataW.TrodAll enc Try.prog W 0 (fun _ => true) true Try.f8.params.toList args.toList ds p := hA0
  rw [Try.params8] at hA hval
  obtain ⟨v0, vs0, d0, ds0, p0, q0, hargs, rfl, rfl, h0, r0⟩ := trodAll_cons hA
  obtain ⟨v1, vs1, d1, ds1, p1, q1, rfl, rfl, rfl, h1, r1⟩ := trodAll_cons r0
  obtain ⟨v2, vs2, d2, ds2, p2, q2, rfl, rfl, rfl, h2, r2⟩ := trodAll_cons r1
  obtain ⟨v3, vs3, d3, ds3, p3, q3, rfl, rfl, rfl, h3, r3⟩ := trodAll_cons r2
  obtain ⟨rfl, rfl, rfl⟩ := trodAll_nil r3
  obtain rfl : args = #[v0, v1, v2, v3] := by cases args; simp_all
  obtain ⟨rfl, rfl⟩ := trodVars_none hV
  obtain ⟨a0, rfl, rfl, rfl, w0⟩ := open_int Try.underlying3 (hval 0 3 v0 rfl rfl) h0
  obtain ⟨a1, rfl, rfl, rfl, w1⟩ := open_int Try.underlying22 (hval 1 22 v1 rfl rfl) h1
  obtain ⟨a2, rfl, rfl, rfl, w2⟩ := open_int Try.underlying22 (hval 2 22 v2 rfl rfl) h2
  obtain ⟨a3, rfl, rfl, rfl, w3⟩ := open_int Try.underlying22 (hval 3 22 v3 rfl rfl) h3
  clear hA0 hval0
  simp only [List.append_nil] at hW'
  obtain ⟨n1, rfl, b1⟩ := u32_nat w1
  obtain ⟨n2, rfl, b2⟩ := u32_nat w2
  obtain ⟨n3, rfl, b3⟩ := u32_nat w3
  refine (walk a0 w0 n1 b1 n2 b2 n3 b3 W).mono fun e W' ⟨he, bel⟩ => ?_
  subst he
  exact ⟨_, rfl, _, _, _, [], [], [], hW', trodAll_mk1 (shut_bool Try.underlying4 _), (trodAll_cons_mk (shut_int Try.underlying3 w0) (trodAll_cons_mk (shut_int Try.underlying22 w1) (trodAll_cons_mk (shut_int Try.underlying22 w2) (trodAll_cons_mk (shut_int Try.underlying22 w3) trodAll_mk0)))), rfl, bel.frame _, fun h => by cases h⟩

theorem over : Rows.muldivBackRow.holds Try.pinned (OpenSpec.ofChange Rows.muldivBackSpec) :=
  OpenClaim.holds_of_wide 8 Try.f8 rfl rfl rfl rfl rfl rfl rfl ⟨rfl, rfl, rfl, rfl, rfl⟩ rfl rfl rfl rfl rfl (by kernel_rfl) Try.func8 (by kernel_rfl)
    (of_decide_eq_true (by kernel_rfl)) (by unfold Func.isWrapper; first | (rw [if_pos (by decide +kernel)]; kernel_rfl) | (rw [if_neg (by decide +kernel)]; exact ⟨rfl, rfl⟩))
    (fun os started H enc _ => lifted os started H enc)

theorem proved : Rows.MuldivBackSaid :=
  over
end Go.Proofs.Ytfjjipkieecpcaa.lawMuldivBack
