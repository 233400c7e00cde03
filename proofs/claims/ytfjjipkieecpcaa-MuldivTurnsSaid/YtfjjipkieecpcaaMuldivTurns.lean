/- The law MuldivTurns: for every input the call returns true; its arguments are as they were. -/
import Derived.Test.YtfjjipkieecpcaaMdAwake
import Derived.Test.YtfjjipkieecpcaaRows
import Derived.ProofKit
import Derived.OpenShut
import Derived.ChangeOld
namespace Go.Proofs.Ytfjjipkieecpcaa.lawMuldivTurns
open Go.ChangeShapes Go.WideShapes Go.ChangeAt Go.RowKit Pl
set_option linter.unusedVariables false

set_option maxRecDepth 20000 in
set_option maxHeartbeats 2000000 in
theorem walk_of (s B : Int) (a b fl l h f n j k x y : Nat) (fx : Nat) (hsb : s = 1 ∧ B = 8 ∨ s = 2 ∧ B = 16 ∨ s = 4 ∧ B = 32) (hl : n = l) (hx : x = a % 2 ^ B.toNat) (hy : y = 0) (hf : fl < 4294967296) (ha : a < 4294967296)
    (C1 : ∀ w, Calls Try.prog 12 #[.bool false, .int .i64 s, .int .u32 a, .int .u32 b, .int .u32 fl] w fun en w' => en = .returned (.tuple #[.int .u32 l, .int .u32 h, .int .u32 f, .int .i64 0]) ∧ Below w.heap.size w w')
    (C2 : ∀ w, Calls Try.prog 12 #[.bool false, .int .i64 s, .int .u32 b, .int .u32 a, .int .u32 fl] w fun en w' => en = .returned (.tuple #[.int .u32 l, .int .u32 h, .int .u32 f, .int .i64 0]) ∧ Below w.heap.size w w')
    (C3 : ∀ w, Calls Try.prog 12 #[.bool true, .int .i64 s, .int .u32 a, .int .u32 b, .int .u32 fl] w fun en w' => en = .returned (.tuple #[.int .u32 n, .int .u32 j, .int .u32 k, .int .i64 0]) ∧ Below w.heap.size w w')
    (C4 : ∀ w, Calls Try.prog 12 #[.bool true, .int .i64 s, .int .u32 b, .int .u32 a, .int .u32 fl] w fun en w' => en = .returned (.tuple #[.int .u32 n, .int .u32 j, .int .u32 k, .int .i64 0]) ∧ Below w.heap.size w w')
    (C5 : ∀ w, Calls Try.prog 12 #[.bool false, .int .i64 s, .int .u32 a, .int .u32 1, .int .u32 fl] w fun en w' => en = .returned (.tuple #[.int .u32 x, .int .u32 y, .int .u32 fx, .int .i64 0]) ∧ Below w.heap.size w w') (w : World) :
    Calls Try.prog 3 #[.int .i64 s, .int .u32 a, .int .u32 b, .int .u32 fl] w fun e w' => e = .returned (.bool true) ∧ Below w.heap.size w w' := by
  have H1 := hide C1
  have H2 := hide C2
  have H3 := hide C3
  have H4 := hide C4
  have H5 := hide C5
  have HX := hide hx
  clear C1 C2 C3 C4 C5 hx
  subst hl hy
  rcases hsb with ⟨rfl, rfl⟩ | ⟨rfl, rfl⟩ | ⟨rfl, rfl⟩
  all_goals
    simp only [Int.reduceToNat, Nat.reducePow] at HX
    go_enter Try.func3, Try.ntmps3
    go_wp2_with fail
    refine (awake_ok _).mono ?_
    rintro e w1 ⟨rfl, hb⟩
    go_wp2_with fail
    refine (H1.out _).mono ?_
    rintro e w1 ⟨rfl, h2⟩
    replace hb := hb.trans (h2.mono hb.size)
    clear h2
    go_wp2_with fail
    refine (H2.out _).mono ?_
    rintro e w1 ⟨rfl, h2⟩
    replace hb := hb.trans (h2.mono hb.size)
    clear h2
    go_wp2_with fail
    refine (H3.out _).mono ?_
    rintro e w1 ⟨rfl, h2⟩
    replace hb := hb.trans (h2.mono hb.size)
    clear h2
    go_wp2_with fail
    refine (H4.out _).mono ?_
    rintro e w1 ⟨rfl, h2⟩
    replace hb := hb.trans (h2.mono hb.size)
    clear h2
    go_wp2_with fail
    refine (H5.out _).mono ?_
    rintro e w1 ⟨rfl, h2⟩
    replace hb := hb.trans (h2.mono hb.size)
    clear h2
    have hx := HX.out
    have hxl : x < 4294967296 := by omega
    clear HX
    first
      | have hxi : (a : Int) % 256 = (x : Int) := by omega
      | have hxi : (a : Int) % 65536 = (x : Int) := by omega
      | have hxi : (a : Int) % 4294967296 = (x : Int) := by omega
    clear hx
    go_wp2
    go_ret
    exact ⟨rfl, hb⟩
theorem mulN_comm (sg : Bool) (b x y : Nat) : mulN sg b x y = mulN sg b y x := by
  unfold mulN
  cases sg
  · exact Nat.mul_comm x y
  · show (sZ x b * sZ y b % 2 ^ (2 * b)).toNat = (sZ y b * sZ x b % 2 ^ (2 * b)).toNat
    rw [Int.mul_comm]
theorem mulF_comm (sg : Bool) (b x y fl : Nat) : mulF sg b x y fl = mulF sg b y x fl := by
  unfold mulF mulO
  rw [mulN_comm sg b x y]
theorem mulN_one (b x : Nat) : mulN false b x 1 = x := Nat.mul_one x
theorem sZ_cong (b x : Nat) : sZ x b % 2 ^ b = (x : Int) % 2 ^ b := by
  unfold sZ
  split
  · rw [Int.sub_emod, Int.emod_self, Int.sub_zero, Int.emod_emod]
  · rfl
theorem low_same (b x y : Nat) : mulN true b x y % 2 ^ b = mulN false b x y % 2 ^ b := by
  have h : ((mulN true b x y % 2 ^ b : Nat) : Int) = ((mulN false b x y % 2 ^ b : Nat) : Int) := by
    have hp : (0 : Int) < 2 ^ (2 * b) := Int.pow_pos (by decide)
    have e1 : ((mulN true b x y : Nat) : Int) = sZ x b * sZ y b % 2 ^ (2 * b) := by
      have := Int.emod_nonneg (sZ x b * sZ y b) (Int.ne_of_gt hp)
      show (((sZ x b * sZ y b % 2 ^ (2 * b)).toNat : Nat) : Int) = _
      omega
    have e2 : ((mulN false b x y : Nat) : Int) = (x : Int) * y := by
      show ((x * y : Nat) : Int) = _
      simp
    have hd : (2 : Int) ^ b ∣ 2 ^ (2 * b) := ⟨2 ^ b, by rw [← Int.pow_add]; congr 1; omega⟩
    rw [Int.natCast_emod, Int.natCast_emod, e1, e2]
    have hpw : ((2 ^ b : Nat) : Int) = 2 ^ b := by simp
    rw [hpw, Int.emod_emod_of_dvd _ hd, Int.mul_emod, sZ_cong b x, sZ_cong b y, ← Int.mul_emod]
  omega
set_option maxRecDepth 20000 in
set_option maxHeartbeats 1000000 in
theorem walk_no (s a b fl : Int)
    (C : ∀ (sg : Bool) (p q : Int) w, Calls Try.prog 12 #[.bool sg, .int .i64 s, .int .u32 p, .int .u32 q, .int .u32 fl] w fun en w' => en = .returned (.tuple #[.int .u32 0, .int .u32 0, .int .u32 0, .int .i64 2]) ∧ Below w.heap.size w w') (w : World) :
    Calls Try.prog 3 #[.int .i64 s, .int .u32 a, .int .u32 b, .int .u32 fl] w fun e w' => e = .returned (.bool true) ∧ Below w.heap.size w w' := by
  have H := hide C
  clear C
  go_enter Try.func3, Try.ntmps3
  go_wp2_with fail
  refine (awake_ok _).mono ?_
  rintro e w1 ⟨rfl, hb⟩
  go_wp2_with fail
  refine (H.out _ _ _ _).mono ?_
  rintro e w1 ⟨rfl, h2⟩
  replace hb := hb.trans (h2.mono hb.size)
  clear h2
  go_wp2_with fail
  refine (H.out _ _ _ _).mono ?_
  rintro e w1 ⟨rfl, h2⟩
  replace hb := hb.trans (h2.mono hb.size)
  clear h2
  go_wp2_with fail
  refine (H.out _ _ _ _).mono ?_
  rintro e w1 ⟨rfl, h2⟩
  replace hb := hb.trans (h2.mono hb.size)
  clear h2
  go_wp2_with fail
  refine (H.out _ _ _ _).mono ?_
  rintro e w1 ⟨rfl, h2⟩
  replace hb := hb.trans (h2.mono hb.size)
  clear h2
  go_wp2
  go_ret
  exact ⟨rfl, hb⟩
theorem walk (s : Int) (ws : (Lit.int .i64 s).wf = true) (a : Nat) (ha : a < 4294967296) (b : Nat) (hb : b < 4294967296) (fl : Nat) (hf : fl < 4294967296) (w : World) :
    Calls Try.prog 3 #[.int .i64 s, .int .u32 a, .int .u32 b, .int .u32 fl] w fun e w' => e = .returned (.bool true) ∧ Below w.heap.size w w' := by
  by_cases hs : s = 1 ∨ s = 2 ∨ s = 4
  · obtain ⟨B, hsb, eB⟩ : ∃ B : Int, (s = 1 ∧ B = 8 ∨ s = 2 ∧ B = 16 ∨ s = 4 ∧ B = 32) ∧ B.toNat = 8 * s.toNat := by
      rcases hs with rfl | rfl | rfl
      · exact ⟨8, by decide, by decide⟩
      · exact ⟨16, by decide, by decide⟩
      · exact ⟨32, by decide, by decide⟩
    have h1 : 1 % 2 ^ (8 * s.toNat) = 1 := by rcases hs with rfl | rfl | rfl <;> decide
    have hX : a % 2 ^ (8 * s.toNat) < 2 ^ (8 * s.toNat) := Nat.mod_lt _ (Nat.two_pow_pos _)
    have C1 := fun w => mul_ok false s hs a b fl ha hb hf w
    have C2 := fun w => mul_ok false s hs b a fl hb ha hf w
    have C3 := fun w => mul_ok true s hs a b fl ha hb hf w
    have C4 := fun w => mul_ok true s hs b a fl hb ha hf w
    have C5 := fun w => mul_ok false s hs a 1 fl ha (by decide) hf w
    rw [mulN_comm false _ (b % _) (a % _), mulF_comm false _ (b % _) (a % _)] at C2
    rw [mulN_comm true _ (b % _) (a % _), mulF_comm true _ (b % _) (a % _)] at C4
    rw [h1, mulN_one] at C5
    exact walk_of s B a b fl _ _ _ _ _ _ _ _ _ hsb (low_same _ _ _) (by rw [eB, Nat.mod_mod]) (Nat.div_eq_of_lt hX) hf ha C1 C2 C3 C4 C5 w
  · exact walk_no s a b fl (fun sg p q w => mul_size sg s (by omega) (by omega) (by omega) p q fl w) w

theorem own : ownKnob Try.prog.godebug = none := by kernel_rfl

set_option maxRecDepth 100000 in
theorem lifted (os : Os) (started : os.Started) (H : Type) (enc : TypeId × Value → H) :
    ReturnsInHanded {} Try.checked os 3 .any (Rows.muldivTurnsSpec.pre6 enc Try.prog Try.f3 Rows.muldivTurnsRow.domain false) (Rows.muldivTurnsSpec.post enc Try.prog Try.f3 false true false false) := by
  refine returnsInHanded_of_change (C := Try.checked) own started (by kernel_rfl) Try.func3
    (ChangeSpec.witness6 (enc := enc) (C := Try.checked) false ⟨#[], #[.int .i64 0, .int .u32 0, .int .u32 0, .int .u32 0], []⟩ 8 (by kernel_rfl) (by kernel_rfl) (by kernel_rfl) (by kernel_rfl)) ?_
  intro W base args ds gs before hval0 hW hcnd _
  have hval : ∀ (j : Nat) t v, Try.f3.params[j]? = some t → args[j]? = some v → Value.okWide Try.prog W .any base t v := hval0
  have hW' := hW
  obtain ⟨p, q, hA0, hV, rfl, hfz, hnd⟩ := hW
  have hA : DataW.TrodAll enc Try.prog W 0 (fun _ => true) true Try.f3.params.toList args.toList ds p := hA0
  rw [Try.params3] at hA hval
  obtain ⟨v0, vs0, d0, ds0, p0, q0, hargs, rfl, rfl, h0, r0⟩ := trodAll_cons hA
  obtain ⟨v1, vs1, d1, ds1, p1, q1, rfl, rfl, rfl, h1, r1⟩ := trodAll_cons r0
  obtain ⟨v2, vs2, d2, ds2, p2, q2, rfl, rfl, rfl, h2, r2⟩ := trodAll_cons r1
  obtain ⟨v3, vs3, d3, ds3, p3, q3, rfl, rfl, rfl, h3, r3⟩ := trodAll_cons r2
  obtain ⟨rfl, rfl, rfl⟩ := trodAll_nil r3
  obtain rfl : args = #[v0, v1, v2, v3] := by cases args; simp_all
  obtain ⟨rfl, rfl⟩ := trodVars_none hV
  obtain ⟨a0, rfl, rfl, rfl, w0⟩ := open_int Try.underlying3 (hval 0 3 v0 rfl rfl) h0
  obtain ⟨a1, rfl, rfl, rfl, w1⟩ := open_int Try.underlying22 (hval 1 22 v1 rfl rfl) h1
  obtain ⟨a2, rfl, rfl, rfl, w2⟩ := open_int Try.underlying22 (hval 2 22 v2 rfl rfl) h2
  obtain ⟨a3, rfl, rfl, rfl, w3⟩ := open_int Try.underlying22 (hval 3 22 v3 rfl rfl) h3
  clear hA0 hval0
  simp only [List.append_nil] at hW'
  obtain ⟨n1, rfl, b1⟩ := u32_nat w1
  obtain ⟨n2, rfl, b2⟩ := u32_nat w2
  obtain ⟨n3, rfl, b3⟩ := u32_nat w3
  refine (walk a0 w0 n1 b1 n2 b2 n3 b3 W).mono fun e W' ⟨he, bel⟩ => ?_
  subst he
  exact ⟨_, rfl, _, _, _, [], [], [], hW', trodAll_mk1 (shut_bool Try.underlying4 _), (trodAll_cons_mk (shut_int Try.underlying3 w0) (trodAll_cons_mk (shut_int Try.underlying22 w1) (trodAll_cons_mk (shut_int Try.underlying22 w2) (trodAll_cons_mk (shut_int Try.underlying22 w3) trodAll_mk0)))), rfl, bel.frame _, fun h => by cases h⟩

theorem over : Rows.muldivTurnsRow.holds Try.pinned (OpenSpec.ofChange Rows.muldivTurnsSpec) :=
  OpenClaim.holds_of_wide 3 Try.f3 rfl rfl rfl rfl rfl rfl rfl ⟨rfl, rfl, rfl, rfl, rfl⟩ rfl rfl rfl rfl rfl (by kernel_rfl) Try.func3 (by kernel_rfl)
    (of_decide_eq_true (by kernel_rfl)) (by unfold Func.isWrapper; first | (rw [if_pos (by decide +kernel)]; kernel_rfl) | (rw [if_neg (by decide +kernel)]; exact ⟨rfl, rfl⟩))
    (fun os started H enc _ => lifted os started H enc)

theorem proved : Rows.MuldivTurnsSaid :=
  over
end Go.Proofs.Ytfjjipkieecpcaa.lawMuldivTurns
