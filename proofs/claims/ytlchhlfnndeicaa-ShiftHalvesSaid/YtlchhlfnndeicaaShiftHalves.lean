/- The law ShiftHalves: for every input the call returns true; its arguments are as they were. -/
import Derived.Test.YtlchhlfnndeicaaShAll
import Derived.Test.YtlchhlfnndeicaaShMoved
import Derived.Test.YtlchhlfnndeicaaShLaws2
import Derived.Test.YtlchhlfnndeicaaRows
import Derived.ProofKit
import Derived.OpenShut
import Derived.ChangeOld
namespace Go.Proofs.Ytlchhlfnndeicaa.lawShiftHalves
open Go.ChangeShapes Go.WideShapes Go.ChangeAt Go.RowKit Pl
set_option linter.unusedVariables false

def HasC (f : Nat) (v : Bool) : Prop := ∀ w, Calls Try.prog 15 #[.int .u32 f, .int .u32 1] w fun e w' => e = .returned (.bool v) ∧ w = w'
theorem hasC (f : Nat) (v : Bool) (h : (f % 2 == 1) = v) : HasC f v := by
  subst h
  exact fun w => has_ok f w
set_option maxRecDepth 20000 in
set_option maxHeartbeats 2000000 in
theorem walk_of (s b : Int) (a y c fl n l p q r t u : Nat) (f i f3 g j f6 : Nat) (v v' : Bool) (hsb : s = 2 ∧ b = 16 ∨ s = 4 ∧ b = 32) (hn0 : 0 < n) (hn : n < b.toNat) (e1 : (c : Int) % b = (n : Int))
    (C1 : ∀ w, Calls Try.prog 13 #[.bool true, .int .i64 s, .int .u32 a, .int .u32 y, .int .u32 n, .int .u32 fl] w fun en w' => en = .returned (.tuple #[.int .u32 l, .int .u32 f, .int .i64 0]) ∧ Below w.heap.size w w')
    (C2 : ∀ w, Calls Try.prog 11 #[.int .i64 4, .int .i64 s, .int .u32 a, .int .u32 n, .int .u32 fl] w fun en w' => en = .returned (.tuple #[.int .u32 p, .int .u32 i, .int .i64 0]) ∧ Below w.heap.size w w')
    (C3 : ∀ (z : Int), z = ((b.toNat - n : Nat) : Int) → ∀ w, Calls Try.prog 11 #[.int .i64 5, .int .i64 s, .int .u32 y, .int .u32 z, .int .u32 fl] w fun en w' => en = .returned (.tuple #[.int .u32 q, .int .u32 f3, .int .i64 0]) ∧ Below w.heap.size w w')
    (C4 : ∀ w, Calls Try.prog 13 #[.bool false, .int .i64 s, .int .u32 a, .int .u32 y, .int .u32 n, .int .u32 fl] w fun en w' => en = .returned (.tuple #[.int .u32 r, .int .u32 g, .int .i64 0]) ∧ Below w.heap.size w w')
    (C5 : ∀ w, Calls Try.prog 11 #[.int .i64 5, .int .i64 s, .int .u32 a, .int .u32 n, .int .u32 fl] w fun en w' => en = .returned (.tuple #[.int .u32 t, .int .u32 j, .int .i64 0]) ∧ Below w.heap.size w w')
    (C6 : ∀ (z : Int), z = ((b.toNat - n : Nat) : Int) → ∀ w, Calls Try.prog 11 #[.int .i64 4, .int .i64 s, .int .u32 y, .int .u32 z, .int .u32 fl] w fun en w' => en = .returned (.tuple #[.int .u32 u, .int .u32 f6, .int .i64 0]) ∧ Below w.heap.size w w')
    (C7 : HasC f v) (C8 : HasC i v) (C9 : HasC g v') (Ca : HasC j v')
    (o1 : bits .or .u32 (p : Int) (q : Int) = (l : Int)) (o2 : bits .or .u32 (t : Int) (u : Int) = (r : Int)) (w : World) :
    Calls Try.prog 8 #[.int .i64 s, .int .u32 a, .int .u32 y, .int .u32 c, .int .u32 fl] w fun e w' => e = .returned (.bool true) ∧ Below w.heap.size w w' := by
  have H1 := hide C1
  have H2 := hide C2
  have H3 := hide C3
  have H4 := hide C4
  have H5 := hide C5
  have H6 := hide C6
  have H7 := hide C7
  have H8 := hide C8
  have H9 := hide C9
  have Ha := hide Ca
  clear C1 C2 C3 C4 C5 C6 C7 C8 C9 Ca
  rcases hsb with ⟨rfl, rfl⟩ | ⟨rfl, rfl⟩
  all_goals
    simp only [Int.reduceToNat] at hn H3 H6
    go_enter Try.func8, Try.ntmps8
    go_wp2_with fail
    refine (awake_ok _).mono ?_
    rintro e w1 ⟨rfl, hb⟩
    go_wp2_with fail
    refine (H1.out _).mono ?_
    rintro e w1 ⟨rfl, h2⟩
    replace hb := hb.trans (h2.mono hb.size)
    clear h2
    go_wp2_with fail
    refine (H2.out _).mono ?_
    rintro e w1 ⟨rfl, h2⟩
    replace hb := hb.trans (h2.mono hb.size)
    clear h2
    go_wp2_with fail
    refine (H3.out _ (by omega) _).mono ?_
    rintro e w1 ⟨rfl, h2⟩
    replace hb := hb.trans (h2.mono hb.size)
    clear h2
    go_wp2_with fail
    refine (H4.out _).mono ?_
    rintro e w1 ⟨rfl, h2⟩
    replace hb := hb.trans (h2.mono hb.size)
    clear h2
    go_wp2_with fail
    refine (H5.out _).mono ?_
    rintro e w1 ⟨rfl, h2⟩
    replace hb := hb.trans (h2.mono hb.size)
    clear h2
    go_wp2_with fail
    refine (H6.out _ (by omega) _).mono ?_
    rintro e w1 ⟨rfl, h2⟩
    replace hb := hb.trans (h2.mono hb.size)
    clear h2
    go_wp2_with fail
    refine (H7.out _).mono ?_
    rintro e w' ⟨rfl, rfl⟩
    go_wp2_with fail
    refine (H8.out _).mono ?_
    rintro e w' ⟨rfl, rfl⟩
    go_wp2_with fail
    refine (H9.out _).mono ?_
    rintro e w' ⟨rfl, rfl⟩
    go_wp2_with fail
    refine (Ha.out _).mono ?_
    rintro e w' ⟨rfl, rfl⟩
    go_wp2
    go_ret
    exact ⟨by simp, hb⟩
set_option maxRecDepth 20000 in
set_option maxHeartbeats 1000000 in
theorem walk_no (s a y c fl : Int) (h2 : ¬ s = 2) (h4 : ¬ s = 4)
    (C : ∀ w, Calls Try.prog 13 #[.bool true, .int .i64 s, .int .u32 a, .int .u32 y, .int .u32 c, .int .u32 fl] w fun en w' => en = .returned (.tuple #[.int .u32 0, .int .u32 0, .int .i64 2]) ∧ Below w.heap.size w w') (w : World) :
    Calls Try.prog 8 #[.int .i64 s, .int .u32 a, .int .u32 y, .int .u32 c, .int .u32 fl] w fun e w' => e = .returned (.bool true) ∧ Below w.heap.size w w' := by
  have H := hide C
  clear C
  have k2 : (s != 2) = true := by simpa using h2
  have k4 : (s != 4) = true := by simpa using h4
  clear h2 h4
  go_enter Try.func8, Try.ntmps8
  go_wp2_with fail
  refine (awake_ok _).mono ?_
  rintro e w1 ⟨rfl, hb⟩
  go_wp2_with fail
  refine (H.out _).mono ?_
  rintro e w1 ⟨rfl, h2⟩
  replace hb := hb.trans (h2.mono hb.size)
  clear h2
  go_wp2
  go_ret
  exact ⟨rfl, hb⟩
set_option maxRecDepth 20000 in
set_option maxHeartbeats 1000000 in
theorem walk_none (s : Int) (a y c fl : Nat) (hsb : s = 2 ∧ c % 16 = 0 ∨ s = 4 ∧ c % 32 = 0) (w : World) :
    Calls Try.prog 8 #[.int .i64 s, .int .u32 a, .int .u32 y, .int .u32 c, .int .u32 fl] w fun e w' => e = .returned (.bool true) ∧ Below w.heap.size w w' := by
  rcases hsb with ⟨rfl, h⟩ | ⟨rfl, h⟩
  · have h0 : (c : Int) % 16 = 0 := by omega
    clear h
    go_enter Try.func8, Try.ntmps8
    go_wp2_with fail
    refine (awake_ok _).mono ?_
    rintro e w1 ⟨rfl, hb⟩
    go_wp2
    go_ret
    exact ⟨rfl, hb⟩
  · have h0 : (c : Int) % 32 = 0 := by omega
    clear h
    go_enter Try.func8, Try.ntmps8
    go_wp2_with fail
    refine (awake_ok _).mono ?_
    rintro e w1 ⟨rfl, hb⟩
    go_wp2
    go_ret
    exact ⟨rfl, hb⟩
theorem low_bit (f : Nat) (v : Bool) (h : f % 2 = v.toNat) : (f % 2 == 1) = v := by
  rw [h]
  cases v <;> rfl
theorem walk (s : Int) (ws : (Lit.int .i64 s).wf = true) (a : Nat) (ha : a < 4294967296) (y : Nat) (hy : y < 4294967296) (c : Nat) (hc : c < 4294967296) (fl : Nat) (hf : fl < 4294967296) (w : World) :
    Calls Try.prog 8 #[.int .i64 s, .int .u32 a, .int .u32 y, .int .u32 c, .int .u32 fl] w fun e w' => e = .returned (.bool true) ∧ Below w.heap.size w w' := by
  by_cases hs : s = 2 ∨ s = 4
  · obtain ⟨B, b, hsb, eB, hb, eb⟩ : ∃ (B : Int) (b : Nat), (s = 2 ∧ B = 16 ∨ s = 4 ∧ B = 32) ∧ B.toNat = b ∧ (b = 16 ∨ b = 32) ∧ 8 * s.toNat = b := by
      rcases hs with rfl | rfl
      · exact ⟨16, 16, by decide, rfl, by decide, by decide⟩
      · exact ⟨32, 32, by decide, rfl, by decide, by decide⟩
    by_cases hk : c % b = 0
    · exact walk_none s a y c fl (by rcases hsb with ⟨rfl, rfl⟩ | ⟨rfl, rfl⟩ <;> (simp only [Int.reduceToNat] at eB; subst eB; omega)) w
    · have hs3 : s = 1 ∨ s = 2 ∨ s = 4 := by omega
      have hb0 : 0 < b := by omega
      obtain ⟨n, hn, hn0, e1⟩ : ∃ n : Nat, n < b ∧ 0 < n ∧ (c : Int) % B = (n : Int) := by
        refine ⟨c % b, Nat.mod_lt _ hb0, by omega, ?_⟩
        rw [show B = (b : Int) by omega]
        simp
      have hX : a % 2 ^ b < 2 ^ b := Nat.mod_lt _ (Nat.two_pow_pos _)
      have hY : y % 2 ^ b < 2 ^ b := Nat.mod_lt _ (Nat.two_pow_pos _)
      have h32 : 2 ^ b ≤ 2 ^ 32 := Nat.pow_le_pow_right (by decide) (by omega)
      have en : n % 32 = n := by omega
      have eb2 : (b - n) % 32 = b - n := by omega
      have C1 := fun w => db_ok true s hs a y n fl ha hy (by omega) hf w
      have C2 := fun w => sh_ok 4 s (by decide) hs3 a n fl ha (by omega) hf w
      have C3 := fun w => sh_ok 5 s (by decide) hs3 y (b - n) fl hy (by omega) hf w
      have C4 := fun w => db_ok false s hs a y n fl ha hy (by omega) hf w
      have C5 := fun w => sh_ok 5 s (by decide) hs3 a n fl ha (by omega) hf w
      have C6 := fun w => sh_ok 4 s (by decide) hs3 y (b - n) fl hy (by omega) hf w
      rw [eb] at C1 C2 C3 C4 C5 C6
      rw [en] at C1 C2 C4 C5
      rw [eb2] at C3 C6
      unfold dDoR dDoF at C1 C4
      unfold shDoR shDoF at C2 C3 C5 C6
      rw [if_neg (by omega), if_neg (by omega)] at C1 C2 C3 C4 C5 C6
      have l1 : ∀ z, z % 2 ^ b < 4294967296 := fun z => Nat.lt_of_lt_of_le (Nat.mod_lt _ (Nat.two_pow_pos _)) h32
      have l2 : ∀ z k, z % 2 ^ b / 2 ^ k < 4294967296 := fun z k => Nat.lt_of_le_of_lt (Nat.div_le_self _ _) (l1 z)
      subst eB
      refine walk_of s B a y c fl n _ _ _ _ _ _ _ _ _ _ _ _ (dblC true B.toNat (a % 2 ^ B.toNat) (y % 2 ^ B.toNat) n) (dblC false B.toNat (a % 2 ^ B.toNat) (y % 2 ^ B.toNat) n) hsb hn0 hn e1 C1 C2 (fun z hz w => hz ▸ C3 w) C4 C5 (fun z hz w => hz ▸ C6 w) ?_ ?_ ?_ ?_ ?_ ?_ w
      · exact hasC _ _ (low_bit _ _ (dblF_low _ _ _ _ _ _))
      · exact hasC _ _ (low_bit _ _ (by rw [half_leftC _ _ _ _ hb hn0 hn]; exact shF_low 4 _ _ n fl hf))
      · exact hasC _ _ (low_bit _ _ (dblF_low _ _ _ _ _ _))
      · exact hasC _ _ (low_bit _ _ (by rw [half_rightC _ _ _ _ hb hn0 hn]; exact shF_low 5 _ _ n fl hf))
      · rw [half_left _ _ _ _ hb hX hY hn0 hn]
        exact u32_or_nat _ _ (l1 _) (l2 _ _)
      · rw [half_right _ _ _ _ hb hX hY hn0 hn]
        exact u32_or_nat _ _ (l2 _ _) (l1 _)
  · exact walk_no s a y c fl (by omega) (by omega) (fun w => db_size true s (by omega) (by omega) a y c fl w) w

theorem own : ownKnob Try.prog.godebug = none := by kernel_rfl

set_option maxRecDepth 100000 in
theorem lifted (os : Os) (started : os.Started) (H : Type) (enc : TypeId × Value → H) :
    ReturnsInHanded {} Try.checked os 8 .any (Rows.shiftHalvesSpec.pre6 enc Try.prog Try.f8 Rows.shiftHalvesRow.domain false) (Rows.shiftHalvesSpec.post enc Try.prog Try.f8 false true false false) := by
  refine returnsInHanded_of_change (C := Try.checked) own started (by kernel_rfl) Try.func8
    (ChangeSpec.witness6 (enc := enc) (C := Try.checked) false ⟨#[], #[.int .i64 0, .int .u32 0, .int .u32 0, .int .u32 0, .int .u32 0], []⟩ 8 (by kernel_rfl) (by kernel_rfl) (by kernel_rfl) (by kernel_rfl)) ?_
  intro W base args ds gs before hval0 hW hcnd _
  have hval : ∀ (j : Nat) t v, Try.f8.params[j]? = some t → args[j]? = some v → Value.okWide Try.prog W .any base t v := hval0
  have hW' := hW
  obtain ⟨p, q, hA0, hV, rfl, hfz, hnd⟩ := hW
  have hA : DataW.TrodAll enc Try.prog W 0 (fun _ => true) true Try.f8.params.toList args.toList ds p := hA0
  rw [Try.params8] at hA hval
  obtain ⟨v0, vs0, d0, ds0, p0, q0, hargs, rfl, rfl, h0, r0⟩ := trodAll_cons hA
  obtain ⟨v1, vs1, d1, ds1, p1, q1, rfl, rfl, rfl, h1, r1⟩ := trodAll_cons r0
  obtain ⟨v2, vs2, d2, ds2, p2, q2, rfl, rfl, rfl, h2, r2⟩ := trodAll_cons r1
  obtain ⟨v3, vs3, d3, ds3, p3, q3, rfl, rfl, rfl, h3, r3⟩ := trodAll_cons r2
  obtain ⟨v4, vs4, d4, ds4, p4, q4, rfl, rfl, rfl, h4, r4⟩ := trodAll_cons r3
  obtain ⟨rfl, rfl, rfl⟩ := trodAll_nil r4
  obtain rfl : args = #[v0, v1, v2, v3, v4] := by cases args; simp_all
  obtain ⟨rfl, rfl⟩ := trodVars_none hV
  obtain ⟨a0, rfl, rfl, rfl, w0⟩ := open_int Try.underlying3 (hval 0 3 v0 rfl rfl) h0
  obtain ⟨a1, rfl, rfl, rfl, w1⟩ := open_int Try.underlying23 (hval 1 23 v1 rfl rfl) h1
  obtain ⟨a2, rfl, rfl, rfl, w2⟩ := open_int Try.underlying23 (hval 2 23 v2 rfl rfl) h2
  obtain ⟨a3, rfl, rfl, rfl, w3⟩ := open_int Try.underlying23 (hval 3 23 v3 rfl rfl) h3
  obtain ⟨a4, rfl, rfl, rfl, w4⟩ := open_int Try.underlying23 (hval 4 23 v4 rfl rfl) h4
  clear hA0 hval0
  simp only [List.append_nil] at hW'
  obtain ⟨n1, rfl, b1⟩ := u32_nat w1
  obtain ⟨n2, rfl, b2⟩ := u32_nat w2
  obtain ⟨n3, rfl, b3⟩ := u32_nat w3
  obtain ⟨n4, rfl, b4⟩ := u32_nat w4
  refine (walk a0 w0 n1 b1 n2 b2 n3 b3 n4 b4 W).mono fun e W' ⟨he, bel⟩ => ?_
  subst he
  exact ⟨_, rfl, _, _, _, [], [], [], hW', trodAll_mk1 (shut_bool Try.underlying4 _), (trodAll_cons_mk (shut_int Try.underlying3 w0) (trodAll_cons_mk (shut_int Try.underlying23 w1) (trodAll_cons_mk (shut_int Try.underlying23 w2) (trodAll_cons_mk (shut_int Try.underlying23 w3) (trodAll_cons_mk (shut_int Try.underlying23 w4) trodAll_mk0))))), rfl, bel.frame _, fun h => by cases h⟩

theorem over : Rows.shiftHalvesRow.holds Try.pinned (OpenSpec.ofChange Rows.shiftHalvesSpec) :=
  OpenClaim.holds_of_wide 8 Try.f8 rfl rfl rfl rfl rfl rfl rfl ⟨rfl, rfl, rfl, rfl, rfl⟩ rfl rfl rfl rfl rfl (by kernel_rfl) Try.func8 (by kernel_rfl)
    (of_decide_eq_true (by kernel_rfl)) (by unfold Func.isWrapper; first | (rw [if_pos (by decide +kernel)]; kernel_rfl) | (rw [if_neg (by decide +kernel)]; exact ⟨rfl, rfl⟩))
    (fun os started H enc _ => lifted os started H enc)

theorem proved : Rows.ShiftHalvesSaid :=
  over
end Go.Proofs.Ytlchhlfnndeicaa.lawShiftHalves
