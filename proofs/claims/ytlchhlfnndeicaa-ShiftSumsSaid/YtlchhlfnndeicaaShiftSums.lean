/- The law ShiftSums: for every input the call returns true; its arguments are as they were. -/
import Derived.Test.YtlchhlfnndeicaaShAll
import Derived.Test.YtlchhlfnndeicaaShMoved
import Derived.Test.YtlchhlfnndeicaaShLaws
import Derived.Test.YtlchhlfnndeicaaRows
import Derived.ProofKit
import Derived.OpenShut
import Derived.ChangeOld
namespace Go.Proofs.Ytlchhlfnndeicaa.lawShiftSums
open Go.ChangeShapes Go.WideShapes Go.ChangeAt Go.RowKit Pl
set_option linter.unusedVariables false

def HasC (f : Nat) (v : Bool) : Prop := ∀ w, Calls Try.prog 15 #[.int .u32 f, .int .u32 1] w fun e w' => e = .returned (.bool v) ∧ w = w'
theorem hasC (f : Nat) (v : Bool) (h : (f % 2 == 1) = v) : HasC f v := by
  subst h
  exact fun w => has_ok f w
set_option maxRecDepth 20000 in
set_option maxHeartbeats 2000000 in
theorem walk_of (op s : Int) (a one two fl m n x y f g h : Nat) (v : Bool) (hm : m < 16) (hn : n < 16) (e1 : (one : Int) % 16 = (m : Int))
    (e2 : ((two : Int) % 16 = 0 ∧ n = 1) ∨ (two : Int) % 16 = (n : Int) ∧ 0 < n)
    (C1 : ∀ w, Calls Try.prog 11 #[.int .i64 op, .int .i64 s, .int .u32 a, .int .u32 m, .int .u32 fl] w fun en w' => en = .returned (.tuple #[.int .u32 x, .int .u32 f, .int .i64 0]) ∧ Below w.heap.size w w')
    (C2 : ∀ (z : Int), z = (n : Int) → ∀ w, Calls Try.prog 11 #[.int .i64 op, .int .i64 s, .int .u32 x, .int .u32 z, .int .u32 f] w fun en w' => en = .returned (.tuple #[.int .u32 y, .int .u32 g, .int .i64 0]) ∧ Below w.heap.size w w')
    (C3 : ∀ (z : Int), z = ((m + n : Nat) : Int) → ∀ w, Calls Try.prog 11 #[.int .i64 op, .int .i64 s, .int .u32 a, .int .u32 z, .int .u32 fl] w fun en w' => en = .returned (.tuple #[.int .u32 y, .int .u32 h, .int .i64 0]) ∧ Below w.heap.size w w')
    (C4 : HasC g v) (C5 : HasC h v) (w : World) :
    Calls Try.prog 7 #[.int .i64 op, .int .i64 s, .int .u32 a, .int .u32 one, .int .u32 two, .int .u32 fl] w fun e w' => e = .returned (.bool true) ∧ Below w.heap.size w w' := by
  have H1 := hide C1
  have H2 := hide C2
  have H3 := hide C3
  have H4 := hide C4
  have H5 := hide C5
  clear C1 C2 C3 C4 C5
  rcases e2 with ⟨e2, rfl⟩ | ⟨e2, hn0⟩
  all_goals
    go_enter Try.func7, Try.ntmps7
    go_wp2_with fail
    refine (awake_ok _).mono ?_
    rintro e w1 ⟨rfl, hb⟩
    go_wp2_with fail
    refine (H1.out _).mono ?_
    rintro e w1 ⟨rfl, h2⟩
    replace hb := hb.trans (h2.mono hb.size)
    clear h2
    go_wp2_with fail
    refine (H2.out _ (by omega) _).mono ?_
    rintro e w1 ⟨rfl, h2⟩
    replace hb := hb.trans (h2.mono hb.size)
    clear h2
    go_wp2_with fail
    refine (H3.out _ (by omega) _).mono ?_
    rintro e w1 ⟨rfl, h2⟩
    replace hb := hb.trans (h2.mono hb.size)
    clear h2
    go_wp2_with fail
    refine (H4.out _).mono ?_
    rintro e w' ⟨rfl, rfl⟩
    go_wp2_with fail
    refine (H5.out _).mono ?_
    rintro e w' ⟨rfl, rfl⟩
    go_wp2
    go_ret
    exact ⟨by simp, hb⟩
set_option maxRecDepth 20000 in
set_option maxHeartbeats 2000000 in
theorem walk_no (op s : Int) (a one two fl m : Nat) (er : Int) (her : er = 2 ∨ er = 3) (e1 : (one : Int) % 16 = (m : Int))
    (C1 : ∀ w, Calls Try.prog 11 #[.int .i64 op, .int .i64 s, .int .u32 a, .int .u32 m, .int .u32 fl] w fun en w' => en = .returned (.tuple #[.int .u32 0, .int .u32 0, .int .i64 er]) ∧ Below w.heap.size w w') (w : World) :
    Calls Try.prog 7 #[.int .i64 op, .int .i64 s, .int .u32 a, .int .u32 one, .int .u32 two, .int .u32 fl] w fun e w' => e = .returned (.bool true) ∧ Below w.heap.size w w' := by
  have H1 := hide C1
  clear C1
  have e2 : (two : Int) % 16 = 0 ∨ (two : Int) % 16 ≠ 0 := by omega
  rcases her with rfl | rfl
  all_goals
    rcases e2 with e2 | e2
    all_goals
      go_enter Try.func7, Try.ntmps7
      go_wp2_with fail
      refine (awake_ok _).mono ?_
      rintro e w1 ⟨rfl, hb⟩
      go_wp2_with fail
      refine (H1.out _).mono ?_
      rintro e w1 ⟨rfl, h2⟩
      replace hb := hb.trans (h2.mono hb.size)
      clear h2
      go_wp2
      go_ret
      exact ⟨rfl, hb⟩
theorem walk (op : Int) (wo : (Lit.int .i64 op).wf = true) (s : Int) (ws : (Lit.int .i64 s).wf = true) (a : Nat) (ha : a < 4294967296) (one : Nat) (h1 : one < 4294967296) (two : Nat) (h2 : two < 4294967296) (fl : Nat) (hf : fl < 4294967296) (w : World) :
    Calls Try.prog 7 #[.int .i64 op, .int .i64 s, .int .u32 a, .int .u32 one, .int .u32 two, .int .u32 fl] w fun e w' => e = .returned (.bool true) ∧ Below w.heap.size w w' := by
  obtain ⟨m, hm, e1⟩ : ∃ m : Nat, m < 16 ∧ (one : Int) % 16 = (m : Int) := ⟨one % 16, by omega, by omega⟩
  by_cases hs : s = 1 ∨ s = 2 ∨ s = 4
  · by_cases ho : op < 0 ∨ 7 < op
    · exact walk_no op s a one two fl m 3 (.inr rfl) e1 (fun w => sh_op op s hs ho a m fl w) w
    · obtain ⟨n, hn, hn0, e2⟩ : ∃ n : Nat, n < 16 ∧ 0 < n ∧ (((two : Int) % 16 = 0 ∧ n = 1) ∨ (two : Int) % 16 = (n : Int) ∧ 0 < n) := by
        by_cases h : two % 16 = 0
        · exact ⟨1, by decide, by decide, .inl ⟨by omega, rfl⟩⟩
        · exact ⟨two % 16, by omega, by omega, .inr ⟨by omega, by omega⟩⟩
      have h32 : 2 ^ (8 * s.toNat) ≤ 4294967296 := by rcases hs with rfl | rfl | rfl <;> decide
      have hX : a % 2 ^ (8 * s.toNat) < 2 ^ (8 * s.toNat) := Nat.mod_lt _ (Nat.two_pow_pos _)
      have hB : wB (8 * s.toNat) := by unfold wB; omega
      have L := shDoR_lt op.toNat _ _ m fl hX (by omega)
      have LF := shDoF_lt op.toNat (8 * s.toNat) (a % 2 ^ (8 * s.toNat)) m fl hf
      have k := sums_do op.toNat (8 * s.toNat) (a % 2 ^ (8 * s.toNat)) m n fl hB hX hf hn0
      have C1 := fun w => sh_ok op s (by omega) hs a m fl ha (by omega) hf w
      rw [show m % 32 = m by omega] at C1
      have C2 := fun w => sh_ok op s (by omega) hs (shDoR op.toNat (8 * s.toNat) (a % 2 ^ (8 * s.toNat)) m fl) n (shDoF op.toNat (8 * s.toNat) (a % 2 ^ (8 * s.toNat)) m fl) (Nat.lt_of_lt_of_le L h32) (by omega) LF w
      rw [show n % 32 = n by omega, Nat.mod_eq_of_lt L, k.1] at C2
      have C3 := fun w => sh_ok op s (by omega) hs a (m + n) fl ha (by omega) hf w
      rw [show (m + n) % 32 = m + n by omega] at C3
      exact walk_of op s a one two fl m n _ _ _ _ _ _ hm hn e1 e2 C1 (fun z hz w => hz ▸ C2 w) (fun z hz w => hz ▸ C3 w) (hasC _ _ rfl) (hasC _ _ (by rw [k.2])) w
  · exact walk_no op s a one two fl m 2 (.inl rfl) e1 (fun w => sh_size op s (by omega) (by omega) (by omega) a m fl w) w

theorem own : ownKnob Try.prog.godebug = none := by kernel_rfl

set_option maxRecDepth 100000 in
theorem lifted (os : Os) (started : os.Started) (H : Type) (enc : TypeId × Value → H) :
    ReturnsInHanded {} Try.checked os 7 .any (Rows.shiftSumsSpec.pre6 enc Try.prog Try.f7 Rows.shiftSumsRow.domain false) (Rows.shiftSumsSpec.post enc Try.prog Try.f7 false true false false) := by
  refine returnsInHanded_of_change (C := Try.checked) own started (by kernel_rfl) Try.func7
    (ChangeSpec.witness6 (enc := enc) (C := Try.checked) false ⟨#[], #[.int .i64 0, .int .i64 0, .int .u32 0, .int .u32 0, .int .u32 0, .int .u32 0], []⟩ 8 (by kernel_rfl) (by kernel_rfl) (by kernel_rfl) (by kernel_rfl)) ?_
  intro W base args ds gs before hval0 hW hcnd _
  have hval : ∀ (j : Nat) t v, Try.f7.params[j]? = some t → args[j]? = some v → Value.okWide Try.prog W .any base t v := hval0
  have hW' := hW
  obtain ⟨p, q, hA0, hV, rfl, hfz, hnd⟩ := hW
  have hA : DataW.TrodAll enc Try.prog W 0 (fun _ => true) true Try.f7.params.toList args.toList ds p := hA0
  rw [Try.params7] at hA hval
  obtain ⟨v0, vs0, d0, ds0, p0, q0, hargs, rfl, rfl, h0, r0⟩ := trodAll_cons hA
  obtain ⟨v1, vs1, d1, ds1, p1, q1, rfl, rfl, rfl, h1, r1⟩ := trodAll_cons r0
  obtain ⟨v2, vs2, d2, ds2, p2, q2, rfl, rfl, rfl, h2, r2⟩ := trodAll_cons r1
  obtain ⟨v3, vs3, d3, ds3, p3, q3, rfl, rfl, rfl, h3, r3⟩ := trodAll_cons r2
  obtain ⟨v4, vs4, d4, ds4, p4, q4, rfl, rfl, rfl, h4, r4⟩ := trodAll_cons r3
  obtain ⟨v5, vs5, d5, ds5, p5, q5, rfl, rfl, rfl, h5, r5⟩ := trodAll_cons r4
  obtain ⟨rfl, rfl, rfl⟩ := trodAll_nil r5
  obtain rfl : args = #[v0, v1, v2, v3, v4, v5] := by cases args; simp_all
  obtain ⟨rfl, rfl⟩ := trodVars_none hV
  obtain ⟨a0, rfl, rfl, rfl, w0⟩ := open_int Try.underlying3 (hval 0 3 v0 rfl rfl) h0
  obtain ⟨a1, rfl, rfl, rfl, w1⟩ := open_int Try.underlying3 (hval 1 3 v1 rfl rfl) h1
  obtain ⟨a2, rfl, rfl, rfl, w2⟩ := open_int Try.underlying23 (hval 2 23 v2 rfl rfl) h2
  obtain ⟨a3, rfl, rfl, rfl, w3⟩ := open_int Try.underlying23 (hval 3 23 v3 rfl rfl) h3
  obtain ⟨a4, rfl, rfl, rfl, w4⟩ := open_int Try.underlying23 (hval 4 23 v4 rfl rfl) h4
  obtain ⟨a5, rfl, rfl, rfl, w5⟩ := open_int Try.underlying23 (hval 5 23 v5 rfl rfl) h5
  clear hA0 hval0
  simp only [List.append_nil] at hW'
  obtain ⟨n2, rfl, b2⟩ := u32_nat w2
  obtain ⟨n3, rfl, b3⟩ := u32_nat w3
  obtain ⟨n4, rfl, b4⟩ := u32_nat w4
  obtain ⟨n5, rfl, b5⟩ := u32_nat w5
  refine (walk a0 w0 a1 w1 n2 b2 n3 b3 n4 b4 n5 b5 W).mono fun e W' ⟨he, bel⟩ => ?_
  subst he
  exact ⟨_, rfl, _, _, _, [], [], [], hW', trodAll_mk1 (shut_bool Try.underlying4 _), (trodAll_cons_mk (shut_int Try.underlying3 w0) (trodAll_cons_mk (shut_int Try.underlying3 w1) (trodAll_cons_mk (shut_int Try.underlying23 w2) (trodAll_cons_mk (shut_int Try.underlying23 w3) (trodAll_cons_mk (shut_int Try.underlying23 w4) (trodAll_cons_mk (shut_int Try.underlying23 w5) trodAll_mk0)))))), rfl, bel.frame _, fun h => by cases h⟩

theorem over : Rows.shiftSumsRow.holds Try.pinned (OpenSpec.ofChange Rows.shiftSumsSpec) :=
  OpenClaim.holds_of_wide 7 Try.f7 rfl rfl rfl rfl rfl rfl rfl ⟨rfl, rfl, rfl, rfl, rfl⟩ rfl rfl rfl rfl rfl (by kernel_rfl) Try.func7 (by kernel_rfl)
    (of_decide_eq_true (by kernel_rfl)) (by unfold Func.isWrapper; first | (rw [if_pos (by decide +kernel)]; kernel_rfl) | (rw [if_neg (by decide +kernel)]; exact ⟨rfl, rfl⟩))
    (fun os started H enc _ => lifted os started H enc)

theorem proved : Rows.ShiftSumsSaid :=
  over
end Go.Proofs.Ytlchhlfnndeicaa.lawShiftSums
