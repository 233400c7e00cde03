/- The law AluBack: for every input the call returns true; its arguments are as they were. -/
import Derived.Test.YthejbdjmhallhaaAluAll
import Derived.Test.YthejbdjmhallhaaRefFlags
import Derived.Test.YthejbdjmhallhaaAluLaws
import Derived.Test.YthejbdjmhallhaaRows
import Derived.ProofKit
import Derived.OpenShut
import Derived.ChangeOld
namespace Go.Proofs.Ythejbdjmhallhaa.lawAluBack
open Go.ChangeShapes Go.WideShapes Go.ChangeAt Go.RowKit Pl
set_option linter.unusedVariables false

theorem mod_self (x b : Nat) (h : x < 2 ^ b) : x % 2 ^ b = x := Nat.mod_eq_of_lt h
def DoC (op s : Int) (a b fl r f : Nat) : Prop := ∀ w, Calls Try.prog 11 #[.int .i64 op, .int .i64 s, .int .u32 a, .int .u32 b, .int .u32 fl] w fun en w' => en = .returned (.tuple #[.int .u32 r, .int .u32 f, .int .i64 0]) ∧ Below w.heap.size w w'
theorem doC (op : Int) (ho : 0 ≤ op ∧ op ≤ 12) (s : Int) (hs : s = 1 ∨ s = 2 ∨ s = 4) (a b fl : Nat) (ha : a < 4294967296) (hb : b < 4294967296) (hf : fl < 4294967296) (r : Nat)
    (hr : doR op.toNat (8 * s.toNat) (a % 2 ^ (8 * s.toNat)) (b % 2 ^ (8 * s.toNat)) fl = r) : ∃ f, DoC op s a b fl r f := by
  subst hr
  exact ⟨_, fun w => do_ok op ho s hs a b fl ha hb hf w⟩

set_option maxRecDepth 20000 in
set_option maxHeartbeats 4000000 in
theorem walk_of (s : Int) (a b fl x p0 q0 r0 s0 t0 u0 : Nat) (f0 f1 f2 f3 f4 f5 f6 f7 f8 f9 fa fb fc : Nat)
    (C0 : DoC 1 s a a fl x f0) (C1 : DoC 0 s a b fl p0 f1) (C2 : DoC 5 s p0 b fl x f2) (C3 : DoC 2 s a b fl q0 f3) (C4 : DoC 3 s q0 b fl x f4)
    (C5 : DoC 6 s a b fl r0 f5) (C6 : DoC 6 s r0 b fl x f6) (C7 : DoC 12 s a 0 fl s0 f7) (C8 : DoC 12 s s0 0 fl x f8) (C9 : DoC 11 s a 0 fl t0 f9) (Ca : DoC 11 s t0 0 fl x fa)
    (Cb : DoC 9 s a 0 fl u0 fb) (Cc : DoC 10 s u0 0 fl x fc) (w : World) :
    Calls Try.prog 6 #[.int .i64 s, .int .u32 a, .int .u32 b, .int .u32 fl] w fun e w' => e = .returned (.bool true) ∧ Below w.heap.size w w' := by
  have H0 := hide C0
  have H1 := hide C1
  have H2 := hide C2
  have H3 := hide C3
  have H4 := hide C4
  have H5 := hide C5
  have H6 := hide C6
  have H7 := hide C7
  have H8 := hide C8
  have H9 := hide C9
  have Ha := hide Ca
  have Hb := hide Cb
  have Hc := hide Cc
  clear C0 C1 C2 C3 C4 C5 C6 C7 C8 C9 Ca Cb Cc
  go_enter Try.func6, Try.ntmps6
  go_wp2_with fail
  refine (awake_ok _).mono ?_
  rintro e w1 ⟨rfl, hb⟩
  go_wp2_with fail
  refine (H0.out _).mono ?_
  rintro e w1 ⟨rfl, h2⟩
  replace hb := hb.trans (h2.mono hb.size)
  clear h2
  go_wp2_with fail
  refine (H1.out _).mono ?_
  rintro e w1 ⟨rfl, h2⟩
  replace hb := hb.trans (h2.mono hb.size)
  clear h2
  go_wp2_with fail
  refine (H2.out _).mono ?_
  rintro e w1 ⟨rfl, h2⟩
  replace hb := hb.trans (h2.mono hb.size)
  clear h2
  go_wp2_with fail
  refine (H3.out _).mono ?_
  rintro e w1 ⟨rfl, h2⟩
  replace hb := hb.trans (h2.mono hb.size)
  clear h2
  go_wp2_with fail
  refine (H4.out _).mono ?_
  rintro e w1 ⟨rfl, h2⟩
  replace hb := hb.trans (h2.mono hb.size)
  clear h2
  go_wp2_with fail
  refine (H5.out _).mono ?_
  rintro e w1 ⟨rfl, h2⟩
  replace hb := hb.trans (h2.mono hb.size)
  clear h2
  go_wp2_with fail
  refine (H6.out _).mono ?_
  rintro e w1 ⟨rfl, h2⟩
  replace hb := hb.trans (h2.mono hb.size)
  clear h2
  go_wp2_with fail
  refine (H7.out _).mono ?_
  rintro e w1 ⟨rfl, h2⟩
  replace hb := hb.trans (h2.mono hb.size)
  clear h2
  go_wp2_with fail
  refine (H8.out _).mono ?_
  rintro e w1 ⟨rfl, h2⟩
  replace hb := hb.trans (h2.mono hb.size)
  clear h2
  go_wp2_with fail
  refine (H9.out _).mono ?_
  rintro e w1 ⟨rfl, h2⟩
  replace hb := hb.trans (h2.mono hb.size)
  clear h2
  go_wp2_with fail
  refine (Ha.out _).mono ?_
  rintro e w1 ⟨rfl, h2⟩
  replace hb := hb.trans (h2.mono hb.size)
  clear h2
  go_wp2_with fail
  refine (Hb.out _).mono ?_
  rintro e w1 ⟨rfl, h2⟩
  replace hb := hb.trans (h2.mono hb.size)
  clear h2
  go_wp2_with fail
  refine (Hc.out _).mono ?_
  rintro e w1 ⟨rfl, h2⟩
  replace hb := hb.trans (h2.mono hb.size)
  clear h2
  go_wp2
  go_ret
  exact ⟨by simp, hb⟩
set_option maxRecDepth 20000 in
set_option maxHeartbeats 1000000 in
theorem walk_no (s a b fl : Int)
    (C : ∀ w, Calls Try.prog 11 #[.int .i64 1, .int .i64 s, .int .u32 a, .int .u32 a, .int .u32 fl] w fun en w' => en = .returned (.tuple #[.int .u32 0, .int .u32 0, .int .i64 2]) ∧ Below w.heap.size w w') (w : World) :
    Calls Try.prog 6 #[.int .i64 s, .int .u32 a, .int .u32 b, .int .u32 fl] w fun e w' => e = .returned (.bool true) ∧ Below w.heap.size w w' := by
  have H := hide C
  clear C
  go_enter Try.func6, Try.ntmps6
  go_wp2_with fail
  refine (awake_ok _).mono ?_
  rintro e w1 ⟨rfl, hb⟩
  go_wp2_with fail
  refine (H.out _).mono ?_
  rintro e w1 ⟨rfl, h2⟩
  replace hb := hb.trans (h2.mono hb.size)
  clear h2
  go_wp2
  go_ret
  exact ⟨rfl, hb⟩
theorem walk (s : Int) (ws : (Lit.int .i64 s).wf = true) (a : Nat) (ha : a < 4294967296) (b : Nat) (hb : b < 4294967296) (fl : Nat) (hf : fl < 4294967296) (w : World) :
    Calls Try.prog 6 #[.int .i64 s, .int .u32 a, .int .u32 b, .int .u32 fl] w fun e w' => e = .returned (.bool true) ∧ Below w.heap.size w w' := by
  by_cases hs : s = 1 ∨ s = 2 ∨ s = 4
  · have hB : wb (8 * s.toNat) := by unfold wb; omega
    have h32 : 2 ^ (8 * s.toNat) ≤ 4294967296 := by rcases hs with rfl | rfl | rfl <;> decide
    have h1 : 1 < 2 ^ (8 * s.toNat) := by rcases hs with rfl | rfl | rfl <;> decide
    have hX : a % 2 ^ (8 * s.toNat) < 2 ^ (8 * s.toNat) := Nat.mod_lt _ (Nat.two_pow_pos _)
    have hY : b % 2 ^ (8 * s.toNat) < 2 ^ (8 * s.toNat) := Nat.mod_lt _ (Nat.two_pow_pos _)
    have h0 : 0 % 2 ^ (8 * s.toNat) < 2 ^ (8 * s.toNat) := Nat.mod_lt _ (Nat.two_pow_pos _)
    have hc : fl % 2 ≤ 1 := by omega
    have L : ∀ op, doR op (8 * s.toNat) (a % 2 ^ (8 * s.toNat)) (b % 2 ^ (8 * s.toNat)) fl < 2 ^ (8 * s.toNat) := fun op => doR_lt op _ _ _ fl hX hY
    have L0 : ∀ op, doR op (8 * s.toNat) (a % 2 ^ (8 * s.toNat)) (0 % 2 ^ (8 * s.toNat)) fl < 2 ^ (8 * s.toNat) := fun op => doR_lt op _ _ _ fl hX h0
    obtain ⟨f0, C0⟩ := doC 1 (by decide) s hs a a fl ha ha hf _ (show _ = a % 2 ^ (8 * s.toNat) from Nat.or_self _)
    obtain ⟨f1, C1⟩ := doC 0 (by decide) s hs a b fl ha hb hf _ rfl
    obtain ⟨f3, C3⟩ := doC 2 (by decide) s hs a b fl ha hb hf _ rfl
    obtain ⟨f5, C5⟩ := doC 6 (by decide) s hs a b fl ha hb hf _ rfl
    obtain ⟨f7, C7⟩ := doC 12 (by decide) s hs a 0 fl ha (by decide) hf _ rfl
    obtain ⟨f9, C9⟩ := doC 11 (by decide) s hs a 0 fl ha (by decide) hf _ rfl
    obtain ⟨fb, Cb⟩ := doC 9 (by decide) s hs a 0 fl ha (by decide) hf _ rfl
    obtain ⟨f2, C2⟩ := doC 5 (by decide) s hs _ b fl (Nat.lt_of_lt_of_le (L 0) h32) hb hf (a % 2 ^ (8 * s.toNat)) (by
      rw [mod_self _ _ (L 0)]; exact back_add _ _ _ 0 hB hX hY (by decide))
    obtain ⟨f4, C4⟩ := doC 3 (by decide) s hs _ b fl (Nat.lt_of_lt_of_le (L 2) h32) hb hf (a % 2 ^ (8 * s.toNat)) (by
      rw [mod_self _ _ (L 2)]; exact back_add _ _ _ (fl % 2) hB hX hY hc)
    obtain ⟨f6, C6⟩ := doC 6 (by decide) s hs _ b fl (Nat.lt_of_lt_of_le (L 6) h32) hb hf (a % 2 ^ (8 * s.toNat)) (by
      rw [mod_self _ _ (L 6)]; exact back_xor _ _)
    obtain ⟨f8, C8⟩ := doC 12 (by decide) s hs _ 0 fl (Nat.lt_of_lt_of_le (L0 12) h32) (by decide) hf (a % 2 ^ (8 * s.toNat)) (by
      rw [mod_self _ _ (L0 12)]; exact back_not _ _ hX)
    obtain ⟨fa, Ca⟩ := doC 11 (by decide) s hs _ 0 fl (Nat.lt_of_lt_of_le (L0 11) h32) (by decide) hf (a % 2 ^ (8 * s.toNat)) (by
      rw [mod_self _ _ (L0 11)]; exact back_neg _ _ hB hX)
    obtain ⟨fc, Cc⟩ := doC 10 (by decide) s hs _ 0 fl (Nat.lt_of_lt_of_le (L0 9) h32) (by decide) hf (a % 2 ^ (8 * s.toNat)) (by
      rw [mod_self _ _ (L0 9)]; exact back_add _ _ 1 0 hB hX h1 (by decide))
    exact walk_of s a b fl _ _ _ _ _ _ _ _ _ _ _ _ _ _ _ _ _ _ _ _ C0 C1 C2 C3 C4 C5 C6 C7 C8 C9 Ca Cb Cc w
  · exact walk_no s a b fl (fun w => do_size 1 s (by omega) (by omega) (by omega) a a fl w) w

theorem own : ownKnob Try.prog.godebug = none := by kernel_rfl

set_option maxRecDepth 100000 in
theorem lifted (os : Os) (started : os.Started) (H : Type) (enc : TypeId × Value → H) :
    ReturnsInHanded {} Try.checked os 6 .any (Rows.aluBackSpec.pre6 enc Try.prog Try.f6 Rows.aluBackRow.domain false) (Rows.aluBackSpec.post enc Try.prog Try.f6 false true false false) := by
  refine returnsInHanded_of_change (C := Try.checked) own started (by kernel_rfl) Try.func6
    (ChangeSpec.witness6 (enc := enc) (C := Try.checked) false ⟨#[], #[.int .i64 0, .int .u32 0, .int .u32 0, .int .u32 0], []⟩ 8 (by kernel_rfl) (by kernel_rfl) (by kernel_rfl) (by kernel_rfl)) ?_
  intro W base args ds gs before hval0 hW hcnd _
  have hval : ∀ (j : Nat) t v, Try.f6.params[j]? = some t → args[j]? = some v → Value.okWide Try.prog W .any base t v := hval0
  have hW' := hW
  obtain ⟨p, q, hA0, hV, rfl, hfz, hnd⟩ := hW
  have hA : DataW.TrodAll enc Try.prog W 0 (fun _ => true) true Try.f6.params.toList args.toList ds p := hA0
  rw [Try.params6] at hA hval
  obtain ⟨v0, vs0, d0, ds0, p0, q0, hargs, rfl, rfl, h0, r0⟩ := trodAll_cons hA
  obtain ⟨v1, vs1, d1, ds1, p1, q1, rfl, rfl, rfl, h1, r1⟩ := trodAll_cons r0
  obtain ⟨v2, vs2, d2, ds2, p2, q2, rfl, rfl, rfl, h2, r2⟩ := trodAll_cons r1
  obtain ⟨v3, vs3, d3, ds3, p3, q3, rfl, rfl, rfl, h3, r3⟩ := trodAll_cons r2
  obtain ⟨rfl, rfl, rfl⟩ := trodAll_nil r3
  obtain rfl : args = #[v0, v1, v2, v3] := by cases args; simp_all
  obtain ⟨rfl, rfl⟩ := trodVars_none hV
  obtain ⟨a0, rfl, rfl, rfl, w0⟩ := open_int Try.underlying3 (hval 0 3 v0 rfl rfl) h0
  obtain ⟨a1, rfl, rfl, rfl, w1⟩ := open_int Try.underlying23 (hval 1 23 v1 rfl rfl) h1
  obtain ⟨a2, rfl, rfl, rfl, w2⟩ := open_int Try.underlying23 (hval 2 23 v2 rfl rfl) h2
  obtain ⟨a3, rfl, rfl, rfl, w3⟩ := open_int Try.underlying23 (hval 3 23 v3 rfl rfl) h3
  clear hA0 hval0
  simp only [List.append_nil] at hW'
  obtain ⟨n1, rfl, b1⟩ := u32_nat w1
  obtain ⟨n2, rfl, b2⟩ := u32_nat w2
  obtain ⟨n3, rfl, b3⟩ := u32_nat w3
  refine (walk a0 w0 n1 b1 n2 b2 n3 b3 W).mono fun e W' ⟨he, bel⟩ => ?_
  subst he
  exact ⟨_, rfl, _, _, _, [], [], [], hW', trodAll_mk1 (shut_bool Try.underlying4 _), (trodAll_cons_mk (shut_int Try.underlying3 w0) (trodAll_cons_mk (shut_int Try.underlying23 w1) (trodAll_cons_mk (shut_int Try.underlying23 w2) (trodAll_cons_mk (shut_int Try.underlying23 w3) trodAll_mk0)))), rfl, bel.frame _, fun h => by cases h⟩

theorem over : Rows.aluBackRow.holds Try.pinned (OpenSpec.ofChange Rows.aluBackSpec) :=
  OpenClaim.holds_of_wide 6 Try.f6 rfl rfl rfl rfl rfl rfl rfl ⟨rfl, rfl, rfl, rfl, rfl⟩ rfl rfl rfl rfl rfl (by kernel_rfl) Try.func6 (by kernel_rfl)
    (of_decide_eq_true (by kernel_rfl)) (by unfold Func.isWrapper; first | (rw [if_pos (by decide +kernel)]; kernel_rfl) | (rw [if_neg (by decide +kernel)]; exact ⟨rfl, rfl⟩))
    (fun os started H enc _ => lifted os started H enc)

theorem proved : Rows.AluBackSaid :=
  over
end Go.Proofs.Ythejbdjmhallhaa.lawAluBack
