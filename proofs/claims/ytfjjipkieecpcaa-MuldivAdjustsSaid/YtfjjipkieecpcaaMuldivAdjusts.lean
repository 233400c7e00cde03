/- The law MuldivAdjusts: for every input the call returns true; its arguments are as they were. -/
import Derived.Test.YtfjjipkieecpcaaMdAwake
import Derived.Test.YtfjjipkieecpcaaMdAdjA
import Derived.Test.YtfjjipkieecpcaaMdRefAdj2
import Derived.Test.YtfjjipkieecpcaaRows
import Derived.ProofKit
import Derived.OpenShut
import Derived.ChangeOld
namespace Go.Proofs.Ytfjjipkieecpcaa.lawMuldivAdjusts
open Go.ChangeShapes Go.WideShapes Go.ChangeAt Go.RowKit Pl
set_option linter.unusedVariables false

set_option maxRecDepth 20000 in
set_option maxHeartbeats 1000000 in
theorem walk_of (op a b c d X Y F E : Int) (ok : Bool)
    (C1 : ∀ w, Calls Try.prog 16 #[.int .i64 op, .int .u32 a, .int .u32 b, .int .u32 c, .int .u32 d] w fun en w' => en = .returned (.tuple #[.int .u32 X, .int .u32 Y, .int .u32 F, .bool ok, .int .i64 E]) ∧ Below w.heap.size w w')
    (C2 : ∀ w, Calls Try.prog 17 #[.int .i64 op, .int .u32 a, .int .u32 b, .int .u32 c, .int .u32 d] w fun en w' => en = .returned (.tuple #[.int .u32 X, .int .u32 Y, .int .u32 F, .bool ok, .int .i64 E]) ∧ w = w') (w : World) :
    Calls Try.prog 7 #[.int .i64 op, .int .u32 a, .int .u32 b, .int .u32 c, .int .u32 d] w fun e w' => e = .returned (.bool true) ∧ Below w.heap.size w w' := by
  have H1 := hide C1
  have H2 := hide C2
  clear C1 C2
  go_enter Try.func7, Try.ntmps7
  go_wp2_with fail
  refine (awake_ok _).mono ?_
  rintro e w1 ⟨rfl, hb⟩
  go_wp2_with fail
  refine (H1.out _).mono ?_
  rintro e w1 ⟨rfl, h2⟩
  replace hb := hb.trans (h2.mono hb.size)
  clear h2
  go_wp2_with fail
  refine (H2.out _).mono ?_
  rintro e w' ⟨rfl, rfl⟩
  go_wp2
  go_ret
  exact ⟨by simp, hb⟩
theorem walk (op : Int) (wo : (Lit.int .i64 op).wf = true) (al : Nat) (hal : al < 4294967296) (ah : Nat) (hah : ah < 4294967296) (base : Nat) (hba : base < 4294967296) (fl : Nat) (hfl : fl < 4294967296) (w : World) :
    Calls Try.prog 7 #[.int .i64 op, .int .u32 al, .int .u32 ah, .int .u32 base, .int .u32 fl] w fun e w' => e = .returned (.bool true) ∧ Below w.heap.size w w' := by
  by_cases ho : op < 0 ∨ 5 < op
  · exact walk_of op al ah base fl _ _ _ _ _ (adj_no op ho al ah base fl) (radj_no op ho al ah base fl) w
  · obtain ⟨n, rfl, hn⟩ : ∃ n : Nat, op = (n : Int) ∧ n ≤ 5 := ⟨op.toNat, by omega, by omega⟩
    by_cases hz : n = 4 ∧ base % 256 = 0
    · obtain ⟨rfl, hz⟩ := hz
      have C1 : ∀ w, Calls Try.prog 16 #[.int .i64 4, .int .u32 al, .int .u32 ah, .int .u32 base, .int .u32 fl] w fun en w' => en = .returned (.tuple #[.int .u32 0, .int .u32 0, .int .u32 0, .bool false, .int .i64 0]) ∧ Below w.heap.size w w' :=
        adj4_z al ah base fl (al % 256) (ah % 256) _ _ _ _ hal hah hba hfl (by simp) (by simp) (by omega) (Nat.mod_lt _ (by decide)) (Nat.mod_lt _ (by decide)) rfl (tst1 fl hfl) rfl (tst16 fl hfl)
      exact walk_of 4 al ah base fl _ _ _ _ _ C1 (radj4_z al ah base fl hal hah hba hfl hz) w
    · exact walk_of n al ah base fl _ _ _ _ _ (adj_ok n hn al ah base fl hal hah hba hfl hz) (radj_ok n hn al ah base fl hal hah hba hfl hz) w

theorem own : ownKnob Try.prog.godebug = none := by kernel_rfl

set_option maxRecDepth 100000 in
theorem lifted (os : Os) (started : os.Started) (H : Type) (enc : TypeId × Value → H) :
    ReturnsInHanded {} Try.checked os 7 .any (Rows.muldivAdjustsSpec.pre6 enc Try.prog Try.f7 Rows.muldivAdjustsRow.domain false) (Rows.muldivAdjustsSpec.post enc Try.prog Try.f7 false true false false) := by
  refine returnsInHanded_of_change (C := Try.checked) own started (by kernel_rfl) Try.func7
    (ChangeSpec.witness6 (enc := enc) (C := Try.checked) false ⟨#[], #[.int .i64 0, .int .u32 0, .int .u32 0, .int .u32 0, .int .u32 0], []⟩ 8 (by kernel_rfl) (by kernel_rfl) (by kernel_rfl) (by kernel_rfl)) ?_
  intro W base args ds gs before hval0 hW hcnd _
  have hval : ∀ (j : Nat) t v, Try.f7.params[j]? = some t → args[j]? = some v → Value.okWide Try.prog W .any base t v := hval0
  have hW' := hW
  obtain ⟨p, q, hA0, hV, rfl, hfz, hnd⟩ := hW
  have hA : DataW.TrodAll enc Try.prog W 0 (fun _ => true) true Try.f7.params.toList args.toList ds p := hA0
  rw [Try.params7] at hA hval
  obtain ⟨v0, vs0, d0, ds0, p0, q0, hargs, rfl, rfl, h0, r0⟩ := trodAll_cons hA
  obtain ⟨v1, vs1, d1, ds1, p1, q1, rfl, rfl, rfl, h1, r1⟩ := trodAll_cons r0
  obtain ⟨v2, vs2, d2, ds2, p2, q2, rfl, rfl, rfl, h2, r2⟩ := trodAll_cons r1
  obtain ⟨v3, vs3, d3, ds3, p3, q3, rfl, rfl, rfl, h3, r3⟩ := trodAll_cons r2
  obtain ⟨v4, vs4, d4, ds4, p4, q4, rfl, rfl, rfl, h4, r4⟩ := trodAll_cons r3
  obtain ⟨rfl, rfl, rfl⟩ := trodAll_nil r4
  obtain rfl : args = #[v0, v1, v2, v3, v4] := by cases args; simp_all
  obtain ⟨rfl, rfl⟩ := trodVars_none hV
  obtain ⟨a0, rfl, rfl, rfl, w0⟩ := open_int Try.underlying3 (hval 0 3 v0 rfl rfl) h0
  obtain ⟨a1, rfl, rfl, rfl, w1⟩ := open_int Try.underlying22 (hval 1 22 v1 rfl rfl) h1
  obtain ⟨a2, rfl, rfl, rfl, w2⟩ := open_int Try.underlying22 (hval 2 22 v2 rfl rfl) h2
  obtain ⟨a3, rfl, rfl, rfl, w3⟩ := open_int Try.underlying22 (hval 3 22 v3 rfl rfl) h3
  obtain ⟨a4, rfl, rfl, rfl, w4⟩ := open_int Try.underlying22 (hval 4 22 v4 rfl rfl) h4
  clear hA0 hval0
  simp only [List.append_nil] at hW'
  obtain ⟨n1, rfl, b1⟩ := u32_nat w1
  obtain ⟨n2, rfl, b2⟩ := u32_nat w2
  obtain ⟨n3, rfl, b3⟩ := u32_nat w3
  obtain ⟨n4, rfl, b4⟩ := u32_nat w4
  refine (walk a0 w0 n1 b1 n2 b2 n3 b3 n4 b4 W).mono fun e W' ⟨he, bel⟩ => ?_
  subst he
  exact ⟨_, rfl, _, _, _, [], [], [], hW', trodAll_mk1 (shut_bool Try.underlying4 _), (trodAll_cons_mk (shut_int Try.underlying3 w0) (trodAll_cons_mk (shut_int Try.underlying22 w1) (trodAll_cons_mk (shut_int Try.underlying22 w2) (trodAll_cons_mk (shut_int Try.underlying22 w3) (trodAll_cons_mk (shut_int Try.underlying22 w4) trodAll_mk0))))), rfl, bel.frame _, fun h => by cases h⟩

theorem over : Rows.muldivAdjustsRow.holds Try.pinned (OpenSpec.ofChange Rows.muldivAdjustsSpec) :=
  OpenClaim.holds_of_wide 7 Try.f7 rfl rfl rfl rfl rfl rfl rfl ⟨rfl, rfl, rfl, rfl, rfl⟩ rfl rfl rfl rfl rfl (by kernel_rfl) Try.func7 (by kernel_rfl)
    (of_decide_eq_true (by kernel_rfl)) (by unfold Func.isWrapper; first | (rw [if_pos (by decide +kernel)]; kernel_rfl) | (rw [if_neg (by decide +kernel)]; exact ⟨rfl, rfl⟩))
    (fun os started H enc _ => lifted os started H enc)

theorem proved : Rows.MuldivAdjustsSaid :=
  over
end Go.Proofs.Ytfjjipkieecpcaa.lawMuldivAdjusts
