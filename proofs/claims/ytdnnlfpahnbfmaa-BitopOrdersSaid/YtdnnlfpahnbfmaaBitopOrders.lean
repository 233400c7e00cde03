/- The law BitopOrders: for every input the call returns true; its arguments are as they were. -/
import Derived.Test.YtdnnlfpahnbfmaaAwake4
import Derived.Test.YtdnnlfpahnbfmaaAluCmp
import Derived.Test.YtdnnlfpahnbfmaaAluLaws
import Derived.Test.YtdnnlfpahnbfmaaRows
import Derived.ProofKit
import Derived.OpenShut
import Derived.ChangeOld
namespace Go.Proofs.Ytdnnlfpahnbfmaa.lawBitopOrders
open Go.ChangeShapes Go.WideShapes Go.ChangeAt Go.RowKit Pl
set_option linter.unusedVariables false

def CC (cc : Int) (f : Nat) (t : Bool) : Prop := ∀ w, Calls Try.prog 11 #[.int .i64 cc, .int .u32 f] w fun e w' => e = .returned (.tuple #[.bool t, .int .i64 0]) ∧ Below w.heap.size w w'
def wantAt (t0 t1 t2 t3 t4 : Bool) : Nat → Bool
  | 0 => t0
  | 1 => t1
  | 2 => t2
  | 3 => t3
  | _ => t4
def ccAt : Nat → Int
  | 0 => 2
  | 1 => 4
  | 2 => 6
  | 3 => 12
  | _ => 14
def Cells (N : Nat) (t0 t1 t2 t3 t4 : Bool) (w0 wr : World) : Prop :=
  Below w0.heap.size w0 wr ∧ N + 1 < wr.heap.size ∧ (∀ j, j < 5 → wr.cell? ⟨N, j, none⟩ = some (.bool (wantAt t0 t1 t2 t3 t4 j))) ∧ (∀ j, j < 5 → wr.cell? ⟨N + 1, j, none⟩ = some (.int .i64 (ccAt j)))
theorem cells_on {N : Nat} {t0 t1 t2 t3 t4 : Bool} {w0 wr w1 : World} (h : Cells N t0 t1 t2 t3 t4 w0 wr) (hb : Below wr.heap.size wr w1) : Cells N t0 t1 t2 t3 t4 w0 w1 := by
  obtain ⟨h1, h2, h3, h4⟩ := h
  refine ⟨h1.trans (hb.mono h1.size), Nat.lt_of_lt_of_le h2 hb.size, fun j hj => ?_, fun j hj => ?_⟩
  · rw [(bcell hb).1 _ _ (by omega)]; exact h3 j hj
  · rw [(bcell hb).1 _ _ h2]; exact h4 j hj
theorem cells_new (w0 w2 : World) (hb : Below w0.heap.size w0 w2) (t0 t1 t2 t3 t4 : Bool) (ta tb : TypeId) :
    Cells w2.heap.size t0 t1 t2 t3 t4 w0 ((w2.alloc (.cells #[.bool t0, .bool t1, .bool t2, .bool t3, .bool t4] ta)).alloc (.cells #[.int .i64 2, .int .i64 4, .int .i64 6, .int .i64 12, .int .i64 14] tb)) := by
  have e : (w2.alloc (.cells #[.bool t0, .bool t1, .bool t2, .bool t3, .bool t4] ta)).heap.size = w2.heap.size + 1 := by simp
  have hs := hb.size
  refine ⟨(hb.alloc hs _).alloc (by rw [e]; omega) _, by simp, fun j hj => ?_, fun j hj => ?_⟩
  · rw [World.cell?_alloc_past _ _ _ (by omega), World.cell?_alloc_at _ _ _ _ rfl]
    rcases (by omega : j = 0 ∨ j = 1 ∨ j = 2 ∨ j = 3 ∨ j = 4) with rfl | rfl | rfl | rfl | rfl <;> rfl
  · rw [World.cell?_alloc_at _ _ _ _ e.symm]
    rcases (by omega : j = 0 ∨ j = 1 ∨ j = 2 ∨ j = 3 ∨ j = 4) with rfl | rfl | rfl | rfl | rfl <;> rfl

set_option maxRecDepth 100000 in
set_option maxHeartbeats 4000000 in
theorem walk_of (a b r f : Nat) (t0 t1 t2 t3 t4 : Bool) (ha : a < 4294967296) (hb : b < 4294967296)
    (q0 : decide (a < b) = t0) (q1 : ((a : Int) == (b : Int)) = t1) (q2 : decide (a ≤ b) = t2) (q3 : decide (wrap32 (a : Int) < wrap32 (b : Int)) = t3) (q4 : decide (wrap32 (a : Int) ≤ wrap32 (b : Int)) = t4)
    (C : ∀ w, Calls Try.prog 21 #[.int .i64 7, .int .i64 4, .int .u32 a, .int .u32 b, .int .u32 0] w fun e w' => e = .returned (.tuple #[.int .u32 r, .int .u32 f, .int .i64 0]) ∧ Below w.heap.size w w')
    (K0 : CC 2 f t0) (N0 : CC 3 f (!t0)) (K1 : CC 4 f t1) (N1 : CC 5 f (!t1)) (K2 : CC 6 f t2) (N2 : CC 7 f (!t2)) (K3 : CC 12 f t3) (N3 : CC 13 f (!t3)) (K4 : CC 14 f t4) (N4 : CC 15 f (!t4)) (w : World) :
    Calls Try.prog 9 #[.int .u32 a, .int .u32 b] w fun e w' => e = .returned (.bool true) ∧ Below w.heap.size w w' := by
  have H := hide C
  have A0 := hide K0
  have B0 := hide N0
  have A1 := hide K1
  have B1 := hide N1
  have A2 := hide K2
  have B2 := hide N2
  have A3 := hide K3
  have B3 := hide N3
  have A4 := hide K4
  have B4 := hide N4
  clear C K0 N0 K1 N1 K2 N2 K3 N3 K4 N4
  go_enter Try.func9, Try.ntmps9
  go_wp2_with fail
  refine (awake_ok _).mono ?_
  rintro e w1 ⟨rfl, hb1⟩
  go_wp2_with fail
  refine (H.out _).mono ?_
  rintro e w2 ⟨rfl, hb2⟩
  replace hb1 := hb1.trans (hb2.mono hb1.size)
  clear hb2
  go_wp2_with fail
  go_loopw [11] (fun i wr => ∃ k : Nat, k ≤ 5 ∧ i = .int .i64 k ∧ Cells w2.heap.size t0 t1 t2 t3 t4 w wr) (fun i _ => 5 - (intOf i).toNat)
  case atStart => exact ⟨0, Nat.zero_le _, rfl, cells_new w w2 hb1 t0 t1 t2 t3 t4 _ _⟩
  case round =>
    clear q0 q1 q2 q3 q4 ha hb
    obtain ⟨k, hk, rfl, hcells⟩ := hrel
    have HC := hide hcells
    clear hcells
    rcases (by omega : k = 5 ∨ k = 0 ∨ k = 1 ∨ k = 2 ∨ k = 3 ∨ k = 4) with rfl | hk5
    · go_wp2
      go_ret
      exact ⟨rfl, HC.out.1⟩
    · rcases hk5 with rfl | rfl | rfl | rfl | rfl
      · have c1 := HC.out.2.2.2 0 (by decide)
        simp only [ccAt] at c1
        go_wp2_with fail
        refine (A0.out _).mono ?_
        rintro e w3 ⟨rfl, hb3⟩
        have HD := hide (cells_on HC.out hb3)
        have c2 := HD.out.2.2.2 0 (by decide)
        simp only [ccAt] at c2
        clear c1 hb3
        go_wp2_with fail
        refine (B0.out _).mono ?_
        rintro e w4 ⟨rfl, hb4⟩
        have HE := hide (cells_on HD.out hb4)
        have c3 := HE.out.2.2.1 0 (by decide)
        simp only [wantAt] at c3
        clear c2 hb4
        go_wp2
        go_roundw
        case rel => exact ⟨1, by decide, rfl, HE.out⟩
        case measure => simp [intOf]
      · have c1 := HC.out.2.2.2 1 (by decide)
        simp only [ccAt] at c1
        go_wp2_with fail
        refine (A1.out _).mono ?_
        rintro e w3 ⟨rfl, hb3⟩
        have HD := hide (cells_on HC.out hb3)
        have c2 := HD.out.2.2.2 1 (by decide)
        simp only [ccAt] at c2
        clear c1 hb3
        go_wp2_with fail
        refine (B1.out _).mono ?_
        rintro e w4 ⟨rfl, hb4⟩
        have HE := hide (cells_on HD.out hb4)
        have c3 := HE.out.2.2.1 1 (by decide)
        simp only [wantAt] at c3
        clear c2 hb4
        go_wp2
        go_roundw
        case rel => exact ⟨2, by decide, rfl, HE.out⟩
        case measure => simp [intOf]
      · have c1 := HC.out.2.2.2 2 (by decide)
        simp only [ccAt] at c1
        go_wp2_with fail
        refine (A2.out _).mono ?_
        rintro e w3 ⟨rfl, hb3⟩
        have HD := hide (cells_on HC.out hb3)
        have c2 := HD.out.2.2.2 2 (by decide)
        simp only [ccAt] at c2
        clear c1 hb3
        go_wp2_with fail
        refine (B2.out _).mono ?_
        rintro e w4 ⟨rfl, hb4⟩
        have HE := hide (cells_on HD.out hb4)
        have c3 := HE.out.2.2.1 2 (by decide)
        simp only [wantAt] at c3
        clear c2 hb4
        go_wp2
        go_roundw
        case rel => exact ⟨3, by decide, rfl, HE.out⟩
        case measure => simp [intOf]
      · have c1 := HC.out.2.2.2 3 (by decide)
        simp only [ccAt] at c1
        go_wp2_with fail
        refine (A3.out _).mono ?_
        rintro e w3 ⟨rfl, hb3⟩
        have HD := hide (cells_on HC.out hb3)
        have c2 := HD.out.2.2.2 3 (by decide)
        simp only [ccAt] at c2
        clear c1 hb3
        go_wp2_with fail
        refine (B3.out _).mono ?_
        rintro e w4 ⟨rfl, hb4⟩
        have HE := hide (cells_on HD.out hb4)
        have c3 := HE.out.2.2.1 3 (by decide)
        simp only [wantAt] at c3
        clear c2 hb4
        go_wp2
        go_roundw
        case rel => exact ⟨4, by decide, rfl, HE.out⟩
        case measure => simp [intOf]
      · have c1 := HC.out.2.2.2 4 (by decide)
        simp only [ccAt] at c1
        go_wp2_with fail
        refine (A4.out _).mono ?_
        rintro e w3 ⟨rfl, hb3⟩
        have HD := hide (cells_on HC.out hb3)
        have c2 := HD.out.2.2.2 4 (by decide)
        simp only [ccAt] at c2
        clear c1 hb3
        go_wp2_with fail
        refine (B4.out _).mono ?_
        rintro e w4 ⟨rfl, hb4⟩
        have HE := hide (cells_on HD.out hb4)
        have c3 := HE.out.2.2.1 4 (by decide)
        simp only [wantAt] at c3
        clear c2 hb4
        go_wp2
        go_roundw
        case rel => exact ⟨5, by decide, rfl, HE.out⟩
        case measure => simp [intOf]
theorem wrap_sg (a : Nat) (ha : a < 4294967296) : wrap32 (a : Int) = sg 32 a := by
  unfold wrap32 sg sgn
  simp only [Nat.reduceSub, Nat.reducePow, Int.reducePow, beq_iff_eq]
  split <;> omega
theorem le_sg (a b : Nat) (ha : a < 4294967296) (hb : b < 4294967296) : decide (sg 32 a ≤ sg 32 b) = ((a == b) || decide (sg 32 a < sg 32 b)) := by
  rw [Bool.eq_iff_iff]
  simp only [decide_eq_true_eq, Bool.or_eq_true, beq_iff_eq]
  unfold sg sgn
  simp only [Nat.reduceSub, Nat.reducePow, Int.reducePow, beq_iff_eq]
  split <;> split <;> omega
theorem gen7 (s : Int) (hs : s = 1 ∨ s = 2 ∨ s = 4) (B : Nat) (hB : 8 * s.toNat = B) (a : Nat) (ha : a < 4294967296) (b : Nat) (hb : b < 4294967296) (fl : Nat) (hf : fl < 4294967296) (x y : Nat) (hx : a % 2 ^ B = x) (hy : b % 2 ^ B = y) (w : World) :
    Calls Try.prog 21 #[.int .i64 7, .int .i64 s, .int .u32 a, .int .u32 b, .int .u32 fl] w fun e w' => e = .returned (.tuple #[.int .u32 (x : Int), .int .u32 ((subF B x y 0 fl : Nat) : Int), .int .i64 0]) ∧ Below w.heap.size w w' := by
  subst hB hx hy
  have h := do7_ok s hs a b fl ha hb hf w
  rw [show doR 7 (8 * s.toNat) (a % 2 ^ (8 * s.toNat)) (b % 2 ^ (8 * s.toNat)) fl = a % 2 ^ (8 * s.toNat) from rfl, show doF 7 (8 * s.toNat) (a % 2 ^ (8 * s.toNat)) (b % 2 ^ (8 * s.toNat)) fl = subF (8 * s.toNat) (a % 2 ^ (8 * s.toNat)) (b % 2 ^ (8 * s.toNat)) 0 fl from rfl] at h
  exact h
theorem cond_c (cc : Int) (h0 : 0 ≤ cc) (h1 : cc < 16) (f : Nat) (hf : f < 4294967296) (t : Bool) (ht : condS cc.toNat f = t) : CC cc f t := by
  intro w
  rw [← ht]
  exact cond_ok cc h0 h1 f hf w
theorem walk (a : Nat) (ha : a < 4294967296) (b : Nat) (hb : b < 4294967296) (w : World) :
    Calls Try.prog 9 #[.int .u32 a, .int .u32 b] w fun e w' => e = .returned (.bool true) ∧ Below w.heap.size w w' := by
  have C := gen7 4 (by decide) 32 (by decide) a ha b hb 0 (by decide) a b (Nat.mod_eq_of_lt ha) (Nat.mod_eq_of_lt hb)
  have hf := subF_lt 32 a b 0 0 (by decide)
  have e1 := sub_cf 32 a b 0 0
  have e2 := (sub_zf 32 a b 0 0).trans (eq_zf 32 a b (.inr (.inr rfl)) ha hb)
  have e3 : (hasF (subF 32 a b 0 0) 128 != hasF (subF 32 a b 0 0) 2048) = decide (sg 32 a < sg 32 b) := by
    rw [sub_sf, sub_of]
    exact lt_sf 32 a b (.inr (.inr rfl)) ha hb
  rw [Nat.add_zero] at e1
  have q1 : ((a : Int) == (b : Int)) = (a == b) := by rw [Bool.eq_iff_iff]; simp only [beq_iff_eq]; omega
  have q2 : decide (a ≤ b) = (decide (a < b) || (a == b)) := by
    rw [Bool.eq_iff_iff]
    simp only [decide_eq_true_eq, Bool.or_eq_true, beq_iff_eq]
    omega
  have q3 : decide (wrap32 (a : Int) < wrap32 (b : Int)) = decide (sg 32 a < sg 32 b) := by rw [wrap_sg a ha, wrap_sg b hb]
  have q4 : decide (wrap32 (a : Int) ≤ wrap32 (b : Int)) = ((a == b) || decide (sg 32 a < sg 32 b)) := by rw [wrap_sg a ha, wrap_sg b hb, le_sg a b ha hb]
  generalize subF 32 a b 0 0 = f at *
  have g : ∀ k : Nat, condS k f = ((match k / 2 with
    | 0 => hasF f 2048
    | 1 => decide (a < b)
    | 2 => (a == b)
    | 3 => decide (a < b) || (a == b)
    | 4 => hasF f 128
    | 5 => hasF f 4
    | 6 => decide (sg 32 a < sg 32 b)
    | _ => (a == b) || decide (sg 32 a < sg 32 b)) != (k % 2 == 1)) := by
    intro k
    unfold condS
    rw [e1, e2, e3]
    rfl
  exact walk_of a b a f _ _ _ _ _ ha hb rfl q1 q2 q3 q4 C
    (cond_c 2 (by decide) (by decide) f hf _ ((g 2).trans (Bool.bne_false _))) (cond_c 3 (by decide) (by decide) f hf _ ((g 3).trans (Bool.bne_true _)))
    (cond_c 4 (by decide) (by decide) f hf _ ((g 4).trans (Bool.bne_false _))) (cond_c 5 (by decide) (by decide) f hf _ ((g 5).trans (Bool.bne_true _)))
    (cond_c 6 (by decide) (by decide) f hf _ ((g 6).trans (Bool.bne_false _))) (cond_c 7 (by decide) (by decide) f hf _ ((g 7).trans (Bool.bne_true _)))
    (cond_c 12 (by decide) (by decide) f hf _ ((g 12).trans (Bool.bne_false _))) (cond_c 13 (by decide) (by decide) f hf _ ((g 13).trans (Bool.bne_true _)))
    (cond_c 14 (by decide) (by decide) f hf _ ((g 14).trans (Bool.bne_false _))) (cond_c 15 (by decide) (by decide) f hf _ ((g 15).trans (Bool.bne_true _))) w

theorem own : ownKnob Try.prog.godebug = none := by kernel_rfl

set_option maxRecDepth 100000 in
theorem lifted (os : Os) (started : os.Started) (H : Type) (enc : TypeId × Value → H) :
    ReturnsInHanded {} Try.checked os 9 .any (Rows.bitopOrdersSpec.pre6 enc Try.prog Try.f9 Rows.bitopOrdersRow.domain false) (Rows.bitopOrdersSpec.post enc Try.prog Try.f9 false true false false) := by
  refine returnsInHanded_of_change (C := Try.checked) own started (by kernel_rfl) Try.func9
    (ChangeSpec.witness6 (enc := enc) (C := Try.checked) false ⟨#[], #[.int .u32 0, .int .u32 0], []⟩ 8 (by kernel_rfl) (by kernel_rfl) (by kernel_rfl) (by kernel_rfl)) ?_
  intro W base args ds gs before hval0 hW hcnd _
  have hval : ∀ (j : Nat) t v, Try.f9.params[j]? = some t → args[j]? = some v → Value.okWide Try.prog W .any base t v := hval0
  have hW' := hW
  obtain ⟨p, q, hA0, hV, rfl, hfz, hnd⟩ := hW
  have hA : DataW.TrodAll enc Try.prog W 0 (fun _ => true) true Try.f9.params.toList args.toList ds p := hA0
  rw [Try.params9] at hA hval
  obtain ⟨v0, vs0, d0, ds0, p0, q0, hargs, rfl, rfl, h0, r0⟩ := trodAll_cons hA
  obtain ⟨v1, vs1, d1, ds1, p1, q1, rfl, rfl, rfl, h1, r1⟩ := trodAll_cons r0
  obtain ⟨rfl, rfl, rfl⟩ := trodAll_nil r1
  obtain rfl : args = #[v0, v1] := by cases args; simp_all
  obtain ⟨rfl, rfl⟩ := trodVars_none hV
  obtain ⟨a0, rfl, rfl, rfl, w0⟩ := open_int Try.underlying23 (hval 0 23 v0 rfl rfl) h0
  obtain ⟨a1, rfl, rfl, rfl, w1⟩ := open_int Try.underlying23 (hval 1 23 v1 rfl rfl) h1
  clear hA0 hval0
  simp only [List.append_nil] at hW'
  obtain ⟨n0, rfl, b0⟩ := u32_nat w0
  obtain ⟨n1, rfl, b1⟩ := u32_nat w1
  refine (walk n0 b0 n1 b1 W).mono fun e W' ⟨he, bel⟩ => ?_
  subst he
  exact ⟨_, rfl, _, _, _, [], [], [], hW', trodAll_mk1 (shut_bool Try.underlying4 _), (trodAll_cons_mk (shut_int Try.underlying23 w0) (trodAll_cons_mk (shut_int Try.underlying23 w1) trodAll_mk0)), rfl, bel.frame _, fun h => by cases h⟩

theorem over : Rows.bitopOrdersRow.holds Try.pinned (OpenSpec.ofChange Rows.bitopOrdersSpec) :=
  OpenClaim.holds_of_wide 9 Try.f9 rfl rfl rfl rfl rfl rfl rfl ⟨rfl, rfl, rfl, rfl, rfl⟩ rfl rfl rfl rfl rfl (by kernel_rfl) Try.func9 (by kernel_rfl)
    (of_decide_eq_true (by kernel_rfl)) (by unfold Func.isWrapper; first | (rw [if_pos (by decide +kernel)]; kernel_rfl) | (rw [if_neg (by decide +kernel)]; exact ⟨rfl, rfl⟩))
    (fun os started H enc _ => lifted os started H enc)

theorem proved : Rows.BitopOrdersSaid :=
  over
end Go.Proofs.Ytdnnlfpahnbfmaa.lawBitopOrders
