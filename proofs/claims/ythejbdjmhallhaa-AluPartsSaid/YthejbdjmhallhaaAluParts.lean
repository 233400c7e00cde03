/- The law AluParts: for every input the call returns true; its arguments are as they were. -/
import Derived.Test.YthejbdjmhallhaaAluAll
import Derived.Test.YthejbdjmhallhaaAluLaws
import Derived.Test.YthejbdjmhallhaaRows
import Derived.ProofKit
import Derived.OpenShut
import Derived.ChangeOld
namespace Go.Proofs.Ythejbdjmhallhaa.lawAluParts
open Go.ChangeShapes Go.WideShapes Go.ChangeAt Go.RowKit Pl
set_option linter.unusedVariables false

def DoC (op s : Int) (a b : Int) (fl r f : Nat) : Prop := ∀ w, Calls Try.prog 11 #[.int .i64 op, .int .i64 s, .int .u32 a, .int .u32 b, .int .u32 fl] w fun en w' => en = .returned (.tuple #[.int .u32 r, .int .u32 f, .int .i64 0]) ∧ Below w.heap.size w w'
theorem has_int (f k : Nat) (q : Int) (h : q = (k : Int)) : ((f : Int) / q % 2 == 1) = hasF f k := by
  subst h
  unfold hasF
  rw [Bool.eq_iff_iff]
  simp only [beq_iff_eq]
  rw [show (f : Int) / (k : Int) = ((f / k : Nat) : Int) by simp]
  omega
theorem has_low (f : Nat) (c : Bool) (h : hasF f 1 = c) : f % 2 = c.toNat := by
  unfold hasF at h
  rw [Nat.div_one] at h
  rcases Nat.mod_two_eq_zero_or_one f with e | e <;> rw [e] at h ⊢ <;> subst h <;> rfl
theorem add_parts (a b : Nat) (ha : a < 4294967296) (hb : b < 4294967296) (c : Nat) (hc : c = (a % 65536 + b % 65536 + 0 != addR 16 (a % 65536) (b % 65536) 0).toNat) :
    addR 16 (a / 65536) (b / 65536) c * 65536 + addR 16 (a % 65536) (b % 65536) 0 = addR 32 a b 0 ∧
    (a / 65536 + b / 65536 + c != addR 16 (a / 65536) (b / 65536) c) = (a + b + 0 != addR 32 a b 0) ∧
    (sgn (a / 65536) 16 == sgn (b / 65536) 16 && sgn (addR 16 (a / 65536) (b / 65536) c) 16 != sgn (a / 65536) 16) = (sgn a 32 == sgn b 32 && sgn (addR 32 a b 0) 32 != sgn a 32) := by
  have h0 : addR 16 (a % 65536) (b % 65536) 0 = (a % 65536 + b % 65536) % 65536 := rfl
  have hc' : c = (a % 65536 + b % 65536) / 65536 := by
    rw [hc, h0]
    rcases Nat.lt_or_ge (a % 65536 + b % 65536) 65536 with h | h
    · rw [show (a % 65536 + b % 65536 + 0 != (a % 65536 + b % 65536) % 65536) = false by simp; omega]
      simp only [Bool.toNat_false]; omega
    · rw [show (a % 65536 + b % 65536 + 0 != (a % 65536 + b % 65536) % 65536) = true by simp; omega]
      simp only [Bool.toNat_true]; omega
  have h1 : addR 16 (a / 65536) (b / 65536) c = (a / 65536 + b / 65536 + c) % 65536 := rfl
  have h2 : addR 32 a b 0 = (a + b) % 4294967296 := rfl
  have h3 : (a / 65536 + b / 65536 + c) % 65536 * 65536 + (a % 65536 + b % 65536) % 65536 = (a + b) % 4294967296 := by subst hc'; omega
  have h4 : (a + b) % 4294967296 / 65536 = (a / 65536 + b / 65536 + c) % 65536 := by omega
  refine ⟨by rw [h0, h1, h2]; exact h3, ?_, ?_⟩
  · rw [h1, h2, Bool.eq_iff_iff]
    simp only [bne_iff_ne]
    subst hc'
    omega
  · have g : ∀ v, sgn v 32 = sgn (v / 65536) 16 := by
      intro v
      unfold sgn
      simp only [Nat.reduceSub, Nat.reducePow]
      rw [Nat.div_div_eq_div_mul]
    rw [g a, g b, g (addR 32 a b 0), h2, h4, h1]
theorem sub_parts (a b : Nat) (ha : a < 4294967296) (hb : b < 4294967296) (c : Nat) (hc : c = (decide (a % 65536 < b % 65536 + 0)).toNat) :
    subR 16 (a / 65536) (b / 65536) c * 65536 + subR 16 (a % 65536) (b % 65536) 0 = subR 32 a b 0 ∧
    decide (a / 65536 < b / 65536 + c) = decide (a < b + 0) ∧
    (sgn (a / 65536) 16 != sgn (b / 65536) 16 && sgn (subR 16 (a / 65536) (b / 65536) c) 16 == sgn (b / 65536) 16) = (sgn a 32 != sgn b 32 && sgn (subR 32 a b 0) 32 == sgn b 32) := by
  have h0 : subR 16 (a % 65536) (b % 65536) 0 = (a % 65536 + 131072 - b % 65536 - 0) % 65536 := rfl
  have hc' : c = 0 ∧ b % 65536 ≤ a % 65536 ∨ c = 1 ∧ a % 65536 < b % 65536 := by
    rw [hc]
    rcases Nat.lt_or_ge (a % 65536) (b % 65536) with h | h
    · right; rw [decide_eq_true (by omega)]; exact ⟨rfl, h⟩
    · left; rw [decide_eq_false (by omega)]; exact ⟨rfl, h⟩
  have h1 : subR 16 (a / 65536) (b / 65536) c = (a / 65536 + 131072 - b / 65536 - c) % 65536 := rfl
  have h2 : subR 32 a b 0 = (a + 8589934592 - b - 0) % 4294967296 := rfl
  have h3 : (a / 65536 + 131072 - b / 65536 - c) % 65536 * 65536 + (a % 65536 + 131072 - b % 65536 - 0) % 65536 = (a + 8589934592 - b - 0) % 4294967296 := by
    rcases hc' with ⟨rfl, h⟩ | ⟨rfl, h⟩ <;> omega
  have h4 : (a + 8589934592 - b - 0) % 4294967296 / 65536 = (a / 65536 + 131072 - b / 65536 - c) % 65536 := by omega
  refine ⟨by rw [h0, h1, h2]; exact h3, ?_, ?_⟩
  · rw [Bool.eq_iff_iff]
    simp only [decide_eq_true_eq]
    omega
  · have g : ∀ v, sgn v 32 = sgn (v / 65536) 16 := by
      intro v
      unfold sgn
      simp only [Nat.reduceSub, Nat.reducePow]
      rw [Nat.div_div_eq_div_mul]
    rw [g a, g b, g (subR 32 a b 0), h2, h4, h1]

set_option maxRecDepth 20000 in
set_option maxHeartbeats 4000000 in
theorem walk_of (a b fl l f h g s i l2 f2 h2 g2 s2 i2 : Nat) (c o c2 o2 : Bool)
    (e1 : h * 65536 + l = s) (hs : s < 4294967296) (e2 : h2 * 65536 + l2 = s2) (hs2 : s2 < 4294967296)
    (ci : hasF i 1 = c) (cg : hasF g 1 = c) (oi : hasF i 2048 = o) (og : hasF g 2048 = o) (ci2 : hasF i2 1 = c2) (cg2 : hasF g2 1 = c2) (oi2 : hasF i2 2048 = o2) (og2 : hasF g2 2048 = o2)
    (C0 : DoC 0 2 a b fl l f) (C1 : DoC 2 2 ((a : Int) / 65536) ((b : Int) / 65536) f h g) (C2 : DoC 0 4 a b fl s i)
    (C3 : DoC 5 2 a b fl l2 f2) (C4 : DoC 3 2 ((a : Int) / 65536) ((b : Int) / 65536) f2 h2 g2) (C5 : DoC 5 4 a b fl s2 i2) (w : World) :
    Calls Try.prog 8 #[.int .u32 a, .int .u32 b, .int .u32 fl] w fun e w' => e = .returned (.bool true) ∧ Below w.heap.size w w' := by
  have H0 := hide C0
  have H1 := hide C1
  have H2 := hide C2
  have H3 := hide C3
  have H4 := hide C4
  have H5 := hide C5
  have q1 : ((i : Int) % 2 == 1) = c := by rw [← ci, ← has_int i 1 1 rfl]; simp
  have q2 : ((g : Int) % 2 == 1) = c := by rw [← cg, ← has_int g 1 1 rfl]; simp
  have q3 : ((i : Int) / 2048 % 2 == 1) = o := by rw [← oi, ← has_int i 2048 2048 rfl]
  have q4 : ((g : Int) / 2048 % 2 == 1) = o := by rw [← og, ← has_int g 2048 2048 rfl]
  have q5 : ((i2 : Int) % 2 == 1) = c2 := by rw [← ci2, ← has_int i2 1 1 rfl]; simp
  have q6 : ((g2 : Int) % 2 == 1) = c2 := by rw [← cg2, ← has_int g2 1 1 rfl]; simp
  have q7 : ((i2 : Int) / 2048 % 2 == 1) = o2 := by rw [← oi2, ← has_int i2 2048 2048 rfl]
  have q8 : ((g2 : Int) / 2048 % 2 == 1) = o2 := by rw [← og2, ← has_int g2 2048 2048 rfl]
  have q9 : ((h : Int) * 65536 % 4294967296 + (l : Int)) % 4294967296 = (s : Int) := by omega
  have qa : ((h2 : Int) * 65536 % 4294967296 + (l2 : Int)) % 4294967296 = (s2 : Int) := by omega
  have qb : ((h : Int) * 65536 + (l : Int)) = (s : Int) := by omega
  have qc : ((h2 : Int) * 65536 + (l2 : Int)) = (s2 : Int) := by omega
  have hh : (h : Int) * 65536 ≤ 4294967295 := by omega
  have hl : (h : Int) * 65536 + (l : Int) ≤ 4294967295 := by omega
  have hl2 : (h2 : Int) * 65536 + (l2 : Int) ≤ 4294967295 := by omega
  have hh2 : (h2 : Int) * 65536 ≤ 4294967295 := by omega
  have Q9 := hide (show ((s : Int) == (h : Int) * 65536 + (l : Int)) = true by simp; omega)
  have Qa := hide (show ((s2 : Int) == (h2 : Int) * 65536 + (l2 : Int)) = true by simp; omega)
  clear C0 C1 C2 C3 C4 C5 ci cg oi og ci2 cg2 oi2 og2 e1 e2 q9 qa qb qc
  have r1 := Q9.out
  have r2 := Qa.out
  go_enter Try.func8, Try.ntmps8
  go_wp2_with fail
  refine (awake_ok _).mono ?_
  rintro e w1 ⟨rfl, hb⟩
  go_wp2_with fail
  refine (H0.out _).mono ?_
  rintro e w1 ⟨rfl, h2⟩
  replace hb := hb.trans (h2.mono hb.size)
  clear h2
  go_wp2_with fail
  refine (H1.out _).mono ?_
  rintro e w1 ⟨rfl, h2⟩
  replace hb := hb.trans (h2.mono hb.size)
  clear h2
  go_wp2_with fail
  refine (H2.out _).mono ?_
  rintro e w1 ⟨rfl, h2⟩
  replace hb := hb.trans (h2.mono hb.size)
  clear h2
  go_wp2_with (go_at_call 15; go_in)
  refine (H3.out _).mono ?_
  rintro e w1 ⟨rfl, h2⟩
  replace hb := hb.trans (h2.mono hb.size)
  clear h2
  go_wp2_with fail
  refine (H4.out _).mono ?_
  rintro e w1 ⟨rfl, h2⟩
  replace hb := hb.trans (h2.mono hb.size)
  clear h2
  go_wp2_with fail
  refine (H5.out _).mono ?_
  rintro e w1 ⟨rfl, h2⟩
  replace hb := hb.trans (h2.mono hb.size)
  clear h2
  go_wp2
  go_ret
  exact ⟨by first | rfl | simp [*], hb⟩
theorem d0R (b x y fl : Nat) : doR 0 b x y fl = addR b x y 0 := rfl
theorem d0F (b x y fl : Nat) : doF 0 b x y fl = addF b x y 0 fl := rfl
theorem d5R (b x y fl : Nat) : doR 5 b x y fl = subR b x y 0 := rfl
theorem d5F (b x y fl : Nat) : doF 5 b x y fl = subF b x y 0 fl := rfl
theorem d2R (b x y fl : Nat) : doR 2 b x y fl = addR b x y (fl % 2) := rfl
theorem d2F (b x y fl : Nat) : doF 2 b x y fl = addF b x y (fl % 2) fl := rfl
theorem d3R (b x y fl : Nat) : doR 3 b x y fl = subR b x y (fl % 2) := rfl
theorem d3F (b x y fl : Nat) : doF 3 b x y fl = subF b x y (fl % 2) fl := rfl
theorem gen0 (s : Int) (hs : s = 1 ∨ s = 2 ∨ s = 4) (B : Nat) (hB : 8 * s.toNat = B) (a : Nat) (ha : a < 4294967296) (b : Nat) (hb : b < 4294967296) (fl : Nat) (hf : fl < 4294967296) (x y : Nat) (hx : a % 2 ^ B = x) (hy : b % 2 ^ B = y) :
    DoC 0 s a b fl (addR B x y 0) (addF B x y 0 fl) := by
  subst hB hx hy
  intro w
  have h := do0_ok s hs a b fl ha hb hf w
  rw [d0R, d0F] at h
  exact h
theorem gen5 (s : Int) (hs : s = 1 ∨ s = 2 ∨ s = 4) (B : Nat) (hB : 8 * s.toNat = B) (a : Nat) (ha : a < 4294967296) (b : Nat) (hb : b < 4294967296) (fl : Nat) (hf : fl < 4294967296) (x y : Nat) (hx : a % 2 ^ B = x) (hy : b % 2 ^ B = y) :
    DoC 5 s a b fl (subR B x y 0) (subF B x y 0 fl) := by
  subst hB hx hy
  intro w
  have h := do5_ok s hs a b fl ha hb hf w
  rw [d5R, d5F] at h
  exact h
theorem gen2 (s : Int) (hs : s = 1 ∨ s = 2 ∨ s = 4) (B : Nat) (hB : 8 * s.toNat = B) (a : Nat) (ha : a < 4294967296) (b : Nat) (hb : b < 4294967296) (fl : Nat) (hf : fl < 4294967296) (x y : Nat) (hx : a % 2 ^ B = x) (hy : b % 2 ^ B = y) :
    DoC 2 s a b fl (addR B x y (fl % 2)) (addF B x y (fl % 2) fl) := by
  subst hB hx hy
  intro w
  have h := do2_ok s hs a b fl ha hb hf w
  rw [d2R, d2F] at h
  exact h
theorem gen3 (s : Int) (hs : s = 1 ∨ s = 2 ∨ s = 4) (B : Nat) (hB : 8 * s.toNat = B) (a : Nat) (ha : a < 4294967296) (b : Nat) (hb : b < 4294967296) (fl : Nat) (hf : fl < 4294967296) (x y : Nat) (hx : a % 2 ^ B = x) (hy : b % 2 ^ B = y) :
    DoC 3 s a b fl (subR B x y (fl % 2)) (subF B x y (fl % 2) fl) := by
  subst hB hx hy
  intro w
  have h := do3_ok s hs a b fl ha hb hf w
  rw [d3R, d3F] at h
  exact h
theorem m16 (a : Nat) : a % 2 ^ 16 = a % 65536 := rfl
theorem m32 (a : Nat) (ha : a < 4294967296) : a % 2 ^ 32 = a := Nat.mod_eq_of_lt ha
theorem u16 (a : Nat) (ha : a < 4294967296) : a / 65536 % 2 ^ 16 = a / 65536 := Nat.mod_eq_of_lt (show a / 65536 < 65536 by omega)
theorem pc0 (a : Nat) (ha : a < 4294967296) (b : Nat) (hb : b < 4294967296) (fl : Nat) (hf : fl < 4294967296) : DoC 0 2 a b fl (addR 16 (a % 65536) (b % 65536) 0) (addF 16 (a % 65536) (b % 65536) 0 fl) :=
  gen0 2 (by decide) 16 (by decide) a ha b hb fl hf _ _ (m16 a) (m16 b)
theorem pc2 (a : Nat) (ha : a < 4294967296) (b : Nat) (hb : b < 4294967296) (fl : Nat) (hf : fl < 4294967296) : DoC 0 4 a b fl (addR 32 a b 0) (addF 32 a b 0 fl) :=
  gen0 4 (by decide) 32 (by decide) a ha b hb fl hf _ _ (m32 a ha) (m32 b hb)
theorem pc1 (a : Nat) (ha : a < 4294967296) (b : Nat) (hb : b < 4294967296) (fl : Nat) (hf : fl < 4294967296) : DoC 2 2 ((a : Int) / 65536) ((b : Int) / 65536) fl (addR 16 (a / 65536) (b / 65536) (fl % 2)) (addF 16 (a / 65536) (b / 65536) (fl % 2) fl) := by
  have h := gen2 2 (by decide) 16 (by decide) (a / 65536) (by omega) (b / 65536) (by omega) fl hf _ _ (u16 a ha) (u16 b hb)
  rw [show ((a / 65536 : Nat) : Int) = (a : Int) / 65536 by simp, show ((b / 65536 : Nat) : Int) = (b : Int) / 65536 by simp] at h
  exact h
theorem pc3 (a : Nat) (ha : a < 4294967296) (b : Nat) (hb : b < 4294967296) (fl : Nat) (hf : fl < 4294967296) : DoC 5 2 a b fl (subR 16 (a % 65536) (b % 65536) 0) (subF 16 (a % 65536) (b % 65536) 0 fl) :=
  gen5 2 (by decide) 16 (by decide) a ha b hb fl hf _ _ (m16 a) (m16 b)
theorem pc5 (a : Nat) (ha : a < 4294967296) (b : Nat) (hb : b < 4294967296) (fl : Nat) (hf : fl < 4294967296) : DoC 5 4 a b fl (subR 32 a b 0) (subF 32 a b 0 fl) :=
  gen5 4 (by decide) 32 (by decide) a ha b hb fl hf _ _ (m32 a ha) (m32 b hb)
theorem pc4 (a : Nat) (ha : a < 4294967296) (b : Nat) (hb : b < 4294967296) (fl : Nat) (hf : fl < 4294967296) : DoC 3 2 ((a : Int) / 65536) ((b : Int) / 65536) fl (subR 16 (a / 65536) (b / 65536) (fl % 2)) (subF 16 (a / 65536) (b / 65536) (fl % 2) fl) := by
  have h := gen3 2 (by decide) 16 (by decide) (a / 65536) (by omega) (b / 65536) (by omega) fl hf _ _ (u16 a ha) (u16 b hb)
  rw [show ((a / 65536 : Nat) : Int) = (a : Int) / 65536 by simp, show ((b / 65536 : Nat) : Int) = (b : Int) / 65536 by simp] at h
  exact h
theorem walk (a : Nat) (ha : a < 4294967296) (b : Nat) (hb : b < 4294967296) (fl : Nat) (hf : fl < 4294967296) (w : World) :
    Calls Try.prog 8 #[.int .u32 a, .int .u32 b, .int .u32 fl] w fun e w' => e = .returned (.bool true) ∧ Below w.heap.size w w' := by
  have C1 := pc1 a ha b hb _ (addF_lt 16 (a % 65536) (b % 65536) 0 fl hf)
  have C4 := pc4 a ha b hb _ (subF_lt 16 (a % 65536) (b % 65536) 0 fl hf)
  obtain ⟨p1, p2, p3⟩ := add_parts a b ha hb _ (has_low _ _ (add_cf 16 (a % 65536) (b % 65536) 0 fl))
  obtain ⟨s1, s2, s3⟩ := sub_parts a b ha hb _ (has_low _ _ (sub_cf 16 (a % 65536) (b % 65536) 0 fl))
  have l1 : addR 32 a b 0 < 4294967296 := Nat.mod_lt _ (by decide)
  have l2 : subR 32 a b 0 < 4294967296 := Nat.mod_lt _ (by decide)
  exact walk_of a b fl _ _ _ _ _ _ _ _ _ _ _ _ _ _ _ _ p1 l1 s1 l2 (add_cf 32 a b 0 fl) ((add_cf _ _ _ _ _).trans p2) (add_of 32 a b 0 fl) ((add_of _ _ _ _ _).trans p3)
    (sub_cf 32 a b 0 fl) ((sub_cf _ _ _ _ _).trans s2) (sub_of 32 a b 0 fl) ((sub_of _ _ _ _ _).trans s3) (pc0 a ha b hb fl hf) C1 (pc2 a ha b hb fl hf) (pc3 a ha b hb fl hf) C4 (pc5 a ha b hb fl hf) w

theorem own : ownKnob Try.prog.godebug = none := by kernel_rfl

set_option maxRecDepth 100000 in
theorem lifted (os : Os) (started : os.Started) (H : Type) (enc : TypeId × Value → H) :
    ReturnsInHanded {} Try.checked os 8 .any (Rows.aluPartsSpec.pre6 enc Try.prog Try.f8 Rows.aluPartsRow.domain false) (Rows.aluPartsSpec.post enc Try.prog Try.f8 false true false false) := by
  refine returnsInHanded_of_change (C := Try.checked) own started (by kernel_rfl) Try.func8
    (ChangeSpec.witness6 (enc := enc) (C := Try.checked) false ⟨#[], #[.int .u32 0, .int .u32 0, .int .u32 0], []⟩ 8 (by kernel_rfl) (by kernel_rfl) (by kernel_rfl) (by kernel_rfl)) ?_
  intro W base args ds gs before hval0 hW hcnd _
  have hval : ∀ (j : Nat) t v, Try.f8.params[j]? = some t → args[j]? = some v → Value.okWide Try.prog W .any base t v := hval0
  have hW' := hW
  obtain ⟨p, q, hA0, hV, rfl, hfz, hnd⟩ := hW
  have hA : DataW.TrodAll enc Try.prog W 0 (fun _ => true) true Try.f8.params.toList args.toList ds p := hA0
  rw [Try.params8] at hA hval
  obtain ⟨v0, vs0, d0, ds0, p0, q0, hargs, rfl, rfl, h0, r0⟩ := trodAll_cons hA
  obtain ⟨v1, vs1, d1, ds1, p1, q1, rfl, rfl, rfl, h1, r1⟩ := trodAll_cons r0
  obtain ⟨v2, vs2, d2, ds2, p2, q2, rfl, rfl, rfl, h2, r2⟩ := trodAll_cons r1
  obtain ⟨rfl, rfl, rfl⟩ := trodAll_nil r2
  obtain rfl : args = #[v0, v1, v2] := by cases args; simp_all
  obtain ⟨rfl, rfl⟩ := trodVars_none hV
  obtain ⟨a0, rfl, rfl, rfl, w0⟩ := open_int Try.underlying23 (hval 0 23 v0 rfl rfl) h0
  obtain ⟨a1, rfl, rfl, rfl, w1⟩ := open_int Try.underlying23 (hval 1 23 v1 rfl rfl) h1
  obtain ⟨a2, rfl, rfl, rfl, w2⟩ := open_int Try.underlying23 (hval 2 23 v2 rfl rfl) h2
  clear hA0 hval0
  simp only [List.append_nil] at hW'
  obtain ⟨n0, rfl, b0⟩ := u32_nat w0
  obtain ⟨n1, rfl, b1⟩ := u32_nat w1
  obtain ⟨n2, rfl, b2⟩ := u32_nat w2
  refine (walk n0 b0 n1 b1 n2 b2 W).mono fun e W' ⟨he, bel⟩ => ?_
  subst he
  exact ⟨_, rfl, _, _, _, [], [], [], hW', trodAll_mk1 (shut_bool Try.underlying4 _), (trodAll_cons_mk (shut_int Try.underlying23 w0) (trodAll_cons_mk (shut_int Try.underlying23 w1) (trodAll_cons_mk (shut_int Try.underlying23 w2) trodAll_mk0))), rfl, bel.frame _, fun h => by cases h⟩

theorem over : Rows.aluPartsRow.holds Try.pinned (OpenSpec.ofChange Rows.aluPartsSpec) :=
  OpenClaim.holds_of_wide 8 Try.f8 rfl rfl rfl rfl rfl rfl rfl ⟨rfl, rfl, rfl, rfl, rfl⟩ rfl rfl rfl rfl rfl (by kernel_rfl) Try.func8 (by kernel_rfl)
    (of_decide_eq_true (by kernel_rfl)) (by unfold Func.isWrapper; first | (rw [if_pos (by decide +kernel)]; kernel_rfl) | (rw [if_neg (by decide +kernel)]; exact ⟨rfl, rfl⟩))
    (fun os started H enc _ => lifted os started H enc)

theorem proved : Rows.AluPartsSaid :=
  over
end Go.Proofs.Ythejbdjmhallhaa.lawAluParts
