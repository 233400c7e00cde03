/- The law ShiftBack: for every input the call returns true; its arguments are as they were. -/
import Derived.Test.YtlchhlfnndeicaaShAll
import Derived.Test.YtlchhlfnndeicaaShMoved
import Derived.Test.YtlchhlfnndeicaaShLaws
import Derived.Test.YtlchhlfnndeicaaRows
import Derived.ProofKit
import Derived.OpenShut
import Derived.ChangeOld
namespace Go.Proofs.Ytlchhlfnndeicaa.lawShiftBack
open Go.ChangeShapes Go.WideShapes Go.ChangeAt Go.RowKit Pl
set_option linter.unusedVariables false

def ShC (op s : Int) (a c fl r f : Nat) : Prop := ∀ w, Calls Try.prog 11 #[.int .i64 op, .int .i64 s, .int .u32 a, .int .u32 c, .int .u32 fl] w fun en w' => en = .returned (.tuple #[.int .u32 r, .int .u32 f, .int .i64 0]) ∧ Below w.heap.size w w'
def HasC (f : Nat) (v : Bool) : Prop := ∀ w, Calls Try.prog 15 #[.int .u32 f, .int .u32 1] w fun e w' => e = .returned (.bool v) ∧ w = w'
theorem hasC (f : Nat) (v : Bool) (h : (f % 2 == 1) = v) : HasC f v := by
  subst h
  exact fun w => has_ok f w

set_option maxRecDepth 20000 in
set_option maxHeartbeats 2000000 in
theorem walk_of (s : Int) (a c fl x p q r t f0 f1 f2 f3 f4 F F' G G' : Nat) (v : Bool)
    (C0 : ∀ w, Calls Try.prog 11 #[.int .i64 0, .int .i64 s, .int .u32 a, .int .u32 0, .int .u32 fl] w fun en w' => en = .returned (.tuple #[.int .u32 x, .int .u32 f0, .int .i64 0]) ∧ Below w.heap.size w w')
    (C1 : ShC 0 s a c fl p f1) (C2 : ShC 1 s p c fl x f2) (C3 : ShC 1 s a c fl q f3) (C4 : ShC 0 s q c fl x f4)
    (C5 : ShC 2 s a c fl r F) (C6 : ShC 3 s r c F x F') (C7 : ShC 3 s a c fl t G) (C8 : ShC 2 s t c G x G')
    (C9 : HasC fl v) (Ca : HasC F' v) (Cb : HasC G' v) (w : World) :
    Calls Try.prog 6 #[.int .i64 s, .int .u32 a, .int .u32 c, .int .u32 fl] w fun e w' => e = .returned (.bool true) ∧ Below w.heap.size w w' := by
  have H0 := hide C0
  have H1 := hide C1
  have H2 := hide C2
  have H3 := hide C3
  have H4 := hide C4
  have H5 := hide C5
  have H6 := hide C6
  have H7 := hide C7
  have H8 := hide C8
  have H9 := hide C9
  have Ha := hide Ca
  have Hb := hide Cb
  clear C0 C1 C2 C3 C4 C5 C6 C7 C8 C9 Ca Cb
  go_enter Try.func6, Try.ntmps6
  go_wp2_with fail
  refine (awake_ok _).mono ?_
  rintro e w1 ⟨rfl, hb⟩
  go_wp2_with fail
  refine (H0.out _).mono ?_
  rintro e w1 ⟨rfl, h2⟩
  replace hb := hb.trans (h2.mono hb.size)
  clear h2
  go_wp2_with fail
  refine (H1.out _).mono ?_
  rintro e w1 ⟨rfl, h2⟩
  replace hb := hb.trans (h2.mono hb.size)
  clear h2
  go_wp2_with fail
  refine (H2.out _).mono ?_
  rintro e w1 ⟨rfl, h2⟩
  replace hb := hb.trans (h2.mono hb.size)
  clear h2
  go_wp2_with fail
  refine (H3.out _).mono ?_
  rintro e w1 ⟨rfl, h2⟩
  replace hb := hb.trans (h2.mono hb.size)
  clear h2
  go_wp2_with fail
  refine (H4.out _).mono ?_
  rintro e w1 ⟨rfl, h2⟩
  replace hb := hb.trans (h2.mono hb.size)
  clear h2
  go_wp2_with fail
  refine (H5.out _).mono ?_
  rintro e w1 ⟨rfl, h2⟩
  replace hb := hb.trans (h2.mono hb.size)
  clear h2
  go_wp2_with fail
  refine (H6.out _).mono ?_
  rintro e w1 ⟨rfl, h2⟩
  replace hb := hb.trans (h2.mono hb.size)
  clear h2
  go_wp2_with fail
  refine (H7.out _).mono ?_
  rintro e w1 ⟨rfl, h2⟩
  replace hb := hb.trans (h2.mono hb.size)
  clear h2
  go_wp2_with fail
  refine (H8.out _).mono ?_
  rintro e w1 ⟨rfl, h2⟩
  replace hb := hb.trans (h2.mono hb.size)
  clear h2
  go_wp2_with fail
  refine (H9.out _).mono ?_
  rintro e w' ⟨rfl, rfl⟩
  go_wp2_with fail
  refine (Ha.out _).mono ?_
  rintro e w' ⟨rfl, rfl⟩
  go_wp2_with fail
  refine (Hb.out _).mono ?_
  rintro e w' ⟨rfl, rfl⟩
  go_wp2
  go_ret
  exact ⟨by simp, hb⟩
set_option maxRecDepth 20000 in
set_option maxHeartbeats 1000000 in
theorem walk_no (s a c fl : Int)
    (C : ∀ w, Calls Try.prog 11 #[.int .i64 0, .int .i64 s, .int .u32 a, .int .u32 0, .int .u32 fl] w fun en w' => en = .returned (.tuple #[.int .u32 0, .int .u32 0, .int .i64 2]) ∧ Below w.heap.size w w') (w : World) :
    Calls Try.prog 6 #[.int .i64 s, .int .u32 a, .int .u32 c, .int .u32 fl] w fun e w' => e = .returned (.bool true) ∧ Below w.heap.size w w' := by
  have H := hide C
  clear C
  go_enter Try.func6, Try.ntmps6
  go_wp2_with fail
  refine (awake_ok _).mono ?_
  rintro e w1 ⟨rfl, hb⟩
  go_wp2_with fail
  refine (H.out _).mono ?_
  rintro e w1 ⟨rfl, h2⟩
  replace hb := hb.trans (h2.mono hb.size)
  clear h2
  go_wp2
  go_ret
  exact ⟨rfl, hb⟩
theorem shC (op : Int) (ho : 0 ≤ op ∧ op ≤ 7) (s : Int) (hs : s = 1 ∨ s = 2 ∨ s = 4) (a c fl r f : Nat) (ha : a < 4294967296) (hc : c < 4294967296) (hf : fl < 4294967296)
    (hr : shDoR op.toNat (8 * s.toNat) (a % 2 ^ (8 * s.toNat)) (c % 32) fl = r) (hF : shDoF op.toNat (8 * s.toNat) (a % 2 ^ (8 * s.toNat)) (c % 32) fl = f) : ShC op s a c fl r f := by
  subst hr hF
  exact fun w => sh_ok op s ho hs a c fl ha hc hf w
theorem walk (s : Int) (ws : (Lit.int .i64 s).wf = true) (a : Nat) (ha : a < 4294967296) (c : Nat) (hc : c < 4294967296) (fl : Nat) (hf : fl < 4294967296) (w : World) :
    Calls Try.prog 6 #[.int .i64 s, .int .u32 a, .int .u32 c, .int .u32 fl] w fun e w' => e = .returned (.bool true) ∧ Below w.heap.size w w' := by
  by_cases hs : s = 1 ∨ s = 2 ∨ s = 4
  · have h32 : 2 ^ (8 * s.toNat) ≤ 4294967296 := by rcases hs with rfl | rfl | rfl <;> decide
    have hX : a % 2 ^ (8 * s.toNat) < 2 ^ (8 * s.toNat) := Nat.mod_lt _ (Nat.two_pow_pos _)
    have hb : 0 < 8 * s.toNat := by omega
    have L : ∀ op, shDoR op (8 * s.toNat) (a % 2 ^ (8 * s.toNat)) (c % 32) fl < 2 ^ (8 * s.toNat) := fun op => shDoR_lt op _ _ _ fl hX hb
    have M : ∀ op, shDoR op (8 * s.toNat) (a % 2 ^ (8 * s.toNat)) (c % 32) fl % 2 ^ (8 * s.toNat) = shDoR op (8 * s.toNat) (a % 2 ^ (8 * s.toNat)) (c % 32) fl := fun op => Nat.mod_eq_of_lt (L op)
    have LF : ∀ op, shDoF op (8 * s.toNat) (a % 2 ^ (8 * s.toNat)) (c % 32) fl < 4294967296 := fun op => shDoF_lt op _ _ _ fl hf
    have C0 : ∀ w, Calls Try.prog 11 #[.int .i64 0, .int .i64 s, .int .u32 a, .int .u32 0, .int .u32 fl] w fun en w' => en = .returned (.tuple #[.int .u32 ((a % 2 ^ (8 * s.toNat) : Nat) : Int), .int .u32 fl, .int .i64 0]) ∧ Below w.heap.size w w' := fun w => shdo_zero 0 s (by decide) hs a 0 fl ha (by decide) (by decide) w
    have k1 := back_rcl _ _ (c % 32) fl hX hf
    have k2 := back_rcr _ _ (c % 32) fl hX hf
    exact walk_of s a c fl _ _ _ _ _ _ _ _ _ _ _ _ _ _ (fl % 2 == 1) C0
      (shC 0 (by decide) s hs a c fl _ _ ha hc hf rfl rfl)
      (shC 1 (by decide) s hs _ c fl _ _ (Nat.lt_of_lt_of_le (L 0) h32) hc hf (by rw [show Int.toNat 0 = 0 from rfl, M 0]; exact back_rol _ _ _ _ _ hX hb) rfl)
      (shC 1 (by decide) s hs a c fl _ _ ha hc hf rfl rfl)
      (shC 0 (by decide) s hs _ c fl _ _ (Nat.lt_of_lt_of_le (L 1) h32) hc hf (by rw [show Int.toNat 1 = 1 from rfl, M 1]; exact back_ror _ _ _ _ _ hX hb) rfl)
      (shC 2 (by decide) s hs a c fl _ _ ha hc hf rfl rfl)
      (shC 3 (by decide) s hs _ c _ _ _ (Nat.lt_of_lt_of_le (L 2) h32) hc (LF 2) (by rw [show Int.toNat 2 = 2 from rfl, M 2]; exact k1.1) rfl)
      (shC 3 (by decide) s hs a c fl _ _ ha hc hf rfl rfl)
      (shC 2 (by decide) s hs _ c _ _ _ (Nat.lt_of_lt_of_le (L 3) h32) hc (LF 3) (by rw [show Int.toNat 3 = 3 from rfl, M 3]; exact k2.1) rfl)
      (hasC _ _ rfl)
      (hasC _ _ (by rw [show Int.toNat 3 = 3 from rfl, show Int.toNat 2 = 2 from rfl, M 2, k1.2]))
      (hasC _ _ (by rw [show Int.toNat 3 = 3 from rfl, show Int.toNat 2 = 2 from rfl, M 3, k2.2])) w
  · exact walk_no s a c fl (fun w => sh_size 0 s (by omega) (by omega) (by omega) a 0 fl w) w

theorem own : ownKnob Try.prog.godebug = none := by kernel_rfl

set_option maxRecDepth 100000 in
theorem lifted (os : Os) (started : os.Started) (H : Type) (enc : TypeId × Value → H) :
    ReturnsInHanded {} Try.checked os 6 .any (Rows.shiftBackSpec.pre6 enc Try.prog Try.f6 Rows.shiftBackRow.domain false) (Rows.shiftBackSpec.post enc Try.prog Try.f6 false true false false) := by
  refine returnsInHanded_of_change (C := Try.checked) own started (by kernel_rfl) Try.func6
    (ChangeSpec.witness6 (enc := enc) (C := Try.checked) false ⟨#[], #[.int .i64 0, .int .u32 0, .int .u32 0, .int .u32 0], []⟩ 8 (by kernel_rfl) (by kernel_rfl) (by kernel_rfl) (by kernel_rfl)) ?_
  intro W base args ds gs before hval0 hW hcnd _
  have hval : ∀ (j : Nat) t v, Try.f6.params[j]? = some t → args[j]? = some v → Value.okWide Try.prog W .any base t v := hval0
  have hW' := hW
  obtain ⟨p, q, hA0, hV, rfl, hfz, hnd⟩ := hW
  have hA : DataW.TrodAll enc Try.prog W 0 (fun _ => true) true Try.f6.params.toList args.toList ds p := hA0
  rw [Try.params6] at hA hval
  obtain ⟨v0, vs0, d0, ds0, p0, q0, hargs, rfl, rfl, h0, r0⟩ := trodAll_cons hA
  obtain ⟨v1, vs1, d1, ds1, p1, q1, rfl, rfl, rfl, h1, r1⟩ := trodAll_cons r0
  obtain ⟨v2, vs2, d2, ds2, p2, q2, rfl, rfl, rfl, h2, r2⟩ := trodAll_cons r1
  obtain ⟨v3, vs3, d3, ds3, p3, q3, rfl, rfl, rfl, h3, r3⟩ := trodAll_cons r2
  obtain ⟨rfl, rfl, rfl⟩ := trodAll_nil r3
  obtain rfl : args = #[v0, v1, v2, v3] := by cases args; simp_all
  obtain ⟨rfl, rfl⟩ := trodVars_none hV
  obtain ⟨a0, rfl, rfl, rfl, w0⟩ := open_int Try.underlying3 (hval 0 3 v0 rfl rfl) h0
  obtain ⟨a1, rfl, rfl, rfl, w1⟩ := open_int Try.underlying23 (hval 1 23 v1 rfl rfl) h1
  obtain ⟨a2, rfl, rfl, rfl, w2⟩ := open_int Try.underlying23 (hval 2 23 v2 rfl rfl) h2
  obtain ⟨a3, rfl, rfl, rfl, w3⟩ := open_int Try.underlying23 (hval 3 23 v3 rfl rfl) h3
  clear hA0 hval0
  simp only [List.append_nil] at hW'
  obtain ⟨n1, rfl, b1⟩ := u32_nat w1
  obtain ⟨n2, rfl, b2⟩ := u32_nat w2
  obtain ⟨n3, rfl, b3⟩ := u32_nat w3
  refine (walk a0 w0 n1 b1 n2 b2 n3 b3 W).mono fun e W' ⟨he, bel⟩ => ?_
  subst he
  exact ⟨_, rfl, _, _, _, [], [], [], hW', trodAll_mk1 (shut_bool Try.underlying4 _), (trodAll_cons_mk (shut_int Try.underlying3 w0) (trodAll_cons_mk (shut_int Try.underlying23 w1) (trodAll_cons_mk (shut_int Try.underlying23 w2) (trodAll_cons_mk (shut_int Try.underlying23 w3) trodAll_mk0)))), rfl, bel.frame _, fun h => by cases h⟩

theorem over : Rows.shiftBackRow.holds Try.pinned (OpenSpec.ofChange Rows.shiftBackSpec) :=
  OpenClaim.holds_of_wide 6 Try.f6 rfl rfl rfl rfl rfl rfl rfl ⟨rfl, rfl, rfl, rfl, rfl⟩ rfl rfl rfl rfl rfl (by kernel_rfl) Try.func6 (by kernel_rfl)
    (of_decide_eq_true (by kernel_rfl)) (by unfold Func.isWrapper; first | (rw [if_pos (by decide +kernel)]; kernel_rfl) | (rw [if_neg (by decide +kernel)]; exact ⟨rfl, rfl⟩))
    (fun os started H enc _ => lifted os started H enc)

theorem proved : Rows.ShiftBackSaid :=
  over
end Go.Proofs.Ytlchhlfnndeicaa.lawShiftBack
