/- The law MuldivDivs: for every input the call returns true; its arguments are as they were. -/
import Derived.Test.YtfjjipkieecpcaaMdAwake
import Derived.Test.YtfjjipkieecpcaaMdDivA
import Derived.Test.YtfjjipkieecpcaaMdRefDivA
import Derived.Test.YtfjjipkieecpcaaRows
import Derived.ProofKit
import Derived.OpenShut
import Derived.ChangeOld
namespace Go.Proofs.Ytfjjipkieecpcaa.lawMuldivDivs
open Go.ChangeShapes Go.WideShapes Go.ChangeAt Go.RowKit Pl
set_option linter.unusedVariables false

set_option maxRecDepth 20000 in
set_option maxHeartbeats 1000000 in
theorem walk_of (sg : Bool) (s : Int) (l h d : Nat) (q r e : Int) (ok : Bool)
    (C1 : ∀ w, Calls Try.prog 14 #[.bool sg, .int .i64 s, .int .u32 l, .int .u32 h, .int .u32 d] w fun en w' => en = .returned (.tuple #[.int .u32 q, .int .u32 r, .bool ok, .int .i64 e]) ∧ Below w.heap.size w w')
    (C2 : ∀ w, Calls Try.prog 15 #[.bool sg, .int .i64 s, .int .u32 l, .int .u32 h, .int .u32 d] w fun en w' => en = .returned (.tuple #[.int .u32 q, .int .u32 r, .bool ok, .int .i64 e]) ∧ Below w.heap.size w w') (w : World) :
    Calls Try.prog 6 #[.bool sg, .int .i64 s, .int .u32 l, .int .u32 h, .int .u32 d] w fun e w' => e = .returned (.bool true) ∧ Below w.heap.size w w' := by
  have H1 := hide C1
  have H2 := hide C2
  clear C1 C2
  go_enter Try.func6, Try.ntmps6
  go_wp2_with fail
  refine (awake_ok _).mono ?_
  rintro e w1 ⟨rfl, hb⟩
  go_wp2_with fail
  refine (H1.out _).mono ?_
  rintro e w1 ⟨rfl, h2⟩
  replace hb := hb.trans (h2.mono hb.size)
  clear h2
  go_wp2_with fail
  refine (H2.out _).mono ?_
  rintro e w1 ⟨rfl, h2⟩
  replace hb := hb.trans (h2.mono hb.size)
  clear h2
  go_wp2
  go_ret
  exact ⟨by simp, hb⟩
theorem divE_true {sg : Bool} {b n d : Nat} {e : Ending} (h : divOk sg b n d = true) (he : DivE sg b n d e) : e = .returned (.tuple #[.int .u32 ((divQ sg b n d : Nat) : Int), .int .u32 ((divR sg b n d : Nat) : Int), .bool true, .int .i64 0]) := by
  rcases he with ⟨_, he⟩ | ⟨h2, _⟩
  · exact he
  · rw [h] at h2; exact absurd h2 (by decide)
theorem divE_false {sg : Bool} {b n d : Nat} {e : Ending} (h : divOk sg b n d = false) (he : DivE sg b n d e) : e = .returned (.tuple #[.int .u32 0, .int .u32 0, .bool false, .int .i64 0]) := by
  rcases he with ⟨h2, _⟩ | ⟨_, he⟩
  · rw [h] at h2; exact absurd h2 (by decide)
  · exact he
theorem walk (sg : Bool) (s : Int) (ws : (Lit.int .i64 s).wf = true) (l : Nat) (hl : l < 4294967296) (h : Nat) (hh : h < 4294967296) (d : Nat) (hd : d < 4294967296) (w : World) :
    Calls Try.prog 6 #[.bool sg, .int .i64 s, .int .u32 l, .int .u32 h, .int .u32 d] w fun e w' => e = .returned (.bool true) ∧ Below w.heap.size w w' := by
  by_cases hs : s = 1 ∨ s = 2 ∨ s = 4
  · cases ho : divOk sg (8 * s.toNat) (h % 2 ^ (8 * s.toNat) * 2 ^ (8 * s.toNat) + l % 2 ^ (8 * s.toNat)) (d % 2 ^ (8 * s.toNat))
    · exact walk_of sg s l h d _ _ _ _ (fun w => (div_ok sg s hs l h d hl hh hd w).mono fun e w' he => ⟨divE_false ho he.1, he.2⟩) (fun w => (refdiv_ok sg s hs l h d hl hh hd w).mono fun e w' he => ⟨divE_false ho he.1, he.2⟩) w
    · exact walk_of sg s l h d _ _ _ _ (fun w => (div_ok sg s hs l h d hl hh hd w).mono fun e w' he => ⟨divE_true ho he.1, he.2⟩) (fun w => (refdiv_ok sg s hs l h d hl hh hd w).mono fun e w' he => ⟨divE_true ho he.1, he.2⟩) w
  · exact walk_of sg s l h d _ _ _ _ (fun w => div_size sg s (by omega) (by omega) (by omega) l h d w) (fun w => refdiv_size sg s (by omega) (by omega) (by omega) l h d w) w

theorem own : ownKnob Try.prog.godebug = none := by kernel_rfl

set_option maxRecDepth 100000 in
theorem lifted (os : Os) (started : os.Started) (H : Type) (enc : TypeId × Value → H) :
    ReturnsInHanded {} Try.checked os 6 .any (Rows.muldivDivsSpec.pre6 enc Try.prog Try.f6 Rows.muldivDivsRow.domain false) (Rows.muldivDivsSpec.post enc Try.prog Try.f6 false true false false) := by
  refine returnsInHanded_of_change (C := Try.checked) own started (by kernel_rfl) Try.func6
    (ChangeSpec.witness6 (enc := enc) (C := Try.checked) false ⟨#[], #[.bool false, .int .i64 0, .int .u32 0, .int .u32 0, .int .u32 0], []⟩ 8 (by kernel_rfl) (by kernel_rfl) (by kernel_rfl) (by kernel_rfl)) ?_
  intro W base args ds gs before hval0 hW hcnd _
  have hval : ∀ (j : Nat) t v, Try.f6.params[j]? = some t → args[j]? = some v → Value.okWide Try.prog W .any base t v := hval0
  have hW' := hW
  obtain ⟨p, q, hA0, hV, rfl, hfz, hnd⟩ := hW
  have hA : DataW.TrodAll enc Try.prog W 0 (fun _ => true) true Try.f6.params.toList args.toList ds p := hA0
  rw [Try.params6] at hA hval
  obtain ⟨v0, vs0, d0, ds0, p0, q0, hargs, rfl, rfl, h0, r0⟩ := trodAll_cons hA
  obtain ⟨v1, vs1, d1, ds1, p1, q1, rfl, rfl, rfl, h1, r1⟩ := trodAll_cons r0
  obtain ⟨v2, vs2, d2, ds2, p2, q2, rfl, rfl, rfl, h2, r2⟩ := trodAll_cons r1
  obtain ⟨v3, vs3, d3, ds3, p3, q3, rfl, rfl, rfl, h3, r3⟩ := trodAll_cons r2
  obtain ⟨v4, vs4, d4, ds4, p4, q4, rfl, rfl, rfl, h4, r4⟩ := trodAll_cons r3
  obtain ⟨rfl, rfl, rfl⟩ := trodAll_nil r4
  obtain rfl : args = #[v0, v1, v2, v3, v4] := by cases args; simp_all
  obtain ⟨rfl, rfl⟩ := trodVars_none hV
  obtain ⟨a0, rfl, rfl, rfl⟩ := open_bool Try.underlying4 (hval 0 4 v0 rfl rfl) h0
  obtain ⟨a1, rfl, rfl, rfl, w1⟩ := open_int Try.underlying3 (hval 1 3 v1 rfl rfl) h1
  obtain ⟨a2, rfl, rfl, rfl, w2⟩ := open_int Try.underlying22 (hval 2 22 v2 rfl rfl) h2
  obtain ⟨a3, rfl, rfl, rfl, w3⟩ := open_int Try.underlying22 (hval 3 22 v3 rfl rfl) h3
  obtain ⟨a4, rfl, rfl, rfl, w4⟩ := open_int Try.underlying22 (hval 4 22 v4 rfl rfl) h4
  clear hA0 hval0
  simp only [List.append_nil] at hW'
  obtain ⟨n2, rfl, b2⟩ := u32_nat w2
  obtain ⟨n3, rfl, b3⟩ := u32_nat w3
  obtain ⟨n4, rfl, b4⟩ := u32_nat w4
  refine (walk a0 a1 w1 n2 b2 n3 b3 n4 b4 W).mono fun e W' ⟨he, bel⟩ => ?_
  subst he
  exact ⟨_, rfl, _, _, _, [], [], [], hW', trodAll_mk1 (shut_bool Try.underlying4 _), (trodAll_cons_mk (shut_bool Try.underlying4 _) (trodAll_cons_mk (shut_int Try.underlying3 w1) (trodAll_cons_mk (shut_int Try.underlying22 w2) (trodAll_cons_mk (shut_int Try.underlying22 w3) (trodAll_cons_mk (shut_int Try.underlying22 w4) trodAll_mk0))))), rfl, bel.frame _, fun h => by cases h⟩

theorem over : Rows.muldivDivsRow.holds Try.pinned (OpenSpec.ofChange Rows.muldivDivsSpec) :=
  OpenClaim.holds_of_wide 6 Try.f6 rfl rfl rfl rfl rfl rfl rfl ⟨rfl, rfl, rfl, rfl, rfl⟩ rfl rfl rfl rfl rfl (by kernel_rfl) Try.func6 (by kernel_rfl)
    (of_decide_eq_true (by kernel_rfl)) (by unfold Func.isWrapper; first | (rw [if_pos (by decide +kernel)]; kernel_rfl) | (rw [if_neg (by decide +kernel)]; exact ⟨rfl, rfl⟩))
    (fun os started H enc _ => lifted os started H enc)

theorem proved : Rows.MuldivDivsSaid :=
  over
end Go.Proofs.Ytfjjipkieecpcaa.lawMuldivDivs
