/- The four adjustments, at any digits. -/
import Derived.Test.YtfjjipkieecpcaaMdClos
import Derived.Test.YtfjjipkieecpcaaMdPkPl
namespace Go.Proofs.Ytfjjipkieecpcaa
open Go.RowKit Pl
set_option linter.unusedVariables false

theorem dg_end0 {W0 : World} {E F x y base : Int} {cf af : Bool} (h : E = x) (g : F = y) : W0.alloc (.cells #[.int .u8 E, .int .u8 F, .int .u8 base, .bool cf, .bool af] 59) = (W0.alloc (.cells #[.int .u8 x, .int .u8 y, .int .u8 base, .bool cf, .bool af] 59)).drewN 0 := by
  subst h g
  rfl
theorem dg_end1 {W0 : World} {E F x y base : Int} {cf af : Bool} (h : E = x) (g : F = y) : (W0.alloc (.cells #[.int .u8 E, .int .u8 F, .int .u8 base, .bool cf, .bool af] 59)).drew = (W0.alloc (.cells #[.int .u8 x, .int .u8 y, .int .u8 base, .bool cf, .bool af] 59)).drewN 1 := by
  subst h g
  rfl
theorem dg_end2 {W0 : World} {E F x y base : Int} {cf af : Bool} (h : E = x) (g : F = y) : (W0.alloc (.cells #[.int .u8 E, .int .u8 F, .int .u8 base, .bool cf, .bool af] 59)).drew.drew = (W0.alloc (.cells #[.int .u8 x, .int .u8 y, .int .u8 base, .bool cf, .bool af] 59)).drewN 2 := by
  subst h g
  rfl
theorem nat_rem (a b : Nat) : (a : Int) % (b : Int) = ((a % b : Nat) : Int) := by simp
theorem nat_quo (a b : Nat) (h : a < 256) : (a : Int) / (b : Int) % 256 = ((a / b : Nat) : Int) := by
  rw [show (a : Int) / (b : Int) = ((a / b : Nat) : Int) by simp]
  have := Nat.div_le_self a b
  generalize a / b = q at *
  omega
theorem nat_mad (a b c : Nat) : ((a : Int) + (b : Int) * (c : Int)) % 256 = (((a + b * c) % 256 : Nat) : Int) := by simp

set_option maxRecDepth 20000 in
set_option maxHeartbeats 1000000 in
theorem pk_agl (W0 : World) (q : Nat) (hq : q < W0.heap.size) (hs : W0.cell? ⟨q, 0, none⟩ = some (.int .u8 1)) (al : Nat) (ah base : Int) (cf : Bool) (af : Bool) (hal : al < 256) (h1 : 153 < al) (hlo : loB al af = true) :
    Calls Try.prog 39 #[.pointer (some ⟨W0.heap.size, 0, none⟩), .pointer (some ⟨q, 0, none⟩)] (dg W0 al ah base cf af) fun e w' => e = .returned (.bool true) ∧ ∃ n, w' = (dg W0 (((al + 6) % 256 + 96) % 256 : Nat) ah base true true).drewN n := by
  have L : ∀ _ : Unit, Calls Try.prog 40 #[.pointer (some ⟨W0.heap.size, 0, none⟩)] (dg W0 al ah base cf af) fun e w' => e = .returned (.bool true) ∧ dg W0 al ah base cf af = w' := fun _ => low_ok W0 al ah base cf af true hal hlo _ ⟨0, rfl⟩
  clear hlo
  unfold dg at L ⊢
  have L' := hide L
  clear L
  go_enter Try.func39, Try.ntmps39
  go_wp2_with fail
  refine (L'.out ()).mono ?_
  rintro e w' ⟨rfl, rfl⟩
  go_wp2_with fail
  go_region
  go_wp2_with fail
  go_region
  go_wp2
  go_ret
  first
    | exact ⟨rfl, 2, dg_end2 (by first | rfl | omega) (by first | rfl | omega)⟩
    | exact ⟨rfl, 1, dg_end1 (by first | rfl | omega) (by first | rfl | omega)⟩
    | exact ⟨rfl, 0, dg_end0 (by first | rfl | omega) (by first | rfl | omega)⟩

set_option maxRecDepth 20000 in
set_option maxHeartbeats 1000000 in
theorem pk_agk (W0 : World) (q : Nat) (hq : q < W0.heap.size) (hs : W0.cell? ⟨q, 0, none⟩ = some (.int .u8 1)) (al : Nat) (ah base : Int) (cf : Bool) (af : Bool) (hal : al < 256) (h1 : 153 < al) (hlo : loB al af = false) :
    Calls Try.prog 39 #[.pointer (some ⟨W0.heap.size, 0, none⟩), .pointer (some ⟨q, 0, none⟩)] (dg W0 al ah base cf af) fun e w' => e = .returned (.bool true) ∧ ∃ n, w' = (dg W0 ((al + 96) % 256 : Nat) ah base true false).drewN n := by
  have L : ∀ _ : Unit, Calls Try.prog 40 #[.pointer (some ⟨W0.heap.size, 0, none⟩)] (dg W0 al ah base cf af) fun e w' => e = .returned (.bool false) ∧ dg W0 al ah base cf af = w' := fun _ => low_ok W0 al ah base cf af false hal hlo _ ⟨0, rfl⟩
  clear hlo
  unfold dg at L ⊢
  have L' := hide L
  clear L
  go_enter Try.func39, Try.ntmps39
  go_wp2_with fail
  refine (L'.out ()).mono ?_
  rintro e w' ⟨rfl, rfl⟩
  go_wp2_with fail
  go_region
  go_wp2
  go_ret
  first
    | exact ⟨rfl, 2, dg_end2 (by first | rfl | omega) (by first | rfl | omega)⟩
    | exact ⟨rfl, 1, dg_end1 (by first | rfl | omega) (by first | rfl | omega)⟩
    | exact ⟨rfl, 0, dg_end0 (by first | rfl | omega) (by first | rfl | omega)⟩

set_option maxRecDepth 20000 in
set_option maxHeartbeats 1000000 in
theorem pk_acl (W0 : World) (q : Nat) (hq : q < W0.heap.size) (hs : W0.cell? ⟨q, 0, none⟩ = some (.int .u8 1)) (al : Nat) (ah base : Int)  (af : Bool) (hal : al < 256) (h1 : ((153 : Int) < (al : Int)) = False) (hlo : loB al af = true) :
    Calls Try.prog 39 #[.pointer (some ⟨W0.heap.size, 0, none⟩), .pointer (some ⟨q, 0, none⟩)] (dg W0 al ah base true af) fun e w' => e = .returned (.bool true) ∧ ∃ n, w' = (dg W0 (((al + 6) % 256 + 96) % 256 : Nat) ah base true true).drewN n := by
  have L : ∀ _ : Unit, Calls Try.prog 40 #[.pointer (some ⟨W0.heap.size, 0, none⟩)] (dg W0 al ah base true af) fun e w' => e = .returned (.bool true) ∧ dg W0 al ah base true af = w' := fun _ => low_ok W0 al ah base true af true hal hlo _ ⟨0, rfl⟩
  clear hlo
  unfold dg at L ⊢
  have L' := hide L
  clear L
  go_enter Try.func39, Try.ntmps39
  go_wp2_with fail
  refine (L'.out ()).mono ?_
  rintro e w' ⟨rfl, rfl⟩
  go_wp2_with fail
  go_region
  go_wp2_with fail
  go_region
  go_wp2
  go_ret
  first
    | exact ⟨rfl, 2, dg_end2 (by first | rfl | omega) (by first | rfl | omega)⟩
    | exact ⟨rfl, 1, dg_end1 (by first | rfl | omega) (by first | rfl | omega)⟩
    | exact ⟨rfl, 0, dg_end0 (by first | rfl | omega) (by first | rfl | omega)⟩

set_option maxRecDepth 20000 in
set_option maxHeartbeats 1000000 in
theorem pk_ack (W0 : World) (q : Nat) (hq : q < W0.heap.size) (hs : W0.cell? ⟨q, 0, none⟩ = some (.int .u8 1)) (al : Nat) (ah base : Int)  (af : Bool) (hal : al < 256) (h1 : ((153 : Int) < (al : Int)) = False) (hlo : loB al af = false) :
    Calls Try.prog 39 #[.pointer (some ⟨W0.heap.size, 0, none⟩), .pointer (some ⟨q, 0, none⟩)] (dg W0 al ah base true af) fun e w' => e = .returned (.bool true) ∧ ∃ n, w' = (dg W0 ((al + 96) % 256 : Nat) ah base true false).drewN n := by
  have L : ∀ _ : Unit, Calls Try.prog 40 #[.pointer (some ⟨W0.heap.size, 0, none⟩)] (dg W0 al ah base true af) fun e w' => e = .returned (.bool false) ∧ dg W0 al ah base true af = w' := fun _ => low_ok W0 al ah base true af false hal hlo _ ⟨0, rfl⟩
  clear hlo
  unfold dg at L ⊢
  have L' := hide L
  clear L
  go_enter Try.func39, Try.ntmps39
  go_wp2_with fail
  refine (L'.out ()).mono ?_
  rintro e w' ⟨rfl, rfl⟩
  go_wp2_with fail
  go_region
  go_wp2
  go_ret
  first
    | exact ⟨rfl, 2, dg_end2 (by first | rfl | omega) (by first | rfl | omega)⟩
    | exact ⟨rfl, 1, dg_end1 (by first | rfl | omega) (by first | rfl | omega)⟩
    | exact ⟨rfl, 0, dg_end0 (by first | rfl | omega) (by first | rfl | omega)⟩

set_option maxRecDepth 20000 in
set_option maxHeartbeats 1000000 in
theorem pk_anl (W0 : World) (q : Nat) (hq : q < W0.heap.size) (hs : W0.cell? ⟨q, 0, none⟩ = some (.int .u8 1)) (al : Nat) (ah base : Int)  (af : Bool) (hal : al < 256) (h1 : ((153 : Int) < (al : Int)) = False) (hlo : loB al af = true) :
    Calls Try.prog 39 #[.pointer (some ⟨W0.heap.size, 0, none⟩), .pointer (some ⟨q, 0, none⟩)] (dg W0 al ah base false af) fun e w' => e = .returned (.bool true) ∧ ∃ n, w' = (dg W0 ((al + 6) % 256 : Nat) ah base false true).drewN n := by
  have L : ∀ _ : Unit, Calls Try.prog 40 #[.pointer (some ⟨W0.heap.size, 0, none⟩)] (dg W0 al ah base false af) fun e w' => e = .returned (.bool true) ∧ dg W0 al ah base false af = w' := fun _ => low_ok W0 al ah base false af true hal hlo _ ⟨0, rfl⟩
  clear hlo
  unfold dg at L ⊢
  have L' := hide L
  clear L
  go_enter Try.func39, Try.ntmps39
  go_wp2_with fail
  refine (L'.out ()).mono ?_
  rintro e w' ⟨rfl, rfl⟩
  go_wp2_with fail
  go_region
  go_wp2
  go_ret
  first
    | exact ⟨rfl, 2, dg_end2 (by first | rfl | omega) (by first | rfl | omega)⟩
    | exact ⟨rfl, 1, dg_end1 (by first | rfl | omega) (by first | rfl | omega)⟩
    | exact ⟨rfl, 0, dg_end0 (by first | rfl | omega) (by first | rfl | omega)⟩

set_option maxRecDepth 20000 in
set_option maxHeartbeats 1000000 in
theorem pk_ank (W0 : World) (q : Nat) (hq : q < W0.heap.size) (hs : W0.cell? ⟨q, 0, none⟩ = some (.int .u8 1)) (al : Nat) (ah base : Int)  (af : Bool) (hal : al < 256) (h1 : ((153 : Int) < (al : Int)) = False) (hlo : loB al af = false) :
    Calls Try.prog 39 #[.pointer (some ⟨W0.heap.size, 0, none⟩), .pointer (some ⟨q, 0, none⟩)] (dg W0 al ah base false af) fun e w' => e = .returned (.bool true) ∧ ∃ n, w' = (dg W0 (al : Nat) ah base false false).drewN n := by
  have L : ∀ _ : Unit, Calls Try.prog 40 #[.pointer (some ⟨W0.heap.size, 0, none⟩)] (dg W0 al ah base false af) fun e w' => e = .returned (.bool false) ∧ dg W0 al ah base false af = w' := fun _ => low_ok W0 al ah base false af false hal hlo _ ⟨0, rfl⟩
  clear hlo
  unfold dg at L ⊢
  have L' := hide L
  clear L
  go_enter Try.func39, Try.ntmps39
  go_wp2_with fail
  refine (L'.out ()).mono ?_
  rintro e w' ⟨rfl, rfl⟩
  go_wp2
  go_ret
  first
    | exact ⟨rfl, 2, dg_end2 (by first | rfl | omega) (by first | rfl | omega)⟩
    | exact ⟨rfl, 1, dg_end1 (by first | rfl | omega) (by first | rfl | omega)⟩
    | exact ⟨rfl, 0, dg_end0 (by first | rfl | omega) (by first | rfl | omega)⟩

set_option maxRecDepth 20000 in
set_option maxHeartbeats 1000000 in
theorem pk_sgli (W0 : World) (q : Nat) (hq : q < W0.heap.size) (hs : W0.cell? ⟨q, 0, none⟩ = some (.int .u8 255)) (al : Nat) (ah base : Int) (cf : Bool) (af : Bool) (hal : al < 256) (h1 : 153 < al) (hlo : loB al af = true) (h6 : ((al : Int) < 6) = False) :
    Calls Try.prog 39 #[.pointer (some ⟨W0.heap.size, 0, none⟩), .pointer (some ⟨q, 0, none⟩)] (dg W0 al ah base cf af) fun e w' => e = .returned (.bool true) ∧ ∃ n, w' = (dg W0 (((al + 250) % 256 + 160) % 256 : Nat) ah base true true).drewN n := by
  have L : ∀ _ : Unit, Calls Try.prog 40 #[.pointer (some ⟨W0.heap.size, 0, none⟩)] (dg W0 al ah base cf af) fun e w' => e = .returned (.bool true) ∧ dg W0 al ah base cf af = w' := fun _ => low_ok W0 al ah base cf af true hal hlo _ ⟨0, rfl⟩
  clear hlo
  unfold dg at L ⊢
  have L' := hide L
  clear L
  go_enter Try.func39, Try.ntmps39
  go_wp2_with fail
  refine (L'.out ()).mono ?_
  rintro e w' ⟨rfl, rfl⟩
  go_wp2_with fail
  go_region
  go_wp2_with fail
  go_region
  go_wp2
  go_ret
  first
    | exact ⟨rfl, 2, dg_end2 (by first | rfl | omega) (by first | rfl | omega)⟩
    | exact ⟨rfl, 1, dg_end1 (by first | rfl | omega) (by first | rfl | omega)⟩
    | exact ⟨rfl, 0, dg_end0 (by first | rfl | omega) (by first | rfl | omega)⟩

set_option maxRecDepth 20000 in
set_option maxHeartbeats 1000000 in
theorem pk_sgk (W0 : World) (q : Nat) (hq : q < W0.heap.size) (hs : W0.cell? ⟨q, 0, none⟩ = some (.int .u8 255)) (al : Nat) (ah base : Int) (cf : Bool) (af : Bool) (hal : al < 256) (h1 : 153 < al) (hlo : loB al af = false) :
    Calls Try.prog 39 #[.pointer (some ⟨W0.heap.size, 0, none⟩), .pointer (some ⟨q, 0, none⟩)] (dg W0 al ah base cf af) fun e w' => e = .returned (.bool true) ∧ ∃ n, w' = (dg W0 ((al + 160) % 256 : Nat) ah base true false).drewN n := by
  have L : ∀ _ : Unit, Calls Try.prog 40 #[.pointer (some ⟨W0.heap.size, 0, none⟩)] (dg W0 al ah base cf af) fun e w' => e = .returned (.bool false) ∧ dg W0 al ah base cf af = w' := fun _ => low_ok W0 al ah base cf af false hal hlo _ ⟨0, rfl⟩
  clear hlo
  unfold dg at L ⊢
  have L' := hide L
  clear L
  go_enter Try.func39, Try.ntmps39
  go_wp2_with fail
  refine (L'.out ()).mono ?_
  rintro e w' ⟨rfl, rfl⟩
  go_wp2_with fail
  go_region
  go_wp2
  go_ret
  first
    | exact ⟨rfl, 2, dg_end2 (by first | rfl | omega) (by first | rfl | omega)⟩
    | exact ⟨rfl, 1, dg_end1 (by first | rfl | omega) (by first | rfl | omega)⟩
    | exact ⟨rfl, 0, dg_end0 (by first | rfl | omega) (by first | rfl | omega)⟩

set_option maxRecDepth 20000 in
set_option maxHeartbeats 1000000 in
theorem pk_sclb (W0 : World) (q : Nat) (hq : q < W0.heap.size) (hs : W0.cell? ⟨q, 0, none⟩ = some (.int .u8 255)) (al : Nat) (ah base : Int)  (af : Bool) (hal : al < 256) (h1 : ((153 : Int) < (al : Int)) = False) (hlo : loB al af = true) (h6 : ((al : Int) < 6) = True) :
    Calls Try.prog 39 #[.pointer (some ⟨W0.heap.size, 0, none⟩), .pointer (some ⟨q, 0, none⟩)] (dg W0 al ah base true af) fun e w' => e = .returned (.bool true) ∧ ∃ n, w' = (dg W0 (((al + 250) % 256 + 160) % 256 : Nat) ah base true true).drewN n := by
  have L : ∀ _ : Unit, Calls Try.prog 40 #[.pointer (some ⟨W0.heap.size, 0, none⟩)] (dg W0 al ah base true af) fun e w' => e = .returned (.bool true) ∧ dg W0 al ah base true af = w' := fun _ => low_ok W0 al ah base true af true hal hlo _ ⟨0, rfl⟩
  clear hlo
  unfold dg at L ⊢
  have L' := hide L
  clear L
  go_enter Try.func39, Try.ntmps39
  go_wp2_with fail
  refine (L'.out ()).mono ?_
  rintro e w' ⟨rfl, rfl⟩
  go_wp2_with fail
  go_region
  go_wp2_with fail
  go_region
  go_wp2
  go_ret
  first
    | exact ⟨rfl, 2, dg_end2 (by first | rfl | omega) (by first | rfl | omega)⟩
    | exact ⟨rfl, 1, dg_end1 (by first | rfl | omega) (by first | rfl | omega)⟩
    | exact ⟨rfl, 0, dg_end0 (by first | rfl | omega) (by first | rfl | omega)⟩

set_option maxRecDepth 20000 in
set_option maxHeartbeats 1000000 in
theorem pk_scli (W0 : World) (q : Nat) (hq : q < W0.heap.size) (hs : W0.cell? ⟨q, 0, none⟩ = some (.int .u8 255)) (al : Nat) (ah base : Int)  (af : Bool) (hal : al < 256) (h1 : ((153 : Int) < (al : Int)) = False) (hlo : loB al af = true) (h6 : ((al : Int) < 6) = False) :
    Calls Try.prog 39 #[.pointer (some ⟨W0.heap.size, 0, none⟩), .pointer (some ⟨q, 0, none⟩)] (dg W0 al ah base true af) fun e w' => e = .returned (.bool true) ∧ ∃ n, w' = (dg W0 (((al + 250) % 256 + 160) % 256 : Nat) ah base true true).drewN n := by
  have L : ∀ _ : Unit, Calls Try.prog 40 #[.pointer (some ⟨W0.heap.size, 0, none⟩)] (dg W0 al ah base true af) fun e w' => e = .returned (.bool true) ∧ dg W0 al ah base true af = w' := fun _ => low_ok W0 al ah base true af true hal hlo _ ⟨0, rfl⟩
  clear hlo
  unfold dg at L ⊢
  have L' := hide L
  clear L
  go_enter Try.func39, Try.ntmps39
  go_wp2_with fail
  refine (L'.out ()).mono ?_
  rintro e w' ⟨rfl, rfl⟩
  go_wp2_with fail
  go_region
  go_wp2_with fail
  go_region
  go_wp2
  go_ret
  first
    | exact ⟨rfl, 2, dg_end2 (by first | rfl | omega) (by first | rfl | omega)⟩
    | exact ⟨rfl, 1, dg_end1 (by first | rfl | omega) (by first | rfl | omega)⟩
    | exact ⟨rfl, 0, dg_end0 (by first | rfl | omega) (by first | rfl | omega)⟩

set_option maxRecDepth 20000 in
set_option maxHeartbeats 1000000 in
theorem pk_sck (W0 : World) (q : Nat) (hq : q < W0.heap.size) (hs : W0.cell? ⟨q, 0, none⟩ = some (.int .u8 255)) (al : Nat) (ah base : Int)  (af : Bool) (hal : al < 256) (h1 : ((153 : Int) < (al : Int)) = False) (hlo : loB al af = false) :
    Calls Try.prog 39 #[.pointer (some ⟨W0.heap.size, 0, none⟩), .pointer (some ⟨q, 0, none⟩)] (dg W0 al ah base true af) fun e w' => e = .returned (.bool true) ∧ ∃ n, w' = (dg W0 ((al + 160) % 256 : Nat) ah base true false).drewN n := by
  have L : ∀ _ : Unit, Calls Try.prog 40 #[.pointer (some ⟨W0.heap.size, 0, none⟩)] (dg W0 al ah base true af) fun e w' => e = .returned (.bool false) ∧ dg W0 al ah base true af = w' := fun _ => low_ok W0 al ah base true af false hal hlo _ ⟨0, rfl⟩
  clear hlo
  unfold dg at L ⊢
  have L' := hide L
  clear L
  go_enter Try.func39, Try.ntmps39
  go_wp2_with fail
  refine (L'.out ()).mono ?_
  rintro e w' ⟨rfl, rfl⟩
  go_wp2_with fail
  go_region
  go_wp2
  go_ret
  first
    | exact ⟨rfl, 2, dg_end2 (by first | rfl | omega) (by first | rfl | omega)⟩
    | exact ⟨rfl, 1, dg_end1 (by first | rfl | omega) (by first | rfl | omega)⟩
    | exact ⟨rfl, 0, dg_end0 (by first | rfl | omega) (by first | rfl | omega)⟩

set_option maxRecDepth 20000 in
set_option maxHeartbeats 1000000 in
theorem pk_snlb (W0 : World) (q : Nat) (hq : q < W0.heap.size) (hs : W0.cell? ⟨q, 0, none⟩ = some (.int .u8 255)) (al : Nat) (ah base : Int)  (af : Bool) (hal : al < 256) (h1 : ((153 : Int) < (al : Int)) = False) (hlo : loB al af = true) (h6 : ((al : Int) < 6) = True) :
    Calls Try.prog 39 #[.pointer (some ⟨W0.heap.size, 0, none⟩), .pointer (some ⟨q, 0, none⟩)] (dg W0 al ah base false af) fun e w' => e = .returned (.bool true) ∧ ∃ n, w' = (dg W0 ((al + 250) % 256 : Nat) ah base true true).drewN n := by
  have L : ∀ _ : Unit, Calls Try.prog 40 #[.pointer (some ⟨W0.heap.size, 0, none⟩)] (dg W0 al ah base false af) fun e w' => e = .returned (.bool true) ∧ dg W0 al ah base false af = w' := fun _ => low_ok W0 al ah base false af true hal hlo _ ⟨0, rfl⟩
  clear hlo
  unfold dg at L ⊢
  have L' := hide L
  clear L
  go_enter Try.func39, Try.ntmps39
  go_wp2_with fail
  refine (L'.out ()).mono ?_
  rintro e w' ⟨rfl, rfl⟩
  go_wp2_with fail
  go_region
  go_wp2
  go_ret
  first
    | exact ⟨rfl, 2, dg_end2 (by first | rfl | omega) (by first | rfl | omega)⟩
    | exact ⟨rfl, 1, dg_end1 (by first | rfl | omega) (by first | rfl | omega)⟩
    | exact ⟨rfl, 0, dg_end0 (by first | rfl | omega) (by first | rfl | omega)⟩

set_option maxRecDepth 20000 in
set_option maxHeartbeats 1000000 in
theorem pk_snli (W0 : World) (q : Nat) (hq : q < W0.heap.size) (hs : W0.cell? ⟨q, 0, none⟩ = some (.int .u8 255)) (al : Nat) (ah base : Int)  (af : Bool) (hal : al < 256) (h1 : ((153 : Int) < (al : Int)) = False) (hlo : loB al af = true) (h6 : ((al : Int) < 6) = False) :
    Calls Try.prog 39 #[.pointer (some ⟨W0.heap.size, 0, none⟩), .pointer (some ⟨q, 0, none⟩)] (dg W0 al ah base false af) fun e w' => e = .returned (.bool true) ∧ ∃ n, w' = (dg W0 ((al + 250) % 256 : Nat) ah base false true).drewN n := by
  have L : ∀ _ : Unit, Calls Try.prog 40 #[.pointer (some ⟨W0.heap.size, 0, none⟩)] (dg W0 al ah base false af) fun e w' => e = .returned (.bool true) ∧ dg W0 al ah base false af = w' := fun _ => low_ok W0 al ah base false af true hal hlo _ ⟨0, rfl⟩
  clear hlo
  unfold dg at L ⊢
  have L' := hide L
  clear L
  go_enter Try.func39, Try.ntmps39
  go_wp2_with fail
  refine (L'.out ()).mono ?_
  rintro e w' ⟨rfl, rfl⟩
  go_wp2_with fail
  go_region
  go_wp2
  go_ret
  first
    | exact ⟨rfl, 2, dg_end2 (by first | rfl | omega) (by first | rfl | omega)⟩
    | exact ⟨rfl, 1, dg_end1 (by first | rfl | omega) (by first | rfl | omega)⟩
    | exact ⟨rfl, 0, dg_end0 (by first | rfl | omega) (by first | rfl | omega)⟩

set_option maxRecDepth 20000 in
set_option maxHeartbeats 1000000 in
theorem pk_snk (W0 : World) (q : Nat) (hq : q < W0.heap.size) (hs : W0.cell? ⟨q, 0, none⟩ = some (.int .u8 255)) (al : Nat) (ah base : Int)  (af : Bool) (hal : al < 256) (h1 : ((153 : Int) < (al : Int)) = False) (hlo : loB al af = false) :
    Calls Try.prog 39 #[.pointer (some ⟨W0.heap.size, 0, none⟩), .pointer (some ⟨q, 0, none⟩)] (dg W0 al ah base false af) fun e w' => e = .returned (.bool true) ∧ ∃ n, w' = (dg W0 (al : Nat) ah base false false).drewN n := by
  have L : ∀ _ : Unit, Calls Try.prog 40 #[.pointer (some ⟨W0.heap.size, 0, none⟩)] (dg W0 al ah base false af) fun e w' => e = .returned (.bool false) ∧ dg W0 al ah base false af = w' := fun _ => low_ok W0 al ah base false af false hal hlo _ ⟨0, rfl⟩
  clear hlo
  unfold dg at L ⊢
  have L' := hide L
  clear L
  go_enter Try.func39, Try.ntmps39
  go_wp2_with fail
  refine (L'.out ()).mono ?_
  rintro e w' ⟨rfl, rfl⟩
  go_wp2
  go_ret
  first
    | exact ⟨rfl, 2, dg_end2 (by first | rfl | omega) (by first | rfl | omega)⟩
    | exact ⟨rfl, 1, dg_end1 (by first | rfl | omega) (by first | rfl | omega)⟩
    | exact ⟨rfl, 0, dg_end0 (by first | rfl | omega) (by first | rfl | omega)⟩

set_option maxRecDepth 20000 in
set_option maxHeartbeats 1000000 in
theorem ap_al (W0 : World) (q : Nat) (hq : q < W0.heap.size) (hs : W0.cell? ⟨q, 0, none⟩ = some (.int .u8 1)) (al ah : Nat) (base : Int) (cf af : Bool) (hal : al < 256) (hah : ah < 256) (hlo : loB al af = true) :
    Calls Try.prog 42 #[.pointer (some ⟨W0.heap.size, 0, none⟩), .pointer (some ⟨q, 0, none⟩)] (dg W0 al ah base cf af) fun e w' => e = .returned (.bool true) ∧ ∃ n, w' = (dg W0 ((al + 6) % 256 % 16 : Nat) ((ah + 1) % 256 : Nat) base true true).drewN n := by
  have L : ∀ _ : Unit, Calls Try.prog 40 #[.pointer (some ⟨W0.heap.size, 0, none⟩)] (dg W0 al ah base cf af) fun e w' => e = .returned (.bool true) ∧ dg W0 al ah base cf af = w' := fun _ => low_ok W0 al ah base cf af true hal hlo _ ⟨0, rfl⟩
  clear hlo
  have e15 : bits .and .u8 (((al : Int) + 6) % 256) 15 = (((al + 6) % 256 % 16 : Nat) : Int) := by
    rw [show (15 : Int) = ((2 ^ 4 - 1 : Nat) : Int) from rfl, show ((al : Int) + 6) % 256 = (((al + 6) % 256 : Nat) : Int) by simp, u8_and_nat _ _ (by omega) (by decide), Nat.and_two_pow_sub_one_eq_mod]
  unfold dg at L ⊢
  have L' := hide L
  clear L
  go_enter Try.func42, Try.ntmps42
  go_wp2_with fail
  refine (L'.out ()).mono ?_
  rintro e w' ⟨rfl, rfl⟩
  go_wp2_with fail
  go_region
  go_wp2_with fail
  go_region
  go_wp2
  go_ret
  first
    | exact ⟨rfl, 2, dg_end2 (by first | rfl | omega) (by first | rfl | omega)⟩
    | exact ⟨rfl, 1, dg_end1 (by first | rfl | omega) (by first | rfl | omega)⟩
    | exact ⟨rfl, 0, dg_end0 (by first | rfl | omega) (by first | rfl | omega)⟩

set_option maxRecDepth 20000 in
set_option maxHeartbeats 1000000 in
theorem ap_ak (W0 : World) (q : Nat) (hq : q < W0.heap.size) (hs : W0.cell? ⟨q, 0, none⟩ = some (.int .u8 1)) (al ah : Nat) (base : Int) (cf af : Bool) (hal : al < 256) (hah : ah < 256) (hlo : loB al af = false) :
    Calls Try.prog 42 #[.pointer (some ⟨W0.heap.size, 0, none⟩), .pointer (some ⟨q, 0, none⟩)] (dg W0 al ah base cf af) fun e w' => e = .returned (.bool true) ∧ ∃ n, w' = (dg W0 (al % 16 : Nat) (ah : Nat) base false false).drewN n := by
  have L : ∀ _ : Unit, Calls Try.prog 40 #[.pointer (some ⟨W0.heap.size, 0, none⟩)] (dg W0 al ah base cf af) fun e w' => e = .returned (.bool false) ∧ dg W0 al ah base cf af = w' := fun _ => low_ok W0 al ah base cf af false hal hlo _ ⟨0, rfl⟩
  clear hlo
  have e15 : bits .and .u8 ((al : Int)) 15 = ((al % 16 : Nat) : Int) := by
    rw [show (15 : Int) = ((2 ^ 4 - 1 : Nat) : Int) from rfl, show (al : Int) = ((al : Nat) : Int) by simp, u8_and_nat _ _ (by omega) (by decide), Nat.and_two_pow_sub_one_eq_mod]
  unfold dg at L ⊢
  have L' := hide L
  clear L
  go_enter Try.func42, Try.ntmps42
  go_wp2_with fail
  refine (L'.out ()).mono ?_
  rintro e w' ⟨rfl, rfl⟩
  go_wp2
  go_ret
  first
    | exact ⟨rfl, 2, dg_end2 (by first | rfl | omega) (by first | rfl | omega)⟩
    | exact ⟨rfl, 1, dg_end1 (by first | rfl | omega) (by first | rfl | omega)⟩
    | exact ⟨rfl, 0, dg_end0 (by first | rfl | omega) (by first | rfl | omega)⟩

set_option maxRecDepth 20000 in
set_option maxHeartbeats 1000000 in
theorem ap_sl (W0 : World) (q : Nat) (hq : q < W0.heap.size) (hs : W0.cell? ⟨q, 0, none⟩ = some (.int .u8 255)) (al ah : Nat) (base : Int) (cf af : Bool) (hal : al < 256) (hah : ah < 256) (hlo : loB al af = true) :
    Calls Try.prog 42 #[.pointer (some ⟨W0.heap.size, 0, none⟩), .pointer (some ⟨q, 0, none⟩)] (dg W0 al ah base cf af) fun e w' => e = .returned (.bool true) ∧ ∃ n, w' = (dg W0 ((al + 250) % 256 % 16 : Nat) ((ah + 255) % 256 : Nat) base true true).drewN n := by
  have L : ∀ _ : Unit, Calls Try.prog 40 #[.pointer (some ⟨W0.heap.size, 0, none⟩)] (dg W0 al ah base cf af) fun e w' => e = .returned (.bool true) ∧ dg W0 al ah base cf af = w' := fun _ => low_ok W0 al ah base cf af true hal hlo _ ⟨0, rfl⟩
  clear hlo
  have e15 : bits .and .u8 (((al : Int) + 250) % 256) 15 = (((al + 250) % 256 % 16 : Nat) : Int) := by
    rw [show (15 : Int) = ((2 ^ 4 - 1 : Nat) : Int) from rfl, show ((al : Int) + 250) % 256 = (((al + 250) % 256 : Nat) : Int) by simp, u8_and_nat _ _ (by omega) (by decide), Nat.and_two_pow_sub_one_eq_mod]
  unfold dg at L ⊢
  have L' := hide L
  clear L
  go_enter Try.func42, Try.ntmps42
  go_wp2_with fail
  refine (L'.out ()).mono ?_
  rintro e w' ⟨rfl, rfl⟩
  go_wp2_with fail
  go_region
  go_wp2_with fail
  go_region
  go_wp2
  go_ret
  first
    | exact ⟨rfl, 2, dg_end2 (by first | rfl | omega) (by first | rfl | omega)⟩
    | exact ⟨rfl, 1, dg_end1 (by first | rfl | omega) (by first | rfl | omega)⟩
    | exact ⟨rfl, 0, dg_end0 (by first | rfl | omega) (by first | rfl | omega)⟩

set_option maxRecDepth 20000 in
set_option maxHeartbeats 1000000 in
theorem ap_sk (W0 : World) (q : Nat) (hq : q < W0.heap.size) (hs : W0.cell? ⟨q, 0, none⟩ = some (.int .u8 255)) (al ah : Nat) (base : Int) (cf af : Bool) (hal : al < 256) (hah : ah < 256) (hlo : loB al af = false) :
    Calls Try.prog 42 #[.pointer (some ⟨W0.heap.size, 0, none⟩), .pointer (some ⟨q, 0, none⟩)] (dg W0 al ah base cf af) fun e w' => e = .returned (.bool true) ∧ ∃ n, w' = (dg W0 (al % 16 : Nat) (ah : Nat) base false false).drewN n := by
  have L : ∀ _ : Unit, Calls Try.prog 40 #[.pointer (some ⟨W0.heap.size, 0, none⟩)] (dg W0 al ah base cf af) fun e w' => e = .returned (.bool false) ∧ dg W0 al ah base cf af = w' := fun _ => low_ok W0 al ah base cf af false hal hlo _ ⟨0, rfl⟩
  clear hlo
  have e15 : bits .and .u8 ((al : Int)) 15 = ((al % 16 : Nat) : Int) := by
    rw [show (15 : Int) = ((2 ^ 4 - 1 : Nat) : Int) from rfl, show (al : Int) = ((al : Nat) : Int) by simp, u8_and_nat _ _ (by omega) (by decide), Nat.and_two_pow_sub_one_eq_mod]
  unfold dg at L ⊢
  have L' := hide L
  clear L
  go_enter Try.func42, Try.ntmps42
  go_wp2_with fail
  refine (L'.out ()).mono ?_
  rintro e w' ⟨rfl, rfl⟩
  go_wp2
  go_ret
  first
    | exact ⟨rfl, 2, dg_end2 (by first | rfl | omega) (by first | rfl | omega)⟩
    | exact ⟨rfl, 1, dg_end1 (by first | rfl | omega) (by first | rfl | omega)⟩
    | exact ⟨rfl, 0, dg_end0 (by first | rfl | omega) (by first | rfl | omega)⟩

set_option maxRecDepth 20000 in
set_option maxHeartbeats 1000000 in
theorem aam_z (W0 : World) (al  : Nat) (ah : Int) (cf af : Bool) (hal : al < 256) :
    Calls Try.prog 43 #[.pointer (some ⟨W0.heap.size, 0, none⟩)] (dg W0 al ah 0 cf af) fun e w' => e = .returned (.bool false) ∧ ∃ n, w' = (dg W0 al ah 0 false false).drewN n := by
  unfold dg
  go_enter Try.func43, Try.ntmps43
  go_wp2
  go_ret
  first
    | exact ⟨rfl, 2, dg_end2 (by first | rfl | omega) (by first | rfl | omega)⟩
    | exact ⟨rfl, 1, dg_end1 (by first | rfl | omega) (by first | rfl | omega)⟩
    | exact ⟨rfl, 0, dg_end0 (by first | rfl | omega) (by first | rfl | omega)⟩

set_option maxRecDepth 20000 in
set_option maxHeartbeats 1000000 in
theorem aam_n (W0 : World) (al base : Nat) (ah : Int) (cf af : Bool) (hal : al < 256) (hb : base < 256) (hb0 : 0 < base) (t0 : ((base : Int) == 0) = false) :
    Calls Try.prog 43 #[.pointer (some ⟨W0.heap.size, 0, none⟩)] (dg W0 al ah base cf af) fun e w' => e = .returned (.bool true) ∧ ∃ n, w' = (dg W0 (al % base : Nat) (al / base : Nat) base false false).drewN n := by
  unfold dg
  go_enter Try.func43, Try.ntmps43
  go_wp2_with fail
  go_region
  go_wp2
  go_ret
  exact ⟨rfl, 1, dg_end1 (nat_rem _ _) (nat_quo _ _ hal)⟩

set_option maxRecDepth 20000 in
set_option maxHeartbeats 1000000 in
theorem aad (W0 : World) (al ah base : Nat) (cf af : Bool) (hal : al < 256) (hah : ah < 256) (hb : base < 256) :
    Calls Try.prog 44 #[.pointer (some ⟨W0.heap.size, 0, none⟩)] (dg W0 al ah base cf af) fun e w' => e = .returned (.bool true) ∧ ∃ n, w' = (dg W0 ((al + ah * base) % 256 : Nat) 0 base false false).drewN n := by
  unfold dg
  go_enter Try.func44, Try.ntmps44
  go_wp2_with fail
  go_region
  go_wp2
  go_ret
  exact ⟨rfl, 1, dg_end1 (nat_mad _ _ _) rfl⟩

theorem lt_no {a b : Nat} (h : ¬ a < b) : ((a : Int) < (b : Int)) = False := by
  rw [eq_iff_iff, iff_false]
  omega
theorem lt_yes {a b : Nat} (h : a < b) : ((a : Int) < (b : Int)) = True := by
  rw [eq_iff_iff, iff_true]
  omega
/-- Daa and Das, at any digits -/
theorem packed_a (W0 : World) (q : Nat) (hq : q < W0.heap.size) (hs : W0.cell? ⟨q, 0, none⟩ = some (.int .u8 1)) (al : Nat) (ah base : Int) (cf af : Bool) (hal : al < 256) :
    Calls Try.prog 39 #[.pointer (some ⟨W0.heap.size, 0, none⟩), .pointer (some ⟨q, 0, none⟩)] (dg W0 al ah base cf af) fun e w' => e = .returned (.bool true) ∧ ∃ n, w' = (dg W0 (pkA false al cf af : Nat) ah base (pkC false al cf af) (loB al af)).drewN n := by
  by_cases h1 : 153 < al
  · cases hlo : loB al af
    · skip
      have e1 : pkA false al cf af = (al + 96) % 256 := by simp [pkA, pkL, hiB, hlo, decide_eq_true h1]
      have e2 : pkC false al cf af = true := by simp [pkC, hiB, hlo, decide_eq_true h1]
      rw [e1, e2]
      exact pk_agk W0 q hq hs al ah base cf af hal h1 hlo
    · skip
      have e1 : pkA false al cf af = ((al + 6) % 256 + 96) % 256 := by simp [pkA, pkL, hiB, hlo, decide_eq_true h1]
      have e2 : pkC false al cf af = true := by simp [pkC, hiB, hlo, decide_eq_true h1]
      rw [e1, e2]
      exact pk_agl W0 q hq hs al ah base cf af hal h1 hlo
  · cases cf
    · cases hlo : loB al af
      · skip
        have e1 : pkA false al false af = al := by simp [pkA, pkL, hiB, hlo, decide_eq_false h1]
        have e2 : pkC false al false af = false := by simp [pkC, hiB, hlo, decide_eq_false h1]
        rw [e1, e2]
        exact pk_ank W0 q hq hs al ah base af hal (lt_no h1) hlo
      · skip
        have e1 : pkA false al false af = (al + 6) % 256 := by simp [pkA, pkL, hiB, hlo, decide_eq_false h1]
        have e2 : pkC false al false af = false := by simp [pkC, hiB, hlo, decide_eq_false h1]
        rw [e1, e2]
        exact pk_anl W0 q hq hs al ah base af hal (lt_no h1) hlo
    · cases hlo : loB al af
      · skip
        have e1 : pkA false al true af = (al + 96) % 256 := by simp [pkA, pkL, hiB, hlo, decide_eq_false h1]
        have e2 : pkC false al true af = true := by simp [pkC, hiB, hlo, decide_eq_false h1]
        rw [e1, e2]
        exact pk_ack W0 q hq hs al ah base af hal (lt_no h1) hlo
      · skip
        have e1 : pkA false al true af = ((al + 6) % 256 + 96) % 256 := by simp [pkA, pkL, hiB, hlo, decide_eq_false h1]
        have e2 : pkC false al true af = true := by simp [pkC, hiB, hlo, decide_eq_false h1]
        rw [e1, e2]
        exact pk_acl W0 q hq hs al ah base af hal (lt_no h1) hlo
theorem packed_s (W0 : World) (q : Nat) (hq : q < W0.heap.size) (hs : W0.cell? ⟨q, 0, none⟩ = some (.int .u8 255)) (al : Nat) (ah base : Int) (cf af : Bool) (hal : al < 256) :
    Calls Try.prog 39 #[.pointer (some ⟨W0.heap.size, 0, none⟩), .pointer (some ⟨q, 0, none⟩)] (dg W0 al ah base cf af) fun e w' => e = .returned (.bool true) ∧ ∃ n, w' = (dg W0 (pkA true al cf af : Nat) ah base (pkC true al cf af) (loB al af)).drewN n := by
  by_cases h1 : 153 < al
  · cases hlo : loB al af
    · skip
      have e1 : pkA true al cf af = (al + 160) % 256 := by simp [pkA, pkL, hiB, hlo, decide_eq_true h1]
      have e2 : pkC true al cf af = true := by simp [pkC, hiB, hlo, decide_eq_true h1]
      rw [e1, e2]
      exact pk_sgk W0 q hq hs al ah base cf af hal h1 hlo
    · skip
      have h6 : ¬ al < 6 := by omega
      have e1 : pkA true al cf af = ((al + 250) % 256 + 160) % 256 := by simp [pkA, pkL, hiB, hlo, decide_eq_true h1]
      have e2 : pkC true al cf af = true := by simp [pkC, hiB, hlo, decide_eq_true h1]
      rw [e1, e2]
      exact pk_sgli W0 q hq hs al ah base cf af hal h1 hlo (lt_no h6)
  · cases cf
    · cases hlo : loB al af
      · skip
        have e1 : pkA true al false af = al := by simp [pkA, pkL, hiB, hlo, decide_eq_false h1]
        have e2 : pkC true al false af = false := by simp [pkC, hiB, hlo, decide_eq_false h1]
        rw [e1, e2]
        exact pk_snk W0 q hq hs al ah base af hal (lt_no h1) hlo
      · by_cases h6 : al < 6
        · skip
          have e1 : pkA true al false af = (al + 250) % 256 := by simp [pkA, pkL, hiB, hlo, decide_eq_false h1]
          have e2 : pkC true al false af = true := by simp [pkC, hiB, hlo, decide_eq_false h1, decide_eq_true h6]
          rw [e1, e2]
          exact pk_snlb W0 q hq hs al ah base af hal (lt_no h1) hlo (lt_yes h6)
        · skip
          have e1 : pkA true al false af = (al + 250) % 256 := by simp [pkA, pkL, hiB, hlo, decide_eq_false h1]
          have e2 : pkC true al false af = false := by simp [pkC, hiB, hlo, decide_eq_false h1, decide_eq_false h6]
          rw [e1, e2]
          exact pk_snli W0 q hq hs al ah base af hal (lt_no h1) hlo (lt_no h6)
    · cases hlo : loB al af
      · skip
        have e1 : pkA true al true af = (al + 160) % 256 := by simp [pkA, pkL, hiB, hlo, decide_eq_false h1]
        have e2 : pkC true al true af = true := by simp [pkC, hiB, hlo, decide_eq_false h1]
        rw [e1, e2]
        exact pk_sck W0 q hq hs al ah base af hal (lt_no h1) hlo
      · by_cases h6 : al < 6
        · skip
          have e1 : pkA true al true af = ((al + 250) % 256 + 160) % 256 := by simp [pkA, pkL, hiB, hlo, decide_eq_false h1]
          have e2 : pkC true al true af = true := by simp [pkC, hiB, hlo, decide_eq_false h1, decide_eq_true h6]
          rw [e1, e2]
          exact pk_sclb W0 q hq hs al ah base af hal (lt_no h1) hlo (lt_yes h6)
        · skip
          have e1 : pkA true al true af = ((al + 250) % 256 + 160) % 256 := by simp [pkA, pkL, hiB, hlo, decide_eq_false h1]
          have e2 : pkC true al true af = true := by simp [pkC, hiB, hlo, decide_eq_false h1, decide_eq_false h6]
          rw [e1, e2]
          exact pk_scli W0 q hq hs al ah base af hal (lt_no h1) hlo (lt_no h6)
/-- Aaa and Aas, at any digits -/
theorem apart_a (W0 : World) (q : Nat) (hq : q < W0.heap.size) (hs : W0.cell? ⟨q, 0, none⟩ = some (.int .u8 1)) (al ah : Nat) (base : Int) (cf af : Bool) (hal : al < 256) (hah : ah < 256) :
    Calls Try.prog 42 #[.pointer (some ⟨W0.heap.size, 0, none⟩), .pointer (some ⟨q, 0, none⟩)] (dg W0 al ah base cf af) fun e w' => e = .returned (.bool true) ∧ ∃ n, w' = (dg W0 (apA false al af : Nat) (apH false al ah af : Nat) base (loB al af) (loB al af)).drewN n := by
  cases hlo : loB al af
  · have e1 : apA false al af = al % 16 := by simp [apA, pkL, hlo]
    have e2 : apH false al ah af = ah := by simp [apH, hlo]
    rw [e1, e2]
    exact ap_ak W0 q hq hs al ah base cf af hal hah hlo
  · have e1 : apA false al af = (al + 6) % 256 % 16 := by simp [apA, pkL, hlo]
    have e2 : apH false al ah af = (ah + 1) % 256 := by simp [apH, hlo]
    rw [e1, e2]
    exact ap_al W0 q hq hs al ah base cf af hal hah hlo
theorem apart_s (W0 : World) (q : Nat) (hq : q < W0.heap.size) (hs : W0.cell? ⟨q, 0, none⟩ = some (.int .u8 255)) (al ah : Nat) (base : Int) (cf af : Bool) (hal : al < 256) (hah : ah < 256) :
    Calls Try.prog 42 #[.pointer (some ⟨W0.heap.size, 0, none⟩), .pointer (some ⟨q, 0, none⟩)] (dg W0 al ah base cf af) fun e w' => e = .returned (.bool true) ∧ ∃ n, w' = (dg W0 (apA true al af : Nat) (apH true al ah af : Nat) base (loB al af) (loB al af)).drewN n := by
  cases hlo : loB al af
  · have e1 : apA true al af = al % 16 := by simp [apA, pkL, hlo]
    have e2 : apH true al ah af = ah := by simp [apH, hlo]
    rw [e1, e2]
    exact ap_sk W0 q hq hs al ah base cf af hal hah hlo
  · have e1 : apA true al af = (al + 250) % 256 % 16 := by simp [apA, pkL, hlo]
    have e2 : apH true al ah af = (ah + 255) % 256 := by simp [apH, hlo]
    rw [e1, e2]
    exact ap_sl W0 q hq hs al ah base cf af hal hah hlo
end Go.Proofs.Ytfjjipkieecpcaa
