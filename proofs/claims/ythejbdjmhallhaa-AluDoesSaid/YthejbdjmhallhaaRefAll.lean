/- The document's Do, whatever the operation. -/
import Derived.Test.YthejbdjmhallhaaRefDoA
import Derived.Test.YthejbdjmhallhaaRefDoB
import Derived.Test.YthejbdjmhallhaaRefDoC
import Derived.Test.YthejbdjmhallhaaRefFlags
namespace Go.Proofs.Ythejbdjmhallhaa
open Go.RowKit Pl

theorem refdo_ok (op : Int) (ho : 0 ≤ op ∧ op ≤ 12) (s : Int) (hs : s = 1 ∨ s = 2 ∨ s = 4) (a b fl : Nat) (ha : a < 4294967296) (hb : b < 4294967296) (hf : fl < 4294967296) (w : World) :
    Calls Try.prog 12 #[.int .i64 op, .int .i64 s, .int .u32 a, .int .u32 b, .int .u32 fl] w fun e w' => e = .returned (.tuple #[.int .u32 ((doR op.toNat (8 * s.toNat) (a % 2 ^ (8 * s.toNat)) (b % 2 ^ (8 * s.toNat)) fl : Nat) : Int), .int .u32 ((doF op.toNat (8 * s.toNat) (a % 2 ^ (8 * s.toNat)) (b % 2 ^ (8 * s.toNat)) fl : Nat) : Int), .int .i64 0]) ∧ w = w' := by
  rcases (by omega : op = 0 ∨ op = 1 ∨ op = 2 ∨ op = 3 ∨ op = 4 ∨ op = 5 ∨ op = 6 ∨ op = 7 ∨ op = 8 ∨ op = 9 ∨ op = 10 ∨ op = 11 ∨ op = 12) with rfl | rfl | rfl | rfl | rfl | rfl | rfl | rfl | rfl | rfl | rfl | rfl | rfl
  · exact refdo0_ok s hs a b fl ha hb hf w
  · exact refdo1_ok s hs a b fl ha hb hf w
  · exact refdo2_ok s hs a b fl ha hb hf w
  · exact refdo3_ok s hs a b fl ha hb hf w
  · exact refdo4_ok s hs a b fl ha hb hf w
  · exact refdo5_ok s hs a b fl ha hb hf w
  · exact refdo6_ok s hs a b fl ha hb hf w
  · exact refdo7_ok s hs a b fl ha hb hf w
  · exact refdo8_ok s hs a b fl ha hb hf w
  · exact refdo9_ok s hs a b fl ha hb hf w
  · exact refdo10_ok s hs a b fl ha hb hf w
  · exact refdo11_ok s hs a b fl ha hb hf w
  · exact refdo12_ok s hs a b fl ha hb hf w
end Go.Proofs.Ythejbdjmhallhaa
