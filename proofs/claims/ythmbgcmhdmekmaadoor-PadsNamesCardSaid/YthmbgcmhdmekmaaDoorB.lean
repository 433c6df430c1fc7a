/-
  Walks of pads.Right, Port, Pressed and the reference's over the seat's dump.
-/
import Derived.Test.YthmbgcmhdmekmaaDoorRows
import Derived.WalkKit
import Derived.WalkSpells
import Derived.WalkLawsBesides
import Derived.Lib.Hide
import Derived.BigCall
namespace Go.Proofs.YthmbgcmhdmekmaaDoor
open Go.RowKit

def portF (a b : Int) (d odd : Bool) : Int := if odd then (if d then 255 - (b / 4 % 16 + 16) else 255 - b / 4 % 16) else 255 - (a % 64 + 64 * (b % 4))
theorem even_bits (a b : Int) : bits BinOp.xor IntKind.u8 IntKind.u8.max (bits BinOp.or IntKind.u8 (a % 64) (b * 64 % 256)) = 255 - (a % 64 + 64 * (b % 4)) := by
  have h : ∀ (x : Fin 64) (y : Fin 4), bits BinOp.xor IntKind.u8 IntKind.u8.max (bits BinOp.or IntKind.u8 (x.1 : Int) (64 * (y.1 : Int))) = 255 - ((x.1 : Int) + 64 * (y.1 : Int)) := by decide +kernel
  have h1 := h ⟨(a % 64).toNat, by omega⟩ ⟨(b % 4).toNat, by omega⟩
  rw [show (((⟨(a % 64).toNat, by omega⟩ : Fin 64).1 : Nat) : Int) = a % 64 from Int.toNat_of_nonneg (by omega), show (((⟨(b % 4).toNat, by omega⟩ : Fin 4).1 : Nat) : Int) = b % 4 from Int.toNat_of_nonneg (by omega)] at h1
  rw [show b * 64 % 256 = 64 * (b % 4) from by omega]
  exact h1
theorem odd_bits (b : Int) : bits BinOp.or IntKind.u8 (bits BinOp.xor IntKind.u8 IntKind.u8.max (b / 4 % 16)) 224 = 255 - b / 4 % 16 ∧
    bits BinOp.or IntKind.u8 (bits BinOp.xor IntKind.u8 IntKind.u8.max (bits BinOp.or IntKind.u8 (b / 4 % 16) 16)) 224 = 255 - (b / 4 % 16 + 16) := by
  have h : ∀ (x : Fin 16), bits BinOp.or IntKind.u8 (bits BinOp.xor IntKind.u8 IntKind.u8.max (x.1 : Int)) 224 = 255 - (x.1 : Int) ∧ bits BinOp.or IntKind.u8 (bits BinOp.xor IntKind.u8 IntKind.u8.max (bits BinOp.or IntKind.u8 (x.1 : Int) 16)) 224 = 255 - ((x.1 : Int) + 16) := by decide +kernel
  have h1 := h ⟨(b / 4 % 16).toNat, by omega⟩
  rw [show (((⟨(b / 4 % 16).toNat, by omega⟩ : Fin 16).1 : Nat) : Int) = b / 4 % 16 from Int.toNat_of_nonneg (by omega)] at h1
  exact h1

set_option maxHeartbeats 400000 in
theorem right_any (a b : Int) (c d : Bool) (w : World) :
    Calls Tryd.prog 10 #[.agg #[.int .u8 a, .int .u8 b, .bool c, .bool d]] w fun e w' => e = .returned (.bool (decide (a ≤ 63) && decide (b ≤ 63))) ∧ Below w.heap.size w w' := by
  go_enter Tryd.func10, Tryd.ntmps10
  go_wp2
  · go_ret
    exact ⟨by simp [*], (Below.refl _ w).alloc (Nat.le_refl _) _⟩
  · go_ret
    exact ⟨by simp [show ¬ a ≤ 63 by omega], (Below.refl _ w).alloc (Nat.le_refl _) _⟩
set_option maxHeartbeats 400000 in
theorem rright_any (a b : Int) (c d : Bool) (w : World) :
    Calls Tryd.prog 15 #[.agg #[.int .u8 a, .int .u8 b, .bool c, .bool d]] w fun e w' => e = .returned (.bool (decide (a ≤ 63) && decide (b ≤ 63))) ∧ Below w.heap.size w w' := by
  go_enter Tryd.func15, Tryd.ntmps15
  go_wp2
  · go_ret
    exact ⟨by simp [show a ≤ 63 by omega, show (b < 64) = (b ≤ 63) from propext (by omega)], (Below.refl _ w).alloc (Nat.le_refl _) _⟩
  · go_ret
    exact ⟨by simp [show ¬ a ≤ 63 by omega], (Below.refl _ w).alloc (Nat.le_refl _) _⟩
set_option maxHeartbeats 400000 in
theorem port_any (a b : Int) (c d : Bool) (odd : Bool) (w : World) (_ha0 : 0 ≤ a) (_ha1 : a < 256) (_hb0 : 0 ≤ b) (_hb1 : b < 256) :
    Calls Tryd.prog 12 #[.agg #[.int .u8 a, .int .u8 b, .bool c, .bool d], .bool odd] w fun e w' => e = .returned (.int .u8 (portF a b d odd)) ∧ Below w.heap.size w w' := by
  cases odd <;> cases d
  all_goals go_enter Tryd.func12, Tryd.ntmps12
  all_goals go_wp2
  all_goals go_ret
  all_goals refine ⟨congrArg Ending.returned (congrArg (Value.int IntKind.u8) ?_), (((Below.refl _ w).alloc (Nat.le_refl _) _)) ⟩
  · exact even_bits a b
  · exact even_bits a b
  · exact (odd_bits b).1
  · exact (odd_bits b).2
set_option maxHeartbeats 400000 in
theorem rport_any (a b : Int) (c d : Bool) (odd : Bool) (w : World) (_ha0 : 0 ≤ a) (_ha1 : a < 256) (_hb0 : 0 ≤ b) (_hb1 : b < 256) :
    Calls Tryd.prog 14 #[.agg #[.int .u8 a, .int .u8 b, .bool c, .bool d], .bool odd] w fun e w' => e = .returned (.int .u8 (portF a b d odd)) ∧ Below w.heap.size w w' := by
  cases odd <;> cases d
  all_goals go_enter Tryd.func14, Tryd.ntmps14
  all_goals go_wp2
  all_goals go_ret
  all_goals exact ⟨rfl, (((Below.refl _ w).alloc (Nat.le_refl _) _))⟩
set_option maxHeartbeats 400000 in
theorem pressed_any (a b : Int) (c d : Bool) (a' b' : Int) (c' d' : Bool) (w : World) :
    Calls Tryd.prog 13 #[.agg #[.int .u8 a, .int .u8 b, .bool c, .bool d], .agg #[.int .u8 a', .int .u8 b', .bool c', .bool d']] w fun e w' => e = .returned (.bool (c' && !c)) ∧ Below w.heap.size w w' := by
  cases c <;> cases c'
  all_goals go_enter Tryd.func13, Tryd.ntmps13
  all_goals go_wp2
  all_goals go_ret
  all_goals exact ⟨rfl, (((Below.refl _ w).alloc (Nat.le_refl _) _).alloc (by simp) _)⟩
end Go.Proofs.YthmbgcmhdmekmaaDoor
