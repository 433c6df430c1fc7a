/-
  Walks of pads.hasRune, pads.number over the seat's dump.
-/
import Derived.Test.YthmbgcmhdmekmaaDoorRows
import Derived.WalkKit
import Derived.WalkSpells
import Derived.WalkLawsBesides
import Derived.Lib.OthersKept
import Derived.BigCall
import Derived.Lib.Hide
namespace Go.Proofs.YthmbgcmhdmekmaaDoor
open Go.RowKit

theorem width_pos (s : ByteArray) (pos : Nat) (h : pos < s.size) : 1 ≤ (Utf8.decode s pos).2 := by
  by_cases ha : (s[pos]'h).toNat < 128
  · rw [decode_ascii s pos h ha]
    exact Nat.le_refl _
  · exact (decode_high s pos h (by omega)).2

/-- Does rune r stand in s, from place pos on, among at most 'fuel' runes? -/
def hasFrom (s : ByteArray) (r : Int) : Nat → Nat → Bool
  | 0, _ => false
  | fuel + 1, pos => if pos < s.size then (if ((Utf8.decode s pos).1 : Int) = r then true else hasFrom s r fuel (pos + (Utf8.decode s pos).2)) else false

theorem hasFrom_end (s : ByteArray) (r : Int) (fuel pos : Nat) (h : ¬ pos < s.size) : hasFrom s r fuel pos = false := by
  cases fuel with
  | zero => rfl
  | succ f => simp [hasFrom, h]

set_option maxHeartbeats 400000 in
theorem hasRune_any (s : ByteArray) (r : Int) (w : World) (_hs : s.size ≤ maxLen) :
    Calls Tryd.prog 22 #[.string s, .int .i32 r] w fun e w' => e = .returned (.bool (hasFrom s r s.size 0)) ∧ Below w.heap.size w w' := by
  go_enter Tryd.func22, Tryd.ntmps22
  go_wp2
  go_loopw [] (fun wr => ∃ (pos fuel : Nat), wr.heap[w.heap.size]? = some (.stringIter s pos) ∧ Below w.heap.size w wr ∧ hasFrom s r fuel pos = hasFrom s r s.size 0 ∧ s.size ≤ pos + fuel) (fun wr => s.size - wr.iterPos w.heap.size)
  case atStart =>
    refine ⟨0, s.size, ?_, (Below.refl _ w).alloc (Nat.le_refl _) _, rfl, by omega⟩
    have := World.iter_heap w s 0
    simpa using this
  case round =>
    obtain ⟨pos, fuel, hit, hbw, hacc, hfu⟩ := hrel
    have hsz : w.heap.size < wr.heap.size := (Array.getElem?_eq_some_iff.1 hit).1
    by_cases hp : pos < s.size
    · have hnx : ∀ ty, (Instr.next (.pointer (some ⟨w.heap.size, 0, none⟩)) true ty).run Tryd.prog wr = _ := fun ty => Lib.run_next_any_at wr w.heap.size s pos ty hit hp
      have hwd := width_pos s pos hp
      have hit2 := Lib.iterAt_heap wr w.heap.size s pos (pos + (Utf8.decode s pos).2) hit
      have hbw2 := Lib.below_iterAt hbw (k := w.heap.size) (by omega) s (pos + (Utf8.decode s pos).2)
      obtain ⟨f, rfl⟩ : ∃ f, fuel = f + 1 := ⟨fuel - 1, by omega⟩
      have H := Lib.hid hacc; clear hacc
      by_cases h32 : ((Utf8.decode s pos).1 : Int) = r
      · have hb : (((Utf8.decode s pos).1 : Int) == r) = true := by simpa using h32
        go_wp2
        go_ret
        refine ⟨?_, hbw2⟩
        rw [← H.out]; simp [hasFrom, hp, h32]
      · have hb : (((Utf8.decode s pos).1 : Int) == r) = false := by simpa using h32
        go_wp2
        go_roundw
        case rel =>
          refine ⟨pos + (Utf8.decode s pos).2, f, hit2, hbw2, ?_, by omega⟩
          rw [← H.out]; simp [hasFrom, hp, h32]
        case measure =>
          simp only [World.iterPos, hit2, hit]
          omega
    · have hnx : ∀ ty, (Instr.next (.pointer (some ⟨w.heap.size, 0, none⟩)) true ty).run Tryd.prog wr = _ := fun ty => Lib.run_next_end_at wr w.heap.size s pos ty hit hp
      rw [hasFrom_end s r fuel pos hp] at hacc
      have H := Lib.hid hacc; clear hacc
      go_wp2
      go_ret
      exact ⟨by rw [← H.out]; rfl, hbw⟩

def lettersB : ByteArray := { data := #[85, 68, 76, 82, 49, 50] }
def letter (k : Nat) : Int := ((lettersB.data.toList.getD k 0).toNat : Int)
theorem decode_letters (k : Nat) (h : k < 6) : ((Utf8.decode lettersB k).1 : Int) = letter k ∧ (Utf8.decode lettersB k).2 = 1 := by
  have h6 : ∀ k : Fin 6, ((Utf8.decode lettersB k.1).1 : Int) = letter k.1 ∧ (Utf8.decode lettersB k.1).2 = 1 := by decide +kernel
  exact h6 ⟨k, h⟩
def numAt (s : ByteArray) : Nat → Int
  | 0 => 0
  | k + 1 => if hasFrom s (letter k) s.size 0 = true then bits BinOp.or IntKind.u8 (numAt s k) (2 ^ k % 256) else numAt s k
set_option maxHeartbeats 400000 in
theorem number_any (s : ByteArray) (w : World) (hs : s.size ≤ maxLen) :
    Calls Tryd.prog 18 #[.string s] w fun e w' => e = .returned (.int .u8 (numAt s 6)) ∧ Below w.heap.size w w' := by
  go_enter Tryd.func18, Tryd.ntmps18
  go_wp2
  go_loopw [3] (fun v wr => ∃ (k : Nat), k ≤ 6 ∧ v = .int .u8 (numAt s k) ∧ wr.heap[w.heap.size]? = some (.stringIter lettersB k) ∧ Below w.heap.size w wr) (fun _ wr => 6 - wr.iterPos w.heap.size)
  case atStart =>
    refine ⟨0, by omega, rfl, ?_, (Below.refl _ w).alloc (Nat.le_refl _) _⟩
    have := World.iter_heap w lettersB 0
    exact this
  case round =>
    obtain ⟨k, hk, rfl, hit, hbw⟩ := hrel
    have hsz : w.heap.size < wr.heap.size := (Array.getElem?_eq_some_iff.1 hit).1
    by_cases hp : k < 6
    · obtain ⟨hl1, hl2⟩ := decode_letters k hp
      have hnx : ∀ ty, (Instr.next (.pointer (some ⟨w.heap.size, 0, none⟩)) true ty).run Tryd.prog wr = _ := fun ty => Lib.run_next_any_at wr w.heap.size lettersB k ty hit hp
      have hit2 := Lib.iterAt_heap wr w.heap.size lettersB k (k + (Utf8.decode lettersB k).2) hit
      have hbw2 := Lib.below_iterAt hbw (k := w.heap.size) (by omega) lettersB (k + (Utf8.decode lettersB k).2)
      rw [hl1, hl2] at hnx
      rw [hl2] at hit2 hbw2
      clear hl1 hl2
      generalize hn : numAt s k = n
      have HN := Lib.hid hn; clear hn
      have hsz2 : w.heap.size < (wr.iterAt w.heap.size lettersB (k + 1)).heap.size := by rw [Lib.iterAt_size]; exact hsz
      go_wp2_with (go_at_call 22; refine (hasRune_any s _ _ hs).mono ?_; rintro e w1 ⟨rfl, hb1⟩)
      all_goals
        have hit3 : w1.heap[w.heap.size]? = some (.stringIter lettersB (k + 1)) := (hb1.block _ hsz2).trans hit2
        go_roundw
        case rel =>
          refine ⟨k + 1, by omega, ?_, hit3, hbw2.trans (hb1.mono (by omega))⟩
          simp only [numAt, HN.out]
          first | rw [if_pos ‹_›] | rw [if_neg (by rw [‹hasFrom _ _ _ _ = false›]; exact Bool.false_ne_true)]
        case measure =>
          simp only [World.iterPos, hit3, hit]
          omega
    · obtain rfl : k = 6 := by omega
      have hnx : ∀ ty, (Instr.next (.pointer (some ⟨w.heap.size, 0, none⟩)) true ty).run Tryd.prog wr = _ := fun ty => Lib.run_next_end_at wr w.heap.size lettersB 6 ty hit hp
      go_wp2
      go_ret
      exact ⟨rfl, hbw⟩
#print axioms hasRune_any
#print axioms number_any
end Go.Proofs.YthmbgcmhdmekmaaDoor
