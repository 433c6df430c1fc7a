/-
  Walks of pads.pad and pads.Text, and the reference's pad and Text, over the seat's dump.
-/
import Derived.Test.YthmbgcmhdmekmaaDoorA
import Derived.Test.YthmbgcmhdmekmaaDoorShelf
import Derived.Lib.RuneBytes
import Derived.Deep.RegionHeld3
import Derived.Deep.QuietTactic
import Derived.BigQuiet
namespace Go.Proofs.YthmbgcmhdmekmaaDoor
open Go.RowKit

def letterU (k : Nat) : UInt8 := lettersB.data.toList.getD k 0
def padAt (v : Int) : Nat → List UInt8
  | 0 => []
  | k + 1 => if v / 2 ^ k % 2 = 1 then padAt v k ++ [letterU k] else padAt v k
def padL (v : Int) : List UInt8 := if padAt v 6 = [] then [45] else padAt v 6

theorem padAt_le (v : Int) : ∀ k, (padAt v k).length ≤ k
  | 0 => Nat.le_refl _
  | k + 1 => by
    have := padAt_le v k
    unfold padAt
    split
    · simp; omega
    · omega

theorem letter_cells (k : Nat) (h : k < 6) : Lib.runeCells (letter k) = Lib.byteCells [letterU k] ∧ 0 ≤ letter k ∧ letter k < 256 := by
  match k, h with
  | 0, _ | 1, _ | 2, _ | 3, _ | 4, _ | 5, _ => exact ⟨rfl, by decide, by decide⟩

theorem bit_one (v : Int) (k : Nat) (h0 : 0 ≤ v) (h1 : v < 256) : (bits BinOp.and IntKind.u8 (v / 2 ^ k) 1 == 1) = decide (v / 2 ^ k % 2 = 1) := by
  have h : ∀ x : Fin 256, (bits BinOp.and IntKind.u8 (x.1 : Int) 1 == 1) = decide ((x.1 : Int) % 2 = 1) := by decide +kernel
  have hp : (0 : Int) < 2 ^ k := Int.pow_pos (by omega)
  have h2 : 0 ≤ v / 2 ^ k := Int.ediv_nonneg h0 (by omega)
  have h3 : v / 2 ^ k ≤ v := Int.ediv_le_self _ h0
  have h4 := h ⟨(v / 2 ^ k).toNat, by omega⟩
  rw [show (((⟨(v / 2 ^ k).toNat, by omega⟩ : Fin 256).1 : Nat) : Int) = v / 2 ^ k from Int.toNat_of_nonneg h2] at h4
  exact h4

set_option maxHeartbeats 1000000 in
set_option maxRecDepth 100000 in
theorem pad_any (v : Int) (w : World) (h0 : 0 ≤ v) (h1 : v < 256) :
    Calls Tryd.prog 20 #[.int .u8 v] w fun e w' => e = .returned (.string ⟨(padL v).toArray⟩) ∧ Below w.heap.size w w' := by
  go_enter Tryd.func20, Tryd.ntmps20
  go_wp2
  go_loopw [] (fun wr => ∃ (k : Nat), k ≤ 6 ∧ Lib.IsBuilderF 45 5 w.heap.size w.heap.size (Lib.byteCells (padAt v k)) wr ∧ wr.heap[w.heap.size + 1]? = some (.stringIter lettersB k) ∧ Below w.heap.size w wr) (fun wr => 6 - wr.iterPos (w.heap.size + 1))
  case atStart =>
    refine ⟨0, by omega, (Lib.IsBuilderF.of (Lib.fresh_isBuilder 45 5 w)).alloc _, ?_, ((Below.refl _ w).alloc (Nat.le_refl _) _).alloc (by simp) _⟩
    have := World.iter_heap (w.alloc (.cells #[.pointer none, .slice none 0 0] 45)) lettersB 0
    simp only [World.size_alloc] at this
    exact this
  case round =>
    obtain ⟨k, hk, hI, hit, hbw⟩ := hrel
    have hsz : w.heap.size + 1 < wr.heap.size := (Array.getElem?_eq_some_iff.1 hit).1
    have hle := padAt_le v k
    by_cases hp : k < 6
    · obtain ⟨hl1, hl2⟩ := decode_letters k hp
      obtain ⟨hlc, hlb0, hlb1⟩ := letter_cells k hp
      have hnx : ∀ ty, (Instr.next (.pointer (some ⟨w.heap.size + 1, 0, none⟩)) true ty).run Tryd.prog wr = _ := fun ty => Lib.run_next_any_at wr (w.heap.size + 1) lettersB k ty hit hp
      have hI2 := hI.iterAt hit (k + (Utf8.decode lettersB k).2)
      have hit2 := Lib.iterAt_heap wr (w.heap.size + 1) lettersB k (k + (Utf8.decode lettersB k).2) hit
      have hbw2 := Lib.below_iterAt hbw (k := w.heap.size + 1) (by omega) lettersB (k + (Utf8.decode lettersB k).2)
      have hsz2 : w.heap.size ≤ (wr.iterAt (w.heap.size + 1) lettersB (k + (Utf8.decode lettersB k).2)).heap.size := by rw [Lib.iterAt_size]; omega
      rw [hl1, hl2] at hnx
      rw [hl2] at hit2 hbw2 hI2 hsz2
      clear hl1 hl2
      have HLC := Lib.hid hlc; clear hlc
      have hb1 := bit_one v k h0 h1
      by_cases hbit : v / 2 ^ k % 2 = 1
      · rw [decide_eq_true hbit] at hb1
        have HB := Lib.hid hbit; clear hbit
        go_wp2_with (go_at_call 23; refine (Tryd.Builder_WriteRune_k w.heap.size w.heap.size _ _ (by omega) (by omega) _ hI2 (by rw [Lib.byteCells_length]; omega) hsz2).mono ?_)
        rintro e W1 ⟨rfl, q1, b1, k1⟩
        go_wp2
        go_roundw
        case rel =>
          refine ⟨k + 1, by omega, ?_, k1.iter hit2 (by omega), hbw2.trans b1⟩
          rw [padAt, if_pos HB.out, Lib.byteCells_append, ← HLC.out]
          exact Or.inr q1
        case measure =>
          simp only [World.iterPos, k1.iter hit2 (by omega), hit]
          omega
      · rw [decide_eq_false hbit] at hb1
        have HB := Lib.hid hbit; clear hbit
        go_wp2
        go_roundw
        case rel =>
          refine ⟨k + 1, by omega, ?_, hit2, hbw2⟩
          rw [padAt, if_neg HB.out]
          exact hI2
        case measure =>
          simp only [World.iterPos, hit2, hit]
          omega
    · obtain rfl : k = 6 := by omega
      have hnx : ∀ ty, (Instr.next (.pointer (some ⟨w.heap.size + 1, 0, none⟩)) true ty).run Tryd.prog wr = _ := fun ty => Lib.run_next_end_at wr (w.heap.size + 1) lettersB 6 ty hit hp
      generalize hn : padAt v 6 = n at *
      have hpl : padL v = if n = [] then [45] else n := by unfold padL; rw [hn]
      have HP := Lib.hid hpl; clear hpl hn
      by_cases hz : n = []
      · subst hz
        have hz0 : ((([] : List UInt8).length : Int) == 0) = true := rfl
        go_wp2_with (go_at_call 24; refine (Tryd.Builder_Len_f w.heap.size w.heap.size _ _ hI).mono ?_; rintro e w' ⟨rfl, rfl⟩)
        go_ret
        exact ⟨by rw [HP.out]; rfl, hbw⟩
      · have hz0 : (((Lib.byteCells n).length : Int) == 0) = false := by
          rw [Lib.byteCells_length]
          cases n with
          | nil => exact absurd rfl hz
          | cons a l => simp; omega
        go_wp2_with (first | (go_at_call 24; refine (Tryd.Builder_Len_f w.heap.size w.heap.size _ _ hI).mono ?_; rintro e w' ⟨rfl, rfl⟩) | (go_at_call 25; refine (Tryd.Builder_String_any_k w.heap.size w.heap.size n _ hI (by omega)).mono ?_))
        rintro e W1 ⟨rfl, _, b1, _⟩
        go_wp2
        go_ret
        exact ⟨by rw [HP.out, if_neg hz]; rfl, hbw.trans b1⟩

theorem bcell {B : Nat} {W w1 : World} (hb : Below B W w1) : (∀ b o, b < B → w1.cell? ⟨b, o, none⟩ = W.cell? ⟨b, o, none⟩) ∧ (∀ b o, b < B → w1.frozen? ⟨b, o, none⟩ = W.frozen? ⟨b, o, none⟩) :=
  ⟨fun b o h => hb.cell (p := ⟨b, o, none⟩) h, fun b o h => hb.frozen (p := ⟨b, o, none⟩) h⟩

theorem mk_append (a b : List UInt8) : (⟨a.toArray⟩ : ByteArray) ++ ⟨b.toArray⟩ = ⟨(a ++ b).toArray⟩ := by
  apply ByteArray.ext
  simp
theorem padL_le (v : Int) : (padL v).length ≤ 6 := by
  have := padAt_le v 6
  unfold padL
  split
  · simp
  · exact this
def textL (a b : Int) (c d : Bool) : List UInt8 := padL a ++ [32] ++ padL b ++ (if c then [32, 80] else []) ++ (if d then [32, 82] else [])

set_option maxHeartbeats 1000000 in
set_option maxRecDepth 100000 in
theorem text_any (a b : Int) (c d : Bool) (w : World) (ha0 : 0 ≤ a) (ha1 : a < 256) (hb0 : 0 ≤ b) (hb1 : b < 256) :
    Calls Tryd.prog 11 #[.agg #[.int .u8 a, .int .u8 b, .bool c, .bool d]] w fun e w' => e = .returned (.string ⟨(textL a b c d).toArray⟩) ∧ Below w.heap.size w w' := by
  have hB0 : Below w.heap.size w (w.alloc (Obj.cells #[Value.int IntKind.u8 a, Value.int IntKind.u8 b, Value.bool c, Value.bool d] 24)).drew := ((Below.refl _ w).alloc (Nat.le_refl _) _).drew
  have hla := padL_le a
  have hlb := padL_le b
  have hn1 : ¬ 9223372036854775807 < (padL a).length + 1 := by omega
  have hn2 : ¬ 9223372036854775807 < (padL a).length + 1 + (padL b).length := by omega
  have hn3 : ¬ 9223372036854775807 < (padL a).length + 1 + (padL b).length + 2 := by omega
  have hn4 : ¬ 9223372036854775807 < (padL a).length + 1 + (padL b).length + 2 + 2 := by omega
  go_enter Tryd.func11, Tryd.ntmps11
  go_wp2
  go_region_held3 (fun w' => w'.cell? ⟨w.heap.size, 0, none⟩ = some (.int .u8 a) ∧ w'.cell? ⟨w.heap.size, 1, none⟩ = some (.int .u8 b) ∧ w'.cell? ⟨w.heap.size, 2, none⟩ = some (.bool c) ∧ w'.cell? ⟨w.heap.size, 3, none⟩ = some (.bool d) ∧ w.heap.size < w'.heap.size ∧ Below w.heap.size w w') (((try dsimp only); (repeat' apply And.intro) <;> first | assumption | omega | (go_keep; done)))
    (first | (go_at_call 20; refine (pad_any _ _ (by omega) (by omega)).mono ?_; rintro e w' ⟨rfl, hb⟩; have hc := bcell hb; have hs := hb.size; have hb2 := Below.trans (a := w) (B := w.heap.size) (by assumption) (hb.mono (by omega))))
  all_goals rename_i hHeld
  all_goals obtain ⟨hk0, hk1, hk2, hk3, hk4, hk5⟩ := hHeld
  all_goals clear hc hb
  all_goals cases c <;> cases d
  all_goals go_wp2
  all_goals go_ret
  all_goals refine ⟨congrArg Ending.returned (congrArg Value.string ?_), by assumption⟩
  all_goals simp only [textL, if_true, if_false, Bool.false_eq_true, List.append_nil, ← mk_append]

theorem letter_slice (k : Nat) (h : k < 6) : ({ data := #[85, 68, 76, 82, 49, 50] } : ByteArray).extract k (k + 1) = ⟨[letterU k].toArray⟩ := by
  match k, h with
  | 0, _ | 1, _ | 2, _ | 3, _ | 4, _ | 5, _ => rfl

set_option maxHeartbeats 1000000 in
set_option maxRecDepth 100000 in
theorem rpad_any (v : Int) (w : World) (h0 : 0 ≤ v) :
    Calls Tryd.prog 19 #[.int .u8 v] w fun e w' => e = .returned (.string ⟨(padL v).toArray⟩) ∧ w' = w := by
  go_enter Tryd.func19, Tryd.ntmps19
  go_wp2
  go_loop [3, 4] (fun s i => ∃ k : Nat, k ≤ 6 ∧ i = .int .i64 k ∧ s = .string ⟨(padAt v k).toArray⟩) (fun _ i => 6 - (intOf i).toNat)
  case atStart => exact ⟨0, by omega, rfl, rfl⟩
  case round =>
    obtain ⟨k, hk, rfl, rfl⟩ := hrel
    have hle := padAt_le v k
    have hd0 : 0 ≤ v / 2 ^ k := Int.ediv_nonneg h0 (Int.pow_nonneg (by omega))
    by_cases hp : k < 6
    · have hsl := letter_slice k hp
      have HS := Lib.hid hsl; clear hsl
      by_cases hbit : v / 2 ^ k % 2 = 1
      · have HB := Lib.hid hbit
        have hb1 : (v / 2 ^ k % 2 == 1) = true := by simpa using hbit
        clear hbit
        have hn1 : ¬ 9223372036854775807 < (padAt v k).length + 1 := by omega
        go_wp2
        go_round
        case rel =>
          refine ⟨k + 1, by omega, by go_num, ?_⟩
          rw [padAt, if_pos HB.out, ← mk_append, ← HS.out]
        case measure => simp [intOf]; omega
      · have HB := Lib.hid hbit
        have hb1 : (v / 2 ^ k % 2 == 1) = false := by simpa using hbit
        clear hbit
        go_wp2
        go_round
        case rel =>
          refine ⟨k + 1, by omega, by go_num, ?_⟩
          rw [padAt, if_neg HB.out]
        case measure => simp [intOf]; omega
    · obtain rfl : k = 6 := by omega
      generalize hn : padAt v 6 = n at *
      have hpl : padL v = if n = [] then [45] else n := by unfold padL; rw [hn]
      have HP := Lib.hid hpl; clear hpl hn
      by_cases hz : n = []
      · subst hz
        go_wp2
        go_ret
        exact ⟨by rw [HP.out]; rfl, rfl⟩
      · have hz0 : n.isEmpty = false := by cases n with
          | nil => exact absurd rfl hz
          | cons a l => rfl
        go_wp2
        go_ret
        exact ⟨by rw [HP.out, if_neg hz]; rfl, rfl⟩

set_option maxHeartbeats 1000000 in
set_option maxRecDepth 100000 in
theorem rtext_any (a b : Int) (c d : Bool) (w : World) (ha0 : 0 ≤ a) (ha1 : a < 64) (hb0 : 0 ≤ b) (hb1 : b < 64) :
    Calls Tryd.prog 16 #[.agg #[.int .u8 a, .int .u8 b, .bool c, .bool d]] w fun e w' => e = .returned (.string ⟨(textL a b c d).toArray⟩) ∧ Below w.heap.size w w' := by
  have hla := padL_le a
  have hlb := padL_le b
  have hn1 : ¬ 9223372036854775807 < (padL a).length + 1 := by omega
  have hn2 : ¬ 9223372036854775807 < (padL a).length + 1 + (padL b).length := by omega
  have hn3 : ¬ 9223372036854775807 < (padL a).length + 1 + (padL b).length + 2 := by omega
  have hn4 : ¬ 9223372036854775807 < (padL a).length + 1 + (padL b).length + 2 + 2 := by omega
  have hm1 : a % 64 = a := by omega
  have hm2 : b % 64 = b := by omega
  cases c <;> cases d
  all_goals go_enter Tryd.func16, Tryd.ntmps16
  all_goals go_wp2
  all_goals go_quiet ((go_at_call 19; exact Calls.quiet_of_same (rpad_any _ _ (by omega))))
  all_goals go_wp2
  all_goals go_ret
  all_goals refine ⟨congrArg Ending.returned (congrArg Value.string ?_), below_drewN ((Below.refl _ w).alloc (Nat.le_refl _) _) _⟩
  all_goals simp only [textL, if_true, if_false, Bool.false_eq_true, List.append_nil, ← mk_append]
#print axioms text_any
end Go.Proofs.YthmbgcmhdmekmaaDoor
