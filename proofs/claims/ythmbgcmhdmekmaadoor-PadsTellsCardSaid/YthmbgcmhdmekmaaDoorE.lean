/-
  The walk of the reference's Parse over the seat's dump.
-/
import Derived.Test.YthmbgcmhdmekmaaDoorD
namespace Go.Proofs.YthmbgcmhdmekmaaDoor
open Go.RowKit

/-- No input whose first pad is below i has the text s. -/
def NoOne (s : List UInt8) (i : Nat) : Prop := ∀ a b : Nat, a < i → b < 64 → ∀ c d : Bool, textL a b c d ≠ s
def NoTwo (s : List UInt8) (i j : Nat) : Prop := ∀ b : Nat, b < j → ∀ c d : Bool, textL i b c d ≠ s
def NoK (s : List UInt8) (i j k : Nat) : Prop := ∀ n : Nat, n < k → textL i j (n % 2 == 1) (decide (n > 1)) ≠ s
/-- What the reference's Parse answers. -/
def RefPost (s : List UInt8) (e : Ending) : Prop := ∃ a b : Nat, ∃ c d : Bool, ∃ n : Int, e = .returned (.tuple #[.agg #[.int .u8 a, .int .u8 b, .bool c, .bool d], .int .i64 n]) ∧
  ((a < 64 ∧ b < 64 ∧ n = 0 ∧ textL a b c d = s) ∨ (a = 0 ∧ b = 0 ∧ c = false ∧ d = false ∧ n = 211 ∧ NoOne s 64))

theorem noTwo_of_k {s : List UInt8} {i j : Nat} (h : NoTwo s i j) (hk : NoK s i j 4) : NoTwo s i (j + 1) := by
  intro b hb c d
  by_cases hj : b < j
  · exact h b hj c d
  · obtain rfl : b = j := by omega
    cases c <;> cases d
    · exact hk 0 (by omega)
    · exact hk 2 (by omega)
    · exact hk 1 (by omega)
    · exact hk 3 (by omega)
theorem noOne_of_two {s : List UInt8} {i : Nat} (h : NoOne s i) (hk : NoTwo s i 64) : NoOne s (i + 1) := by
  intro a b ha hb c d
  by_cases hj : a < i
  · exact h a b hj hb c d
  · obtain rfl : a = i := by omega
    exact hk b hb c d
theorem noOne_of_head {s : List UInt8} {i : Nat} (h : NoOne s i) (hk : ¬ (padL i ++ [32]) <+: s) : NoOne s (i + 1) := by
  refine noOne_of_two h fun b hb c d he => hk ?_
  rw [← he]
  simp only [textL, List.append_assoc]
  exact ⟨_, by simp only [List.append_assoc]; rfl⟩

theorem head_of {i : Nat} {s : ByteArray} (h : (padL i ++ [32]) <+: s.toList) : (padL i).length + 1 ≤ s.size ∧ (s.extract 0 ((padL i).length + 1)).toList = ({ data := (padL i).toArray } ++ { data := #[32] } : ByteArray).toList := by
  have e1 : ∀ x : ByteArray, x.toList = x.data.toList := fun x => ByteArray.toList_eq x
  have e2 : (({ data := (padL i).toArray } ++ { data := #[32] } : ByteArray)) = ⟨(padL i ++ [32]).toArray⟩ := mk_append (padL i) [32]
  rw [e1] at h
  have hl := h.length_le
  refine ⟨by simp at hl; exact hl, ?_⟩
  rw [e2, e1, e1, Lib.extract_data]
  have h2 := List.prefix_iff_eq_take.1 h
  simp at h2 ⊢
  rw [← h2]

set_option maxHeartbeats 2000000 in
set_option maxRecDepth 100000 in
theorem rparse_any (s : ByteArray) (w : World) (_hs : s.size ≤ 40) :
    Calls Tryd.prog 9 #[.string s] w fun e w' => RefPost s.toList e ∧ Below w.heap.size w w' := by
  go_enter Tryd.func9, Tryd.ntmps9
  go_wp2_with fail
  go_loopw [4] (fun v wr => ∃ i : Nat, i ≤ 64 ∧ v = .int .i64 i ∧ NoOne s.toList i ∧ wr.heap[w.heap.size]? = some (.cells #[.int .u8 0, .int .u8 0, .bool false, .bool false] 24 (0, 0)) ∧ Below w.heap.size w wr) (fun v _ => 64 - (intOf v).toNat)
  case atStart => exact ⟨0, by omega, rfl, fun a b h => by omega, heap_alloc_new w _, (Below.refl _ w).alloc (Nat.le_refl _) _⟩
  case round =>
    obtain ⟨i, hi, rfl, hno, hres, hbw⟩ := hrel
    have HNO := Lib.hid hno; clear hno
    have HRES := Lib.hid hres; clear hres
    by_cases hlt : i < 64
    · have hle := padL_le i
      have hn1 : ¬ 9223372036854775807 < (padL i).length + 1 := by omega
      by_cases hA : s.size < (padL i).length + 1
      · have hdA : decide ((s.size : Int) < ((padL i).length : Int) + 1) = true := by simp; omega
        go_wp2_with (first | (go_at_call 19; refine (rpad_any _ _ (by omega)).mono ?_; rintro e w' ⟨rfl, rfl⟩))
        go_roundw
        case rel =>
          refine ⟨i + 1, by omega, by go_num, noOne_of_head HNO.out fun hp => ?_, HRES.out, hbw⟩
          have := (head_of hp).1
          omega
        case measure => simp [intOf]; omega
      · have hdA : decide ((s.size : Int) < ((padL i).length : Int) + 1) = false := by simp; omega
        have hle2 : (padL i).length + 1 ≤ s.size := by omega
        cases hB : ((s.extract 0 ((padL i).length + 1)).toList == ({ data := (padL i).toArray } ++ { data := #[32] } : ByteArray).toList)
        · go_wp2_with (first | (go_at_call 19; refine (rpad_any _ _ (by omega)).mono ?_; rintro e w' ⟨rfl, rfl⟩))
          go_roundw
          case rel =>
            refine ⟨i + 1, by omega, by go_num, noOne_of_head HNO.out fun hp => ?_, HRES.out, hbw⟩
            have h2 := head_of hp
            rw [h2.2] at hB
            simp at hB
          case measure => simp [intOf]; omega
        · go_wp2_with (first | (go_at_call 19; refine (rpad_any _ _ (by omega)).mono ?_; rintro e w' ⟨rfl, rfl⟩))
          obtain ⟨wo, rfl⟩ : ∃ wo : World, wo = w' := ⟨_, rfl⟩
          go_loopw [6] (fun v wr => ∃ j : Nat, j ≤ 64 ∧ v = .int .i64 j ∧ NoTwo s.toList i j ∧ wr.heap[w.heap.size]? = some (.cells #[.int .u8 0, .int .u8 0, .bool false, .bool false] 24 (0, 0)) ∧ Below w.heap.size w wr) (fun v _ => 64 - (intOf v).toNat)
          case atStart => exact ⟨0, by omega, rfl, fun a h => by omega, HRES.out, hbw⟩
          case round =>
            clear HRES
            obtain ⟨j, hj, rfl, hno2, hres2, hbw2⟩ := hrel
            have HNO2 := Lib.hid hno2; clear hno2
            have HRES2 := Lib.hid hres2; clear hres2
            by_cases hjlt : j < 64
            · have hdj : decide ((j : Int) < 64) = true := by simp; omega
              go_wp2_with fail
              obtain ⟨wp, rfl⟩ : ∃ wp : World, wp = wr := ⟨_, rfl⟩
              go_loopw [7] (fun v wr => ∃ k : Nat, k ≤ 4 ∧ v = .int .i64 k ∧ NoK s.toList i j k ∧ wr.heap[w.heap.size]? = some (.cells #[.int .u8 0, .int .u8 0, .bool false, .bool false] 24 (0, 0)) ∧ Below w.heap.size w wr) (fun v _ => 4 - (intOf v).toNat)
              case atStart => exact ⟨0, by omega, rfl, fun a h => by omega, HRES2.out, hbw2⟩
              case round =>
                clear HRES2
                obtain ⟨k, hk, rfl, hno3, hres3, hbw3⟩ := hrel
                have HNO3 := Lib.hid hno3; clear hno3
                have HRES3 := Lib.hid hres3; clear hres3
                by_cases hklt : k < 4
                · go_wp2_with fail
                  generalize hc : ((k : Int) % 2 == 1) = c
                  generalize hd : decide (1 < (k : Int)) = d
                  have hc2 : (k % 2 == 1) = c := by rw [← hc]; rw [Bool.eq_iff_iff]; simp; omega
                  have hd2 : decide (k > 1) = d := by rw [← hd]; rw [Bool.eq_iff_iff]; simp; omega
                  have HC := Lib.hid hc2; clear hc hc2
                  have HD := Lib.hid hd2; clear hd hd2
                  refine (rtext_any i j c d _ (by omega) (by omega) (by omega) (by omega)).mono ?_
                  rintro e w1 ⟨rfl, hb1⟩
                  have hnk := new_kept hb1
                  have hb4 : Below w.heap.size w w1 := (hbw3.alloc hbw3.size _).trans (hb1.mono (by have := hbw3.size; simp; omega))
                  have hr4 := next_kept ((Below.heap_alloc wr _ w.heap.size (Array.getElem?_eq_some_iff.1 HRES3.out).1).trans HRES3.out) hb1
                  have c0 := Lib.cell_of_heap hnk 0; have c1 := Lib.cell_of_heap hnk 1; have c2 := Lib.cell_of_heap hnk 2; have c3 := Lib.cell_of_heap hnk 3
                  have r0 := Lib.cell_of_heap hr4 0; have r1 := Lib.cell_of_heap hr4 1; have r2 := Lib.cell_of_heap hr4 2; have r3 := Lib.cell_of_heap hr4 3; have rf := Lib.frozen_of_heap hr4
                  simp only [List.getElem?_toArray, List.getElem?_cons_zero, List.getElem?_cons_succ] at c0 c1 c2 c3 r0 r1 r2 r3
                  have HR4 := Lib.hid hr4
                  cases htx : (textL i j c d == s.toList)
                  · clear hnk hr4
                    go_wp2_with fail
                    go_roundw
                    case rel =>
                      refine ⟨k + 1, by omega, by go_num, ?_, HR4.out, hb4⟩
                      intro n hn
                      by_cases hnk : n < k
                      · exact HNO3.out n hnk
                      · obtain rfl : n = k := by omega
                        rw [HC.out, HD.out]
                        simpa using htx
                    case measure => simp [intOf]; omega
                  · clear hnk hr4
                    go_wp2_with fail
                    obtain ⟨hx, hbx⟩ := stored4' (u0 := .int .u8 i) (u1 := .int .u8 j) (u2 := .bool c) (u3 := .bool d) HR4.out hb4 (Nat.le_refl _)
                    refine bodyPost_ret (v := .tuple #[.agg #[.int .u8 i, .int .u8 j, .bool c, .bool d], .int .i64 0]) (by simp [results, Tryd.results9, go_sem, hx]) rfl ⟨⟨i, j, c, d, 0, rfl, .inl ⟨hlt, hjlt, rfl, by simpa using htx⟩⟩, hbx⟩
                · obtain rfl : k = 4 := by omega
                  go_wp2_with fail
                  go_roundw
                  case rel => exact ⟨j + 1, by omega, by go_num, noTwo_of_k HNO2.out HNO3.out, HRES3.out, hbw3⟩
                  case measure => simp [intOf]; omega
            · obtain rfl : j = 64 := by omega
              go_wp2_with fail
              go_roundw
              case rel => exact ⟨i + 1, by omega, by go_num, noOne_of_two HNO.out HNO2.out, HRES2.out, hbw2⟩
              case measure => simp [intOf]; omega
    · obtain rfl : i = 64 := by omega
      have hr4 := HRES.out
      have r0 := Lib.cell_of_heap hr4 0; have r1 := Lib.cell_of_heap hr4 1; have r2 := Lib.cell_of_heap hr4 2; have r3 := Lib.cell_of_heap hr4 3; have rf := Lib.frozen_of_heap hr4
      simp only [List.getElem?_toArray, List.getElem?_cons_zero, List.getElem?_cons_succ] at r0 r1 r2 r3
      clear hr4
      go_wp2_with fail
      obtain ⟨hx, hbx⟩ := stored4' (u0 := .int .u8 0) (u1 := .int .u8 0) (u2 := .bool false) (u3 := .bool false) HRES.out hbw (Nat.le_refl _)
      exact bodyPost_ret (v := .tuple #[.agg #[.int .u8 0, .int .u8 0, .bool false, .bool false], .int .i64 211]) (by simp [results, Tryd.results9, go_sem, hx]) rfl ⟨⟨0, 0, false, false, 211, rfl, .inr ⟨rfl, rfl, rfl, rfl, rfl, HNO.out⟩⟩, hbx⟩
#print axioms rparse_any
end Go.Proofs.YthmbgcmhdmekmaaDoor
