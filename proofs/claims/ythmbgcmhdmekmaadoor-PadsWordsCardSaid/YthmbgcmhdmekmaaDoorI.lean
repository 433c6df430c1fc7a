/-
  The walk of the law PadsWords.
-/
import Derived.Test.YthmbgcmhdmekmaaDoorH
namespace Go.Proofs.YthmbgcmhdmekmaaDoor
open Go.RowKit

/-- Four known blocks of four cells each. -/
theorem keep4 {W w' : World} {g k g5 g6 : Nat} {a0 a1 a2 a3 b0 b1 b2 b3 e0 e1 e2 e3 f0 f1 f2 f3 : Value} {T : TypeId} (h0 : W.heap[g]? = some (.cells #[a0, a1, a2, a3] T (0, 0))) (h1 : W.heap[k]? = some (.cells #[b0, b1, b2, b3] T (0, 0)))
    (h5 : W.heap[g5]? = some (.cells #[e0, e1, e2, e3] T (0, 0))) (h6 : W.heap[g6]? = some (.cells #[f0, f1, f2, f3] T (0, 0))) (hb : Below W.heap.size W w') :
    w'.cell? ⟨g, 0, none⟩ = some a0 ∧ w'.cell? ⟨g, 1, none⟩ = some a1 ∧ w'.cell? ⟨g, 2, none⟩ = some a2 ∧ w'.cell? ⟨g, 3, none⟩ = some a3 ∧
    w'.cell? ⟨k, 0, none⟩ = some b0 ∧ w'.cell? ⟨k, 1, none⟩ = some b1 ∧ w'.cell? ⟨k, 2, none⟩ = some b2 ∧ w'.cell? ⟨k, 3, none⟩ = some b3 ∧
    w'.cell? ⟨g5, 0, none⟩ = some e0 ∧ w'.cell? ⟨g5, 1, none⟩ = some e1 ∧ w'.cell? ⟨g5, 2, none⟩ = some e2 ∧ w'.cell? ⟨g5, 3, none⟩ = some e3 ∧
    w'.cell? ⟨g6, 0, none⟩ = some f0 ∧ w'.cell? ⟨g6, 1, none⟩ = some f1 ∧ w'.cell? ⟨g6, 2, none⟩ = some f2 ∧ w'.cell? ⟨g6, 3, none⟩ = some f3 ∧ Below W.heap.size W w' := by
  have k0 := keep_block h0 hb
  have k1 := keep_block h1 hb
  have k5 := keep_block h5 hb
  have k6 := keep_block h6 hb
  exact ⟨Lib.cell_of_heap k0 0, Lib.cell_of_heap k0 1, Lib.cell_of_heap k0 2, Lib.cell_of_heap k0 3, Lib.cell_of_heap k1 0, Lib.cell_of_heap k1 1, Lib.cell_of_heap k1 2, Lib.cell_of_heap k1 3,
    Lib.cell_of_heap k5 0, Lib.cell_of_heap k5 1, Lib.cell_of_heap k5 2, Lib.cell_of_heap k5 3, Lib.cell_of_heap k6 0, Lib.cell_of_heap k6 1, Lib.cell_of_heap k6 2, Lib.cell_of_heap k6 3, hb⟩

theorem eql24 (x1 y1 x2 y2 : Int) (c1 d1 c2 d2 : Bool) (w : World) :
    (binOp .eql 24 (.agg #[.int .u8 x1, .int .u8 y1, .bool c1, .bool d1]) (.agg #[.int .u8 x2, .int .u8 y2, .bool c2, .bool d2])).run Tryd.prog w = .ok (.bool (x1 == x2 && (y1 == y2 && (c1 == c2 && d1 == d2)))) w := by
  cases h1 : (x1 == x2) <;> cases h2 : (y1 == y2) <;> cases h3 : (c1 == c2) <;> cases h4 : (d1 == d2) <;> go_simp

theorem text_eq (x1 y1 x2 y2 : Nat) (c1 d1 c2 d2 : Bool) (hx1 : x1 < 64) (hy1 : y1 < 64) (hx2 : x2 < 64) (hy2 : y2 < 64) :
    (textL x1 y1 c1 d1 == textL x2 y2 c2 d2) = ((x1 : Int) == x2 && ((y1 : Int) == y2 && (c1 == c2 && d1 == d2))) := by
  rw [Bool.eq_iff_iff]
  simp only [beq_iff_eq, Bool.and_eq_true]
  constructor
  · intro h
    have h1 := parse_text x1 y1 c1 d1 hx1 hy1
    rw [h, parse_text x2 y2 c2 d2 hx2 hy2] at h1
    simp only [Prod.mk.injEq] at h1
    exact ⟨h1.1.symm, h1.2.1.symm, h1.2.2.1.symm, h1.2.2.2.1.symm⟩
  · rintro ⟨h1, h2, rfl, rfl⟩
    rw [h1, h2]

theorem port_eq (x1 y1 x2 y2 : Nat) (d1 d2 : Bool) (hx1 : x1 < 64) (hx2 : x2 < 64) :
    (portF x1 y1 d1 false == portF x2 y2 d2 false) = ((x1 : Int) == x2 && ((y1 : Int).tmod 4 == (y2 : Int).tmod 4)) := by
  rw [Int.tmod_eq_emod_of_nonneg (by omega), Int.tmod_eq_emod_of_nonneg (by omega), Bool.eq_iff_iff]
  simp only [beq_iff_eq, Bool.and_eq_true, portF, Bool.false_eq_true, if_false]
  omega

set_option maxHeartbeats 4000000 in
set_option maxRecDepth 100000 in
theorem words_any (x1 y1 x2 y2 : Nat) (c1 d1 c2 d2 : Bool) (m : Int) (w : World) (hm : w.cell? ⟨0, 0, none⟩ = some (.int .i64 m)) (hx1 : x1 < 256) (hy1 : y1 < 256) (hx2 : x2 < 256) (hy2 : y2 < 256) :
    Calls Tryd.prog 4 #[.agg #[.int .u8 x1, .int .u8 y1, .bool c1, .bool d1], .agg #[.int .u8 x2, .int .u8 y2, .bool c2, .bool d2]] w fun e w' => e = .returned (.bool true) ∧ Below w.heap.size w w' := by
  have HM := Lib.hid hm; clear hm
  go_enter Tryd.func4, Tryd.ntmps4
  go_wp2_with fail
  refine (alive_any _).mono ?_
  rintro e w1 ⟨rfl, hb1⟩
  have hbw : Below w.heap.size w w1 := (((Below.refl _ w).alloc (Nat.le_refl _) _).alloc (by simp) _).trans (hb1.mono (by simp; omega))
  have hg : w1.heap[w.heap.size]? = some (.cells #[.int .u8 x1, .int .u8 y1, .bool c1, .bool d1] 24 (0, 0)) :=
    (hb1.block _ (by simp; omega)).trans ((Below.heap_alloc _ _ _ (by simp)).trans (heap_alloc_new w _))
  have hk : w1.heap[w.heap.size + 1]? = some (.cells #[.int .u8 x2, .int .u8 y2, .bool c2, .bool d2] 24 (0, 0)) := by
    have := next_kept (heap_alloc_new (w.alloc (.cells #[.int .u8 x1, .int .u8 y1, .bool c1, .bool d1] 24)) (.cells #[.int .u8 x2, .int .u8 y2, .bool c2, .bool d2] 24)) hb1
    simpa using this
  have HG := Lib.hid hg; clear hg
  have HK := Lib.hid hk; clear hk
  obtain ⟨a0, a1, a2, a3, b0, b1, b2, b3, hB0⟩ := keep2 HG.out HK.out (Below.refl _ w1)
  by_cases hr : x1 ≤ 63 ∧ y1 ≤ 63
  · have hr1 : (decide ((x1 : Int) ≤ 63) && decide ((y1 : Int) ≤ 63)) = true := by simp; omega
    go_wp2_with fail
    refine (right_any _ _ _ _ _).mono ?_
    rintro e w2 ⟨rfl, hb⟩
    rw [hr1]
    have hB1 := below_call hB0 hb
    clear a0 a1 a2 a3 b0 b1 b2 b3 hB0
    obtain ⟨a0, a1, a2, a3, b0, b1, b2, b3, _⟩ := keep2 HG.out HK.out hB1
    by_cases hs : x2 ≤ 63 ∧ y2 ≤ 63
    · have hr2 : (decide ((x2 : Int) ≤ 63) && decide ((y2 : Int) ≤ 63)) = true := by simp; omega
      go_wp2_with fail
      refine (right_any _ _ _ _ _).mono ?_
      rintro e w3 ⟨rfl, hb⟩
      rw [hr2]
      have hB2 := below_call hB1 hb
      clear a0 a1 a2 a3 b0 b1 b2 b3
      obtain ⟨a0, a1, a2, a3, b0, b1, b2, b3, _⟩ := keep2 HG.out HK.out hB2
      go_wp2_with fail
      refine (text_any x1 y2 c1 d2 _ (by omega) (by omega) (by omega) (by omega)).mono ?_
      rintro e w4 ⟨rfl, hb⟩
      have hn4 := new_kept hb
      have HN4 := Lib.hid hn4; clear hn4
      have hB3 := below_call (below_new hB2 _) hb
      go_wp2_with fail
      refine (parse_any _ m _ (text_size _ _ _ _) (((hbw.trans (hB3.mono hbw.size)).cell (p := ⟨0, 0, none⟩) (World.block_lt_of_cell? w _ HM.out)).trans HM.out)).mono ?_
      rintro e W5 ⟨⟨a, b, p, q, n, hp, rfl⟩, hb5⟩
      rw [parse_text x1 y2 c1 d2 (by omega) (by omega)] at hp
      simp only [Prod.mk.injEq] at hp
      obtain ⟨rfl, rfl, rfl, rfl, rfl⟩ := hp
      have hB4 := below_call hB3 hb5
      have hm5 := next_kept HN4.out hb5
      obtain ⟨W, hW⟩ : ∃ W, W = W5.alloc (.cells #[.int .u8 x1, .int .u8 y2, .bool c1, .bool d2] 24) := ⟨_, rfl⟩
      have hBW : Below w1.heap.size w1 W := by rw [hW]; exact below_new hB4 _
      have h5 : W.heap[w3.heap.size]? = some (.cells #[.int .u8 x1, .int .u8 y2, .bool c1, .bool d2] 24 (0, 0)) := by rw [hW]; exact (Below.heap_alloc _ _ _ (Array.getElem?_eq_some_iff.1 hm5).1).trans hm5
      have h6 : W.heap[W5.heap.size]? = some (.cells #[.int .u8 x1, .int .u8 y2, .bool c1, .bool d2] 24 (0, 0)) := by rw [hW]; exact heap_alloc_new W5 _
      have HG5 := Lib.hid (keep_block HG.out hBW)
      have HK5 := Lib.hid (keep_block HK.out hBW)
      have H5 := Lib.hid h5; clear h5 hm5
      have H6 := Lib.hid h6; clear h6
      have HW := Lib.hid hW; clear hW
      have hbW : Below w.heap.size w W := hbw.trans (hBW.mono hbw.size)
      clear a0 a1 a2 a3 b0 b1 b2 b3
      go_upto_region 7 with fail
      rw [← HW.out]
      have heq := eql24 x1 y1 x2 y2 c1 d1 c2 d2
      have heq2 : ∀ w, (binOp .eql 24 (.agg #[.int .u8 x1, .int .u8 y2, .bool c1, .bool d2]) (.agg #[.int .u8 x1, .int .u8 y2, .bool c1, .bool d2])).run Tryd.prog w = .ok (.bool true) w := fun w => by rw [eql24]; simp
      have htx := text_eq x1 y1 x2 y2 c1 d1 c2 d2 (by omega) (by omega) (by omega) (by omega)
      have hpe := port_eq x1 y1 x2 y2 d1 d2 (by omega) (by omega)
      have hB0 := (Below.refl W.heap.size W).drew
      go_cut [4] (fun v wx => v = .bool true ∧ Below W.heap.size W wx)
      case first =>
        cases hg : ((x1 : Int) == x2)
        rotate_left
        · cases hh : ((y1 : Int).tmod 4 == (y2 : Int).tmod 4) <;> cases he : ((x1 : Int) == x2 && ((y1 : Int) == y2 && (c1 == c2 && d1 == d2)))
          all_goals
            rw [he] at heq htx
            rw [hh, hg] at hpe
            simp only [Bool.and_true, Bool.and_false] at hpe
            go_region_held3 (fun w' => w'.cell? ⟨w.heap.size, 0, none⟩ = some (.int .u8 x1) ∧ w'.cell? ⟨w.heap.size, 1, none⟩ = some (.int .u8 y1) ∧ w'.cell? ⟨w.heap.size, 2, none⟩ = some (.bool c1) ∧ w'.cell? ⟨w.heap.size, 3, none⟩ = some (.bool d1) ∧ w'.cell? ⟨w.heap.size + 1, 0, none⟩ = some (.int .u8 x2) ∧ w'.cell? ⟨w.heap.size + 1, 1, none⟩ = some (.int .u8 y2) ∧ w'.cell? ⟨w.heap.size + 1, 2, none⟩ = some (.bool c2) ∧ w'.cell? ⟨w.heap.size + 1, 3, none⟩ = some (.bool d2) ∧ w'.cell? ⟨w3.heap.size, 0, none⟩ = some (.int .u8 x1) ∧ w'.cell? ⟨w3.heap.size, 1, none⟩ = some (.int .u8 y2) ∧ w'.cell? ⟨w3.heap.size, 2, none⟩ = some (.bool c1) ∧ w'.cell? ⟨w3.heap.size, 3, none⟩ = some (.bool d2) ∧ w'.cell? ⟨W5.heap.size, 0, none⟩ = some (.int .u8 x1) ∧ w'.cell? ⟨W5.heap.size, 1, none⟩ = some (.int .u8 y2) ∧ w'.cell? ⟨W5.heap.size, 2, none⟩ = some (.bool c1) ∧ w'.cell? ⟨W5.heap.size, 3, none⟩ = some (.bool d2) ∧ Below W.heap.size W w') ((refine keep4 HG5.out HK5.out H5.out H6.out ?_; repeat' (first | with_reducible assumption | with_reducible exact Below.refl _ _ | with_reducible exact Nat.le_refl _ | with_reducible refine Below.drew ?_ | with_reducible refine below_new ?_ _ | with_reducible refine Below.setCell ?_ ?_ _ | with_reducible exact Below.size (by with_reducible assumption))))
              (first
                | (go_at_call 11; refine (text_any _ _ _ _ _ (by omega) (by omega) (by omega) (by omega)).mono ?_; rintro e w' ⟨rfl, hb⟩; have hb2 := below_call (W := W) (by repeat' (first | with_reducible assumption | with_reducible exact Below.refl _ _ | with_reducible exact Nat.le_refl _ | with_reducible refine Below.drew ?_ | with_reducible refine below_new ?_ _ | with_reducible refine Below.setCell ?_ ?_ _ | with_reducible exact Below.size (by with_reducible assumption))) hb)
                | (go_at_call 12; refine (port_any _ _ _ _ _ _ (by omega) (by omega) (by omega) (by omega)).mono ?_; rintro e w' ⟨rfl, hb⟩; have hb2 := below_call (W := W) (by repeat' (first | with_reducible assumption | with_reducible exact Below.refl _ _ | with_reducible exact Nat.le_refl _ | with_reducible refine Below.drew ?_ | with_reducible refine below_new ?_ _ | with_reducible refine Below.setCell ?_ ?_ _ | with_reducible exact Below.size (by with_reducible assumption))) hb))
            all_goals (go_wp2_with fail; go_meet)
            all_goals exact ⟨rfl, by with_reducible assumption⟩
        · cases he : ((x1 : Int) == x2 && ((y1 : Int) == y2 && (c1 == c2 && d1 == d2)))
          all_goals
            rw [he] at heq htx
            rw [hg] at hpe
            simp only [Bool.false_and] at hpe
            refine wp_region_noPanic ?_
            refine wp_region_held_drew (S := fun w' => w'.cell? ⟨w.heap.size, 0, none⟩ = some (.int .u8 x1) ∧ w'.cell? ⟨w.heap.size, 1, none⟩ = some (.int .u8 y1) ∧ w'.cell? ⟨w.heap.size, 2, none⟩ = some (.bool c1) ∧ w'.cell? ⟨w.heap.size, 3, none⟩ = some (.bool d1) ∧ w'.cell? ⟨w.heap.size + 1, 0, none⟩ = some (.int .u8 x2) ∧ w'.cell? ⟨w.heap.size + 1, 1, none⟩ = some (.int .u8 y2) ∧ w'.cell? ⟨w.heap.size + 1, 2, none⟩ = some (.bool c2) ∧ w'.cell? ⟨w.heap.size + 1, 3, none⟩ = some (.bool d2) ∧ w'.cell? ⟨w3.heap.size, 0, none⟩ = some (.int .u8 x1) ∧ w'.cell? ⟨w3.heap.size, 1, none⟩ = some (.int .u8 y2) ∧ w'.cell? ⟨w3.heap.size, 2, none⟩ = some (.bool c1) ∧ w'.cell? ⟨w3.heap.size, 3, none⟩ = some (.bool d2) ∧ w'.cell? ⟨W5.heap.size, 0, none⟩ = some (.int .u8 x1) ∧ w'.cell? ⟨W5.heap.size, 1, none⟩ = some (.int .u8 y2) ∧ w'.cell? ⟨W5.heap.size, 2, none⟩ = some (.bool c1) ∧ w'.cell? ⟨W5.heap.size, 3, none⟩ = some (.bool d2) ∧ Below W.heap.size W w') (by kernel_rfl) ?_ (fun hHeld => ?_)
            · exact keep4 HG5.out HK5.out H5.out H6.out hB0
            refine take_at 0 (v := ?_) rfl (by kernel_rfl) (by kernel_rfl) (by kernel_rfl) (fun _ _ _ h => h) (Or.inl ⟨by rfl, ?_⟩) (by with_reducible assumption) ?_
            rotate_left
            · intro w hSw; (try dsimp only at hSw); go_simp; (try with_reducible rfl)
            try simp only [Act.put, List.setIfInBounds_toArray, List.set_cons_zero, List.set_cons_succ]
            refine take_at 1 (v := ?_) rfl (by kernel_rfl) (by kernel_rfl) (by kernel_rfl) (fun _ _ _ h => h) (Or.inl ⟨by rfl, ?_⟩) (by with_reducible assumption) ?_
            rotate_left
            · intro w hSw; (try dsimp only at hSw); go_simp; (try with_reducible rfl)
            try simp only [Act.put, List.setIfInBounds_toArray, List.set_cons_zero, List.set_cons_succ]
            refine take_at 2 (v := ?_) rfl (by kernel_rfl) (by kernel_rfl) (by kernel_rfl) (fun _ _ _ h => h) (Or.inl ⟨by rfl, ?_⟩) (by with_reducible assumption) ?_
            rotate_left
            · intro w hSw; (try dsimp only at hSw); go_simp; (try with_reducible rfl)
            try simp only [Act.put, List.setIfInBounds_toArray, List.set_cons_zero, List.set_cons_succ]
            refine take_at 3 (v := ?_) rfl (by kernel_rfl) (by kernel_rfl) (by kernel_rfl) (fun _ _ _ h => h) (Or.inl ⟨by rfl, ?_⟩) (by with_reducible assumption) ?_
            rotate_left
            · intro w hSw; (try dsimp only at hSw); go_simp; (try with_reducible rfl)
            try simp only [Act.put, List.setIfInBounds_toArray, List.set_cons_zero, List.set_cons_succ]
            refine take_at 5 (v := ?_) rfl (by kernel_rfl) (by kernel_rfl) (by kernel_rfl) (fun _ _ _ h => h) (Or.inl ⟨by rfl, ?_⟩) (by with_reducible assumption) ?_
            rotate_left
            · intro w hSw; (try dsimp only at hSw); go_simp; (try with_reducible rfl)
            try simp only [Act.put, List.setIfInBounds_toArray, List.set_cons_zero, List.set_cons_succ]
            refine ready_at 4 rfl (by kernel_rfl) (fun K hK => ?_)
            go_simp
            refine (text_any _ _ _ _ _ (by omega) (by omega) (by omega) (by omega)).mono ?_; rintro e w' ⟨rfl, hb⟩; have hb2 := below_call (W := W) (hHeld.2.2.2.2.2.2.2.2.2.2.2.2.2.2.2.2) hb
            refine hK.out _ _ ?_ (fun hHeld => ?_)
            · exact keep4 HG5.out HK5.out H5.out H6.out hb2
            clear hK K
            try simp only [Act.put, List.setIfInBounds_toArray, List.set_cons_zero, List.set_cons_succ]
            refine ready_at 6 rfl (by kernel_rfl) (fun K hK => ?_)
            go_simp
            refine (text_any _ _ _ _ _ (by omega) (by omega) (by omega) (by omega)).mono ?_; rintro e w' ⟨rfl, hb⟩; have hb2 := below_call (W := W) (hHeld.2.2.2.2.2.2.2.2.2.2.2.2.2.2.2.2) hb
            refine hK.out _ _ ?_ (fun hHeld => ?_)
            · exact keep4 HG5.out HK5.out H5.out H6.out hb2
            clear hK K
            try simp only [Act.put, List.setIfInBounds_toArray, List.set_cons_zero, List.set_cons_succ]
            refine take_at 7 (v := ?_) rfl (by kernel_rfl) (by kernel_rfl) (by kernel_rfl) (fun _ _ _ h => h) (Or.inl ⟨by rfl, ?_⟩) (by with_reducible assumption) ?_
            rotate_left
            · intro w hSw; (try dsimp only at hSw); go_simp; (try with_reducible rfl)
            try simp only [Act.put, List.setIfInBounds_toArray, List.set_cons_zero, List.set_cons_succ]
            refine take_at 8 (v := ?_) rfl (by kernel_rfl) (by kernel_rfl) (by kernel_rfl) (fun _ _ _ h => h) (Or.inl ⟨by rfl, ?_⟩) (by with_reducible assumption) ?_
            rotate_left
            · intro w hSw; (try dsimp only at hSw); go_simp; (try with_reducible rfl)
            try simp only [Act.put, List.setIfInBounds_toArray, List.set_cons_zero, List.set_cons_succ]
            refine take_at 9 (v := ?_) rfl (by kernel_rfl) (by kernel_rfl) (by kernel_rfl) (fun _ _ _ h => h) (Or.inl ⟨by rfl, ?_⟩) (by with_reducible assumption) ?_
            rotate_left
            · intro w hSw; (try dsimp only at hSw); go_simp; (try with_reducible rfl)
            try simp only [Act.put, List.setIfInBounds_toArray, List.set_cons_zero, List.set_cons_succ]
            refine take_at 10 (v := ?_) rfl (by kernel_rfl) (by kernel_rfl) (by kernel_rfl) (fun _ _ _ h => h) (Or.inl ⟨by rfl, ?_⟩) (by with_reducible assumption) ?_
            rotate_left
            · intro w hSw; (try dsimp only at hSw); go_simp; (try with_reducible rfl)
            try simp only [Act.put, List.setIfInBounds_toArray, List.set_cons_zero, List.set_cons_succ]
            refine take_at 11 (v := ?_) rfl (by kernel_rfl) (by kernel_rfl) (by kernel_rfl) (fun _ _ _ h => h) (Or.inl ⟨by rfl, ?_⟩) (by with_reducible assumption) ?_
            rotate_left
            · intro w hSw; (try dsimp only at hSw); go_simp; (try with_reducible rfl)
            try simp only [Act.put, List.setIfInBounds_toArray, List.set_cons_zero, List.set_cons_succ]
            refine take_at 12 (v := ?_) rfl (by kernel_rfl) (by kernel_rfl) (by kernel_rfl) (fun _ _ _ h => h) (Or.inl ⟨by rfl, ?_⟩) (by with_reducible assumption) ?_
            rotate_left
            · intro w hSw; (try dsimp only at hSw); go_simp; (try with_reducible rfl)
            try simp only [Act.put, List.setIfInBounds_toArray, List.set_cons_zero, List.set_cons_succ]
            refine take_at 13 (v := ?_) rfl (by kernel_rfl) (by kernel_rfl) (by kernel_rfl) (fun _ _ _ h => h) (Or.inl ⟨by rfl, ?_⟩) (by with_reducible assumption) ?_
            rotate_left
            · intro w hSw; (try dsimp only at hSw); go_simp; (try with_reducible rfl)
            try simp only [Act.put, List.setIfInBounds_toArray, List.set_cons_zero, List.set_cons_succ]
            refine take_at 14 (v := ?_) rfl (by kernel_rfl) (by kernel_rfl) (by kernel_rfl) (fun _ _ _ h => h) (Or.inl ⟨by rfl, ?_⟩) (by with_reducible assumption) ?_
            rotate_left
            · intro w hSw; (try dsimp only at hSw); go_simp; (try with_reducible rfl)
            try simp only [Act.put, List.setIfInBounds_toArray, List.set_cons_zero, List.set_cons_succ]
            refine take_at 15 (v := ?_) rfl (by kernel_rfl) (by kernel_rfl) (by kernel_rfl) (fun _ _ _ h => h) (Or.inl ⟨by rfl, ?_⟩) (by with_reducible assumption) ?_
            rotate_left
            · intro w hSw; (try dsimp only at hSw); go_simp; (try with_reducible rfl)
            try simp only [Act.put, List.setIfInBounds_toArray, List.set_cons_zero, List.set_cons_succ]
            refine take_at 16 (v := ?_) rfl (by kernel_rfl) (by kernel_rfl) (by kernel_rfl) (fun _ _ _ h => h) (Or.inl ⟨by rfl, ?_⟩) (by with_reducible assumption) ?_
            rotate_left
            · intro w hSw; (try dsimp only at hSw); go_simp; (try with_reducible rfl)
            try simp only [Act.put, List.setIfInBounds_toArray, List.set_cons_zero, List.set_cons_succ]
            refine take_at 17 (v := ?_) rfl (by kernel_rfl) (by kernel_rfl) (by kernel_rfl) (fun _ _ _ h => h) (Or.inl ⟨by rfl, ?_⟩) (by with_reducible assumption) ?_
            rotate_left
            · intro w hSw; (try dsimp only at hSw); go_simp; (try with_reducible rfl)
            try simp only [Act.put, List.setIfInBounds_toArray, List.set_cons_zero, List.set_cons_succ]
            refine take_at 18 (v := ?_) rfl (by kernel_rfl) (by kernel_rfl) (by kernel_rfl) (fun _ _ _ h => h) (Or.inl ⟨by rfl, ?_⟩) (by with_reducible assumption) ?_
            rotate_left
            · intro w hSw; (try dsimp only at hSw); go_simp; (try with_reducible rfl)
            try simp only [Act.put, List.setIfInBounds_toArray, List.set_cons_zero, List.set_cons_succ]
            refine take_at 19 (v := ?_) rfl (by kernel_rfl) (by kernel_rfl) (by kernel_rfl) (fun _ _ _ h => h) (Or.inl ⟨by rfl, ?_⟩) (by with_reducible assumption) ?_
            rotate_left
            · intro w hSw; (try dsimp only at hSw); go_simp; (try with_reducible rfl)
            try simp only [Act.put, List.setIfInBounds_toArray, List.set_cons_zero, List.set_cons_succ]
            refine take_at 21 (v := ?_) rfl (by kernel_rfl) (by kernel_rfl) (by kernel_rfl) (fun _ _ _ h => h) (Or.inl ⟨by rfl, ?_⟩) (by with_reducible assumption) ?_
            rotate_left
            · intro w hSw; (try dsimp only at hSw); go_simp; (try with_reducible rfl)
            try simp only [Act.put, List.setIfInBounds_toArray, List.set_cons_zero, List.set_cons_succ]
            refine take_at 24 (v := ?_) rfl (by kernel_rfl) (by kernel_rfl) (by kernel_rfl) (fun _ _ _ h => h) (Or.inl ⟨by rfl, ?_⟩) (by with_reducible assumption) ?_
            rotate_left
            · intro w hSw; (try dsimp only at hSw); go_simp; (try with_reducible rfl)
            try simp only [Act.put, List.setIfInBounds_toArray, List.set_cons_zero, List.set_cons_succ]
            refine take_at 25 (v := ?_) rfl (by kernel_rfl) (by kernel_rfl) (by kernel_rfl) (fun _ _ _ h => h) (Or.inl ⟨by rfl, ?_⟩) (by with_reducible assumption) ?_
            rotate_left
            · intro w hSw; (try dsimp only at hSw); go_simp; (try with_reducible rfl)
            try simp only [Act.put, List.setIfInBounds_toArray, List.set_cons_zero, List.set_cons_succ]
            refine take_at 26 (v := ?_) rfl (by kernel_rfl) (by kernel_rfl) (by kernel_rfl) (fun _ _ _ h => h) (Or.inl ⟨by rfl, ?_⟩) (by with_reducible assumption) ?_
            rotate_left
            · intro w hSw; (try dsimp only at hSw); go_simp; (try with_reducible rfl)
            try simp only [Act.put, List.setIfInBounds_toArray, List.set_cons_zero, List.set_cons_succ]
            refine take_at 27 (v := ?_) rfl (by kernel_rfl) (by kernel_rfl) (by kernel_rfl) (fun _ _ _ h => h) (Or.inl ⟨by rfl, ?_⟩) (by with_reducible assumption) ?_
            rotate_left
            · intro w hSw; (try dsimp only at hSw); go_simp; (try with_reducible rfl)
            try simp only [Act.put, List.setIfInBounds_toArray, List.set_cons_zero, List.set_cons_succ]
            refine take_at 28 (v := ?_) rfl (by kernel_rfl) (by kernel_rfl) (by kernel_rfl) (fun _ _ _ h => h) (Or.inl ⟨by rfl, ?_⟩) (by with_reducible assumption) ?_
            rotate_left
            · intro w hSw; (try dsimp only at hSw); go_simp; (try with_reducible rfl)
            try simp only [Act.put, List.setIfInBounds_toArray, List.set_cons_zero, List.set_cons_succ]
            refine ready_at 20 rfl (by kernel_rfl) (fun K hK => ?_)
            go_simp
            refine (port_any _ _ _ _ _ _ (by omega) (by omega) (by omega) (by omega)).mono ?_; rintro e w' ⟨rfl, hb⟩; have hb2 := below_call (W := W) (hHeld.2.2.2.2.2.2.2.2.2.2.2.2.2.2.2.2) hb
            refine hK.out _ _ ?_ (fun hHeld => ?_)
            · exact keep4 HG5.out HK5.out H5.out H6.out hb2
            clear hK K
            try simp only [Act.put, List.setIfInBounds_toArray, List.set_cons_zero, List.set_cons_succ]
            refine ready_at 22 rfl (by kernel_rfl) (fun K hK => ?_)
            go_simp
            refine (port_any _ _ _ _ _ _ (by omega) (by omega) (by omega) (by omega)).mono ?_; rintro e w' ⟨rfl, hb⟩; have hb2 := below_call (W := W) (hHeld.2.2.2.2.2.2.2.2.2.2.2.2.2.2.2.2) hb
            refine hK.out _ _ ?_ (fun hHeld => ?_)
            · exact keep4 HG5.out HK5.out H5.out H6.out hb2
            clear hK K
            try simp only [Act.put, List.setIfInBounds_toArray, List.set_cons_zero, List.set_cons_succ]
            refine take_at 23 (v := ?_) rfl (by kernel_rfl) (by kernel_rfl) (by kernel_rfl) (fun _ _ _ h => h) (Or.inl ⟨by rfl, ?_⟩) (by with_reducible assumption) ?_
            rotate_left
            · intro w hSw; (try dsimp only at hSw); go_simp; (try with_reducible rfl)
            try simp only [Act.put, List.setIfInBounds_toArray, List.set_cons_zero, List.set_cons_succ]
            refine take_at 29 (v := ?_) rfl (by kernel_rfl) (by kernel_rfl) (by kernel_rfl) (fun _ _ _ h => h) (Or.inl ⟨by rfl, ?_⟩) (by with_reducible assumption) ?_
            rotate_left
            · intro w hSw; (try dsimp only at hSw); go_simp; (try with_reducible rfl)
            try simp only [Act.put, List.setIfInBounds_toArray, List.set_cons_zero, List.set_cons_succ]
            refine take_at 30 (v := undef) rfl (by kernel_rfl) (by kernel_rfl) (by kernel_rfl) (fun _ _ _ h => h) (Or.inr ⟨by rfl, rfl⟩) (by with_reducible assumption) ?_
            try simp only [Act.put, List.setIfInBounds_toArray, List.set_cons_zero, List.set_cons_succ]
            refine take_at 31 (v := undef) rfl (by kernel_rfl) (by kernel_rfl) (by kernel_rfl) (fun _ _ _ h => h) (Or.inr ⟨by rfl, rfl⟩) (by with_reducible assumption) ?_
            try simp only [Act.put, List.setIfInBounds_toArray, List.set_cons_zero, List.set_cons_succ]
            refine take_at 32 (v := undef) rfl (by kernel_rfl) (by kernel_rfl) (by kernel_rfl) (fun _ _ _ h => h) (Or.inr ⟨by rfl, rfl⟩) (by with_reducible assumption) ?_
            try simp only [Act.put, List.setIfInBounds_toArray, List.set_cons_zero, List.set_cons_succ]
            refine take_at 33 (v := undef) rfl (by kernel_rfl) (by kernel_rfl) (by kernel_rfl) (fun _ _ _ h => h) (Or.inr ⟨by rfl, rfl⟩) (by with_reducible assumption) ?_
            try simp only [Act.put, List.setIfInBounds_toArray, List.set_cons_zero, List.set_cons_succ]
            refine take_at 34 (v := undef) rfl (by kernel_rfl) (by kernel_rfl) (by kernel_rfl) (fun _ _ _ h => h) (Or.inr ⟨by rfl, rfl⟩) (by with_reducible assumption) ?_
            try simp only [Act.put, List.setIfInBounds_toArray, List.set_cons_zero, List.set_cons_succ]
            refine take_at 35 (v := undef) rfl (by kernel_rfl) (by kernel_rfl) (by kernel_rfl) (fun _ _ _ h => h) (Or.inr ⟨by rfl, rfl⟩) (by with_reducible assumption) ?_
            try simp only [Act.put, List.setIfInBounds_toArray, List.set_cons_zero, List.set_cons_succ]
            refine take_at 36 (v := undef) rfl (by kernel_rfl) (by kernel_rfl) (by kernel_rfl) (fun _ _ _ h => h) (Or.inr ⟨by rfl, rfl⟩) (by with_reducible assumption) ?_
            try simp only [Act.put, List.setIfInBounds_toArray, List.set_cons_zero, List.set_cons_succ]
            refine take_at 37 (v := ?_) rfl (by kernel_rfl) (by kernel_rfl) (by kernel_rfl) (fun _ _ _ h => h) (Or.inl ⟨by rfl, ?_⟩) (by with_reducible assumption) ?_
            rotate_left
            · intro w hSw; (try dsimp only at hSw); go_simp; (try with_reducible rfl)
            try simp only [Act.put, List.setIfInBounds_toArray, List.set_cons_zero, List.set_cons_succ]
            refine take_at 38 (v := ?_) rfl (by kernel_rfl) (by kernel_rfl) (by kernel_rfl) (fun _ _ _ h => h) (Or.inl ⟨by rfl, ?_⟩) (by with_reducible assumption) ?_
            rotate_left
            · intro w hSw; (try dsimp only at hSw); go_simp; (try with_reducible rfl)
            try simp only [Act.put, List.setIfInBounds_toArray, List.set_cons_zero, List.set_cons_succ]
            refine take_at 39 (v := ?_) rfl (by kernel_rfl) (by kernel_rfl) (by kernel_rfl) (fun _ _ _ h => h) (Or.inl ⟨by rfl, ?_⟩) (by with_reducible assumption) ?_
            rotate_left
            · intro w hSw; (try dsimp only at hSw); go_simp; (try with_reducible rfl)
            try simp only [Act.put, List.setIfInBounds_toArray, List.set_cons_zero, List.set_cons_succ]
            refine take_at 40 (v := ?_) rfl (by kernel_rfl) (by kernel_rfl) (by kernel_rfl) (fun _ _ _ h => h) (Or.inl ⟨by rfl, ?_⟩) (by with_reducible assumption) ?_
            rotate_left
            · intro w hSw; (try dsimp only at hSw); go_simp; (try with_reducible rfl)
            try simp only [Act.put, List.setIfInBounds_toArray, List.set_cons_zero, List.set_cons_succ]
            refine wpAnyH_done (by kernel_rfl) (NoPanic.normal ?_) _
            go_wp2_with fail
            go_meet
            exact ⟨rfl, by with_reducible assumption⟩
      case rest =>
        obtain ⟨rfl, hbx⟩ := hcut
        go_wp2_with fail
        go_ret
        exact ⟨rfl, hbW.trans (hbx.mono hbW.size)⟩
    · have hr2 : (decide ((x2 : Int) ≤ 63) && decide ((y2 : Int) ≤ 63)) = false := by rw [Bool.and_eq_false_iff]; simp; omega
      go_wp2_with fail
      refine (right_any _ _ _ _ _).mono ?_
      rintro e w3 ⟨rfl, hb⟩
      rw [hr2]
      have hB2 := below_call hB1 hb
      go_wp2_with fail
      go_ret
      exact ⟨rfl, hbw.trans (hB2.mono hbw.size)⟩
  · have hr1 : (decide ((x1 : Int) ≤ 63) && decide ((y1 : Int) ≤ 63)) = false := by rw [Bool.and_eq_false_iff]; simp; omega
    go_wp2_with fail
    refine (right_any _ _ _ _ _).mono ?_
    rintro e w2 ⟨rfl, hb⟩
    rw [hr1]
    have hB1 := below_call hB0 hb
    go_wp2_with fail
    go_ret
    exact ⟨rfl, hbw.trans (hB1.mono hbw.size)⟩
end Go.Proofs.YthmbgcmhdmekmaaDoor
