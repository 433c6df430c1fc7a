/-
  The walks of the four laws of the pads.
-/
import Derived.Test.YthmbgcmhdmekmaaDoorF
import Derived.Test.YthmbgcmhdmekmaaDoorB
namespace Go.Proofs.YthmbgcmhdmekmaaDoor
open Go.RowKit

set_option maxHeartbeats 1000000 in
set_option maxRecDepth 100000 in
theorem alive_any (w : World) : Calls Tryd.prog 7 #[] w fun e w' => e = .returned (.bool true) ∧ Below w.heap.size w w' := by
  have h1 : textL 17 0 false false = [85, 49, 32, 45] := by decide +kernel
  have h2 : portF 0 0 false false = 255 := by decide +kernel
  have h3 : portF 1 0 false false = 254 := by decide +kernel
  go_enter Tryd.func7, Tryd.ntmps7
  go_wp2_with fail
  refine (text_any 17 0 false false _ (by omega) (by omega) (by omega) (by omega)).mono ?_
  rintro e w1 ⟨rfl, hb1⟩
  rw [h1]
  go_wp2_with fail
  refine (port_any 0 0 false false false _ (by omega) (by omega) (by omega) (by omega)).mono ?_
  rintro e w2 ⟨rfl, hb2⟩
  rw [h2]
  go_wp2_with fail
  refine (port_any 1 0 false false false _ (by omega) (by omega) (by omega) (by omega)).mono ?_
  rintro e w3 ⟨rfl, hb3⟩
  rw [h3]
  go_wp2_with fail
  go_ret
  exact ⟨rfl, below_call (below_call hb1 hb2) hb3⟩

/-- 'wpAnyH_take', the operation read off the list of operations: so it stands written out. -/
theorem take_at {P : Program} {md : Region.Mode} {ops : Array Oper} {Q : Exit → Act → World → Prop} {S : World → Prop} (i : Nat) {oi : Oper} {rest : List Oper} {v : Value} {fuel : Nat} {listed : Array Bool} {a : Act} {w : World} (hi : ops.toList.drop i = oi :: rest)
    (hs : Region.noSelect ops = true) (hf : Region.free md ops listed i = true) (hr : (Region.ready md ops listed).contains i = true)
    (hQ : ∀ c a w, Q (.panic c) (a.put oi.dst v) w → Q (.panic c) a w) (hy : YieldsIf P ops S oi v a) (hS : S w)
    (h : wpAnyH P md ops Q S fuel (listed.setIfInBounds i true) (a.put oi.dst v) w) : wpAnyH P md ops Q S (fuel + 1) listed a w := by
  refine wpAnyH_take (i := i) (oi := oi) ?_ hs hf hr hQ hy hS h
  have h2 : (ops.toList.drop i)[0]? = some oi := by rw [hi]; rfl
  rw [List.getElem?_drop] at h2
  simpa using h2
/-- 'AllReadyH.cons' at one operation that alone may come up, read off the list. -/
theorem ready_at {P : Program} {md : Region.Mode} {ops : Array Oper} {Q : Exit → Act → World → Prop} {S : World → Prop} (i : Nat) {o : Oper} {rest : List Oper} {fuel : Nat} {listed : Array Bool} {a : Act} {w : World} (hi : ops.toList.drop i = o :: rest)
    (hr : Region.ready md ops listed = [i])
    (h : ∀ K' : Act → World → Prop, Shut (∀ a w, S w → (S w → wpAnyH P md ops Q S fuel (listed.setIfInBounds i true) a w) → K' a w) → if Region.wanted o (yielded ops a.tmps) = true then Oper.wp P o a w K' Q else K' (a.put o.dst undef) w) :
    wpAnyH P md ops Q S (fuel + 1) listed a w := by
  have h2 : (ops.toList.drop i)[0]? = some o := by rw [hi]; rfl
  rw [List.getElem?_drop] at h2
  exact wpAnyH_ready (rs := [i]) hr (by simp) (AllReadyH.cons (o := o) (by simpa using h2) h AllReadyH.nil)

theorem text_size (a b : Int) (c d : Bool) : (⟨(textL a b c d).toArray⟩ : ByteArray).size ≤ 40 := by
  show (textL a b c d).toArray.size ≤ 40
  have := padL_le a
  have := padL_le b
  cases c <;> cases d <;> simp [textL] <;> omega
theorem keep_block {W w' : World} {g : Nat} {o : Obj} (h : W.heap[g]? = some o) (hb : Below W.heap.size W w') : w'.heap[g]? = some o :=
  (hb.block g (Array.getElem?_eq_some_iff.1 h).1).trans h
/-- Two known blocks of four cells each. -/
theorem keep2 {W w' : World} {g k : Nat} {a0 a1 a2 a3 b0 b1 b2 b3 : Value} {T : TypeId} (h0 : W.heap[g]? = some (.cells #[a0, a1, a2, a3] T (0, 0))) (h1 : W.heap[k]? = some (.cells #[b0, b1, b2, b3] T (0, 0))) (hb : Below W.heap.size W w') :
    w'.cell? ⟨g, 0, none⟩ = some a0 ∧ w'.cell? ⟨g, 1, none⟩ = some a1 ∧ w'.cell? ⟨g, 2, none⟩ = some a2 ∧ w'.cell? ⟨g, 3, none⟩ = some a3 ∧
    w'.cell? ⟨k, 0, none⟩ = some b0 ∧ w'.cell? ⟨k, 1, none⟩ = some b1 ∧ w'.cell? ⟨k, 2, none⟩ = some b2 ∧ w'.cell? ⟨k, 3, none⟩ = some b3 ∧ Below W.heap.size W w' := by
  have e0 := keep_block h0 hb
  have e1 := keep_block h1 hb
  exact ⟨Lib.cell_of_heap e0 0, Lib.cell_of_heap e0 1, Lib.cell_of_heap e0 2, Lib.cell_of_heap e0 3, Lib.cell_of_heap e1 0, Lib.cell_of_heap e1 1, Lib.cell_of_heap e1 2, Lib.cell_of_heap e1 3, hb⟩

set_option maxHeartbeats 1000000 in
set_option maxRecDepth 100000 in
theorem parses_any (s : ByteArray) (m : Int) (w : World) (hm : w.cell? ⟨0, 0, none⟩ = some (.int .i64 m)) (hsz : s.size ≤ maxLen) : Calls Tryd.prog 3 #[.string s] w fun e w' => e = .returned (.bool true) ∧ Below w.heap.size w w' := by
  unfold maxLen at hsz
  by_cases hs : s.size ≤ 40
  · go_enter Tryd.func3, Tryd.ntmps3
    go_wp2_with fail
    refine (alive_any _).mono ?_
    rintro e w1 ⟨rfl, hb1⟩
    have hm1 : w1.cell? ⟨0, 0, none⟩ = some (.int .i64 m) := keepW (World.block_lt_of_cell? w _ hm) hm hb1
    go_wp2_with fail
    refine (parse_any s m _ hs hm1).mono ?_
    rintro e w2 ⟨⟨a, b, c, d, n, hp, rfl⟩, hb2⟩
    have HP := Lib.hid hp; clear hp
    go_wp2_with fail
    refine (rparse_any s _ hs).mono ?_
    rintro e w3 ⟨hr, hb3⟩
    obtain ⟨x, y, p, q, n', rfl, hr2⟩ : ∃ (x y : Nat) (p q : Bool) (n' : Int), e = .returned (.tuple #[.agg #[.int .u8 x, .int .u8 y, .bool p, .bool q], .int .i64 n']) ∧ RefPost s.toList e := by
      obtain ⟨x, y, p, q, n', he, h⟩ := id hr
      exact ⟨x, y, p, q, n', he, hr⟩
    obtain ⟨rfl, rfl, rfl, rfl, rfl⟩ := parse_same HP.out hr2 rfl
    have hnk := new_kept hb3
    have c0 := Lib.cell_of_heap hnk 0; have c1 := Lib.cell_of_heap hnk 1; have c2 := Lib.cell_of_heap hnk 2; have c3 := Lib.cell_of_heap hnk 3
    simp only [List.getElem?_toArray, List.getElem?_cons_zero, List.getElem?_cons_succ] at c0 c1 c2 c3
    have hlt3 : w2.heap.size < w3.heap.size := (Array.getElem?_eq_some_iff.1 hnk).1
    clear hnk hr hr2
    go_wp2_with fail
    go_ret
    exact ⟨rfl, below_new (below_call (below_new (below_call hb1 hb2) _) hb3) _⟩
  · go_enter Tryd.func3, Tryd.ntmps3
    go_wp2_with fail
    refine (alive_any _).mono ?_
    rintro e w1 ⟨rfl, hb1⟩
    go_wp2_with fail
    go_ret
    exact ⟨rfl, hb1⟩

set_option maxHeartbeats 2000000 in
set_option maxRecDepth 100000 in
theorem tells_any (a b a' b' : Int) (c d c' d' : Bool) (m : Int) (w : World) (hm : w.cell? ⟨0, 0, none⟩ = some (.int .i64 m)) (ha0 : 0 ≤ a) (ha1 : a < 256) (hb0 : 0 ≤ b) (hb1 : b < 256) :
    Calls Tryd.prog 6 #[.agg #[.int .u8 a, .int .u8 b, .bool c, .bool d], .agg #[.int .u8 a', .int .u8 b', .bool c', .bool d']] w fun e w' => e = .returned (.bool true) ∧ Below w.heap.size w w' := by
  obtain ⟨x, rfl⟩ := Int.eq_ofNat_of_zero_le ha0
  obtain ⟨y, rfl⟩ := Int.eq_ofNat_of_zero_le hb0
  go_enter Tryd.func6, Tryd.ntmps6
  go_wp2_with fail
  refine (alive_any _).mono ?_
  rintro e W ⟨rfl, hbW⟩
  have hbw : Below w.heap.size w W := (((Below.refl _ w).alloc (Nat.le_refl _) _).alloc (by simp) _).trans (hbW.mono (by simp; omega))
  have hg : W.heap[w.heap.size]? = some (.cells #[.int .u8 x, .int .u8 y, .bool c, .bool d] 24 (0, 0)) :=
    (hbW.block _ (by simp; omega)).trans ((Below.heap_alloc _ _ _ (by simp)).trans (heap_alloc_new w _))
  have hk : W.heap[w.heap.size + 1]? = some (.cells #[.int .u8 a', .int .u8 b', .bool c', .bool d'] 24 (0, 0)) := by
    have := next_kept (heap_alloc_new (w.alloc (.cells #[.int .u8 x, .int .u8 y, .bool c, .bool d] 24)) (.cells #[.int .u8 a', .int .u8 b', .bool c', .bool d'] 24)) hbW
    simpa using this
  have hm1 : W.cell? ⟨0, 0, none⟩ = some (.int .i64 m) := (hbw.cell (p := ⟨0, 0, none⟩) (World.block_lt_of_cell? w _ hm)).trans hm
  have HG := Lib.hid hg; clear hg
  have HK := Lib.hid hk; clear hk
  have HM := Lib.hid hm1; clear hm1
  obtain ⟨c0, c1, c2, c3, d0, d1, d2, d3, hB0⟩ := keep2 HG.out HK.out (Below.refl _ W).drew
  go_upto_region 3 with fail
  go_cut [5] (fun v wx => v = .bool true ∧ Below W.heap.size W wx)
  case first =>
    go_region_held3 (fun w' => w'.cell? ⟨w.heap.size, 0, none⟩ = some (.int .u8 x) ∧ w'.cell? ⟨w.heap.size, 1, none⟩ = some (.int .u8 y) ∧ w'.cell? ⟨w.heap.size, 2, none⟩ = some (.bool c) ∧ w'.cell? ⟨w.heap.size, 3, none⟩ = some (.bool d) ∧ w'.cell? ⟨w.heap.size + 1, 0, none⟩ = some (.int .u8 a') ∧ w'.cell? ⟨w.heap.size + 1, 1, none⟩ = some (.int .u8 b') ∧ w'.cell? ⟨w.heap.size + 1, 2, none⟩ = some (.bool c') ∧ w'.cell? ⟨w.heap.size + 1, 3, none⟩ = some (.bool d') ∧ Below W.heap.size W w') ((refine keep2 HG.out HK.out ?_; repeat' (first | with_reducible assumption | with_reducible exact Below.refl _ _ | with_reducible exact Nat.le_refl _ | with_reducible refine Below.drew ?_ | with_reducible refine below_new ?_ _ | with_reducible refine Below.setCell ?_ ?_ _ | with_reducible exact Below.size (by with_reducible assumption))))
      (first
        | (go_at_call 12; refine (port_any _ _ _ _ _ _ (by omega) (by omega) (by omega) (by omega)).mono ?_; rintro e w' ⟨rfl, hb⟩; have hb2 := below_call (W := W) (by repeat' (first | with_reducible assumption | with_reducible exact Below.refl _ _ | with_reducible exact Nat.le_refl _ | with_reducible refine Below.drew ?_ | with_reducible refine below_new ?_ _ | with_reducible refine Below.setCell ?_ ?_ _ | with_reducible exact Below.size (by with_reducible assumption))) hb)
        | (go_at_call 14; refine (rport_any _ _ _ _ _ _ (by omega) (by omega) (by omega) (by omega)).mono ?_; rintro e w' ⟨rfl, hb⟩; have hb2 := below_call (W := W) (by repeat' (first | with_reducible assumption | with_reducible exact Below.refl _ _ | with_reducible exact Nat.le_refl _ | with_reducible refine Below.drew ?_ | with_reducible refine below_new ?_ _ | with_reducible refine Below.setCell ?_ ?_ _ | with_reducible exact Below.size (by with_reducible assumption))) hb))
    all_goals (go_wp2_with fail; go_meet)
    all_goals exact ⟨rfl, by with_reducible assumption⟩
  case rest =>
    obtain ⟨rfl, hbx⟩ := hcut
    clear c0 c1 c2 c3 d0 d1 d2 d3 hB0
    obtain ⟨c0, c1, c2, c3, d0, d1, d2, d3, hB0⟩ := keep2 HG.out HK.out hbx.drew
    go_upto_region 4 with fail
    go_cut [44] (fun v wx => v = .bool false ∧ Below W.heap.size W wx)
    case first =>
      cases c <;> cases c'
      · skip
        refine wp_region_noPanic ?_
        refine wp_region_held_drew (S := fun w' => w'.cell? ⟨w.heap.size, 0, none⟩ = some (.int .u8 x) ∧ w'.cell? ⟨w.heap.size, 1, none⟩ = some (.int .u8 y) ∧ w'.cell? ⟨w.heap.size, 2, none⟩ = some (.bool false) ∧ w'.cell? ⟨w.heap.size, 3, none⟩ = some (.bool d) ∧ w'.cell? ⟨w.heap.size + 1, 0, none⟩ = some (.int .u8 a') ∧ w'.cell? ⟨w.heap.size + 1, 1, none⟩ = some (.int .u8 b') ∧ w'.cell? ⟨w.heap.size + 1, 2, none⟩ = some (.bool false) ∧ w'.cell? ⟨w.heap.size + 1, 3, none⟩ = some (.bool d') ∧ Below W.heap.size W w') (by kernel_rfl) ?_ (fun hHeld => ?_)
        · exact keep2 HG.out HK.out hbx.drew
        refine take_at 0 (v := ?_) rfl (by kernel_rfl) (by kernel_rfl) (by kernel_rfl) (fun _ _ _ h => h) (Or.inl ⟨by rfl, ?_⟩) (by with_reducible assumption) ?_
        rotate_left
        · intro w hSw; (try dsimp only at hSw); go_simp; (try with_reducible rfl)
        try simp only [Act.put, List.setIfInBounds_toArray, List.set_cons_zero, List.set_cons_succ]
        refine take_at 2 (v := ?_) rfl (by kernel_rfl) (by kernel_rfl) (by kernel_rfl) (fun _ _ _ h => h) (Or.inl ⟨by rfl, ?_⟩) (by with_reducible assumption) ?_
        rotate_left
        · intro w hSw; (try dsimp only at hSw); go_simp; (try with_reducible rfl)
        try simp only [Act.put, List.setIfInBounds_toArray, List.set_cons_zero, List.set_cons_succ]
        refine ready_at 1 rfl (by kernel_rfl) (fun K hK => ?_)
        go_simp
        refine (right_any _ _ _ _ _).mono ?_; rintro e w' ⟨rfl, hb⟩; have hb2 := below_call (W := W) (hHeld.2.2.2.2.2.2.2.2) hb
        refine hK.out _ _ ?_ (fun hHeld => ?_)
        · exact keep2 HG.out HK.out hb2
        clear hK K
        try simp only [Act.put, List.setIfInBounds_toArray, List.set_cons_zero, List.set_cons_succ]
        refine ready_at 3 rfl (by kernel_rfl) (fun K hK => ?_)
        go_simp
        refine (rright_any _ _ _ _ _).mono ?_; rintro e w' ⟨rfl, hb⟩; have hb2 := below_call (W := W) (hHeld.2.2.2.2.2.2.2.2) hb
        refine hK.out _ _ ?_ (fun hHeld => ?_)
        · exact keep2 HG.out HK.out hb2
        clear hK K
        try simp only [Act.put, List.setIfInBounds_toArray, List.set_cons_zero, List.set_cons_succ]
        refine take_at 4 (v := ?_) rfl (by kernel_rfl) (by kernel_rfl) (by kernel_rfl) (fun _ _ _ h => h) (Or.inl ⟨by rfl, ?_⟩) (by with_reducible assumption) ?_
        rotate_left
        · intro w hSw; (try dsimp only at hSw); go_simp; (try with_reducible rfl)
        try simp only [Act.put, List.setIfInBounds_toArray, List.set_cons_zero, List.set_cons_succ]
        refine take_at 5 (v := ?_) rfl (by kernel_rfl) (by kernel_rfl) (by kernel_rfl) (fun _ _ _ h => h) (Or.inl ⟨by rfl, ?_⟩) (by with_reducible assumption) ?_
        rotate_left
        · intro w hSw; (try dsimp only at hSw); go_simp; (try with_reducible rfl)
        try simp only [Act.put, List.setIfInBounds_toArray, List.set_cons_zero, List.set_cons_succ]
        refine take_at 6 (v := ?_) rfl (by kernel_rfl) (by kernel_rfl) (by kernel_rfl) (fun _ _ _ h => h) (Or.inl ⟨by rfl, ?_⟩) (by with_reducible assumption) ?_
        rotate_left
        · intro w hSw; (try dsimp only at hSw); go_simp; (try with_reducible rfl)
        try simp only [Act.put, List.setIfInBounds_toArray, List.set_cons_zero, List.set_cons_succ]
        refine take_at 7 (v := ?_) rfl (by kernel_rfl) (by kernel_rfl) (by kernel_rfl) (fun _ _ _ h => h) (Or.inl ⟨by rfl, ?_⟩) (by with_reducible assumption) ?_
        rotate_left
        · intro w hSw; (try dsimp only at hSw); go_simp; (try with_reducible rfl)
        try simp only [Act.put, List.setIfInBounds_toArray, List.set_cons_zero, List.set_cons_succ]
        refine take_at 8 (v := ?_) rfl (by kernel_rfl) (by kernel_rfl) (by kernel_rfl) (fun _ _ _ h => h) (Or.inl ⟨by rfl, ?_⟩) (by with_reducible assumption) ?_
        rotate_left
        · intro w hSw; (try dsimp only at hSw); go_simp; (try with_reducible rfl)
        try simp only [Act.put, List.setIfInBounds_toArray, List.set_cons_zero, List.set_cons_succ]
        refine take_at 9 (v := ?_) rfl (by kernel_rfl) (by kernel_rfl) (by kernel_rfl) (fun _ _ _ h => h) (Or.inl ⟨by rfl, ?_⟩) (by with_reducible assumption) ?_
        rotate_left
        · intro w hSw; (try dsimp only at hSw); go_simp; (try with_reducible rfl)
        try simp only [Act.put, List.setIfInBounds_toArray, List.set_cons_zero, List.set_cons_succ]
        refine take_at 10 (v := ?_) rfl (by kernel_rfl) (by kernel_rfl) (by kernel_rfl) (fun _ _ _ h => h) (Or.inl ⟨by rfl, ?_⟩) (by with_reducible assumption) ?_
        rotate_left
        · intro w hSw; (try dsimp only at hSw); go_simp; (try with_reducible rfl)
        try simp only [Act.put, List.setIfInBounds_toArray, List.set_cons_zero, List.set_cons_succ]
        refine take_at 11 (v := ?_) rfl (by kernel_rfl) (by kernel_rfl) (by kernel_rfl) (fun _ _ _ h => h) (Or.inl ⟨by rfl, ?_⟩) (by with_reducible assumption) ?_
        rotate_left
        · intro w hSw; (try dsimp only at hSw); go_simp; (try with_reducible rfl)
        try simp only [Act.put, List.setIfInBounds_toArray, List.set_cons_zero, List.set_cons_succ]
        refine take_at 13 (v := ?_) rfl (by kernel_rfl) (by kernel_rfl) (by kernel_rfl) (fun _ _ _ h => h) (Or.inl ⟨by rfl, ?_⟩) (by with_reducible assumption) ?_
        rotate_left
        · intro w hSw; (try dsimp only at hSw); go_simp; (try with_reducible rfl)
        try simp only [Act.put, List.setIfInBounds_toArray, List.set_cons_zero, List.set_cons_succ]
        refine take_at 14 (v := ?_) rfl (by kernel_rfl) (by kernel_rfl) (by kernel_rfl) (fun _ _ _ h => h) (Or.inl ⟨by rfl, ?_⟩) (by with_reducible assumption) ?_
        rotate_left
        · intro w hSw; (try dsimp only at hSw); go_simp; (try with_reducible rfl)
        try simp only [Act.put, List.setIfInBounds_toArray, List.set_cons_zero, List.set_cons_succ]
        refine ready_at 12 rfl (by kernel_rfl) (fun K hK => ?_)
        go_simp
        refine (pressed_any _ _ _ _ _ _ _ _ _).mono ?_; rintro e w' ⟨rfl, hb⟩; have hb2 := below_call (W := W) (hHeld.2.2.2.2.2.2.2.2) hb
        refine hK.out _ _ ?_ (fun hHeld => ?_)
        · exact keep2 HG.out HK.out hb2
        clear hK K
        try simp only [Act.put, List.setIfInBounds_toArray, List.set_cons_zero, List.set_cons_succ]
        refine take_at 15 (v := ?_) rfl (by kernel_rfl) (by kernel_rfl) (by kernel_rfl) (fun _ _ _ h => h) (Or.inl ⟨by rfl, ?_⟩) (by with_reducible assumption) ?_
        rotate_left
        · intro w hSw; (try dsimp only at hSw); go_simp; (try with_reducible rfl)
        try simp only [Act.put, List.setIfInBounds_toArray, List.set_cons_zero, List.set_cons_succ]
        refine take_at 16 (v := undef) rfl (by kernel_rfl) (by kernel_rfl) (by kernel_rfl) (fun _ _ _ h => h) (Or.inr ⟨by rfl, rfl⟩) (by with_reducible assumption) ?_
        try simp only [Act.put, List.setIfInBounds_toArray, List.set_cons_zero, List.set_cons_succ]
        refine take_at 17 (v := undef) rfl (by kernel_rfl) (by kernel_rfl) (by kernel_rfl) (fun _ _ _ h => h) (Or.inr ⟨by rfl, rfl⟩) (by with_reducible assumption) ?_
        try simp only [Act.put, List.setIfInBounds_toArray, List.set_cons_zero, List.set_cons_succ]
        refine take_at 18 (v := undef) rfl (by kernel_rfl) (by kernel_rfl) (by kernel_rfl) (fun _ _ _ h => h) (Or.inr ⟨by rfl, rfl⟩) (by with_reducible assumption) ?_
        try simp only [Act.put, List.setIfInBounds_toArray, List.set_cons_zero, List.set_cons_succ]
        refine take_at 19 (v := ?_) rfl (by kernel_rfl) (by kernel_rfl) (by kernel_rfl) (fun _ _ _ h => h) (Or.inl ⟨by rfl, ?_⟩) (by with_reducible assumption) ?_
        rotate_left
        · intro w hSw; (try dsimp only at hSw); go_simp; (try with_reducible rfl)
        try simp only [Act.put, List.setIfInBounds_toArray, List.set_cons_zero, List.set_cons_succ]
        refine take_at 20 (v := ?_) rfl (by kernel_rfl) (by kernel_rfl) (by kernel_rfl) (fun _ _ _ h => h) (Or.inl ⟨by rfl, ?_⟩) (by with_reducible assumption) ?_
        rotate_left
        · intro w hSw; (try dsimp only at hSw); go_simp; (try with_reducible rfl)
        try simp only [Act.put, List.setIfInBounds_toArray, List.set_cons_zero, List.set_cons_succ]
        refine take_at 21 (v := ?_) rfl (by kernel_rfl) (by kernel_rfl) (by kernel_rfl) (fun _ _ _ h => h) (Or.inl ⟨by rfl, ?_⟩) (by with_reducible assumption) ?_
        rotate_left
        · intro w hSw; (try dsimp only at hSw); go_simp; (try with_reducible rfl)
        try simp only [Act.put, List.setIfInBounds_toArray, List.set_cons_zero, List.set_cons_succ]
        refine wpAnyH_done (by kernel_rfl) (NoPanic.normal ?_) _
        all_goals (go_wp2_with fail; go_meet)
        all_goals exact ⟨rfl, by with_reducible assumption⟩
      · skip
        refine wp_region_noPanic ?_
        refine wp_region_held_drew (S := fun w' => w'.cell? ⟨w.heap.size, 0, none⟩ = some (.int .u8 x) ∧ w'.cell? ⟨w.heap.size, 1, none⟩ = some (.int .u8 y) ∧ w'.cell? ⟨w.heap.size, 2, none⟩ = some (.bool false) ∧ w'.cell? ⟨w.heap.size, 3, none⟩ = some (.bool d) ∧ w'.cell? ⟨w.heap.size + 1, 0, none⟩ = some (.int .u8 a') ∧ w'.cell? ⟨w.heap.size + 1, 1, none⟩ = some (.int .u8 b') ∧ w'.cell? ⟨w.heap.size + 1, 2, none⟩ = some (.bool true) ∧ w'.cell? ⟨w.heap.size + 1, 3, none⟩ = some (.bool d') ∧ Below W.heap.size W w') (by kernel_rfl) ?_ (fun hHeld => ?_)
        · exact keep2 HG.out HK.out hbx.drew
        refine take_at 0 (v := ?_) rfl (by kernel_rfl) (by kernel_rfl) (by kernel_rfl) (fun _ _ _ h => h) (Or.inl ⟨by rfl, ?_⟩) (by with_reducible assumption) ?_
        rotate_left
        · intro w hSw; (try dsimp only at hSw); go_simp; (try with_reducible rfl)
        try simp only [Act.put, List.setIfInBounds_toArray, List.set_cons_zero, List.set_cons_succ]
        refine take_at 2 (v := ?_) rfl (by kernel_rfl) (by kernel_rfl) (by kernel_rfl) (fun _ _ _ h => h) (Or.inl ⟨by rfl, ?_⟩) (by with_reducible assumption) ?_
        rotate_left
        · intro w hSw; (try dsimp only at hSw); go_simp; (try with_reducible rfl)
        try simp only [Act.put, List.setIfInBounds_toArray, List.set_cons_zero, List.set_cons_succ]
        refine ready_at 1 rfl (by kernel_rfl) (fun K hK => ?_)
        go_simp
        refine (right_any _ _ _ _ _).mono ?_; rintro e w' ⟨rfl, hb⟩; have hb2 := below_call (W := W) (hHeld.2.2.2.2.2.2.2.2) hb
        refine hK.out _ _ ?_ (fun hHeld => ?_)
        · exact keep2 HG.out HK.out hb2
        clear hK K
        try simp only [Act.put, List.setIfInBounds_toArray, List.set_cons_zero, List.set_cons_succ]
        refine ready_at 3 rfl (by kernel_rfl) (fun K hK => ?_)
        go_simp
        refine (rright_any _ _ _ _ _).mono ?_; rintro e w' ⟨rfl, hb⟩; have hb2 := below_call (W := W) (hHeld.2.2.2.2.2.2.2.2) hb
        refine hK.out _ _ ?_ (fun hHeld => ?_)
        · exact keep2 HG.out HK.out hb2
        clear hK K
        try simp only [Act.put, List.setIfInBounds_toArray, List.set_cons_zero, List.set_cons_succ]
        refine take_at 4 (v := ?_) rfl (by kernel_rfl) (by kernel_rfl) (by kernel_rfl) (fun _ _ _ h => h) (Or.inl ⟨by rfl, ?_⟩) (by with_reducible assumption) ?_
        rotate_left
        · intro w hSw; (try dsimp only at hSw); go_simp; (try with_reducible rfl)
        try simp only [Act.put, List.setIfInBounds_toArray, List.set_cons_zero, List.set_cons_succ]
        refine take_at 5 (v := ?_) rfl (by kernel_rfl) (by kernel_rfl) (by kernel_rfl) (fun _ _ _ h => h) (Or.inl ⟨by rfl, ?_⟩) (by with_reducible assumption) ?_
        rotate_left
        · intro w hSw; (try dsimp only at hSw); go_simp; (try with_reducible rfl)
        try simp only [Act.put, List.setIfInBounds_toArray, List.set_cons_zero, List.set_cons_succ]
        refine take_at 6 (v := ?_) rfl (by kernel_rfl) (by kernel_rfl) (by kernel_rfl) (fun _ _ _ h => h) (Or.inl ⟨by rfl, ?_⟩) (by with_reducible assumption) ?_
        rotate_left
        · intro w hSw; (try dsimp only at hSw); go_simp; (try with_reducible rfl)
        try simp only [Act.put, List.setIfInBounds_toArray, List.set_cons_zero, List.set_cons_succ]
        refine take_at 7 (v := ?_) rfl (by kernel_rfl) (by kernel_rfl) (by kernel_rfl) (fun _ _ _ h => h) (Or.inl ⟨by rfl, ?_⟩) (by with_reducible assumption) ?_
        rotate_left
        · intro w hSw; (try dsimp only at hSw); go_simp; (try with_reducible rfl)
        try simp only [Act.put, List.setIfInBounds_toArray, List.set_cons_zero, List.set_cons_succ]
        refine take_at 8 (v := ?_) rfl (by kernel_rfl) (by kernel_rfl) (by kernel_rfl) (fun _ _ _ h => h) (Or.inl ⟨by rfl, ?_⟩) (by with_reducible assumption) ?_
        rotate_left
        · intro w hSw; (try dsimp only at hSw); go_simp; (try with_reducible rfl)
        try simp only [Act.put, List.setIfInBounds_toArray, List.set_cons_zero, List.set_cons_succ]
        refine take_at 9 (v := ?_) rfl (by kernel_rfl) (by kernel_rfl) (by kernel_rfl) (fun _ _ _ h => h) (Or.inl ⟨by rfl, ?_⟩) (by with_reducible assumption) ?_
        rotate_left
        · intro w hSw; (try dsimp only at hSw); go_simp; (try with_reducible rfl)
        try simp only [Act.put, List.setIfInBounds_toArray, List.set_cons_zero, List.set_cons_succ]
        refine take_at 10 (v := ?_) rfl (by kernel_rfl) (by kernel_rfl) (by kernel_rfl) (fun _ _ _ h => h) (Or.inl ⟨by rfl, ?_⟩) (by with_reducible assumption) ?_
        rotate_left
        · intro w hSw; (try dsimp only at hSw); go_simp; (try with_reducible rfl)
        try simp only [Act.put, List.setIfInBounds_toArray, List.set_cons_zero, List.set_cons_succ]
        refine take_at 11 (v := ?_) rfl (by kernel_rfl) (by kernel_rfl) (by kernel_rfl) (fun _ _ _ h => h) (Or.inl ⟨by rfl, ?_⟩) (by with_reducible assumption) ?_
        rotate_left
        · intro w hSw; (try dsimp only at hSw); go_simp; (try with_reducible rfl)
        try simp only [Act.put, List.setIfInBounds_toArray, List.set_cons_zero, List.set_cons_succ]
        refine take_at 13 (v := ?_) rfl (by kernel_rfl) (by kernel_rfl) (by kernel_rfl) (fun _ _ _ h => h) (Or.inl ⟨by rfl, ?_⟩) (by with_reducible assumption) ?_
        rotate_left
        · intro w hSw; (try dsimp only at hSw); go_simp; (try with_reducible rfl)
        try simp only [Act.put, List.setIfInBounds_toArray, List.set_cons_zero, List.set_cons_succ]
        refine take_at 14 (v := ?_) rfl (by kernel_rfl) (by kernel_rfl) (by kernel_rfl) (fun _ _ _ h => h) (Or.inl ⟨by rfl, ?_⟩) (by with_reducible assumption) ?_
        rotate_left
        · intro w hSw; (try dsimp only at hSw); go_simp; (try with_reducible rfl)
        try simp only [Act.put, List.setIfInBounds_toArray, List.set_cons_zero, List.set_cons_succ]
        refine ready_at 12 rfl (by kernel_rfl) (fun K hK => ?_)
        go_simp
        refine (pressed_any _ _ _ _ _ _ _ _ _).mono ?_; rintro e w' ⟨rfl, hb⟩; have hb2 := below_call (W := W) (hHeld.2.2.2.2.2.2.2.2) hb
        refine hK.out _ _ ?_ (fun hHeld => ?_)
        · exact keep2 HG.out HK.out hb2
        clear hK K
        try simp only [Act.put, List.setIfInBounds_toArray, List.set_cons_zero, List.set_cons_succ]
        refine take_at 15 (v := ?_) rfl (by kernel_rfl) (by kernel_rfl) (by kernel_rfl) (fun _ _ _ h => h) (Or.inl ⟨by rfl, ?_⟩) (by with_reducible assumption) ?_
        rotate_left
        · intro w hSw; (try dsimp only at hSw); go_simp; (try with_reducible rfl)
        try simp only [Act.put, List.setIfInBounds_toArray, List.set_cons_zero, List.set_cons_succ]
        refine take_at 16 (v := undef) rfl (by kernel_rfl) (by kernel_rfl) (by kernel_rfl) (fun _ _ _ h => h) (Or.inr ⟨by rfl, rfl⟩) (by with_reducible assumption) ?_
        try simp only [Act.put, List.setIfInBounds_toArray, List.set_cons_zero, List.set_cons_succ]
        refine take_at 17 (v := undef) rfl (by kernel_rfl) (by kernel_rfl) (by kernel_rfl) (fun _ _ _ h => h) (Or.inr ⟨by rfl, rfl⟩) (by with_reducible assumption) ?_
        try simp only [Act.put, List.setIfInBounds_toArray, List.set_cons_zero, List.set_cons_succ]
        refine take_at 18 (v := undef) rfl (by kernel_rfl) (by kernel_rfl) (by kernel_rfl) (fun _ _ _ h => h) (Or.inr ⟨by rfl, rfl⟩) (by with_reducible assumption) ?_
        try simp only [Act.put, List.setIfInBounds_toArray, List.set_cons_zero, List.set_cons_succ]
        refine take_at 19 (v := ?_) rfl (by kernel_rfl) (by kernel_rfl) (by kernel_rfl) (fun _ _ _ h => h) (Or.inl ⟨by rfl, ?_⟩) (by with_reducible assumption) ?_
        rotate_left
        · intro w hSw; (try dsimp only at hSw); go_simp; (try with_reducible rfl)
        try simp only [Act.put, List.setIfInBounds_toArray, List.set_cons_zero, List.set_cons_succ]
        refine take_at 20 (v := ?_) rfl (by kernel_rfl) (by kernel_rfl) (by kernel_rfl) (fun _ _ _ h => h) (Or.inl ⟨by rfl, ?_⟩) (by with_reducible assumption) ?_
        rotate_left
        · intro w hSw; (try dsimp only at hSw); go_simp; (try with_reducible rfl)
        try simp only [Act.put, List.setIfInBounds_toArray, List.set_cons_zero, List.set_cons_succ]
        refine take_at 21 (v := ?_) rfl (by kernel_rfl) (by kernel_rfl) (by kernel_rfl) (fun _ _ _ h => h) (Or.inl ⟨by rfl, ?_⟩) (by with_reducible assumption) ?_
        rotate_left
        · intro w hSw; (try dsimp only at hSw); go_simp; (try with_reducible rfl)
        try simp only [Act.put, List.setIfInBounds_toArray, List.set_cons_zero, List.set_cons_succ]
        refine wpAnyH_done (by kernel_rfl) (NoPanic.normal ?_) _
        all_goals (go_wp2_with fail; go_meet)
        all_goals exact ⟨rfl, by with_reducible assumption⟩
      · go_region_held3 (fun w' => w'.cell? ⟨w.heap.size, 0, none⟩ = some (.int .u8 x) ∧ w'.cell? ⟨w.heap.size, 1, none⟩ = some (.int .u8 y) ∧ w'.cell? ⟨w.heap.size, 2, none⟩ = some (.bool true) ∧ w'.cell? ⟨w.heap.size, 3, none⟩ = some (.bool d) ∧ w'.cell? ⟨w.heap.size + 1, 0, none⟩ = some (.int .u8 a') ∧ w'.cell? ⟨w.heap.size + 1, 1, none⟩ = some (.int .u8 b') ∧ w'.cell? ⟨w.heap.size + 1, 2, none⟩ = some (.bool false) ∧ w'.cell? ⟨w.heap.size + 1, 3, none⟩ = some (.bool d') ∧ Below W.heap.size W w') ((refine keep2 HG.out HK.out ?_; repeat' (first | with_reducible assumption | with_reducible exact Below.refl _ _ | with_reducible exact Nat.le_refl _ | with_reducible refine Below.drew ?_ | with_reducible refine below_new ?_ _ | with_reducible refine Below.setCell ?_ ?_ _ | with_reducible exact Below.size (by with_reducible assumption))))
          (first
            | (go_at_call 10; refine (right_any _ _ _ _ _).mono ?_; rintro e w' ⟨rfl, hb⟩; have hb2 := below_call (W := W) (by repeat' (first | with_reducible assumption | with_reducible exact Below.refl _ _ | with_reducible exact Nat.le_refl _ | with_reducible refine Below.drew ?_ | with_reducible refine below_new ?_ _ | with_reducible refine Below.setCell ?_ ?_ _ | with_reducible exact Below.size (by with_reducible assumption))) hb)
            | (go_at_call 15; refine (rright_any _ _ _ _ _).mono ?_; rintro e w' ⟨rfl, hb⟩; have hb2 := below_call (W := W) (by repeat' (first | with_reducible assumption | with_reducible exact Below.refl _ _ | with_reducible exact Nat.le_refl _ | with_reducible refine Below.drew ?_ | with_reducible refine below_new ?_ _ | with_reducible refine Below.setCell ?_ ?_ _ | with_reducible exact Below.size (by with_reducible assumption))) hb)
            | (go_at_call 13; refine (pressed_any _ _ _ _ _ _ _ _ _).mono ?_; rintro e w' ⟨rfl, hb⟩; have hb2 := below_call (W := W) (by repeat' (first | with_reducible assumption | with_reducible exact Below.refl _ _ | with_reducible exact Nat.le_refl _ | with_reducible refine Below.drew ?_ | with_reducible refine below_new ?_ _ | with_reducible refine Below.setCell ?_ ?_ _ | with_reducible exact Below.size (by with_reducible assumption))) hb))
        all_goals (go_wp2_with fail; go_meet)
        all_goals exact ⟨rfl, by with_reducible assumption⟩
      · go_region_held3 (fun w' => w'.cell? ⟨w.heap.size, 0, none⟩ = some (.int .u8 x) ∧ w'.cell? ⟨w.heap.size, 1, none⟩ = some (.int .u8 y) ∧ w'.cell? ⟨w.heap.size, 2, none⟩ = some (.bool true) ∧ w'.cell? ⟨w.heap.size, 3, none⟩ = some (.bool d) ∧ w'.cell? ⟨w.heap.size + 1, 0, none⟩ = some (.int .u8 a') ∧ w'.cell? ⟨w.heap.size + 1, 1, none⟩ = some (.int .u8 b') ∧ w'.cell? ⟨w.heap.size + 1, 2, none⟩ = some (.bool true) ∧ w'.cell? ⟨w.heap.size + 1, 3, none⟩ = some (.bool d') ∧ Below W.heap.size W w') ((refine keep2 HG.out HK.out ?_; repeat' (first | with_reducible assumption | with_reducible exact Below.refl _ _ | with_reducible exact Nat.le_refl _ | with_reducible refine Below.drew ?_ | with_reducible refine below_new ?_ _ | with_reducible refine Below.setCell ?_ ?_ _ | with_reducible exact Below.size (by with_reducible assumption))))
          (first
            | (go_at_call 10; refine (right_any _ _ _ _ _).mono ?_; rintro e w' ⟨rfl, hb⟩; have hb2 := below_call (W := W) (by repeat' (first | with_reducible assumption | with_reducible exact Below.refl _ _ | with_reducible exact Nat.le_refl _ | with_reducible refine Below.drew ?_ | with_reducible refine below_new ?_ _ | with_reducible refine Below.setCell ?_ ?_ _ | with_reducible exact Below.size (by with_reducible assumption))) hb)
            | (go_at_call 15; refine (rright_any _ _ _ _ _).mono ?_; rintro e w' ⟨rfl, hb⟩; have hb2 := below_call (W := W) (by repeat' (first | with_reducible assumption | with_reducible exact Below.refl _ _ | with_reducible exact Nat.le_refl _ | with_reducible refine Below.drew ?_ | with_reducible refine below_new ?_ _ | with_reducible refine Below.setCell ?_ ?_ _ | with_reducible exact Below.size (by with_reducible assumption))) hb)
            | (go_at_call 13; refine (pressed_any _ _ _ _ _ _ _ _ _).mono ?_; rintro e w' ⟨rfl, hb⟩; have hb2 := below_call (W := W) (by repeat' (first | with_reducible assumption | with_reducible exact Below.refl _ _ | with_reducible exact Nat.le_refl _ | with_reducible refine Below.drew ?_ | with_reducible refine below_new ?_ _ | with_reducible refine Below.setCell ?_ ?_ _ | with_reducible exact Below.size (by with_reducible assumption))) hb))
        all_goals (go_wp2_with fail; go_meet)
        all_goals exact ⟨rfl, by with_reducible assumption⟩
    case rest =>
      obtain ⟨rfl, hbx2⟩ := hcut
      clear c0 c1 c2 c3 d0 d1 d2 d3 hB0
      obtain ⟨c0, c1, c2, c3, d0, d1, d2, d3, hB0⟩ := keep2 HG.out HK.out hbx2
      by_cases hr : x ≤ 63 ∧ y ≤ 63
      · have hr2 : (decide ((x : Int) ≤ 63) && decide ((y : Int) ≤ 63)) = true := by simp; omega
        go_wp2_with fail
        refine (rright_any _ _ _ _ _).mono ?_
        rintro e w1 ⟨rfl, hb⟩
        rw [hr2]
        have hB1 := below_call hB0 hb
        clear c0 c1 c2 c3 d0 d1 d2 d3
        obtain ⟨c0, c1, c2, c3, d0, d1, d2, d3, _⟩ := keep2 HG.out HK.out hB1
        go_wp2_with fail
        refine (text_any x y c d _ (by omega) (by omega) (by omega) (by omega)).mono ?_
        rintro e w2 ⟨rfl, hb⟩
        have hB2 := below_call hB1 hb
        go_wp2_with fail
        refine (parse_any _ m _ (text_size _ _ _ _) (keepW (World.block_lt_of_cell? W _ HM.out) HM.out hB2)).mono ?_
        rintro e w3 ⟨⟨a, b, p, q, n, hp, rfl⟩, hb⟩
        rw [parse_text x y c d (by omega) (by omega)] at hp
        simp only [Prod.mk.injEq] at hp
        obtain ⟨rfl, rfl, rfl, rfl, rfl⟩ := hp
        have hB3 := below_call hB2 hb
        clear c0 c1 c2 c3 d0 d1 d2 d3
        obtain ⟨c0, c1, c2, c3, d0, d1, d2, d3, _⟩ := keep2 HG.out HK.out hB3
        have hgl : w.heap.size < w3.heap.size := World.block_lt_of_cell? w3 _ c0
        go_wp2_with fail
        refine (rtext_any x y c d _ (by omega) (by omega) (by omega) (by omega)).mono ?_
        rintro e w4 ⟨rfl, hb⟩
        have hnk := new_kept hb
        have hB4 := below_call (below_new hB3 _) hb
        clear c0 c1 c2 c3 d0 d1 d2 d3
        obtain ⟨c0, c1, c2, c3, d0, d1, d2, d3, _⟩ := keep2 HG.out HK.out hB4
        have k0 := Lib.cell_of_heap hnk 0; have k1 := Lib.cell_of_heap hnk 1; have k2 := Lib.cell_of_heap hnk 2; have k3 := Lib.cell_of_heap hnk 3
        simp only [List.getElem?_toArray, List.getElem?_cons_zero, List.getElem?_cons_succ] at k0 k1 k2 k3
        clear hnk
        go_wp2_with fail
        go_ret
        exact ⟨rfl, hbw.trans (hB4.mono hbw.size)⟩
      · have hr2 : (decide ((x : Int) ≤ 63) && decide ((y : Int) ≤ 63)) = false := by
          rw [Bool.and_eq_false_iff]; simp; omega
        go_wp2_with fail
        refine (rright_any _ _ _ _ _).mono ?_
        rintro e w1 ⟨rfl, hb⟩
        rw [hr2]
        have hB1 := below_call hB0 hb
        go_wp2_with fail
        go_ret
        exact ⟨rfl, hbw.trans (hB1.mono hbw.size)⟩

#print axioms parses_any
#print axioms tells_any
end Go.Proofs.YthmbgcmhdmekmaaDoor
