/-
  The walk of pads.Parse over the seat's dump.
-/
import Derived.Test.YthmbgcmhdmekmaaDoorC
import Derived.Deep.DeepCutAuto
namespace Go.Proofs.YthmbgcmhdmekmaaDoor
open Go.RowKit

theorem or_bit (k : Nat) (hk : k < 6) (n : Int) (h0 : 0 ≤ n) (h1 : n < 2 ^ k) : bits BinOp.or IntKind.u8 n (2 ^ k % 256) = n + 2 ^ k := by
  have h : ∀ (k : Fin 6) (n : Fin 32), (n.1 : Int) < 2 ^ k.1 → bits BinOp.or IntKind.u8 (n.1 : Int) (2 ^ k.1 % 256) = (n.1 : Int) + 2 ^ k.1 := by decide +kernel
  have h32 : (2 : Int) ^ k ≤ 32 := by
    match k, hk with
    | 0, _ | 1, _ | 2, _ | 3, _ | 4, _ | 5, _ => decide
  have h2 := h ⟨k, hk⟩ ⟨n.toNat, by omega⟩
  rw [show (((⟨n.toNat, by omega⟩ : Fin 32).1 : Nat) : Int) = n from Int.toNat_of_nonneg h0] at h2
  exact h2 h1

theorem numAt_succ (s : ByteArray) (k : Nat) (hk : k < 6) (h : 0 ≤ numAt s k ∧ numAt s k < 2 ^ k) :
    numAt s (k + 1) = numAt s k + (if hasFrom s (letter k) s.size 0 = true then 2 ^ k else 0) := by
  rw [numAt]
  split
  · rw [or_bit k hk _ h.1 h.2]
  · omega

theorem numAt_bd (s : ByteArray) : ∀ k, k ≤ 6 → 0 ≤ numAt s k ∧ numAt s k < 2 ^ k
  | 0, _ => by simp [numAt]
  | k + 1, h => by
    have ih := numAt_bd s k (by omega)
    rw [numAt_succ s k (by omega) ih]
    have h2 : (2 : Int) ^ (k + 1) = 2 ^ k + 2 ^ k := by rw [Int.pow_succ]; omega
    have hp : (0 : Int) < 2 ^ k := Int.pow_pos (by omega)
    split <;> omega

def partsOf (s : ByteArray) : List ByteArray := Lib.splitB ⟨#[32]⟩ 0 (Lib.countB s ⟨#[32]⟩) s
def anyEq (c : UInt8) (l : List ByteArray) : Bool := l.any fun x => x.toList == [c]
/-- What pads.Parse answers: One, Two, Pause, Reset, the error. -/
def parseOf (s : ByteArray) : Int × Int × Bool × Bool × Int :=
  match partsOf s with
  | x :: y :: r =>
    let a := numAt x 6
    let b := numAt y 6
    let c := anyEq 80 r
    let d := anyEq 82 r
    if textL a b c d = s.toList then (a, b, c, d, 0) else (0, 0, false, false, 211)
  | _ => (0, 0, false, false, 211)

theorem parts_len (s : ByteArray) : (partsOf s).length = Lib.countB s ⟨#[32]⟩ + 1 := Lib.splitB_all ⟨#[32]⟩ (by decide) 0 _ s rfl

theorem parts_size (s x : ByteArray) (h : x ∈ partsOf s) (hs : s.size ≤ 40) : x.size ≤ 40 := by
  have hk : ∀ (k : Nat) (s : ByteArray), s.size ≤ 40 → ∀ x ∈ Lib.splitB ⟨#[32]⟩ 0 k s, x.size ≤ 40 := by
    intro k
    induction k with
    | zero =>
      intro s hs x hx
      simp [Lib.splitB] at hx
      rw [hx]; exact hs
    | succ k ih =>
      intro s hs x hx
      unfold Lib.splitB at hx
      split at hx
      · simp at hx
        rw [hx]; exact hs
      · simp only [List.mem_cons] at hx
        rcases hx with rfl | hx
        · simp [ByteArray.size_extract]; omega
        · exact ih _ (by simp [ByteArray.size_extract]; omega) x hx
  exact hk _ s hs x h

theorem keepW {W w' : World} {b o : Nat} {v : Value} (hlt : b < W.heap.size) (h : W.cell? ⟨b, o, none⟩ = some v) (hb : Below W.heap.size W w') : w'.cell? ⟨b, o, none⟩ = some v :=
  (hb.cell (p := ⟨b, o, none⟩) hlt).trans h
theorem below_call {W W1 w' : World} (h : Below W.heap.size W W1) (hb : Below W1.heap.size W1 w') : Below W.heap.size W w' := h.trans (hb.mono h.size)
theorem below_new {W W1 : World} (h : Below W.heap.size W W1) (o : Obj) : Below W.heap.size W (W1.alloc o) := h.alloc h.size o
theorem new_kept {X w' : World} {cs : Array Value} {T : TypeId} (hb : Below (X.alloc (.cells cs T)).heap.size (X.alloc (.cells cs T)) w') : w'.heap[X.heap.size]? = some (.cells cs T (0, 0)) :=
  (hb.block X.heap.size (by simp)).trans (heap_alloc_new X _)
theorem new_kept_drew {X w' : World} {cs : Array Value} {T : TypeId} (hb : Below (X.alloc (.cells cs T)).drew.heap.size (X.alloc (.cells cs T)).drew w') : w'.heap[X.heap.size]? = some (.cells cs T (0, 0)) :=
  (hb.block X.heap.size (by show _ < (X.alloc (.cells cs T)).heap.size; simp)).trans (heap_alloc_new X _)
theorem keepS {W w' : World} {b : Nat} {v0 v1 : Value} (hlt : b < W.heap.size) (h0 : W.cell? ⟨b, 0, none⟩ = some v0) (h1 : W.cell? ⟨b, 1, none⟩ = some v1) (hb : Below W.heap.size W w') :
    w'.cell? ⟨b, 0, none⟩ = some v0 ∧ w'.cell? ⟨b, 1, none⟩ = some v1 ∧ Below W.heap.size W w' := ⟨keepW hlt h0 hb, keepW hlt h1 hb, hb⟩
theorem set_known {w : World} {g : Nat} {cs : Array Value} {T : TypeId} {fr : Nat × Nat} (h : w.heap[g]? = some (.cells cs T fr)) (i : Nat) (v : Value) :
    (w.setCell ⟨g, i, none⟩ v).heap[g]? = some (.cells (cs.setIfInBounds i v) T fr) := by
  simp [World.setCell, Array.getElem?_modify, h]
theorem stored4 {W w' : World} {g : Nat} {v0 v1 v2 v3 u0 u1 u2 u3 : Value} {T : TypeId} (h : w'.heap[g]? = some (.cells #[v0, v1, v2, v3] T (0, 0))) (hb : Below W.heap.size W w') (hg : W.heap.size ≤ g) :
    ((((w'.setCell ⟨g, 0, none⟩ u0).setCell ⟨g, 1, none⟩ u1).setCell ⟨g, 2, none⟩ u2).setCell ⟨g, 3, none⟩ u3).heap[g]? = some (.cells #[u0, u1, u2, u3] T (0, 0)) ∧
    Below W.heap.size W ((((w'.setCell ⟨g, 0, none⟩ u0).setCell ⟨g, 1, none⟩ u1).setCell ⟨g, 2, none⟩ u2).setCell ⟨g, 3, none⟩ u3) :=
  ⟨set_known (set_known (set_known (set_known h 0 _) 1 _) 2 _) 3 _, (((hb.setCell hg _).setCell hg _).setCell hg _).setCell hg _⟩
/-- Four cells of a known block are written over. -/
theorem stored4' {w w' : World} {g : Nat} {v0 v1 v2 v3 u0 u1 u2 u3 : Value} {T : TypeId} (h : w'.heap[g]? = some (.cells #[v0, v1, v2, v3] T (0, 0))) (hb : Below w.heap.size w w') (hg : w.heap.size ≤ g) :
    (∀ j, ((((w'.setCell ⟨g, 0, none⟩ u0).setCell ⟨g, 1, none⟩ u1).setCell ⟨g, 2, none⟩ u2).setCell ⟨g, 3, none⟩ u3).cell? ⟨g, j, none⟩ = (#[u0, u1, u2, u3] : Array Value)[j]?) ∧
    Below w.heap.size w ((((w'.setCell ⟨g, 0, none⟩ u0).setCell ⟨g, 1, none⟩ u1).setCell ⟨g, 2, none⟩ u2).setCell ⟨g, 3, none⟩ u3) :=
  ⟨fun j => Lib.cell_of_heap (stored4 h hb hg).1 j, (stored4 h hb hg).2⟩
theorem stored2 {W w' : World} {g : Nat} {v0 v1 v2 v3 u2 u3 : Value} {T : TypeId} (h : w'.heap[g]? = some (.cells #[v0, v1, v2, v3] T (0, 0))) (hb : Below W.heap.size W w') (hg : W.heap.size ≤ g) :
    ((w'.setCell ⟨g, 2, none⟩ u2).setCell ⟨g, 3, none⟩ u3).heap[g]? = some (.cells #[v0, v1, u2, u3] T (0, 0)) ∧
    Below W.heap.size W ((w'.setCell ⟨g, 2, none⟩ u2).setCell ⟨g, 3, none⟩ u3) :=
  ⟨set_known (set_known h 2 _) 3 _, (hb.setCell hg _).setCell hg _⟩
theorem any_succ (ch : UInt8) (r : List ByteArray) (k : Nat) (z : ByteArray) (h : r[k]? = some z) : anyEq ch (r.take (k + 1)) = (anyEq ch (r.take k) || (z.toList == [ch])) := by
  have h2 : r.take (k + 1) = r.take k ++ [z] := by rw [List.take_add_one, h]; rfl
  rw [h2]; simp [anyEq]
theorem parse_val {s x y : ByteArray} {r : List ByteArray} (hp : partsOf s = x :: y :: r) :
    parseOf s = if textL (numAt x 6) (numAt y 6) (anyEq 80 r) (anyEq 82 r) = s.toList then (numAt x 6, numAt y 6, anyEq 80 r, anyEq 82 r, 0) else (0, 0, false, false, 211) := by
  unfold parseOf
  rw [hp]
theorem next_kept {w1 w' : World} {g : Nat} {o : Obj} (h : w1.heap[g]? = some o) (hb : Below w1.heap.size w1 w') : w'.heap[g]? = some o :=
  (hb.block g (Array.getElem?_eq_some_iff.1 h).1).trans h
/-- What the world holds behind Split. -/
structure Splitted (w : World) (l : List ByteArray) (W : World) : Prop where
  below : Below w.heap.size w W
  size : W.heap.size = w.heap.size + 2
  res : W.heap[w.heap.size]? = some (.cells #[.int .u8 0, .int .u8 0, .bool false, .bool false] 24 (0, 0))
  cell : ∀ (k : Nat) x, l[k]? = some x → W.cell? ⟨w.heap.size + 1, k, none⟩ = some (.string x)

theorem splitted (w : World) (l : List ByteArray) :
    Splitted w l ((w.alloc (Obj.cells #[Value.int IntKind.u8 0, Value.int IntKind.u8 0, Value.bool false, Value.bool false] 24)).alloc (.cells (l.map Value.string).toArray 9)) where
  below := ((Below.refl _ w).alloc (Nat.le_refl _) _).alloc (by simp) _
  size := by simp
  res := by
    rw [Below.heap_alloc _ _ _ (by simp)]
    exact heap_alloc_new w _
  cell := by
    intro k x h
    have hh := heap_alloc_new (w.alloc (Obj.cells #[Value.int IntKind.u8 0, Value.int IntKind.u8 0, Value.bool false, Value.bool false] 24)) (.cells (l.map Value.string).toArray 9)
    simp only [World.size_alloc] at hh
    simp only [World.cell?, hh]
    simp [h]

set_option maxHeartbeats 1000000 in
set_option maxRecDepth 100000 in
theorem parse_two (s : ByteArray) (x y : ByteArray) (r : List ByteArray) (m : Int) (w : World) (hs : s.size ≤ 40) (hm : w.cell? ⟨0, 0, none⟩ = some (.int .i64 m)) (hp : partsOf s = x :: y :: r) :
    Calls Tryd.prog 8 #[.string s] w fun e w' => (∃ a b c d n, parseOf s = (a, b, c, d, n) ∧ e = .returned (.tuple #[.agg #[.int .u8 a, .int .u8 b, .bool c, .bool d], .int .i64 n])) ∧ Below w.heap.size w w' := by
  have hm2 : ∀ o, (w.alloc o).cell? ⟨0, 0, none⟩ = some (.int .i64 m) := fun o => (World.cell?_alloc_some _ _ _ (by rw [hm]; rfl)).trans hm
  have hlen := parts_len s
  rw [hp] at hlen
  have hlen2 : Lib.countB s ⟨#[32]⟩ + 1 = r.length + 2 := by simp at hlen; omega
  have hrl : r.length ≤ 40 := by have := Lib.countB_le ⟨#[32]⟩ (by decide) _ s (Nat.le_refl _); omega
  have HL := Lib.hid hlen2; clear hlen hlen2
  have HP := Lib.hid hp; clear hp
  go_enter Tryd.func8, Tryd.ntmps8
  go_wp2_with fail
  refine (Tryd.strings_Split s { data := #[32] } m _ (by omega) (hm2 _) (by decide)).mono ?_
  rintro e W ⟨rfl, hW⟩
  rw [HL.out]
  have hS : Splitted w (x :: y :: r) W := by
    rw [hW, ← HP.out]; exact splitted w _
  clear hW
  have hS0 := hS.cell 0 x rfl
  have hS1 := hS.cell 1 y rfl
  have hSz := hS.size
  have hxs := parts_size s x (by rw [HP.out]; simp) hs
  have hys := parts_size s y (by rw [HP.out]; simp) hs
  have HZ := Lib.hid hSz; clear hSz
  have hlt : w.heap.size + 1 < W.heap.size := by have := HZ.out; omega
  obtain ⟨N, hN⟩ : ∃ N, N = r.length + 2 := ⟨_, rfl⟩
  rw [← hN]
  have hN0 : (0 : Int) < (N : Int) := by omega
  have hN1 : (1 : Int) < (N : Int) := by omega
  have hN2 : (2 : Int) ≤ (N : Int) := by omega
  have hN3 : 0 < N := by omega
  have hN4 : 1 < N := by omega
  have HN := Lib.hid hN; clear hN
  have hB0 : Below W.heap.size W W.drew := (Below.refl _ W).drew
  go_upto_region 4 with fail
  go_cut [5] (fun p wx => ∃ g : Nat, p = .pointer (some ⟨g, 0, none⟩) ∧ W.heap.size ≤ g ∧ wx.heap[g]? = some (.cells #[.int .u8 (numAt x 6), .int .u8 (numAt y 6), .bool false, .bool false] 24 (0, 0)) ∧ Below W.heap.size W wx)
  case first =>
    go_region_held3 (fun w' => w'.cell? ⟨w.heap.size + 1, 0, none⟩ = some (.string x) ∧ w'.cell? ⟨w.heap.size + 1, 1, none⟩ = some (.string y) ∧ Below W.heap.size W w') ((refine keepS hlt hS0 hS1 ?_; repeat' (first | with_reducible assumption | with_reducible exact Below.refl _ _ | with_reducible exact Nat.le_refl _ | with_reducible refine Below.drew ?_ | with_reducible refine below_new ?_ _ | with_reducible refine Below.setCell ?_ ?_ _ | with_reducible exact Below.size (by with_reducible assumption))))
      (first
        | (go_at_call_of 18 (Value.string x); refine (number_any x _ (by unfold maxLen; omega)).mono ?_; rintro e w' ⟨rfl, hb⟩; have hb2 := below_call (W := W) (by repeat' (first | with_reducible assumption | with_reducible exact Below.refl _ _ | with_reducible exact Nat.le_refl _ | with_reducible refine Below.drew ?_ | with_reducible refine below_new ?_ _ | with_reducible refine Below.setCell ?_ ?_ _ | with_reducible exact Below.size (by with_reducible assumption))) hb; (try ((first | (with_reducible have hnk := new_kept hb) | (with_reducible have hnk := new_kept_drew hb) | (have hnk := next_kept (o := .cells #[.int .u8 0, .int .u8 0, .bool false, .bool false] 24 (0, 0)) (by with_reducible assumption) hb)); have k0 := Lib.cell_of_heap hnk 0; have k1 := Lib.cell_of_heap hnk 1; have k2 := Lib.cell_of_heap hnk 2; have k3 := Lib.cell_of_heap hnk 3; have kf := Lib.frozen_of_heap hnk; simp only [List.getElem?_toArray, List.getElem?_cons_zero, List.getElem?_cons_succ] at k0 k1 k2 k3)))
        | (go_at_call_of 18 (Value.string y); refine (number_any y _ (by unfold maxLen; omega)).mono ?_; rintro e w' ⟨rfl, hb⟩; have hb2 := below_call (W := W) (by repeat' (first | with_reducible assumption | with_reducible exact Below.refl _ _ | with_reducible exact Nat.le_refl _ | with_reducible refine Below.drew ?_ | with_reducible refine below_new ?_ _ | with_reducible refine Below.setCell ?_ ?_ _ | with_reducible exact Below.size (by with_reducible assumption))) hb; (try ((first | (with_reducible have hnk := new_kept hb) | (with_reducible have hnk := new_kept_drew hb) | (have hnk := next_kept (o := .cells #[.int .u8 0, .int .u8 0, .bool false, .bool false] 24 (0, 0)) (by with_reducible assumption) hb)); have k0 := Lib.cell_of_heap hnk 0; have k1 := Lib.cell_of_heap hnk 1; have k2 := Lib.cell_of_heap hnk 2; have k3 := Lib.cell_of_heap hnk 3; have kf := Lib.frozen_of_heap hnk; simp only [List.getElem?_toArray, List.getElem?_cons_zero, List.getElem?_cons_succ] at k0 k1 k2 k3))))
    all_goals (go_wp2_with fail; go_meet)
    · exact ⟨_, rfl, Below.size (by with_reducible assumption), heap_alloc_new _ _, below_new (by with_reducible assumption) _⟩
    · refine ⟨_, rfl, ?_, stored4 hnk hb2 ?_⟩ <;> exact Below.size (by with_reducible assumption)
    · refine ⟨_, rfl, ?_, stored4 hnk hb2 ?_⟩ <;> exact Nat.le_refl _
  case rest =>
    obtain ⟨g, rfl, hg1, hg2, hg3⟩ := hcut
    have hbd0 := numAt_bd x 6 (Nat.le_refl _)
    have hbd1 := numAt_bd y 6 (Nat.le_refl _)
    generalize ha : numAt x 6 = a at *
    generalize hb : numAt y 6 = b at *
    have HA := Lib.hid ha; clear ha
    have HB := Lib.hid hb; clear hb
    by_cases hz : N = 2
    · have hr0 : r = [] := List.eq_nil_of_length_eq_zero (by have := HN.out; omega)
      subst hz
      have hq1 := hg2
      have hq2 := hg3
      have c0 := Lib.cell_of_heap hq1 0; have c1 := Lib.cell_of_heap hq1 1; have c2 := Lib.cell_of_heap hq1 2; have c3 := Lib.cell_of_heap hq1 3; have cf := Lib.frozen_of_heap hq1
      simp only [List.getElem?_toArray, List.getElem?_cons_zero, List.getElem?_cons_succ] at c0 c1 c2 c3
      have HR0 := Lib.hid hr0; clear hr0
      go_wp2_with fail
      refine wp_loop_rounds 1 ?_
      rw [rounds_succ]
      have HR := Lib.hid ((hq2.block w.heap.size (by omega)).trans hS.res)
      go_wp2_with fail
      refine (text_any a b false false _ (by omega) (by omega) (by omega) (by omega)).mono ?_
      rintro e w1 ⟨rfl, hb1⟩
      have hg4 := next_kept hq1 hb1
      have hr4 := next_kept HR.out hb1
      have hb4 := below_call hq2 hb1
      have c0 := Lib.cell_of_heap hg4 0; have c1 := Lib.cell_of_heap hg4 1; have c2 := Lib.cell_of_heap hg4 2; have c3 := Lib.cell_of_heap hg4 3; have cf := Lib.frozen_of_heap hg4
      have r0 := Lib.cell_of_heap hr4 0; have r1 := Lib.cell_of_heap hr4 1; have r2 := Lib.cell_of_heap hr4 2; have r3 := Lib.cell_of_heap hr4 3; have rf := Lib.frozen_of_heap hr4
      simp only [List.getElem?_toArray, List.getElem?_cons_zero, List.getElem?_cons_succ] at c0 c1 c2 c3 r0 r1 r2 r3
      have hgw : w1.heap.size > g := (Array.getElem?_eq_some_iff.1 hg4).1
      have hpv := parse_val HP.out
      rw [HA.out, HB.out, HR0.out, show ∀ ch, anyEq ch [] = false from fun _ => rfl, show ∀ ch, anyEq ch [] = false from fun _ => rfl] at hpv
      have HV := Lib.hid hpv; clear hpv
      have hbw : Below w.heap.size w w1 := hS.below.trans (hb4.mono (by omega))
      cases htx : (textL a b false false == s.toList)
      · go_wp2_with fail
        obtain ⟨hx, hbx⟩ := stored4' (u0 := .int .u8 0) (u1 := .int .u8 0) (u2 := .bool false) (u3 := .bool false) hr4 hbw (Nat.le_refl _)
        refine bodyPost_ret (v := .tuple #[.agg #[.int .u8 0, .int .u8 0, .bool false, .bool false], .int .i64 211]) (by simp [results, Tryd.results8, go_sem, hx]) rfl ⟨⟨0, 0, false, false, 211, ?_, rfl⟩, hbx⟩
        rw [HV.out, if_neg (by simpa using htx)]
      · go_wp2_with fail
        obtain ⟨hx, hbx⟩ := stored4' (u0 := .int .u8 a) (u1 := .int .u8 b) (u2 := .bool false) (u3 := .bool false) hr4 hbw (Nat.le_refl _)
        refine bodyPost_ret (v := .tuple #[.agg #[.int .u8 a, .int .u8 b, .bool false, .bool false], .int .i64 0]) (by simp [results, Tryd.results8, go_sem, hx]) rfl ⟨⟨a, b, false, false, 0, ?_, rfl⟩, hbx⟩
        rw [HV.out, if_pos (by simpa using htx)]
    · have hz2 : ¬ ((N : Int) = 2) := by omega
      have hz3 : 2 < N := by omega
      go_wp2_with fail
      go_loopw [26] (fun v wr => ∃ (k : Nat) (c d : Bool), k ≤ r.length ∧ v = .int .i64 k ∧ wr.heap[g]? = some (.cells #[.int .u8 a, .int .u8 b, .bool c, .bool d] 24 (0, 0)) ∧ Below W.heap.size W wr ∧ anyEq 80 (r.take k) = c ∧ anyEq 82 (r.take k) = d) (fun v _ => r.length - (intOf v).toNat)
      case atStart => exact ⟨0, false, false, by omega, rfl, hg2, hg3, rfl, rfl⟩
      case round =>
        obtain ⟨k, c, d, hk, rfl, hq1, hq2, hc, hd⟩ := hrel
        have HC := Lib.hid hc; clear hc
        have HD := Lib.hid hd; clear hd
        have c0 := Lib.cell_of_heap hq1 0; have c1 := Lib.cell_of_heap hq1 1; have c2 := Lib.cell_of_heap hq1 2; have c3 := Lib.cell_of_heap hq1 3; have cf := Lib.frozen_of_heap hq1
        simp only [List.getElem?_toArray, List.getElem?_cons_zero, List.getElem?_cons_succ] at c0 c1 c2 c3
        by_cases hkr : k < r.length
        · have hkN : k < N - 2 := by have := HN.out; omega
          have hkb : k < 60 := by omega
          obtain ⟨z, hzk⟩ : ∃ z, r[k]? = some z := ⟨r[k], by simp [hkr]⟩
          have hcz := keepW hlt (hS.cell (2 + k) z (by rw [Nat.add_comm]; simpa using hzk)) hq2
          have HZK := Lib.hid hzk; clear hzk
          cases c <;> cases d <;> cases hz8 : (z.toList == [80]) <;> cases hz9 : (z.toList == [82])
          all_goals go_wp2_with fail
          all_goals
            go_roundw
            case rel =>
              obtain ⟨e1, e2⟩ := stored2 hq1 hq2 hg1
              exact ⟨k + 1, _, _, by omega, by go_num, e1, e2, by rw [any_succ 80 r k z HZK.out, HC.out, hz8]; rfl, by rw [any_succ 82 r k z HZK.out, HD.out, hz9]; rfl⟩
            case measure => simp [intOf]; omega
        · obtain rfl : k = r.length := by omega
          have hkN : ¬ (r.length < N - 2) := by have := HN.out; omega
          have HR := Lib.hid ((hq2.block w.heap.size (by omega)).trans hS.res)
          go_wp2_with fail
          refine (text_any a b c d _ (by omega) (by omega) (by omega) (by omega)).mono ?_
          rintro e w1 ⟨rfl, hb1⟩
          have hg4 := next_kept hq1 hb1
          have hr4 := next_kept HR.out hb1
          have hb4 := below_call hq2 hb1
          clear c0 c1 c2 c3 cf
          have c0 := Lib.cell_of_heap hg4 0; have c1 := Lib.cell_of_heap hg4 1; have c2 := Lib.cell_of_heap hg4 2; have c3 := Lib.cell_of_heap hg4 3; have cf := Lib.frozen_of_heap hg4
          have r0 := Lib.cell_of_heap hr4 0; have r1 := Lib.cell_of_heap hr4 1; have r2 := Lib.cell_of_heap hr4 2; have r3 := Lib.cell_of_heap hr4 3; have rf := Lib.frozen_of_heap hr4
          simp only [List.getElem?_toArray, List.getElem?_cons_zero, List.getElem?_cons_succ] at c0 c1 c2 c3 r0 r1 r2 r3
          have hgw : w1.heap.size > g := (Array.getElem?_eq_some_iff.1 hg4).1
          have hpv := parse_val HP.out
          rw [HA.out, HB.out, ← List.take_length (l := r), HC.out, HD.out] at hpv
          have HV := Lib.hid hpv; clear hpv
          have hbw : Below w.heap.size w w1 := hS.below.trans (hb4.mono (by omega))
          cases htx : (textL a b c d == s.toList)
          · go_wp2_with fail
            obtain ⟨hx, hbx⟩ := stored4' (u0 := .int .u8 0) (u1 := .int .u8 0) (u2 := .bool false) (u3 := .bool false) hr4 hbw (Nat.le_refl _)
            refine bodyPost_ret (v := .tuple #[.agg #[.int .u8 0, .int .u8 0, .bool false, .bool false], .int .i64 211]) (by simp [results, Tryd.results8, go_sem, hx]) rfl ⟨⟨0, 0, false, false, 211, ?_, rfl⟩, hbx⟩
            rw [HV.out, if_neg (by simpa using htx)]
          · go_wp2_with fail
            obtain ⟨hx, hbx⟩ := stored4' (u0 := .int .u8 a) (u1 := .int .u8 b) (u2 := .bool c) (u3 := .bool d) hr4 hbw (Nat.le_refl _)
            refine bodyPost_ret (v := .tuple #[.agg #[.int .u8 a, .int .u8 b, .bool c, .bool d], .int .i64 0]) (by simp [results, Tryd.results8, go_sem, hx]) rfl ⟨⟨a, b, c, d, 0, ?_, rfl⟩, hbx⟩
            rw [HV.out, if_pos (by simpa using htx)]

set_option maxHeartbeats 1000000 in
set_option maxRecDepth 100000 in
theorem parse_one (s : ByteArray) (x : ByteArray) (m : Int) (w : World) (hs : s.size ≤ 40) (hm : w.cell? ⟨0, 0, none⟩ = some (.int .i64 m)) (hp : partsOf s = [x]) :
    Calls Tryd.prog 8 #[.string s] w fun e w' => (∃ a b c d n, parseOf s = (a, b, c, d, n) ∧ e = .returned (.tuple #[.agg #[.int .u8 a, .int .u8 b, .bool c, .bool d], .int .i64 n])) ∧ Below w.heap.size w w' := by
  have hm2 : ∀ o, (w.alloc o).cell? ⟨0, 0, none⟩ = some (.int .i64 m) := fun o => (World.cell?_alloc_some _ _ _ (by rw [hm]; rfl)).trans hm
  have hlen := parts_len s
  rw [hp] at hlen
  have hlen2 : Lib.countB s ⟨#[32]⟩ + 1 = 1 := by simp at hlen; omega
  have HL := Lib.hid hlen2; clear hlen hlen2
  have HP := Lib.hid hp; clear hp
  go_enter Tryd.func8, Tryd.ntmps8
  go_wp2_with fail
  refine (Tryd.strings_Split s { data := #[32] } m _ (by omega) (hm2 _) (by decide)).mono ?_
  rintro e W ⟨rfl, hW⟩
  rw [HL.out]
  have hS : Splitted w [x] W := by
    rw [hW, ← HP.out]; exact splitted w _
  clear hW
  have hr4 := hS.res
  have hbw := hS.below
  have r0 := Lib.cell_of_heap hr4 0; have r1 := Lib.cell_of_heap hr4 1; have r2 := Lib.cell_of_heap hr4 2; have r3 := Lib.cell_of_heap hr4 3; have rf := Lib.frozen_of_heap hr4
  simp only [List.getElem?_toArray, List.getElem?_cons_zero, List.getElem?_cons_succ] at r0 r1 r2 r3
  go_wp2_with fail
  obtain ⟨hx, hbx⟩ := stored4' (u0 := .int .u8 0) (u1 := .int .u8 0) (u2 := .bool false) (u3 := .bool false) hr4 hbw (Nat.le_refl _)
  refine bodyPost_ret (v := .tuple #[.agg #[.int .u8 0, .int .u8 0, .bool false, .bool false], .int .i64 211]) (by simp [results, Tryd.results8, go_sem, hx]) rfl ⟨⟨0, 0, false, false, 211, ?_, rfl⟩, hbx⟩
  unfold parseOf
  rw [HP.out]

theorem parse_any (s : ByteArray) (m : Int) (w : World) (hs : s.size ≤ 40) (hm : w.cell? ⟨0, 0, none⟩ = some (.int .i64 m)) :
    Calls Tryd.prog 8 #[.string s] w fun e w' => (∃ a b c d n, parseOf s = (a, b, c, d, n) ∧ e = .returned (.tuple #[.agg #[.int .u8 a, .int .u8 b, .bool c, .bool d], .int .i64 n])) ∧ Below w.heap.size w w' := by
  have hlen := parts_len s
  match hp : partsOf s with
  | [] => rw [hp] at hlen; simp at hlen
  | [x] => exact parse_one s x m w hs hm hp
  | x :: y :: r => exact parse_two s x y r m w hs hm hp
#print axioms parse_any
end Go.Proofs.YthmbgcmhdmekmaaDoor
