/-
  The walk of the law PadsNames.
-/
import Derived.Test.YthmbgcmhdmekmaaDoorG
namespace Go.Proofs.YthmbgcmhdmekmaaDoor
open Go.RowKit

theorem keep1 {W w' : World} {g : Nat} {a0 a1 a2 a3 : Value} {T : TypeId} (h0 : W.heap[g]? = some (.cells #[a0, a1, a2, a3] T (0, 0))) (hb : Below W.heap.size W w') :
    w'.cell? ⟨g, 0, none⟩ = some a0 ∧ w'.cell? ⟨g, 1, none⟩ = some a1 ∧ w'.cell? ⟨g, 2, none⟩ = some a2 ∧ w'.cell? ⟨g, 3, none⟩ = some a3 ∧ g < w'.heap.size := by
  have e0 := keep_block h0 hb
  exact ⟨Lib.cell_of_heap e0 0, Lib.cell_of_heap e0 1, Lib.cell_of_heap e0 2, Lib.cell_of_heap e0 3, (Array.getElem?_eq_some_iff.1 e0).1⟩

set_option maxHeartbeats 2000000 in
set_option maxRecDepth 100000 in
theorem names_any (m : Int) (w : World) (hm : w.cell? ⟨0, 0, none⟩ = some (.int .i64 m)) :
    Calls Tryd.prog 5 #[] w fun e w' => e = .returned (.bool true) ∧ Below w.heap.size w w' := by
  have p1 : parseOf ⟨#[85, 45, 32, 45]⟩ = (0, 0, false, false, 211) := by decide +kernel
  have p2 : parseOf ⟨#[45, 32, 68, 82, 50, 32, 80, 32, 82]⟩ = (0, 42, true, true, 0) := by decide +kernel
  have q1 : portF 0 42 true true = 229 := by decide +kernel
  have HM := Lib.hid hm; clear hm
  go_enter Tryd.func5, Tryd.ntmps5
  go_wp2_with fail
  refine (parse_any _ m _ (by decide) HM.out).mono ?_
  rintro e w1 ⟨⟨a, b, c, d, n, hp, rfl⟩, hb1⟩
  rw [p1] at hp
  simp only [Prod.mk.injEq] at hp
  obtain ⟨rfl, rfl, rfl, rfl, rfl⟩ := hp
  have hB1 := hb1
  go_wp2_with fail
  refine (parse_any _ m _ (by decide) (keepW (World.block_lt_of_cell? w _ HM.out) HM.out (below_new hB1 _))).mono ?_
  rintro e w2 ⟨⟨a, b, c, d, n, hp, rfl⟩, hb2⟩
  rw [p2] at hp
  simp only [Prod.mk.injEq] at hp
  obtain ⟨rfl, rfl, rfl, rfl, rfl⟩ := hp
  have hB2 := below_call (below_new hB1 _) hb2
  go_wp2_with fail
  refine (alive_any _).mono ?_
  rintro e W ⟨rfl, hb3⟩
  have hk := new_kept hb3
  have HK := Lib.hid hk; clear hk
  have hBW := below_call (below_new hB2 _) hb3
  obtain ⟨c0, c1, c2, c3, hlt⟩ := keep1 HK.out (Below.refl _ W)
  go_wp2_with fail
  refine (right_any _ _ _ _ _).mono ?_
  rintro e w4 ⟨rfl, hb4⟩
  clear c0 c1 c2 c3 hlt
  obtain ⟨c0, c1, c2, c3, hlt⟩ := keep1 HK.out hb4
  go_wp2_with fail
  refine (right_any 64 0 false false _).mono ?_
  rintro e w5 ⟨rfl, hb5⟩
  have hB5 := below_call hb4 hb5
  clear c0 c1 c2 c3 hlt
  obtain ⟨c0, c1, c2, c3, hlt⟩ := keep1 HK.out hB5
  go_wp2_with fail
  refine (port_any _ _ _ _ _ _ (by omega) (by omega) (by omega) (by omega)).mono ?_
  rintro e w6 ⟨rfl, hb6⟩
  rw [q1]
  have hB6 := below_call hB5 hb6
  clear c0 c1 c2 c3 hlt
  obtain ⟨c0, c1, c2, c3, hlt⟩ := keep1 HK.out hB6
  go_wp2_with fail
  refine (pressed_any 0 0 false false 0 42 true true _).mono ?_
  rintro e w7 ⟨rfl, hb7⟩
  have hB7 := below_call hB6 hb7
  clear c0 c1 c2 c3 hlt
  obtain ⟨c0, c1, c2, c3, hlt⟩ := keep1 HK.out hB7
  go_wp2_with fail
  refine (pressed_any 0 42 true true 0 42 true true _).mono ?_
  rintro e w8 ⟨rfl, hb8⟩
  have hB8 := below_call hB7 hb8
  go_wp2_with fail
  go_ret
  exact ⟨rfl, hBW.trans (hB8.mono hBW.size)⟩
#print axioms names_any
end Go.Proofs.YthmbgcmhdmekmaaDoor
