/-
  It is proved that the law PadsWords of the pads answers true at every input, and that its arguments read as before; on the condition that the listed package-level variables hold what the program's text lays in them, and the card ties them to that text.
-/
import Derived.Test.YthmbgcmhdmekmaaDoorCards
import Derived.Test.YthmbgcmhdmekmaaDoorTie
import Derived.Test.YthmbgcmhdmekmaaDoorI
import Derived.ProofKit
import Derived.OpenShut
import Derived.Lib.SmallJoins
import Derived.Deep.DeepHandedRow
namespace Go.Proofs.YthmbgcmhdmekmaaDoor.padsWords
open Go.ChangeShapes Go.WideShapes Go.ChangeAt Go.RowKit Go.Joins
open Go.ChangeMaps (open_string shut_string)

theorem own : ownKnob Tryd.prog.godebug = none := by kernel_rfl
def putRow (c : Array Value) : Obj → Obj | .cells _ t frozen => .cells c t frozen | o => o
def litVal : DataW Unit → Value | .lit (.int k n) => .int k n | _ => undef
def row1 : DataW Unit → List Value | .agg l => l.map litVal | x => [litVal x]
def row2 : DataW Unit → List Value | .agg l => l.flatMap row1 | x => [litVal x]
/-- A world for the witness: the two tables hold what the text lays. -/
noncomputable def firstCells : Array Value := (row1 Go.Pinned.utf8First).toArray
noncomputable def acceptCells : Array Value := (row2 Rows.laid_unicode_utf8_acceptRanges).toArray
noncomputable def laidWorld (os : Os) : World :=
  { World.holding Tryd.prog os ⟨#[], #[], []⟩ with heap := ((World.holding Tryd.prog os ⟨#[], #[], []⟩).heap.modify 1 (putRow firstCells)).modify 2 (putRow acceptCells) }
theorem laid_met (os : Os) : laidMet Tryd.prog Rows.padsWordsRow.laid ((laidWorld os).forCall (fun _ _ => 0) ⟨#[], #[.agg #[.int .u8 0, .int .u8 0, .bool false, .bool false], .agg #[.int .u8 0, .int .u8 0, .bool false, .bool false]], []⟩).memory :=
  laidMet_of_run' 8 (by kernel_rfl) (by kernel_rfl)
theorem reads (os : Os) {H : Type} (enc : TypeId × Value → H) : ∃ places, DataW.whole enc Tryd.prog ((laidWorld os).forCall (fun _ _ => 0) ⟨#[], #[.agg #[.int .u8 0, .int .u8 0, .bool false, .bool false], .agg #[.int .u8 0, .int .u8 0, .bool false, .bool false]], []⟩).memory Tryd.f4.params.toList Rows.padsWordsSpec.vars false (#[.agg #[.int .u8 0, .int .u8 0, .bool false, .bool false], .agg #[.int .u8 0, .int .u8 0, .bool false, .bool false]] : Array Value).toList 8 = some ([.agg [.lit (.int .u8 0), .lit (.int .u8 0), .lit (.bool false), .lit (.bool false)], .agg [.lit (.int .u8 0), .lit (.int .u8 0), .lit (.bool false), .lit (.bool false)]], [], places) :=
  ⟨[], by kernel_rfl⟩

theorem contract (H : Type) (enc : TypeId × Value → H) (W : World) (base : Nat) (args : Array Value) (ds gs : List (DataW H)) (before : List MemPlace)
    (hval : ∀ (j : Nat) t v, Tryd.f4.params[j]? = some t → args[j]? = some v → Value.okWide Tryd.prog W .any base t v)
    (hW : DataW.Whole enc Tryd.prog Tryd.f4.params.toList Rows.padsWordsSpec.vars false W args.toList ds gs before) (hsh : W.ShapedOpen Tryd.prog) :
    Calls Tryd.prog 4 args W fun e W' => ∃ v, e = .returned v ∧ Rows.padsWordsSpec.post enc Tryd.prog Tryd.f4 false true false false W args v W' := by
  have hW' := hW
  obtain ⟨p, q, hA0, hV, rfl, hfz, hnd⟩ := hW
  have hA : DataW.TrodAll enc Tryd.prog W 0 (fun _ => true) true Tryd.f4.params.toList args.toList ds p := hA0
  rw [Tryd.params4] at hA hval
  obtain ⟨v0, v1, d0, d1, p0, p1, hargs, rfl, rfl, h0, h1⟩ := trodAll_two hA
  obtain rfl : args = #[v0, v1] := by cases args; simp_all
  obtain ⟨x0, x1, x2, x3, y0, y1, y2, y3, n0, rfl, rfl, rfl, si0, si1, si2, si3⟩ := open_agg4 Tryd.underlying24 (by kernel_rfl) (by kernel_rfl) (hval 0 24 v0 rfl rfl) h0
  obtain ⟨sa, e0, rfl, wf0s⟩ := DataW.trod_int Tryd.underlying5 si0
  obtain ⟨sb, e1, rfl, wf1s⟩ := DataW.trod_int Tryd.underlying5 si1
  obtain ⟨sc, e2, rfl⟩ := DataW.trod_bool Tryd.underlying4 si2
  obtain ⟨sd, e3, rfl⟩ := DataW.trod_bool Tryd.underlying4 si3
  simp only [List.cons.injEq, and_true] at e0 e1 e2 e3
  subst e0 e1 e2 e3
  obtain ⟨sa0, sa1⟩ := bounds_u8 wf0s
  obtain ⟨sb0, sb1⟩ := bounds_u8 wf1s
  obtain ⟨z0, z1, z2, z3, u0, u1, u2, u3, n1, rfl, rfl, rfl, ti0, ti1, ti2, ti3⟩ := open_agg4 Tryd.underlying24 (by kernel_rfl) (by kernel_rfl) (hval 1 24 v1 rfl rfl) h1
  obtain ⟨ta, e0, rfl, wf0t⟩ := DataW.trod_int Tryd.underlying5 ti0
  obtain ⟨tb, e1, rfl, wf1t⟩ := DataW.trod_int Tryd.underlying5 ti1
  obtain ⟨tc, e2, rfl⟩ := DataW.trod_bool Tryd.underlying4 ti2
  obtain ⟨td, e3, rfl⟩ := DataW.trod_bool Tryd.underlying4 ti3
  simp only [List.cons.injEq, and_true] at e0 e1 e2 e3
  subst e0 e1 e2 e3
  obtain ⟨ta0, ta1⟩ := bounds_u8 wf0t
  obtain ⟨tb0, tb1⟩ := bounds_u8 wf1t
  obtain ⟨sa, rfl⟩ := Int.eq_ofNat_of_zero_le sa0
  obtain ⟨sb, rfl⟩ := Int.eq_ofNat_of_zero_le sb0
  obtain ⟨ta, rfl⟩ := Int.eq_ofNat_of_zero_le ta0
  obtain ⟨tb, rfl⟩ := Int.eq_ofNat_of_zero_le tb0
  obtain ⟨rfl, rfl⟩ := trodVars_none hV
  clear hA0
  obtain ⟨m, hm⟩ : ∃ m, W.cell? ⟨0, 0, none⟩ = some (.int .i64 m) := Go.Proofs.cell_of_shapedOpen_int (zero := #[.int .i64 0]) (t := 3) hsh (of_decide_eq_true (by kernel_rfl)) (by kernel_rfl) rfl (by kernel_rfl) (by kernel_rfl) Tryd.underlying3
  refine (words_any sa sb ta tb sc sd tc td m W hm (by omega) (by omega) (by omega) (by omega)).mono fun e W' ⟨he, hb⟩ => ?_
  subst he
  refine ⟨_, rfl, _, _, _, [], [], [], hW', trodAll_cons_mk (shut_bool Tryd.underlying4 _) trodAll_mk0, ?_, rfl, hb.frame _, fun h => by cases h⟩
  exact trodAll_mk2 (shut_agg4 (y0 := (.lit (.int .u8 sa), [])) (y1 := (.lit (.int .u8 sb), [])) (y2 := (.lit (.bool sc), [])) (y3 := (.lit (.bool sd), [])) Tryd.underlying24 (by kernel_rfl) (by kernel_rfl) ⟨1, by simp [DataW.trod, Tryd.underlying5, wf0s]⟩ ⟨1, by simp [DataW.trod, Tryd.underlying5, wf1s]⟩ ⟨1, by simp [DataW.trod, Tryd.underlying4]⟩ ⟨1, by simp [DataW.trod, Tryd.underlying4]⟩) (shut_agg4 (y0 := (.lit (.int .u8 ta), [])) (y1 := (.lit (.int .u8 tb), [])) (y2 := (.lit (.bool tc), [])) (y3 := (.lit (.bool td), [])) Tryd.underlying24 (by kernel_rfl) (by kernel_rfl) ⟨1, by simp [DataW.trod, Tryd.underlying5, wf0t]⟩ ⟨1, by simp [DataW.trod, Tryd.underlying5, wf1t]⟩ ⟨1, by simp [DataW.trod, Tryd.underlying4]⟩ ⟨1, by simp [DataW.trod, Tryd.underlying4]⟩)

set_option maxRecDepth 100000 in
theorem lifted (os : Os) (started : os.Started) (H : Type) (enc : TypeId × Value → H) (F : Stop.Interp) :
    ReturnsInHanded {} Tryd.checked os 4 .any ((OpenSpec.ofChange Rows.padsWordsSpec).preRow enc Tryd.prog Tryd.f4 Rows.padsWordsRow.domain false Rows.padsWordsRow.laid) (((OpenSpec.ofChange Rows.padsWordsSpec).at F).post enc Tryd.prog Tryd.f4 false true false false) := by
  obtain ⟨places, hx⟩ := reads os enc
  refine returnsInHanded_of_row (C := Tryd.checked) (s := OpenSpec.ofChange Rows.padsWordsSpec) own started (by kernel_rfl) Tryd.func4
    (witness_row_at (enc := enc) (C := Tryd.checked) false (laidWorld os) #[.agg #[.int .u8 0, .int .u8 0, .bool false, .bool false], .agg #[.int .u8 0, .int .u8 0, .bool false, .bool false]] rfl (by kernel_rfl) (by kernel_rfl) (by kernel_rfl)
      (OpenSpec.preRow_of_cond 8 hx (by kernel_rfl) (fun k hk => by cases hk) (by kernel_rfl) (laid_met os))) ?_
  intro W base args ds gs before hval hW _ _ _ _ hsh _
  exact contract H enc W base args ds gs before hval hW hsh

theorem said : Rows.PadsWordsSaid :=
  OpenClaim.holds_of_cond 4 Tryd.f4 rfl rfl rfl rfl rfl rfl rfl ⟨rfl, rfl, rfl, rfl, rfl⟩ rfl rfl rfl rfl rfl (by kernel_rfl) Tryd.func4 (by kernel_rfl)
    (of_decide_eq_true (by kernel_rfl)) (by unfold Func.isWrapper; first | (rw [if_pos (by decide +kernel)]; kernel_rfl) | (rw [if_neg (by decide +kernel)]; exact ⟨rfl, rfl⟩))
    (fun os started H enc _ F => by rw [OpenClaim.pre_eq_preRow]; exact lifted os started H enc F)

/-- No parameter wants a stand-in; the program's own looks are off. -/
theorem plain (f : FuncId) (fn : Func) (hf : Tryd.pinned.checked.prog.funcNamed "joystick/joysticklaw21.PadsWords" = some f) (hfn : Tryd.pinned.checked.prog.funcs[f]? = some fn) :
    false = Tryd.pinned.checked.prog.looks [] ∧ ∀ (j : Nat) t, fn.params[j]? = some t → Tryd.pinned.checked.prog.wantsStandIn t = false := by
  obtain rfl : f = 4 := Option.some.inj ((show Tryd.prog.funcNamed "joystick/joysticklaw21.PadsWords" = some 4 by kernel_rfl).symm.trans hf) |>.symm
  obtain rfl : fn = Tryd.f4 := (Option.some.inj (Tryd.func4.symm.trans hfn)).symm
  refine ⟨by kernel_rfl, fun j t ht => ?_⟩
  rw [Tryd.params4] at ht
  have hm : t ∈ [24] := by simpa using Array.mem_of_getElem? ht
  have hall : (([24] : List TypeId).all fun u => !Tryd.prog.wantsStandIn u) = true := by kernel_rfl
  exact (show Tryd.prog.wantsStandIn t = false by simpa using List.all_eq_true.1 hall t hm)

theorem card : Rows.PadsWordsCardSaid :=
  Claim7.holds_tied_plain_at .later [] _ _ _ _ said (fun _ h => by cases h) (by kernel_rfl) (fun _ h => by cases h) padsWords_row_tie rfl ⟨rfl, rfl⟩ (by kernel_rfl) rfl plain (by kernel_rfl)
#print axioms card
end Go.Proofs.YthmbgcmhdmekmaaDoor.padsWords
