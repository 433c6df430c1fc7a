/-
  Plain laws: an input's text is split into its parts, and read back.
-/
import Derived.Test.YthmbgcmhdmekmaaDoorE
namespace Go.Proofs.YthmbgcmhdmekmaaDoor
open Go.RowKit

theorem index_none : ∀ (x : List UInt8), 32 ∉ x → Lib.index x [32] = -1
  | [], _ => rfl
  | b :: l, h => by
    have h1 : b ≠ 32 := fun e => h (by simp [e])
    have ih := index_none l (fun e => h (by simp [e]))
    unfold Lib.index
    rw [ih]
    simp [List.isPrefixOf, h1.symm]
theorem index_found : ∀ (x t : List UInt8), 32 ∉ x → Lib.index (x ++ 32 :: t) [32] = x.length
  | [], t, _ => by simp [Lib.index, List.isPrefixOf]
  | b :: l, t, h => by
    have h1 : b ≠ 32 := fun e => h (by simp [e])
    have ih := index_found l t (fun e => h (by simp [e]))
    rw [List.cons_append]
    unfold Lib.index
    rw [ih]
    simp [List.isPrefixOf, h1.symm]

theorem parts_last (s : ByteArray) (h : 32 ∉ s.data.toList) : partsOf s = [s] := by
  have hi : Lib.indexB s ⟨#[32]⟩ = -1 := index_none _ h
  unfold partsOf
  rw [Lib.countB_miss _ _ hi]
  rfl
theorem parts_more (x t : List UInt8) (h : 32 ∉ x) : partsOf ⟨(x ++ 32 :: t).toArray⟩ = ⟨x.toArray⟩ :: partsOf ⟨t.toArray⟩ := by
  have hi : Lib.indexB ⟨(x ++ 32 :: t).toArray⟩ ⟨#[32]⟩ = x.length := index_found x t h
  have he : (⟨(x ++ 32 :: t).toArray⟩ : ByteArray).extract (x.length + (⟨#[32]⟩ : ByteArray).size) (⟨(x ++ 32 :: t).toArray⟩ : ByteArray).size = ⟨t.toArray⟩ := by
    apply ByteArray.ext
    apply Array.ext'
    rw [Lib.extract_to_end]
    show List.drop (x.length + 1) (x ++ 32 :: t) = t
    rw [← List.drop_drop, List.drop_left]
    rfl
  have h0 : (⟨(x ++ 32 :: t).toArray⟩ : ByteArray).extract 0 (x.length + 0) = ⟨x.toArray⟩ := by
    apply ByteArray.ext
    apply Array.ext'
    rw [Lib.extract_data]
    simp
  unfold partsOf
  rw [Lib.countB_hit _ _ x.length (by decide) hi, Nat.add_comm, Lib.splitB_hit _ _ _ _ x.length hi, he, h0]

theorem pads_ok : ∀ a : Fin 64, 32 ∉ padL (a.1 : Int) ∧ numAt ⟨(padL (a.1 : Int)).toArray⟩ 6 = (a.1 : Int) := by decide +kernel

theorem parse_text (a b : Nat) (c d : Bool) (ha : a < 64) (hb : b < 64) : parseOf ⟨(textL a b c d).toArray⟩ = ((a : Int), (b : Int), c, d, 0) := by
  obtain ⟨ha1, ha2⟩ := pads_ok ⟨a, ha⟩
  obtain ⟨hb1, hb2⟩ := pads_ok ⟨b, hb⟩
  have hp : ∃ r, partsOf ⟨(textL a b c d).toArray⟩ = ⟨(padL a).toArray⟩ :: ⟨(padL b).toArray⟩ :: r ∧ anyEq 80 r = c ∧ anyEq 82 r = d := by
    have e : textL a b c d = padL a ++ 32 :: (padL b ++ ((if c then [32, 80] else []) ++ (if d then [32, 82] else []))) := by simp [textL]
    rw [e, parts_more _ _ ha1]
    cases c <;> cases d
    · refine ⟨[], ?_, rfl, rfl⟩
      simp only [if_false, Bool.false_eq_true, List.append_nil]
      rw [parts_last _ hb1]
    · refine ⟨[⟨#[82]⟩], ?_, by decide +kernel, by decide +kernel⟩
      simp only [if_false, if_true, Bool.false_eq_true, List.nil_append]
      rw [show padL b ++ [32, 82] = padL b ++ 32 :: [82] from rfl, parts_more _ _ hb1, parts_last _ (by decide)]
    · refine ⟨[⟨#[80]⟩], ?_, by decide +kernel, by decide +kernel⟩
      simp only [if_false, if_true, Bool.false_eq_true, List.append_nil]
      rw [show padL b ++ [32, 80] = padL b ++ 32 :: [80] from rfl, parts_more _ _ hb1, parts_last _ (by decide)]
    · refine ⟨[⟨#[80]⟩, ⟨#[82]⟩], ?_, by decide +kernel, by decide +kernel⟩
      simp only [if_true]
      rw [show padL b ++ ([32, 80] ++ [32, 82]) = padL b ++ 32 :: ([80] ++ 32 :: [82]) from rfl, parts_more _ _ hb1, parts_more [80] [82] (by decide), parts_last _ (by decide)]
  obtain ⟨r, hr, h80, h82⟩ := hp
  rw [parse_val hr, h80, h82, ha2, hb2, if_pos (by rw [ByteArray.toList_eq])]

theorem eq_bytes {s : ByteArray} {l : List UInt8} (h : l = s.toList) : s = ⟨l.toArray⟩ := by
  rw [h, ByteArray.toList_eq]

/-- The program's Parse and the reference's answer the same. -/
theorem parse_same {s : ByteArray} {a b n a' b' : Int} {c d c' d' : Bool} {n' : Int} {e : Ending} (hp : parseOf s = (a, b, c, d, n)) (hr : RefPost s.toList e)
    (he : e = .returned (.tuple #[.agg #[.int .u8 a', .int .u8 b', .bool c', .bool d'], .int .i64 n'])) : a = a' ∧ b = b' ∧ c = c' ∧ d = d' ∧ n = n' := by
  obtain ⟨x, y, p, q, m, he2, h⟩ := hr
  rw [he] at he2
  simp only [Ending.returned.injEq, Value.tuple.injEq, Array.mk.injEq, List.cons.injEq, Value.agg.injEq, Value.int.injEq, Value.bool.injEq, true_and, and_true] at he2
  obtain ⟨⟨rfl, rfl, rfl, rfl⟩, rfl⟩ := he2
  rcases h with ⟨h1, h2, rfl, h4⟩ | ⟨rfl, rfl, rfl, rfl, rfl, h4⟩
  · rw [eq_bytes h4, parse_text x y _ _ h1 h2] at hp
    simp only [Prod.mk.injEq] at hp
    exact ⟨hp.1.symm, hp.2.1.symm, hp.2.2.1.symm, hp.2.2.2.1.symm, hp.2.2.2.2.symm⟩
  · match hq : partsOf s with
    | [] =>
      unfold parseOf at hp; rw [hq] at hp
      simp only [Prod.mk.injEq] at hp
      exact ⟨hp.1.symm, hp.2.1.symm, hp.2.2.1.symm, hp.2.2.2.1.symm, hp.2.2.2.2.symm⟩
    | [x] =>
      unfold parseOf at hp; rw [hq] at hp
      simp only [Prod.mk.injEq] at hp
      exact ⟨hp.1.symm, hp.2.1.symm, hp.2.2.1.symm, hp.2.2.2.1.symm, hp.2.2.2.2.symm⟩
    | x :: y :: r =>
      rw [parse_val hq] at hp
      have hx := numAt_bd x 6 (Nat.le_refl _)
      have hy := numAt_bd y 6 (Nat.le_refl _)
      by_cases ht : textL (numAt x 6) (numAt y 6) (anyEq 80 r) (anyEq 82 r) = s.toList
      · exfalso
        have := h4 (numAt x 6).toNat (numAt y 6).toNat (by omega) (by omega) (anyEq 80 r) (anyEq 82 r)
        rw [Int.toNat_of_nonneg hx.1, Int.toNat_of_nonneg hy.1] at this
        exact this ht
      · rw [if_neg ht] at hp
        simp only [Prod.mk.injEq] at hp
        exact ⟨hp.1.symm, hp.2.1.symm, hp.2.2.1.symm, hp.2.2.2.1.symm, hp.2.2.2.2.symm⟩
#print axioms parse_same
end Go.Proofs.YthmbgcmhdmekmaaDoor
