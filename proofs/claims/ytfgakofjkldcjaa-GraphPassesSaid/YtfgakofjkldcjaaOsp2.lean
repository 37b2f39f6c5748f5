/- Wrapping from behind, step by step, is what XOsp's wrapR says. No program in sight. -/
import Derived.Test.YtfgakofjkldcjaaOsp
namespace Go.Osp
open Go.Hsp Go.Num
def stepR (l : List Stop) (hs : List Hop) (st : List Byte × List Byte) (k : Nat) : List Byte × List Byte :=
  ((if k + 1 = l.length then put (layer (l.getD k (0, [])) (hs.getD k noHop) st.2 st.1) (filler l) else layer (l.getD k (0, [])) (hs.getD k noHop) st.2 st.1),
   macB (l.getD k (0, [])) (if k + 1 = l.length then put (layer (l.getD k (0, [])) (hs.getD k noHop) st.2 st.1) (filler l) else layer (l.getD k (0, [])) (hs.getD k noHop) st.2 st.1))
def foldR (l : List Stop) (hs : List Hop) (pad : List Byte) (ks : List Nat) : List Byte × List Byte := ks.foldl (stepR l hs) (pad, zeros 32)
theorem foldR_snoc (l : List Stop) (hs : List Hop) (pad : List Byte) (ks : List Nat) (k : Nat) : foldR l hs pad (ks ++ [k]) = stepR l hs (foldR l hs pad ks) k := by simp [foldR]
theorem filler_length (l : List Stop) (h1 : 1 ≤ l.length) (h8 : l.length ≤ 8) : (filler l).length = 80 * (l.length - 1) := by
  rw [filler, fillTo_length _ _ (by simp [List.length_take]; omega)]; simp [List.length_take]
theorem stepR_len (l : List Stop) (hs : List Hop) (h1 : 1 ≤ l.length) (h8 : l.length ≤ 8) (st : List Byte × List Byte) (k : Nat) (hr : st.1.length = 640) (hm : st.2.length = 32) : (stepR l hs st k).1.length = 640 ∧ (stepR l hs st k).2.length = 32 := by
  refine ⟨?_, macB_length _ _⟩
  have h2 := layer_length (l.getD k (0, [])) (hs.getD k noHop) st.2 st.1 hm hr
  have h3 := filler_length l h1 h8
  simp only [stepR]
  split
  · rw [put_length _ _ (by omega), h2]
  · exact h2
theorem foldR_len (l : List Stop) (hs : List Hop) (pad : List Byte) (hp : pad.length = 640) (h1 : 1 ≤ l.length) (h8 : l.length ≤ 8) (ks : List Nat) : (foldR l hs pad ks).1.length = 640 ∧ (foldR l hs pad ks).2.length = 32 := by
  have : ∀ (ks : List Nat) (st : List Byte × List Byte), st.1.length = 640 → st.2.length = 32 → (ks.foldl (stepR l hs) st).1.length = 640 ∧ (ks.foldl (stepR l hs) st).2.length = 32 := by
    intro ks
    induction ks with
    | nil => intro st a b; exact ⟨a, b⟩
    | cons k ks ih => intro st a b; have := stepR_len l hs h1 h8 st k a b; exact ih _ this.1 this.2
  exact this ks _ hp (zeros_length 32)
/-- n - 1, n - 2, .. : j of them. -/
def downs (n j : Nat) : List Nat := (List.range j).map fun i => n - 1 - i
theorem downs_succ (n j : Nat) : downs n (j + 1) = downs n j ++ [n - 1 - j] := by simp [downs, List.range_succ]
theorem foldR_wrap (l : List Stop) (hs : List Hop) (pad : List Byte) (hl : hs.length = l.length) : ∀ (j : Nat), 1 ≤ j → j ≤ l.length → foldR l hs pad (downs l.length j) = wrapR pad (fillTo [] (l.take (l.length - j))) (l.drop (l.length - j)) (hs.drop (l.length - j))
  | 0, h, _ => by omega
  | 1, _, h => by
    have hlt : l.length - 1 < l.length := by omega
    have hlt2 : l.length - 1 < hs.length := by omega
    have e1 : l.drop (l.length - 1) = [l.getD (l.length - 1) (0, [])] := by
      rw [List.drop_eq_getElem_cons hlt, List.drop_of_length_le (by omega), List.getD_eq_getElem?_getD, List.getElem?_eq_getElem hlt]; rfl
    have e2 : hs.drop (l.length - 1) = hs.getD (l.length - 1) noHop :: hs.drop (l.length - 1 + 1) := by
      rw [List.drop_eq_getElem_cons hlt2, List.getD_eq_getElem?_getD, List.getElem?_eq_getElem hlt2]; rfl
    rw [e1, e2, wrapR_one]
    show stepR l hs (pad, zeros 32) (l.length - 1 - 0) = _
    rw [Nat.sub_zero, stepR, if_pos (by omega)]
    rfl
  | j + 2, _, h => by
    have ih := foldR_wrap l hs pad hl (j + 1) (by omega) (by omega)
    have hlt : l.length - (j + 2) < l.length := by omega
    have hlt2 : l.length - (j + 2) < hs.length := by omega
    have e0 : l.length - (j + 2) + 1 = l.length - (j + 1) := by omega
    have e1 : l.drop (l.length - (j + 2)) = l.getD (l.length - (j + 2)) (0, []) :: l.drop (l.length - (j + 1)) := by
      rw [List.drop_eq_getElem_cons hlt, List.getD_eq_getElem?_getD, List.getElem?_eq_getElem hlt, e0]; rfl
    have e2 : hs.drop (l.length - (j + 2)) = hs.getD (l.length - (j + 2)) noHop :: hs.drop (l.length - (j + 1)) := by
      rw [List.drop_eq_getElem_cons hlt2, List.getD_eq_getElem?_getD, List.getElem?_eq_getElem hlt2, e0]; rfl
    have e3 : fillTo [] (l.take (l.length - (j + 1))) = fillS (fillTo [] (l.take (l.length - (j + 2)))) (l.getD (l.length - (j + 2)) (0, [])) := by
      rw [← e0, List.take_add_one, List.getElem?_eq_getElem hlt, fillTo_append, List.getD_eq_getElem?_getD, List.getElem?_eq_getElem hlt]; rfl
    have e4 : ∃ t l', l.drop (l.length - (j + 1)) = t :: l' := by
      have : (l.drop (l.length - (j + 1))).length = j + 1 := by rw [List.length_drop]; omega
      cases hd : l.drop (l.length - (j + 1)) with
      | nil => rw [hd] at this; simp at this
      | cons t l' => exact ⟨t, l', rfl⟩
    obtain ⟨t, l', ht⟩ := e4
    rw [downs_succ, foldR_snoc, ih, e1, e2, ht, wrapR_more, ← e3, ← ht, show l.length - 1 - (j + 1) = l.length - (j + 2) by omega, stepR, if_neg (by omega)]
theorem foldR_all (l : List Stop) (hs : List Hop) (pad : List Byte) (hl : hs.length = l.length) (h1 : 1 ≤ l.length) : foldR l hs pad (downs l.length l.length) = wrapR pad [] l hs := by
  have := foldR_wrap l hs pad hl l.length h1 (Nat.le_refl _)
  rw [Nat.sub_self] at this
  exact this
end Go.Osp
