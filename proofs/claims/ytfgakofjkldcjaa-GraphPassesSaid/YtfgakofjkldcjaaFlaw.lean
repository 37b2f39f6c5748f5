/- The laws of fault packets, on plain functions. No program in sight. -/
import Derived.Test.YtfgakofjkldcjaaFsp
namespace Go.Hsp
/-- What the hops ahead of place h hand on; false: one could not. -/
def backB (keys : List (List Byte)) : Nat → List Byte → List Byte × Bool
  | 0, p => (p, true)
  | i + 1, p => if (addB (keys.getD i []) p).2 = 0 then backB keys i (addB (keys.getD i []) p).1 else ([], false)
/-- Sealed by the keys of places a, .., a + j - 1, the first one outmost. -/
def wrapF (keys : List (List Byte)) : Nat → Nat → List Byte → List Byte
  | _, 0, p => p
  | a, j + 1, p => sealB (byB (keys.getD a [])) (wrapF keys (a + 1) j p)
theorem wrapF_snoc (keys : List (List Byte)) : ∀ (j a : Nat) (p : List Byte), wrapF keys a (j + 1) p = wrapF keys a j (sealB (byB (keys.getD (a + j) [])) p)
  | 0, a, p => rfl
  | j + 1, a, p => by
    rw [wrapF, wrapF_snoc keys j (a + 1) p, wrapF, show a + 1 + j = a + (j + 1) by omega]
theorem wrapF_length (keys : List (List Byte)) : ∀ (j a : Nat) (p : List Byte), (wrapF keys a j p).length = p.length + 8 * j
  | 0, _, _ => rfl
  | j + 1, a, p => by rw [wrapF, sealB_length, wrapF_length keys j]; omega
theorem unw_wrapF (keys : List (List Byte)) : ∀ (j m a : Nat) (p : List Byte), unw keys (j + m) a (wrapF keys a j p) = unw keys m (a + j) p
  | 0, m, a, p => by rw [Nat.zero_add, wrapF]; rfl
  | j + 1, m, a, p => by
    rw [show j + 1 + m = (j + m) + 1 by omega, unw, wrapF, fits_seal, if_pos rfl, inner_seal, unw_wrapF keys j m (a + 1) p, show a + 1 + j = a + (j + 1) by omega]
theorem stepB_of (n s : Nat) (h : n = 64 + 8 * s) (hs : s ≤ 7) : stepB n = s := by
  subst h
  unfold stepB
  rw [if_neg (by omega), show (64 + 8 * s - 64) / 8 = s by omega]
theorem addB_of (key p : List Byte) (s : Nat) (h : p.length = 64 + 8 * s) (hs : s ≤ 6) : addB key p = (sealB (byB key) p, 0) := by
  rw [addB, stepB_of _ s h (by omega), if_pos (by omega)]
theorem addB_ok (key p : List Byte) (h : (addB key p).2 = 0) : ∃ s, p.length = 64 + 8 * s ∧ s ≤ 6 ∧ addB key p = (sealB (byB key) p, 0) := by
  rcases stepB_cases p.length with ⟨h1, _⟩ | ⟨s, h1, h2, h3⟩
  · rw [addB, h1, if_neg (by omega)] at h; exact absurd h (by decide)
  · by_cases h7 : s = 7
    · rw [addB, h1, if_neg (by omega)] at h; exact absurd h (by decide)
    · exact ⟨s, h2, by omega, addB_of key p s h2 (by omega)⟩
theorem addB_len (key p : List Byte) (h : (addB key p).2 = 0) : (addB key p).1.length = p.length + 8 := by
  obtain ⟨s, _, _, e⟩ := addB_ok key p h
  rw [e, sealB_length]
theorem backB_of (keys : List (List Byte)) : ∀ (i s : Nat) (p : List Byte), p.length = 64 + 8 * s → s + i ≤ 7 → backB keys i p = (wrapF keys 0 i p, true)
  | 0, _, _, _, _ => rfl
  | i + 1, s, p, hp, hs => by
    rw [backB, addB_of _ p s hp (by omega), if_pos rfl, backB_of keys i (s + 1) _ (by rw [sealB_length, hp]; omega) (by omega), wrapF_snoc, Nat.zero_add]
/-- Where it succeeds. -/
theorem backB_ok (keys : List (List Byte)) : ∀ (i : Nat) (p : List Byte), (backB keys i p).2 = true → (backB keys i p).1 = wrapF keys 0 i p ∧ (i = 0 ∨ ∃ s, p.length = 64 + 8 * s ∧ s + i ≤ 7)
  | 0, _, _ => ⟨rfl, .inl rfl⟩
  | i + 1, p, h => by
    by_cases h0 : (addB (keys.getD i []) p).2 = 0
    · obtain ⟨s, h1, h2, e⟩ := addB_ok _ p h0
      rw [backB, e, if_pos rfl] at h ⊢
      obtain ⟨h3, h4⟩ := backB_ok keys i _ h
      refine ⟨by rw [h3, wrapF_snoc, Nat.zero_add], .inr ⟨s, h1, ?_⟩⟩
      rcases h4 with rfl | ⟨s', h5, h6⟩
      · omega
      · rw [sealB_length] at h5; omega
    · rw [backB, if_neg h0] at h; cases h
theorem readRow_rowB (n : Nat) (r : List Byte) (h : r.length ≤ 55) : readRow n (rowB r) = (n, r, 0) := by
  have e : ((rowB r).getD 0 0).toNat = r.length := by simp [rowB, List.getD]; omega
  unfold readRow
  have hz : ((rowB r).drop (1 + r.length)).all (fun b => decide (b = 0#8)) = true := by
    rw [Nat.add_comm 1, rowB, List.drop_succ_cons, List.drop_left]
    simp
  rw [e, if_pos ⟨h, hz⟩]
  simp [rowB]
/-- What a hop made, and all between it and the payer handed on, is read as it was, and as that hop's. -/
theorem read_back (keys : List (List Byte)) (h : Nat) (r : List Byte) (hk : h < keys.length) (h8 : h ≤ 7) (hr : r.length ≤ 55) : readB keys (wrapF keys 0 h (sealB (byB (keys.getD h [])) (rowB r))) = (h, r, 0) := by
  have hl : (wrapF keys 0 h (sealB (byB (keys.getD h [])) (rowB r))).length = 64 + 8 * h := by rw [wrapF_length, sealB_length, rowB_length r hr]
  have hu := unw_wrapF keys h 1 0 (sealB (byB (keys.getD h [])) (rowB r))
  have h1 : unw keys 1 h (sealB (byB (keys.getD h [])) (rowB r)) = (h + 1, rowB r) := by rw [unw, fits_seal, if_pos rfl, inner_seal, unw]
  rw [Nat.zero_add, h1] at hu
  rw [readB, hl, stepB_of _ h rfl h8, if_neg (by omega), Int.toNat_natCast, hu, if_neg (by simp), readRow_rowB h r hr]
theorem back_make (keys : List (List Byte)) (h : Nat) (r : List Byte) (hk : h < keys.length) (h8 : keys.length ≤ 8) (hr : r.length ≤ 55) :
    (makeB (keys.getD h []) r).2 = 0 ∧ (backB keys h (makeB (keys.getD h []) r).1).2 = true ∧ readB keys (backB keys h (makeB (keys.getD h []) r).1).1 = (h, r, 0) := by
  have e1 : makeB (keys.getD h []) r = (sealB (byB (keys.getD h [])) (rowB r), 0) := by rw [makeB, if_pos hr]
  have e2 := backB_of keys h 0 (sealB (byB (keys.getD h [])) (rowB r)) (by rw [sealB_length, rowB_length r hr]) (by omega)
  rw [e1, e2]
  exact ⟨rfl, rfl, read_back keys h r hk (by omega) hr⟩
end Go.Hsp
