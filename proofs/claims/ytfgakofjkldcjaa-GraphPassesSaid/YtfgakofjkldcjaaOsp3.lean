/- The packets on a way, hop by hop. No program in sight. -/
import Derived.Test.YtfgakofjkldcjaaOsp2
import Derived.Test.YtfgakofjkldcjaaFlaw
namespace Go.Osp
open Go.Hsp Go.Num
/-- The exponent behind keys (as in the walk). -/
def xAt' : Nat → List Nat → Nat
  | x, [] => x
  | x, k :: ks => xAt' (nextX x k) ks
theorem xAt'_snoc (x : Nat) (ks : List Nat) (k : Nat) (key : Nat) (h : ks[k]? = some key) : xAt' x (ks.take (k + 1)) = nextX (xAt' x (ks.take k)) key := by
  have ap : ∀ (l m : List Nat) (x : Nat), xAt' x (l ++ m) = xAt' (xAt' x l) m := by
    intro l
    induction l with
    | nil => intro m n; rfl
    | cons c l ih => intro m n; exact ih m _
  rw [List.take_add_one, h, ap]; rfl
theorem xAt'_ne (x : Nat) (hx : x % q ≠ 0) : ∀ (ks : List Nat), xAt' x ks % q ≠ 0
  | [] => hx
  | k :: ks => xAt'_ne (nextX x k) (nextX_ne x k hx) ks
theorem wayB_at : ∀ (ks : List Nat) (x k key : Nat), ks[k]? = some key → (wayB x ks)[k]? = some (stopB (xAt' x (ks.take k)) key)
  | [], _, _, _, h => by simp at h
  | a :: ks, x, 0, key, h => by simp at h; subst h; rfl
  | a :: ks, x, k + 1, key, h => by
    have := wayB_at ks (nextX x a) k key (by simpa using h)
    rw [wayB, List.getElem?_cons_succ, this]; rfl
/-- The packet that hop i gets. -/
def pkt (pts : List Nat) (hs : List Hop) (seed : List Byte) (i : Nat) : List Byte :=
  if i < pts.length then packetB (base (xAt' (startX seed) (pts.take i))) (wrapR (padO seed) (fillTo [] ((wayB (startX seed) pts).take i)) (wayB (xAt' (startX seed) (pts.take i)) (pts.drop i)) (hs.drop i)) else []
theorem pkt_zero (pts : List Nat) (hs : List Hop) (seed : List Byte) (h : 1 ≤ pts.length) : pkt pts hs seed 0 = wrapB pts hs seed := by
  rw [pkt, if_pos (by omega)]; rfl
theorem pkt_end (pts : List Nat) (hs : List Hop) (seed : List Byte) (i : Nat) (h : pts.length ≤ i) : pkt pts hs seed i = [] := by
  rw [pkt, if_neg (by omega)]
theorem pad_length (seed : List Byte) : (padO seed).length = 640 := stream_length _ _
theorem hops_at (pts : List Nat) (hs : List Hop) (hok : hopsOk pts hs = true) : hs.length = pts.length ∧ ∀ i, i < hs.length → mayB (hs.getD i noHop) = true ∧ (((hs.getD i noHop).1 < 0) ↔ i + 1 = hs.length) := by
  rw [hopsOk, Bool.and_eq_true, List.all_eq_true] at hok
  refine ⟨of_decide_eq_true hok.1, fun i hi => ?_⟩
  have := hok.2 i (List.mem_range.2 hi)
  rw [Bool.and_eq_true] at this
  exact ⟨this.1, decide_eq_decide.1 (of_decide_eq_true this.2)⟩
theorem pkt_length (pts : List Nat) (hs : List Hop) (seed : List Byte) (hl : hs.length = pts.length) (h8 : pts.length ≤ 8) (i : Nat) (hi : i < pts.length) : (pkt pts hs seed i).length = 680 := by
  rw [pkt, if_pos hi]
  have hf := fillTo_length ((wayB (startX seed) pts).take i) [] (by rw [List.length_take, wayB_length]; simp; omega)
  rw [List.length_take, wayB_length] at hf
  have := wrapR_length (padO seed) (pad_length seed) (wayB (xAt' (startX seed) (pts.take i)) (pts.drop i)) (hs.drop i) (fillTo [] ((wayB (startX seed) pts).take i)) (by rw [wayB_length]; simp [hl]) (by rw [wayB_length, hf]; simp; omega)
  exact packetB_length _ _ this.1 this.2
/-- THE STAGE'S THEOREM: each hop peels its own part off. -/
theorem peel_at (own : List Nat) (hs : List Hop) (seed : List Byte) (hown : ∀ k ∈ own, k ≠ 0 ∧ k < q) (hok : hopsOk (own.map base) hs = true) (hho : ∀ h ∈ hs, HopOk h) (h8 : own.length ≤ 8) (i : Nat) (hi : i < own.length) :
    peelB (own.getD i 0) (pkt (own.map base) hs seed i) = (hs.getD i noHop, pkt (own.map base) hs seed (i + 1), ((wayB (startX seed) (own.map base)).getD i (0, [])).2, 0) := by
  obtain ⟨hl, hall⟩ := hops_at _ _ hok
  rw [List.length_map] at hl
  obtain ⟨hy, hnx⟩ := hall i (by omega)
  have hk : own[i]? = some (own.getD i 0) := by simp [hi, List.getD]
  have hhi : i < hs.length := by omega
  have hh : hs[i]? = some (hs.getD i noHop) := by simp [hhi, List.getD]
  have hkm : (own.map base)[i]? = some (base (own.getD i 0)) := by rw [List.getElem?_map, hk]; rfl
  have hway := wayB_at (own.map base) (startX seed) i _ hkm
  have hwg : (wayB (startX seed) (own.map base)).getD i (0, []) = stopB (xAt' (startX seed) ((own.map base).take i)) (base (own.getD i 0)) := by rw [List.getD_eq_getElem?_getD, hway]; rfl
  have hf := fillTo_length ((wayB (startX seed) (own.map base)).take i) [] (by rw [List.length_take, wayB_length]; simp; omega)
  rw [List.length_take, wayB_length, List.length_map] at hf
  have hf' : (fillTo [] ((wayB (startX seed) (own.map base)).take i)).length = 80 * i := by rw [hf]; simp; omega
  have hx := xAt'_ne (startX seed) (startX_ne seed) ((own.map base).take i)
  have hfs : fillTo [] ((wayB (startX seed) (own.map base)).take (i + 1)) = fillS (fillTo [] ((wayB (startX seed) (own.map base)).take i)) (stopB (xAt' (startX seed) ((own.map base).take i)) (base (own.getD i 0))) := by
    rw [List.take_add_one, hway, fillTo_append]; rfl
  have hxs := xAt'_snoc (startX seed) (own.map base) i _ hkm
  have hko := hown _ (List.mem_of_getElem? hk)
  have hho' := hho _ (List.mem_of_getElem? hh)
  have hdk : (own.map base).drop i = base (own.getD i 0) :: (own.map base).drop (i + 1) := by
    have hlt : i < (own.map base).length := by simpa using hi
    rw [List.drop_eq_getElem_cons hlt]
    congr 1
    rw [List.getElem?_eq_getElem hlt] at hkm
    exact Option.some.inj hkm
  have hdh : hs.drop i = hs.getD i noHop :: hs.drop (i + 1) := by
    rw [List.drop_eq_getElem_cons hhi]
    congr 1
    rw [List.getElem?_eq_getElem hhi] at hh
    exact Option.some.inj hh
  rw [hwg]
  generalize hgx : xAt' (startX seed) ((own.map base).take i) = x at *
  generalize hgf : fillTo [] ((wayB (startX seed) (own.map base)).take i) = f at *
  generalize own.getD i 0 = k at *
  generalize hs.getD i noHop = h at *
  rw [pkt, if_pos (by simpa using hi), hgx, hgf, hdk, hdh]
  by_cases hlast : i + 1 = own.length
  · have e1 : (own.map base).drop (i + 1) = [] := List.drop_of_length_le (by simp; omega)
    have e2 : hs.drop (i + 1) = [] := List.drop_of_length_le (by omega)
    rw [e1, e2, pkt_end _ _ _ _ (by simp; omega)]
    exact peel_last (padO seed) f (pad_length seed) x k hx hko h hho' hy (hnx.2 (by omega)) (by omega)
  · have hi1 : i + 1 < own.length := by omega
    rw [pkt, if_pos (by simpa using hi1), hxs, hfs]
    obtain ⟨k', ks', e1⟩ : ∃ k' ks', (own.map base).drop (i + 1) = k' :: ks' := by
      cases hd : (own.map base).drop (i + 1) with
      | nil => have := congrArg List.length hd; simp at this; omega
      | cons a b => exact ⟨a, b, rfl⟩
    obtain ⟨h', hs', e2⟩ : ∃ h' hs', hs.drop (i + 1) = h' :: hs' := by
      cases hd : hs.drop (i + 1) with
      | nil => have := congrArg List.length hd; simp at this; omega
      | cons a b => exact ⟨a, b, rfl⟩
    have l1 : ks'.length + 1 = own.length - (i + 1) := by have := congrArg List.length e1; simp at this; omega
    have l2 : hs'.length + 1 = hs.length - (i + 1) := by have := congrArg List.length e2; simp at this; omega
    rw [e1, e2]
    exact peel_more (padO seed) f (pad_length seed) x k hx hko h h' ks' k' hs' hho' hy (fun hn => hlast (by have := hnx.1 hn; omega)) (by omega) (by omega)
theorem base_keyOk {k : Nat} (h : k % q ≠ 0) : keyOk (base k) = true := by
  rw [keyOk, right_base k, decide_eq_true (base_ne_one h)]; rfl
theorem keysOk_base (own : List Nat) (hown : ∀ k ∈ own, k ≠ 0 ∧ k < q) (h1 : 1 ≤ own.length) (h8 : own.length ≤ 8) : keysOk (own.map base) = true := by
  rw [keysOk, decide_eq_true (by simpa using h1), decide_eq_true (by simpa using h8), Bool.true_and, Bool.true_and, List.all_eq_true]
  intro p hp
  obtain ⟨k, hk, rfl⟩ := List.mem_map.1 hp
  have := hown k hk
  exact base_keyOk (by rw [Nat.mod_eq_of_lt this.2]; exact this.1)
theorem base_lt (k : Nat) : base k < 18446744073709551616 := Nat.lt_trans ((right_iff _).1 (right_base k)).2.1 M_lt
end Go.Osp
namespace Go.Hsp
theorem backB_congr (ka kb : List (List Byte)) : ∀ (i : Nat) (p : List Byte), (∀ j, j < i → ka.getD j [] = kb.getD j []) → backB ka i p = backB kb i p
  | 0, _, _ => rfl
  | i + 1, p, h => by
    rw [backB, backB, h i (by omega), backB_congr ka kb i _ (fun j hj => h j (by omega))]
end Go.Hsp
