/- What the program's seals compute, in plain functions on lists of bytes. No program in sight. -/
import Derived.Test.YtfgakofjkldcjaaHsp
namespace Go.Hsp
def nStream : List Byte := [115, 116, 114, 101, 97, 109]
def nSeal : List Byte := [115, 101, 97, 108]
def nFault : List Byte := [102, 97, 117, 108, 116]
def streamTo (key : List Byte) (j : Nat) : List Byte := ((List.range j).map fun i => tag nStream [key, be8 i]).flatten
theorem streamTo_succ (key : List Byte) (j : Nat) : streamTo key (j + 1) = streamTo key j ++ tag nStream [key, be8 j] := by
  simp [streamTo, List.range_succ]
theorem streamTo_length (key : List Byte) : ∀ j, (streamTo key j).length = 32 * j
  | 0 => rfl
  | j + 1 => by rw [streamTo_succ, List.length_append, streamTo_length key j, tag_length]; omega
def stream (key : List Byte) (n : Nat) : List Byte := (streamTo key ((n + 31) / 32)).take n
theorem stream_length (key : List Byte) (n : Nat) : (stream key n).length = n := by
  rw [stream, List.length_take, streamTo_length]; omega
def xorB (a b : List Byte) : List Byte := List.zipWith (· ^^^ ·) a b
theorem xorB_length (a b : List Byte) (h : a.length = b.length) : (xorB a b).length = b.length := by simp [xorB, h]
def overTo (s b : List Byte) (k : Nat) : List Byte := (xorB s b).take k ++ s.drop k
theorem overTo_length (s b : List Byte) (k : Nat) (h : s.length = b.length) (hk : k ≤ b.length) : (overTo s b k).length = b.length := by
  simp [overTo, xorB, h]; omega
theorem overTo_at (s b : List Byte) (k : Nat) (h : s.length = b.length) (hk : k < b.length) : (overTo s b k).getD k 0 = s.getD k 0 := by
  have hl : ((xorB s b).take k).length = k := by simp [xorB, h]; omega
  simp only [overTo, List.getD_eq_getElem?_getD]
  rw [List.getElem?_append_right (by omega), hl, Nat.sub_self, List.getElem?_drop, Nat.add_zero]
theorem overTo_succ (s b : List Byte) (k : Nat) (h : s.length = b.length) (hk : k < b.length) : (overTo s b k).set k (s.getD k 0 ^^^ b.getD k 0) = overTo s b (k + 1) := by
  have hl : ((xorB s b).take k).length = k := by simp [xorB, h]; omega
  have hs : k < s.length := by omega
  have e : (xorB s b)[k]? = some (s.getD k 0 ^^^ b.getD k 0) := by
    have hz : k < (List.zipWith (fun x1 x2 => x1 ^^^ x2) s b).length := by simp; omega
    rw [xorB, List.getElem?_eq_getElem hz, List.getElem_zipWith]
    simp [hs, hk, List.getD]
  unfold overTo
  rw [List.set_append, if_neg (by omega), hl, Nat.sub_self, List.drop_eq_getElem_cons hs, List.set_cons_zero, List.take_add_one, e]
  simp
theorem overTo_all (s b : List Byte) (h : s.length = b.length) : overTo s b b.length = xorB s b := by
  unfold overTo
  rw [List.take_of_length_le (by rw [xorB_length s b h]; exact Nat.le_refl _), List.drop_of_length_le (by omega), List.append_nil]
theorem overTo_zero (s b : List Byte) : overTo s b 0 = s := by simp [overTo]
def overB (key b : List Byte) : List Byte := xorB (stream key b.length) b
theorem overB_length (key b : List Byte) : (overB key b).length = b.length := xorB_length _ _ (stream_length _ _)
theorem xorB_twice (s b : List Byte) (h : s.length = b.length) : xorB s (xorB s b) = b := by
  apply List.ext_getElem (by simp [xorB, h])
  intro i h1 h2
  simp only [xorB, List.getElem_zipWith, ← BitVec.xor_assoc, BitVec.xor_self, BitVec.zero_xor]
theorem overB_twice (key b : List Byte) : overB key (overB key b) = b := by
  unfold overB
  rw [xorB_length _ _ (stream_length _ _)]
  exact xorB_twice _ _ (stream_length _ _)
def tagB (key hidden : List Byte) : List Byte := (tag nSeal [key, hidden]).take 8
theorem tagB_length (key hidden : List Byte) : (tagB key hidden).length = 8 := by simp [tagB, tag_length]
def sealB (key b : List Byte) : List Byte := overB key b ++ tagB key (overB key b)
theorem sealB_length (key b : List Byte) : (sealB key b).length = b.length + 8 := by simp [sealB, overB_length, tagB_length]
/-- Does a key open it? -/
def fits (key s : List Byte) : Bool := decide (tagB key (s.take (s.length - 8)) = s.drop (s.length - 8))
def inner (key s : List Byte) : List Byte := overB key (s.take (s.length - 8))
theorem inner_length (key s : List Byte) : (inner key s).length = s.length - 8 := by simp [inner, overB_length]
theorem fits_seal (key b : List Byte) : fits key (sealB key b) = true := by
  have h : (sealB key b).length - 8 = (overB key b).length := by rw [sealB_length, overB_length]; omega
  rw [fits, h, sealB, List.take_left, List.drop_left]
  simp
theorem inner_seal (key b : List Byte) : inner key (sealB key b) = b := by
  have h : (sealB key b).length - 8 = (overB key b).length := by rw [sealB_length, overB_length]; omega
  rw [inner, h, sealB, List.take_left, overB_twice]
end Go.Hsp
