/- More operations: a word's complement; a string's bytes in a new slice. -/
import Derived.Test.YtfgakofjkldcjaaSxe
import Derived.Lib.ConvBytes
namespace Go.Sx
open Go
section
variable {P : Program} {env : Env} {n : Nat} {d : Option Nat} {T : TypeId} {p : String} {af : Array Edge} {g : Option (Nat × Bool)} {w : World} {K : Value → World → Prop}
theorem Any.com32 {t : TypeId} {x : Operand} {a : BitVec 32} (hx : ev env x = some (u32v a)) : Any P env n ⟨d, .unOp .xor t x, T, p, af, g⟩ (u32v (~~~a)) := fun ac ha w => by
  have h : IntKind.u32.wrap ((BitVec.allOnes 32 ^^^ a).toNat : Int) = ((~~~a).toNat : Int) := by rw [BitVec.allOnes_xor, wrap_u32]; have := (~~~a).isLt; omega
  have hr : (Op.unary .xor (u32v a)).run P w = .ok (u32v (~~~a)) w := by
    simp only [u32v, Op.unary]
    rw [if_neg (by decide), show IntKind.u32.max = ((BitVec.allOnes 32).toNat : Int) from by decide]
    simp only [Op.intBits, IntKind.bits, ofInt_toNat]
    exact congrArg (fun i => Result.ok (Value.int .u32 i) w) h
  simp [execOp, ha.eval hx, hr]
theorem Ef.strBytes {t t' e : TypeId} {x : Operand} {s : ByteArray} {u : TypeDesc} (ht : P.underlying t = some u) (hd : P.underlying t' = some (.slice e)) (he : P.underlying e = some (.int .u8)) (hx : ev env x = some (.string s))
    (h : ∀ A c w', Sl w' 1 A s.size (byteCells s) → s.size ≤ c → Le w w' → K (.slice A s.size c) w') : Ef P env n ⟨d, .convert t t' x, T, p, af, g⟩ w K := by
  refine .of_run (v := .slice (some ⟨w.heap.size, 0, none⟩) s.size (grownCap w s.size 0 e)) (w' := Lib.bytesWorld w e s) (fun a ha => ?_) (h _ _ _ ?_ ?_ ?_)
  · simp [execOp, ha.eval hx, Lib.run_convert_string_bytes w t t' e s ht hd he]
  · refine ⟨by rw [byteCells_length]; omega, fun j v hv => ⟨_, rfl, ?_⟩⟩
    have hj : j < s.size := by have := (List.getElem?_eq_some_iff.1 hv).1; rwa [byteCells_length] at this
    rw [add_lit, Nat.zero_add, Lib.bytesWorld_cell w e s j hj, ← hv]
    simp [byteCells, List.getD, hj]
  · exact grownCap_ge w s.size 0 e
  · exact ⟨rfl, rfl, rfl, by rw [Lib.bytesWorld_size]; omega, fun k hk => Lib.bytesWorld_at_old w e s k hk⟩
end
end Go.Sx
