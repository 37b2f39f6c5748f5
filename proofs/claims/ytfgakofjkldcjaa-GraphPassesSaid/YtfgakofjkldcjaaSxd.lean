/- Bytes and words as bit vectors in the symbolic executor. No program in sight. -/
import Derived.Test.YtfgakofjkldcjaaSxc
import Derived.WalkSpells
namespace Go.Sx
open Go Go.RowKit

def u8v (x : BitVec 8) : Value := .int .u8 (x.toNat : Int)
def u32v (x : BitVec 32) : Value := .int .u32 (x.toNat : Int)
theorem u8v_one (x : BitVec 8) : (u8v x).oneCell' = true := rfl
theorem u32v_one (x : BitVec 32) : (u32v x).oneCell' = true := rfl
theorem all_u8v (l : List (BitVec 8)) : ∀ u ∈ l.map u8v, u.oneCell' = true := fun u hu => by obtain ⟨x, _, rfl⟩ := List.mem_map.1 hu; rfl
theorem all_u32v (l : List (BitVec 32)) : ∀ u ∈ l.map u32v, u.oneCell' = true := fun u hu => by obtain ⟨x, _, rfl⟩ := List.mem_map.1 hu; rfl
theorem u8v_inj {x y : BitVec 8} (h : u8v x = u8v y) : x = y := by
  unfold u8v at h
  injection h with _ h
  exact BitVec.eq_of_toNat_eq (by omega)
theorem u32v_inj {x y : BitVec 32} (h : u32v x = u32v y) : x = y := by
  unfold u32v at h
  injection h with _ h
  exact BitVec.eq_of_toNat_eq (by omega)
theorem wrap_u8 (i : Int) : IntKind.u8.wrap i = i % 256 := by simp [IntKind.wrap, IntKind.bits, IntKind.signed]
theorem wrap_u32 (i : Int) : IntKind.u32.wrap i = i % 4294967296 := by simp [IntKind.wrap, IntKind.bits, IntKind.signed]
theorem wrap_u64 (i : Int) : IntKind.u64.wrap i = i % 18446744073709551616 := by simp [IntKind.wrap, IntKind.bits, IntKind.signed]
theorem wrap_u8_nat (n : Nat) : IntKind.u8.wrap (n : Int) = ((BitVec.ofNat 8 n).toNat : Int) := by rw [wrap_u8, BitVec.toNat_ofNat]; simp
theorem wrap_u32_nat (n : Nat) : IntKind.u32.wrap (n : Int) = ((BitVec.ofNat 32 n).toNat : Int) := by rw [wrap_u32, BitVec.toNat_ofNat]; simp
theorem ofInt_toNat {n : Nat} (x : BitVec n) : BitVec.ofInt n (x.toNat : Int) = x := by rw [BitVec.ofInt_natCast]; simp
theorem u32v_lit (n : Nat) (h : n < 4294967296) : Value.int .u32 (n : Int) = u32v (BitVec.ofNat 32 n) := by
  unfold u32v; rw [BitVec.toNat_ofNat, Nat.mod_eq_of_lt h]
section
variable {P : Program} {env : Env} {n : Nat} {d : Option Nat} {T : TypeId} {p : String} {af : Array Edge} {g : Option (Nat × Bool)} {w : World}
theorem Any.xor8 {t ty : TypeId} {x y : Operand} {a b : BitVec 8} (hx : ev env x = some (u8v a)) (hy : ev env y = some (u8v b)) : Any P env n ⟨d, .binOp .xor t x y ty, T, p, af, g⟩ (u8v (a ^^^ b)) :=
  .int hx hy fun w => by
    have h : IntKind.u8.wrap ((a ^^^ b).toNat : Int) = ((a ^^^ b).toNat : Int) := by rw [wrap_u8]; have := (a ^^^ b).isLt; omega
    simp only [binOp, Op.intBits, IntKind.bits, ofInt_toNat]
    simp only [ne_eq, not_true_eq_false, if_false, u8v]
    exact congrArg (fun i => Result.ok (Value.int .u8 i) w) h
theorem Any.and8 {t ty : TypeId} {x y : Operand} {a b : BitVec 8} (hx : ev env x = some (u8v a)) (hy : ev env y = some (u8v b)) : Any P env n ⟨d, .binOp .and t x y ty, T, p, af, g⟩ (u8v (a &&& b)) :=
  .int hx hy fun w => by
    have h : IntKind.u8.wrap ((a &&& b).toNat : Int) = ((a &&& b).toNat : Int) := by rw [wrap_u8]; have := (a &&& b).isLt; omega
    simp only [binOp, Op.intBits, IntKind.bits, ofInt_toNat]
    simp only [ne_eq, not_true_eq_false, if_false, u8v]
    exact congrArg (fun i => Result.ok (Value.int .u8 i) w) h
theorem Any.or8 {t ty : TypeId} {x y : Operand} {a b : BitVec 8} (hx : ev env x = some (u8v a)) (hy : ev env y = some (u8v b)) : Any P env n ⟨d, .binOp .or t x y ty, T, p, af, g⟩ (u8v (a ||| b)) :=
  .int hx hy fun w => by
    have h : IntKind.u8.wrap ((a ||| b).toNat : Int) = ((a ||| b).toNat : Int) := by rw [wrap_u8]; have := (a ||| b).isLt; omega
    simp only [binOp, Op.intBits, IntKind.bits, ofInt_toNat]
    simp only [ne_eq, not_true_eq_false, if_false, u8v]
    exact congrArg (fun i => Result.ok (Value.int .u8 i) w) h
theorem Any.add8 {t ty : TypeId} {x y : Operand} {a b : BitVec 8} (hx : ev env x = some (u8v a)) (hy : ev env y = some (u8v b)) : Any P env n ⟨d, .binOp .add t x y ty, T, p, af, g⟩ (u8v (a + b)) :=
  .int hx hy fun w => by
    have h : IntKind.u8.wrap ((a.toNat : Int) + (b.toNat : Int)) = ((a + b).toNat : Int) := by rw [wrap_u8, BitVec.toNat_add]; omega
    simp [binOp, Op.intArith, u8v, h]
theorem Any.sub8 {t ty : TypeId} {x y : Operand} {a b : BitVec 8} (hx : ev env x = some (u8v a)) (hy : ev env y = some (u8v b)) : Any P env n ⟨d, .binOp .sub t x y ty, T, p, af, g⟩ (u8v (a - b)) :=
  .int hx hy fun w => by
    have h : IntKind.u8.wrap ((a.toNat : Int) - (b.toNat : Int)) = ((a - b).toNat : Int) := by rw [wrap_u8, BitVec.toNat_sub]; have := a.isLt; have := b.isLt; omega
    simp [binOp, Op.intArith, u8v, h]
theorem Any.mul8 {t ty : TypeId} {x y : Operand} {a b : BitVec 8} (hx : ev env x = some (u8v a)) (hy : ev env y = some (u8v b)) : Any P env n ⟨d, .binOp .mul t x y ty, T, p, af, g⟩ (u8v (a * b)) :=
  .int hx hy fun w => by
    have h : IntKind.u8.wrap ((a.toNat : Int) * (b.toNat : Int)) = ((a * b).toNat : Int) := by rw [wrap_u8, BitVec.toNat_mul]; simp
    simp [binOp, Op.intArith, u8v, h]
theorem Any.eql8 {t ty : TypeId} {x y : Operand} {a b : BitVec 8} (hx : ev env x = some (u8v a)) (hy : ev env y = some (u8v b)) : Any P env n ⟨d, .binOp .eql t x y ty, T, p, af, g⟩ (.bool (decide (a = b))) :=
  .int hx hy fun w => by
    have h : decide ((a.toNat : Int) = (b.toNat : Int)) = decide (a = b) := decide_eq_decide.2 ⟨fun h => BitVec.eq_of_toNat_eq (by omega), fun h => by rw [h]⟩
    simp [binOp, Op.intCmp, BEq.beq, h]
theorem Any.neq8 {t ty : TypeId} {x y : Operand} {a b : BitVec 8} (hx : ev env x = some (u8v a)) (hy : ev env y = some (u8v b)) : Any P env n ⟨d, .binOp .neq t x y ty, T, p, af, g⟩ (.bool (decide (a ≠ b))) :=
  .int hx hy fun w => by
    have h : decide ((a.toNat : Int) = (b.toNat : Int)) = decide (a = b) := decide_eq_decide.2 ⟨fun h => BitVec.eq_of_toNat_eq (by omega), fun h => by rw [h]⟩
    simp [binOp, Op.intCmp, bne, BEq.beq, h]
theorem Any.shl8 {t ty : TypeId} {x y : Operand} {a : BitVec 8} {k : IntKind} {i : Int} (m : Nat) (hx : ev env x = some (u8v a)) (hy : ev env y = some (.int k i)) (hi : i = (m : Int)) (hm : m ≤ 8) : Any P env n ⟨d, .binOp .shl t x y ty, T, p, af, g⟩ (u8v (a <<< m)) :=
  .int hx hy fun w => by
    subst hi
    have h : IntKind.u8.wrap ((a.toNat : Int) * 2 ^ m) = ((a <<< m).toNat : Int) := by
      rw [wrap_u8, BitVec.toNat_shiftLeft, Nat.shiftLeft_eq]; simp
    have h1 : ¬ ((m : Int) < 0) := by omega
    have h2 : min m IntKind.u8.bits = m := Nat.min_eq_left hm
    simp [binOp, u8v, h]
theorem Any.shr8 {t ty : TypeId} {x y : Operand} {a : BitVec 8} {k : IntKind} {i : Int} (m : Nat) (hx : ev env x = some (u8v a)) (hy : ev env y = some (.int k i)) (hi : i = (m : Int)) (hm : m ≤ 8) : Any P env n ⟨d, .binOp .shr t x y ty, T, p, af, g⟩ (u8v (a >>> m)) :=
  .int hx hy fun w => by
    subst hi
    have h : (a.toNat : Int).fdiv (2 ^ m) = ((a >>> m).toNat : Int) := by
      rw [BitVec.toNat_ushiftRight, Nat.shiftRight_eq_div_pow, Int.fdiv_eq_ediv_of_nonneg _ (Int.le_of_lt (Int.pow_pos (by decide)))]; simp
    have h1 : ¬ ((m : Int) < 0) := by omega
    have h2 : min m IntKind.u8.bits = m := Nat.min_eq_left hm
    simp only [binOp, Op.shift, u8v]
    rw [if_neg h1]
    simp only [Int.toNat_natCast, h2, h]
    rfl
theorem Any.xor32 {t ty : TypeId} {x y : Operand} {a b : BitVec 32} (hx : ev env x = some (u32v a)) (hy : ev env y = some (u32v b)) : Any P env n ⟨d, .binOp .xor t x y ty, T, p, af, g⟩ (u32v (a ^^^ b)) :=
  .int hx hy fun w => by
    have h : IntKind.u32.wrap ((a ^^^ b).toNat : Int) = ((a ^^^ b).toNat : Int) := by rw [wrap_u32]; have := (a ^^^ b).isLt; omega
    simp only [binOp, Op.intBits, IntKind.bits, ofInt_toNat]
    simp only [ne_eq, not_true_eq_false, if_false, u32v]
    exact congrArg (fun i => Result.ok (Value.int .u32 i) w) h
theorem Any.and32 {t ty : TypeId} {x y : Operand} {a b : BitVec 32} (hx : ev env x = some (u32v a)) (hy : ev env y = some (u32v b)) : Any P env n ⟨d, .binOp .and t x y ty, T, p, af, g⟩ (u32v (a &&& b)) :=
  .int hx hy fun w => by
    have h : IntKind.u32.wrap ((a &&& b).toNat : Int) = ((a &&& b).toNat : Int) := by rw [wrap_u32]; have := (a &&& b).isLt; omega
    simp only [binOp, Op.intBits, IntKind.bits, ofInt_toNat]
    simp only [ne_eq, not_true_eq_false, if_false, u32v]
    exact congrArg (fun i => Result.ok (Value.int .u32 i) w) h
theorem Any.or32 {t ty : TypeId} {x y : Operand} {a b : BitVec 32} (hx : ev env x = some (u32v a)) (hy : ev env y = some (u32v b)) : Any P env n ⟨d, .binOp .or t x y ty, T, p, af, g⟩ (u32v (a ||| b)) :=
  .int hx hy fun w => by
    have h : IntKind.u32.wrap ((a ||| b).toNat : Int) = ((a ||| b).toNat : Int) := by rw [wrap_u32]; have := (a ||| b).isLt; omega
    simp only [binOp, Op.intBits, IntKind.bits, ofInt_toNat]
    simp only [ne_eq, not_true_eq_false, if_false, u32v]
    exact congrArg (fun i => Result.ok (Value.int .u32 i) w) h
theorem Any.add32 {t ty : TypeId} {x y : Operand} {a b : BitVec 32} (hx : ev env x = some (u32v a)) (hy : ev env y = some (u32v b)) : Any P env n ⟨d, .binOp .add t x y ty, T, p, af, g⟩ (u32v (a + b)) :=
  .int hx hy fun w => by
    have h : IntKind.u32.wrap ((a.toNat : Int) + (b.toNat : Int)) = ((a + b).toNat : Int) := by rw [wrap_u32, BitVec.toNat_add]; omega
    simp [binOp, Op.intArith, u32v, h]
theorem Any.sub32 {t ty : TypeId} {x y : Operand} {a b : BitVec 32} (hx : ev env x = some (u32v a)) (hy : ev env y = some (u32v b)) : Any P env n ⟨d, .binOp .sub t x y ty, T, p, af, g⟩ (u32v (a - b)) :=
  .int hx hy fun w => by
    have h : IntKind.u32.wrap ((a.toNat : Int) - (b.toNat : Int)) = ((a - b).toNat : Int) := by rw [wrap_u32, BitVec.toNat_sub]; have := a.isLt; have := b.isLt; omega
    simp [binOp, Op.intArith, u32v, h]
theorem Any.mul32 {t ty : TypeId} {x y : Operand} {a b : BitVec 32} (hx : ev env x = some (u32v a)) (hy : ev env y = some (u32v b)) : Any P env n ⟨d, .binOp .mul t x y ty, T, p, af, g⟩ (u32v (a * b)) :=
  .int hx hy fun w => by
    have h : IntKind.u32.wrap ((a.toNat : Int) * (b.toNat : Int)) = ((a * b).toNat : Int) := by rw [wrap_u32, BitVec.toNat_mul]; simp
    simp [binOp, Op.intArith, u32v, h]
theorem Any.eql32 {t ty : TypeId} {x y : Operand} {a b : BitVec 32} (hx : ev env x = some (u32v a)) (hy : ev env y = some (u32v b)) : Any P env n ⟨d, .binOp .eql t x y ty, T, p, af, g⟩ (.bool (decide (a = b))) :=
  .int hx hy fun w => by
    have h : decide ((a.toNat : Int) = (b.toNat : Int)) = decide (a = b) := decide_eq_decide.2 ⟨fun h => BitVec.eq_of_toNat_eq (by omega), fun h => by rw [h]⟩
    simp [binOp, Op.intCmp, BEq.beq, h]
theorem Any.neq32 {t ty : TypeId} {x y : Operand} {a b : BitVec 32} (hx : ev env x = some (u32v a)) (hy : ev env y = some (u32v b)) : Any P env n ⟨d, .binOp .neq t x y ty, T, p, af, g⟩ (.bool (decide (a ≠ b))) :=
  .int hx hy fun w => by
    have h : decide ((a.toNat : Int) = (b.toNat : Int)) = decide (a = b) := decide_eq_decide.2 ⟨fun h => BitVec.eq_of_toNat_eq (by omega), fun h => by rw [h]⟩
    simp [binOp, Op.intCmp, bne, BEq.beq, h]
theorem Any.shl32 {t ty : TypeId} {x y : Operand} {a : BitVec 32} {k : IntKind} {i : Int} (m : Nat) (hx : ev env x = some (u32v a)) (hy : ev env y = some (.int k i)) (hi : i = (m : Int)) (hm : m ≤ 32) : Any P env n ⟨d, .binOp .shl t x y ty, T, p, af, g⟩ (u32v (a <<< m)) :=
  .int hx hy fun w => by
    subst hi
    have h : IntKind.u32.wrap ((a.toNat : Int) * 2 ^ m) = ((a <<< m).toNat : Int) := by
      rw [wrap_u32, BitVec.toNat_shiftLeft, Nat.shiftLeft_eq]; simp
    have h1 : ¬ ((m : Int) < 0) := by omega
    have h2 : min m IntKind.u32.bits = m := Nat.min_eq_left hm
    simp [binOp, u32v, h]
theorem Any.shr32 {t ty : TypeId} {x y : Operand} {a : BitVec 32} {k : IntKind} {i : Int} (m : Nat) (hx : ev env x = some (u32v a)) (hy : ev env y = some (.int k i)) (hi : i = (m : Int)) (hm : m ≤ 32) : Any P env n ⟨d, .binOp .shr t x y ty, T, p, af, g⟩ (u32v (a >>> m)) :=
  .int hx hy fun w => by
    subst hi
    have h : (a.toNat : Int).fdiv (2 ^ m) = ((a >>> m).toNat : Int) := by
      rw [BitVec.toNat_ushiftRight, Nat.shiftRight_eq_div_pow, Int.fdiv_eq_ediv_of_nonneg _ (Int.le_of_lt (Int.pow_pos (by decide)))]; simp
    have h1 : ¬ ((m : Int) < 0) := by omega
    have h2 : min m IntKind.u32.bits = m := Nat.min_eq_left hm
    simp only [binOp, Op.shift, u32v]
    rw [if_neg h1]
    simp only [Int.toNat_natCast, h2, h]
    rfl

/-- A number that is not below 0, shifted to the right. -/
theorem Any.shrN {t ty : TypeId} {x y : Operand} {k k' : IntKind} {i j : Int} (a m : Nat) (hx : ev env x = some (.int k i)) (ha : i = (a : Int)) (hy : ev env y = some (.int k' j)) (hj : j = (m : Int)) (hm : m ≤ k.bits) :
    Any P env n ⟨d, .binOp .shr t x y ty, T, p, af, g⟩ (.int k ((a >>> m : Nat) : Int)) :=
  .int hx hy fun w => by
    subst ha hj
    have h : (a : Int).fdiv (2 ^ m) = ((a >>> m : Nat) : Int) := by
      rw [Nat.shiftRight_eq_div_pow, Int.fdiv_eq_ediv_of_nonneg _ (Int.le_of_lt (Int.pow_pos (by decide)))]; simp
    have h1 : ¬ ((m : Int) < 0) := by omega
    have h2 : min m k.bits = m := Nat.min_eq_left hm
    simp only [binOp, Op.shift]
    rw [if_neg h1]
    simp [h2, h]
theorem Rd.toU8 {s t : TypeId} {x : Operand} {k : IntKind} {i : Int} (a : Nat) (hs : (P.underlying s).isSome = true) (ht : P.underlying t = some (.int .u8)) (hx : ev env x = some (.int k i)) (ha : i = (a : Int)) :
    Rd P w env n ⟨d, .convert s t x, T, p, af, g⟩ (u8v (BitVec.ofNat 8 a)) := by
  subst ha
  exact Rd.convEq hs ht hx (wrap_u8_nat a)
theorem Rd.u8to32 {s t : TypeId} {x : Operand} {a : BitVec 8} (hs : (P.underlying s).isSome = true) (ht : P.underlying t = some (.int .u32)) (hx : ev env x = some (u8v a)) :
    Rd P w env n ⟨d, .convert s t x, T, p, af, g⟩ (u32v (a.setWidth 32)) :=
  Rd.convEq hs ht hx (by rw [wrap_u32]; have := a.isLt; simp)
theorem Rd.u32to8 {s t : TypeId} {x : Operand} {a : BitVec 32} (hs : (P.underlying s).isSome = true) (ht : P.underlying t = some (.int .u8)) (hx : ev env x = some (u32v a)) :
    Rd P w env n ⟨d, .convert s t x, T, p, af, g⟩ (u8v (a.setWidth 8)) :=
  Rd.convEq hs ht hx (by rw [wrap_u8, BitVec.toNat_setWidth]; simp)
/-- A byte as a number of another kind. -/
theorem Rd.u8toI {s t : TypeId} {x : Operand} {a : BitVec 8} (hs : (P.underlying s).isSome = true) (ht : P.underlying t = some (.int .i64)) (hx : ev env x = some (u8v a)) :
    Rd P w env n ⟨d, .convert s t x, T, p, af, g⟩ (.int .i64 (a.toNat : Int)) :=
  Rd.convEq hs ht hx (IntWalk.i64_in _ (by have := a.isLt; omega))
theorem Rd.u8to64 {s t : TypeId} {x : Operand} {a : BitVec 8} (hs : (P.underlying s).isSome = true) (ht : P.underlying t = some (.int .u64)) (hx : ev env x = some (u8v a)) :
    Rd P w env n ⟨d, .convert s t x, T, p, af, g⟩ (.int .u64 (a.toNat : Int)) :=
  Rd.convEq hs ht hx (IntWalk.u64_in _ (by have := a.isLt; omega))
theorem Rd.idI {s t : TypeId} {x : Operand} {k k' : IntKind} {i : Int} (hs : (P.underlying s).isSome = true) (ht : P.underlying t = some (.int k')) (hx : ev env x = some (.int k i)) (h : k'.wrap i = i) :
    Rd P w env n ⟨d, .convert s t x, T, p, af, g⟩ (.int k' i) := Rd.convEq hs ht hx h
/-! ### Words of 64 bits as numbers -/
theorem ofInt_nat64 (a : Nat) (ha : a < 18446744073709551616) : (BitVec.ofInt 64 (a : Int)).toNat = a := by
  rw [BitVec.ofInt_natCast, BitVec.toNat_ofNat]; exact Nat.mod_eq_of_lt (by omega)
theorem Any.andN {t ty : TypeId} {x y : Operand} {i j : Int} (a b : Nat) (hx : ev env x = some (.int .u64 i)) (hi : i = (a : Int)) (hy : ev env y = some (.int .u64 j)) (hj : j = (b : Int)) (ha : a < 18446744073709551616) (hb : b < 18446744073709551616) :
    Any P env n ⟨d, .binOp .and t x y ty, T, p, af, g⟩ (.int .u64 ((a &&& b : Nat) : Int)) :=
  .int hx hy fun w => by
    subst hi hj
    have hlt : a &&& b < 2 ^ 64 := Nat.and_lt_two_pow _ (by omega)
    have h : IntKind.u64.wrap (((BitVec.ofInt 64 (a : Int) &&& BitVec.ofInt 64 (b : Int)).toNat : Nat) : Int) = ((a &&& b : Nat) : Int) := by
      rw [BitVec.toNat_and, ofInt_nat64 a ha, ofInt_nat64 b hb, wrap_u64]; omega
    simp only [binOp, Op.intBits, IntKind.bits, ne_eq, not_true_eq_false, if_false]
    exact congrArg (fun i => Result.ok (Value.int .u64 i) w) h
theorem Any.orN {t ty : TypeId} {x y : Operand} {i j : Int} (a b : Nat) (hx : ev env x = some (.int .u64 i)) (hi : i = (a : Int)) (hy : ev env y = some (.int .u64 j)) (hj : j = (b : Int)) (ha : a < 18446744073709551616) (hb : b < 18446744073709551616) :
    Any P env n ⟨d, .binOp .or t x y ty, T, p, af, g⟩ (.int .u64 ((a ||| b : Nat) : Int)) :=
  .int hx hy fun w => by
    subst hi hj
    have hlt : a ||| b < 2 ^ 64 := Nat.or_lt_two_pow (by omega) (by omega)
    have h : IntKind.u64.wrap (((BitVec.ofInt 64 (a : Int) ||| BitVec.ofInt 64 (b : Int)).toNat : Nat) : Int) = ((a ||| b : Nat) : Int) := by
      rw [BitVec.toNat_or, ofInt_nat64 a ha, ofInt_nat64 b hb, wrap_u64]; omega
    simp only [binOp, Op.intBits, IntKind.bits, ne_eq, not_true_eq_false, if_false]
    exact congrArg (fun i => Result.ok (Value.int .u64 i) w) h
/-- Any arithmetic on words of 64 bits that does not pass the ends. -/
theorem Any.addU {t ty : TypeId} {x y : Operand} {a b : Int} (hx : ev env x = some (.int .u64 a)) (hy : ev env y = some (.int .u64 b)) (hb : 0 ≤ a + b ∧ a + b ≤ 18446744073709551615) :
    Any P env n ⟨d, .binOp .add t x y ty, T, p, af, g⟩ (.int .u64 (a + b)) := .int hx hy fun w => by simp [binOp, Op.intArith, IntWalk.u64_in _ hb]
theorem Any.subU {t ty : TypeId} {x y : Operand} {a b : Int} (hx : ev env x = some (.int .u64 a)) (hy : ev env y = some (.int .u64 b)) (hb : 0 ≤ a - b ∧ a - b ≤ 18446744073709551615) :
    Any P env n ⟨d, .binOp .sub t x y ty, T, p, af, g⟩ (.int .u64 (a - b)) := .int hx hy fun w => by simp [binOp, Op.intArith, IntWalk.u64_in _ hb]
theorem Any.mulU {t ty : TypeId} {x y : Operand} {a b : Int} (hx : ev env x = some (.int .u64 a)) (hy : ev env y = some (.int .u64 b)) (hb : 0 ≤ a * b ∧ a * b ≤ 18446744073709551615) :
    Any P env n ⟨d, .binOp .mul t x y ty, T, p, af, g⟩ (.int .u64 (a * b)) := .int hx hy fun w => by simp [binOp, Op.intArith, IntWalk.u64_in _ hb]
theorem Any.quoU {t ty : TypeId} {x y : Operand} {a b : Int} (hx : ev env x = some (.int .u64 a)) (hy : ev env y = some (.int .u64 b)) (hb : 0 ≤ a ∧ a ≤ 18446744073709551615 ∧ 1 ≤ b) :
    Any P env n ⟨d, .binOp .quo t x y ty, T, p, af, g⟩ (.int .u64 (a / b)) := .int hx hy fun w => by
  have : b ≠ 0 := by omega
  simp [binOp, Op.intDiv, this, IntWalk.u64_quo _ _ hb]
theorem Any.remU {t ty : TypeId} {x y : Operand} {a b : Int} (hx : ev env x = some (.int .u64 a)) (hy : ev env y = some (.int .u64 b)) (hb : 0 ≤ a ∧ 1 ≤ b) :
    Any P env n ⟨d, .binOp .rem t x y ty, T, p, af, g⟩ (.int .u64 (a % b)) := .int hx hy fun w => by
  have : b ≠ 0 := by omega
  simp [binOp, Op.intDiv, this, IntWalk.rem_in _ b hb.1]
theorem Any.isNil {t e ty : TypeId} {x : Operand} {A : Option Addr} {l c : Nat} (ht : P.underlying t = some (.slice e)) (hx : ev env x = some (.slice A l c)) :
    Any P env n ⟨d, .binOp .eql t x (.const (.slice none 0 0)) ty, T, p, af, g⟩ (.bool A.isNone) :=
  .bin hx rfl (fun _ => rfl) fun w => Lib.run_eql_slice_nil w t e A l c 0 0 ht
variable {K : Value → World → Prop}
theorem Ef.buildSlice0 {t e s b : Nat} {z : Value} (ht : P.underlying t = some (.slice e)) (hel : El P e s b z)
    (h : ∀ gb w', w.heap.size ≤ gb → Blk w' gb e #[] → Le w w' → K (.slice (some ⟨gb, 0, none⟩) 0 0) w') : Ef P env n ⟨d, .buildSlice t 0 #[], T, p, af, g⟩ w K := by
  refine .of_run (v := .slice (some ⟨w.heap.size, 0, none⟩) 0 0) (w' := w.alloc (.cells #[] e)) (fun a ha => ?_) (h _ _ (Nat.le_refl _) (Blk.new w e _) (Le.alloc w _))
  simp [execOp, Instr.buildSlice, run_underlying ht, hel.sz.run, Instr.fill, newRow, show Array.range 0 = #[] from rfl]
theorem Any.idxS1 {t e : TypeId} {x y : Operand} {A : Option Addr} {len cap : Nat} {k : IntKind} {i : Int} (j : Nat) (ht : P.underlying t = some (.slice e)) (hs : Sz P e 1) (hx : ev env x = some (.slice A len cap)) (hy : ev env y = some (.int k i))
    (hA : A.isSome = true) (hi : i = (j : Int)) (hj : j < len) : Any P env n ⟨d, .indexAddr t x y, T, p, af, g⟩ (ptr A j) := by
  have := Any.idxS (P := P) (n := n) (d := d) (T := T) (p := p) (af := af) (g := g) j ht hs hx hy hA hi hj
  rwa [Nat.mul_one] at this
theorem Any.idxB1 {t e : TypeId} {x y : Operand} {gb len cap : Nat} {k : IntKind} {i : Int} (j : Nat) (ht : P.underlying t = some (.slice e)) (hs : Sz P e 1) (hx : ev env x = some (.slice (some ⟨gb, 0, none⟩) len cap)) (hy : ev env y = some (.int k i))
    (hi : i = (j : Int)) (hj : j < len) : Any P env n ⟨d, .indexAddr t x y, T, p, af, g⟩ (.pointer (some ⟨gb, j, none⟩)) := by
  have := Any.idxB (P := P) (n := n) (d := d) (T := T) (p := p) (af := af) (g := g) j ht hs hx hy hi hj
  rwa [Nat.mul_one, Nat.zero_add] at this
theorem Any.idxA1 {t e len : Nat} {x y : Operand} {gb : Nat} {k : IntKind} {i : Int} (j : Nat) (ht : P.underlying t = some (.array len e)) (hs : Sz P e 1) (hx : ev env x = some (.pointer (some ⟨gb, 0, none⟩))) (hy : ev env y = some (.int k i))
    (hi : i = (j : Int)) (hj : j < len) : Any P env n ⟨d, .indexAddr t x y, T, p, af, g⟩ (.pointer (some ⟨gb, j, none⟩)) := by
  have := Any.idxA (P := P) (n := n) (d := d) (T := T) (p := p) (af := af) (g := g) j ht hs hx hy hi hj
  rwa [Nat.mul_one, Nat.zero_add] at this

/-- A composite value written out. -/
def evp (env : Env) : List (Nat × Operand) → Option (List (Nat × Value))
  | [] => some []
  | (i, x) :: xs => match ev env x, evp env xs with
    | some v, some vs => some ((i, v) :: vs)
    | _, _ => none
theorem Rep.evparts {a : Act} {n : Nat} {env : Env} (h : Rep a n env) : ∀ {xs : List (Nat × Operand)} {vs : List (Nat × Value)}, evp env xs = some vs → xs.map (fun (i, x) => (i, a.eval x)) = vs
  | [], vs, hv => by simp [evp] at hv; simp [hv]
  | (i, x) :: xs, vs, hv => by
    simp only [evp] at hv
    split at hv
    · rename_i v vs' h1 h2
      injection hv with hv
      subst hv
      simp [h.eval h1, h.evparts h2]
    · cases hv
theorem Any.buildA {t e len s : Nat} {z : Value} {parts : Array (Nat × Operand)} {vs : List (Nat × Value)} {cells : Array Value} (hu : P.underlying t = some (.array len e)) (hs : Sz P e s) (hz : Zr P t z) (hp : evp env parts.toList = some vs)
    (hf : Instr.fill (fun i => some (i * s, s)) z.cells vs = some cells) : Any P env n ⟨d, .build t parts, T, p, af, g⟩ (.agg cells) := fun a ha w => by
  have hparts : parts.map (fun (i, x) => (i, a.eval x)) = vs.toArray := by rw [← ha.evparts hp]; apply Array.ext'; simp
  simp [execOp, Instr.build, hz.run, run_underlying hu, hs.run, hparts, hf]
/-! Parts that lie one behind the other -/
def enumV : Nat → List Value → List (Nat × Value)
  | _, [] => []
  | k, v :: vs => (k, v) :: enumV (k + 1) vs
def flatV (vs : List Value) : List Value := (vs.map fun v => v.cells.toList).flatten
def Cont (place : Nat → Option (Nat × Nat)) : Nat → Nat → List Value → Prop
  | _, _, [] => True
  | k, off, v :: vs => place k = some (off, v.cells.size) ∧ Cont place (k + 1) (off + v.cells.size) vs
theorem foldl_cells : ∀ (cs : List Value) (k : Nat) (off : Nat) (pre post : List Value), pre.length = off + k → cs.length ≤ post.length →
    (cs.zipIdx k).foldl (fun (acc : Array Value) (x : Value × Nat) => acc.setIfInBounds (off + x.2) x.1) (pre ++ post).toArray = (pre ++ cs ++ post.drop cs.length).toArray
  | [], _, _, _, _, _, _ => by simp
  | c :: cs, k, off, pre, post, h1, h2 => by
    cases post with
    | nil => simp at h2
    | cons q post =>
      simp only [List.zipIdx_cons, List.foldl_cons]
      have e : ((pre ++ q :: post).toArray.setIfInBounds (off + k) c) = ((pre ++ [c]) ++ post).toArray := by
        apply Array.ext'
        rw [Array.toList_setIfInBounds, ← h1]
        simp
      rw [e, foldl_cells cs (k + 1) off (pre ++ [c]) post (by simp [h1]; omega) (by simpa using h2)]
      simp
theorem fill_go (place : Nat → Option (Nat × Nat)) : ∀ (vs : List Value) (k : Nat) (pre post : List Value), Cont place k pre.length vs → (flatV vs).length ≤ post.length →
    Instr.fill place (pre ++ post).toArray (enumV k vs) = some (pre ++ flatV vs ++ post.drop (flatV vs).length).toArray
  | [], _, _, _, _, _ => by simp [enumV, Instr.fill, flatV]
  | v :: vs, k, pre, post, h1, h2 => by
    obtain ⟨hp, hc⟩ := h1
    have hl : v.cells.size + (flatV vs).length ≤ post.length := by simpa [flatV] using h2
    have hf : (v.cells.zipIdx.foldl (fun (cs : Array Value) (x : Value × Nat) => cs.setIfInBounds (pre.length + x.2) x.1) (pre ++ post).toArray) = (pre ++ v.cells.toList ++ post.drop v.cells.size).toArray := by
      have := foldl_cells v.cells.toList 0 pre.length pre post (by simp) (by simp; omega)
      rw [← Array.foldl_toList]
      simpa using this
    simp only [enumV, Instr.fill, hp]
    rw [if_neg (by simp; omega)]
    have hf' : Array.foldl (fun cs x => match x with | (c, j) => cs.setIfInBounds (pre.length + j) c) (pre ++ post).toArray v.cells.zipIdx = (pre ++ v.cells.toList ++ post.drop v.cells.size).toArray := hf
    rw [hf', fill_go place vs (k + 1) (pre ++ v.cells.toList) (post.drop v.cells.size) (by simpa using hc) (by simp; omega)]
    simp [flatV]
theorem flatV_one : ∀ (vs : List Value), (∀ v ∈ vs, v.oneCell' = true) → flatV vs = vs
  | [], _ => rfl
  | v :: vs, h => by
    have hc : v.cells = #[v] := by
      have := h v (by simp)
      cases v <;> first | rfl | cases this
    have ih := flatV_one vs (fun u hu => h u (by simp [hu]))
    unfold flatV at ih ⊢
    rw [List.map_cons, List.flatten_cons, ih, hc]
    rfl
theorem cont_arr (s : Nat) : ∀ (vs : List Value) (k : Nat), (∀ v ∈ vs, v.cells.size = s) → Cont (fun i => some (i * s, s)) k (k * s) vs
  | [], _, _ => trivial
  | v :: vs, k, h => ⟨by rw [h v (by simp)], by rw [h v (by simp), ← Nat.succ_mul]; exact cont_arr s vs (k + 1) (fun u hu => h u (by simp [hu]))⟩
theorem flatV_length (s : Nat) : ∀ (vs : List Value), (∀ v ∈ vs, v.cells.size = s) → (flatV vs).length = vs.length * s
  | [], _ => by simp [flatV]
  | v :: vs, h => by
    have ih := flatV_length s vs (fun u hu => h u (by simp [hu]))
    have hv := h v (by simp)
    unfold flatV at ih ⊢
    rw [List.map_cons, List.flatten_cons, List.length_append, ih, Array.length_toList, hv, List.length_cons, Nat.succ_mul, Nat.add_comm]
theorem cells_one {v : Value} (h : v.oneCell' = true) : v.cells.size = 1 := by cases v <;> first | rfl | cases h
/-- An array of one-cell elements, all of them written out. -/
theorem Any.buildArr {t e len : Nat} {zs : Array Value} {parts : Array (Nat × Operand)} (vs : List Value) (hu : P.underlying t = some (.array len e)) (hs : Sz P e 1) (hz : Zr P t (.agg zs)) (hp : evp env parts.toList = some (enumV 0 vs))
    (h1 : ∀ v ∈ vs, v.oneCell' = true) (hl1 : zs.size = len) (hl2 : vs.length = len) : Any P env n ⟨d, .build t parts, T, p, af, g⟩ (.agg vs.toArray) :=
  Any.buildA hu hs hz hp (by
    have hl : zs.size = vs.length := by rw [hl1, hl2]
    have hf := fill_go (fun i => some (i * 1, 1)) vs 0 [] zs.toList (by simpa using cont_arr 1 vs 0 (fun v hv => cells_one (h1 v hv))) (by rw [flatV_one vs h1]; simp [hl])
    rw [flatV_one vs h1] at hf
    simpa [Value.cells, hl, List.drop_of_length_le] using hf)
/-- The result lies in a variable. -/
theorem E.retC {fn : Func} {R : Ending → World → Prop} {t ty sz : Nat} {gb : Nat} {tb : TypeId} {cs : Array Value} (hr : fn.results = #[.cell t ty]) (hv : look env t = some (.pointer (some ⟨gb, 0, none⟩))) (hB : Blk w gb tb cs) (hag : IsAgg P ty sz) (hsz : cs.size = sz)
    (h : R (.returned (.agg cs)) w) : E (bodyPost P fn R) n .ret env w := fun a ha => by
  subst hsz
  obtain ⟨dd, h1, h2, h3⟩ := hag
  exact bodyPost_ret (results_cell_row hr a.tmps w gb tb cs (0, 0) dd (by simp [ha.2.2 t _ hv]) hB h1 (by cases dd <;> simp_all) h3) ha.1 h

/-! ### Slices of bytes -/
def Sb (w : World) (A : Option Addr) (n : Nat) (xs : List (BitVec 8)) : Prop := Sl w 1 A n (xs.map u8v)
theorem Sb.le {w w' : World} {A : Option Addr} {n : Nat} {xs : List (BitVec 8)} (h : Sb w A n xs) (hl : Le w w') : Sb w' A n xs := Sl.le h hl
theorem Sb.len {w : World} {A : Option Addr} {n : Nat} {xs : List (BitVec 8)} (h : Sb w A n xs) : xs.length = n := by have := h.1; simpa using this
theorem Sb.isSome {w : World} {A : Option Addr} {n : Nat} {xs : List (BitVec 8)} (h : Sb w A n xs) (hn : 0 < n) : A.isSome = true := Sl.isSome h hn (by decide)
theorem Sb.cut {w : World} {A : Option Addr} {n : Nat} {xs : List (BitVec 8)} (h : Sb w A n xs) (cap l m : Nat) (hl : l ≤ m) (hm : m ≤ n) (hc : n ≤ cap) : Sb w (cutA A cap l 1) (m - l) ((xs.drop l).take (m - l)) := by
  have := Sl.cut1 h cap l m hl hm hc
  unfold Sb
  rwa [List.map_take, List.map_drop]
theorem Sb.cutL {w : World} {A : Option Addr} {n : Nat} {xs : List (BitVec 8)} (h : Sb w A n xs) (cap l : Nat) (hl : l ≤ n) (hc : n ≤ cap) : Sb w (cutA A cap l 1) (n - l) (xs.drop l) := by
  have := h.cut cap l n hl (Nat.le_refl _) hc
  rwa [List.take_of_length_le (by rw [List.length_drop, h.len]; exact Nat.le_refl _)] at this
theorem Sb.cutH {w : World} {A : Option Addr} {n : Nat} {xs : List (BitVec 8)} (h : Sb w A n xs) (m : Nat) (hm : m ≤ n) : Sb w A m (xs.take m) := by
  have := h.cut n 0 m (Nat.zero_le _) hm (Nat.le_refl _)
  rwa [cutA_zero, Nat.sub_zero, List.drop_zero] at this
theorem getb (xs : List (BitVec 8)) {k : Nat} (h : k < xs.length) : (xs.map u8v)[k]? = some (u8v (xs.getD k 0)) := by simp [h, List.getD]
theorem getw (xs : List (BitVec 32)) {k : Nat} (h : k < xs.length) : (xs.map u32v)[k]? = some (u32v (xs.getD k 0)) := by simp [h, List.getD]
theorem getwA (xs : List (BitVec 32)) {k : Nat} (h : k < xs.length) : (xs.map u32v).toArray[k]? = some (u32v (xs.getD k 0)) := by simp [h, List.getD]
theorem getbA (xs : List (BitVec 8)) {k : Nat} (h : k < xs.length) : (xs.map u8v).toArray[k]? = some (u8v (xs.getD k 0)) := by simp [h, List.getD]
theorem getwF (l : List (BitVec 32)) (m : Nat) (z : BitVec 32) {k : Nat} (h : k < l.length) : ((l ++ List.replicate m z).map u32v).toArray[k]? = some (u32v (l.getD k 0)) := by simp [h, List.getD, List.getElem?_append_left]
theorem Own.sb {w : World} {base e : Nat} {A : Option Addr} {n c : Nat} {xs : List (BitVec 8)} (h : Own w base e 1 A n c (xs.map u8v)) : Sb w A n xs := h.sl
theorem Sb.src {w : World} {A : Option Addr} {m : Nat} {xs : List (BitVec 8)} {t e : TypeId} (h : Sb w A m xs) (ht : P.underlying t = some (.slice e)) (c : Nat) : Src P 1 t (.slice A m c) m (xs.map u8v) w := Sl.src h ht (by decide) c (all_u8v xs)
theorem Blk.sb {w : World} {gb : Nat} {t : TypeId} {xs : List (BitVec 8)} (h : Blk w gb t (xs.map u8v).toArray) {k : Nat} (hk : xs.length = k) : Sb w (some ⟨gb, 0, none⟩) k xs := by
  have := h.sl (s := 1) (n := k) (by simp [hk])
  simpa [Sb] using this
theorem fill_set {α : Type} (f : α → Value) (l : List α) (z x : α) (N k : Nat) (hl : l.length = k) (hk : k < N) :
    (((l ++ List.replicate (N - k) z).map f).toArray).setIfInBounds k (f x) = (((l ++ [x]) ++ List.replicate (N - (k + 1)) z).map f).toArray := by
  apply Array.ext'
  rw [Array.toList_setIfInBounds]
  simp only [List.map_append, List.map_replicate]
  rw [List.set_append, if_neg (by simp [hl]), List.length_map, hl, Nat.sub_self, show N - k = (N - (k + 1)) + 1 by omega, List.replicate_succ, List.set_cons_zero]
  simp
theorem Blk.src1 {w : World} {gb : Nat} {e t e' : TypeId} {v : Value} (h : Blk w gb e #[v]) (ht : P.underlying t = some (.slice e')) (hv : v.oneCell' = true) : Src P 1 t (.slice (some ⟨gb, 0, none⟩) 1 1) 1 [v] w :=
  (h.sl (s := 1) (n := 1) rfl).src ht (by decide) 1 (fun u hu => by simp at hu; subst hu; exact hv)
theorem slice_eq {A : Option Addr} {n n' c : Nat} (h : n = n') : Value.slice A n c = Value.slice A n' c := by rw [h]
theorem int_eq {k : IntKind} {a b : Int} (h : a = b) : Value.int k a = Value.int k b := by rw [h]
theorem Own.cast {w : World} {base e s : Nat} {A : Option Addr} {n n' c : Nat} {xs xs' : List Value} (h : Own w base e s A n c xs) (hn : n = n') (hx : xs = xs') : Own w base e s A n' c xs' := by subst hn hx; exact h
theorem Blk.cast {w : World} {gb : Nat} {t : TypeId} {cs cs' : Array Value} (h : Blk w gb t cs) (hc : cs = cs') : Blk w gb t cs' := hc ▸ h
theorem Sb.cast {w : World} {A : Option Addr} {n n' : Nat} {xs xs' : List (BitVec 8)} (h : Sb w A n xs) (hn : n = n') (hx : xs = xs') : Sb w A n' xs' := by subst hn hx; exact h
theorem Sb.ch {w w' : World} {A : Option Addr} {n : Nat} {xs : List (BitVec 8)} {r : Option Nat} (h : Sb w A n xs) (hc : Ch w w' r) (hne : ∀ g, r = some g → blkOf A ≠ some g) : Sb w' A n xs := Sl.ch h hc hne
/-- The parts of a [][]byte. -/
def Parts (w : World) (vs : List Value) (ps : List (List (BitVec 8))) : Prop := vs.length = ps.length ∧ ∀ (i : Nat) (v : Value) (q : List (BitVec 8)), vs[i]? = some v → ps[i]? = some q → ∃ A c, v = Value.slice A q.length c ∧ Sb w A q.length q
theorem Parts.le {w w' : World} {vs : List Value} {ps : List (List (BitVec 8))} (h : Parts w vs ps) (hl : Le w w') : Parts w' vs ps :=
  ⟨h.1, fun i v q h1 h2 => let ⟨A, c, e, hs⟩ := h.2 i v q h1 h2; ⟨A, c, e, hs.le hl⟩⟩
theorem Parts.nil (w : World) : Parts w [] [] := ⟨rfl, fun i v q h => by simp at h⟩
theorem Parts.cons {w : World} {vs : List Value} {ps : List (List (BitVec 8))} {A : Option Addr} {n c : Nat} {q : List (BitVec 8)} (hs : Sb w A n q) (h : Parts w vs ps) : Parts w (Value.slice A n c :: vs) (q :: ps) := by
  have hn : q.length = n := hs.len
  subst hn
  refine ⟨by simp [h.1], fun i v r h1 h2 => ?_⟩
  cases i with
  | zero => simp at h1 h2; subst h1 h2; exact ⟨A, c, rfl, hs⟩
  | succ i => exact h.2 i v r (by simpa using h1) (by simpa using h2)
theorem isS {t : TypeId} {dd : TypeDesc} (h : P.underlying t = some dd) : (P.underlying t).isSome = true := by rw [h]; rfl
end
end Go.Sx
