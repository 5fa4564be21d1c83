/- Plain facts on bytes and numbers, with no program in sight. -/
import Derived.Handy
namespace Go.Proofs.Ytejnpppejalhfaa
open Go.RowKit

/-- the lowest k bytes of n, the lowest first -/
def leB (n : Int) : Nat → List UInt8
  | 0 => []
  | k + 1 => leB n k ++ [UInt8.ofNat ((n / 2 ^ (8 * k)) % 256).toNat]

@[go_sem] theorem leB_length (n : Int) (k : Nat) : (leB n k).length = k := by
  induction k with
  | zero => rfl
  | succ k ih => simp [leB, ih]

/-- the number of bytes, the lowest first -/
def numB : List UInt8 → Nat
  | [] => 0
  | b :: l => b.toNat + 256 * numB l

theorem pow256 (j : Nat) : (2 : Int) ^ (8 * (j + 1)) = 2 ^ (8 * j) * 256 := by
  rw [show 8 * (j + 1) = 8 * j + 8 from by omega, Int.pow_add]
  rfl

theorem div_step (n : Int) (j : Nat) : n / 2 ^ (8 * j) / 256 = n / 2 ^ (8 * (j + 1)) := by
  rw [pow256, Int.ediv_ediv_of_nonneg]
  exact Int.le_of_lt (Int.pow_pos (by decide))

theorem wrap64_0 : wrap64 0 = 0 := by unfold wrap64; decide

/-- a step of the reference's Number: 'n<<8 | b' -/
theorem or_step (x b : Int) (h0 : 0 ≤ b) (h1 : b < 256) : bits .or .i64 (wrap64 (wrap64 x * 256)) b = wrap64 (b + 256 * x) := by
  show IntKind.i64.wrap ((BitVec.ofInt 64 (wrap64 (wrap64 x * 256)) ||| BitVec.ofInt 64 b).toNat : Int) = _
  rw [BitVec.toNat_or, BitVec.toNat_ofInt, BitVec.toNat_ofInt, IntKind.wrap_i64]
  rw [nat_join 8 _ _ (by unfold wrap64; omega) (by omega)]
  unfold wrap64
  omega

theorem numB_drop (l : List UInt8) (j : Nat) (h : j < l.length) : numB (l.drop j) = l[j].toNat + 256 * numB (l.drop (j + 1)) := by
  rw [List.drop_eq_getElem_cons h]; rfl

/-- are n places from off on among so many? -/
def inB (off n all : Int) : Bool := decide (0 ≤ off ∧ 0 ≤ n ∧ off ≤ all ∧ n ≤ all - off)

theorem wrap64_byte (b : UInt8) : wrap64 (b.toNat : Int) = (b.toNat : Int) := by
  have := b.toNat_lt
  unfold wrap64; omega

/-- Put's row behind j rounds -/
def putRow (n : Int) (size j : Nat) : List UInt8 := leB n j ++ List.replicate (size - j) 0
theorem putRow_length (n : Int) (size j : Nat) (h : j ≤ size) : (putRow n size j).length = size := by
  unfold putRow; rw [List.length_append, leB_length, List.length_replicate]; omega
theorem putRow_end (n : Int) (size : Nat) : putRow n size size = leB n size := by unfold putRow; simp
def byteAt (n : Int) (j : Nat) : UInt8 := UInt8.ofNat ((n / 2 ^ (8 * j)) % 256).toNat
theorem putRow_step (n : Int) (size j : Nat) (h : j < size) : (putRow n size j).set j (byteAt n j) = putRow n size (j + 1) := by
  unfold putRow
  rw [List.set_append_right _ _ (by rw [leB_length]; exact Nat.le_refl _), leB_length, Nat.sub_self, show size - j = (size - (j + 1)) + 1 from by omega, List.replicate_succ, List.set_cons_zero]
  simp [leB, byteAt]

theorem numB_snoc (l : List UInt8) (b : UInt8) : numB (l ++ [b]) = numB l + b.toNat * 256 ^ l.length := by
  induction l with
  | nil => simp [numB]
  | cons c l ih => simp only [List.cons_append, numB, ih, List.length_cons, Nat.pow_succ]; rw [Nat.mul_add, Nat.add_assoc, ← Nat.mul_assoc, Nat.mul_comm 256 b.toNat, Nat.mul_assoc b.toNat, Nat.mul_comm 256 (256 ^ l.length)]
theorem numB_take (l : List UInt8) (j : Nat) (h : j < l.length) : numB (l.take (j + 1)) = numB (l.take j) + l[j].toNat * 256 ^ j := by
  rw [List.take_succ_eq_append_getElem h, numB_snoc, List.length_take, Nat.min_eq_left (by omega)]
theorem numB_lt (l : List UInt8) : numB l < 256 ^ l.length := by
  induction l with
  | nil => simp [numB]
  | cons c l ih => have := c.toNat_lt; simp only [numB, List.length_cons, Nat.pow_succ]; omega
theorem get_num (a b j : Nat) (hb : b < 256) (hj : j < 8) (ha : a < 256 ^ j) :
    IntKind.u64.wrap ((a : Int) + IntKind.u64.wrap (IntKind.u64.wrap (b : Int) * 2 ^ (8 * j))) = ((a + b * 256 ^ j : Nat) : Int) := by
  have h : j = 0 ∨ j = 1 ∨ j = 2 ∨ j = 3 ∨ j = 4 ∨ j = 5 ∨ j = 6 ∨ j = 7 := by omega
  rcases h with rfl | rfl | rfl | rfl | rfl | rfl | rfl | rfl <;> simp only [IntKind.wrap_u64] <;> simp at * <;> omega
theorem get_step (l : List UInt8) (j : Nat) (h : j < l.length) (h8 : l.length ≤ 8) :
    IntKind.u64.wrap (↑(numB (l.take j)) + IntKind.u64.wrap (IntKind.u64.wrap (l[j].toNat : Int) * 2 ^ (8 * j))) = (numB (l.take (j + 1)) : Int) := by
  rw [numB_take l j h]
  refine get_num _ _ _ l[j].toNat_lt (by omega) ?_
  have := numB_lt (l.take j)
  rwa [List.length_take, Nat.min_eq_left (by omega)] at this
theorem put_num (n : Int) (j : Nat) (hj : j < 8) : IntKind.u64.wrap n / 2 ^ (8 * j) % 256 = ((byteAt n j).toNat : Int) := by
  have e : ((byteAt n j).toNat : Int) = n / 2 ^ (8 * j) % 256 := by
    unfold byteAt
    have h1 : 0 ≤ n / 2 ^ (8 * j) % 256 := Int.emod_nonneg _ (by decide)
    have h2 : n / 2 ^ (8 * j) % 256 < 256 := Int.emod_lt_of_pos _ (by decide)
    rw [UInt8.toNat_ofNat']
    omega
  rw [e]
  have h : j = 0 ∨ j = 1 ∨ j = 2 ∨ j = 3 ∨ j = 4 ∨ j = 5 ∨ j = 6 ∨ j = 7 := by omega
  rcases h with rfl | rfl | rfl | rfl | rfl | rfl | rfl | rfl <;> simp only [IntKind.wrap_u64] <;> simp at * <;> omega

end Go.Proofs.Ytejnpppejalhfaa
