/- The contracts of the reference's uses, IsBad, reckon. -/
import Derived.Test.YtejnpppejalhfaaCpu6
namespace Go.Proofs.Ytejnpppejalhfaa
open Go.RowKit Go.Sort

theorem results_tmp3 {P : Program} {fn : Func} {p q r : Tmp} {w : World} (h : fn.results = #[.tmp p, .tmp q, .tmp r]) (tmps : Array Value) (a b c : Value) (hp : tmps.getD p undef = a) (hq : tmps.getD q undef = b) (hr : tmps.getD r undef = c) :
    (results fn tmps).run P w = .ok (.tuple #[a, b, c]) w := by
  have hp' : tmps[p]?.getD undef = a := by simpa using hp
  have hq' : tmps[q]?.getD undef = b := by simpa using hq
  have hr' : tmps[r]?.getD undef = c := by simpa using hr
  simp [results, h, hp', hq', hr']
def Shape (op : Int) (sa sb sc : Bool) : Prop := ∀ w, Calls Try.prog 61 #[.int .i64 op] w (RB (.tuple #[.bool sa, .bool sb, .bool sc]) w)
set_option maxRecDepth 100000 in
set_option maxHeartbeats 1000000 in
theorem uses_a (op : Int) (h : op = 1 ∨ op = 11 ∨ op = 15) : Shape op true false false := by
  rcases h with h | h | h
  · subst h; intro w
    go_enter Try.func61, Try.ntmps61
    go_wp2
    refine bodyPost_ret (v := .tuple #[.bool true, .bool false, .bool false]) (results_tmp3 rfl _ _ _ _ rfl rfl rfl) rfl ⟨rfl, Below.refl _ _⟩
  · subst h; intro w
    go_enter Try.func61, Try.ntmps61
    go_wp2
    refine bodyPost_ret (v := .tuple #[.bool true, .bool false, .bool false]) (results_tmp3 rfl _ _ _ _ rfl rfl rfl) rfl ⟨rfl, Below.refl _ _⟩
  · subst h; intro w
    go_enter Try.func61, Try.ntmps61
    go_wp2
    refine bodyPost_ret (v := .tuple #[.bool true, .bool false, .bool false]) (results_tmp3 rfl _ _ _ _ rfl rfl rfl) rfl ⟨rfl, Below.refl _ _⟩
set_option maxRecDepth 100000 in
set_option maxHeartbeats 1000000 in
theorem uses_b (op : Int) (h : 2 ≤ op ∧ op ≤ 7) : Shape op true true true := by
  obtain ⟨h1, h2⟩ := h
  have n1 : (op == 1) = false := by rw [beq_eq_false_iff_ne]; omega
  have n11 : (op == 11) = false := by rw [beq_eq_false_iff_ne]; omega
  have n15 : (op == 15) = false := by rw [beq_eq_false_iff_ne]; omega
  intro w
  go_enter Try.func61, Try.ntmps61
  go_wp2
  refine bodyPost_ret (v := .tuple #[.bool true, .bool true, .bool true]) (results_tmp3 rfl _ _ _ _ rfl rfl rfl) rfl ⟨rfl, Below.refl _ _⟩
set_option maxRecDepth 100000 in
set_option maxHeartbeats 1000000 in
theorem uses_c (op : Int) (h : op = 8 ∨ op = 9 ∨ op = 10 ∨ op = 13 ∨ op = 14) : Shape op true true false := by
  rcases h with h | h | h | h | h
  · subst h; intro w
    go_enter Try.func61, Try.ntmps61
    go_wp2
    refine bodyPost_ret (v := .tuple #[.bool true, .bool true, .bool false]) (results_tmp3 rfl _ _ _ _ rfl rfl rfl) rfl ⟨rfl, Below.refl _ _⟩
  · subst h; intro w
    go_enter Try.func61, Try.ntmps61
    go_wp2
    refine bodyPost_ret (v := .tuple #[.bool true, .bool true, .bool false]) (results_tmp3 rfl _ _ _ _ rfl rfl rfl) rfl ⟨rfl, Below.refl _ _⟩
  · subst h; intro w
    go_enter Try.func61, Try.ntmps61
    go_wp2
    refine bodyPost_ret (v := .tuple #[.bool true, .bool true, .bool false]) (results_tmp3 rfl _ _ _ _ rfl rfl rfl) rfl ⟨rfl, Below.refl _ _⟩
  · subst h; intro w
    go_enter Try.func61, Try.ntmps61
    go_wp2
    refine bodyPost_ret (v := .tuple #[.bool true, .bool true, .bool false]) (results_tmp3 rfl _ _ _ _ rfl rfl rfl) rfl ⟨rfl, Below.refl _ _⟩
  · subst h; intro w
    go_enter Try.func61, Try.ntmps61
    go_wp2
    refine bodyPost_ret (v := .tuple #[.bool true, .bool true, .bool false]) (results_tmp3 rfl _ _ _ _ rfl rfl rfl) rfl ⟨rfl, Below.refl _ _⟩
set_option maxRecDepth 100000 in
set_option maxHeartbeats 1000000 in
theorem uses_d (op : Int) (h : op = 12 ∨ op = 16) : Shape op false false false := by
  rcases h with h | h
  · subst h; intro w
    go_enter Try.func61, Try.ntmps61
    go_wp2
    refine bodyPost_ret (v := .tuple #[.bool false, .bool false, .bool false]) (results_tmp3 rfl _ _ _ _ rfl rfl rfl) rfl ⟨rfl, Below.refl _ _⟩
  · subst h; intro w
    go_enter Try.func61, Try.ntmps61
    go_wp2
    refine bodyPost_ret (v := .tuple #[.bool false, .bool false, .bool false]) (results_tmp3 rfl _ _ _ _ rfl rfl rfl) rfl ⟨rfl, Below.refl _ _⟩

theorem and63 (y : Int) : bits .and .i64 y 63 = y % 64 := by
  show IntKind.i64.wrap ((BitVec.ofInt 64 y &&& BitVec.ofInt 64 63).toNat : Int) = _
  rw [BitVec.toNat_and, BitVec.toNat_ofInt, BitVec.toNat_ofInt, IntKind.wrap_i64, show ((63 : Int) % ↑(2 ^ 64 : Nat)).toNat = 2 ^ 6 - 1 from by decide, Nat.and_two_pow_sub_one_eq_mod]
  omega
theorem shr_ref (x y : Int) : wrap64 (IntKind.u64.wrap x / 2 ^ min (IntKind.u64.wrap (bits .and .i64 y 63)).toNat 64) = shrI x y := by
  rw [and63, IntKind.wrap_u64 (y % 64), show min (y % 64 % 18446744073709551616).toNat 64 = (y % 64).toNat from by omega]
  rfl

set_option maxRecDepth 100000 in
set_option maxHeartbeats 1000000 in
theorem reckon_any (op x y : Int) (w : World) (h : 2 ≤ op ∧ op ≤ 7) : Calls Try.prog 62 #[.int .i64 op, .int .i64 x, .int .i64 y] w (RB (.int .i64 (reckI op x y)) w) := by
  rcases show op = 2 ∨ op = 3 ∨ op = 4 ∨ op = 5 ∨ op = 6 ∨ op = 7 by omega with h | h | h | h | h | h
  all_goals
    subst h
    go_enter Try.func62, Try.ntmps62
    go_wp2
    go_ret
    first
      | exact ⟨ret_int rfl, Below.refl _ _⟩
      | exact ⟨ret_int (shr_ref x y), Below.refl _ _⟩
end Go.Proofs.Ytejnpppejalhfaa
