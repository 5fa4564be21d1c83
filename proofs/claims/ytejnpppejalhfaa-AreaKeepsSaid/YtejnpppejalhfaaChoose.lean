/- foliantlaw.choose: a number out of n, whatever it is handed. -/
import Derived.Test.YtejnpppejalhfaaKit
import Derived.Test.YtejnpppejalhfaaPlain
import Derived.Test.YtejnpppejalhfaaSc10
import Derived.Test.YtejnpppejalhfaaTab
import Derived.Lib.QuietBelow
namespace Go.Proofs.Ytejnpppejalhfaa
open Go.RowKit Go.Sort

set_option maxRecDepth 100000 in
set_option maxHeartbeats 1000000 in
theorem choose_one (c n : Int) (w : World) (h : 0 < n) (hn : n ≤ 9223372036854775807) (hc : -9223372036854775808 ≤ c) (hc2 : c ≤ 9223372036854775807) : Calls Try.prog 22 #[.int .i64 c, .int .i64 n] w fun e w' => ∃ k : Nat, e = .returned (.int .i64 k) ∧ k < n ∧ w = w' := by
  by_cases hlt : c < 0
  · go_enter Try.func22, Try.ntmps22
    go_wp2_with (fail)
    go_ret
    have h1 := Int.emod_nonneg (-(c + 1)) (show n ≠ 0 by omega)
    have h2 := Int.emod_lt_of_pos (-(c + 1)) h
    exact ⟨((-(c + 1)) % n).toNat, ret_int (by show -(Int.tmod (c + 1) n) = _; rw [← Int.neg_tmod, Int.tmod_eq_emod_of_nonneg (by omega)]; omega), by omega, rfl⟩
  · go_enter Try.func22, Try.ntmps22
    go_wp2_with (fail)
    go_ret
    have h1 := Int.emod_nonneg c (show n ≠ 0 by omega)
    have h2 := Int.emod_lt_of_pos c h
    exact ⟨(c % n).toNat, ret_int (by omega), by omega, rfl⟩
theorem choose_fn (c n : Int) (w : World) (h : 0 < n) (hn : n ≤ 9223372036854775807) (hc : -9223372036854775808 ≤ c) (hc2 : c ≤ 9223372036854775807) : Fn Try.prog 22 [.int .i64 c, .int .i64 n] w (fun v w' => ∃ k : Nat, v = .int .i64 k ∧ (k : Int) < n ∧ w' = w) :=
  ⟨⟨_, Try.func22, by kernel_rfl, by kernel_rfl⟩, (choose_one c n w h hn hc hc2).mono fun _ _ ⟨k, h1, h2, h3⟩ => ⟨_, h1, k, rfl, h2, h3.symm⟩⟩
end Go.Proofs.Ytejnpppejalhfaa
