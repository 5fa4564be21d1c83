/- The contracts of the reference's SameAreas (all forms), within, CheckAreas. -/
import Derived.Test.YtejnpppejalhfaaAr10
import Derived.Test.YtejnpppejalhfaaAr5
namespace Go.Proofs.Ytejnpppejalhfaa
open Go.RowKit Go.Sort

set_option maxRecDepth 100000 in
set_option maxHeartbeats 4000000 in
theorem same_sl {va vb : Value} {A B : List Ar} {w : World} (ha : SlAr w va A) (hb : SlAr w vb B) : Calls Try.prog 47 #[va, vb] w (RB (.bool (decide (A = B))) w) := by
  rcases ha with ⟨p, c, rfl, rfl⟩ | ⟨b1, off1, cap1, rfl, h2, h3, h4, h5⟩
  · rcases hb with ⟨p2, c2, rfl, rfl⟩ | ⟨b2, off2, cap2, rfl, k2, k3, k4, k5⟩
    · go_enter Try.func47, Try.ntmps47
      go_wp2
      go_loopw [5] (fun vi wr => vi = .int .i64 0 ∧ wr = w) (fun _ _ => 0)
      case atStart => exact ⟨rfl, rfl⟩
      case round =>
        obtain ⟨rfl, rfl⟩ := hrel
        go_wp2
        go_ret
        exact ⟨ret_bool (by simp), Below.refl _ _⟩
    · cases B with
      | nil =>
        simp only [List.length_nil]
        go_enter Try.func47, Try.ntmps47
        go_wp2
        go_loopw [5] (fun vi wr => vi = .int .i64 0 ∧ wr = w) (fun _ _ => 0)
        case atStart => exact ⟨rfl, rfl⟩
        case round =>
          obtain ⟨rfl, rfl⟩ := hrel
          go_wp2
          go_ret
          exact ⟨ret_bool (by simp), Below.refl _ _⟩
      | cons c B =>
        have hn : ((0 : Int) != ((c :: B).length : Nat)) = true := by rw [bne_iff_ne]; simp; omega
        generalize hD : (c :: B).length = n at *
        go_enter Try.func47, Try.ntmps47
        go_wp2
        go_ret
        exact ⟨ret_bool (by simp), Below.refl _ _⟩
  · rcases hb with ⟨p2, c2, rfl, rfl⟩ | ⟨b2, off2, cap2, rfl, k2, k3, k4, k5⟩
    · cases A with
      | nil =>
        simp only [List.length_nil]
        go_enter Try.func47, Try.ntmps47
        go_wp2
        go_loopw [5] (fun vi wr => vi = .int .i64 0 ∧ wr = w) (fun _ _ => 0)
        case atStart => exact ⟨rfl, rfl⟩
        case round =>
          obtain ⟨rfl, rfl⟩ := hrel
          go_wp2
          go_ret
          exact ⟨ret_bool (by simp), Below.refl _ _⟩
      | cons c A =>
        have hn : (((c :: A).length : Int) != 0) = true := by rw [bne_iff_ne]; simp; omega
        generalize hD : (c :: A).length = n at *
        go_enter Try.func47, Try.ntmps47
        go_wp2
        go_ret
        exact ⟨ret_bool (by simp), Below.refl _ _⟩
    · by_cases hl : A.length = B.length
      · exact same_some b1 off1 cap1 b2 off2 cap2 h2 k2 h5 k5 hl (len_max h3 h4)
      · have HX := hid (len_not hl)
        have hn : ((A.length : Int) != B.length) = true := by rw [bne_iff_ne]; omega
        clear hl h4 k4 h5 k5 h3 k3
        go_enter Try.func47, Try.ntmps47
        go_wp2
        go_ret
        exact ⟨ret_bool (decide_eq_false HX.out).symm, Below.refl _ _⟩

set_option maxRecDepth 100000 in
theorem inside_any (n lo hi : Int) (w : World) : Calls Try.prog 57 #[.int .i64 n, .int .i64 lo, .int .i64 hi] w fun e w' => e = .returned (.bool (decide (lo ≤ n ∧ n ≤ hi))) ∧ w = w' := by
  by_cases h1 : lo ≤ n
  · by_cases h2 : n ≤ hi
    · go_enter Try.func57, Try.ntmps57
      go_wp2
      go_ret
      exact ⟨ret_bool (by simp [h1, h2]), rfl⟩
    · go_enter Try.func57, Try.ntmps57
      go_wp2
      go_ret
      exact ⟨ret_bool (by simp [h1, h2]), rfl⟩
  · go_enter Try.func57, Try.ntmps57
    go_wp2
    go_ret
    exact ⟨ret_bool (by simp; omega), rfl⟩
end Go.Proofs.Ytejnpppejalhfaa
