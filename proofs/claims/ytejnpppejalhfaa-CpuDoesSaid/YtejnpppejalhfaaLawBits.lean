/- The laws of package bits, as walks. -/
import Derived.Test.YtejnpppejalhfaaBits
import Derived.Lib.QuietBelow
namespace Go.Proofs.Ytejnpppejalhfaa
open Go.RowKit Go.Sort

theorem begun1 : leB (-2) 3 = [254, 255, 255] := by decide
theorem begun2 : wrap64 (numB [1, 2]) = 513 := by unfold wrap64; decide
theorem begun3 : splice [97, 98, 99, 100] 1 [120, 121] = ([97, 120, 121, 100] : List UInt8) := by decide

theorem bitsBegun_put (w : World) : Calls Try.prog 14 #[.int .i64 (-2), .int .i64 3] w fun e w' => e = .returned (.tuple #[.string ⟨#[254, 255, 255]⟩, .int .i64 0]) ∧ Below w.heap.size w w' :=
  (put_yes (-2) 3 w (by decide) (by decide)).mono fun e w' ⟨h1, h2⟩ => ⟨by rw [h1, begun1], h2⟩
theorem bitsBegun_get (w : World) : Calls Try.prog 15 #[.string ⟨#[1, 2]⟩] w fun e w' => e = .returned (.tuple #[.int .i64 513, .int .i64 0]) ∧ w = w' :=
  (get_yes [1, 2] w (by decide) (by decide)).mono fun e w' ⟨h1, h2⟩ => ⟨by rw [h1, begun2], h2⟩
theorem bitsBegun_part (w : World) : Calls Try.prog 19 #[.string ⟨#[97, 98, 99, 100]⟩, .int .i64 1, .int .i64 2] w fun e w' => e = .returned (.tuple #[.string ⟨#[98, 99]⟩, .int .i64 0]) ∧ w = w' :=
  (part_yes [97, 98, 99, 100] 1 2 w (by decide) (by decide)).mono fun e w' ⟨h1, h2⟩ => ⟨by rw [h1]; rfl, h2⟩
theorem bitsBegun_lay (w : World) : Calls Try.prog 20 #[.string ⟨#[97, 98, 99, 100]⟩, .int .i64 1, .string ⟨#[120, 121]⟩] w fun e w' => e = .returned (.tuple #[.string ⟨#[97, 120, 121, 100]⟩, .int .i64 0]) ∧ Below w.heap.size w w' :=
  (lay_yes [97, 98, 99, 100] [120, 121] 1 w (by decide) (by decide)).mono fun e w' ⟨h1, h2⟩ => ⟨by rw [h1, begun3], h2⟩

set_option maxRecDepth 100000 in
set_option maxHeartbeats 400000 in
theorem bitsBegun_any (w : World) : Calls Try.prog 18 #[] w fun e w' => e = .returned (.bool true) ∧ Below w.heap.size w w' := by
  go_enter Try.func18, Try.ntmps18
  go_wp2_with (first | (go_at_call 14; refine (bitsBegun_put _).mono ?_; rintro e w1 ⟨rfl, hb1⟩) | (go_at_call 15; refine (bitsBegun_get _).mono ?_; rintro e w2 ⟨rfl, rfl⟩) | (go_at_call 19; refine (bitsBegun_part _).mono ?_; rintro e w3 ⟨rfl, rfl⟩) | (go_at_call 20; refine (bitsBegun_lay _).mono ?_; rintro e w4 ⟨rfl, hb4⟩))
  go_ret
  exact ⟨rfl, hb1.trans (hb4.mono hb1.size)⟩

theorem split8 (n : Nat) : n < 1 ∨ 8 < n ∨ (1 ≤ n ∧ n ≤ 8) := by omega
theorem split8i (n : Int) : n < 1 ∨ 8 < n ∨ (1 ≤ n ∧ n ≤ 8) := by omega

set_option maxRecDepth 100000 in
set_option maxHeartbeats 1000000 in
theorem bitsPuts_walk (n k : Int) (s : List UInt8) (w : World) (hs : s.length ≤ maxLen) : Calls Try.prog 3 #[.int .i64 n, .int .i64 k, .string ⟨s.toArray⟩] w (RB (.bool true) w) := by
  have hs' := hs
  unfold maxLen at hs'
  rcases split8 s.length with h | h | ⟨h, h'⟩
  · have HG := hid (fun w => rb_same (get_no s w hs (by omega)))
    have HN : Hid True := hid trivial
    rcases split8i k with g | g | ⟨g, g'⟩
    · have HP := hid (fun w => rb_same (put_no n k w (by omega)))
      have HB : Hid True := hid trivial
      go_enter Try.func3, Try.ntmps3
      go_wp2_with (first | (go_at_call 14; refine (HP.out _).mono ?_; rintro e w1 ⟨rfl, hb1⟩) | (go_at_call 15; refine (HG.out _).mono ?_; rintro e w2 ⟨rfl, hb2⟩) | (go_at_call 16; refine (HB.out _).mono ?_; rintro e w3 ⟨rfl, hb3⟩) | (go_at_call 17; refine (HN.out _).mono ?_; rintro e w4 ⟨rfl, hb4⟩) | (go_at_call 18; refine (bitsBegun_any _).mono ?_; rintro e w5 ⟨rfl, hb5⟩))
      all_goals
        go_ret
        exact ⟨rfl, (by repeat (first | exact Below.refl _ _ | assumption | refine bt ?_ (by assumption)))⟩
    · have HP := hid (fun w => rb_same (put_no n k w (by omega)))
      have HB : Hid True := hid trivial
      go_enter Try.func3, Try.ntmps3
      go_wp2_with (first | (go_at_call 14; refine (HP.out _).mono ?_; rintro e w1 ⟨rfl, hb1⟩) | (go_at_call 15; refine (HG.out _).mono ?_; rintro e w2 ⟨rfl, hb2⟩) | (go_at_call 16; refine (HB.out _).mono ?_; rintro e w3 ⟨rfl, hb3⟩) | (go_at_call 17; refine (HN.out _).mono ?_; rintro e w4 ⟨rfl, hb4⟩) | (go_at_call 18; refine (bitsBegun_any _).mono ?_; rintro e w5 ⟨rfl, hb5⟩))
      all_goals
        go_ret
        exact ⟨rfl, (by repeat (first | exact Below.refl _ _ | assumption | refine bt ?_ (by assumption)))⟩
    · obtain ⟨m, rfl⟩ := Int.eq_ofNat_of_zero_le (show 0 ≤ k by omega)
      have HP := hid (fun w => rb_below (put_yes n m w (by omega) (by omega)))
      have HB := hid (fun w => rb_below (bytes_any n m w (by omega)))
      go_enter Try.func3, Try.ntmps3
      go_wp2_with (first | (go_at_call 14; refine (HP.out _).mono ?_; rintro e w1 ⟨rfl, hb1⟩) | (go_at_call 15; refine (HG.out _).mono ?_; rintro e w2 ⟨rfl, hb2⟩) | (go_at_call 16; refine (HB.out _).mono ?_; rintro e w3 ⟨rfl, hb3⟩) | (go_at_call 17; refine (HN.out _).mono ?_; rintro e w4 ⟨rfl, hb4⟩) | (go_at_call 18; refine (bitsBegun_any _).mono ?_; rintro e w5 ⟨rfl, hb5⟩))
      all_goals
        go_ret
        exact ⟨rfl, (by repeat (first | exact Below.refl _ _ | assumption | refine bt ?_ (by assumption)))⟩
  · have HG := hid (fun w => rb_same (get_no s w hs (by omega)))
    have HN : Hid True := hid trivial
    rcases split8i k with g | g | ⟨g, g'⟩
    · have HP := hid (fun w => rb_same (put_no n k w (by omega)))
      have HB : Hid True := hid trivial
      go_enter Try.func3, Try.ntmps3
      go_wp2_with (first | (go_at_call 14; refine (HP.out _).mono ?_; rintro e w1 ⟨rfl, hb1⟩) | (go_at_call 15; refine (HG.out _).mono ?_; rintro e w2 ⟨rfl, hb2⟩) | (go_at_call 16; refine (HB.out _).mono ?_; rintro e w3 ⟨rfl, hb3⟩) | (go_at_call 17; refine (HN.out _).mono ?_; rintro e w4 ⟨rfl, hb4⟩) | (go_at_call 18; refine (bitsBegun_any _).mono ?_; rintro e w5 ⟨rfl, hb5⟩))
      all_goals
        go_ret
        exact ⟨rfl, (by repeat (first | exact Below.refl _ _ | assumption | refine bt ?_ (by assumption)))⟩
    · have HP := hid (fun w => rb_same (put_no n k w (by omega)))
      have HB : Hid True := hid trivial
      go_enter Try.func3, Try.ntmps3
      go_wp2_with (first | (go_at_call 14; refine (HP.out _).mono ?_; rintro e w1 ⟨rfl, hb1⟩) | (go_at_call 15; refine (HG.out _).mono ?_; rintro e w2 ⟨rfl, hb2⟩) | (go_at_call 16; refine (HB.out _).mono ?_; rintro e w3 ⟨rfl, hb3⟩) | (go_at_call 17; refine (HN.out _).mono ?_; rintro e w4 ⟨rfl, hb4⟩) | (go_at_call 18; refine (bitsBegun_any _).mono ?_; rintro e w5 ⟨rfl, hb5⟩))
      all_goals
        go_ret
        exact ⟨rfl, (by repeat (first | exact Below.refl _ _ | assumption | refine bt ?_ (by assumption)))⟩
    · obtain ⟨m, rfl⟩ := Int.eq_ofNat_of_zero_le (show 0 ≤ k by omega)
      have HP := hid (fun w => rb_below (put_yes n m w (by omega) (by omega)))
      have HB := hid (fun w => rb_below (bytes_any n m w (by omega)))
      go_enter Try.func3, Try.ntmps3
      go_wp2_with (first | (go_at_call 14; refine (HP.out _).mono ?_; rintro e w1 ⟨rfl, hb1⟩) | (go_at_call 15; refine (HG.out _).mono ?_; rintro e w2 ⟨rfl, hb2⟩) | (go_at_call 16; refine (HB.out _).mono ?_; rintro e w3 ⟨rfl, hb3⟩) | (go_at_call 17; refine (HN.out _).mono ?_; rintro e w4 ⟨rfl, hb4⟩) | (go_at_call 18; refine (bitsBegun_any _).mono ?_; rintro e w5 ⟨rfl, hb5⟩))
      all_goals
        go_ret
        exact ⟨rfl, (by repeat (first | exact Below.refl _ _ | assumption | refine bt ?_ (by assumption)))⟩
  · have HG := hid (fun w => rb_same (get_yes s w h h'))
    have HN := hid (fun w => rb_same (number_any s w h'))
    rcases split8i k with g | g | ⟨g, g'⟩
    · have HP := hid (fun w => rb_same (put_no n k w (by omega)))
      have HB : Hid True := hid trivial
      go_enter Try.func3, Try.ntmps3
      go_wp2_with (first | (go_at_call 14; refine (HP.out _).mono ?_; rintro e w1 ⟨rfl, hb1⟩) | (go_at_call 15; refine (HG.out _).mono ?_; rintro e w2 ⟨rfl, hb2⟩) | (go_at_call 16; refine (HB.out _).mono ?_; rintro e w3 ⟨rfl, hb3⟩) | (go_at_call 17; refine (HN.out _).mono ?_; rintro e w4 ⟨rfl, hb4⟩) | (go_at_call 18; refine (bitsBegun_any _).mono ?_; rintro e w5 ⟨rfl, hb5⟩))
      all_goals
        go_ret
        exact ⟨rfl, (by repeat (first | exact Below.refl _ _ | assumption | refine bt ?_ (by assumption)))⟩
    · have HP := hid (fun w => rb_same (put_no n k w (by omega)))
      have HB : Hid True := hid trivial
      go_enter Try.func3, Try.ntmps3
      go_wp2_with (first | (go_at_call 14; refine (HP.out _).mono ?_; rintro e w1 ⟨rfl, hb1⟩) | (go_at_call 15; refine (HG.out _).mono ?_; rintro e w2 ⟨rfl, hb2⟩) | (go_at_call 16; refine (HB.out _).mono ?_; rintro e w3 ⟨rfl, hb3⟩) | (go_at_call 17; refine (HN.out _).mono ?_; rintro e w4 ⟨rfl, hb4⟩) | (go_at_call 18; refine (bitsBegun_any _).mono ?_; rintro e w5 ⟨rfl, hb5⟩))
      all_goals
        go_ret
        exact ⟨rfl, (by repeat (first | exact Below.refl _ _ | assumption | refine bt ?_ (by assumption)))⟩
    · obtain ⟨m, rfl⟩ := Int.eq_ofNat_of_zero_le (show 0 ≤ k by omega)
      have HP := hid (fun w => rb_below (put_yes n m w (by omega) (by omega)))
      have HB := hid (fun w => rb_below (bytes_any n m w (by omega)))
      go_enter Try.func3, Try.ntmps3
      go_wp2_with (first | (go_at_call 14; refine (HP.out _).mono ?_; rintro e w1 ⟨rfl, hb1⟩) | (go_at_call 15; refine (HG.out _).mono ?_; rintro e w2 ⟨rfl, hb2⟩) | (go_at_call 16; refine (HB.out _).mono ?_; rintro e w3 ⟨rfl, hb3⟩) | (go_at_call 17; refine (HN.out _).mono ?_; rintro e w4 ⟨rfl, hb4⟩) | (go_at_call 18; refine (bitsBegun_any _).mono ?_; rintro e w5 ⟨rfl, hb5⟩))
      all_goals
        go_ret
        exact ⟨rfl, (by repeat (first | exact Below.refl _ _ | assumption | refine bt ?_ (by assumption)))⟩

theorem inB_no {off n all : Int} (h : off < 0 ∨ n < 0 ∨ all < off ∨ all - off < n) : inB off n all = false := by
  unfold inB; simp; omega

set_option maxRecDepth 100000 in
set_option maxHeartbeats 2000000 in
theorem bitsParts_walk (s : List UInt8) (off n : Int) (t : List UInt8) (w : World) (hs : s.length ≤ maxLen) (ht : t.length ≤ maxLen) : Calls Try.prog 4 #[.string ⟨s.toArray⟩, .int .i64 off, .int .i64 n, .string ⟨t.toArray⟩] w (RB (.bool true) w) := by
  have hs' := hs
  have ht' := ht
  unfold maxLen at hs' ht'
  rcases show off < 0 ∨ (s.length : Int) < off ∨ (0 ≤ off ∧ off ≤ s.length) from by omega with h | h | ⟨h, h'⟩
  · have HP := hid (fun w => rb_same (part_no s off n w hs (inB_no (by omega))))
    have HL := hid (fun w => rb_same (lay_no s t off w hs (inB_no (by omega))))
    have HO : Hid True := hid trivial
    go_enter Try.func4, Try.ntmps4
    go_wp2_with (first | (go_at_call 19; refine (HP.out _).mono ?_; rintro e w1 ⟨rfl, hb1⟩) | (go_at_call 20; refine (HL.out _).mono ?_; rintro e w2 ⟨rfl, hb2⟩) | (go_at_call 21; refine (HO.out _).mono ?_; rintro e w3 ⟨rfl, hb3⟩) | (go_at_call 18; refine (bitsBegun_any _).mono ?_; rintro e w5 ⟨rfl, hb5⟩))
    all_goals
      go_ret
      exact ⟨rfl, (by repeat (first | exact Below.refl _ _ | assumption | refine bt ?_ (by assumption)))⟩
  · have HP := hid (fun w => rb_same (part_no s off n w hs (inB_no (by omega))))
    have HL := hid (fun w => rb_same (lay_no s t off w hs (inB_no (by omega))))
    have HO : Hid True := hid trivial
    go_enter Try.func4, Try.ntmps4
    go_wp2_with (first | (go_at_call 19; refine (HP.out _).mono ?_; rintro e w1 ⟨rfl, hb1⟩) | (go_at_call 20; refine (HL.out _).mono ?_; rintro e w2 ⟨rfl, hb2⟩) | (go_at_call 21; refine (HO.out _).mono ?_; rintro e w3 ⟨rfl, hb3⟩) | (go_at_call 18; refine (bitsBegun_any _).mono ?_; rintro e w5 ⟨rfl, hb5⟩))
    all_goals
      go_ret
      exact ⟨rfl, (by repeat (first | exact Below.refl _ _ | assumption | refine bt ?_ (by assumption)))⟩
  · obtain ⟨m, rfl⟩ := Int.eq_ofNat_of_zero_le h
    rcases show s.length < m + t.length ∨ m + t.length ≤ s.length from by omega with k | k
    · have HL := hid (fun w => rb_same (lay_no s t m w hs (inB_no (by omega))))
      have HO : Hid True := hid trivial
      rcases show n < 0 ∨ (s.length : Int) - m < n ∨ (0 ≤ n ∧ n ≤ s.length - m) from by omega with g | g | ⟨g, g'⟩
      · have HP := hid (fun w => rb_same (part_no s m n w hs (inB_no (by omega))))
        go_enter Try.func4, Try.ntmps4
        go_wp2_with (first | (go_at_call 19; refine (HP.out _).mono ?_; rintro e w1 ⟨rfl, hb1⟩) | (go_at_call 20; refine (HL.out _).mono ?_; rintro e w2 ⟨rfl, hb2⟩) | (go_at_call 21; refine (HO.out _).mono ?_; rintro e w3 ⟨rfl, hb3⟩) | (go_at_call 18; refine (bitsBegun_any _).mono ?_; rintro e w5 ⟨rfl, hb5⟩))
        all_goals
          go_ret
          exact ⟨rfl, (by repeat (first | exact Below.refl _ _ | assumption | refine bt ?_ (by assumption)))⟩
      · have HP := hid (fun w => rb_same (part_no s m n w hs (inB_no (by omega))))
        go_enter Try.func4, Try.ntmps4
        go_wp2_with (first | (go_at_call 19; refine (HP.out _).mono ?_; rintro e w1 ⟨rfl, hb1⟩) | (go_at_call 20; refine (HL.out _).mono ?_; rintro e w2 ⟨rfl, hb2⟩) | (go_at_call 21; refine (HO.out _).mono ?_; rintro e w3 ⟨rfl, hb3⟩) | (go_at_call 18; refine (bitsBegun_any _).mono ?_; rintro e w5 ⟨rfl, hb5⟩))
        all_goals
          go_ret
          exact ⟨rfl, (by repeat (first | exact Below.refl _ _ | assumption | refine bt ?_ (by assumption)))⟩
      · obtain ⟨q, rfl⟩ := Int.eq_ofNat_of_zero_le g
        have HP := hid (fun w => rb_same (part_yes s m q w hs (by omega)))
        go_enter Try.func4, Try.ntmps4
        go_wp2_with (first | (go_at_call 19; refine (HP.out _).mono ?_; rintro e w1 ⟨rfl, hb1⟩) | (go_at_call 20; refine (HL.out _).mono ?_; rintro e w2 ⟨rfl, hb2⟩) | (go_at_call 21; refine (HO.out _).mono ?_; rintro e w3 ⟨rfl, hb3⟩) | (go_at_call 18; refine (bitsBegun_any _).mono ?_; rintro e w5 ⟨rfl, hb5⟩))
        all_goals
          go_ret
          exact ⟨rfl, (by repeat (first | exact Below.refl _ _ | assumption | refine bt ?_ (by assumption)))⟩
    · have HL := hid (fun w => rb_below (lay_yes s t m w hs k))
      have HO := hid (fun w => rb_drew (over_any s t m w hs k))
      rcases show n < 0 ∨ (s.length : Int) - m < n ∨ (0 ≤ n ∧ n ≤ s.length - m) from by omega with g | g | ⟨g, g'⟩
      · have HP := hid (fun w => rb_same (part_no s m n w hs (inB_no (by omega))))
        go_enter Try.func4, Try.ntmps4
        go_wp2_with (first | (go_at_call 19; refine (HP.out _).mono ?_; rintro e w1 ⟨rfl, hb1⟩) | (go_at_call 20; refine (HL.out _).mono ?_; rintro e w2 ⟨rfl, hb2⟩) | (go_at_call 21; refine (HO.out _).mono ?_; rintro e w3 ⟨rfl, hb3⟩) | (go_at_call 18; refine (bitsBegun_any _).mono ?_; rintro e w5 ⟨rfl, hb5⟩))
        all_goals
          go_ret
          exact ⟨rfl, (by repeat (first | exact Below.refl _ _ | assumption | refine bt ?_ (by assumption)))⟩
      · have HP := hid (fun w => rb_same (part_no s m n w hs (inB_no (by omega))))
        go_enter Try.func4, Try.ntmps4
        go_wp2_with (first | (go_at_call 19; refine (HP.out _).mono ?_; rintro e w1 ⟨rfl, hb1⟩) | (go_at_call 20; refine (HL.out _).mono ?_; rintro e w2 ⟨rfl, hb2⟩) | (go_at_call 21; refine (HO.out _).mono ?_; rintro e w3 ⟨rfl, hb3⟩) | (go_at_call 18; refine (bitsBegun_any _).mono ?_; rintro e w5 ⟨rfl, hb5⟩))
        all_goals
          go_ret
          exact ⟨rfl, (by repeat (first | exact Below.refl _ _ | assumption | refine bt ?_ (by assumption)))⟩
      · obtain ⟨q, rfl⟩ := Int.eq_ofNat_of_zero_le g
        have HP := hid (fun w => rb_same (part_yes s m q w hs (by omega)))
        go_enter Try.func4, Try.ntmps4
        go_wp2_with (first | (go_at_call 19; refine (HP.out _).mono ?_; rintro e w1 ⟨rfl, hb1⟩) | (go_at_call 20; refine (HL.out _).mono ?_; rintro e w2 ⟨rfl, hb2⟩) | (go_at_call 21; refine (HO.out _).mono ?_; rintro e w3 ⟨rfl, hb3⟩) | (go_at_call 18; refine (bitsBegun_any _).mono ?_; rintro e w5 ⟨rfl, hb5⟩))
        all_goals
          go_ret
          exact ⟨rfl, (by repeat (first | exact Below.refl _ _ | assumption | refine bt ?_ (by assumption)))⟩

set_option maxRecDepth 100000 in
set_option maxHeartbeats 1000000 in
theorem choose_any (c n : Int) (w : World) (h : 0 < n) (hn : n ≤ 9223372036854775807) (hc : -9223372036854775808 ≤ c) (hc2 : c ≤ 9223372036854775807) : Calls Try.prog 22 #[.int .i64 c, .int .i64 n] w fun e w' => ∃ k : Nat, e = .returned (.int .i64 k) ∧ k < n ∧ w = w' := by
  by_cases hlt : c < 0
  · go_enter Try.func22, Try.ntmps22
    go_wp2_with (fail)
    go_ret
    have h1 := Int.emod_nonneg (-(c + 1)) (show n ≠ 0 by omega)
    have h2 := Int.emod_lt_of_pos (-(c + 1)) h
    exact ⟨((-(c + 1)) % n).toNat, ret_int (by show -(Int.tmod (c + 1) n) = _; rw [← Int.neg_tmod, Int.tmod_eq_emod_of_nonneg (by omega)]; omega), by omega, rfl⟩
  · go_enter Try.func22, Try.ntmps22
    go_wp2_with (fail)
    go_ret
    have h1 := Int.emod_nonneg c (show n ≠ 0 by omega)
    have h2 := Int.emod_lt_of_pos c h
    exact ⟨(c % n).toNat, ret_int (by omega), by omega, rfl⟩

/-! PUT OF GET is the bytes; GET OF PUT the number. -/
theorem wrap64_id (n : Int) (h1 : -9223372036854775808 ≤ n) (h2 : n ≤ 9223372036854775807) : wrap64 n = n := by unfold wrap64; omega
theorem toInt8 (n : Int) : ((UInt8.ofNat (n % 256).toNat).toNat : Int) = n % 256 := by
  rw [UInt8.toNat_ofNat']; omega
theorem pow8 (k : Nat) : ((256 ^ k : Nat) : Int) = 2 ^ (8 * k) := by
  rw [Int.pow_mul, Int.natCast_pow]; rfl
theorem mod_step (n P : Int) (hP : 0 < P) : n % P + n / P % 256 * P = n % (P * 256) := by
  have h1 := Int.emod_add_mul_ediv n P
  have h2 := Int.emod_add_mul_ediv (n / P) 256
  have r0 := Int.emod_nonneg n (show P ≠ 0 by omega)
  have r1 := Int.emod_lt_of_pos n hP
  have s0 := Int.emod_nonneg (n / P) (show (256 : Int) ≠ 0 by decide)
  have s1 := Int.emod_lt_of_pos (n / P) (show (0 : Int) < 256 by decide)
  have e : n = (n % P + n / P % 256 * P) + P * 256 * (n / P / 256) := by
    have : P * (n / P) = P * (n / P % 256) + P * (256 * (n / P / 256)) := by rw [← Int.mul_add, h2]
    rw [Int.mul_comm (n / P % 256) P, Int.mul_assoc]; omega
  have b0 : 0 ≤ n / P % 256 * P := Int.mul_nonneg s0 (by omega)
  have b1 : n / P % 256 * P ≤ 255 * P := Int.mul_le_mul_of_nonneg_right (by omega) (by omega)
  generalize n % P = r at *
  generalize n / P % 256 * P = t at *
  generalize n / P / 256 = q at *
  rw [e, Int.add_mul_emod_self_left, Int.emod_eq_of_lt (by omega) (by omega)]
theorem numB_leB (n : Int) (k : Nat) : (numB (leB n k) : Int) = n % 2 ^ (8 * k) := by
  induction k with
  | zero => simp [leB, numB]
  | succ k ih =>
    rw [leB, numB_snoc, leB_length, Int.natCast_add, Int.natCast_mul, ih, toInt8, pow8, pow256, mod_step _ _ (Int.pow_pos (by decide))]
theorem get_put (n : Int) (h1 : -9223372036854775808 ≤ n) (h2 : n ≤ 9223372036854775807) : wrap64 (numB (leB n 8)) = n := by
  rw [numB_leB]; unfold wrap64; simp; omega
theorem leB_at (n : Int) (k j : Nat) (h : j < (leB n k).length) : (leB n k)[j] = byteAt n j := by
  induction k with
  | zero => simp [leB] at h
  | succ k ih =>
    simp only [leB, List.getElem_append]
    split
    · exact ih _
    · rw [leB_length] at *
      have : j = k := by omega
      subst this
      simp [byteAt]
theorem byteAt_cons (b : UInt8) (m : Nat) (j : Nat) : byteAt ((b.toNat + 256 * m : Nat) : Int) (j + 1) = byteAt m j := by
  have hb := b.toNat_lt
  unfold byteAt
  rw [pow256, Int.mul_comm, ← Int.ediv_ediv_of_nonneg (by decide)]
  have : ((b.toNat + 256 * m : Nat) : Int) / 256 = m := by omega
  rw [this]
theorem byteAt_numB (l : List UInt8) (j : Nat) (h : j < l.length) : byteAt (numB l) j = l[j] := by
  induction l generalizing j with
  | nil => simp at h
  | cons b l ih =>
    cases j with
    | zero =>
      have hb := b.toNat_lt
      unfold byteAt numB
      apply UInt8.toNat_inj.1
      rw [UInt8.toNat_ofNat']
      simp
      omega
    | succ j => rw [numB, byteAt_cons]; exact ih j (by simpa using h)
theorem byteAt_wrap (n : Int) (j : Nat) (h : j < 8) : byteAt (wrap64 n) j = byteAt n j := by
  unfold byteAt wrap64
  have h : j = 0 ∨ j = 1 ∨ j = 2 ∨ j = 3 ∨ j = 4 ∨ j = 5 ∨ j = 6 ∨ j = 7 := by omega
  congr 2
  rcases h with rfl | rfl | rfl | rfl | rfl | rfl | rfl | rfl <;> simp <;> omega
theorem put_get (l : List UInt8) (h8 : l.length ≤ 8) : leB (wrap64 (numB l)) l.length = l := by
  apply List.ext_getElem
  · rw [leB_length]
  · intro j h1 h2
    rw [leB_at, byteAt_wrap _ _ (by omega), byteAt_numB l j h2]
theorem splice_part (s t : List UInt8) (m : Nat) (h : m + t.length ≤ s.length) : ((splice s m t).drop m).take t.length = t := by
  unfold splice
  rw [List.drop_append_of_le_length (by simp; omega)]
  simp
theorem splice_else (s t : List UInt8) (m x : Nat) (h : m + t.length ≤ s.length) (hx : x < s.length) (ho : x < m ∨ m + t.length ≤ x) : (splice s m t)[x]? = some s[x] := by
  unfold splice
  rcases ho with ho | ho
  · rw [List.getElem?_append_left (by simp; omega)]
    simp [ho]
  · rw [List.getElem?_append_right (by simp; omega), List.getElem?_append_right (by simp; omega)]
    simp [show min m s.length = m from by omega, show m + t.length + (x - m - t.length) = x from by omega]

set_option maxRecDepth 100000 in
set_option maxHeartbeats 2000000 in
theorem bitsBack_walk (n : Int) (s : List UInt8) (off : Int) (t : List UInt8) (at_ : Int) (w : World) (hs : s.length ≤ maxLen) (ht : t.length ≤ maxLen) (h1 : -9223372036854775808 ≤ n) (h2 : n ≤ 9223372036854775807) (a1 : -9223372036854775808 ≤ at_) (a2 : at_ ≤ 9223372036854775807) :
    Calls Try.prog 5 #[.int .i64 n, .string ⟨s.toArray⟩, .int .i64 off, .string ⟨t.toArray⟩, .int .i64 at_] w (RB (.bool true) w) := by
  have hs' := hs
  have ht' := ht
  unfold maxLen at hs' ht'
  have HN : Hid (∀ w, Calls Try.prog 14 #[.int .i64 n, .int .i64 8] w (RB (.tuple #[.string ⟨(leB n 8).toArray⟩, .int .i64 0]) w)) := fun w => rb_below (put_yes n 8 w (by decide) (by decide))
  have HM : Hid (∀ w, Calls Try.prog 15 #[.string ⟨(leB n 8).toArray⟩] w (RB (.tuple #[.int .i64 n, .int .i64 0]) w)) := by
    intro w
    have := rb_same (get_yes (leB n 8) w (by rw [leB_length]; decide) (by rw [leB_length]; decide))
    rwa [get_put n h1 h2] at this
  by_cases hi : inB off t.length s.length = true
  · obtain ⟨m, rfl, hm⟩ : ∃ m : Nat, off = m ∧ m + t.length ≤ s.length := by
      unfold inB at hi; simp at hi; exact ⟨off.toNat, by omega, by omega⟩
    clear hi
    have HL := hid (fun w => rb_below (lay_yes s t m w hs hm))
    have hlen := length_splice s m t hm
    have HP : Hid (∀ w, Calls Try.prog 19 #[.string ⟨(splice s m t).toArray⟩, .int .i64 m, .int .i64 t.length] w (RB (.tuple #[.string ⟨t.toArray⟩, .int .i64 0]) w)) := by
      intro w
      have := rb_same (part_yes (splice s m t) m t.length w (by rw [hlen]; exact hs) (by rw [hlen]; exact hm))
      rwa [splice_part s t m hm] at this
    obtain ⟨L, hL⟩ : ∃ L, L = splice s m t := ⟨_, rfl⟩
    rw [← hL] at hlen HL HP
    have HLen := hid hlen
    have hLl : L.length ≤ s.length := by omega
    have hLg : s.length ≤ L.length := by omega
    have hne : (L.length != s.length) = false := by simp [hlen]
    have HE : Hid (∀ x, x < s.length → (x < m ∨ m + t.length ≤ x) → L[x]? = s[x]?) := by
      intro x hx ho
      rw [hL, splice_else s t m x hm hx ho, List.getElem?_eq_getElem hx]
    clear hL hlen
    rcases split8 s.length with h | h | ⟨h, h'⟩
    · have HS := hid (fun w => rb_same (get_no s w hs (by omega)))
      have HR : Hid True := hid trivial
      have HC : Hid True := hid trivial
      go_enter Try.func5, Try.ntmps5
      go_wp2_with (first | (go_at_call 14; (with_reducible refine (HN.out _).mono ?_); rintro e w1 ⟨rfl, hb1⟩) | (go_at_call 15; (with_reducible refine (HM.out _).mono ?_); rintro e w2 ⟨rfl, hb2⟩) | (go_at_call 15; (with_reducible refine (HS.out _).mono ?_); rintro e w3 ⟨rfl, hb3⟩) | (go_at_call 14; (with_reducible refine (HR.out _).mono ?_); rintro e w4 ⟨rfl, hb4⟩) | (go_at_call 20; (with_reducible refine (HL.out _).mono ?_); rintro e w5 ⟨rfl, hb5⟩) | (go_at_call 19; (with_reducible refine (HP.out _).mono ?_); rintro e w6 ⟨rfl, hb6⟩) | (go_at_call 22; (with_reducible refine (HC.out _).mono ?_); rintro e w7 ⟨rfl, hb7⟩) | (go_at_call 18; (with_reducible refine (bitsBegun_any _).mono ?_); rintro e w8 ⟨rfl, hb8⟩))
      all_goals
        go_ret
        exact ⟨rfl, (by repeat (first | exact Below.refl _ _ | assumption | refine bt ?_ (by assumption)))⟩
    · have HS := hid (fun w => rb_same (get_no s w hs (by omega)))
      have HR : Hid True := hid trivial
      have HC := hid (fun w => choose_any at_ s.length w (by omega) (by omega) a1 a2)
      go_enter Try.func5, Try.ntmps5
      go_wp2_with (first | (go_at_call 14; (with_reducible refine (HN.out _).mono ?_); rintro e w1 ⟨rfl, hb1⟩) | (go_at_call 15; (with_reducible refine (HM.out _).mono ?_); rintro e w2 ⟨rfl, hb2⟩) | (go_at_call 15; (with_reducible refine (HS.out _).mono ?_); rintro e w3 ⟨rfl, hb3⟩) | (go_at_call 14; (with_reducible refine (HR.out _).mono ?_); rintro e w4 ⟨rfl, hb4⟩) | (go_at_call 20; (with_reducible refine (HL.out _).mono ?_); rintro e w5 ⟨rfl, hb5⟩) | (go_at_call 19; (with_reducible refine (HP.out _).mono ?_); rintro e w6 ⟨rfl, hb6⟩) | (go_at_call 22; (with_reducible refine (HC.out _).mono ?_); rintro e w7 ⟨x, rfl, hx, rfl⟩))
      have hx1 : x < s.length := by omega
      have hx2 : x < L.length := by omega
      have hw : IntKind.i64.wrap ((m : Int) + (t.length : Int)) = (m : Int) + (t.length : Int) := IntWalk.i64_in _ (by omega)
      rcases show x < m ∨ m + t.length ≤ x ∨ (m ≤ x ∧ x < m + t.length) from by omega with k | k | ⟨k, k'⟩
      · have he : L[x] = s[x] := by
          have := HE.out x hx1 (.inl k)
          rw [List.getElem?_eq_getElem hx1, List.getElem?_eq_getElem hx2] at this
          simpa using this
        have hd1 : decide (m ≤ x) = false := by simp; omega
        refine wp_region_quiet_below (by kernel_rfl) (by kernel_rfl) ?_
        repeat (first | go_big_quiet_step ((go_at_call 18; exact Calls.regrown_of (bitsBegun_any _))) | quiet_step ((go_at_call 18; exact Calls.regrown_of (bitsBegun_any _))))
        refine wpQuiet_nil ?_
        intro _ hw'
        obtain ⟨⟨dq, osq⟩, hw''⟩ := hw'
        subst hw''
        have hbq := below_regrown w6 dq osq
        generalize grow (redrawn w6 dq) osq = wq at *
        go_wp2
        all_goals
          go_ret
          refine ⟨ret_bool (a := ((L[x].toNat : Int) == (s[x].toNat : Int))) ?_, (by repeat (first | exact Below.refl _ _ | assumption | refine bt ?_ (by assumption)))⟩
          rw [he]; simp
      · have he : L[x] = s[x] := by
          have := HE.out x hx1 (.inr k)
          rw [List.getElem?_eq_getElem hx1, List.getElem?_eq_getElem hx2] at this
          simpa using this
        have hd1 : decide (m ≤ x) = true := by simp; omega
        have hd2 : decide ((x : Int) < (m : Int) + (t.length : Int)) = false := by simp; omega
        have hd3 : decide (x < m + t.length) = false := by simp; omega
        refine wp_region_quiet_below (by kernel_rfl) (by kernel_rfl) ?_
        repeat (first | go_big_quiet_step ((go_at_call 18; exact Calls.regrown_of (bitsBegun_any _))) | quiet_step ((go_at_call 18; exact Calls.regrown_of (bitsBegun_any _))))
        refine wpQuiet_nil ?_
        intro _ hw'
        obtain ⟨⟨dq, osq⟩, hw''⟩ := hw'
        subst hw''
        have hbq := below_regrown w6 dq osq
        generalize grow (redrawn w6 dq) osq = wq at *
        go_wp2
        all_goals
          go_ret
          refine ⟨ret_bool (a := ((L[x].toNat : Int) == (s[x].toNat : Int))) ?_, (by repeat (first | exact Below.refl _ _ | assumption | refine bt ?_ (by assumption)))⟩
          rw [he]; simp
      · have hd1 : decide (m ≤ x) = true := by simp; omega
        have hd2 : decide ((x : Int) < (m : Int) + (t.length : Int)) = true := by simp; omega
        have hd3 : decide (x < m + t.length) = true := by simp; omega
        refine wp_region_quiet_below (by kernel_rfl) (by kernel_rfl) ?_
        repeat (first | go_big_quiet_step ((go_at_call 18; exact Calls.regrown_of (bitsBegun_any _))) | quiet_step ((go_at_call 18; exact Calls.regrown_of (bitsBegun_any _))))
        refine wpQuiet_nil ?_
        intro _ hw'
        obtain ⟨⟨dq, osq⟩, hw''⟩ := hw'
        subst hw''
        have hbq := below_regrown w6 dq osq
        generalize grow (redrawn w6 dq) osq = wq at *
        go_wp2
        all_goals
          go_ret
          exact ⟨rfl, (by repeat (first | exact Below.refl _ _ | assumption | refine bt ?_ (by assumption)))⟩
    · have HS := hid (fun w => rb_same (get_yes s w h h'))
      have HR : Hid (∀ w, Calls Try.prog 14 #[.int .i64 (wrap64 (numB s)), .int .i64 s.length] w (RB (.tuple #[.string ⟨s.toArray⟩, .int .i64 0]) w)) := by
        intro w
        have := rb_below (put_yes (wrap64 (numB s)) s.length w h h')
        rwa [put_get s h'] at this
      have HC := hid (fun w => choose_any at_ s.length w (by omega) (by omega) a1 a2)
      go_enter Try.func5, Try.ntmps5
      go_wp2_with (first | (go_at_call 14; (with_reducible refine (HN.out _).mono ?_); rintro e w1 ⟨rfl, hb1⟩) | (go_at_call 15; (with_reducible refine (HM.out _).mono ?_); rintro e w2 ⟨rfl, hb2⟩) | (go_at_call 15; (with_reducible refine (HS.out _).mono ?_); rintro e w3 ⟨rfl, hb3⟩) | (go_at_call 14; (with_reducible refine (HR.out _).mono ?_); rintro e w4 ⟨rfl, hb4⟩) | (go_at_call 20; (with_reducible refine (HL.out _).mono ?_); rintro e w5 ⟨rfl, hb5⟩) | (go_at_call 19; (with_reducible refine (HP.out _).mono ?_); rintro e w6 ⟨rfl, hb6⟩) | (go_at_call 22; (with_reducible refine (HC.out _).mono ?_); rintro e w7 ⟨x, rfl, hx, rfl⟩))
      have hx1 : x < s.length := by omega
      have hx2 : x < L.length := by omega
      have hw : IntKind.i64.wrap ((m : Int) + (t.length : Int)) = (m : Int) + (t.length : Int) := IntWalk.i64_in _ (by omega)
      rcases show x < m ∨ m + t.length ≤ x ∨ (m ≤ x ∧ x < m + t.length) from by omega with k | k | ⟨k, k'⟩
      · have he : L[x] = s[x] := by
          have := HE.out x hx1 (.inl k)
          rw [List.getElem?_eq_getElem hx1, List.getElem?_eq_getElem hx2] at this
          simpa using this
        have hd1 : decide (m ≤ x) = false := by simp; omega
        refine wp_region_quiet_below (by kernel_rfl) (by kernel_rfl) ?_
        repeat (first | go_big_quiet_step ((go_at_call 18; exact Calls.regrown_of (bitsBegun_any _))) | quiet_step ((go_at_call 18; exact Calls.regrown_of (bitsBegun_any _))))
        refine wpQuiet_nil ?_
        intro _ hw'
        obtain ⟨⟨dq, osq⟩, hw''⟩ := hw'
        subst hw''
        have hbq := below_regrown w6 dq osq
        generalize grow (redrawn w6 dq) osq = wq at *
        go_wp2
        all_goals
          go_ret
          refine ⟨ret_bool (a := ((L[x].toNat : Int) == (s[x].toNat : Int))) ?_, (by repeat (first | exact Below.refl _ _ | assumption | refine bt ?_ (by assumption)))⟩
          rw [he]; simp
      · have he : L[x] = s[x] := by
          have := HE.out x hx1 (.inr k)
          rw [List.getElem?_eq_getElem hx1, List.getElem?_eq_getElem hx2] at this
          simpa using this
        have hd1 : decide (m ≤ x) = true := by simp; omega
        have hd2 : decide ((x : Int) < (m : Int) + (t.length : Int)) = false := by simp; omega
        have hd3 : decide (x < m + t.length) = false := by simp; omega
        refine wp_region_quiet_below (by kernel_rfl) (by kernel_rfl) ?_
        repeat (first | go_big_quiet_step ((go_at_call 18; exact Calls.regrown_of (bitsBegun_any _))) | quiet_step ((go_at_call 18; exact Calls.regrown_of (bitsBegun_any _))))
        refine wpQuiet_nil ?_
        intro _ hw'
        obtain ⟨⟨dq, osq⟩, hw''⟩ := hw'
        subst hw''
        have hbq := below_regrown w6 dq osq
        generalize grow (redrawn w6 dq) osq = wq at *
        go_wp2
        all_goals
          go_ret
          refine ⟨ret_bool (a := ((L[x].toNat : Int) == (s[x].toNat : Int))) ?_, (by repeat (first | exact Below.refl _ _ | assumption | refine bt ?_ (by assumption)))⟩
          rw [he]; simp
      · have hd1 : decide (m ≤ x) = true := by simp; omega
        have hd2 : decide ((x : Int) < (m : Int) + (t.length : Int)) = true := by simp; omega
        have hd3 : decide (x < m + t.length) = true := by simp; omega
        refine wp_region_quiet_below (by kernel_rfl) (by kernel_rfl) ?_
        repeat (first | go_big_quiet_step ((go_at_call 18; exact Calls.regrown_of (bitsBegun_any _))) | quiet_step ((go_at_call 18; exact Calls.regrown_of (bitsBegun_any _))))
        refine wpQuiet_nil ?_
        intro _ hw'
        obtain ⟨⟨dq, osq⟩, hw''⟩ := hw'
        subst hw''
        have hbq := below_regrown w6 dq osq
        generalize grow (redrawn w6 dq) osq = wq at *
        go_wp2
        all_goals
          go_ret
          exact ⟨rfl, (by repeat (first | exact Below.refl _ _ | assumption | refine bt ?_ (by assumption)))⟩
  · have HL := hid (fun w => rb_same (lay_no s t off w hs (by simpa using hi)))
    have HP : Hid True := hid trivial
    have HC : Hid True := hid trivial
    clear hi
    rcases split8 s.length with h | h | ⟨h, h'⟩
    · have HS := hid (fun w => rb_same (get_no s w hs (by omega)))
      have HR : Hid True := hid trivial
      go_enter Try.func5, Try.ntmps5
      go_wp2_with (first | (go_at_call 14; (with_reducible refine (HN.out _).mono ?_); rintro e w1 ⟨rfl, hb1⟩) | (go_at_call 15; (with_reducible refine (HM.out _).mono ?_); rintro e w2 ⟨rfl, hb2⟩) | (go_at_call 15; (with_reducible refine (HS.out _).mono ?_); rintro e w3 ⟨rfl, hb3⟩) | (go_at_call 14; (with_reducible refine (HR.out _).mono ?_); rintro e w4 ⟨rfl, hb4⟩) | (go_at_call 20; (with_reducible refine (HL.out _).mono ?_); rintro e w5 ⟨rfl, hb5⟩) | (go_at_call 19; (with_reducible refine (HP.out _).mono ?_); rintro e w6 ⟨rfl, hb6⟩) | (go_at_call 22; (with_reducible refine (HC.out _).mono ?_); rintro e w7 ⟨rfl, hb7⟩) | (go_at_call 18; (with_reducible refine (bitsBegun_any _).mono ?_); rintro e w8 ⟨rfl, hb8⟩))
      all_goals
        go_ret
        exact ⟨rfl, (by repeat (first | exact Below.refl _ _ | assumption | refine bt ?_ (by assumption)))⟩
    · have HS := hid (fun w => rb_same (get_no s w hs (by omega)))
      have HR : Hid True := hid trivial
      go_enter Try.func5, Try.ntmps5
      go_wp2_with (first | (go_at_call 14; (with_reducible refine (HN.out _).mono ?_); rintro e w1 ⟨rfl, hb1⟩) | (go_at_call 15; (with_reducible refine (HM.out _).mono ?_); rintro e w2 ⟨rfl, hb2⟩) | (go_at_call 15; (with_reducible refine (HS.out _).mono ?_); rintro e w3 ⟨rfl, hb3⟩) | (go_at_call 14; (with_reducible refine (HR.out _).mono ?_); rintro e w4 ⟨rfl, hb4⟩) | (go_at_call 20; (with_reducible refine (HL.out _).mono ?_); rintro e w5 ⟨rfl, hb5⟩) | (go_at_call 19; (with_reducible refine (HP.out _).mono ?_); rintro e w6 ⟨rfl, hb6⟩) | (go_at_call 22; (with_reducible refine (HC.out _).mono ?_); rintro e w7 ⟨rfl, hb7⟩) | (go_at_call 18; (with_reducible refine (bitsBegun_any _).mono ?_); rintro e w8 ⟨rfl, hb8⟩))
      all_goals
        go_ret
        exact ⟨rfl, (by repeat (first | exact Below.refl _ _ | assumption | refine bt ?_ (by assumption)))⟩
    · have HS := hid (fun w => rb_same (get_yes s w h h'))
      have HR : Hid (∀ w, Calls Try.prog 14 #[.int .i64 (wrap64 (numB s)), .int .i64 s.length] w (RB (.tuple #[.string ⟨s.toArray⟩, .int .i64 0]) w)) := by
        intro w
        have := rb_below (put_yes (wrap64 (numB s)) s.length w h h')
        rwa [put_get s h'] at this
      go_enter Try.func5, Try.ntmps5
      go_wp2_with (first | (go_at_call 14; (with_reducible refine (HN.out _).mono ?_); rintro e w1 ⟨rfl, hb1⟩) | (go_at_call 15; (with_reducible refine (HM.out _).mono ?_); rintro e w2 ⟨rfl, hb2⟩) | (go_at_call 15; (with_reducible refine (HS.out _).mono ?_); rintro e w3 ⟨rfl, hb3⟩) | (go_at_call 14; (with_reducible refine (HR.out _).mono ?_); rintro e w4 ⟨rfl, hb4⟩) | (go_at_call 20; (with_reducible refine (HL.out _).mono ?_); rintro e w5 ⟨rfl, hb5⟩) | (go_at_call 19; (with_reducible refine (HP.out _).mono ?_); rintro e w6 ⟨rfl, hb6⟩) | (go_at_call 22; (with_reducible refine (HC.out _).mono ?_); rintro e w7 ⟨rfl, hb7⟩) | (go_at_call 18; (with_reducible refine (bitsBegun_any _).mono ?_); rintro e w8 ⟨rfl, hb8⟩))
      all_goals
        go_ret
        exact ⟨rfl, (by repeat (first | exact Below.refl _ _ | assumption | refine bt ?_ (by assumption)))⟩
end Go.Proofs.Ytejnpppejalhfaa
