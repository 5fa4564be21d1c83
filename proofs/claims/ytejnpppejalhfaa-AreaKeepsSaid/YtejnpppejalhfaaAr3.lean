/- The contracts of area.Total, Find, and of the reference's Pages, AreaAt. -/
import Derived.Test.YtejnpppejalhfaaAr2
namespace Go.Proofs.Ytejnpppejalhfaa
open Go.RowKit Go.Sort

theorem check_sl {v : Value} {L : List Ar} {w : World} (h : SlAr w v L) : Calls Try.prog 38 #[v] w (RB (.int .i64 (checkI L)) w) := by
  rcases h with ⟨p, c, rfl, rfl⟩ | ⟨b, off, cap, rfl, h2, h3, h4, h5⟩
  · exact check_nil p c w
  · exact check_any b off cap L w h2 h3 h4 h5

theorem sumN_take {L : List Ar} : ∀ {i : Nat} {a : Ar}, L[i]? = some a → sumN (L.take (i + 1)) = sumN (L.take i) + a.n := by
  induction L with
  | nil => intro i a h; simp at h
  | cons c L ih =>
    intro i a h
    cases i with
    | zero => simp at h; subst h; simp [sumN]
    | succ i => simp only [List.take_succ_cons, sumN]; rw [ih (by simpa using h)]; omega
theorem sumN_bound {L : List Ar} (h : ∀ (i : Nat) (a : Ar), L[i]? = some a → a.ok) : ∀ i : Nat, i ≤ L.length → 0 ≤ sumN (L.take i) ∧ sumN (L.take i) ≤ 255 * (i : Int) := by
  intro i
  induction i with
  | zero => intro _; simp [sumN]
  | succ i ih =>
    intro hi
    obtain ⟨h1, h2⟩ := ih (by omega)
    have ha := h i L[i] (by simp [hi])
    rw [sumN_take (a := L[i]) (by simp [hi])]
    unfold Ar.ok at ha
    omega
theorem good_ok {L : List Ar} (h : Good L) : ∀ (i : Nat) (a : Ar), L[i]? = some a → a.ok := fun i a ha => okAt_ok ha ((good_iff L).1 h i (by
  obtain ⟨hi, _⟩ := List.getElem?_eq_some_iff.1 ha; exact hi))
theorem checkI_zero {L : List Ar} : checkI L = 0 ↔ L.length ≤ 255 ∧ Good L := by
  unfold checkI
  split
  · exact ⟨fun h => by omega, fun h => by omega⟩
  · split
    · exact ⟨fun _ => ⟨by omega, by assumption⟩, fun _ => rfl⟩
    · exact ⟨fun h => by omega, fun h => absurd h.2 (by assumption)⟩

set_option maxRecDepth 100000 in
set_option maxHeartbeats 4000000 in
theorem total_bad {v : Value} {L : List Ar} {w : World} (h : SlAr w v L) (hc : checkI L ≠ 0) : Calls Try.prog 35 #[v] w (RB (.int .i64 0) w) := by
  have HC := hid (check_sl h)
  have hn : (checkI L == 0) = false := by rw [beq_eq_false_iff_ne]; exact hc
  clear h hc
  generalize checkI L = r at *
  go_enter Try.func35, Try.ntmps35
  go_wp2_with (first | (go_at_call 38; (with_reducible refine (HC.out).mono ?_); rintro e w1 ⟨rfl, hb1⟩))
  go_ret
  exact ⟨rfl, (by repeat (first | (with_reducible exact Below.refl _ _) | (with_reducible assumption) | (with_reducible refine Below.alloc ?_ (by first | omega | (simp; done) | (simp; omega)) _) | (with_reducible refine Below.setCell ?_ (by first | omega | (simp; done) | (simp; omega)) _) | (with_reducible refine Below.drew ?_) | (with_reducible refine bt ?_ (below_regrown _ _ _)) | (refine bt ?_ (by with_reducible assumption))))⟩

set_option maxRecDepth 100000 in
set_option maxHeartbeats 4000000 in
theorem total_good {v : Value} {L : List Ar} {w : World} (h : SlAr w v L) (hc : checkI L = 0) : Calls Try.prog 35 #[v] w (RB (.int .i64 (sumN L)) w) := by
  have HC := hid (check_sl h)
  rw [hc] at HC
  obtain ⟨hlen, hg⟩ := checkI_zero.1 hc
  have hok := good_ok hg
  have HB := hid (sumN_bound hok)
  clear hc hg
  rcases h with ⟨p, c, rfl, rfl⟩ | ⟨b, off, cap, rfl, hbl, hcap, hmax, hcells⟩
  · go_enter Try.func35, Try.ntmps35
    go_wp2_with (first | (go_at_call 38; (with_reducible refine (HC.out).mono ?_); rintro e w1 ⟨rfl, hb1⟩))
    go_loopw [3, 11] (fun vn vi wr => vn = .int .i64 0 ∧ vi = .int .i64 0 ∧ wr = w1) (fun _ _ _ => 0)
    case atStart => exact ⟨rfl, rfl, rfl⟩
    case round =>
      obtain ⟨rfl, rfl, rfl⟩ := hrel
      go_wp2
      go_ret
      exact ⟨rfl, (by repeat (first | (with_reducible exact Below.refl _ _) | (with_reducible assumption) | (with_reducible refine Below.alloc ?_ (by first | omega | (simp; done) | (simp; omega)) _) | (with_reducible refine Below.setCell ?_ (by first | omega | (simp; done) | (simp; omega)) _) | (with_reducible refine Below.drew ?_) | (with_reducible refine bt ?_ (below_regrown _ _ _)) | (refine bt ?_ (by with_reducible assumption))))⟩
  · unfold maxLen at hmax
    have HL := hid hcells
    have HO := hid hok
    clear hcells hok
    go_enter Try.func35, Try.ntmps35
    go_wp2_with (first | (go_at_call 38; (with_reducible refine (HC.out).mono ?_); rintro e w1 ⟨rfl, hb1⟩))
    go_loopw [3, 11] (fun vn vi wr => ∃ i : Nat, i ≤ L.length ∧ vi = .int .i64 i ∧ vn = .int .i64 (sumN (L.take i)) ∧ Below w.heap.size w wr) (fun _ vi _ => L.length - (intOf vi).toNat)
    case atStart => exact ⟨0, by omega, rfl, by simp [sumN], hb1⟩
    case round =>
      obtain ⟨i, hi, rfl, rfl, hb⟩ := hrel
      by_cases hlt : i < L.length
      · obtain ⟨a, ha⟩ : ∃ a, L[i]? = some a := ⟨L[i], by simp [hlt]⟩
        obtain ⟨c0, c1, c2, c3⟩ := (HL.out i a ha).grown hb hbl
        have hbr := ltAll (Nat.lt_of_lt_of_le hbl hb.size)
        have hsz := hb.size
        have hs := sumN_take ha
        have hn := HB.out i hi
        have hn2 := HO.out i a ha
        unfold Ar.ok at hn2
        have hw : wrap64 (sumN (L.take i) + a.n) = sumN (L.take i) + a.n := wrap64_small _ (by omega) (by omega)
        have HS := hid hs
        clear hs hn hn2
        generalize sumN (L.take i) = q at *
        go_wp2
        go_roundw
        case rel => exact ⟨i + 1, by omega, by go_num, by rw [HS.out, hw], (by repeat (first | (with_reducible exact Below.refl _ _) | (with_reducible assumption) | (with_reducible refine Below.alloc ?_ (by first | omega | (simp; done) | (simp; omega)) _) | (with_reducible refine Below.setCell ?_ (by first | omega | (simp; done) | (simp; omega)) _) | (with_reducible refine Below.drew ?_) | (with_reducible refine bt ?_ (below_regrown _ _ _)) | (refine bt ?_ (by with_reducible assumption))))⟩
        case measure => simp [intOf]; omega
      · go_wp2
        go_ret
        have : i = L.length := by omega
        subst this
        exact ⟨ret_int (by simp), hb⟩
end Go.Proofs.Ytejnpppejalhfaa
