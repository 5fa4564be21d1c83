/- The contracts of the reference's spanError, MapIn. -/
import Derived.Test.YtejnpppejalhfaaAr12
namespace Go.Proofs.Ytejnpppejalhfaa
open Go.RowKit Go.Sort

def spanE (L : List Ar) (page pages prot : Int) : Int := if checkI L ≠ 0 then checkI L else if spanB page pages prot = true then 0 else 3
theorem spanB_iff (page pages prot : Int) : spanB page pages prot = true ↔ 1 ≤ page ∧ page ≤ 255 ∧ 1 ≤ pages ∧ pages ≤ 256 - page ∧ 0 ≤ prot ∧ prot ≤ 3 := by unfold spanB; simp

set_option maxRecDepth 100000 in
set_option maxHeartbeats 4000000 in
theorem spanError_any {v : Value} {L : List Ar} {w : World} (page pages prot : Int) (h : SlAr w v L) : Calls Try.prog 74 #[v, .int .i64 page, .int .i64 pages, .int .i64 prot] w (RB (.int .i64 (spanE L page pages prot)) w) := by
  have HC := hid (checkAreas_sl h)
  have HW1 := hid (fun w => inside_any page 1 255 w)
  have HW2 := hid (fun w => inside_any pages 1 255 w)
  have HW4 := hid (fun w => inside_any prot 0 3 w)
  clear h
  by_cases hc : checkI L = 0
  · have hE : spanE L page pages prot = if spanB page pages prot = true then 0 else 3 := by unfold spanE; rw [if_neg (fun h => h hc)]
    rw [hc] at HC
    have hS := spanB_iff page pages prot
    by_cases h1 : 1 ≤ page ∧ page ≤ 255
    · rw [decide_eq_true h1] at HW1
      by_cases h2 : 1 ≤ pages ∧ pages ≤ 255
      · rw [decide_eq_true h2] at HW2
        have hw1 : wrap64 (page + pages) = page + pages := wrap64_small _ (by omega) (by omega)
        have hw2 : wrap64 (page + pages - 1) = page + pages - 1 := wrap64_small _ (by omega) (by omega)
        by_cases h3 : 255 < page + pages - 1
        · have HX : Hid (spanE L page pages prot = 3) := hid (by rw [hE, if_neg (fun h => by rw [hS] at h; omega)])
          clear h1 h2 hE hS hc
          go_enter Try.func74, Try.ntmps74
          go_wp2_with (first | (go_at_call 36; (with_reducible refine (HC.out).mono ?_); rintro e w1 ⟨rfl, hbw⟩) | (go_at_call 57; (with_reducible refine (HW1.out _).mono ?_); rintro e w1 ⟨rfl, rfl⟩) | (go_at_call 57; (with_reducible refine (HW2.out _).mono ?_); rintro e w1 ⟨rfl, rfl⟩) | (go_at_call 57; (with_reducible refine (HW4.out _).mono ?_); rintro e w1 ⟨rfl, rfl⟩))
          go_ret
          exact ⟨ret_int HX.out.symm, hbw⟩
        · have h3' : page + pages - 1 ≤ 255 := by omega
          by_cases h4 : 0 ≤ prot ∧ prot ≤ 3
          · rw [decide_eq_true h4] at HW4
            have HX : Hid (spanE L page pages prot = 0) := hid (by rw [hE, if_pos (hS.2 (by omega))])
            clear h1 h2 h3 h4 hE hS hc
            go_enter Try.func74, Try.ntmps74
            go_wp2_with (first | (go_at_call 36; (with_reducible refine (HC.out).mono ?_); rintro e w1 ⟨rfl, hbw⟩) | (go_at_call 57; (with_reducible refine (HW1.out _).mono ?_); rintro e w1 ⟨rfl, rfl⟩) | (go_at_call 57; (with_reducible refine (HW2.out _).mono ?_); rintro e w1 ⟨rfl, rfl⟩) | (go_at_call 57; (with_reducible refine (HW4.out _).mono ?_); rintro e w1 ⟨rfl, rfl⟩))
            go_ret
            exact ⟨ret_int HX.out.symm, hbw⟩
          · rw [decide_eq_false h4] at HW4
            have HX : Hid (spanE L page pages prot = 3) := hid (by rw [hE, if_neg (fun h => by rw [hS] at h; omega)])
            clear h1 h2 h3 h4 hE hS hc
            go_enter Try.func74, Try.ntmps74
            go_wp2_with (first | (go_at_call 36; (with_reducible refine (HC.out).mono ?_); rintro e w1 ⟨rfl, hbw⟩) | (go_at_call 57; (with_reducible refine (HW1.out _).mono ?_); rintro e w1 ⟨rfl, rfl⟩) | (go_at_call 57; (with_reducible refine (HW2.out _).mono ?_); rintro e w1 ⟨rfl, rfl⟩) | (go_at_call 57; (with_reducible refine (HW4.out _).mono ?_); rintro e w1 ⟨rfl, rfl⟩))
            go_ret
            exact ⟨ret_int HX.out.symm, hbw⟩
      · rw [decide_eq_false h2] at HW2
        have HX : Hid (spanE L page pages prot = 3) := hid (by rw [hE, if_neg (fun h => by rw [hS] at h; omega)])
        clear h1 h2 hE hS hc
        go_enter Try.func74, Try.ntmps74
        go_wp2_with (first | (go_at_call 36; (with_reducible refine (HC.out).mono ?_); rintro e w1 ⟨rfl, hbw⟩) | (go_at_call 57; (with_reducible refine (HW1.out _).mono ?_); rintro e w1 ⟨rfl, rfl⟩) | (go_at_call 57; (with_reducible refine (HW2.out _).mono ?_); rintro e w1 ⟨rfl, rfl⟩) | (go_at_call 57; (with_reducible refine (HW4.out _).mono ?_); rintro e w1 ⟨rfl, rfl⟩))
        go_ret
        exact ⟨ret_int HX.out.symm, hbw⟩
    · rw [decide_eq_false h1] at HW1
      have HX : Hid (spanE L page pages prot = 3) := hid (by rw [hE, if_neg (fun h => by rw [hS] at h; omega)])
      clear h1 hE hS hc
      go_enter Try.func74, Try.ntmps74
      go_wp2_with (first | (go_at_call 36; (with_reducible refine (HC.out).mono ?_); rintro e w1 ⟨rfl, hbw⟩) | (go_at_call 57; (with_reducible refine (HW1.out _).mono ?_); rintro e w1 ⟨rfl, rfl⟩) | (go_at_call 57; (with_reducible refine (HW2.out _).mono ?_); rintro e w1 ⟨rfl, rfl⟩) | (go_at_call 57; (with_reducible refine (HW4.out _).mono ?_); rintro e w1 ⟨rfl, rfl⟩))
      go_ret
      exact ⟨ret_int HX.out.symm, hbw⟩
  · have HX : Hid (spanE L page pages prot = checkI L) := hid (by unfold spanE; rw [if_pos hc])
    have hn : (checkI L != 0) = true := by rw [bne_iff_ne]; exact hc
    clear hc
    generalize checkI L = ck at *
    go_enter Try.func74, Try.ntmps74
    go_wp2_with (first | (go_at_call 36; (with_reducible refine (HC.out).mono ?_); rintro e w1 ⟨rfl, hbw⟩) | (go_at_call 57; (with_reducible refine (HW1.out _).mono ?_); rintro e w1 ⟨rfl, rfl⟩) | (go_at_call 57; (with_reducible refine (HW2.out _).mono ?_); rintro e w1 ⟨rfl, rfl⟩) | (go_at_call 57; (with_reducible refine (HW4.out _).mono ?_); rintro e w1 ⟨rfl, rfl⟩))
    go_ret
    exact ⟨ret_int HX.out.symm, hbw⟩

/-- a board with pages from lo to q marked anew -/
def layW (base : Int → Int) (m lo q : Int) (x : Int) : Int := if lo ≤ x ∧ x < q then m else base x
theorem layW_start (base : Int → Int) (m lo : Int) : bdC (layW base m lo lo) = bdC base := bdC_ext fun p _ _ => by unfold layW; rw [if_neg (by omega)]
theorem layW_step (base : Int → Int) (m lo : Int) (q : Nat) (h : lo ≤ q) : (bdC (layW base m lo q)).set q (.int .i64 m) = bdC (layW base m lo ((q : Int) + 1)) := by
  rw [bdC_set]
  refine bdC_ext fun p _ _ => ?_
  unfold layW
  by_cases e : p = q
  · rw [if_pos e, if_pos (by omega)]
  · rw [if_neg e]
    by_cases c : lo ≤ p ∧ p < q
    · rw [if_pos c, if_pos (by omega)]
    · rw [if_neg c, if_neg (by omega)]
theorem layW_at (base : Int → Int) (m lo : Int) (q : Nat) (h : q < 256) : (bdC (layW base m lo q))[q]? = some (.int .i64 (base q)) := by
  rw [bdC_at _ _ h]; unfold layW; rw [if_neg (by omega)]

/-- what Map, Unmap, Protect answer: areas, and the error -/
def ResPost (R : List Ar × Int) (w : World) (e : Ending) (w' : World) : Prop := ∃ v, e = .returned (.tuple #[v, .int .i64 R.2]) ∧ OwnAr w.heap.size w' v R.1 ∧ Below w.heap.size w w'
def mapR (L : List Ar) (page pages prot : Int) : List Ar × Int :=
  if spanE L page pages prot ≠ 0 then ([], spanE L page pages prot)
  else if midL L page (page + pages) = [] then (turnL L page (page + pages) [⟨page, pages, prot, true⟩], 0) else ([], 5)
theorem spanE_zero {L : List Ar} {page pages prot : Int} : spanE L page pages prot = 0 ↔ checkI L = 0 ∧ spanB page pages prot = true := by
  unfold spanE
  split
  · exact ⟨fun h => absurd h (by assumption), fun h => absurd h.1 (by assumption)⟩
  · rename_i h
    split
    · exact ⟨fun _ => ⟨Decidable.not_not.1 h, by assumption⟩, fun _ => rfl⟩
    · exact ⟨fun h => by omega, fun h => absurd h.2 (by assumption)⟩
theorem map_board {L : List Ar} {page pages prot : Int} (hg : RiseF 1 L) (hs : 1 ≤ page ∧ page ≤ 255 ∧ 1 ≤ pages ∧ pages ≤ 256 - page ∧ 0 ≤ prot ∧ prot ≤ 3) :
    aUpto (layW (paint L) (1 + 2 * prot + 8) page (page + pages)) 255 = turnL L page (page + pages) [⟨page, pages, prot, true⟩] := by
  have hok : (⟨page, pages, prot, true⟩ : Ar).ok := by unfold Ar.ok; simp only; omega
  refine turn_areas (M := [⟨page, pages, prot, true⟩]) hg hs.1 (by omega) ⟨hok, Int.le_refl _, trivial⟩ (by unfold endOf endOf Ar.fin; simp) _ fun p => ?_
  unfold layW
  by_cases c : page ≤ p ∧ p < page + pages
  · rw [if_pos c, if_pos c, paint_cons_in (by unfold Ar.fin; exact c)]
    simp [Ar.mk']
  · rw [if_neg c, if_neg c]
theorem lay_mark {L : List Ar} {prot lo q : Int} (hg : RiseF 1 L) (hp : 0 ≤ prot ∧ prot ≤ 3) (z : Bool) (p : Int) : Mark (layW (paint L) (1 + 2 * prot + (if z then 8 else 0)) lo q p) := by
  unfold layW
  split
  · right; split <;> omega
  · exact mark_paint p hg
end Go.Proofs.Ytejnpppejalhfaa
