/- The contract of the reference's UnmapIn. -/
import Derived.Test.YtejnpppejalhfaaAr14
namespace Go.Proofs.Ytejnpppejalhfaa
open Go.RowKit Go.Sort


def unmapR (L : List Ar) (page pages : Int) : List Ar × Int :=
  if spanE L page pages 0 ≠ 0 then ([], spanE L page pages 0) else (turnL L page (page + pages) [], 0)
theorem unmap_board {L : List Ar} {page pages : Int} (hg : RiseF 1 L) (h1 : 1 ≤ page) (h2 : 1 ≤ pages) : aUpto (layW (paint L) 0 page (page + pages)) 255 = turnL L page (page + pages) [] := by
  refine turn_areas (M := []) hg h1 (by omega) trivial (by unfold endOf; omega) _ fun p => ?_
  unfold layW
  rfl
theorem lay_mark0 {L : List Ar} {lo q : Int} (hg : RiseF 1 L) (p : Int) : Mark (layW (paint L) 0 lo q p) := by
  unfold layW
  split
  · exact Or.inl rfl
  · exact mark_paint p hg

set_option maxRecDepth 100000 in
set_option maxHeartbeats 4000000 in
theorem unmapIn_err {v : Value} {L : List Ar} {w : World} (page pages : Int) (h : SlAr w v L) (he : spanE L page pages 0 ≠ 0) : Calls Try.prog 45 #[v, .int .i64 page, .int .i64 pages] w (ResPost (unmapR L page pages) w) := by
  have HC := hid (spanError_any page pages 0 h)
  have HX : Hid (unmapR L page pages = ([], spanE L page pages 0)) := hid (by unfold unmapR; rw [if_pos he])
  have hn : (spanE L page pages 0 != 0) = true := by rw [bne_iff_ne]; exact he
  clear h he
  generalize spanE L page pages 0 = ck at *
  go_enter Try.func45, Try.ntmps45
  go_wp2_with (first | (go_at_call 74; (with_reducible refine (HC.out).mono ?_); rintro e w1 ⟨rfl, hbw⟩))
  go_ret2
  exact res_err w HX.out hbw

set_option maxRecDepth 100000 in
set_option maxHeartbeats 8000000 in
theorem unmapIn_ok {v : Value} {L : List Ar} {w : World} (page pages : Int) (h : SlAr w v L) (he : spanE L page pages 0 = 0) : Calls Try.prog 45 #[v, .int .i64 page, .int .i64 pages] w (ResPost (unmapR L page pages) w) := by
  have HC := hid (spanError_any page pages 0 h)
  rw [he] at HC
  obtain ⟨hc, hs⟩ := spanE_zero.1 he
  obtain ⟨hlen, hgood⟩ := checkI_zero.1 hc
  have hs := (spanB_iff _ _ _).1 hs
  have hszb : (Try.prog.info? 107).map (·.size) = some 256 := by kernel_rfl
  have Hszb := hid hszb; clear hszb
  have hsz : (Try.prog.info? 3).map (·.size) = some 1 := by kernel_rfl
  have Hsz1 := hid hsz; clear hsz
  have HR := hid hgood.1
  have HBD : Hid (∀ w', Below w.heap.size w w' → Calls Try.prog 66 #[v] w' (BoardPost L w')) := fun w' hb => board_sl (h.grown hb) (good_ok hgood) hlen
  unfold BoardPost at HBD
  rw [decide_eq_true HR.out] at HBD
  have HAO := hid (fun w' => areasOf_any (layW (paint L) 0 page (page + pages)) (fun p => lay_mark0 HR.out p) (by unfold layW; rw [if_neg (by omega)]; exact paint_below HR.out (by omega)) w')
  have HMB := hid (unmap_board HR.out hs.1 hs.2.2.1)
  have HX : Hid (unmapR L page pages = (turnL L page (page + pages) [], 0)) := hid (by unfold unmapR; rw [if_neg (fun k => k he)])
  obtain ⟨q0, hq0⟩ := Int.eq_ofNat_of_zero_le (show 0 ≤ page by omega)
  have hwp : wrap64 (page + pages) = page + pages := wrap64_small _ (by omega) (by omega)
  obtain ⟨hs1, hs2, hs3, hs4, _, _⟩ := hs
  clear h he hc hgood hlen
  have hbw := Below.refl w.heap.size w
  have HQ0 := hid hq0
  have hend : page ≤ page + pages := by omega
  have hend2 : page + pages ≤ 256 := by omega
  clear hq0 hs3 hs4 hs2
  go_enter Try.func45, Try.ntmps45
  go_wp2_with (first | ((go_at_call 74; (with_reducible refine (HC.out).mono ?_); rintro e w1 ⟨rfl, hb1⟩); have hbw := hb1) | (go_at_call 66; (with_reducible refine (HBD.out _ hbw).mono ?_); rintro e wc ⟨bd, rfl, hbc, hbd⟩; rw [hbd HR.out]; clear hbd; have hbn := bt hbw hbc; clear hbw hbc; have hbw := hbn; clear hbn) | ((with_reducible refine at_op 9 ?_); refine wpList_new_row' rfl (some 9) rfl (bdC (fun _ => 0)) 107 (by kernel_rfl) w.heap.size w hbw hbw.size ?_; intro g9 wn9 hL9 hB9 hbn hkn hnn; skip; clear hbw hkn hnn; have hbw := hbn; clear hbn) | ((with_reducible refine at_store 9 ?_); refine wpList_put_row rfl 107 (.tmp 9) (.tmp 22) rfl rfl g9 (bdC (paint L)) (bdC (fun _ => 0)) rfl rfl hL9 (by rw [Hszb.out, bdC_len]) (by simp [bdC_len]) (bdC_one _) w.heap.size w hbw hB9 ?_; intro wp9 hLn hbn hon; clear hL9 hbw hon; have hL9 := hLn; have hbw := hbn; clear hLn hbn))
  go_loopw [11] (fun vp wr => ∃ q : Nat, (page ≤ q ∧ (q : Int) ≤ page + pages) ∧ vp = .int .i64 q ∧ Below w.heap.size w wr ∧ HoldL wr g9 (bdC (layW (paint L) 0 page q))) (fun vp _ => (page + pages - intOf vp).toNat)
  case atStart =>
    refine ⟨q0, ⟨Int.le_of_eq HQ0.out, by rw [← HQ0.out]; exact hend⟩, by rw [HQ0.out], hbw, ?_⟩
    have := layW_start (paint L) 0 page
    rw [← HQ0.out, this]
    exact hL9
  case round =>
    clear hbw hL9
    obtain ⟨q, ⟨hq1, hq2⟩, rfl, hbw, hL9⟩ := hrel
    by_cases hq : (q : Int) < page + pages
    · have hq6 : q < 256 := by omega
      have hq7 : (q : Int) < 256 := by omega
      have HMONO : Hid (page ≤ ((q + 1 : Nat) : Int) ∧ ((q + 1 : Nat) : Int) ≤ page + pages) := hid (by omega)
      have HMS : Hid ((page + pages - ((q : Int) + 1)).toNat < (page + pages - (q : Int)).toNat) := hid (by omega)
      have HWS : Hid (wrap64 ((q : Int) + 1) = (q : Int) + 1) := hid (wrap64_small _ (by omega) (by omega))
      have HP := hid (layW_step (paint L) 0 page q hq1)
      clear hq1 hq2 hend hend2
      go_wp2_with (first | ((with_reducible refine at_store 33 ?_); refine wpList_put_cell rfl 3 (.tmp 33) (.const (.int .i64 0)) rfl rfl Hsz1.out g9 q 0 rfl rfl (bdC (layW (paint L) 0 page q)) hL9 (by rw [bdC_len]; exact hq6) w.heap.size w hbw hB9 ?_; intro w6 hL6 hbw6 ho6; rw [HP.out] at hL6))
      go_roundw
      case rel => exact ⟨q + 1, HMONO.out, by first | rfl | (rw [HWS.out]; rfl), hbw6, hL6⟩
      case measure => first | exact HMS.out | (rw [HWS.out]; exact HMS.out)
    · have hqe : (q : Int) = page + pages := by omega
      have hnl : page + pages ≤ (q : Int) := by omega
      rw [hqe] at hL9
      clear hqe hq hq1 hq2 hend hend2
      go_wp2_with (first | ((with_reducible refine at_op 34 ?_); refine wpList_get_row rfl 107 (.tmp 9) rfl g9 (bdC (layW (paint L) 0 page (page + pages))) rfl hL9 _ Try.underlying107 rfl (by rw [Hszb.out, bdC_len]) ?_) | (go_at_call 67; (with_reducible refine (HAO.out _).mono ?_); rintro e wa ⟨va, rfl, hsa, hba⟩))
      go_ret2
      refine ⟨va, ?_, ?_, bt hbw hba⟩
      · show Ending.returned (.tuple #[va, .int .i64 0]) = _
        rw [HX.out]
      · rw [HX.out, ← HMB.out]
        exact own_base hsa hbw.size
theorem unmapIn_any {v : Value} {L : List Ar} {w : World} (page pages : Int) (h : SlAr w v L) : Calls Try.prog 45 #[v, .int .i64 page, .int .i64 pages] w (ResPost (unmapR L page pages) w) := by
  by_cases he : spanE L page pages 0 = 0
  · exact unmapIn_ok page pages h he
  · exact unmapIn_err page pages h he
end Go.Proofs.Ytejnpppejalhfaa
