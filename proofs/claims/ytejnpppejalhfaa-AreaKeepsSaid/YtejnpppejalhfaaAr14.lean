/- The contract of the reference's MapIn. -/
import Derived.Test.YtejnpppejalhfaaAr13
namespace Go.Proofs.Ytejnpppejalhfaa
open Go.RowKit Go.Sort

theorem mapR_err {L : List Ar} {page pages prot : Int} (h : spanE L page pages prot ≠ 0) : mapR L page pages prot = ([], spanE L page pages prot) := by unfold mapR; rw [if_pos h]
theorem mapR_there {L : List Ar} {page pages prot q : Int} (h : spanE L page pages prot = 0) (hg : RiseF 1 L) (h1 : 1 ≤ page) (h2 : page ≤ q) (h3 : q < page + pages) (hz : paint L q ≠ 0) : mapR L page pages prot = ([], 5) := by
  unfold mapR
  rw [if_neg (fun k => k h), if_neg (fun k => hz ((mid_nil hg h1 (by omega)).1 k q h2 h3))]
theorem mapR_good {L : List Ar} {page pages prot : Int} (h : spanE L page pages prot = 0) (hg : RiseF 1 L) (h1 : 1 ≤ page) (h2 : 1 ≤ pages) (hz : ∀ x, page ≤ x → x < page + pages → paint L x = 0) : mapR L page pages prot = (turnL L page (page + pages) [⟨page, pages, prot, true⟩], 0) := by
  unfold mapR
  rw [if_neg (fun k => k h), if_pos ((mid_nil hg h1 (by omega)).2 hz)]
theorem res_err (w : World) {n : Int} {R : List Ar × Int} (h : R = ([], n)) {w' : World} (hb : Below w.heap.size w w') : ResPost R w (.returned (.tuple #[.slice none 0 0, .int .i64 n])) w' := by
  subst h
  exact ⟨_, rfl, World.ownsRow_nil _ _ _ _, hb⟩

set_option maxRecDepth 100000 in
set_option maxHeartbeats 4000000 in
theorem mapIn_err {v : Value} {L : List Ar} {w : World} (page pages prot : Int) (h : SlAr w v L) (he : spanE L page pages prot ≠ 0) : Calls Try.prog 44 #[v, .int .i64 page, .int .i64 pages, .int .i64 prot] w (ResPost (mapR L page pages prot) w) := by
  have HC := hid (spanError_any page pages prot h)
  have HX := hid (mapR_err he)
  have hn : (spanE L page pages prot != 0) = true := by rw [bne_iff_ne]; exact he
  clear h he
  generalize spanE L page pages prot = ck at *
  go_enter Try.func44, Try.ntmps44
  go_wp2_with (first | (go_at_call 74; (with_reducible refine (HC.out).mono ?_); rintro e w1 ⟨rfl, hbw⟩))
  go_ret2
  exact res_err w HX.out hbw

set_option maxRecDepth 100000 in
set_option maxHeartbeats 8000000 in
theorem mapIn_ok {v : Value} {L : List Ar} {w : World} (page pages prot : Int) (h : SlAr w v L) (he : spanE L page pages prot = 0) : Calls Try.prog 44 #[v, .int .i64 page, .int .i64 pages, .int .i64 prot] w (ResPost (mapR L page pages prot) w) := by
  have HC := hid (spanError_any page pages prot h)
  rw [he] at HC
  obtain ⟨hc, hs⟩ := spanE_zero.1 he
  obtain ⟨hlen, hgood⟩ := checkI_zero.1 hc
  have hs := (spanB_iff _ _ _).1 hs
  have hszb : (Try.prog.info? 107).map (·.size) = some 256 := by kernel_rfl
  have Hszb := hid hszb; clear hszb
  have hsz : (Try.prog.info? 3).map (·.size) = some 1 := by kernel_rfl
  have Hsz1 := hid hsz; clear hsz
  have HR := hid hgood.1
  have HBD : Hid (∀ w', Below w.heap.size w w' → Calls Try.prog 66 #[v] w' (BoardPost L w')) := fun w' hb => board_sl (h.grown hb) (good_ok hgood) hlen
  unfold BoardPost at HBD
  rw [decide_eq_true HR.out] at HBD
  have HM := hid (fun w => rb_same (mark_any prot true ⟨hs.2.2.2.2.1, hs.2.2.2.2.2⟩ w))
  have HAO := hid (fun w' => areasOf_any (layW (paint L) (1 + 2 * prot + (if true then 8 else 0)) page (page + pages)) (fun p => lay_mark HR.out ⟨hs.2.2.2.2.1, hs.2.2.2.2.2⟩ true p) (by unfold layW; rw [if_neg (by omega)]; exact paint_below HR.out (by omega)) w')
  have HMB := hid (map_board (prot := prot) HR.out hs)
  have HTH := hid (fun q h2 h3 hz => mapR_there (q := q) he HR.out hs.1 h2 h3 hz)
  have HGD := hid (fun hz => mapR_good he HR.out hs.1 hs.2.2.1 hz)
  obtain ⟨q0, hq0⟩ := Int.eq_ofNat_of_zero_le (show 0 ≤ page by omega)
  have hwp : wrap64 (page + pages) = page + pages := wrap64_small _ (by omega) (by omega)
  obtain ⟨hs1, hs2, hs3, hs4, _, _⟩ := hs
  simp only [if_true] at HM HAO
  generalize hmm : (1 + 2 * prot + 8 : Int) = m at *
  clear hmm h he hc hgood hlen
  have hbw := Below.refl w.heap.size w
  have HQ0 := hid hq0
  have hend : page ≤ page + pages := by omega
  have hend2 : page + pages ≤ 256 := by omega
  clear hq0 hs3 hs4 hs2
  go_enter Try.func44, Try.ntmps44
  go_wp2_with (first | ((go_at_call 74; (with_reducible refine (HC.out).mono ?_); rintro e w1 ⟨rfl, hb1⟩); have hbw := hb1) | (go_at_call 66; (with_reducible refine (HBD.out _ hbw).mono ?_); rintro e wc ⟨bd, rfl, hbc, hbd⟩; rw [hbd HR.out]; clear hbd; have hbn := bt hbw hbc; clear hbw hbc; have hbw := hbn; clear hbn) | ((with_reducible refine at_op 11 ?_); refine wpList_new_row' rfl (some 11) rfl (bdC (fun _ => 0)) 107 (by kernel_rfl) w.heap.size w hbw hbw.size ?_; intro g11 wn11 hL11 hB11 hbn hkn hnn; skip; clear hbw hkn hnn; have hbw := hbn; clear hbn) | ((with_reducible refine at_store 11 ?_); refine wpList_put_row rfl 107 (.tmp 11) (.tmp 25) rfl rfl g11 (bdC (paint L)) (bdC (fun _ => 0)) rfl rfl hL11 (by rw [Hszb.out, bdC_len]) (by simp [bdC_len]) (bdC_one _) w.heap.size w hbw hB11 ?_; intro wp11 hLn hbn hon; clear hL11 hbw hon; have hL11 := hLn; have hbw := hbn; clear hLn hbn))
  go_loopw [13] (fun vp wr => ∃ q : Nat, (page ≤ q ∧ (q : Int) ≤ page + pages) ∧ vp = .int .i64 q ∧ Below w.heap.size w wr ∧ HoldL wr g11 (bdC (layW (paint L) m page q)) ∧ Hid (∀ x, page ≤ x → x < q → paint L x = 0)) (fun vp _ => (page + pages - intOf vp).toNat)
  case atStart =>
    refine ⟨q0, ⟨Int.le_of_eq HQ0.out, by rw [← HQ0.out]; exact hend⟩, by rw [HQ0.out], hbw, ?_, fun x h1 h2 => by rw [← HQ0.out] at h2; omega⟩
    have := layW_start (paint L) m page
    rw [← HQ0.out, this]
    exact hL11
  case round =>
    clear hbw hL11
    obtain ⟨q, ⟨hq1, hq2⟩, rfl, hbw, hL11, HZ⟩ := hrel
    by_cases hq : (q : Int) < page + pages
    · have hq6 : q < 256 := by omega
      have hq7 : (q : Int) < 256 := by omega
      have e0 := (hL11.cell q).trans (layW_at (paint L) m page q hq6)
      have HQ1 := hid hq1
      have HMONO : Hid (page ≤ ((q + 1 : Nat) : Int) ∧ ((q + 1 : Nat) : Int) ≤ page + pages) := hid (by omega)
      have HMS : Hid ((page + pages - ((q : Int) + 1)).toNat < (page + pages - (q : Int)).toNat) := hid (by omega)
      have HWS : Hid (wrap64 ((q : Int) + 1) = (q : Int) + 1) := hid (wrap64_small _ (by omega) (by omega))
      have HP := hid (layW_step (paint L) m page q hq1)
      by_cases hz : paint L q = 0
      · have hzz : (paint L (q : Int) != 0) = false := by rw [bne_eq_false_iff_eq]; exact hz
        have HX := hid hz
        clear hq1 hq2 hz hend hend2
        go_wp2_with (first | ((go_at_call 75; (with_reducible refine (HM.out _).mono ?_); rintro e wc ⟨rfl, hbc⟩); have hL11 := hL11.grown hbc hL11.lt; have hbn := bt hbw hbc; clear hbw hbc; have hbw := hbn; clear hbn) | ((with_reducible refine at_store 42 ?_); refine wpList_put_cell rfl 3 (.tmp 42) (.tmp 41) rfl rfl Hsz1.out g11 q m rfl rfl (bdC (layW (paint L) m page q)) hL11 (by rw [bdC_len]; exact hq6) w.heap.size w hbw hB11 ?_; intro w6 hL6 hbw6 ho6; rw [HP.out] at hL6))
        go_roundw
        case rel =>
          refine ⟨q + 1, HMONO.out, by first | rfl | (rw [HWS.out]; rfl), hbw6, hL6, fun x h1 h2 => ?_⟩
          rcases Int.lt_or_eq_of_le (show x ≤ q by omega) with h | h
          · exact HZ.out x h1 h
          · subst h; exact HX.out
        case measure => first | exact HMS.out | (rw [HWS.out]; exact HMS.out)
      · have hzz : (paint L (q : Int) != 0) = true := by rw [bne_iff_ne]; exact hz
        have HX := hid (HTH.out q hq1 hq hz)
        clear hq1 hq2 hz hend hend2
        go_wp2
        go_ret2
        exact res_err w HX.out hbw
    · have hqe : (q : Int) = page + pages := by omega
      have HX := hid (HGD.out fun x h1 h2 => HZ.out x h1 (by omega))
      have hnl : page + pages ≤ (q : Int) := by omega
      rw [hqe] at hL11
      clear hqe hq hq1 hq2 hend hend2 HZ
      go_wp2_with (first | ((with_reducible refine at_op 43 ?_); refine wpList_get_row rfl 107 (.tmp 11) rfl g11 (bdC (layW (paint L) m page (page + pages))) rfl hL11 _ Try.underlying107 rfl (by rw [Hszb.out, bdC_len]) ?_) | (go_at_call 67; (with_reducible refine (HAO.out _).mono ?_); rintro e wa ⟨va, rfl, hsa, hba⟩))
      go_ret2
      refine ⟨va, ?_, ?_, bt hbw hba⟩
      · show Ending.returned (.tuple #[va, .int .i64 0]) = _
        rw [HX.out]
      · rw [HX.out, ← HMB.out]
        exact own_base hsa hbw.size
theorem mapIn_any {v : Value} {L : List Ar} {w : World} (page pages prot : Int) (h : SlAr w v L) : Calls Try.prog 44 #[v, .int .i64 page, .int .i64 pages, .int .i64 prot] w (ResPost (mapR L page pages prot) w) := by
  by_cases he : spanE L page pages prot = 0
  · exact mapIn_ok page pages prot h he
  · exact mapIn_err page pages prot h he
end Go.Proofs.Ytejnpppejalhfaa
