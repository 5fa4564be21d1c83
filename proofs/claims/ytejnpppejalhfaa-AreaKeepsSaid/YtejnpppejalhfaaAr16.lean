/- The contract of the reference's ProtectIn. -/
import Derived.Test.YtejnpppejalhfaaAr15
namespace Go.Proofs.Ytejnpppejalhfaa
open Go.RowKit Go.Sort


/-- a board with pages from lo to q turned -/
def layF (base : Int → Int) (f : Int → Int) (lo q : Int) (x : Int) : Int := if lo ≤ x ∧ x < q then f (base x) else base x
theorem layF_start (base f : Int → Int) (lo : Int) : bdC (layF base f lo lo) = bdC base := bdC_ext fun p _ _ => by unfold layF; rw [if_neg (by omega)]
theorem layF_step (base f : Int → Int) (lo : Int) (q : Nat) (h : lo ≤ q) : (bdC (layF base f lo q)).set q (.int .i64 (f (base q))) = bdC (layF base f lo ((q : Int) + 1)) := by
  rw [bdC_set]
  refine bdC_ext fun p _ _ => ?_
  unfold layF
  by_cases e : p = q
  · rw [if_pos e, if_pos (by omega), e]
  · rw [if_neg e]
    by_cases c : lo ≤ p ∧ p < q
    · rw [if_pos c, if_pos (by omega)]
    · rw [if_neg c, if_neg (by omega)]
theorem layF_at (base f : Int → Int) (lo : Int) (q : Nat) (h : q < 256) : (bdC (layF base f lo q))[q]? = some (.int .i64 (base q)) := by
  rw [bdC_at _ _ h]; unfold layF; rw [if_neg (by omega)]

def protR (L : List Ar) (page pages prot : Int) : List Ar × Int :=
  if spanE L page pages prot ≠ 0 then ([], spanE L page pages prot)
  else if sumN (midL L page (page + pages)) < pages then ([], 6) else (turnL L page (page + pages) (setProt prot (midL L page (page + pages))), 0)
theorem prot_full {L : List Ar} {page pages : Int} (hg : RiseF 1 L) (h1 : 1 ≤ page) (h2 : 1 ≤ pages) : sumN (midL L page (page + pages)) ≤ pages ∧ (sumN (midL L page (page + pages)) = pages ↔ ∀ p, page ≤ p → p < page + pages → paint L p ≠ 0) := by
  obtain ⟨m1, m2, m3⟩ := mid_spec hg h1 (show page < page + pages by omega)
  obtain ⟨s1, s2⟩ := sumN_spec m1 m2 (by omega)
  refine ⟨by omega, ?_⟩
  rw [show page + pages - page = pages by omega] at s2
  rw [s2]
  constructor
  · intro h p g1 g2
    have := h p g1 g2
    rwa [m3, if_pos ⟨g1, g2⟩] at this
  · intro h p g1 g2
    rw [m3, if_pos ⟨g1, g2⟩]
    exact h p g1 g2
theorem prot_board {L : List Ar} {page pages prot : Int} (hg : RiseF 1 L) (h1 : 1 ≤ page) (h2 : 1 ≤ pages) (hp : 0 ≤ prot ∧ prot ≤ 3) :
    aUpto (layF (paint L) (reMark prot) page (page + pages)) 255 = turnL L page (page + pages) (setProt prot (midL L page (page + pages))) := by
  obtain ⟨m1, m2, m3⟩ := mid_spec hg h1 (show page < page + pages by omega)
  obtain ⟨s1, s2, s3⟩ := setProt_spec prot hp m1
  refine turn_areas hg h1 (by omega) s1 (by rw [s2]; exact m2) _ fun p => ?_
  unfold layF
  by_cases c : page ≤ p ∧ p < page + pages
  · rw [if_pos c, if_pos c, s3, m3, if_pos c]
  · rw [if_neg c, if_neg c]
theorem layF_mark {L : List Ar} {prot lo q : Int} (hg : RiseF 1 L) (hp : 0 ≤ prot ∧ prot ≤ 3) (p : Int) : Mark (layF (paint L) (reMark prot) lo q p) := by
  unfold layF
  split
  · unfold reMark
    split
    · exact Or.inl rfl
    · right; split <;> omega
  · exact mark_paint p hg
theorem reMark_mark {prot b : Int} (h : b ≠ 0) : reMark prot b = 1 + 2 * prot + (if decide (8 < b) = true then 8 else 0) := by
  unfold reMark
  rw [if_neg h]
  simp

set_option maxRecDepth 100000 in
set_option maxHeartbeats 4000000 in
theorem protectIn_err {v : Value} {L : List Ar} {w : World} (page pages prot : Int) (h : SlAr w v L) (he : spanE L page pages prot ≠ 0) : Calls Try.prog 46 #[v, .int .i64 page, .int .i64 pages, .int .i64 prot] w (ResPost (protR L page pages prot) w) := by
  have HC := hid (spanError_any page pages prot h)
  have HX : Hid (protR L page pages prot = ([], spanE L page pages prot)) := hid (by unfold protR; rw [if_pos he])
  have hn : (spanE L page pages prot != 0) = true := by rw [bne_iff_ne]; exact he
  clear h he
  generalize spanE L page pages prot = ck at *
  go_enter Try.func46, Try.ntmps46
  go_wp2_with (first | (go_at_call 74; (with_reducible refine (HC.out).mono ?_); rintro e w1 ⟨rfl, hbw⟩))
  go_ret2
  exact res_err w HX.out hbw

set_option maxRecDepth 100000 in
set_option maxHeartbeats 8000000 in
theorem protectIn_ok {v : Value} {L : List Ar} {w : World} (page pages prot : Int) (h : SlAr w v L) (he : spanE L page pages prot = 0) : Calls Try.prog 46 #[v, .int .i64 page, .int .i64 pages, .int .i64 prot] w (ResPost (protR L page pages prot) w) := by
  have HC := hid (spanError_any page pages prot h)
  rw [he] at HC
  obtain ⟨hc, hs⟩ := spanE_zero.1 he
  obtain ⟨hlen, hgood⟩ := checkI_zero.1 hc
  have hs := (spanB_iff _ _ _).1 hs
  have hszb : (Try.prog.info? 107).map (·.size) = some 256 := by kernel_rfl
  have Hszb := hid hszb; clear hszb
  have hsz : (Try.prog.info? 3).map (·.size) = some 1 := by kernel_rfl
  have Hsz1 := hid hsz; clear hsz
  have HR := hid hgood.1
  have HBD : Hid (∀ w', Below w.heap.size w w' → Calls Try.prog 66 #[v] w' (BoardPost L w')) := fun w' hb => board_sl (h.grown hb) (good_ok hgood) hlen
  unfold BoardPost at HBD
  rw [decide_eq_true HR.out] at HBD
  have hpr : 0 ≤ prot ∧ prot ≤ 3 := ⟨hs.2.2.2.2.1, hs.2.2.2.2.2⟩
  have HM := hid (fun z w => rb_same (mark_any prot z hpr w))
  have HAO := hid (fun w' => areasOf_any (layF (paint L) (reMark prot) page (page + pages)) (fun p => layF_mark HR.out hpr p) (by unfold layF; rw [if_neg (by omega)]; exact paint_below HR.out (by omega)) w')
  have HMB := hid (prot_board HR.out hs.1 hs.2.2.1 hpr)
  obtain ⟨f1, f2⟩ := prot_full HR.out hs.1 hs.2.2.1
  have HTH : Hid (∀ q : Int, page ≤ q → q < page + pages → paint L q = 0 → protR L page pages prot = ([], 6)) := fun q h2 h3 hz => by
    unfold protR
    rw [if_neg (fun k => k he), if_pos]
    rcases Int.lt_or_eq_of_le f1 with g | g
    · exact g
    · exact absurd hz (f2.1 g q h2 h3)
  have HGD : Hid ((∀ x, page ≤ x → x < page + pages → paint L x ≠ 0) → protR L page pages prot = (turnL L page (page + pages) (setProt prot (midL L page (page + pages))), 0)) := fun hz => by
    unfold protR
    rw [if_neg (fun k => k he), if_neg (by have := f2.2 hz; omega)]
  obtain ⟨q0, hq0⟩ := Int.eq_ofNat_of_zero_le (show 0 ≤ page by omega)
  have hwp : wrap64 (page + pages) = page + pages := wrap64_small _ (by omega) (by omega)
  obtain ⟨hs1, hs2, hs3, hs4, _, _⟩ := hs
  clear h he hc hgood hlen f1 f2 hpr
  have hbw := Below.refl w.heap.size w
  have HQ0 := hid hq0
  have hend : page ≤ page + pages := by omega
  have hend2 : page + pages ≤ 256 := by omega
  clear hq0 hs3 hs4 hs2
  go_enter Try.func46, Try.ntmps46
  go_wp2_with (first | ((go_at_call 74; (with_reducible refine (HC.out).mono ?_); rintro e w1 ⟨rfl, hb1⟩); have hbw := hb1) | (go_at_call 66; (with_reducible refine (HBD.out _ hbw).mono ?_); rintro e wc ⟨bd, rfl, hbc, hbd⟩; rw [hbd HR.out]; clear hbd; have hbn := bt hbw hbc; clear hbw hbc; have hbw := hbn; clear hbn) | ((with_reducible refine at_op 11 ?_); refine wpList_new_row' rfl (some 11) rfl (bdC (fun _ => 0)) 107 (by kernel_rfl) w.heap.size w hbw hbw.size ?_; intro g11 wn11 hL11 hB11 hbn hkn hnn; skip; clear hbw hkn hnn; have hbw := hbn; clear hbn) | ((with_reducible refine at_store 11 ?_); refine wpList_put_row rfl 107 (.tmp 11) (.tmp 25) rfl rfl g11 (bdC (paint L)) (bdC (fun _ => 0)) rfl rfl hL11 (by rw [Hszb.out, bdC_len]) (by simp [bdC_len]) (bdC_one _) w.heap.size w hbw hB11 ?_; intro wp11 hLn hbn hon; clear hL11 hbw hon; have hL11 := hLn; have hbw := hbn; clear hLn hbn))
  go_loopw [13] (fun vp wr => ∃ q : Nat, (page ≤ q ∧ (q : Int) ≤ page + pages) ∧ vp = .int .i64 q ∧ Below w.heap.size w wr ∧ HoldL wr g11 (bdC (layF (paint L) (reMark prot) page q)) ∧ Hid (∀ x, page ≤ x → x < q → paint L x ≠ 0)) (fun vp _ => (page + pages - intOf vp).toNat)
  case atStart =>
    refine ⟨q0, ⟨Int.le_of_eq HQ0.out, by rw [← HQ0.out]; exact hend⟩, by rw [HQ0.out], hbw, ?_, fun x h1 h2 => by rw [← HQ0.out] at h2; omega⟩
    have := layF_start (paint L) (reMark prot) page
    rw [← HQ0.out, this]
    exact hL11
  case round =>
    clear hbw hL11
    obtain ⟨q, ⟨hq1, hq2⟩, rfl, hbw, hL11, HZ⟩ := hrel
    by_cases hq : (q : Int) < page + pages
    · have hq6 : q < 256 := by omega
      have hq7 : (q : Int) < 256 := by omega
      have e0 := (hL11.cell q).trans (layF_at (paint L) (reMark prot) page q hq6)
      have HMONO : Hid (page ≤ ((q + 1 : Nat) : Int) ∧ ((q + 1 : Nat) : Int) ≤ page + pages) := hid (by omega)
      have HMS : Hid ((page + pages - ((q : Int) + 1)).toNat < (page + pages - (q : Int)).toNat) := hid (by omega)
      have HWS : Hid (wrap64 ((q : Int) + 1) = (q : Int) + 1) := hid (wrap64_small _ (by omega) (by omega))
      have HP := hid (layF_step (paint L) (reMark prot) page q hq1)
      by_cases hz : paint L q = 0
      · have hzz : (paint L (q : Int) == 0) = true := by rw [beq_iff_eq]; exact hz
        have HX := hid (HTH.out q hq1 hq hz)
        clear hq1 hq2 hz hend hend2
        go_wp2
        go_ret2
        exact res_err w HX.out hbw
      · have hzz : (paint L (q : Int) == 0) = false := by rw [beq_eq_false_iff_ne]; exact hz
        have HX := hid hz
        have HRM := hid (reMark_mark (prot := prot) hz)
        have HM2 := hid (HM.out (decide (8 < paint L q)))
        rw [← HRM.out] at HM2
        clear hq1 hq2 hz hend hend2
        obtain ⟨m, hm⟩ : ∃ m, m = reMark prot (paint L q) := ⟨_, rfl⟩
        rw [← hm] at HM2 HP
        clear hm HRM
        go_wp2_with (first | ((go_at_call 75; (with_reducible refine (HM2.out _).mono ?_); rintro e wc ⟨rfl, hbc⟩); have hL11 := hL11.grown hbc hL11.lt; have hbn := bt hbw hbc; clear hbw hbc; have hbw := hbn; clear hbn) | ((with_reducible refine at_store 46 ?_); refine wpList_put_cell rfl 3 (.tmp 46) (.tmp 45) rfl rfl Hsz1.out g11 q m rfl rfl (bdC (layF (paint L) (reMark prot) page q)) hL11 (by rw [bdC_len]; exact hq6) w.heap.size w hbw hB11 ?_; intro w6 hL6 hbw6 ho6; rw [HP.out] at hL6))
        go_roundw
        case rel =>
          refine ⟨q + 1, HMONO.out, by first | rfl | (rw [HWS.out]; rfl), hbw6, hL6, fun x h1 h2 => ?_⟩
          rcases Int.lt_or_eq_of_le (show x ≤ q by omega) with h | h
          · exact HZ.out x h1 h
          · subst h; exact HX.out
        case measure => first | exact HMS.out | (rw [HWS.out]; exact HMS.out)
    · have hqe : (q : Int) = page + pages := by omega
      have HX := hid (HGD.out fun x h1 h2 => HZ.out x h1 (by omega))
      have hnl : page + pages ≤ (q : Int) := by omega
      rw [hqe] at hL11
      clear hqe hq hq1 hq2 hend hend2 HZ
      go_wp2_with (first | ((with_reducible refine at_op 47 ?_); refine wpList_get_row rfl 107 (.tmp 11) rfl g11 (bdC (layF (paint L) (reMark prot) page (page + pages))) rfl hL11 _ Try.underlying107 rfl (by rw [Hszb.out, bdC_len]) ?_) | (go_at_call 67; (with_reducible refine (HAO.out _).mono ?_); rintro e wa ⟨va, rfl, hsa, hba⟩))
      go_ret2
      refine ⟨va, ?_, ?_, bt hbw hba⟩
      · show Ending.returned (.tuple #[va, .int .i64 0]) = _
        rw [HX.out]
      · rw [HX.out, ← HMB.out]
        exact own_base hsa hbw.size
theorem protectIn_any {v : Value} {L : List Ar} {w : World} (page pages prot : Int) (h : SlAr w v L) : Calls Try.prog 46 #[v, .int .i64 page, .int .i64 pages, .int .i64 prot] w (ResPost (protR L page pages prot) w) := by
  by_cases he : spanE L page pages prot = 0
  · exact protectIn_ok page pages prot h he
  · exact protectIn_err page pages prot h he
end Go.Proofs.Ytejnpppejalhfaa
