/- The contract of the reference's CheckAreas. -/
import Derived.Test.YtejnpppejalhfaaAr11
import Derived.Test.YtejnpppejalhfaaAr8
namespace Go.Proofs.Ytejnpppejalhfaa
open Go.RowKit Go.Sort

theorem wpList_get_row_on {P : Program} {w : World} {ops : Array Oper} {rest : List Oper} {o : Oper} {a : Act} {Q : Exit → Act → World → Prop} (hw : Region.wanted o (yielded ops a.tmps) = true) (ty : TypeId) (x : Operand) (ho : o.op = .load ty x) (g : Nat) (L : List Value) (hx : a.eval x = .pointer (some ⟨g, 0, none⟩)) (h : HoldL w g L) (d : TypeDesc)
    (hu : P.underlying ty = some d) (hd : (match d with | .struct _ | .array _ _ => true | _ => false) = true) (hi : (P.info? ty).map (·.size) = some L.length)
    (next : wpList P ops Q rest (a.put o.dst (.agg L.toArray)) w) : wpList P ops Q (o :: rest) a w := by
  obtain ⟨t, ht⟩ := h
  unfold wpList
  rw [if_pos hw]
  exact Or.inl (wp_load_row ty x ho g hx t _ _ d ht hu hd (by simpa using hi) next)

theorem board_sl {v : Value} {L : List Ar} {w : World} (h : SlAr w v L) (hok : ∀ (i : Nat) (a : Ar), L[i]? = some a → a.ok) (hlen : L.length ≤ 255) : Calls Try.prog 66 #[v] w (BoardPost L w) := by
  rcases h with ⟨p, c, rfl, rfl⟩ | ⟨b, off, cap, rfl, h2, h3, h4, h5⟩
  · exact board_nil p c w
  · exact board_any b off cap h2 h5 hok hlen
theorem checkI_rise {L : List Ar} (hl : ¬ 255 < L.length) (hr : ¬ RiseF 1 L) : checkI L = 1 := by
  unfold checkI; rw [if_neg hl, if_neg (fun g => hr g.1)]
theorem checkI_same {L : List Ar} (hl : ¬ 255 < L.length) (hr : RiseF 1 L) : checkI L = if aUpto (paint L) 255 = L then 0 else 1 := by
  unfold checkI
  rw [if_neg hl]
  by_cases h : Apart L
  · rw [if_pos ⟨hr, h⟩, if_pos ((rebuild_iff hr).2 h)]
  · rw [if_neg (fun g => h g.2), if_neg (fun e => h ((rebuild_iff hr).1 e))]

set_option maxRecDepth 100000 in
set_option maxHeartbeats 4000000 in
theorem checkAreas_nil (p : Option Addr) (c : Nat) (w : World) : Calls Try.prog 36 #[.slice p 0 c] w (RB (.int .i64 0) w) := by
  have hszb : (Try.prog.info? 107).map (·.size) = some 256 := by kernel_rfl
  have Hszb := hid hszb; clear hszb
  have hbw := Below.refl w.heap.size w
  obtain ⟨L, hL⟩ : ∃ L : List Ar, L = [] := ⟨_, rfl⟩
  have HR : Hid (RiseF 1 L) := by rw [hL]; exact trivial
  have HSL : Hid (SlAr w (.slice p 0 c) L) := Or.inl ⟨_, _, rfl, hL⟩
  have HBD : Hid (∀ w', Below w.heap.size w w' → Calls Try.prog 66 #[.slice p 0 c] w' (BoardPost L w')) := fun w' hb => board_sl (HSL.out.grown hb) (by rw [hL]; intro i a h; simp at h) (by rw [hL]; simp)
  unfold BoardPost at HBD
  rw [decide_eq_true HR.out] at HBD
  have HAO := hid (fun w' => areasOf_any (paint L) (fun p => mark_paint p HR.out) (paint_below HR.out (by omega)) w')
  have HEQ : Hid (aUpto (paint L) 255 = L) := hid (by rw [hL]; exact areas_of_paint ⟨trivial, trivial⟩)
  clear hL
  go_enter Try.func36, Try.ntmps36
  go_wp2
  go_loopw [3] (fun vi wr => vi = .int .i64 0 ∧ w = wr) (fun _ _ => 0)
  case atStart => exact ⟨rfl, rfl⟩
  case round =>
    obtain ⟨rfl, rfl⟩ := hrel
    go_wp2_with (first | (go_at_call 66; (with_reducible refine (HBD.out _ hbw).mono ?_); rintro e wc ⟨bd, rfl, hbc, hbd⟩; rw [hbd HR.out]; clear hbd; have hbn := bt hbw hbc; clear hbw hbc; have hbw := hbn; clear hbn) | ((with_reducible refine at_op 5 ?_); refine wpList_new_row' rfl (some 5) rfl (bdC (fun _ => 0)) 107 (by kernel_rfl) w.heap.size w hbw hbw.size ?_; intro g5 wn5 hL5 hB5 hbn hkn hnn; skip; clear hbw hkn hnn; have hbw := hbn; clear hbn) | ((with_reducible refine at_store 5 ?_); refine wpList_put_row rfl 107 (.tmp 5) (.tmp 48) rfl rfl g5 (bdC (paint L)) (bdC (fun _ => 0)) rfl rfl hL5 (by rw [Hszb.out, bdC_len]) (by simp [bdC_len]) (bdC_one _) w.heap.size w hbw hB5 ?_; intro wp5 hLn hbn hon; clear hL5 hbw hon; have hL5 := hLn; have hbw := hbn; clear hLn hbn) | ((with_reducible refine at_op 53 ?_); refine wpList_get_row_on rfl 107 (.tmp 5) rfl g5 (bdC (paint L)) rfl hL5 _ Try.underlying107 rfl (by rw [Hszb.out, bdC_len]) ?_) | (go_at_call 67; (with_reducible refine (HAO.out _).mono ?_); rintro e wa ⟨va, rfl, hsa, hba⟩; have hbn := bt hbw hba; clear hbw hba; have hbw := hbn; clear hbn))
    have HC := same_sl (own_sl hsa) (HSL.out.grown hbw)
    rw [decide_eq_true HEQ.out] at HC
    have HC := hid HC
    go_wp2_with (first | (go_at_call 47; (with_reducible refine (HC.out).mono ?_); rintro e wz ⟨rfl, hbz⟩))
    go_ret
    exact ⟨ret_int rfl, bt hbw hbz⟩

set_option maxRecDepth 100000 in
set_option maxHeartbeats 8000000 in
theorem checkAreas_some {L : List Ar} {w : World} (b off cap : Nat) (hbl : b < w.heap.size) (hcap : L.length ≤ cap) (hmax : cap ≤ maxLen) (hcells : ∀ i a, L[i]? = some a → CellsAr w b (off + i * 4) a) :
    Calls Try.prog 36 #[.slice (some ⟨b, off, none⟩) L.length cap] w (RB (.int .i64 (checkI L)) w) := by
  by_cases hm : 255 < L.length
  · have HC := hid (checkI_many hm)
    clear hmax
    generalize checkI L = r at *
    go_enter Try.func36, Try.ntmps36
    go_wp2
    go_ret
    exact ⟨ret_int HC.out.symm, Below.refl _ _⟩
  have hszb : (Try.prog.info? 107).map (·.size) = some 256 := by kernel_rfl
  have Hszb := hid hszb; clear hszb
  have HSL : Hid (SlAr w (.slice (some ⟨b, off, none⟩) L.length cap) L) := Or.inr ⟨b, off, cap, rfl, hbl, hcap, hmax, hcells⟩
  have HL := hid hcells
  have hlen : L.length ≤ 255 := by omega
  clear hcells hmax hcap
  obtain ⟨r, hr⟩ : ∃ r, r = checkI L := ⟨_, rfl⟩
  rw [← hr]
  have HQ := hid hr; clear hr
  go_enter Try.func36, Try.ntmps36
  go_wp2
  go_loopw [3] (fun vi wr => ∃ i : Nat, i ≤ L.length ∧ vi = .int .i64 i ∧ Below w.heap.size w wr ∧ Hid (∀ (j : Nat) (a : Ar), j < i → L[j]? = some a → a.ok)) (fun vi _ => L.length - (intOf vi).toNat)
  case atStart => exact ⟨0, by omega, rfl, Below.refl _ _, fun j a hj => by omega⟩
  case round =>
    obtain ⟨i, hi, rfl, hbw, HO⟩ := hrel
    by_cases hlt : i < L.length
    · obtain ⟨a, ha⟩ : ∃ a, L[i]? = some a := ⟨L[i], by simp [hlt]⟩
      obtain ⟨c0, c1, c2, c3⟩ := (HL.out i a ha).grown hbw hbl
      have hbr := ltAll (Nat.lt_of_lt_of_le hbl hbw.size)
      have hsz := hbw.size
      have HW1 := hid (fun w => inside_any a.pg 1 255 w)
      have HW2 := hid (fun w => inside_any a.n 1 255 w)
      have HW4 := hid (fun w => inside_any a.prot 0 3 w)
      by_cases h1 : 1 ≤ a.pg ∧ a.pg ≤ 255
      · rw [decide_eq_true h1] at HW1
        by_cases h2 : 1 ≤ a.n ∧ a.n ≤ 255
        · rw [decide_eq_true h2] at HW2
          have hw1 : wrap64 (a.pg + a.n) = a.pg + a.n := wrap64_small _ (by omega) (by omega)
          have hw2 : wrap64 (a.pg + a.n - 1) = a.pg + a.n - 1 := wrap64_small _ (by omega) (by omega)
          by_cases h3 : 255 < a.pg + a.n - 1
          · have HX := hid (okAt_not ha (fun h => by unfold Ar.ok at h; omega))
            clear h1 h2
            go_wp2_with (first | (go_at_call 57; (with_reducible refine (HW1.out _).mono ?_); rintro e w1 ⟨rfl, rfl⟩) | (go_at_call 57; (with_reducible refine (HW2.out _).mono ?_); rintro e w1 ⟨rfl, rfl⟩) | (go_at_call 57; (with_reducible refine (HW4.out _).mono ?_); rintro e w1 ⟨rfl, rfl⟩))
            go_ret
            exact ⟨ret_int (by rw [HQ.out, checkI_bad hm hlt HX.out]), (by repeat (first | (with_reducible exact Below.refl _ _) | (with_reducible assumption) | (with_reducible refine Below.alloc ?_ (by first | omega | (simp; done) | (simp; omega)) _) | (with_reducible refine Below.setCell ?_ (by first | omega | (simp; done) | (simp; omega)) _) | (with_reducible refine Below.drew ?_) | (with_reducible refine bt ?_ (below_regrown _ _ _)) | (refine bt ?_ (by with_reducible assumption))))⟩
          · by_cases h4 : 0 ≤ a.prot ∧ a.prot ≤ 3
            · rw [decide_eq_true h4] at HW4
              have HX : Hid (a.ok) := hid (by unfold Ar.ok; omega)
              have HMS := hid (ms5 hlt)
              have hws : wrap64 ((i : Int) + 1) = (i : Int) + 1 := wrap64_small _ (by omega) (by omega)
              have h3' : a.pg + a.n - 1 ≤ 255 := by omega
              clear h1 h2 h3 h4
              go_wp2_with (first | (go_at_call 57; (with_reducible refine (HW1.out _).mono ?_); rintro e w1 ⟨rfl, rfl⟩) | (go_at_call 57; (with_reducible refine (HW2.out _).mono ?_); rintro e w1 ⟨rfl, rfl⟩) | (go_at_call 57; (with_reducible refine (HW4.out _).mono ?_); rintro e w1 ⟨rfl, rfl⟩))
              go_roundw
              case rel =>
                refine ⟨i + 1, hlt, by first | rfl | (rw [hws]; rfl), (by repeat (first | (with_reducible exact Below.refl _ _) | (with_reducible assumption) | (with_reducible refine Below.alloc ?_ (by first | omega | (simp; done) | (simp; omega)) _) | (with_reducible refine Below.setCell ?_ (by first | omega | (simp; done) | (simp; omega)) _) | (with_reducible refine Below.drew ?_) | (with_reducible refine bt ?_ (below_regrown _ _ _)) | (refine bt ?_ (by with_reducible assumption)))), fun j x hj hx => ?_⟩
                rcases Nat.lt_succ_iff_lt_or_eq.1 hj with h | h
                · exact HO.out j x h hx
                · subst h; rw [ha] at hx; cases hx; exact HX.out
              case measure => first | exact HMS.out | (rw [hws]; exact HMS.out)
            · rw [decide_eq_false h4] at HW4
              have HX := hid (okAt_not ha (fun h => by unfold Ar.ok at h; omega))
              have h3' : a.pg + a.n - 1 ≤ 255 := by omega
              clear h1 h2 h3 h4
              go_wp2_with (first | (go_at_call 57; (with_reducible refine (HW1.out _).mono ?_); rintro e w1 ⟨rfl, rfl⟩) | (go_at_call 57; (with_reducible refine (HW2.out _).mono ?_); rintro e w1 ⟨rfl, rfl⟩) | (go_at_call 57; (with_reducible refine (HW4.out _).mono ?_); rintro e w1 ⟨rfl, rfl⟩))
              go_ret
              exact ⟨ret_int (by rw [HQ.out, checkI_bad hm hlt HX.out]), (by repeat (first | (with_reducible exact Below.refl _ _) | (with_reducible assumption) | (with_reducible refine Below.alloc ?_ (by first | omega | (simp; done) | (simp; omega)) _) | (with_reducible refine Below.setCell ?_ (by first | omega | (simp; done) | (simp; omega)) _) | (with_reducible refine Below.drew ?_) | (with_reducible refine bt ?_ (below_regrown _ _ _)) | (refine bt ?_ (by with_reducible assumption))))⟩
        · rw [decide_eq_false h2] at HW2
          have HX := hid (okAt_not ha (fun h => by unfold Ar.ok at h; omega))
          clear h1 h2
          go_wp2_with (first | (go_at_call 57; (with_reducible refine (HW1.out _).mono ?_); rintro e w1 ⟨rfl, rfl⟩) | (go_at_call 57; (with_reducible refine (HW2.out _).mono ?_); rintro e w1 ⟨rfl, rfl⟩) | (go_at_call 57; (with_reducible refine (HW4.out _).mono ?_); rintro e w1 ⟨rfl, rfl⟩))
          go_ret
          exact ⟨ret_int (by rw [HQ.out, checkI_bad hm hlt HX.out]), (by repeat (first | (with_reducible exact Below.refl _ _) | (with_reducible assumption) | (with_reducible refine Below.alloc ?_ (by first | omega | (simp; done) | (simp; omega)) _) | (with_reducible refine Below.setCell ?_ (by first | omega | (simp; done) | (simp; omega)) _) | (with_reducible refine Below.drew ?_) | (with_reducible refine bt ?_ (below_regrown _ _ _)) | (refine bt ?_ (by with_reducible assumption))))⟩
      · rw [decide_eq_false h1] at HW1
        have HX := hid (okAt_not ha (fun h => by unfold Ar.ok at h; omega))
        clear h1
        go_wp2_with (first | (go_at_call 57; (with_reducible refine (HW1.out _).mono ?_); rintro e w1 ⟨rfl, rfl⟩) | (go_at_call 57; (with_reducible refine (HW2.out _).mono ?_); rintro e w1 ⟨rfl, rfl⟩) | (go_at_call 57; (with_reducible refine (HW4.out _).mono ?_); rintro e w1 ⟨rfl, rfl⟩))
        go_ret
        exact ⟨ret_int (by rw [HQ.out, checkI_bad hm hlt HX.out]), (by repeat (first | (with_reducible exact Below.refl _ _) | (with_reducible assumption) | (with_reducible refine Below.alloc ?_ (by first | omega | (simp; done) | (simp; omega)) _) | (with_reducible refine Below.setCell ?_ (by first | omega | (simp; done) | (simp; omega)) _) | (with_reducible refine Below.drew ?_) | (with_reducible refine bt ?_ (below_regrown _ _ _)) | (refine bt ?_ (by with_reducible assumption))))⟩
    · obtain rfl : i = L.length := by omega
      have hok : ∀ (j : Nat) (a : Ar), L[j]? = some a → a.ok := fun j a hj => HO.out j a (List.getElem?_eq_some_iff.1 hj).1 hj
      have HBD : Hid (∀ w', Below w.heap.size w w' → Calls Try.prog 66 #[.slice (some ⟨b, off, none⟩) L.length cap] w' (BoardPost L w')) := fun w' hb => board_sl (HSL.out.grown hb) hok hlen
      unfold BoardPost at HBD
      clear hok
      by_cases hr : RiseF 1 L
      · rw [decide_eq_true hr] at HBD
        have HR := hid hr
        have HAO := hid (fun w' => areasOf_any (paint L) (fun p => mark_paint p hr) (paint_below hr (by omega)) w')
        have hcs := checkI_same hm hr
        clear hr
        by_cases he : aUpto (paint L) 255 = L
        · rw [if_pos he] at hcs
          have HEQ := hid he
          have HCS := hid hcs
          clear he hcs
          go_wp2_with (first | (go_at_call 66; (with_reducible refine (HBD.out _ hbw).mono ?_); rintro e wc ⟨bd, rfl, hbc, hbd⟩; rw [hbd HR.out]; clear hbd; have hbn := bt hbw hbc; clear hbw hbc; have hbw := hbn; clear hbn) | ((with_reducible refine at_op 5 ?_); refine wpList_new_row' rfl (some 5) rfl (bdC (fun _ => 0)) 107 (by kernel_rfl) w.heap.size w hbw hbw.size ?_; intro g5 wn5 hL5 hB5 hbn hkn hnn; skip; clear hbw hkn hnn; have hbw := hbn; clear hbn) | ((with_reducible refine at_store 5 ?_); refine wpList_put_row rfl 107 (.tmp 5) (.tmp 48) rfl rfl g5 (bdC (paint L)) (bdC (fun _ => 0)) rfl rfl hL5 (by rw [Hszb.out, bdC_len]) (by simp [bdC_len]) (bdC_one _) w.heap.size w hbw hB5 ?_; intro wp5 hLn hbn hon; clear hL5 hbw hon; have hL5 := hLn; have hbw := hbn; clear hLn hbn) | ((with_reducible refine at_op 53 ?_); refine wpList_get_row_on rfl 107 (.tmp 5) rfl g5 (bdC (paint L)) rfl hL5 _ Try.underlying107 rfl (by rw [Hszb.out, bdC_len]) ?_) | (go_at_call 67; (with_reducible refine (HAO.out _).mono ?_); rintro e wa ⟨va, rfl, hsa, hba⟩; have hbn := bt hbw hba; clear hbw hba; have hbw := hbn; clear hbn))
          have HC := same_sl (own_sl hsa) (HSL.out.grown hbw)
          rw [decide_eq_true HEQ.out] at HC
          have HC := hid HC
          go_wp2_with (first | (go_at_call 47; (with_reducible refine (HC.out).mono ?_); rintro e wz ⟨rfl, hbz⟩))
          go_ret
          exact ⟨ret_int (by rw [HQ.out, HCS.out]), bt hbw hbz⟩
        · rw [if_neg he] at hcs
          have HEQ := hid he
          have HCS := hid hcs
          clear he hcs
          go_wp2_with (first | (go_at_call 66; (with_reducible refine (HBD.out _ hbw).mono ?_); rintro e wc ⟨bd, rfl, hbc, hbd⟩; rw [hbd HR.out]; clear hbd; have hbn := bt hbw hbc; clear hbw hbc; have hbw := hbn; clear hbn) | ((with_reducible refine at_op 5 ?_); refine wpList_new_row' rfl (some 5) rfl (bdC (fun _ => 0)) 107 (by kernel_rfl) w.heap.size w hbw hbw.size ?_; intro g5 wn5 hL5 hB5 hbn hkn hnn; skip; clear hbw hkn hnn; have hbw := hbn; clear hbn) | ((with_reducible refine at_store 5 ?_); refine wpList_put_row rfl 107 (.tmp 5) (.tmp 48) rfl rfl g5 (bdC (paint L)) (bdC (fun _ => 0)) rfl rfl hL5 (by rw [Hszb.out, bdC_len]) (by simp [bdC_len]) (bdC_one _) w.heap.size w hbw hB5 ?_; intro wp5 hLn hbn hon; clear hL5 hbw hon; have hL5 := hLn; have hbw := hbn; clear hLn hbn) | ((with_reducible refine at_op 53 ?_); refine wpList_get_row_on rfl 107 (.tmp 5) rfl g5 (bdC (paint L)) rfl hL5 _ Try.underlying107 rfl (by rw [Hszb.out, bdC_len]) ?_) | (go_at_call 67; (with_reducible refine (HAO.out _).mono ?_); rintro e wa ⟨va, rfl, hsa, hba⟩; have hbn := bt hbw hba; clear hbw hba; have hbw := hbn; clear hbn))
          have HC := same_sl (own_sl hsa) (HSL.out.grown hbw)
          rw [decide_eq_false HEQ.out] at HC
          have HC := hid HC
          go_wp2_with (first | (go_at_call 47; (with_reducible refine (HC.out).mono ?_); rintro e wz ⟨rfl, hbz⟩))
          go_ret
          exact ⟨ret_int (by rw [HQ.out, HCS.out]), bt hbw hbz⟩
      · rw [decide_eq_false hr] at HBD
        have HX : Hid (r = 1) := hid (by rw [HQ.out, checkI_rise hm hr])
        clear hr
        go_wp2_with (first | (go_at_call 66; (with_reducible refine (HBD.out _ hbw).mono ?_); rintro e wc ⟨bd, rfl, hbc, hbd⟩; clear hbd; have hbn := bt hbw hbc; clear hbw hbc; have hbw := hbn; clear hbn) | ((with_reducible refine at_op 5 ?_); refine wpList_new_row' rfl (some 5) rfl (bdC (fun _ => 0)) 107 (by kernel_rfl) w.heap.size w hbw hbw.size ?_; intro g5 wn5 hL5 hB5 hbn hkn hnn; skip; clear hbw hkn hnn; have hbw := hbn; clear hbn) | ((with_reducible refine at_store 5 ?_); refine wpList_put_row rfl 107 (.tmp 5) (.tmp 48) rfl rfl g5 (bdC bd) (bdC (fun _ => 0)) rfl rfl hL5 (by rw [Hszb.out, bdC_len]) (by simp [bdC_len]) (bdC_one _) w.heap.size w hbw hB5 ?_; intro wp5 hLn hbn hon; clear hL5 hbw hon; have hL5 := hLn; have hbw := hbn; clear hLn hbn))
        go_ret
        exact ⟨ret_int HX.out.symm, hbw⟩
theorem checkAreas_sl {v : Value} {L : List Ar} {w : World} (h : SlAr w v L) : Calls Try.prog 36 #[v] w (RB (.int .i64 (checkI L)) w) := by
  rcases h with ⟨p, c, rfl, rfl⟩ | ⟨b, off, cap, rfl, h2, h3, h4, h5⟩
  · exact checkAreas_nil p c w
  · exact checkAreas_some b off cap h2 h3 h4 h5
end Go.Proofs.Ytejnpppejalhfaa
