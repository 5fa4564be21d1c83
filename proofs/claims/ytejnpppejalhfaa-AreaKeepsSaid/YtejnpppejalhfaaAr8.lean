/- The contract of the reference's boardOf. -/
import Derived.Test.YtejnpppejalhfaaAr7
namespace Go.Proofs.Ytejnpppejalhfaa
open Go.RowKit Go.Sort

theorem end_nonneg {L : List Ar} (h : RiseF 1 L) : 1 ≤ endOf 1 L := endOf_ge h

set_option maxRecDepth 100000 in
set_option maxHeartbeats 4000000 in
theorem board_nil (p : Option Addr) (c : Nat) (w : World) : Calls Try.prog 66 #[.slice p 0 c] w (BoardPost [] w) := by
  have hszb : (Try.prog.info? 107).map (·.size) = some 256 := by kernel_rfl
  have Hszb := hid hszb; clear hszb
  have hbw := Below.refl w.heap.size w
  go_enter Try.func66, Try.ntmps66
  go_wp2_with (first | ((with_reducible refine at_op 2 ?_); refine wpList_new_row' rfl (some 2) rfl (bdC (fun _ => 0)) 107 (by kernel_rfl) w.heap.size w hbw hbw.size ?_; intro g2 wn2 hL2 hB2 hbn hkn hnn; skip; clear hbw hkn hnn; have hbw := hbn; clear hbn) | ((with_reducible refine at_op 4 ?_); refine wpList_new_row' rfl (some 4) rfl (bdC (fun _ => 0)) 107 (by kernel_rfl) w.heap.size w hbw hbw.size ?_; intro g4 wn4 hL4 hB4 hbn hkn hnn; (try have n2_4 := hnn _ hL2.lt); (try have n4_2 := Ne.symm (hnn _ hL2.lt)); (try have hL2 := hL2.kept hkn); clear hbw hkn hnn; have hbw := hbn; clear hbn))
  go_loopw [5, 6] (fun vl vi wr => vl = .int .i64 0 ∧ vi = .int .i64 0 ∧ wr = wn4) (fun _ _ _ => 0)
  case atStart => exact ⟨rfl, rfl, rfl⟩
  case round =>
    obtain ⟨rfl, rfl, rfl⟩ := hrel
    go_wp2_with (first | ((with_reducible refine at_op 44 ?_); refine wpList_get_row rfl 107 (.tmp 4) rfl g4 (bdC (fun _ => 0)) rfl hL4 _ Try.underlying107 rfl (by rw [Hszb.out, bdC_len]) ?_) | ((with_reducible refine at_store 2 ?_); refine wpList_put_row rfl 107 (.tmp 2) (.tmp 44) rfl rfl g2 (bdC (fun _ => 0)) (bdC (fun _ => 0)) rfl rfl hL2 (by rw [Hszb.out, bdC_len]) (by simp [bdC_len]) (bdC_one _) w.heap.size w hbw hB2 ?_; intro wp2 hLn hbn hon; (try have hL4 := hL4.other hon n4_2); clear hL2 hbw hon; have hL2 := hLn; have hbw := hbn; clear hLn hbn))
    refine bodyPost_ret (v := .tuple #[.agg (bdC (fun _ => 0)).toArray, .bool true]) (results_hold2 rfl _ g2 (bdC (fun _ => 0)) (.bool true) _ rfl rfl hL2 Try.underlying107 rfl (by rw [Hszb.out, bdC_len])) rfl ?_
    exact ⟨fun _ => 0, rfl, hbw, fun _ => rfl⟩

set_option maxRecDepth 100000 in
set_option maxHeartbeats 4000000 in
theorem board_any {L : List Ar} {w : World} (b off cap : Nat) (hbl : b < w.heap.size) (hcells : ∀ i a, L[i]? = some a → CellsAr w b (off + i * 4) a) (hok : ∀ (i : Nat) (a : Ar), L[i]? = some a → a.ok) (hlen : L.length ≤ 255) :
    Calls Try.prog 66 #[.slice (some ⟨b, off, none⟩) L.length cap] w (BoardPost L w) := by
  have hszb : (Try.prog.info? 107).map (·.size) = some 256 := by kernel_rfl
  have Hszb := hid hszb; clear hszb
  have hsz : (Try.prog.info? 63).map (·.size) = some 4 := by kernel_rfl
  have Hsz := hid hsz; clear hsz
  have hsz : (Try.prog.info? 3).map (·.size) = some 1 := by kernel_rfl
  have Hsz1 := hid hsz; clear hsz
  have HL := hid hcells
  have HO := hid hok
  clear hcells hok
  have hbw := Below.refl w.heap.size w
  go_enter Try.func66, Try.ntmps66
  go_wp2_with (first | ((with_reducible refine at_op 2 ?_); refine wpList_new_row' rfl (some 2) rfl (bdC (fun _ => 0)) 107 (by kernel_rfl) w.heap.size w hbw hbw.size ?_; intro g2 wn2 hL2 hB2 hbn hkn hnn; skip; clear hbw hkn hnn; have hbw := hbn; clear hbn) | ((with_reducible refine at_op 4 ?_); refine wpList_new_row' rfl (some 4) rfl (bdC (fun _ => 0)) 107 (by kernel_rfl) w.heap.size w hbw hbw.size ?_; intro g4 wn4 hL4 hB4 hbn hkn hnn; (try have n2_4 := hnn _ hL2.lt); (try have n4_2 := Ne.symm (hnn _ hL2.lt)); (try have hL2 := hL2.kept hkn); clear hbw hkn hnn; have hbw := hbn; clear hbn))
  go_loopw [5, 6] (fun vl vi wr => ∃ i : Nat, i ≤ L.length ∧ vi = .int .i64 i ∧ vl = .int .i64 (endOf 1 (L.take i) - 1) ∧ Below w.heap.size w wr ∧ HoldL wr g4 (bdC (paint (L.take i))) ∧ HoldL wr g2 (bdC (fun _ => 0)) ∧ Hid (RiseF 1 (L.take i))) (fun _ vi _ => L.length - (intOf vi).toNat)
  case atStart => exact ⟨0, by omega, rfl, rfl, hbw, hL4, hL2, trivial⟩
  case round =>
    clear hbw hL4 hL2
    obtain ⟨i, hi, rfl, rfl, hbw, hL4, hL2, HR⟩ := hrel
    by_cases hlt : i < L.length
    · obtain ⟨a, ha⟩ : ∃ a, L[i]? = some a := ⟨L[i], by simp [hlt]⟩
      obtain ⟨c0, c1, c2, c3⟩ := (HL.out i a ha).grown hbw hbl
      have hao := HO.out i a ha
      have hbr := ltAll (Nat.lt_of_lt_of_le hbl hbw.size)
      have HT := hid (take_snoc ha)
      by_cases hr : endOf 1 (L.take i) ≤ a.pg
      · have HX : Hid (RiseF 1 (L.take i ++ [a])) := rise_snoc.2 ⟨HR.out, hao, hr⟩
        have hpos := end_nonneg HR.out
        have hok := hao
        unfold Ar.ok at hok
        have hfin : a.fin = a.pg + a.n := rfl
        have hw1 : wrap64 (a.pg + a.n) = a.fin := by rw [hfin]; exact wrap64_small _ (by omega) (by omega)
        have hw2 : wrap64 (a.fin - 1) = a.fin - 1 := by rw [hfin]; exact wrap64_small _ (by omega) (by omega)
        have hlt2 : endOf 1 (L.take i) - 1 < a.pg := by omega
        obtain ⟨q0, hq0⟩ := Int.eq_ofNat_of_zero_le (show 0 ≤ a.pg by omega)
        have hmk : Hid (a.mk' = 1 + 2 * a.prot + (if a.z then 8 else 0)) := hid rfl
        have HM := hid (fun w => rb_same (mark_any a.prot a.z ⟨by omega, by omega⟩ w))
        rw [← hmk.out] at HM
        have HS := hid (laying_start (L.take i) a)
        have HE := hid (laying_end HX.out)
        have HP := hid (fun q : Nat => laying_step (L.take i) a q)
        have HK := hid (show ∀ q : Nat, (q : Int) < a.fin → q < 256 from fun q h => by omega)
        have hqb : (q0 : Int) ≤ a.fin := by omega
        have HQ := hid hq0
        clear hr hao hok hpos hfin hq0
        have HLT := hid hlt
        generalize hlst : endOf 1 (L.take i) - 1 = lst at *
        clear hlst
        go_wp2_with (first | ((with_reducible refine at_op 7 ?_); refine wpList_new_row' rfl (some 7) rfl (zl4) 63 (by kernel_rfl) w.heap.size w hbw hbw.size ?_; intro g7 wn7 hL7 hB7 hbn hkn hnn; (try have n2_7 := hnn _ hL2.lt); (try have n7_2 := Ne.symm (hnn _ hL2.lt)); (try have hL2 := hL2.kept hkn); (try have n4_7 := hnn _ hL4.lt); (try have n7_4 := Ne.symm (hnn _ hL4.lt)); (try have hL4 := hL4.kept hkn); clear hbw hkn hnn; have hbw := hbn; clear hbn) | (((with_reducible refine at_store 7 ?_); refine wpList_put_row rfl 63 (.tmp 7) (.tmp 18) rfl rfl g7 ([.int .i64 a.pg, .int .i64 a.n, .int .i64 a.prot, .bool a.z]) (zl4) rfl rfl hL7 Hsz.out rfl rfl w.heap.size w hbw hB7 ?_; intro wp7 hLn hbn hon; (try have hL2 := hL2.other hon n2_7); (try have hL4 := hL4.other hon n4_7); clear hL7 hbw hon; have hL7 := hLn; have hbw := hbn; clear hLn hbn); have d0 : wp7.cell? ⟨g7, 0, none⟩ = some (.int .i64 a.pg) := hL7.cell 0; have d1 : wp7.cell? ⟨g7, 1, none⟩ = some (.int .i64 a.n) := hL7.cell 1))
        rw [hw1, hw2]
        clear hw1 hw2
        go_loopw [8] (fun vp wr => ∃ q : Nat, (a.pg ≤ q ∧ (q : Int) ≤ a.fin) ∧ vp = .int .i64 q ∧ Below w.heap.size w wr ∧ HoldL wr g4 (bdC (laying (L.take i) a q)) ∧ HoldL wr g2 (bdC (fun _ => 0)) ∧ HoldL wr g7 [.int .i64 a.pg, .int .i64 a.n, .int .i64 a.prot, .bool a.z]) (fun vp _ => (a.fin - intOf vp).toNat)
        case atStart =>
          refine ⟨q0, ⟨Int.le_of_eq HQ.out, hqb⟩, by rw [HQ.out], hbw, ?_, hL2, hL7⟩
          have := HS.out
          rw [HQ.out] at this
          rw [this]
          exact hL4
        case round =>
          clear hbw hL4 hL2 hL7
          obtain ⟨q, ⟨hq1, hq2⟩, rfl, hbw, hL4, hL2, hL7⟩ := hrel
          have e2 := hL7.cell 2
          have e3 := hL7.cell 3
          by_cases hq : (q : Int) < a.fin
          · have hq256 := HK.out q hq
            have hq6 : (q : Int) < 256 := by omega
            have hle : (q : Int) ≤ a.fin - 1 := by omega
            have HMONO : Hid (a.pg ≤ ((q + 1 : Nat) : Int) ∧ ((q + 1 : Nat) : Int) ≤ a.fin) := hid (by omega)
            have HMS : Hid ((a.fin - ((q : Int) + 1)).toNat < (a.fin - (q : Int)).toNat) := hid (by omega)
            have HWS : Hid (wrap64 ((q : Int) + 1) = (q : Int) + 1) := hid (wrap64_small _ (by omega) (by omega))
            have HQ1 := hid hq1
            clear hq1 hq2 hq hq256
            go_wp2_with (first | ((go_at_call 75; (with_reducible refine (HM.out _).mono ?_); rintro e wc ⟨rfl, hbc⟩); have hL4 := hL4.grown hbc hL4.lt; have hL2 := hL2.grown hbc hL2.lt; have hL7 := hL7.grown hbc hL7.lt; have hbn := bt hbw hbc; clear hbw hbc; have hbw := hbn; clear hbn) | ((with_reducible refine at_store 43 ?_); refine wpList_put_cell rfl 3 (.tmp 43) (.tmp 42) rfl rfl Hsz1.out g4 q a.mk' rfl rfl (bdC (laying (L.take i) a q)) hL4 (by rw [bdC_len]; exact Int.ofNat_lt.1 hq6) w.heap.size w hbw hB4 ?_; intro w6 hL46 hbw6 ho6; rw [HP.out q HQ1.out] at hL46; have hL2 := hL2.other ho6 n2_4; have hL7 := hL7.other ho6 n7_4))
            go_roundw
            case rel => exact ⟨q + 1, HMONO.out, rfl, hbw6, hL46, hL2, hL7⟩
            case measure => exact HMS.out
          · have hqe : (q : Int) = a.fin := by omega
            have hnl : a.fin - 1 < (q : Int) := by omega
            rw [hqe, HE.out] at hL4
            have HQE := hid hqe
            clear hqe
            have HWI : Hid (wrap64 ((i : Int) + 1) = (i : Int) + 1) := hid (wrap64_small _ (by omega) (by omega))
            have HMS : Hid (L.length - ((i : Int) + 1).toNat < L.length - ((i : Int)).toNat) := hid (by omega)
            clear hq1 hq2 hq
            go_wp2
            refine ⟨⟨i + 1, hlt, rfl, ?_, hbw, ?_, hL2, ?_⟩, ?_⟩
            · rw [HT.out, endOf_snoc]
            · rw [HT.out]; exact hL4
            · rw [HT.out]; exact HX.out
            · exact HMS.out
      · have HX : Hid (¬ RiseF 1 L) := fun h => by
          have := rise_take h (i + 1)
          rw [HT.out, rise_snoc] at this
          exact hr this.2.2
        have hle : a.pg ≤ endOf 1 (L.take i) - 1 := by omega
        clear hr HT hao
        generalize endOf 1 (L.take i) - 1 = lst at *
        generalize paint (L.take i) = bb at *
        go_wp2_with (first | ((with_reducible refine at_op 7 ?_); refine wpList_new_row' rfl (some 7) rfl (zl4) 63 (by kernel_rfl) w.heap.size w hbw hbw.size ?_; intro g7 wn7 hL7 hB7 hbn hkn hnn; (try have n2_7 := hnn _ hL2.lt); (try have n7_2 := Ne.symm (hnn _ hL2.lt)); (try have hL2 := hL2.kept hkn); (try have n4_7 := hnn _ hL4.lt); (try have n7_4 := Ne.symm (hnn _ hL4.lt)); (try have hL4 := hL4.kept hkn); clear hbw hkn hnn; have hbw := hbn; clear hbn) | (((with_reducible refine at_store 7 ?_); refine wpList_put_row rfl 63 (.tmp 7) (.tmp 18) rfl rfl g7 ([.int .i64 a.pg, .int .i64 a.n, .int .i64 a.prot, .bool a.z]) (zl4) rfl rfl hL7 Hsz.out rfl rfl w.heap.size w hbw hB7 ?_; intro wp7 hLn hbn hon; (try have hL2 := hL2.other hon n2_7); (try have hL4 := hL4.other hon n4_7); clear hL7 hbw hon; have hL7 := hLn; have hbw := hbn; clear hLn hbn); have d0 : wp7.cell? ⟨g7, 0, none⟩ = some (.int .i64 a.pg) := hL7.cell 0) | ((with_reducible refine at_op 23 ?_); refine wpList_get_row rfl 107 (.tmp 4) rfl g4 (bdC bb) rfl hL4 _ Try.underlying107 rfl (by rw [Hszb.out, bdC_len]) ?_) | ((with_reducible refine at_store 2 ?_); refine wpList_put_row rfl 107 (.tmp 2) (.tmp 23) rfl rfl g2 (bdC bb) (bdC (fun _ => 0)) rfl rfl hL2 (by rw [Hszb.out, bdC_len]) (by simp [bdC_len]) (bdC_one _) w.heap.size w hbw hB2 ?_; intro wp2 hLn hbn hon; (try have hL4 := hL4.other hon n4_2); (try have hL7 := hL7.other hon n7_2); clear hL2 hbw hon; have hL2 := hLn; have hbw := hbn; clear hLn hbn))
        refine bodyPost_ret (v := .tuple #[.agg (bdC bb).toArray, .bool false]) (results_hold2 rfl _ g2 (bdC bb) (.bool false) _ rfl rfl hL2 Try.underlying107 rfl (by rw [Hszb.out, bdC_len])) rfl ?_
        exact ⟨bb, by rw [decide_eq_false HX.out], hbw, fun h => absurd h HX.out⟩
    · have : i = L.length := by omega
      subst this
      rw [List.take_length] at hL4 HR
      go_wp2_with (first | ((with_reducible refine at_op 44 ?_); refine wpList_get_row rfl 107 (.tmp 4) rfl g4 (bdC (paint L)) rfl hL4 _ Try.underlying107 rfl (by rw [Hszb.out, bdC_len]) ?_) | ((with_reducible refine at_store 2 ?_); refine wpList_put_row rfl 107 (.tmp 2) (.tmp 44) rfl rfl g2 (bdC (paint L)) (bdC (fun _ => 0)) rfl rfl hL2 (by rw [Hszb.out, bdC_len]) (by simp [bdC_len]) (bdC_one _) w.heap.size w hbw hB2 ?_; intro wp2 hLn hbn hon; (try have hL4 := hL4.other hon n4_2); clear hL2 hbw hon; have hL2 := hLn; have hbw := hbn; clear hLn hbn))
      refine bodyPost_ret (v := .tuple #[.agg (bdC (paint L)).toArray, .bool true]) (results_hold2 rfl _ g2 (bdC (paint L)) (.bool true) _ rfl rfl hL2 Try.underlying107 rfl (by rw [Hszb.out, bdC_len])) rfl ?_
      exact ⟨paint L, by rw [decide_eq_true HR.out], hbw, fun _ => rfl⟩
end Go.Proofs.Ytejnpppejalhfaa
