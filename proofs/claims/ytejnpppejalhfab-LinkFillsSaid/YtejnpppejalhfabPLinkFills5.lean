/- Texts that the proof stands on, one behind the other: Ar8, Ar9, Ar10, Ar17, As1, As2, Ar19, Ar20, Ar21, Ar22, Ar23, Ar5, Ar11, Ar12, Ar13, Ar14, Ar15, Ar16, As3, As4, Ar6, As5, PlArea3. -/
import Derived.Deep.DeepAppendWide
import Derived.Laws.OwnMore
import Derived.Laws.Cover2
import Derived.Maps.AppendAt
import Derived.Deep.RegionWith
import Derived.Deep.DeepCutAuto
import Derived.Lib.AppendZerosOnto
import Derived.Lib.Walk
import Derived.Test.YtejnpppejalhfabPLinkFills4
/- The contract of the reference's boardOf. -/
namespace Go.Proofs.Ytejnpppejalhfab
open Go.RowKit Go.Sort

theorem end_nonneg {L : List Ar} (h : RiseF 1 L) : 1 ≤ endOf 1 L := endOf_ge h

set_option maxRecDepth 100000 in
set_option maxHeartbeats 4000000 in
theorem board_nil (p : Option Addr) (c : Nat) (w : World) : Calls Try.prog 111 #[.slice p 0 c] w (BoardPost [] w) := by
  have hszb : (Try.prog.info? 117).map (·.size) = some 256 := by kernel_rfl
  have Hszb := hid hszb; clear hszb
  have hbw := Below.refl w.heap.size w
  go_enter Try.func111, Try.ntmps111
  go_wp2_with (first | ((with_reducible refine at_op 2 ?_); refine wpList_new_row' rfl (some 2) rfl (bdC (fun _ => 0)) 117 (by kernel_rfl) w.heap.size w hbw hbw.size ?_; intro g2 wn2 hL2 hB2 hbn hkn hnn; skip; clear hbw hkn hnn; have hbw := hbn; clear hbn) | ((with_reducible refine at_op 4 ?_); refine wpList_new_row' rfl (some 4) rfl (bdC (fun _ => 0)) 117 (by kernel_rfl) w.heap.size w hbw hbw.size ?_; intro g4 wn4 hL4 hB4 hbn hkn hnn; (try have n2_4 := hnn _ hL2.lt); (try have n4_2 := Ne.symm (hnn _ hL2.lt)); (try have hL2 := hL2.kept hkn); clear hbw hkn hnn; have hbw := hbn; clear hbn))
  go_loopw [5, 6] (fun vl vi wr => vl = .int .i64 0 ∧ vi = .int .i64 0 ∧ wr = wn4) (fun _ _ _ => 0)
  case atStart => exact ⟨rfl, rfl, rfl⟩
  case round =>
    obtain ⟨rfl, rfl, rfl⟩ := hrel
    go_wp2_with (first | ((with_reducible refine at_op 44 ?_); refine wpList_get_row rfl 117 (.tmp 4) rfl g4 (bdC (fun _ => 0)) rfl hL4 _ Try.underlying117 rfl (by rw [Hszb.out, bdC_len]) ?_) | ((with_reducible refine at_store 2 ?_); refine wpList_put_row rfl 117 (.tmp 2) (.tmp 44) rfl rfl g2 (bdC (fun _ => 0)) (bdC (fun _ => 0)) rfl rfl hL2 (by rw [Hszb.out, bdC_len]) (by simp [bdC_len]) (bdC_one _) w.heap.size w hbw hB2 ?_; intro wp2 hLn hbn hon; (try have hL4 := hL4.other hon n4_2); clear hL2 hbw hon; have hL2 := hLn; have hbw := hbn; clear hLn hbn))
    refine bodyPost_ret (v := .tuple #[.agg (bdC (fun _ => 0)).toArray, .bool true]) (results_hold2 rfl _ g2 (bdC (fun _ => 0)) (.bool true) _ rfl rfl hL2 Try.underlying117 rfl (by rw [Hszb.out, bdC_len])) rfl ?_
    exact ⟨fun _ => 0, rfl, hbw, fun _ => rfl⟩

set_option maxRecDepth 100000 in
set_option maxHeartbeats 4000000 in
theorem board_any {L : List Ar} {w : World} (b off cap : Nat) (hbl : b < w.heap.size) (hcells : ∀ i a, L[i]? = some a → CellsAr w b (off + i * 4) a) (hok : ∀ (i : Nat) (a : Ar), L[i]? = some a → a.ok) (hlen : L.length ≤ 255) :
    Calls Try.prog 111 #[.slice (some ⟨b, off, none⟩) L.length cap] w (BoardPost L w) := by
  have hszb : (Try.prog.info? 117).map (·.size) = some 256 := by kernel_rfl
  have Hszb := hid hszb; clear hszb
  have hsz : (Try.prog.info? 131).map (·.size) = some 4 := by kernel_rfl
  have Hsz := hid hsz; clear hsz
  have hsz : (Try.prog.info? 3).map (·.size) = some 1 := by kernel_rfl
  have Hsz1 := hid hsz; clear hsz
  have HL := hid hcells
  have HO := hid hok
  clear hcells hok
  have hbw := Below.refl w.heap.size w
  go_enter Try.func111, Try.ntmps111
  go_wp2_with (first | ((with_reducible refine at_op 2 ?_); refine wpList_new_row' rfl (some 2) rfl (bdC (fun _ => 0)) 117 (by kernel_rfl) w.heap.size w hbw hbw.size ?_; intro g2 wn2 hL2 hB2 hbn hkn hnn; skip; clear hbw hkn hnn; have hbw := hbn; clear hbn) | ((with_reducible refine at_op 4 ?_); refine wpList_new_row' rfl (some 4) rfl (bdC (fun _ => 0)) 117 (by kernel_rfl) w.heap.size w hbw hbw.size ?_; intro g4 wn4 hL4 hB4 hbn hkn hnn; (try have n2_4 := hnn _ hL2.lt); (try have n4_2 := Ne.symm (hnn _ hL2.lt)); (try have hL2 := hL2.kept hkn); clear hbw hkn hnn; have hbw := hbn; clear hbn))
  go_loopw [5, 6] (fun vl vi wr => ∃ i : Nat, i ≤ L.length ∧ vi = .int .i64 i ∧ vl = .int .i64 (endOf 1 (L.take i) - 1) ∧ Below w.heap.size w wr ∧ HoldL wr g4 (bdC (paint (L.take i))) ∧ HoldL wr g2 (bdC (fun _ => 0)) ∧ Hid (RiseF 1 (L.take i))) (fun _ vi _ => L.length - (intOf vi).toNat)
  case atStart => exact ⟨0, by omega, rfl, rfl, hbw, hL4, hL2, trivial⟩
  case round =>
    clear hbw hL4 hL2
    obtain ⟨i, hi, rfl, rfl, hbw, hL4, hL2, HR⟩ := hrel
    by_cases hlt : i < L.length
    · obtain ⟨a, ha⟩ : ∃ a, L[i]? = some a := ⟨L[i], by simp [hlt]⟩
      obtain ⟨c0, c1, c2, c3⟩ := (HL.out i a ha).grown hbw hbl
      have hao := HO.out i a ha
      have hbr := ltAll (Nat.lt_of_lt_of_le hbl hbw.size)
      have HT := hid (take_snocA ha)
      by_cases hr : endOf 1 (L.take i) ≤ a.pg
      · have HX : Hid (RiseF 1 (L.take i ++ [a])) := rise_snoc.2 ⟨HR.out, hao, hr⟩
        have hpos := end_nonneg HR.out
        have hok := hao
        unfold Ar.ok at hok
        have hfin : a.fin = a.pg + a.n := rfl
        have hw1 : wrap64 (a.pg + a.n) = a.fin := by rw [hfin]; exact wrap64_small _ (by omega) (by omega)
        have hw2 : wrap64 (a.fin - 1) = a.fin - 1 := by rw [hfin]; exact wrap64_small _ (by omega) (by omega)
        have hlt2 : endOf 1 (L.take i) - 1 < a.pg := by omega
        obtain ⟨q0, hq0⟩ := Int.eq_ofNat_of_zero_le (show 0 ≤ a.pg by omega)
        have hmk : Hid (a.mk' = 1 + 2 * a.prot + (if a.z then 8 else 0)) := hid rfl
        have HM := hid (fun w => rb_same (mark_any a.prot a.z ⟨by omega, by omega⟩ w))
        rw [← hmk.out] at HM
        have HS := hid (laying_start (L.take i) a)
        have HE := hid (laying_end HX.out)
        have HP := hid (fun q : Nat => laying_step (L.take i) a q)
        have HK := hid (show ∀ q : Nat, (q : Int) < a.fin → q < 256 from fun q h => by omega)
        have hqb : (q0 : Int) ≤ a.fin := by omega
        have HQ := hid hq0
        clear hr hao hok hpos hfin hq0
        have HLT := hid hlt
        generalize hlst : endOf 1 (L.take i) - 1 = lst at *
        clear hlst
        go_wp2_with (first | ((with_reducible refine at_op 7 ?_); refine wpList_new_row' rfl (some 7) rfl (zl4) 131 (by kernel_rfl) w.heap.size w hbw hbw.size ?_; intro g7 wn7 hL7 hB7 hbn hkn hnn; (try have n2_7 := hnn _ hL2.lt); (try have n7_2 := Ne.symm (hnn _ hL2.lt)); (try have hL2 := hL2.kept hkn); (try have n4_7 := hnn _ hL4.lt); (try have n7_4 := Ne.symm (hnn _ hL4.lt)); (try have hL4 := hL4.kept hkn); clear hbw hkn hnn; have hbw := hbn; clear hbn) | (((with_reducible refine at_store 7 ?_); refine wpList_put_row rfl 131 (.tmp 7) (.tmp 18) rfl rfl g7 ([.int .i64 a.pg, .int .i64 a.n, .int .i64 a.prot, .bool a.z]) (zl4) rfl rfl hL7 Hsz.out rfl rfl w.heap.size w hbw hB7 ?_; intro wp7 hLn hbn hon; (try have hL2 := hL2.other hon n2_7); (try have hL4 := hL4.other hon n4_7); clear hL7 hbw hon; have hL7 := hLn; have hbw := hbn; clear hLn hbn); have d0 : wp7.cell? ⟨g7, 0, none⟩ = some (.int .i64 a.pg) := hL7.cell 0; have d1 : wp7.cell? ⟨g7, 1, none⟩ = some (.int .i64 a.n) := hL7.cell 1))
        rw [hw1, hw2]
        clear hw1 hw2
        go_loopw [8] (fun vp wr => ∃ q : Nat, (a.pg ≤ q ∧ (q : Int) ≤ a.fin) ∧ vp = .int .i64 q ∧ Below w.heap.size w wr ∧ HoldL wr g4 (bdC (laying (L.take i) a q)) ∧ HoldL wr g2 (bdC (fun _ => 0)) ∧ HoldL wr g7 [.int .i64 a.pg, .int .i64 a.n, .int .i64 a.prot, .bool a.z]) (fun vp _ => (a.fin - intOf vp).toNat)
        case atStart =>
          refine ⟨q0, ⟨Int.le_of_eq HQ.out, hqb⟩, by rw [HQ.out], hbw, ?_, hL2, hL7⟩
          have := HS.out
          rw [HQ.out] at this
          rw [this]
          exact hL4
        case round =>
          clear hbw hL4 hL2 hL7
          obtain ⟨q, ⟨hq1, hq2⟩, rfl, hbw, hL4, hL2, hL7⟩ := hrel
          have e2 := hL7.cell 2
          have e3 := hL7.cell 3
          by_cases hq : (q : Int) < a.fin
          · have hq256 := HK.out q hq
            have hq6 : (q : Int) < 256 := by omega
            have hle : (q : Int) ≤ a.fin - 1 := by omega
            have HMONO : Hid (a.pg ≤ ((q + 1 : Nat) : Int) ∧ ((q + 1 : Nat) : Int) ≤ a.fin) := hid (by omega)
            have HMS : Hid ((a.fin - ((q : Int) + 1)).toNat < (a.fin - (q : Int)).toNat) := hid (by omega)
            have HWS : Hid (wrap64 ((q : Int) + 1) = (q : Int) + 1) := hid (wrap64_small _ (by omega) (by omega))
            have HQ1 := hid hq1
            clear hq1 hq2 hq hq256
            go_wp2_with (first | ((go_at_call 53; (with_reducible refine (HM.out _).mono ?_); rintro e wc ⟨rfl, hbc⟩); have hL4 := hL4.grown hbc hL4.lt; have hL2 := hL2.grown hbc hL2.lt; have hL7 := hL7.grown hbc hL7.lt; have hbn := bt hbw hbc; clear hbw hbc; have hbw := hbn; clear hbn) | ((with_reducible refine at_store 43 ?_); refine wpList_put_cell rfl 3 (.tmp 43) (.tmp 42) rfl rfl Hsz1.out g4 q a.mk' rfl rfl (bdC (laying (L.take i) a q)) hL4 (by rw [bdC_len]; exact Int.ofNat_lt.1 hq6) w.heap.size w hbw hB4 ?_; intro w6 hL46 hbw6 ho6; rw [HP.out q HQ1.out] at hL46; have hL2 := hL2.other ho6 n2_4; have hL7 := hL7.other ho6 n7_4))
            go_roundw
            case rel => exact ⟨q + 1, HMONO.out, rfl, hbw6, hL46, hL2, hL7⟩
            case measure => exact HMS.out
          · have hqe : (q : Int) = a.fin := by omega
            have hnl : a.fin - 1 < (q : Int) := by omega
            rw [hqe, HE.out] at hL4
            have HQE := hid hqe
            clear hqe
            have HWI : Hid (wrap64 ((i : Int) + 1) = (i : Int) + 1) := hid (wrap64_small _ (by omega) (by omega))
            have HMS : Hid (L.length - ((i : Int) + 1).toNat < L.length - ((i : Int)).toNat) := hid (by omega)
            clear hq1 hq2 hq
            go_wp2
            refine ⟨⟨i + 1, hlt, rfl, ?_, hbw, ?_, hL2, ?_⟩, ?_⟩
            · rw [HT.out, endOf_snoc]
            · rw [HT.out]; exact hL4
            · rw [HT.out]; exact HX.out
            · exact HMS.out
      · have HX : Hid (¬ RiseF 1 L) := fun h => by
          have := rise_take h (i + 1)
          rw [HT.out, rise_snoc] at this
          exact hr this.2.2
        have hle : a.pg ≤ endOf 1 (L.take i) - 1 := by omega
        clear hr HT hao
        generalize endOf 1 (L.take i) - 1 = lst at *
        generalize paint (L.take i) = bb at *
        go_wp2_with (first | ((with_reducible refine at_op 7 ?_); refine wpList_new_row' rfl (some 7) rfl (zl4) 131 (by kernel_rfl) w.heap.size w hbw hbw.size ?_; intro g7 wn7 hL7 hB7 hbn hkn hnn; (try have n2_7 := hnn _ hL2.lt); (try have n7_2 := Ne.symm (hnn _ hL2.lt)); (try have hL2 := hL2.kept hkn); (try have n4_7 := hnn _ hL4.lt); (try have n7_4 := Ne.symm (hnn _ hL4.lt)); (try have hL4 := hL4.kept hkn); clear hbw hkn hnn; have hbw := hbn; clear hbn) | (((with_reducible refine at_store 7 ?_); refine wpList_put_row rfl 131 (.tmp 7) (.tmp 18) rfl rfl g7 ([.int .i64 a.pg, .int .i64 a.n, .int .i64 a.prot, .bool a.z]) (zl4) rfl rfl hL7 Hsz.out rfl rfl w.heap.size w hbw hB7 ?_; intro wp7 hLn hbn hon; (try have hL2 := hL2.other hon n2_7); (try have hL4 := hL4.other hon n4_7); clear hL7 hbw hon; have hL7 := hLn; have hbw := hbn; clear hLn hbn); have d0 : wp7.cell? ⟨g7, 0, none⟩ = some (.int .i64 a.pg) := hL7.cell 0) | ((with_reducible refine at_op 23 ?_); refine wpList_get_row rfl 117 (.tmp 4) rfl g4 (bdC bb) rfl hL4 _ Try.underlying117 rfl (by rw [Hszb.out, bdC_len]) ?_) | ((with_reducible refine at_store 2 ?_); refine wpList_put_row rfl 117 (.tmp 2) (.tmp 23) rfl rfl g2 (bdC bb) (bdC (fun _ => 0)) rfl rfl hL2 (by rw [Hszb.out, bdC_len]) (by simp [bdC_len]) (bdC_one _) w.heap.size w hbw hB2 ?_; intro wp2 hLn hbn hon; (try have hL4 := hL4.other hon n4_2); (try have hL7 := hL7.other hon n7_2); clear hL2 hbw hon; have hL2 := hLn; have hbw := hbn; clear hLn hbn))
        refine bodyPost_ret (v := .tuple #[.agg (bdC bb).toArray, .bool false]) (results_hold2 rfl _ g2 (bdC bb) (.bool false) _ rfl rfl hL2 Try.underlying117 rfl (by rw [Hszb.out, bdC_len])) rfl ?_
        exact ⟨bb, by rw [decide_eq_false HX.out], hbw, fun h => absurd h HX.out⟩
    · have : i = L.length := by omega
      subst this
      rw [List.take_length] at hL4 HR
      go_wp2_with (first | ((with_reducible refine at_op 44 ?_); refine wpList_get_row rfl 117 (.tmp 4) rfl g4 (bdC (paint L)) rfl hL4 _ Try.underlying117 rfl (by rw [Hszb.out, bdC_len]) ?_) | ((with_reducible refine at_store 2 ?_); refine wpList_put_row rfl 117 (.tmp 2) (.tmp 44) rfl rfl g2 (bdC (paint L)) (bdC (fun _ => 0)) rfl rfl hL2 (by rw [Hszb.out, bdC_len]) (by simp [bdC_len]) (bdC_one _) w.heap.size w hbw hB2 ?_; intro wp2 hLn hbn hon; (try have hL4 := hL4.other hon n4_2); clear hL2 hbw hon; have hL2 := hLn; have hbw := hbn; clear hLn hbn))
      refine bodyPost_ret (v := .tuple #[.agg (bdC (paint L)).toArray, .bool true]) (results_hold2 rfl _ g2 (bdC (paint L)) (.bool true) _ rfl rfl hL2 Try.underlying117 rfl (by rw [Hszb.out, bdC_len])) rfl ?_
      exact ⟨paint L, by rw [decide_eq_true HR.out], hbw, fun _ => rfl⟩
end Go.Proofs.Ytejnpppejalhfab
/- Rows of areas that a call owns; the contract of the reference's areasOf. -/
namespace Go.Proofs.Ytejnpppejalhfab
open Go.RowKit Go.Sort

def flat (L : List Ar) : List Value := L.flatMap arC
theorem flat_len (L : List Ar) : (flat L).length = L.length * 4 := by
  induction L with
  | nil => rfl
  | cons a L ih => unfold flat at *; simp [arC, ih]; omega
theorem flat_snoc (L : List Ar) (a : Ar) : flat (L ++ [a]) = flat L ++ arC a := by simp [flat]
theorem flat_grow (L : List Ar) (a : Ar) (n : Int) : flat (L ++ [{ a with n := n }]) = (flat (L ++ [a])).set (L.length * 4 + 1) (.int .i64 n) := by
  rw [flat_snoc, flat_snoc, List.set_append_right _ _ (by rw [flat_len]; omega), flat_len, show L.length * 4 + 1 - L.length * 4 = 1 by omega]
  rfl
theorem flat_at (L : List Ar) (a : Ar) (j : Nat) (h : j < 4) : (flat (L ++ [a]))[L.length * 4 + j]? = (arC a)[j]? := by
  rw [flat_snoc, List.getElem?_append_right (by rw [flat_len]; omega), flat_len, show L.length * 4 + j - L.length * 4 = j by omega]
theorem flat_get {L : List Ar} : ∀ {i : Nat} {a : Ar}, L[i]? = some a → ∀ j : Nat, j < 4 → (flat L)[i * 4 + j]? = (arC a)[j]? := by
  induction L with
  | nil => intro i a h; simp at h
  | cons c L ih =>
    intro i a h j hj
    have e : flat (c :: L) = arC c ++ flat L := rfl
    rw [e]
    cases i with
    | zero =>
      simp at h
      subst h
      rw [List.getElem?_append_left (by simp [arC]; omega)]
      simp
    | succ i =>
      rw [List.getElem?_append_right (by simp [arC]; omega), show (i + 1) * 4 + j - (arC c).length = i * 4 + j by simp [arC]; omega]
      exact ih (by simpa using h) j hj
/-- a row of one's own is a slice of areas -/
theorem own_sl {w : World} {base : Nat} {e : TypeId} {v : Value} {L : List Ar} (h : w.ownsRow base e 4 v L.length (flat L)) : SlAr w v L := by
  rcases h.2 with ⟨rfl, hn⟩ | ⟨g, cap, cur, rfl, hb, hg, hnc, hcm, _⟩
  · exact Or.inl ⟨_, _, rfl, List.eq_nil_of_length_eq_zero hn⟩
  · have hlt := (Array.getElem?_eq_some_iff.1 hg).1
    refine Or.inr ⟨g, 0, cap, rfl, hlt, hnc, hcm, fun i a ha => ?_⟩
    obtain ⟨hi, _⟩ := List.getElem?_eq_some_iff.1 ha
    refine ⟨?_, ?_, ?_, ?_⟩
    · have := h.cellAt (i * 4 + 0) (by omega); rw [flat_get ha 0 (by decide)] at this; simpa [arC] using this
    · have := h.cellAt (i * 4 + 1) (by omega); rw [flat_get ha 1 (by decide)] at this; simpa [arC] using this
    · have := h.cellAt (i * 4 + 2) (by omega); rw [flat_get ha 2 (by decide)] at this; simpa [arC] using this
    · have := h.cellAt (i * 4 + 3) (by omega); rw [flat_get ha 3 (by decide)] at this; simpa [arC] using this
theorem own_below {w w' : World} {base : Nat} {e : TypeId} {size n : Nat} {v : Value} {xs : List Value} (h : w.ownsRow base e size v n xs) (hb : Below w.heap.size w w') : w'.ownsRow base e size v n xs := by
  refine ⟨h.1, ?_⟩
  rcases h.2 with hn | ⟨g, cap, cur, rfl, hbg, hgg, rest⟩
  · exact .inl hn
  · exact .inr ⟨g, cap, cur, rfl, hbg, by rw [hb.block g (Array.getElem?_eq_some_iff.1 hgg).1]; exact hgg, rest⟩

theorem aUpto_pos (b : Int → Int) (k : Nat) : ∀ a ∈ aUpto b k, 1 ≤ a.pg ∧ 1 ≤ a.n := by
  induction k with
  | zero => intro a h; simp [aUpto] at h
  | succ k ih =>
    unfold aUpto aStep
    split
    · exact ih
    split
    · intro a h
      rcases List.eq_nil_or_concat (aUpto b k) with e | ⟨l, c, e⟩
      · rw [e] at h; simp [growLast] at h
      · rw [e] at ih h
        simp only [List.concat_eq_append] at ih h
        rw [growLast_eq] at h
        rcases List.mem_append.1 h with h | h
        · exact ih a (List.mem_append.2 (Or.inl h))
        · have : a = { c with n := c.n + 1 } := by simpa using h
          subst this
          have := ih c (by simp)
          exact ⟨this.1, by simp only; omega⟩
    · intro a h
      rcases List.mem_append.1 h with h | h
      · exact ih a h
      · rw [List.mem_singleton] at h
        rw [h]
        exact ⟨by simp only; omega, by simp only; omega⟩
theorem aUpto_len (b : Int → Int) (k : Nat) : (aUpto b k).length ≤ k := by
  induction k with
  | zero => simp [aUpto]
  | succ k ih =>
    unfold aUpto aStep
    split
    · omega
    split
    · rcases List.eq_nil_or_concat (aUpto b k) with e | ⟨l, c, e⟩
      · rw [e]; simp [growLast]
      · rw [e] at ih ⊢
        simp only [List.concat_eq_append] at ih ⊢
        rw [growLast_eq]
        simp at ih ⊢
        omega
    · simp; omega

/-- a row of one's own, begun behind base -/
def OwnAr (base : Nat) (w : World) (v : Value) (L : List Ar) : Prop := w.ownsRow base 131 4 v L.length (flat L)
theorem own_base {w : World} {base base' : Nat} {v : Value} {L : List Ar} (h : w.ownsRow base 131 4 v L.length (flat L)) (hb : base' ≤ base) : OwnAr base' w v L := by
  refine ⟨h.1, ?_⟩
  rcases h.2 with hn | ⟨g, cap, cur, rfl, hg, rest⟩
  · exact .inl hn
  · exact .inr ⟨g, cap, cur, rfl, Nat.le_trans hb hg, rest⟩
def AreasPost (L : List Ar) (w : World) (e : Ending) (w' : World) : Prop := ∃ v, e = .returned v ∧ OwnAr w.heap.size w' v L ∧ Below w.heap.size w w'
theorem info_area : ∃ i, (Try.prog).info? 131 = some i ∧ i.zero = some (.agg #[.int .i64 0, .int .i64 0, .int .i64 0, .bool false]) ∧ i.size = 4 ∧ i.bytes = 32 := by
  have h : ((Try.prog).info? 131).map (fun i => (i.zero, i.size, i.bytes)) = some (some (.agg #[.int .i64 0, .int .i64 0, .int .i64 0, .bool false]), 4, 32) := by kernel_rfl
  cases hq : (Try.prog).info? 131 with
  | none => simp [hq] at h
  | some i =>
    simp [hq] at h
    exact ⟨i, rfl, h.1, h.2.1, h.2.2⟩
theorem cells_new (W : World) (c0 c1 c2 c3 : Value) (t : TypeId) : ∀ (j : Nat) (u : Value), [c0, c1, c2, c3][j]? = some u → (W.alloc (.cells #[c0, c1, c2, c3] t)).cell? ((⟨W.heap.size, 0, none⟩ : Addr).add j) = some u := by
  intro j u h
  rw [show (⟨W.heap.size, 0, none⟩ : Addr).add j = ⟨W.heap.size, j, none⟩ from by unfold Addr.add; split <;> simp_all]
  rw [World.cell?_alloc_mark, ← h]
  simp

theorem ms4 {k : Nat} (h : k < 255) : (256 - ((k : Int) + 1 + 1)).toNat < (256 - ((k : Int) + 1)).toNat := by omega
set_option maxRecDepth 100000 in
set_option maxHeartbeats 4000000 in
theorem areasOf_any (b : Int → Int) (hm : ∀ p, Mark (b p)) (h0 : b 0 = 0) (w : World) : Calls Try.prog 55 #[.agg (bdC b).toArray] w (AreasPost (aUpto b 255) w) := by
  obtain ⟨i0, hi0, hz0, hs0, hy0⟩ := info_area
  have HI := hid hi0
  have HZ := hid hz0
  have HSZ := hid hs0
  have HY := hid hy0
  have HA := hid (aUpto_apart b hm h0)
  have HP := hid (aUpto_pos b)
  have HN := hid (aUpto_len b)
  have HM := hid hm
  have HB := hid (bdC_at b)
  clear hi0 hz0 hs0 hy0 hm h0
  have hbw := Below.refl w.heap.size w
  obtain ⟨B, hB⟩ : ∃ B, B = bdC b := ⟨_, rfl⟩
  rw [← hB] at HB ⊢
  clear hB
  go_enter Try.func55, Try.ntmps55
  go_wp2_with (first | ((with_reducible refine at_op 1 ?_); refine wpList_box_row' rfl 117 (.tmp 0) rfl (some 1) rfl (B) rfl w.heap.size w hbw hbw.size ?_; intro g1 wn1 hL1 hB1 hbn hkn hnn; skip; clear hbw hkn hnn; have hbw := hbn; clear hbn))
  go_loopw [3, 4] (fun vo vp wr => ∃ k : Nat, k ≤ 255 ∧ vp = .int .i64 ((k : Int) + 1) ∧ Below wn1.heap.size wn1 wr ∧ wr.ownsRow wn1.heap.size 131 4 vo (aUpto b k).length (flat (aUpto b k))) (fun _ vp _ => (256 - intOf vp).toNat)
  case atStart => exact ⟨0, by omega, rfl, Below.refl _ _, World.ownsRow_nil _ _ _ _⟩
  case round =>
    obtain ⟨k, hk, rfl, hb2, hown⟩ := hrel
    by_cases hlt : k < 255
    · have h1b := hL1.grown hb2 hL1.lt
      have e0 := (h1b.cell k).trans (HB.out k (by omega))
      have e1 := (h1b.cell (k + 1)).trans (HB.out (k + 1) (by omega))
      rw [show ((k + 1 : Nat) : Int) = (k : Int) + 1 by omega] at e1
      have z1 := ltAll h1b.lt
      have HS : Hid (aUpto b (k + 1) = aStep b (aUpto b k) ((k : Int) + 1)) := hid rfl
      by_cases c1 : b ((k : Int) + 1) = 0
      · have c1' : (b ((k : Int) + 1) == 0) = true := by simpa using c1
        have HX : Hid (aUpto b (k + 1) = aUpto b k) := by refine hid ?_; rw [HS.out]; unfold aStep; rw [if_pos c1]
        clear c1
        generalize b ((k : Int) + 1) = bp at *
        have HMS := hid (ms4 hlt)
        go_wp2
        exact ⟨⟨k + 1, hlt, rfl, hb2, by rw [HX.out]; exact hown⟩, HMS.out⟩
      have c1' : (b ((k : Int) + 1) == 0) = false := by simpa using c1
      have hmk := HM.out ((k : Int) + 1)
      by_cases c2 : b k = b ((k : Int) + 1)
      · have c2' : (b k == b ((k : Int) + 1)) = true := by simpa using c2
        obtain ⟨l, a, hla, hfin⟩ := (HA.out k).2.2 (by rw [c2]; exact c1)
        have HX : Hid (aUpto b (k + 1) = l ++ [{ a with n := a.n + 1 }]) := by
          refine hid ?_
          rw [HS.out]; unfold aStep
          rw [if_neg c1, if_pos (by rw [show (k : Int) + 1 - 1 = k by omega]; exact c2), hla, growLast_eq]
        have hpg := HP.out k a (by rw [hla]; simp)
        have hfn : a.fin = a.pg + a.n := rfl
        have hw : wrap64 (a.n + 1) = a.n + 1 := by
          exact wrap64_small _ (by omega) (by omega)
        have HF := hid (flat_grow l a (a.n + 1))
        have HAT := hid (flat_at l a 1 (by decide))
        rw [hla, show (l ++ [a]).length = l.length + 1 by simp] at hown
        have hlen : l.length ≤ 255 := by have := HN.out k; rw [hla] at this; simp at this; omega
        rcases hown.2 with ⟨_, h⟩ | ⟨g, cap, cur, rfl, hbg, hgg, hnc, hcm, hrest⟩
        · omega
        have hglt := (Array.getElem?_eq_some_iff.1 hgg).1
        clear hgg hcm hrest cur
        have HMS := hid (ms4 hlt)
        clear c1 c2 hla hfin hpg hfn hmk
        generalize b ((k : Int) + 1) = bp at *
        generalize b k = bk at *
        have t0 : wr.cell? ⟨g, l.length * 4 + 1, none⟩ = some (.int .i64 a.n) := (hown.cellAt (l.length * 4 + 1) (by omega)).trans HAT.out
        have t1 := hown.frozenAt (l.length * 4 + 1)
        have zg := ltAll hglt
        go_wp2
        refine wp_region_quiet_below (by kernel_rfl) (by kernel_rfl) ?_
        repeat ((go_big_quiet_step ((fail))))
        refine wpQuiet_nil ?_
        intro wq hw'
        obtain ⟨⟨dq, osq⟩, hw''⟩ := hw'
        have hbr := of_regrown hw''
        clear hw''
        first
          | (have hbn := bt hbq hbr; clear hcq hfq hzq hbq hbr; have hbq := hbn; clear hbn)
          | (have hbq := hbr; clear hbr)
        obtain ⟨hcq, hfq, hzq⟩ := bcell3 hbq
        have hown := own_below hown hbq
        have hb2 := bt hb2 hbq
        have HS2 := hid (hown.stored (l.length * 4 + 1) (.int .i64 (a.n + 1)))
        go_wp2
        refine ⟨⟨k + 1, hlt, rfl, hb2.setCell hbg _, ?_⟩, HMS.out⟩
        rw [HX.out, HF.out]
        simpa using HS2.out.1
      · have c2' : (b k == b ((k : Int) + 1)) = false := by simpa using c2
        have HX : Hid (aUpto b (k + 1) = aUpto b k ++ [⟨(k : Int) + 1, 1, (b ((k : Int) + 1) - 1) % 8 / 2, decide (8 ≤ b ((k : Int) + 1) - 1)⟩]) := by
          refine hid ?_
          rw [HS.out]; unfold aStep
          rw [if_neg c1, if_neg (by rw [show (k : Int) + 1 - 1 = k by omega]; exact c2)]
        have HMS := hid (ms4 hlt)
        have hlen := HN.out k
        have hmk2 : 1 ≤ b ((k : Int) + 1) ∧ b ((k : Int) + 1) ≤ 16 := by unfold Mark at hmk; omega
        obtain ⟨m1, m2⟩ := hmk2
        have hr1 : (b ((k : Int) + 1) - 1).tmod 8 = (b ((k : Int) + 1) - 1) % 8 := Int.tmod_eq_emod_of_nonneg (by omega)
        have hr2 : ((b ((k : Int) + 1) - 1) % 8).tdiv 2 = (b ((k : Int) + 1) - 1) % 8 / 2 := Int.tdiv_eq_ediv_of_nonneg (by omega)
        clear c1 c2 hmk
        generalize aUpto b k = U at *
        generalize b ((k : Int) + 1) = bp at *
        generalize b k = bk at *
        go_wp2
        refine wp_region_quiet_below (by kernel_rfl) (by kernel_rfl) ?_
        repeat ((go_big_quiet_step ((fail))))
        refine wpQuiet_nil ?_
        intro wq hw'
        obtain ⟨⟨dq, osq⟩, hw''⟩ := hw'
        have hbr := of_regrown hw''
        clear hw''
        first
          | (have hbn := bt hbq hbr; clear hcq hfq hzq hbq hbr; have hbq := hbn; clear hbn)
          | (have hbq := hbr; clear hbr)
        obtain ⟨hcq, hfq, hzq⟩ := bcell3 hbq
        have hown := own_below hown hbq
        have hb2 := bt hb2 hbq
        go_wp2_with (first | ((with_reducible refine at_op 45 ?_); go_must (refine wpList_append_own_wide _ rfl (.tmp 36) (.tmp 44) 37 rfl wn1.heap.size 131 i0 (.agg #[.int .i64 0, .int .i64 0, .int .i64 0, .bool false]) 4 32 Try.underlying37 HI.out HZ.out HSZ.out HY.out rfl (by decide) u3 U.length (flat U) rfl (hown.alloc _) ⟨wq.heap.size, 0, none⟩ 1 1 [.int .i64 ((k : Int) + 1), .int .i64 1, .int .i64 ((bp - 1) % 8 / 2), .bool (decide (8 ≤ bp - 1))] rfl rfl (cells_new wq _ _ _ _ _) (by intro u hu; simp at hu; rcases hu with rfl | rfl | rfl | rfl <;> rfl) (by unfold maxLen; omega) (by omega) (by have := hb2.size; simp; omega) ?_); intro v3 w3 hown3 hg3 hn3))
        have hb3 := (hb2.alloc hb2.size _).grown hg3 (by have := hb2.size; simp; omega) (fun j hj => (hown.lt j hj).1)
        refine ⟨⟨k + 1, hlt, rfl, hb3, ?_⟩, HMS.out⟩
        rw [HX.out, flat_snoc, List.length_append]
        exact hown3
    · go_wp2
      go_ret
      obtain rfl : k = 255 := by omega
      exact ⟨_, rfl, own_base hown hbw.size, bt hbw hb2⟩
end Go.Proofs.Ytejnpppejalhfab
/- The contract of the reference's SameAreas. -/
namespace Go.Proofs.Ytejnpppejalhfab
open Go.RowKit Go.Sort

theorem same_index {A B : List Ar} (hl : A.length = B.length) (h : ∀ (i : Nat) (a b : Ar), A[i]? = some a → B[i]? = some b → a = b) : A = B := by
  apply List.ext_getElem hl
  intro i h1 h2
  exact h i _ _ (by simp [h1]) (by simp [h2])
theorem same_not {A B : List Ar} {i : Nat} {a b : Ar} (ha : A[i]? = some a) (hb : B[i]? = some b) (h : a ≠ b) : A ≠ B := fun e => by
  subst e; rw [ha] at hb; cases hb; exact h rfl
theorem len_not {A B : List Ar} (h : A.length ≠ B.length) : A ≠ B := fun e => h (by rw [e])

theorem ms5 {i n : Nat} (h : i < n) : n - ((i : Int) + 1).toNat < n - ((i : Int)).toNat := by omega
theorem wrap_succ' (h n : Nat) (h1 : h < n) (h2 : n ≤ 9223372036854775807) : wrap64 ((h : Int) + 1) = (h : Int) + 1 := by unfold wrap64; omega
set_option maxRecDepth 100000 in
set_option maxHeartbeats 4000000 in
theorem same_some {A B : List Ar} {w : World} (b1 off1 cap1 b2 off2 cap2 : Nat) (hb1 : b1 < w.heap.size) (hb2 : b2 < w.heap.size) (hc1 : ∀ i a, A[i]? = some a → CellsAr w b1 (off1 + i * 4) a) (hc2 : ∀ i a, B[i]? = some a → CellsAr w b2 (off2 + i * 4) a) (hl : A.length = B.length) (hmax : A.length ≤ 9223372036854775807) :
    Calls Try.prog 56 #[.slice (some ⟨b1, off1, none⟩) A.length cap1, .slice (some ⟨b2, off2, none⟩) B.length cap2] w (RB (.bool (decide (A = B))) w) := by
  have HA := hid hc1
  have HB := hid hc2
  have HL := hid hl
  have HM := hid hmax
  rw [← hl]
  clear hc1 hc2 hl hmax
  go_enter Try.func56, Try.ntmps56
  go_wp2
  go_loopw [5] (fun vi wr => ∃ i : Nat, i ≤ A.length ∧ vi = .int .i64 i ∧ Below w.heap.size w wr ∧ Hid (∀ (j : Nat) (a b : Ar), j < i → A[j]? = some a → B[j]? = some b → a = b)) (fun vi _ => A.length - (intOf vi).toNat)
  case atStart => exact ⟨0, by omega, rfl, Below.refl _ _, fun j a b hj => by omega⟩
  case round =>
    obtain ⟨i, hi, rfl, hb, HO⟩ := hrel
    by_cases hlt : i < A.length
    · obtain ⟨a, ha⟩ : ∃ a, A[i]? = some a := ⟨A[i], by simp [hlt]⟩
      obtain ⟨b, hbb⟩ : ∃ b, B[i]? = some b := ⟨B[i]'(by have := HL.out; omega), by simp⟩
      obtain ⟨c0, c1, c2, c3⟩ := (HA.out i a ha).grown hb hb1
      obtain ⟨d0, d1, d2, d3⟩ := (HB.out i b hbb).grown hb hb2
      have z1 := ltAll (Nat.lt_of_lt_of_le hb1 hb.size)
      have z2 := ltAll (Nat.lt_of_lt_of_le hb2 hb.size)
      by_cases e : a = b
      · have HX := hid e
        subst e
        have hli : (i : Int) < A.length := Int.ofNat_lt.2 hlt
        have hws := wrap_succ' i A.length hlt HM.out
        have HMS := hid (ms5 hlt)
        go_wp2
        refine wp_region_quiet_below (by kernel_rfl) (by kernel_rfl) ?_
        repeat (first | go_big_quiet_step ((fail)) | quiet_step ((fail)))
        refine wpQuiet_nil ?_
        intro wq hw'
        obtain ⟨⟨dq, osq⟩, hw''⟩ := hw'
        have hbr := of_regrown hw''
        clear hw''
        first
          | (have hbn := bt hbq hbr; clear hcq hfq hzq hbq hbr; have hbq := hbn; clear hbn)
          | (have hbq := hbr; clear hbr)
        obtain ⟨hcq, hfq, hzq⟩ := bcell3 hbq
        go_wp2
        go_roundw
        case rel =>
          refine ⟨i + 1, hlt, by first | rfl | (rw [hws]; rfl), bt hb hbq, fun j x y hj hx hy => ?_⟩
          rcases Nat.lt_succ_iff_lt_or_eq.1 hj with h | h
          · exact HO.out j x y h hx hy
          · subst h; rw [ha] at hx; rw [hbb] at hy; cases hx; cases hy; rfl
        case measure => first | exact HMS.out | (rw [hws]; exact HMS.out)
      · have HX := hid (same_not ha hbb e)
        by_cases e1 : a.pg = b.pg
        · by_cases e2 : a.n = b.n
          · by_cases e3 : a.prot = b.prot
            · have e4 : ¬ a.z = b.z := fun h => e (by cases a; cases b; simp_all)
              have f1 : (a.pg == b.pg) = true := by simpa using e1
              have f2 : (a.n == b.n) = true := by simpa using e2
              have f3 : (a.prot == b.prot) = true := by simpa using e3
              have f4 : (a.z == b.z) = false := by simpa using e4
              clear e e1 e2 e3 e4
              go_wp2
              refine wp_region_quiet_below (by kernel_rfl) (by kernel_rfl) ?_
              repeat (first | go_big_quiet_step ((fail)) | quiet_step ((fail)))
              refine wpQuiet_nil ?_
              intro wq hw'
              obtain ⟨⟨dq, osq⟩, hw''⟩ := hw'
              have hbr := of_regrown hw''
              clear hw''
              first
                | (have hbn := bt hbq hbr; clear hcq hfq hzq hbq hbr; have hbq := hbn; clear hbn)
                | (have hbq := hbr; clear hbr)
              obtain ⟨hcq, hfq, hzq⟩ := bcell3 hbq
              go_wp2
              go_ret
              exact ⟨ret_bool (decide_eq_false HX.out).symm, bt hb hbq⟩
            · have f1 : (a.pg == b.pg) = true := by simpa using e1
              have f2 : (a.n == b.n) = true := by simpa using e2
              have f3 : (a.prot == b.prot) = false := by simpa using e3
              clear e e1 e2 e3
              go_wp2
              refine wp_region_quiet_below (by kernel_rfl) (by kernel_rfl) ?_
              repeat (first | go_big_quiet_step ((fail)) | quiet_step ((fail)))
              refine wpQuiet_nil ?_
              intro wq hw'
              obtain ⟨⟨dq, osq⟩, hw''⟩ := hw'
              have hbr := of_regrown hw''
              clear hw''
              first
                | (have hbn := bt hbq hbr; clear hcq hfq hzq hbq hbr; have hbq := hbn; clear hbn)
                | (have hbq := hbr; clear hbr)
              obtain ⟨hcq, hfq, hzq⟩ := bcell3 hbq
              go_wp2
              go_ret
              exact ⟨ret_bool (decide_eq_false HX.out).symm, bt hb hbq⟩
          · have f1 : (a.pg == b.pg) = true := by simpa using e1
            have f2 : (a.n == b.n) = false := by simpa using e2
            clear e e1 e2
            go_wp2
            refine wp_region_quiet_below (by kernel_rfl) (by kernel_rfl) ?_
            repeat (first | go_big_quiet_step ((fail)) | quiet_step ((fail)))
            refine wpQuiet_nil ?_
            intro wq hw'
            obtain ⟨⟨dq, osq⟩, hw''⟩ := hw'
            have hbr := of_regrown hw''
            clear hw''
            first
              | (have hbn := bt hbq hbr; clear hcq hfq hzq hbq hbr; have hbq := hbn; clear hbn)
              | (have hbq := hbr; clear hbr)
            obtain ⟨hcq, hfq, hzq⟩ := bcell3 hbq
            go_wp2
            go_ret
            exact ⟨ret_bool (decide_eq_false HX.out).symm, bt hb hbq⟩
        · have f1 : (a.pg == b.pg) = false := by simpa using e1
          clear e e1
          go_wp2
          refine wp_region_quiet_below (by kernel_rfl) (by kernel_rfl) ?_
          repeat (first | go_big_quiet_step ((fail)) | quiet_step ((fail)))
          refine wpQuiet_nil ?_
          intro wq hw'
          obtain ⟨⟨dq, osq⟩, hw''⟩ := hw'
          have hbr := of_regrown hw''
          clear hw''
          first
            | (have hbn := bt hbq hbr; clear hcq hfq hzq hbq hbr; have hbq := hbn; clear hbn)
            | (have hbq := hbr; clear hbr)
          obtain ⟨hcq, hfq, hzq⟩ := bcell3 hbq
          go_wp2
          go_ret
          exact ⟨ret_bool (decide_eq_false HX.out).symm, bt hb hbq⟩
    · go_wp2
      go_ret
      obtain rfl : i = A.length := by omega
      exact ⟨ret_bool (decide_eq_true (same_index HL.out fun j x y hx hy => HO.out j x y (List.getElem?_eq_some_iff.1 hx).1 hx hy)).symm, hb⟩
end Go.Proofs.Ytejnpppejalhfab
/- joined: the plain side. -/
namespace Go.Proofs.Ytejnpppejalhfab
open Go.RowKit Go.Sort

def jn (L : List Ar) (i : Nat) : List Ar := (L.take i).foldl joinStep []
theorem jn_succ {L : List Ar} {i : Nat} {a : Ar} (ha : L[i]? = some a) : jn L (i + 1) = joinStep (jn L i) a := by
  unfold jn; rw [take_snocA ha, List.foldl_append]; rfl
theorem jn_all (L : List Ar) : jn L L.length = joined L := by unfold jn joined; rw [List.take_length]
theorem jn_good {L : List Ar} (h : RiseF 1 L) (i : Nat) : Good (jn L i) := (joined_spec (rise_take h i)).1
theorem joinStep_len (J : List Ar) (a : Ar) : (joinStep J a).length ≤ J.length + 1 := by
  unfold joinStep
  split
  · split <;> simp
  · simp
theorem jn_len (L : List Ar) (i : Nat) (hi : i ≤ L.length) : (jn L i).length ≤ i := by
  induction i with
  | zero => simp [jn]
  | succ i ih =>
    have ha : L[i]? = some (L[i]'(by omega)) := by simp
    rw [jn_succ ha]
    have := joinStep_len (jn L i) (L[i]'(by omega))
    have := ih (by omega)
    omega
theorem join_no {J : List Ar} {a : Ar} (h : ∀ b, J.getLast? = some b → ¬ b.alike a) : joinStep J a = J ++ [a] := by
  unfold joinStep
  cases hg : J.getLast? with
  | none => rfl
  | some b => simp only; rw [if_neg (h b hg)]
theorem join_yes {o : List Ar} {a b : Ar} (h : b.alike a) : joinStep (o ++ [b]) a = o ++ [{ b with n := b.n + a.n }] := by
  unfold joinStep
  rw [List.getLast?_append]
  simp [h]

end Go.Proofs.Ytejnpppejalhfab
/- area.end, area.one, by the step calculus. -/
namespace Go.Proofs.Ytejnpppejalhfab
open Go.RowKit Go.Sort
set_option maxRecDepth 100000 in
set_option maxHeartbeats 1000000 in
theorem end_fn (a : Ar) (w : World) (h : a.ok) : Fn Try.prog 107 [.agg (arC a).toArray] w (RBf (.int .i64 a.fin) w) := by
  refine fn_enter (fn := Try.f107) ⟨Try.func107, by kernel_rfl, by kernel_rfl⟩ (by exact rfl) Try.ntmps107 (by exact rfl) ?_
  have hS := St.start w
  unfold Ar.ok at h
  repeat' (first | (first | ((with_reducible apply l_add); exact rfl; exact rfl; omega; omega; exact rfl) | ((with_reducible apply l_pure tabOk); exact rfl; exact rfl) | ((with_reducible apply l_load); exact rfl; (((with_reducible apply Loads.sc tabOk); exact rfl; ((exact hS.blkC 0 rfl rfl)))); exact rfl) | ((with_reducible apply l_box hS); exact rfl; exact rfl; exact rfl; intro g w' hS'; clear hS; have hS := hS'; clear hS')) | (first | (with_reducible apply c_seq) | (with_reducible apply c_region) | (with_reducible apply l_nil) | (with_reducible apply q_then) | (with_reducible apply c_ret)))
  (apply q_ret1); (repeat (first | exact ResL.nil | (apply ResL.tmp; exact rfl)))
  exact ⟨rfl, hS.sub (by simp)⟩
set_option maxRecDepth 100000 in
set_option maxHeartbeats 1000000 in
theorem one_fn (a b : Ar) (w : World) (h : a.ok) : Fn Try.prog 108 [.agg (arC a).toArray, .agg (arC b).toArray] w (RBf (.bool (decide (a.alike b))) w) := by
  refine fn_enter (fn := Try.f108) ⟨Try.func108, by kernel_rfl, by kernel_rfl⟩ (by exact rfl) Try.ntmps108 (by exact rfl) ?_
  have hS := St.start w
  repeat' (first | (first | ((with_reducible apply l_pure tabOk); exact rfl; exact rfl) | ((with_reducible apply l_box hS); exact rfl; exact rfl; exact rfl; intro g w' hS'; clear hS; have hS := hS'; clear hS')) | (first | (with_reducible apply c_seq) | (with_reducible apply c_region) | (with_reducible apply l_nil) | (with_reducible apply q_then)))
  (focus ((with_reducible apply c_drawAll nF _ _ (by kernel_rfl) (by kernel_rfl) hS); (repeat' (first | (first | ((with_reducible apply d_pure tabOk); exact rfl; exact rfl) | ((with_reducible apply d_eqb tabOk); exact rfl; exact rfl; exact rfl; exact rfl) | ((with_reducible apply d_load); exact rfl; (intro wd hd; replace hd : St _ _ wd _ := hd; (first | ((with_reducible apply Loads.sc tabOk); exact rfl; (first | exact hd.blkC 0 rfl rfl | exact hd.blkC 1 rfl rfl)) | ((with_reducible apply Loads.st tabOk); exact rfl; ((exact hd.blkR 1 rfl)); exact rfl))); exact rfl) | (first | ((with_reducible apply d_yes); exact rfl; exact rfl; exact rfl; exact rfl; (assumption)) | ((with_reducible apply d_no); exact rfl; exact rfl; exact rfl; exact rfl; (first | exact rfl | assumption); exact rfl) | ((with_reducible apply d_partd); exact rfl; exact rfl; exact rfl; all_goals (intro hb hp; try (exfalso; omega))) | ((with_reducible apply d_pick1); exact rfl; ((assumption)); exact rfl; exact rfl) | ((with_reducible apply d_pick2); exact rfl; (first | exact rfl | assumption); exact rfl; exact rfl))) | ((with_reducible apply d_call); exact rfl; exact rfl; (intro wd hd; replace hd : St _ _ wd _ := hd; exact end_fn a _ h); exact rfl))); all_goals ((with_reducible apply d_nil); intro w' hS'; clear hS; have hS := hS'; clear hS')))
  repeat' ((first | (with_reducible apply l_nil) | (with_reducible apply q_then) | (with_reducible apply c_ret)))
  all_goals
    (apply q_ret1); (repeat (first | exact ResL.nil | (apply ResL.tmp; exact rfl)))
    refine ⟨?_, hS.sub (by simp)⟩
    clear hS
  all_goals simp_all [Ar.alike]
end Go.Proofs.Ytejnpppejalhfab
/- area.joined, by the step calculus. -/
namespace Go.Proofs.Ytejnpppejalhfab
open Go.RowKit Go.Sort
theorem rise_ok {L : List Ar} : ∀ {e : Int}, RiseF e L → ∀ (i : Nat) (a : Ar), L[i]? = some a → a.ok := by
  induction L with
  | nil => intro e _ i a h; simp at h
  | cons b L ih =>
    intro e h i a ha
    cases i with
    | zero => simp at ha; subst ha; exact h.1
    | succ i => exact ih h.2.2 i a (by simpa using ha)
theorem len_jn {L : List Ar} {i m : Nat} (hi : i ≤ L.length) (hm : m = ((jn L i).map arC).length) : m ≤ i := by
  rw [hm, List.length_map]; exact jn_len L i hi
theorem sn_eq {L : List Ar} {i : Nat} {a : Ar} (ha : L[i]? = some a) (h : ∀ b, (jn L i).getLast? = some b → ¬ b.alike a) : (jn L i).map arC ++ [arC a] = (jn L (i + 1)).map arC := by
  rw [jn_succ ha, join_no h]; simp
theorem last_some {J : List Ar} (h : 0 < J.length) : ∃ o b, J = o ++ [b] := by
  rcases List.eq_nil_or_concat J with e | ⟨o, b, e⟩
  · subst e; simp at h
  · exact ⟨o, b, by simpa using e⟩
theorem gr_eq {o : List Ar} {a b : Ar} (h : b.alike a) : (((o ++ [b]).map arC).set o.length (setL (arC b) 1 [.int .i64 (b.n + a.n)])) = (joinStep (o ++ [b]) a).map arC := by
  rw [join_yes h]
  simp [arC, setL]
theorem jn_ok {L : List Ar} (hr : RiseF 1 L) (i : Nat) (o : List Ar) (b : Ar) (h : jn L i = o ++ [b]) : b.ok :=
  rise_ok (jn_good hr i).1 o.length b (by rw [h]; simp)
end Go.Proofs.Ytejnpppejalhfab
/- The contract of area.cut. -/
namespace Go.Proofs.Ytejnpppejalhfab
open Go.RowKit Go.Sort

def ctA (L : List Ar) (q : Int) (i : Nat) : List Ar := cutA (L.take i) q
def ctB (L : List Ar) (q : Int) (i : Nat) : List Ar := cutB (L.take i) q
theorem ctA_yes {L : List Ar} {q : Int} {i : Nat} {a : Ar} (ha : L[i]? = some a) (h : a.pg < q) : ctA L q (i + 1) = ctA L q i ++ [{ a with n := min a.fin q - a.pg }] := by
  unfold ctA cutA; rw [take_snocA ha, List.filterMap_append]; simp [h]
theorem ctA_no {L : List Ar} {q : Int} {i : Nat} {a : Ar} (ha : L[i]? = some a) (h : ¬ a.pg < q) : ctA L q (i + 1) = ctA L q i := by
  unfold ctA cutA; rw [take_snocA ha, List.filterMap_append]; simp [h]
theorem ctB_yes {L : List Ar} {q : Int} {i : Nat} {a : Ar} (ha : L[i]? = some a) (h : q < a.fin) : ctB L q (i + 1) = ctB L q i ++ [{ a with pg := max a.pg q, n := a.fin - max a.pg q }] := by
  unfold ctB cutB; rw [take_snocA ha, List.filterMap_append]; simp [h]
theorem ctB_no {L : List Ar} {q : Int} {i : Nat} {a : Ar} (ha : L[i]? = some a) (h : ¬ q < a.fin) : ctB L q (i + 1) = ctB L q i := by
  unfold ctB cutB; rw [take_snocA ha, List.filterMap_append]; simp [h]
theorem ctA_len (L : List Ar) (q : Int) (i : Nat) : (ctA L q i).length ≤ i := by
  unfold ctA cutA
  exact Nat.le_trans (List.length_filterMap_le _ _) (by simp; omega)
theorem ctB_len (L : List Ar) (q : Int) (i : Nat) : (ctB L q i).length ≤ i := by
  unfold ctB cutB
  exact Nat.le_trans (List.length_filterMap_le _ _) (by simp; omega)
/-- two rows of one's own lie apart -/
def RowsApart (v u : Value) : Prop := v.ownBlock = none ∨ v.ownBlock ≠ u.ownBlock
theorem RowsApart.symm {v u : Value} (h : RowsApart v u) : RowsApart u v := by
  unfold RowsApart at *
  cases hv : v.ownBlock <;> cases hu : u.ownBlock <;> simp_all
  omega
def CutPost (A B : List Ar) (w : World) (e : Ending) (w' : World) : Prop := ∃ va vb, e = .returned (.tuple #[va, vb]) ∧ w'.ownsRow w.heap.size 131 4 va A.length (flat A) ∧ w'.ownsRow w.heap.size 131 4 vb B.length (flat B) ∧ RowsApart va vb ∧ Below w.heap.size w w'
end Go.Proofs.Ytejnpppejalhfab
/- The contract of area.cut. -/
namespace Go.Proofs.Ytejnpppejalhfab
open Go.RowKit Go.Sort

theorem cells4 {w : World} {b : Nat} {a : Ar} (h : CellsAr w b 0 a) : w.cell? ⟨b, 0, none⟩ = some (.int .i64 a.pg) ∧ w.cell? ⟨b, 1, none⟩ = some (.int .i64 a.n) ∧ w.cell? ⟨b, 2, none⟩ = some (.int .i64 a.prot) ∧ w.cell? ⟨b, 3, none⟩ = some (.bool a.z) := h
theorem app_cell {w w' : World} {o : Obj} {a : Addr} {v : Value} {row : Option Nat} (h : w.cell? a = some v) (hg : (w.alloc o).grownBy w' row) (hne : row ≠ some a.block) : w'.cell? a = some v :=
  hg.cell ((World.grownBy_alloc w o none).cell h (by simp)) (Ne.symm hne)

theorem grown_setCell (w : World) (g k : Nat) (u : Value) : w.grownBy (w.setCell ⟨g, k, none⟩ u) (some g) := ⟨rfl, rfl, rfl, by simp, fun j _ hj => heap_setCell_other w ⟨g, k, none⟩ j u (fun e => hj (by simp [e]))⟩
theorem own_setCell {w : World} {base n g k size : Nat} {e : TypeId} {v : Value} {xs : List Value} (h : w.ownsRow base e size v n xs) (hne : v.ownBlock ≠ some g) (u : Value) : (w.setCell ⟨g, k, none⟩ u).ownsRow base e size v n xs :=
  h.kept (grown_setCell w g k u) (Or.inr hne)
theorem own_ne {w : World} {base n size g : Nat} {e : TypeId} {v : Value} {xs : List Value} (h : w.ownsRow base e size v n xs) (hg : w.heap.size ≤ g) : v.ownBlock ≠ some g := fun e => by
  have := (h.lt g e).2; omega
/-- what is carried past an append of a row -/
theorem app_other {w w' : World} {base n n' size : Nat} {e : TypeId} {v u v' : Value} {xs ys : List Value} (ho : w.ownsRow base e size u n ys) (hap : RowsApart v u) (hg : w.grownBy w' v.ownBlock) (hat : v'.ownBlock = v.ownBlock ∨ v'.ownBlock = some w.heap.size) :
    w'.ownsRow base e size u n ys ∧ RowsApart v' u := by
  refine ⟨ho.kept hg (by have := hap.symm; unfold RowsApart at this; exact this), ?_⟩
  rcases hat with h | h
  · unfold RowsApart at *; rw [h]; exact hap
  · right
    rw [h]
    intro hu
    have := (ho.lt _ hu.symm).2
    omega
end Go.Proofs.Ytejnpppejalhfab
/- slices.Grow of a nil slice of areas; slices.Concat of three. -/
namespace Go.Proofs.Ytejnpppejalhfab
open Go.RowKit Go.Sort

def GrowPost (w : World) (e : Ending) (w' : World) : Prop := ∃ v, e = .returned v ∧ w'.ownsRow w.heap.size 131 4 v 0 [] ∧ Below w.heap.size w w'
end Go.Proofs.Ytejnpppejalhfab
/- slices.Concat of rows of areas. -/
namespace Go.Proofs.Ytejnpppejalhfab
open Go.RowKit Go.Sort

theorem flat_append (L M : List Ar) : flat (L ++ M) = flat L ++ flat M := by simp [flat]
theorem sl_cells {w : World} {b : Nat} : ∀ (L : List Ar) (off : Nat), (∀ i a, L[i]? = some a → CellsAr w b (off + i * 4) a) → ∀ j u, (flat L)[j]? = some u → w.cell? ⟨b, off + j, none⟩ = some u := by
  intro L
  induction L with
  | nil => intro off _ j u h; simp [flat] at h
  | cons a L ih =>
    intro off h j u hu
    obtain ⟨c0, c1, c2, c3⟩ := h 0 a rfl
    rw [show off + 0 * 4 = off by omega] at c0 c1 c2 c3
    have hfl : flat (a :: L) = arC a ++ flat L := by simp [flat]
    rw [hfl] at hu
    by_cases hj : j < 4
    · rw [List.getElem?_append_left (by simpa [arC] using hj)] at hu
      match j, hj with
      | 0, _ => simp [arC] at hu; subst hu; exact c0
      | 1, _ => simp [arC] at hu; subst hu; exact c1
      | 2, _ => simp [arC] at hu; subst hu; exact c2
      | 3, _ => simp [arC] at hu; subst hu; exact c3
    · rw [List.getElem?_append_right (by simp [arC]; omega)] at hu
      have hl : (arC a).length = 4 := rfl
      rw [hl] at hu
      have := ih (off + 4) (fun i a' ha => by
        have := h (i + 1) a' ha
        rw [show off + (i + 1) * 4 = off + 4 + i * 4 by omega] at this
        exact this) (j - 4) u hu
      rw [show off + 4 + (j - 4) = off + j by omega] at this
      exact this
theorem flat_one (L : List Ar) : ∀ u ∈ flat L, u.oneCell' = true := by
  intro u hu
  unfold flat at hu
  obtain ⟨a, _, ha⟩ := List.mem_flatMap.1 hu
  simp [arC] at ha
  rcases ha with rfl | rfl | rfl | rfl <;> rfl
/-- append of a slice of areas onto a row of one's own -/
theorem append_sl {w : World} {base : Nat} {v u : Value} {L M : List Ar} (hown : w.ownsRow base 131 4 v L.length (flat L)) (hs : SlAr w u M) (hlen : L.length + M.length ≤ 10000) (hb : base ≤ w.heap.size) :
    ∃ v' w', (Builtin.append_ #[37, 37] 37 #[v, u]).run Try.prog w = .ok v' w' ∧ w'.ownsRow base 131 4 v' (L ++ M).length (flat (L ++ M)) ∧ w.grownBy w' v.ownBlock := by
  obtain ⟨i0, hi0, hz0, hs0, hy0⟩ := info_area
  rcases hs with ⟨p, c, rfl, rfl⟩ | ⟨b, off, cap, rfl, h2, h3, h4, h5⟩
  · cases p with
    | none =>
      have e : Builtin.append_ #[37, 37] 37 #[v, .slice none 0 c] = Builtin.append_ #[37, 37] 37 #[v, .slice none 0 0] := rfl
      rw [e]
      refine ⟨v, w, run_append_owned_none w base _ _ _ i0 4 Try.underlying37 hi0 v _ _ hown, ?_, World.grownBy.refl _ _⟩
      rw [List.append_nil]
      exact hown
    | some a =>
      obtain ⟨v', w', hr, ho, hg, _⟩ := run_append_own_wide (P := Try.prog) w base 37 37 131 i0 _ 4 32 Try.underlying37 hi0 hz0 hs0 hy0 rfl (by decide) v _ _ hown a 0 c [] rfl (fun j u hu => by simp at hu) (by simp) (by unfold maxLen; omega) (by simp at hlen; omega) hb
      refine ⟨v', w', hr, ?_, hg⟩
      rw [List.append_nil] at ho ⊢
      exact ho
  · obtain ⟨v', w', hr, ho, hg, _⟩ := run_append_own_wide (P := Try.prog) w base 37 37 131 i0 _ 4 32 Try.underlying37 hi0 hz0 hs0 hy0 rfl (by decide) v _ _ hown ⟨b, off, none⟩ M.length cap (flat M) (flat_len M) (fun j u hu => by rw [Addr.add_lit]; exact sl_cells M off h5 j u hu) (flat_one M) (by unfold maxLen; omega) (by omega) hb
    refine ⟨v', w', hr, ?_, hg⟩
    rw [flat_append, List.length_append]
    exact ho
end Go.Proofs.Ytejnpppejalhfab
/- slices.Concat of three rows of areas: the walk. -/
namespace Go.Proofs.Ytejnpppejalhfab
open Go.RowKit Go.Sort

def cat (F : Nat → List Ar) (i : Nat) : List Ar := (List.range i).flatMap F
theorem cat_succ (F : Nat → List Ar) (i : Nat) : cat F (i + 1) = cat F i ++ F i := by simp [cat, List.range_succ]
theorem cat_len {F : Nat → List Ar} {n : Nat} (h : ∀ i, i < n → (F i).length ≤ 1000) : ∀ i, i ≤ n → (cat F i).length ≤ i * 1000 := by
  intro i
  induction i with
  | zero => intro _; simp [cat]
  | succ i ih =>
    intro hi
    have := ih (by omega)
    have := h i (by omega)
    rw [cat_succ, List.length_append]
    omega
theorem sl_form {w : World} {v : Value} {L : List Ar} (h : SlAr w v L) : ∃ base cap, v = .slice base L.length cap := by
  rcases h with ⟨p, c, rfl, rfl⟩ | ⟨b, off, cap, rfl, _⟩
  · exact ⟨p, c, rfl⟩
  · exact ⟨_, _, rfl⟩
theorem SlAr.below {w w' : World} {v : Value} {L : List Ar} (h : SlAr w v L) (hb : Below w.heap.size w w') : SlAr w' v L := by
  rcases h with h | ⟨b, off, cap, rfl, h2, h3, h4, h5⟩
  · exact Or.inl h
  · exact Or.inr ⟨b, off, cap, rfl, Nat.lt_of_lt_of_le h2 hb.size, h3, h4, fun i a ha => (h5 i a ha).grown hb h2⟩
theorem ms3 {i : Nat} (h : i < 3) : 3 - ((i : Int) + 1).toNat < 3 - (i : Int).toNat := by omega
end Go.Proofs.Ytejnpppejalhfab
/- The contract of area.Find. -/
namespace Go.Proofs.Ytejnpppejalhfab
open Go.RowKit Go.Sort

def cmpI (a : Ar) (page : Int) : Int := if wrap64 a.fin ≤ page then -1 else 1
set_option maxRecDepth 100000 in
set_option maxHeartbeats 1000000 in
theorem cmp_any (a : Ar) (page : Int) (w : World) : Calls Try.prog 110 #[.agg (arC a).toArray, .int .i64 page] w (RB (.int .i64 (cmpI a page)) w) := by
  have HE := hid (fun w => end_any a w)
  have HC : Hid (cmpI a page = if wrap64 a.fin ≤ page then -1 else 1) := hid rfl
  generalize wrap64 a.fin = f at *
  unfold arC at *
  by_cases h : f ≤ page
  · go_enter Try.func110, Try.ntmps110
    go_wp2_with (first | (go_at_call 107; (with_reducible refine (HE.out _).mono ?_); rintro e w1 ⟨rfl, hb1⟩))
    go_ret
    exact ⟨ret_int (by rw [HC.out, if_pos h]), (by repeat (first | (with_reducible exact Below.refl _ _) | (with_reducible refine Below.alloc ?_ (by (omega)) _) | (refine bt ?_ (by with_reducible assumption))))⟩
  · go_enter Try.func110, Try.ntmps110
    go_wp2_with (first | (go_at_call 107; (with_reducible refine (HE.out _).mono ?_); rintro e w1 ⟨rfl, hb1⟩))
    go_ret
    exact ⟨ret_int (by rw [HC.out, if_neg (by omega)]), (by repeat (first | (with_reducible exact Below.refl _ _) | (with_reducible refine Below.alloc ?_ (by (omega)) _) | (refine bt ?_ (by with_reducible assumption))))⟩
theorem cmp_ne (a : Ar) (page : Int) : (cmpI a page == 0) = false := by unfold cmpI; split <;> decide
theorem cmp_lt {a : Ar} {page : Int} : cmpI a page < 0 ↔ wrap64 a.fin ≤ page := by unfold cmpI; split <;> omega

/-- of good areas, what ends by a page stands ahead -/
theorem rise_fin {L : List Ar} (h : Good L) : ∀ {j k : Nat} {a b : Ar}, j < k → L[j]? = some a → L[k]? = some b → a.fin ≤ b.pg := by
  have ok := (good_iff L).1 h
  intro j k
  induction k with
  | zero => intro a b hj; omega
  | succ k ih =>
    intro a b hj ha hb
    obtain ⟨hk, _⟩ := List.getElem?_eq_some_iff.1 hb
    obtain ⟨c, hc⟩ : ∃ c, L[k]? = some c := ⟨L[k], by simp⟩
    have h1 := ((okAt_succ hb hc).1 (ok (k + 1) hk)).2.1
    rcases Nat.lt_succ_iff_lt_or_eq.1 hj with h2 | h2
    · have h3 := ih h2 ha hc
      have h4 := good_ok h k c hc
      unfold Ar.ok at h4
      unfold Ar.fin at *
      omega
    · subst h2; rw [ha] at hc; cases hc; exact h1

def BsInv (L : List Ar) (page : Int) (i j : Nat) : Prop := Good L → (∀ (t : Nat) (a : Ar), t < i → L[t]? = some a → a.fin ≤ page) ∧ (∀ (t : Nat) (a : Ar), j ≤ t → L[t]? = some a → page < a.fin)
theorem bs_start (L : List Ar) (page : Int) : BsInv L page 0 L.length := fun _ => ⟨fun t a h => by omega, fun t a h ha => by obtain ⟨h2, _⟩ := List.getElem?_eq_some_iff.1 ha; omega⟩
theorem bs_left {L : List Ar} {page : Int} {i j h : Nat} {a : Ar} (hI : BsInv L page i j) (ha : L[h]? = some a) (hc : cmpI a page < 0) : BsInv L page (h + 1) j := fun hg => by
  have hok := good_ok hg h a ha
  rw [cmp_lt, fin_wrap hok] at hc
  refine ⟨fun t b ht hb => ?_, (hI hg).2⟩
  rcases Nat.lt_succ_iff_lt_or_eq.1 ht with h1 | h1
  · have := rise_fin hg h1 hb ha
    have hb' := good_ok hg t b hb
    unfold Ar.ok at hok
    unfold Ar.fin at *
    omega
  · subst h1; rw [ha] at hb; cases hb; exact hc
theorem bs_right {L : List Ar} {page : Int} {i j h : Nat} {a : Ar} (hI : BsInv L page i j) (ha : L[h]? = some a) (hc : ¬ cmpI a page < 0) : BsInv L page i h := fun hg => by
  have hok := good_ok hg h a ha
  rw [cmp_lt, fin_wrap hok] at hc
  refine ⟨(hI hg).1, fun t b ht hb => ?_⟩
  rcases Nat.lt_or_eq_of_le ht with h1 | h1
  · have := rise_fin hg h1 ha hb
    have hb' := good_ok hg t b hb
    unfold Ar.ok at hb'
    unfold Ar.fin at *
    omega
  · subst h1; rw [ha] at hb; cases hb; omega

def BsPost (L : List Ar) (page : Int) (w : World) (e : Ending) (w' : World) : Prop := ∃ i : Nat, i ≤ L.length ∧ e = .returned (.tuple #[.int .i64 i, .bool false]) ∧ Below w.heap.size w w' ∧ BsInv L page i i

theorem half_num (i j n : Nat) (hi : i ≤ n) (hj : j ≤ n) (h : n ≤ 9223372036854775807) : IntKind.u64.wrap (wrap64 ((i : Int) + j)) = (i : Int) + j := by
  rw [IntKind.wrap_u64]; unfold wrap64; omega
theorem half_num0 (i j n : Nat) (hi : i ≤ n) (hj : j ≤ n) (h : n ≤ 9223372036854775807) : IntKind.u64.wrap ((i : Int) + j) = (i : Int) + j := by
  rw [IntKind.wrap_u64]; omega
theorem wrap_succ (h n : Nat) (h1 : h < n) (h2 : n ≤ 9223372036854775807) : wrap64 ((h : Int) + 1) = (h : Int) + 1 := by unfold wrap64; omega
theorem len_max {n cap : Nat} (h : n ≤ cap) (hm : cap ≤ maxLen) : n ≤ 9223372036854775807 := Nat.le_trans h hm
theorem ms1 {i j h : Nat} (h1 : i ≤ h) (h2 : h < j) : ((j : Int)).toNat - ((h : Int) + 1).toNat < (j : Int).toNat - (i : Int).toNat := by omega
theorem ms2 {i j h : Nat} (h1 : i ≤ h) (h2 : h < j) : ((h : Int)).toNat - (i : Int).toNat < (j : Int).toNat - (i : Int).toNat := by omega
theorem half_num2 (i j n : Nat) (hi : i ≤ n) (hj : j ≤ n) (h : n ≤ 9223372036854775807) : wrap64 (((i : Int) + j) / 2) = ((i + j) / 2 : Nat) := by
  unfold wrap64; omega
set_option maxRecDepth 100000 in
set_option maxHeartbeats 4000000 in
theorem bs_any {L : List Ar} {w : World} (b off cap : Nat) (page : Int) (hbl : b < w.heap.size) (hcap : L.length ≤ cap) (hmax : cap ≤ maxLen) (hcells : ∀ i a, L[i]? = some a → CellsAr w b (off + i * 4) a) :
    Calls Try.prog 109 #[.slice (some ⟨b, off, none⟩) L.length cap, .int .i64 page, .func (.func 110) #[] #[]] w (BsPost L page w) := by
  have hlen := len_max hcap hmax
  clear hmax hcap
  have HLEN := hid hlen; clear hlen
  have HL := hid hcells
  have HI := hid (bs_start L page)
  clear hcells
  go_enter Try.func109, Try.ntmps109
  go_wp2
  go_loopw [9, 10] (fun vi vj wr => ∃ i j : Nat, i ≤ j ∧ j ≤ L.length ∧ vi = .int .i64 i ∧ vj = .int .i64 j ∧ Below w.heap.size w wr ∧ Hid (BsInv L page i j)) (fun vi vj _ => (intOf vj).toNat - (intOf vi).toNat)
  case atStart => exact ⟨0, L.length, by omega, by omega, rfl, rfl, Below.refl _ _, HI.out⟩
  case round =>
    clear HI
    obtain ⟨i, j, hij, hj, rfl, rfl, hb, HI⟩ := hrel
    by_cases hlt : i < j
    · obtain ⟨h, hh⟩ : ∃ h, h = (i + j) / 2 := ⟨_, rfl⟩
      have hhj : h < j := by omega
      have hih : i ≤ h := by omega
      obtain ⟨a, ha⟩ : ∃ a, L[h]? = some a := ⟨L[h]'(by omega), by simp⟩
      obtain ⟨c0, c1, c2, c3⟩ := (HL.out h a ha).grown hb hbl
      have hbr := ltAll (Nat.lt_of_lt_of_le hbl hb.size)
      have hsz := hb.size
      have hq0 := half_num0 i j L.length (Nat.le_trans hij hj) hj HLEN.out
      have hq1 := half_num i j L.length (Nat.le_trans hij hj) hj HLEN.out
      have hq2 := half_num2 i j L.length (Nat.le_trans hij hj) hj HLEN.out
      rw [← hh] at hq2
      have HC := hid (fun w => cmp_any a page w)
      unfold arC at HC
      have hw1 : wrap64 ((h : Int) + 1) = (h : Int) + 1 := wrap_succ h L.length (Nat.lt_of_lt_of_le hhj hj) HLEN.out
      have hlh : (h : Int) < L.length := Int.ofNat_lt.2 (Nat.lt_of_lt_of_le hhj hj)
      clear hh
      go_upto_region 5 with fail
      rw [hq2]
      clear hq0 hq1 hq2
      by_cases hc : cmpI a page < 0
      · have HX := hid (bs_left HI.out ha hc)
        generalize cmpI a page = cv at *
        go_wp2_with (first | (go_at_call 110; (with_reducible refine (HC.out _).mono ?_); rintro e w1 ⟨rfl, hb1⟩))
        go_roundw
        case rel => exact ⟨h + 1, j, Nat.succ_le_of_lt hhj, hj, by rw [hw1]; rfl, rfl, (by repeat (first | (with_reducible assumption) | (refine bt ?_ (by with_reducible assumption)))), HX.out⟩
        case measure => (rw [hw1]; exact ms1 hih hhj)
      · have HX := hid (bs_right HI.out ha hc)
        generalize cmpI a page = cv at *
        go_wp2_with (first | (go_at_call 110; (with_reducible refine (HC.out _).mono ?_); rintro e w1 ⟨rfl, hb1⟩))
        go_roundw
        case rel => exact ⟨i, h, hih, Nat.le_of_lt (Nat.lt_of_lt_of_le hhj hj), rfl, rfl, (by repeat (first | (with_reducible assumption) | (refine bt ?_ (by with_reducible assumption)))), HX.out⟩
        case measure => exact ms2 hih hhj
    · obtain rfl : i = j := by omega
      by_cases hn : i < L.length
      · obtain ⟨a, ha⟩ : ∃ a, L[i]? = some a := ⟨L[i], by simp [hn]⟩
        obtain ⟨c0, c1, c2, c3⟩ := (HL.out i a ha).grown hb hbl
        have hbr := ltAll (Nat.lt_of_lt_of_le hbl hb.size)
        have hsz := hb.size
        have HC := hid (fun w => cmp_any a page w)
        have hz := cmp_ne a page
        unfold arC at HC
        generalize cmpI a page = cv at *
        go_wp2_with (first | (go_at_call 110; (with_reducible refine (HC.out _).mono ?_); rintro e w1 ⟨rfl, hb1⟩))
        go_ret2
        exact ⟨i, hj, rfl, (by repeat (first | (with_reducible assumption) | (refine bt ?_ (by with_reducible assumption)))), HI.out⟩
      · go_wp2
        go_ret2
        exact ⟨i, hj, rfl, (by repeat ((with_reducible assumption))), HI.out⟩
end Go.Proofs.Ytejnpppejalhfab
/- The contracts of the reference's SameAreas (all forms), within, CheckAreas. -/
namespace Go.Proofs.Ytejnpppejalhfab
open Go.RowKit Go.Sort

set_option maxRecDepth 100000 in
set_option maxHeartbeats 4000000 in
theorem same_sl {va vb : Value} {A B : List Ar} {w : World} (ha : SlAr w va A) (hb : SlAr w vb B) : Calls Try.prog 56 #[va, vb] w (RB (.bool (decide (A = B))) w) := by
  rcases ha with ⟨p, c, rfl, rfl⟩ | ⟨b1, off1, cap1, rfl, h2, h3, h4, h5⟩
  · rcases hb with ⟨p2, c2, rfl, rfl⟩ | ⟨b2, off2, cap2, rfl, k2, k3, k4, k5⟩
    · go_enter Try.func56, Try.ntmps56
      go_wp2
      go_loopw [5] (fun vi wr => vi = .int .i64 0 ∧ wr = w) (fun _ _ => 0)
      case atStart => exact ⟨rfl, rfl⟩
      case round =>
        obtain ⟨rfl, rfl⟩ := hrel
        go_wp2
        go_ret
        exact ⟨ret_bool (by simp), Below.refl _ _⟩
    · cases B with
      | nil =>
        simp only [List.length_nil]
        go_enter Try.func56, Try.ntmps56
        go_wp2
        go_loopw [5] (fun vi wr => vi = .int .i64 0 ∧ wr = w) (fun _ _ => 0)
        case atStart => exact ⟨rfl, rfl⟩
        case round =>
          obtain ⟨rfl, rfl⟩ := hrel
          go_wp2
          go_ret
          exact ⟨ret_bool (by simp), Below.refl _ _⟩
      | cons c B =>
        have hn : ((0 : Int) != ((c :: B).length : Nat)) = true := by rw [bne_iff_ne]; simp; omega
        generalize hD : (c :: B).length = n at *
        go_enter Try.func56, Try.ntmps56
        go_wp2
        go_ret
        exact ⟨ret_bool (by simp), Below.refl _ _⟩
  · rcases hb with ⟨p2, c2, rfl, rfl⟩ | ⟨b2, off2, cap2, rfl, k2, k3, k4, k5⟩
    · cases A with
      | nil =>
        simp only [List.length_nil]
        go_enter Try.func56, Try.ntmps56
        go_wp2
        go_loopw [5] (fun vi wr => vi = .int .i64 0 ∧ wr = w) (fun _ _ => 0)
        case atStart => exact ⟨rfl, rfl⟩
        case round =>
          obtain ⟨rfl, rfl⟩ := hrel
          go_wp2
          go_ret
          exact ⟨ret_bool (by simp), Below.refl _ _⟩
      | cons c A =>
        have hn : (((c :: A).length : Int) != 0) = true := by rw [bne_iff_ne]; simp; omega
        generalize hD : (c :: A).length = n at *
        go_enter Try.func56, Try.ntmps56
        go_wp2
        go_ret
        exact ⟨ret_bool (by simp), Below.refl _ _⟩
    · by_cases hl : A.length = B.length
      · exact same_some b1 off1 cap1 b2 off2 cap2 h2 k2 h5 k5 hl (len_max h3 h4)
      · have HX := hid (len_not hl)
        have hn : ((A.length : Int) != B.length) = true := by rw [bne_iff_ne]; omega
        clear hl h4 k4 h5 k5 h3 k3
        go_enter Try.func56, Try.ntmps56
        go_wp2
        go_ret
        exact ⟨ret_bool (decide_eq_false HX.out).symm, Below.refl _ _⟩

set_option maxRecDepth 100000 in
theorem inside_any (n lo hi : Int) (w : World) : Calls Try.prog 60 #[.int .i64 n, .int .i64 lo, .int .i64 hi] w fun e w' => e = .returned (.bool (decide (lo ≤ n ∧ n ≤ hi))) ∧ w = w' := by
  by_cases h1 : lo ≤ n
  · by_cases h2 : n ≤ hi
    · go_enter Try.func60, Try.ntmps60
      go_wp2
      go_ret
      exact ⟨ret_bool (by simp [h1, h2]), rfl⟩
    · go_enter Try.func60, Try.ntmps60
      go_wp2
      go_ret
      exact ⟨ret_bool (by simp [h1, h2]), rfl⟩
  · go_enter Try.func60, Try.ntmps60
    go_wp2
    go_ret
    exact ⟨ret_bool (by simp; omega), rfl⟩
end Go.Proofs.Ytejnpppejalhfab
/- The contract of the reference's CheckAreas. -/
namespace Go.Proofs.Ytejnpppejalhfab
open Go.RowKit Go.Sort

theorem wpList_get_row_on {P : Program} {w : World} {ops : Array Oper} {rest : List Oper} {o : Oper} {a : Act} {Q : Exit → Act → World → Prop} (hw : Region.wanted o (yielded ops a.tmps) = true) (ty : TypeId) (x : Operand) (ho : o.op = .load ty x) (g : Nat) (L : List Value) (hx : a.eval x = .pointer (some ⟨g, 0, none⟩)) (h : HoldL w g L) (d : TypeDesc)
    (hu : P.underlying ty = some d) (hd : (match d with | .struct _ | .array _ _ => true | _ => false) = true) (hi : (P.info? ty).map (·.size) = some L.length)
    (next : wpList P ops Q rest (a.put o.dst (.agg L.toArray)) w) : wpList P ops Q (o :: rest) a w := by
  obtain ⟨t, ht⟩ := h
  unfold wpList
  rw [if_pos hw]
  exact Or.inl (wp_load_row ty x ho g hx t _ _ d ht hu hd (by simpa using hi) next)

theorem board_sl {v : Value} {L : List Ar} {w : World} (h : SlAr w v L) (hok : ∀ (i : Nat) (a : Ar), L[i]? = some a → a.ok) (hlen : L.length ≤ 255) : Calls Try.prog 111 #[v] w (BoardPost L w) := by
  rcases h with ⟨p, c, rfl, rfl⟩ | ⟨b, off, cap, rfl, h2, h3, h4, h5⟩
  · exact board_nil p c w
  · exact board_any b off cap h2 h5 hok hlen
theorem checkI_rise {L : List Ar} (hl : ¬ 255 < L.length) (hr : ¬ RiseF 1 L) : checkI L = 1 := by
  unfold checkI; rw [if_neg hl, if_neg (fun g => hr g.1)]
theorem checkI_same {L : List Ar} (hl : ¬ 255 < L.length) (hr : RiseF 1 L) : checkI L = if aUpto (paint L) 255 = L then 0 else 1 := by
  unfold checkI
  rw [if_neg hl]
  by_cases h : Apart L
  · rw [if_pos ⟨hr, h⟩, if_pos ((rebuild_iff hr).2 h)]
  · rw [if_neg (fun g => h g.2), if_neg (fun e => h ((rebuild_iff hr).1 e))]

set_option maxRecDepth 100000 in
set_option maxHeartbeats 4000000 in
theorem checkAreas_nil (p : Option Addr) (c : Nat) (w : World) : Calls Try.prog 65 #[.slice p 0 c] w (RB (.int .i64 0) w) := by
  have hszb : (Try.prog.info? 117).map (·.size) = some 256 := by kernel_rfl
  have Hszb := hid hszb; clear hszb
  have hbw := Below.refl w.heap.size w
  obtain ⟨L, hL⟩ : ∃ L : List Ar, L = [] := ⟨_, rfl⟩
  have HR : Hid (RiseF 1 L) := by rw [hL]; exact trivial
  have HSL : Hid (SlAr w (.slice p 0 c) L) := Or.inl ⟨_, _, rfl, hL⟩
  have HBD : Hid (∀ w', Below w.heap.size w w' → Calls Try.prog 111 #[.slice p 0 c] w' (BoardPost L w')) := fun w' hb => board_sl (HSL.out.grown hb) (by rw [hL]; intro i a h; simp at h) (by rw [hL]; simp)
  unfold BoardPost at HBD
  rw [decide_eq_true HR.out] at HBD
  have HAO := hid (fun w' => areasOf_any (paint L) (fun p => mark_paint p HR.out) (paint_below HR.out (by omega)) w')
  have HEQ : Hid (aUpto (paint L) 255 = L) := hid (by rw [hL]; exact areas_of_paint ⟨trivial, trivial⟩)
  clear hL
  go_enter Try.func65, Try.ntmps65
  go_wp2
  go_loopw [3] (fun vi wr => vi = .int .i64 0 ∧ w = wr) (fun _ _ => 0)
  case atStart => exact ⟨rfl, rfl⟩
  case round =>
    obtain ⟨rfl, rfl⟩ := hrel
    go_wp2_with (first | (go_at_call 111; (with_reducible refine (HBD.out _ hbw).mono ?_); rintro e wc ⟨bd, rfl, hbc, hbd⟩; rw [hbd HR.out]; clear hbd; have hbn := bt hbw hbc; clear hbw hbc; have hbw := hbn; clear hbn) | ((with_reducible refine at_op 5 ?_); refine wpList_new_row' rfl (some 5) rfl (bdC (fun _ => 0)) 117 (by kernel_rfl) w.heap.size w hbw hbw.size ?_; intro g5 wn5 hL5 hB5 hbn hkn hnn; skip; clear hbw hkn hnn; have hbw := hbn; clear hbn) | ((with_reducible refine at_store 5 ?_); refine wpList_put_row rfl 117 (.tmp 5) (.tmp 48) rfl rfl g5 (bdC (paint L)) (bdC (fun _ => 0)) rfl rfl hL5 (by rw [Hszb.out, bdC_len]) (by simp [bdC_len]) (bdC_one _) w.heap.size w hbw hB5 ?_; intro wp5 hLn hbn hon; clear hL5 hbw hon; have hL5 := hLn; have hbw := hbn; clear hLn hbn) | ((with_reducible refine at_op 53 ?_); refine wpList_get_row_on rfl 117 (.tmp 5) rfl g5 (bdC (paint L)) rfl hL5 _ Try.underlying117 rfl (by rw [Hszb.out, bdC_len]) ?_) | (go_at_call 55; (with_reducible refine (HAO.out _).mono ?_); rintro e wa ⟨va, rfl, hsa, hba⟩; have hbn := bt hbw hba; clear hbw hba; have hbw := hbn; clear hbn))
    have HC := same_sl (own_sl hsa) (HSL.out.grown hbw)
    rw [decide_eq_true HEQ.out] at HC
    have HC := hid HC
    go_wp2_with (first | (go_at_call 56; (with_reducible refine (HC.out).mono ?_); rintro e wz ⟨rfl, hbz⟩))
    go_ret
    exact ⟨ret_int rfl, bt hbw hbz⟩

set_option maxRecDepth 100000 in
set_option maxHeartbeats 8000000 in
theorem checkAreas_some {L : List Ar} {w : World} (b off cap : Nat) (hbl : b < w.heap.size) (hcap : L.length ≤ cap) (hmax : cap ≤ maxLen) (hcells : ∀ i a, L[i]? = some a → CellsAr w b (off + i * 4) a) :
    Calls Try.prog 65 #[.slice (some ⟨b, off, none⟩) L.length cap] w (RB (.int .i64 (checkI L)) w) := by
  by_cases hm : 255 < L.length
  · have HC := hid (checkI_many hm)
    clear hmax
    generalize checkI L = r at *
    go_enter Try.func65, Try.ntmps65
    go_wp2
    go_ret
    exact ⟨ret_int HC.out.symm, Below.refl _ _⟩
  have hszb : (Try.prog.info? 117).map (·.size) = some 256 := by kernel_rfl
  have Hszb := hid hszb; clear hszb
  have HSL : Hid (SlAr w (.slice (some ⟨b, off, none⟩) L.length cap) L) := Or.inr ⟨b, off, cap, rfl, hbl, hcap, hmax, hcells⟩
  have HL := hid hcells
  have hlen : L.length ≤ 255 := by omega
  clear hcells hmax hcap
  obtain ⟨r, hr⟩ : ∃ r, r = checkI L := ⟨_, rfl⟩
  rw [← hr]
  have HQ := hid hr; clear hr
  go_enter Try.func65, Try.ntmps65
  go_wp2
  go_loopw [3] (fun vi wr => ∃ i : Nat, i ≤ L.length ∧ vi = .int .i64 i ∧ Below w.heap.size w wr ∧ Hid (∀ (j : Nat) (a : Ar), j < i → L[j]? = some a → a.ok)) (fun vi _ => L.length - (intOf vi).toNat)
  case atStart => exact ⟨0, by omega, rfl, Below.refl _ _, fun j a hj => by omega⟩
  case round =>
    obtain ⟨i, hi, rfl, hbw, HO⟩ := hrel
    by_cases hlt : i < L.length
    · obtain ⟨a, ha⟩ : ∃ a, L[i]? = some a := ⟨L[i], by simp [hlt]⟩
      obtain ⟨c0, c1, c2, c3⟩ := (HL.out i a ha).grown hbw hbl
      have hbr := ltAll (Nat.lt_of_lt_of_le hbl hbw.size)
      have hsz := hbw.size
      have HW1 := hid (fun w => inside_any a.pg 1 255 w)
      have HW2 := hid (fun w => inside_any a.n 1 255 w)
      have HW4 := hid (fun w => inside_any a.prot 0 3 w)
      by_cases h1 : 1 ≤ a.pg ∧ a.pg ≤ 255
      · rw [decide_eq_true h1] at HW1
        by_cases h2 : 1 ≤ a.n ∧ a.n ≤ 255
        · rw [decide_eq_true h2] at HW2
          have hw1 : wrap64 (a.pg + a.n) = a.pg + a.n := wrap64_small _ (by omega) (by omega)
          have hw2 : wrap64 (a.pg + a.n - 1) = a.pg + a.n - 1 := wrap64_small _ (by omega) (by omega)
          by_cases h3 : 255 < a.pg + a.n - 1
          · have HX := hid (okAt_not ha (fun h => by unfold Ar.ok at h; omega))
            clear h1 h2
            go_wp2_with (first | (go_at_call 60; (with_reducible refine (HW1.out _).mono ?_); rintro e w1 ⟨rfl, rfl⟩) | (go_at_call 60; (with_reducible refine (HW2.out _).mono ?_); rintro e w1 ⟨rfl, rfl⟩) | (go_at_call 60; (with_reducible refine (HW4.out _).mono ?_); rintro e w1 ⟨rfl, rfl⟩))
            go_ret
            exact ⟨ret_int (by rw [HQ.out, checkI_bad hm hlt HX.out]), (by repeat (first | (with_reducible exact Below.refl _ _) | (with_reducible assumption) | (with_reducible refine Below.alloc ?_ (by first | omega | (simp; done) | (simp; omega)) _) | (with_reducible refine Below.setCell ?_ (by first | omega | (simp; done) | (simp; omega)) _) | (with_reducible refine Below.drew ?_) | (with_reducible refine bt ?_ (below_regrown _ _ _)) | (refine bt ?_ (by with_reducible assumption))))⟩
          · by_cases h4 : 0 ≤ a.prot ∧ a.prot ≤ 3
            · rw [decide_eq_true h4] at HW4
              have HX : Hid (a.ok) := hid (by unfold Ar.ok; omega)
              have HMS := hid (ms5 hlt)
              have hws : wrap64 ((i : Int) + 1) = (i : Int) + 1 := wrap64_small _ (by omega) (by omega)
              have h3' : a.pg + a.n - 1 ≤ 255 := by omega
              clear h1 h2 h3 h4
              go_wp2_with (first | (go_at_call 60; (with_reducible refine (HW1.out _).mono ?_); rintro e w1 ⟨rfl, rfl⟩) | (go_at_call 60; (with_reducible refine (HW2.out _).mono ?_); rintro e w1 ⟨rfl, rfl⟩) | (go_at_call 60; (with_reducible refine (HW4.out _).mono ?_); rintro e w1 ⟨rfl, rfl⟩))
              go_roundw
              case rel =>
                refine ⟨i + 1, hlt, by first | rfl | (rw [hws]; rfl), (by repeat (first | (with_reducible exact Below.refl _ _) | (with_reducible assumption) | (with_reducible refine Below.alloc ?_ (by first | omega | (simp; done) | (simp; omega)) _) | (with_reducible refine Below.setCell ?_ (by first | omega | (simp; done) | (simp; omega)) _) | (with_reducible refine Below.drew ?_) | (with_reducible refine bt ?_ (below_regrown _ _ _)) | (refine bt ?_ (by with_reducible assumption)))), fun j x hj hx => ?_⟩
                rcases Nat.lt_succ_iff_lt_or_eq.1 hj with h | h
                · exact HO.out j x h hx
                · subst h; rw [ha] at hx; cases hx; exact HX.out
              case measure => first | exact HMS.out | (rw [hws]; exact HMS.out)
            · rw [decide_eq_false h4] at HW4
              have HX := hid (okAt_not ha (fun h => by unfold Ar.ok at h; omega))
              have h3' : a.pg + a.n - 1 ≤ 255 := by omega
              clear h1 h2 h3 h4
              go_wp2_with (first | (go_at_call 60; (with_reducible refine (HW1.out _).mono ?_); rintro e w1 ⟨rfl, rfl⟩) | (go_at_call 60; (with_reducible refine (HW2.out _).mono ?_); rintro e w1 ⟨rfl, rfl⟩) | (go_at_call 60; (with_reducible refine (HW4.out _).mono ?_); rintro e w1 ⟨rfl, rfl⟩))
              go_ret
              exact ⟨ret_int (by rw [HQ.out, checkI_bad hm hlt HX.out]), (by repeat (first | (with_reducible exact Below.refl _ _) | (with_reducible assumption) | (with_reducible refine Below.alloc ?_ (by first | omega | (simp; done) | (simp; omega)) _) | (with_reducible refine Below.setCell ?_ (by first | omega | (simp; done) | (simp; omega)) _) | (with_reducible refine Below.drew ?_) | (with_reducible refine bt ?_ (below_regrown _ _ _)) | (refine bt ?_ (by with_reducible assumption))))⟩
        · rw [decide_eq_false h2] at HW2
          have HX := hid (okAt_not ha (fun h => by unfold Ar.ok at h; omega))
          clear h1 h2
          go_wp2_with (first | (go_at_call 60; (with_reducible refine (HW1.out _).mono ?_); rintro e w1 ⟨rfl, rfl⟩) | (go_at_call 60; (with_reducible refine (HW2.out _).mono ?_); rintro e w1 ⟨rfl, rfl⟩) | (go_at_call 60; (with_reducible refine (HW4.out _).mono ?_); rintro e w1 ⟨rfl, rfl⟩))
          go_ret
          exact ⟨ret_int (by rw [HQ.out, checkI_bad hm hlt HX.out]), (by repeat (first | (with_reducible exact Below.refl _ _) | (with_reducible assumption) | (with_reducible refine Below.alloc ?_ (by first | omega | (simp; done) | (simp; omega)) _) | (with_reducible refine Below.setCell ?_ (by first | omega | (simp; done) | (simp; omega)) _) | (with_reducible refine Below.drew ?_) | (with_reducible refine bt ?_ (below_regrown _ _ _)) | (refine bt ?_ (by with_reducible assumption))))⟩
      · rw [decide_eq_false h1] at HW1
        have HX := hid (okAt_not ha (fun h => by unfold Ar.ok at h; omega))
        clear h1
        go_wp2_with (first | (go_at_call 60; (with_reducible refine (HW1.out _).mono ?_); rintro e w1 ⟨rfl, rfl⟩) | (go_at_call 60; (with_reducible refine (HW2.out _).mono ?_); rintro e w1 ⟨rfl, rfl⟩) | (go_at_call 60; (with_reducible refine (HW4.out _).mono ?_); rintro e w1 ⟨rfl, rfl⟩))
        go_ret
        exact ⟨ret_int (by rw [HQ.out, checkI_bad hm hlt HX.out]), (by repeat (first | (with_reducible exact Below.refl _ _) | (with_reducible assumption) | (with_reducible refine Below.alloc ?_ (by first | omega | (simp; done) | (simp; omega)) _) | (with_reducible refine Below.setCell ?_ (by first | omega | (simp; done) | (simp; omega)) _) | (with_reducible refine Below.drew ?_) | (with_reducible refine bt ?_ (below_regrown _ _ _)) | (refine bt ?_ (by with_reducible assumption))))⟩
    · obtain rfl : i = L.length := by omega
      have hok : ∀ (j : Nat) (a : Ar), L[j]? = some a → a.ok := fun j a hj => HO.out j a (List.getElem?_eq_some_iff.1 hj).1 hj
      have HBD : Hid (∀ w', Below w.heap.size w w' → Calls Try.prog 111 #[.slice (some ⟨b, off, none⟩) L.length cap] w' (BoardPost L w')) := fun w' hb => board_sl (HSL.out.grown hb) hok hlen
      unfold BoardPost at HBD
      clear hok
      by_cases hr : RiseF 1 L
      · rw [decide_eq_true hr] at HBD
        have HR := hid hr
        have HAO := hid (fun w' => areasOf_any (paint L) (fun p => mark_paint p hr) (paint_below hr (by omega)) w')
        have hcs := checkI_same hm hr
        clear hr
        by_cases he : aUpto (paint L) 255 = L
        · rw [if_pos he] at hcs
          have HEQ := hid he
          have HCS := hid hcs
          clear he hcs
          go_wp2_with (first | (go_at_call 111; (with_reducible refine (HBD.out _ hbw).mono ?_); rintro e wc ⟨bd, rfl, hbc, hbd⟩; rw [hbd HR.out]; clear hbd; have hbn := bt hbw hbc; clear hbw hbc; have hbw := hbn; clear hbn) | ((with_reducible refine at_op 5 ?_); refine wpList_new_row' rfl (some 5) rfl (bdC (fun _ => 0)) 117 (by kernel_rfl) w.heap.size w hbw hbw.size ?_; intro g5 wn5 hL5 hB5 hbn hkn hnn; skip; clear hbw hkn hnn; have hbw := hbn; clear hbn) | ((with_reducible refine at_store 5 ?_); refine wpList_put_row rfl 117 (.tmp 5) (.tmp 48) rfl rfl g5 (bdC (paint L)) (bdC (fun _ => 0)) rfl rfl hL5 (by rw [Hszb.out, bdC_len]) (by simp [bdC_len]) (bdC_one _) w.heap.size w hbw hB5 ?_; intro wp5 hLn hbn hon; clear hL5 hbw hon; have hL5 := hLn; have hbw := hbn; clear hLn hbn) | ((with_reducible refine at_op 53 ?_); refine wpList_get_row_on rfl 117 (.tmp 5) rfl g5 (bdC (paint L)) rfl hL5 _ Try.underlying117 rfl (by rw [Hszb.out, bdC_len]) ?_) | (go_at_call 55; (with_reducible refine (HAO.out _).mono ?_); rintro e wa ⟨va, rfl, hsa, hba⟩; have hbn := bt hbw hba; clear hbw hba; have hbw := hbn; clear hbn))
          have HC := same_sl (own_sl hsa) (HSL.out.grown hbw)
          rw [decide_eq_true HEQ.out] at HC
          have HC := hid HC
          go_wp2_with (first | (go_at_call 56; (with_reducible refine (HC.out).mono ?_); rintro e wz ⟨rfl, hbz⟩))
          go_ret
          exact ⟨ret_int (by rw [HQ.out, HCS.out]), bt hbw hbz⟩
        · rw [if_neg he] at hcs
          have HEQ := hid he
          have HCS := hid hcs
          clear he hcs
          go_wp2_with (first | (go_at_call 111; (with_reducible refine (HBD.out _ hbw).mono ?_); rintro e wc ⟨bd, rfl, hbc, hbd⟩; rw [hbd HR.out]; clear hbd; have hbn := bt hbw hbc; clear hbw hbc; have hbw := hbn; clear hbn) | ((with_reducible refine at_op 5 ?_); refine wpList_new_row' rfl (some 5) rfl (bdC (fun _ => 0)) 117 (by kernel_rfl) w.heap.size w hbw hbw.size ?_; intro g5 wn5 hL5 hB5 hbn hkn hnn; skip; clear hbw hkn hnn; have hbw := hbn; clear hbn) | ((with_reducible refine at_store 5 ?_); refine wpList_put_row rfl 117 (.tmp 5) (.tmp 48) rfl rfl g5 (bdC (paint L)) (bdC (fun _ => 0)) rfl rfl hL5 (by rw [Hszb.out, bdC_len]) (by simp [bdC_len]) (bdC_one _) w.heap.size w hbw hB5 ?_; intro wp5 hLn hbn hon; clear hL5 hbw hon; have hL5 := hLn; have hbw := hbn; clear hLn hbn) | ((with_reducible refine at_op 53 ?_); refine wpList_get_row_on rfl 117 (.tmp 5) rfl g5 (bdC (paint L)) rfl hL5 _ Try.underlying117 rfl (by rw [Hszb.out, bdC_len]) ?_) | (go_at_call 55; (with_reducible refine (HAO.out _).mono ?_); rintro e wa ⟨va, rfl, hsa, hba⟩; have hbn := bt hbw hba; clear hbw hba; have hbw := hbn; clear hbn))
          have HC := same_sl (own_sl hsa) (HSL.out.grown hbw)
          rw [decide_eq_false HEQ.out] at HC
          have HC := hid HC
          go_wp2_with (first | (go_at_call 56; (with_reducible refine (HC.out).mono ?_); rintro e wz ⟨rfl, hbz⟩))
          go_ret
          exact ⟨ret_int (by rw [HQ.out, HCS.out]), bt hbw hbz⟩
      · rw [decide_eq_false hr] at HBD
        have HX : Hid (r = 1) := hid (by rw [HQ.out, checkI_rise hm hr])
        clear hr
        go_wp2_with (first | (go_at_call 111; (with_reducible refine (HBD.out _ hbw).mono ?_); rintro e wc ⟨bd, rfl, hbc, hbd⟩; clear hbd; have hbn := bt hbw hbc; clear hbw hbc; have hbw := hbn; clear hbn) | ((with_reducible refine at_op 5 ?_); refine wpList_new_row' rfl (some 5) rfl (bdC (fun _ => 0)) 117 (by kernel_rfl) w.heap.size w hbw hbw.size ?_; intro g5 wn5 hL5 hB5 hbn hkn hnn; skip; clear hbw hkn hnn; have hbw := hbn; clear hbn) | ((with_reducible refine at_store 5 ?_); refine wpList_put_row rfl 117 (.tmp 5) (.tmp 48) rfl rfl g5 (bdC bd) (bdC (fun _ => 0)) rfl rfl hL5 (by rw [Hszb.out, bdC_len]) (by simp [bdC_len]) (bdC_one _) w.heap.size w hbw hB5 ?_; intro wp5 hLn hbn hon; clear hL5 hbw hon; have hL5 := hLn; have hbw := hbn; clear hLn hbn))
        go_ret
        exact ⟨ret_int HX.out.symm, hbw⟩
theorem checkAreas_sl {v : Value} {L : List Ar} {w : World} (h : SlAr w v L) : Calls Try.prog 65 #[v] w (RB (.int .i64 (checkI L)) w) := by
  rcases h with ⟨p, c, rfl, rfl⟩ | ⟨b, off, cap, rfl, h2, h3, h4, h5⟩
  · exact checkAreas_nil p c w
  · exact checkAreas_some b off cap h2 h3 h4 h5
end Go.Proofs.Ytejnpppejalhfab
/- The contracts of the reference's spanError, MapIn. -/
namespace Go.Proofs.Ytejnpppejalhfab
open Go.RowKit Go.Sort

def spanE (L : List Ar) (page pages prot : Int) : Int := if checkI L ≠ 0 then checkI L else if spanB page pages prot = true then 0 else 3
theorem spanB_iff (page pages prot : Int) : spanB page pages prot = true ↔ 1 ≤ page ∧ page ≤ 255 ∧ 1 ≤ pages ∧ pages ≤ 256 - page ∧ 0 ≤ prot ∧ prot ≤ 3 := by unfold spanB; simp

/-- a board with pages from lo to q marked anew -/
def layW (base : Int → Int) (m lo q : Int) (x : Int) : Int := if lo ≤ x ∧ x < q then m else base x
theorem layW_start (base : Int → Int) (m lo : Int) : bdC (layW base m lo lo) = bdC base := bdC_ext fun p _ _ => by unfold layW; rw [if_neg (by omega)]
theorem layW_step (base : Int → Int) (m lo : Int) (q : Nat) (h : lo ≤ q) : (bdC (layW base m lo q)).set q (.int .i64 m) = bdC (layW base m lo ((q : Int) + 1)) := by
  rw [bdC_set]
  refine bdC_ext fun p _ _ => ?_
  unfold layW
  by_cases e : p = q
  · rw [if_pos e, if_pos (by omega)]
  · rw [if_neg e]
    by_cases c : lo ≤ p ∧ p < q
    · rw [if_pos c, if_pos (by omega)]
    · rw [if_neg c, if_neg (by omega)]
theorem layW_at (base : Int → Int) (m lo : Int) (q : Nat) (h : q < 256) : (bdC (layW base m lo q))[q]? = some (.int .i64 (base q)) := by
  rw [bdC_at _ _ h]; unfold layW; rw [if_neg (by omega)]

/-- what Map, Unmap, Protect answer: areas, and the error -/
def ResPost (R : List Ar × Int) (w : World) (e : Ending) (w' : World) : Prop := ∃ v, e = .returned (.tuple #[v, .int .i64 R.2]) ∧ OwnAr w.heap.size w' v R.1 ∧ Below w.heap.size w w'
def mapR (L : List Ar) (page pages prot : Int) : List Ar × Int :=
  if spanE L page pages prot ≠ 0 then ([], spanE L page pages prot)
  else if midL L page (page + pages) = [] then (turnL L page (page + pages) [⟨page, pages, prot, true⟩], 0) else ([], 5)
theorem spanE_zero {L : List Ar} {page pages prot : Int} : spanE L page pages prot = 0 ↔ checkI L = 0 ∧ spanB page pages prot = true := by
  unfold spanE
  split
  · exact ⟨fun h => absurd h (by assumption), fun h => absurd h.1 (by assumption)⟩
  · rename_i h
    split
    · exact ⟨fun _ => ⟨Decidable.not_not.1 h, by assumption⟩, fun _ => rfl⟩
    · exact ⟨fun h => by omega, fun h => absurd h.2 (by assumption)⟩
theorem map_board {L : List Ar} {page pages prot : Int} (hg : RiseF 1 L) (hs : 1 ≤ page ∧ page ≤ 255 ∧ 1 ≤ pages ∧ pages ≤ 256 - page ∧ 0 ≤ prot ∧ prot ≤ 3) :
    aUpto (layW (paint L) (1 + 2 * prot + 8) page (page + pages)) 255 = turnL L page (page + pages) [⟨page, pages, prot, true⟩] := by
  have hok : (⟨page, pages, prot, true⟩ : Ar).ok := by unfold Ar.ok; simp only; omega
  refine turn_areas (M := [⟨page, pages, prot, true⟩]) hg hs.1 (by omega) ⟨hok, Int.le_refl _, trivial⟩ (by unfold endOf endOf Ar.fin; simp) _ fun p => ?_
  unfold layW
  by_cases c : page ≤ p ∧ p < page + pages
  · rw [if_pos c, if_pos c, paint_cons_in (by unfold Ar.fin; exact c)]
    simp [Ar.mk']
  · rw [if_neg c, if_neg c]
theorem lay_mark {L : List Ar} {prot lo q : Int} (hg : RiseF 1 L) (hp : 0 ≤ prot ∧ prot ≤ 3) (z : Bool) (p : Int) : Mark (layW (paint L) (1 + 2 * prot + (if z then 8 else 0)) lo q p) := by
  unfold layW
  split
  · right; split <;> omega
  · exact mark_paint p hg
end Go.Proofs.Ytejnpppejalhfab
/- The contract of the reference's MapIn. -/
namespace Go.Proofs.Ytejnpppejalhfab
open Go.RowKit Go.Sort

theorem mapR_err {L : List Ar} {page pages prot : Int} (h : spanE L page pages prot ≠ 0) : mapR L page pages prot = ([], spanE L page pages prot) := by unfold mapR; rw [if_pos h]
theorem mapR_there {L : List Ar} {page pages prot q : Int} (h : spanE L page pages prot = 0) (hg : RiseF 1 L) (h1 : 1 ≤ page) (h2 : page ≤ q) (h3 : q < page + pages) (hz : paint L q ≠ 0) : mapR L page pages prot = ([], 5) := by
  unfold mapR
  rw [if_neg (fun k => k h), if_neg (fun k => hz ((mid_nil hg h1 (by omega)).1 k q h2 h3))]
theorem mapR_good {L : List Ar} {page pages prot : Int} (h : spanE L page pages prot = 0) (hg : RiseF 1 L) (h1 : 1 ≤ page) (h2 : 1 ≤ pages) (hz : ∀ x, page ≤ x → x < page + pages → paint L x = 0) : mapR L page pages prot = (turnL L page (page + pages) [⟨page, pages, prot, true⟩], 0) := by
  unfold mapR
  rw [if_neg (fun k => k h), if_pos ((mid_nil hg h1 (by omega)).2 hz)]
theorem res_err (w : World) {n : Int} {R : List Ar × Int} (h : R = ([], n)) {w' : World} (hb : Below w.heap.size w w') : ResPost R w (.returned (.tuple #[.slice none 0 0, .int .i64 n])) w' := by
  subst h
  exact ⟨_, rfl, World.ownsRow_nil _ _ _ _, hb⟩

end Go.Proofs.Ytejnpppejalhfab
/- The contract of the reference's UnmapIn. -/
namespace Go.Proofs.Ytejnpppejalhfab
open Go.RowKit Go.Sort


def unmapR (L : List Ar) (page pages : Int) : List Ar × Int :=
  if spanE L page pages 0 ≠ 0 then ([], spanE L page pages 0) else (turnL L page (page + pages) [], 0)
theorem unmap_board {L : List Ar} {page pages : Int} (hg : RiseF 1 L) (h1 : 1 ≤ page) (h2 : 1 ≤ pages) : aUpto (layW (paint L) 0 page (page + pages)) 255 = turnL L page (page + pages) [] := by
  refine turn_areas (M := []) hg h1 (by omega) trivial (by unfold endOf; omega) _ fun p => ?_
  unfold layW
  rfl
theorem lay_mark0 {L : List Ar} {lo q : Int} (hg : RiseF 1 L) (p : Int) : Mark (layW (paint L) 0 lo q p) := by
  unfold layW
  split
  · exact Or.inl rfl
  · exact mark_paint p hg

end Go.Proofs.Ytejnpppejalhfab
/- The contract of the reference's ProtectIn. -/
namespace Go.Proofs.Ytejnpppejalhfab
open Go.RowKit Go.Sort


/-- a board with pages from lo to q turned -/
def layF (base : Int → Int) (f : Int → Int) (lo q : Int) (x : Int) : Int := if lo ≤ x ∧ x < q then f (base x) else base x
theorem layF_start (base f : Int → Int) (lo : Int) : bdC (layF base f lo lo) = bdC base := bdC_ext fun p _ _ => by unfold layF; rw [if_neg (by omega)]
theorem layF_step (base f : Int → Int) (lo : Int) (q : Nat) (h : lo ≤ q) : (bdC (layF base f lo q)).set q (.int .i64 (f (base q))) = bdC (layF base f lo ((q : Int) + 1)) := by
  rw [bdC_set]
  refine bdC_ext fun p _ _ => ?_
  unfold layF
  by_cases e : p = q
  · rw [if_pos e, if_pos (by omega), e]
  · rw [if_neg e]
    by_cases c : lo ≤ p ∧ p < q
    · rw [if_pos c, if_pos (by omega)]
    · rw [if_neg c, if_neg (by omega)]
theorem layF_at (base f : Int → Int) (lo : Int) (q : Nat) (h : q < 256) : (bdC (layF base f lo q))[q]? = some (.int .i64 (base q)) := by
  rw [bdC_at _ _ h]; unfold layF; rw [if_neg (by omega)]

def protR (L : List Ar) (page pages prot : Int) : List Ar × Int :=
  if spanE L page pages prot ≠ 0 then ([], spanE L page pages prot)
  else if sumN (midL L page (page + pages)) < pages then ([], 6) else (turnL L page (page + pages) (setProt prot (midL L page (page + pages))), 0)
theorem prot_full {L : List Ar} {page pages : Int} (hg : RiseF 1 L) (h1 : 1 ≤ page) (h2 : 1 ≤ pages) : sumN (midL L page (page + pages)) ≤ pages ∧ (sumN (midL L page (page + pages)) = pages ↔ ∀ p, page ≤ p → p < page + pages → paint L p ≠ 0) := by
  obtain ⟨m1, m2, m3⟩ := mid_spec hg h1 (show page < page + pages by omega)
  obtain ⟨s1, s2⟩ := sumN_spec m1 m2 (by omega)
  refine ⟨by omega, ?_⟩
  rw [show page + pages - page = pages by omega] at s2
  rw [s2]
  constructor
  · intro h p g1 g2
    have := h p g1 g2
    rwa [m3, if_pos ⟨g1, g2⟩] at this
  · intro h p g1 g2
    rw [m3, if_pos ⟨g1, g2⟩]
    exact h p g1 g2
theorem prot_board {L : List Ar} {page pages prot : Int} (hg : RiseF 1 L) (h1 : 1 ≤ page) (h2 : 1 ≤ pages) (hp : 0 ≤ prot ∧ prot ≤ 3) :
    aUpto (layF (paint L) (reMark prot) page (page + pages)) 255 = turnL L page (page + pages) (setProt prot (midL L page (page + pages))) := by
  obtain ⟨m1, m2, m3⟩ := mid_spec hg h1 (show page < page + pages by omega)
  obtain ⟨s1, s2, s3⟩ := setProt_spec prot hp m1
  refine turn_areas hg h1 (by omega) s1 (by rw [s2]; exact m2) _ fun p => ?_
  unfold layF
  by_cases c : page ≤ p ∧ p < page + pages
  · rw [if_pos c, if_pos c, s3, m3, if_pos c]
  · rw [if_neg c, if_neg c]
theorem layF_mark {L : List Ar} {prot lo q : Int} (hg : RiseF 1 L) (hp : 0 ≤ prot ∧ prot ≤ 3) (p : Int) : Mark (layF (paint L) (reMark prot) lo q p) := by
  unfold layF
  split
  · unfold reMark
    split
    · exact Or.inl rfl
    · right; split <;> omega
  · exact mark_paint p hg
theorem reMark_mark {prot b : Int} (h : b ≠ 0) : reMark prot b = 1 + 2 * prot + (if decide (8 < b) = true then 8 else 0) := by
  unfold reMark
  rw [if_neg h]
  simp

end Go.Proofs.Ytejnpppejalhfab
/- The contracts of package area in the words of the step calculus; the closures; turned. -/
namespace Go.Proofs.Ytejnpppejalhfab
open Go.RowKit Go.Sort

theorem arC_one (L : List Ar) : ∀ r ∈ L.map arC, r.all (·.oneCell') = true := fun r hr => by
  obtain ⟨a, _, rfl⟩ := List.mem_map.1 hr; rfl
theorem arC_len4 (L : List Ar) : ∀ r ∈ L.map arC, r.length = 4 := fun r hr => by
  obtain ⟨a, _, rfl⟩ := List.mem_map.1 hr; rfl
theorem flat_map (L : List Ar) : (L.map arC).flatten = flat L := by unfold flat; rw [List.flatMap_def]
theorem sl_of_ar {w : World} {v : Value} {L : List Ar} (h : SlAr w v L) : Sl nF w 4 v (L.map arC) := by
  rcases h with ⟨p, c, rfl, rfl⟩ | ⟨b, off, cap, rfl, h2, h3, h4, h5⟩
  · exact Or.inl ⟨_, _, rfl, rfl⟩
  · refine Or.inr ⟨b, off, cap, by rw [List.length_map], by rwa [List.length_map], h4, ⟨h2, id, arC_len4 L, arC_one L, fun k r hk j u hj => ?_⟩⟩
    rw [List.getElem?_map] at hk
    obtain ⟨a, ha, rfl⟩ := Option.map_eq_some_iff.1 hk
    obtain ⟨c0, c1, c2, c3⟩ := h5 k a ha
    unfold arC at hj
    match j, hj with
    | 0, hj => cases hj; exact c0
    | 1, hj => cases hj; exact c1
    | 2, hj => cases hj; exact c2
    | 3, hj => cases hj; exact c3
theorem ar_of_sl {w : World} {v : Value} {L : List Ar} (h : Sl nF w 4 v (L.map arC)) : SlAr w v L := by
  rcases h with ⟨p, c, rfl, h⟩ | ⟨b, off, cap, rfl, h3, h4, hr⟩
  · exact Or.inl ⟨_, _, rfl, by simpa using h⟩
  · rw [List.length_map] at h3 ⊢
    refine Or.inr ⟨b, off, cap, rfl, hr.lt, h3, h4, fun i a ha => ?_⟩
    have hk : (L.map arC)[i]? = some (arC a) := by simp [ha]
    exact ⟨hr.cells i _ hk 0 _ rfl, hr.cells i _ hk 1 _ rfl, hr.cells i _ hk 2 _ rfl, hr.cells i _ hk 3 _ rfl⟩
theorem row_of_own {w w' : World} {v : Value} {L : List Ar} (h : w'.ownsRow w.heap.size 131 4 v L.length (flat L)) : (Asr.row 131 4 v (L.map arC)).holds w' ∧ ∀ k, (Asr.row 131 4 v (L.map arC)).fp = some k → w.heap.size ≤ k := by
  refine ⟨⟨?_, arC_len4 L, arC_one L⟩, fun k hk => (h.lt k hk).1⟩
  rw [List.length_map, flat_map]
  refine ⟨h.1, ?_⟩
  rcases h.2 with hn | ⟨g, cap, cur, rfl, hb, rest⟩
  · exact Or.inl hn
  · exact Or.inr ⟨g, cap, cur, rfl, Nat.zero_le _, rest⟩
theorem st_of_own {w w' : World} {v : Value} {L : List Ar} (h : OwnAr w.heap.size w' v L) (hb : Below w.heap.size w w') : St nF w w' [.row 131 4 v (L.map arC)] := by
  obtain ⟨a1, a2⟩ := row_of_own h
  refine ⟨hb.os, hb.tape, hb.output, hb.size, fun k hk _ => hb.block k hk, ?_, ?_, List.Pairwise.cons (by simp) List.Pairwise.nil⟩
  · intro A hA; simp at hA; subst hA; exact a1
  · intro A hA k hk; simp at hA; subst hA; exact Or.inl (a2 k hk)
theorem check_fn {v : Value} {L : List Ar} {w : World} (h : Sl nF w 4 v (L.map arC)) : Fn Try.prog 62 [v] w (RBf (.int .i64 (checkI L)) w) :=
  Fn.of_rb ⟨Try.func62, by kernel_rfl, by kernel_rfl⟩ (check_sl (ar_of_sl h))
theorem span_fn (page pages prot : Int) (w : World) : Fn Try.prog 106 [.int .i64 page, .int .i64 pages, .int .i64 prot] w (fun v' w' => v' = .bool (spanB page pages prot) ∧ w' = w) :=
  Fn.of_same ⟨Try.func106, by kernel_rfl, by kernel_rfl⟩ (span_any page pages prot w)
def turnR (L : List Ar) (page pages prot : Int) (C : List Ar → List Ar × Int) : List Ar × Int :=
  if spanE L page pages prot ≠ 0 then ([], spanE L page pages prot)
  else if (C (midL L page (page + pages))).2 ≠ 0 then ([], (C (midL L page (page + pages))).2)
  else (turnL L page (page + pages) (C (midL L page (page + pages))).1, 0)
theorem map_turn (L : List Ar) (page pages prot : Int) : turnR L page pages prot (fun M => if M = [] then ([⟨page, pages, prot, true⟩], 0) else ([], 5)) = mapR L page pages prot := by
  unfold turnR mapR
  by_cases h : midL L page (page + pages) = [] <;> simp [h]
theorem unmap_turn (L : List Ar) (page pages : Int) : turnR L page pages 0 (fun _ => ([], 0)) = unmapR L page pages := by
  unfold turnR unmapR
  simp
theorem prot_turn (L : List Ar) (page pages prot : Int) : turnR L page pages prot (fun M => if sumN M < pages then ([], 6) else (setProt prot M, 0)) = protR L page pages prot := by
  unfold turnR protR
  by_cases h : sumN (midL L page (page + pages)) < pages <;> simp [h]
/-- what Map, Unmap, Protect hand back -/
def ResF (R : List Ar × Int) (w : World) (v : Value) (w' : World) : Prop := ∃ u, v = .tuple #[u, .int .i64 R.2] ∧ St nF w w' [.row 131 4 u (R.1.map arC)]
/-- what a closure of turned does: it may write into the row that it gets -/
def ClF (M R1 : List Ar) (R2 : Int) (w1 : World) (vm : Value) (v : Value) (w2 : World) : Prop := ∃ u, v = .tuple #[u, .int .i64 R2] ∧ St (fps [.row 131 4 vm (M.map arC)]) w1 w2 [.row 131 4 u (R1.map arC)]
theorem turn_rise {l M : List Ar} {q q' : Int} (h : RiseF 1 l) (hq : 1 ≤ q) (hqq : q < q') (hM : RiseF q M) (hMe : endOf q M ≤ q') : RiseF 1 (cutA l q ++ (M ++ cutB (cutB l q) q')) := by
  obtain ⟨a1, a2, a3⟩ := cutA_spec q h
  rw [show min 1 q = 1 by omega] at a2
  obtain ⟨b1, b2⟩ := cutB_spec q hq h
  rw [show max 1 q = q by omega] at b1
  obtain ⟨c1, c2⟩ := cutB_spec q' (by omega) b1
  rw [show max q q' = q' by omega] at c1
  exact riseF_append.2 ⟨a1, riseF_append.2 ⟨riseF_mono hM a2, riseF_mono c1 (endOf_le hMe (by omega))⟩⟩
theorem midL_len (L : List Ar) (q q' : Int) : (midL L q q').length ≤ L.length := by
  unfold midL cutA cutB
  exact Nat.le_trans (List.length_filterMap_le _ _) (List.length_filterMap_le _ _)
theorem turned_facts {L : List Ar} {page pages prot : Int} (h : checkI L = 0) (hs : spanB page pages prot = true) :
    RiseF 1 L ∧ L.length ≤ 255 ∧ 1 ≤ page ∧ page ≤ 255 ∧ 1 ≤ pages ∧ page + pages ≤ 256 ∧ (∀ (i : Nat) (a : Ar), L[i]? = some a → a.ok) ∧ (cutB L page).length ≤ 255 ∧ (∀ (i : Nat) (a : Ar), (cutB L page)[i]? = some a → a.ok) ∧ (cutA L page).length ≤ 255 ∧ (cutB (cutB L page) (page + pages)).length ≤ 255 := by
  obtain ⟨hlen, hgood⟩ := checkI_zero.1 h
  obtain ⟨p1, p2, p3, p4, p5, p6⟩ := (spanB_iff page pages prot).1 hs
  have hB := (cutB_spec page p1 hgood.1).1
  have hl : (cutB L page).length ≤ 255 := Nat.le_trans (List.length_filterMap_le _ _) hlen
  exact ⟨hgood.1, hlen, p1, p2, p3, by omega, good_ok hgood, hl, rise_ok hB, Nat.le_trans (List.length_filterMap_le _ _) hlen, Nat.le_trans (List.length_filterMap_le _ _) hl⟩
end Go.Proofs.Ytejnpppejalhfab
/- area.Map, Unmap, Protect, by the step calculus. -/
namespace Go.Proofs.Ytejnpppejalhfab
open Go.RowKit Go.Sort

def prM (prot : Int) (M : List Ar) (i : Nat) : List Ar := setProt prot (M.take i) ++ M.drop i
theorem prM_at {prot : Int} {M : List Ar} {i : Nat} {a : Ar} (ha : M[i]? = some a) : ((prM prot M i).map arC)[i]? = some (arC a) := by
  have hi := (List.getElem?_eq_some_iff.1 ha).1
  unfold prM setProt
  rw [List.getElem?_map, List.getElem?_append_right (by simp; omega)]
  simp [show i - min i M.length = 0 from by omega, ha]
theorem prM_set {prot : Int} {M : List Ar} {i : Nat} {a : Ar} (ha : M[i]? = some a) : ((prM prot M i).map arC).set i (setL (arC a) 2 [.int .i64 prot]) = (prM prot M (i + 1)).map arC := by
  have hi := (List.getElem?_eq_some_iff.1 ha).1
  have h1 : M.drop i = a :: M.drop (i + 1) := by
    rw [List.getElem?_eq_getElem hi] at ha
    rw [List.drop_eq_getElem_cons hi, Option.some.inj ha]
  unfold prM setProt
  rw [take_snocA ha, h1]
  have h2 : (List.map arC (List.map (fun a => ({ a with prot := prot } : Ar)) (List.take i M))).length = i := by simp; omega
  rw [List.map_append, List.set_append_right _ _ (by omega), h2]
  simp [arC, setL]
theorem sumN_bd {M : List Ar} (hok : ∀ (i : Nat) (a : Ar), M[i]? = some a → a.ok) (i : Nat) : 0 ≤ sumN (M.take i) ∧ sumN (M.take i) ≤ 255 * (i : Int) := by
  induction i with
  | zero => simp [sumN]
  | succ i ih =>
    cases ha : M[i]? with
    | none =>
      have : M.length ≤ i := by simpa using ha
      rw [List.take_of_length_le (by omega)] at ih ⊢
      omega
    | some a =>
      rw [sumN_take ha]
      have := hok i a ha
      unfold Ar.ok at this
      omega
theorem mid_ok {L : List Ar} {page pages prot : Int} (h : checkI L = 0) (hs : spanB page pages prot = true) : RiseF page (midL L page (page + pages)) ∧ endOf page (midL L page (page + pages)) ≤ page + pages ∧ (midL L page (page + pages)).length ≤ 255 ∧ ∀ (i : Nat) (a : Ar), (midL L page (page + pages))[i]? = some a → a.ok := by
  obtain ⟨h1, h2, h3, h4, h5, _⟩ := turned_facts h hs
  obtain ⟨m1, m2, _⟩ := mid_spec (q := page) (q' := page + pages) h1 h3 (by omega)
  exact ⟨m1, m2, Nat.le_trans (midL_len _ _ _) h2, rise_ok m1⟩
def Cun (_ : List Ar) : List Ar × Int := ([], 0)
def Cmap (page pages prot : Int) (M : List Ar) : List Ar × Int := if M = [] then ([⟨page, pages, prot, true⟩], 0) else ([], 5)
def Cpr (pages prot : Int) (M : List Ar) : List Ar × Int := if sumN M < pages then ([], 6) else (setProt prot M, 0)
end Go.Proofs.Ytejnpppejalhfab
/- The contract of area.Find. -/
namespace Go.Proofs.Ytejnpppejalhfab
open Go.RowKit Go.Sort

set_option maxRecDepth 100000 in
set_option maxHeartbeats 4000000 in
theorem bs_nil (p : Option Addr) (c : Nat) (page : Int) (w : World) : Calls Try.prog 109 #[.slice p 0 c, .int .i64 page, .func (.func 110) #[] #[]] w (BsPost [] page w) := by
  go_enter Try.func109, Try.ntmps109
  go_wp2
  go_loopw [9, 10] (fun vi vj wr => vi = .int .i64 0 ∧ vj = .int .i64 0 ∧ wr = w) (fun _ _ _ => 0)
  case atStart => exact ⟨rfl, rfl, rfl⟩
  case round =>
    obtain ⟨rfl, rfl, rfl⟩ := hrel
    go_wp2
    go_ret2
    exact ⟨0, by simp, rfl, (by repeat ((with_reducible exact Below.refl _ _))), bs_start [] page⟩
theorem bs_sl {v : Value} {L : List Ar} {w : World} (page : Int) (h : SlAr w v L) : Calls Try.prog 109 #[v, .int .i64 page, .func (.func 110) #[] #[]] w (BsPost L page w) := by
  rcases h with ⟨p, c, rfl, rfl⟩ | ⟨b, off, cap, rfl, h2, h3, h4, h5⟩
  · exact bs_nil p c page w
  · exact bs_any b off cap page h2 h3 h4 h5

theorem holds_not {page : Int} {a : Ar} (h : a.fin ≤ page ∨ page < a.pg) : holdsB page a = false := by unfold holdsB; simp; omega
theorem find_end {L : List Ar} {page : Int} (hg : Good L) (hI : BsInv L page L.length L.length) : findA L page = none :=
  findA_none fun j b hj hb => holds_not (Or.inl ((hI hg).1 j b hj hb))
theorem find_gap {L : List Ar} {page : Int} {i : Nat} {a : Ar} (hg : Good L) (hI : BsInv L page i i) (ha : L[i]? = some a) (h : page < a.pg) : findA L page = none :=
  findA_none fun j b hj hb => by
    rcases Nat.lt_or_ge j i with h1 | h1
    · exact holds_not (Or.inl ((hI hg).1 j b h1 hb))
    · rcases Nat.lt_or_eq_of_le h1 with h2 | h2
      · have := rise_fin hg h2 ha hb
        have hk := good_ok hg i a ha
        unfold Ar.ok at hk
        exact holds_not (Or.inr (by unfold Ar.fin at this; omega))
      · subst h2; rw [ha] at hb; cases hb; exact holds_not (Or.inr h)
theorem find_hit {L : List Ar} {page : Int} {i : Nat} {a : Ar} (hg : Good L) (hI : BsInv L page i i) (ha : L[i]? = some a) (h : a.pg ≤ page) : findA L page = some a :=
  findA_some (fun j b hj hb => holds_not (Or.inl ((hI hg).1 j b hj hb))) ha (by unfold holdsB; simp; exact ⟨h, (hI hg).2 i a (Nat.le_refl _) ha⟩)
/-- what Find answers -/
def findI (L : List Ar) (page : Int) : Option Ar := if checkI L = 0 then findA L page else none

set_option maxRecDepth 100000 in
set_option maxHeartbeats 4000000 in
theorem find_any {v : Value} {L : List Ar} {w : World} (page : Int) (h : SlAr w v L) : Calls Try.prog 64 #[v, .int .i64 page] w (RB (FindV (findI L page)) w) := by
  have HC := hid (fun w' (hb : Below w.heap.size w w') => check_sl (h.grown hb))
  have HS := hid (fun w' (hb : Below w.heap.size w w') => bs_sl page (h.grown hb))
  have hsz : (Try.prog.info? 131).map (·.size) = some 4 := by kernel_rfl
  have Hsz := hid hsz; clear hsz
  have hbw := Below.refl w.heap.size w
  go_enter Try.func64, Try.ntmps64
  go_wp2_with (first | ((with_reducible refine at_op 4 ?_); refine wpList_new_row' rfl (some 4) rfl (zl4) 131 (by kernel_rfl) w.heap.size w hbw hbw.size ?_; intro g4 wn4 hL4 hB4 hbn hkn hnn; skip; clear hbw hkn hnn; have hbw := hbn; clear hbn) | (go_at_call 109; (with_reducible refine (HS.out _ hbw).mono ?_); rintro e wc ⟨i, hi, rfl, hbc, hI⟩; have hL4 := hL4.grown hbc hL4.lt; have hbn := bt hbw hbc; clear hbw hbc; have hbw := hbn; clear hbn))
  by_cases hc : checkI L = 0
  · obtain ⟨_, hg⟩ := checkI_zero.1 hc
    have HQ : Hid (findI L page = findA L page) := by refine hid ?_; unfold findI; rw [if_pos hc]
    rw [hc] at HC
    clear hc
    by_cases hlt : i < L.length
    · obtain ⟨a, ha⟩ : ∃ a, L[i]? = some a := ⟨L[i], by simp [hlt]⟩
      rcases h with ⟨p, c, rfl, rfl⟩ | ⟨b, off, cap, rfl, hbl, hcap, hmax, hcells⟩
      · simp at hlt
      have HL := hid hcells
      have hne : ((i : Int) == L.length) = false := by rw [beq_eq_false_iff_ne]; omega
      have hli : (i : Int) < L.length := Int.ofNat_lt.2 hlt
      clear hcells hmax
      by_cases hp : page < a.pg
      · have HX := hid (find_gap hg hI ha hp)
        clear hI
        go_wp2_with (first | ((go_at_call 62; (with_reducible refine (HC.out _ hbw).mono ?_); rintro e wk ⟨rfl, hbc⟩); have hL4 := hL4.grown hbc hL4.lt; have hbn := bt hbw hbc; clear hbw hbc; have hbw := hbn; clear hbn; obtain ⟨c0, c1, c2, c3⟩ := (HL.out i a ha).grown hbw hbl) | ((with_reducible refine at_store 4 ?_); refine wpList_put_row rfl 131 (.tmp 4) (.tmp 32) rfl rfl g4 (zl4) (zl4) rfl rfl hL4 Hsz.out rfl rfl w.heap.size w hbw hB4 ?_; intro wp4 hLn hbn hon; skip; clear hL4 hbw hon; have hL4 := hLn; have hbw := hbn; clear hLn hbn))
        refine bodyPost_ret (v := .tuple #[.agg (zl4).toArray, .bool false]) (results_hold2 rfl _ g4 (zl4) (.bool false) _ rfl rfl hL4 Try.underlying131 rfl Hsz.out) rfl ⟨by rw [HQ.out, HX.out]; rfl, hbw⟩
      · have HX := hid (find_hit hg hI ha (by omega))
        clear hI
        have hp' : decide (page < a.pg) = false := by simpa using hp
        go_wp2_with (first | ((go_at_call 62; (with_reducible refine (HC.out _ hbw).mono ?_); rintro e wk ⟨rfl, hbc⟩); have hL4 := hL4.grown hbc hL4.lt; have hbn := bt hbw hbc; clear hbw hbc; have hbw := hbn; clear hbn; obtain ⟨c0, c1, c2, c3⟩ := (HL.out i a ha).grown hbw hbl) | ((with_reducible refine at_store 4 ?_); refine wpList_put_row rfl 131 (.tmp 4) (.tmp 36) rfl rfl g4 ([.int .i64 a.pg, .int .i64 a.n, .int .i64 a.prot, .bool a.z]) (zl4) rfl rfl hL4 Hsz.out rfl rfl w.heap.size w hbw hB4 ?_; intro wp4 hLn hbn hon; skip; clear hL4 hbw hon; have hL4 := hLn; have hbw := hbn; clear hLn hbn))
        refine bodyPost_ret (v := .tuple #[.agg ([.int .i64 a.pg, .int .i64 a.n, .int .i64 a.prot, .bool a.z]).toArray, .bool true]) (results_hold2 rfl _ g4 ([.int .i64 a.pg, .int .i64 a.n, .int .i64 a.prot, .bool a.z]) (.bool true) _ rfl rfl hL4 Try.underlying131 rfl Hsz.out) rfl ⟨by rw [HQ.out, HX.out]; rfl, hbw⟩
    · obtain rfl : i = L.length := by omega
      have HX := hid (find_end hg hI)
      have hlen : ∃ n : Nat, n = L.length := ⟨_, rfl⟩
      clear hI
      rcases h with ⟨p, c, rfl, rfl⟩ | ⟨b, off, cap, rfl, hbl, hcap, hmax, hcells⟩
      · go_wp2_with (first | ((go_at_call 62; (with_reducible refine (HC.out _ hbw).mono ?_); rintro e wk ⟨rfl, hbc⟩); have hL4 := hL4.grown hbc hL4.lt; have hbn := bt hbw hbc; clear hbw hbc; have hbw := hbn; clear hbn; skip) | ((with_reducible refine at_store 4 ?_); refine wpList_put_row rfl 131 (.tmp 4) (.tmp 32) rfl rfl g4 (zl4) (zl4) rfl rfl hL4 Hsz.out rfl rfl w.heap.size w hbw hB4 ?_; intro wp4 hLn hbn hon; skip; clear hL4 hbw hon; have hL4 := hLn; have hbw := hbn; clear hLn hbn))
        refine bodyPost_ret (v := .tuple #[.agg (zl4).toArray, .bool false]) (results_hold2 rfl _ g4 (zl4) (.bool false) _ rfl rfl hL4 Try.underlying131 rfl Hsz.out) rfl ⟨by rw [HQ.out, HX.out]; rfl, hbw⟩
      · clear hcells hmax
        go_wp2_with (first | ((go_at_call 62; (with_reducible refine (HC.out _ hbw).mono ?_); rintro e wk ⟨rfl, hbc⟩); have hL4 := hL4.grown hbc hL4.lt; have hbn := bt hbw hbc; clear hbw hbc; have hbw := hbn; clear hbn; skip) | ((with_reducible refine at_store 4 ?_); refine wpList_put_row rfl 131 (.tmp 4) (.tmp 32) rfl rfl g4 (zl4) (zl4) rfl rfl hL4 Hsz.out rfl rfl w.heap.size w hbw hB4 ?_; intro wp4 hLn hbn hon; skip; clear hL4 hbw hon; have hL4 := hLn; have hbw := hbn; clear hLn hbn))
        refine bodyPost_ret (v := .tuple #[.agg (zl4).toArray, .bool false]) (results_hold2 rfl _ g4 (zl4) (.bool false) _ rfl rfl hL4 Try.underlying131 rfl Hsz.out) rfl ⟨by rw [HQ.out, HX.out]; rfl, hbw⟩
  · have HQ : Hid (findI L page = none) := by refine hid ?_; unfold findI; rw [if_neg hc]
    have hn : (checkI L != 0) = true := by rw [bne_iff_ne]; exact hc
    clear hc
    generalize checkI L = ck at *
    go_wp2_with (first | ((go_at_call 62; (with_reducible refine (HC.out _ hbw).mono ?_); rintro e wk ⟨rfl, hbc⟩); have hL4 := hL4.grown hbc hL4.lt; have hbn := bt hbw hbc; clear hbw hbc; have hbw := hbn; clear hbn; skip) | ((with_reducible refine at_store 4 ?_); refine wpList_put_row rfl 131 (.tmp 4) (.tmp 32) rfl rfl g4 (zl4) (zl4) rfl rfl hL4 Hsz.out rfl rfl w.heap.size w hbw hB4 ?_; intro wp4 hLn hbn hon; skip; clear hL4 hbw hon; have hL4 := hLn; have hbw := hbn; clear hLn hbn))
    refine bodyPost_ret (v := .tuple #[.agg (zl4).toArray, .bool false]) (results_hold2 rfl _ g4 (zl4) (.bool false) _ rfl rfl hL4 Try.underlying131 rfl Hsz.out) rfl ⟨by rw [HQ.out]; rfl, hbw⟩
end Go.Proofs.Ytejnpppejalhfab
/- The reference's contracts for areas in the words of the step calculus. -/
namespace Go.Proofs.Ytejnpppejalhfab
open Go.RowKit Go.Sort

theorem resF_of {R : List Ar × Int} {w : World} {e : Ending} {w' : World} (h : ResPost R w e w') : ∃ v, e = .returned v ∧ ResF R w v w' := by
  obtain ⟨v, he, ho, hb⟩ := h
  exact ⟨_, he, v, rfl, st_of_own ho hb⟩
theorem eqArea (a b : Ar) : EqIs Try.prog 131 (arC a) (arC b) (decide (a = b)) := by
  refine ⟨fun w => ?_, by kernel_rfl⟩
  cases a
  cases b
  unfold arC
  simp [go_sem]
  repeat' split
  all_goals simp_all
theorem same_fn {va vb : Value} {A B : List Ar} {w : World} (ha : Sl nF w 4 va (A.map arC)) (hb : Sl nF w 4 vb (B.map arC)) : Fn Try.prog 56 [va, vb] w (RBf (.bool (decide (A = B))) w) :=
  Fn.of_rb ⟨Try.func56, by kernel_rfl, by kernel_rfl⟩ (same_sl (ar_of_sl ha) (ar_of_sl hb))
theorem CheckAreas_fn {v : Value} {L : List Ar} {w : World} (h : Sl nF w 4 v (L.map arC)) : Fn Try.prog 65 [v] w (RBf (.int .i64 (checkI L)) w) :=
  Fn.of_rb ⟨Try.func65, by kernel_rfl, by kernel_rfl⟩ (checkAreas_sl (ar_of_sl h))
theorem Pages_fn {v : Value} {L : List Ar} {w : World} (h : Sl nF w 4 v (L.map arC)) (hc : checkI L = 0) : Fn Try.prog 66 [v] w (RBf (.int .i64 (sumN L)) w) :=
  Fn.of_rb ⟨Try.func66, by kernel_rfl, by kernel_rfl⟩ (pages_good (ar_of_sl h) hc)
theorem AreaAt_fn {v : Value} {L : List Ar} {w : World} (page : Int) (h : Sl nF w 4 v (L.map arC)) (hok : ∀ (i : Nat) (a : Ar), L[i]? = some a → a.ok) : Fn Try.prog 68 [v, .int .i64 page] w (RBf (FindV (findA L page)) w) :=
  Fn.of_rb ⟨Try.func68, by kernel_rfl, by kernel_rfl⟩ (areaAt_any page (ar_of_sl h) hok)
theorem Find_fn {v : Value} {L : List Ar} {w : World} (page : Int) (h : Sl nF w 4 v (L.map arC)) : Fn Try.prog 64 [v, .int .i64 page] w (RBf (FindV (findI L page)) w) :=
  Fn.of_rb ⟨Try.func64, by kernel_rfl, by kernel_rfl⟩ (find_any page (ar_of_sl h))
theorem Total_fn {v : Value} {L : List Ar} {w : World} (h : Sl nF w 4 v (L.map arC)) : Fn Try.prog 63 [v] w (RBf (.int .i64 (if checkI L = 0 then sumN L else 0)) w) := by
  by_cases hc : checkI L = 0
  · rw [if_pos hc]
    exact Fn.of_rb ⟨Try.func63, by kernel_rfl, by kernel_rfl⟩ (total_good (ar_of_sl h) hc)
  · rw [if_neg hc]
    exact Fn.of_rb ⟨Try.func63, by kernel_rfl, by kernel_rfl⟩ (total_bad (ar_of_sl h) hc)
theorem Sl.nil (w : World) (sz : Nat) : Sl nF w sz (.slice none 0 0) [] := Or.inl ⟨_, _, rfl, rfl⟩
def L1 : List Ar := [⟨3, 4, 1, true⟩]
def L2 : List Ar := [⟨3, 1, 1, true⟩, ⟨4, 1, 0, true⟩, ⟨5, 2, 1, true⟩]
def L3 : List Ar := [⟨3, 1, 1, true⟩, ⟨4, 1, 0, true⟩]
theorem beg4 {w : World} {v : Value} (h : Sl nF w 4 v (L3.map arC)) : Fn Try.prog 64 [v, .int .i64 4] w (RBf (.tuple #[.agg (arC ⟨4, 1, 0, true⟩).toArray, .bool true]) w) := by
  have := Find_fn 4 h
  rwa [show findI L3 4 = some ⟨4, 1, 0, true⟩ by decide +kernel] at this
theorem beg5 {w : World} {v : Value} (h : Sl nF w 4 v (L3.map arC)) : Fn Try.prog 63 [v] w (RBf (.int .i64 2) w) := by
  have := Total_fn h
  rwa [show (if checkI L3 = 0 then sumN L3 else 0) = 2 by decide +kernel] at this
end Go.Proofs.Ytejnpppejalhfab
/- What AreaKeeps says, in plain Lean. -/
namespace Go.Proofs.Ytejnpppejalhfab
open Go.RowKit Go.Sort

theorem rise_len {L : List Ar} : ∀ {e : Int}, RiseF e L → L ≠ [] → e + L.length ≤ 256 := by
  induction L with
  | nil => intro e _ h; exact (h rfl).elim
  | cons a L ih =>
    intro e h _
    obtain ⟨h1, h2, h3⟩ := h
    unfold Ar.ok at h1
    have hf : a.fin = a.pg + a.n := rfl
    cases L with
    | nil => simp; omega
    | cons b L =>
      have := ih h3 (by simp)
      simp only [List.length_cons] at this ⊢
      omega
theorem check_good {L : List Ar} (h : Good L) : checkI L = 0 := by
  refine checkI_zero.2 ⟨?_, h⟩
  by_cases e : L = []
  · subst e; simp
  · have := rise_len h.1 e
    omega
def markO : Option Ar → Int
  | none => 0
  | some a => a.mk'
theorem paint_find {L : List Ar} (p : Int) : ∀ {e : Int}, RiseF e L → paint L p = markO (findA L p) := by
  induction L with
  | nil => intro e _; rfl
  | cons a L ih =>
    intro e h
    obtain ⟨h1, h2, h3⟩ := h
    unfold findA at ih ⊢
    rw [List.find?_cons]
    by_cases hin : a.pg ≤ p ∧ p < a.fin
    · rw [paint_cons_in hin]
      have : holdsB p a = true := by unfold holdsB; simp; exact hin
      rw [this]
      rfl
    · rw [paint_cons_out hin]
      have : holdsB p a = false := by unfold holdsB; simp; omega
      rw [this]
      exact ih h3
theorem find_ok {L : List Ar} {p : Int} {a : Ar} (h : RiseF 1 L) (hf : findA L p = some a) : a.ok := by
  unfold findA at hf
  obtain ⟨i, hi⟩ := List.mem_iff_getElem?.1 (List.mem_of_find?_eq_some hf)
  exact rise_ok h i a hi
/-- what the mark of a page tells of what Find answers -/
theorem find_mark {L M : List Ar} {p : Int} (hL : Good L) (hM : Good M) (h : paint L p = paint M p) : (findA L p).isSome = (findA M p).isSome ∧ ((findA L p).getD zeroAr).prot = ((findA M p).getD zeroAr).prot ∧ ((findA L p).getD zeroAr).z = ((findA M p).getD zeroAr).z := by
  rw [paint_find p hL.1, paint_find p hM.1] at h
  cases h1 : findA L p with
  | none =>
    cases h2 : findA M p with
    | none => exact ⟨rfl, rfl, rfl⟩
    | some b => rw [h1, h2] at h; have := mk_pos (find_ok hM.1 h2); unfold markO at h; simp only at h; omega
  | some a =>
    cases h2 : findA M p with
    | none => rw [h1, h2] at h; have := mk_pos (find_ok hL.1 h1); unfold markO at h; simp only at h; omega
    | some b =>
      rw [h1, h2] at h
      obtain ⟨e1, e2⟩ := mk_inj (find_ok hL.1 h1) (find_ok hM.1 h2) h
      exact ⟨rfl, e1, e2⟩
theorem find_zero {L : List Ar} {p : Int} (hL : Good L) (h : paint L p = 0) : findA L p = none := by
  rw [paint_find p hL.1] at h
  cases h1 : findA L p with
  | none => rfl
  | some a => rw [h1] at h; have := mk_pos (find_ok hL.1 h1); unfold markO at h; simp only at h; omega
theorem find_some {L : List Ar} {p prot : Int} {z : Bool} (hL : Good L) (hp : 0 ≤ prot ∧ prot ≤ 3) (h : paint L p = 1 + 2 * prot + (if z then 8 else 0)) : ∃ a, findA L p = some a ∧ a.prot = prot ∧ a.z = z := by
  rw [paint_find p hL.1] at h
  cases h1 : findA L p with
  | none => rw [h1] at h; unfold markO at h; simp only at h; split at h <;> omega
  | some a =>
    rw [h1] at h
    have h' : a.mk' = (⟨1, 1, prot, z⟩ : Ar).mk' := h
    obtain ⟨e1, e2⟩ := mk_inj (find_ok hL.1 h1) (by unfold Ar.ok; simp only; omega) h'
    exact ⟨a, rfl, e1, e2⟩
/-- of what comes, if there is no error -/
structure Kept (L R : List Ar) (page pages p : Int) (inn : Option Ar → Prop) : Prop where
  good : checkI R = 0
  out : ¬ (page ≤ p ∧ p - page < pages) → (findI R p).isSome = (findI L p).isSome ∧ ((findI R p).getD zeroAr).prot = ((findI L p).getD zeroAr).prot ∧ ((findI R p).getD zeroAr).z = ((findI L p).getD zeroAr).z
  ins : page ≤ p ∧ p - page < pages → inn (findI R p)
theorem findI_good {L : List Ar} {p : Int} (h : checkI L = 0) : findI L p = findA L p := if_pos h
theorem kept_of {L M : List Ar} {page pages p : Int} {inn : Option Ar → Prop} (hc : checkI L = 0) (h1 : 1 ≤ page) (h2 : 1 ≤ pages) (hM : RiseF page M) (hMe : endOf page M ≤ page + pages)
    (hin : page ≤ p ∧ p - page < pages → ∀ R, Good R → paint R p = paint M p → inn (findA R p)) : Kept L (turnL L page (page + pages) M) page pages p inn := by
  have hg := (checkI_zero.1 hc).2
  obtain ⟨g1, g2⟩ := turn_spec hg.1 h1 (by omega) hM hMe
  have hcr := check_good g1
  refine ⟨hcr, fun h => ?_, fun h => ?_⟩
  · rw [findI_good hcr, findI_good hc]
    exact find_mark g1 hg (by rw [g2 p, if_neg (by omega)])
  · rw [findI_good hcr]
    exact hin h _ g1 (by rw [g2 p, if_pos (by omega)])
theorem spanE_bits {L : List Ar} {page pages prot : Int} (h : spanE L page pages prot = 0) : checkI L = 0 ∧ 1 ≤ page ∧ page ≤ 255 ∧ 1 ≤ pages ∧ pages ≤ 256 - page ∧ 0 ≤ prot ∧ prot ≤ 3 := by
  obtain ⟨h1, h2⟩ := spanE_zero.1 h
  exact ⟨h1, (spanB_iff page pages prot).1 h2⟩
theorem keep_map {L : List Ar} {page pages prot : Int} (p : Int) (h : (mapR L page pages prot).2 = 0) : Kept L (mapR L page pages prot).1 page pages p (fun o => findI L p = none ∧ ∃ a, o = some a ∧ a.prot = prot ∧ a.z = true) := by
  unfold mapR at h ⊢
  by_cases hs : spanE L page pages prot = 0
  · rw [if_neg (fun k => k hs)] at h ⊢
    by_cases hm : midL L page (page + pages) = []
    · rw [if_pos hm]
      obtain ⟨hc, p1, p2, p3, p4, p5, p6⟩ := spanE_bits hs
      have hg := (checkI_zero.1 hc).2
      refine kept_of hc p1 p3 ⟨⟨p1, p2, p3, by simp only; omega, p5, p6⟩, Int.le_refl _, trivial⟩ (by simp [endOf, Ar.fin]) (fun hin R hR hpr => ⟨?_, ?_⟩)
      · rw [findI_good hc]
        exact find_zero hg ((mid_nil hg.1 p1 (by omega)).1 hm p hin.1 (by omega))
      · refine find_some hR ⟨p5, p6⟩ (z := true) (hpr.trans ?_)
        rw [paint_cons_in (by unfold Ar.fin; simp only; omega)]
        rfl
    · rw [if_neg hm] at h; simp at h
  · rw [if_pos hs] at h; exact (hs h).elim
theorem keep_unmap {L : List Ar} {page pages : Int} (p : Int) (h : (unmapR L page pages).2 = 0) : Kept L (unmapR L page pages).1 page pages p (fun o => o = none) := by
  unfold unmapR at h ⊢
  by_cases hs : spanE L page pages 0 = 0
  · rw [if_neg (fun k => k hs)] at h ⊢
    obtain ⟨hc, p1, p2, p3, p4, p5, p6⟩ := spanE_bits hs
    exact kept_of hc p1 p3 trivial (by unfold endOf; omega) (fun hin R hR hpr => find_zero hR hpr)
  · rw [if_pos hs] at h; exact (hs h).elim
theorem keep_prot {L : List Ar} {page pages prot : Int} (p : Int) (h : (protR L page pages prot).2 = 0) : Kept L (protR L page pages prot).1 page pages p (fun o => ∃ a b, o = some a ∧ findI L p = some b ∧ a.prot = prot ∧ a.z = b.z) := by
  unfold protR at h ⊢
  by_cases hs : spanE L page pages prot = 0
  · rw [if_neg (fun k => k hs)] at h ⊢
    by_cases hm : sumN (midL L page (page + pages)) < pages
    · rw [if_pos hm] at h; simp at h
    · rw [if_neg hm]
      obtain ⟨hc, p1, p2, p3, p4, p5, p6⟩ := spanE_bits hs
      have hg := (checkI_zero.1 hc).2
      obtain ⟨m1, m2, m3⟩ := mid_spec hg.1 p1 (q' := page + pages) (by omega)
      obtain ⟨s1, s2, s3⟩ := setProt_spec prot ⟨p5, p6⟩ m1
      obtain ⟨u1, u2⟩ := sumN_spec m1 m2 (by omega)
      refine kept_of hc p1 p3 s1 (by rw [s2]; exact m2) (fun hin R hR hpr => ?_)
      have hne : paint L p ≠ 0 := by
        have := u2.1 (by omega) p hin.1 (by omega)
        rw [m3 p, if_pos (by omega)] at this
        exact this
      cases hb : findA L p with
      | none => rw [paint_find p hg.1, hb] at hne; exact (hne rfl).elim
      | some b =>
        have hbo := find_ok hg.1 hb
        have hpl : paint L p = b.mk' := by rw [paint_find p hg.1, hb]; rfl
        rw [s3, m3, if_pos (by omega), hpl] at hpr
        have hz : paint R p = 1 + 2 * prot + (if b.z then 8 else 0) := by
          rw [hpr]
          unfold reMark Ar.mk'
          unfold Ar.ok at hbo
          cases b.z <;> simp <;> (repeat' split) <;> omega
        obtain ⟨a, ha1, ha2, ha3⟩ := find_some hR ⟨p5, p6⟩ hz
        exact ⟨a, b, ha1, by rw [findI_good hc]; exact hb, ha2, ha3⟩
  · rw [if_pos hs] at h; exact (hs h).elim
end Go.Proofs.Ytejnpppejalhfab
