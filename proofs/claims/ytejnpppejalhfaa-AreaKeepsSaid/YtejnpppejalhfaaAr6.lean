/- The contract of area.Find. -/
import Derived.Test.YtejnpppejalhfaaAr5
namespace Go.Proofs.Ytejnpppejalhfaa
open Go.RowKit Go.Sort

set_option maxRecDepth 100000 in
set_option maxHeartbeats 4000000 in
theorem bs_nil (p : Option Addr) (c : Nat) (page : Int) (w : World) : Calls Try.prog 63 #[.slice p 0 c, .int .i64 page, .func (.func 64) #[] #[]] w (BsPost [] page w) := by
  go_enter Try.func63, Try.ntmps63
  go_wp2
  go_loopw [9, 10] (fun vi vj wr => vi = .int .i64 0 ∧ vj = .int .i64 0 ∧ wr = w) (fun _ _ _ => 0)
  case atStart => exact ⟨rfl, rfl, rfl⟩
  case round =>
    obtain ⟨rfl, rfl, rfl⟩ := hrel
    go_wp2
    go_ret2
    exact ⟨0, by simp, rfl, (by repeat (first | (with_reducible exact Below.refl _ _) | (with_reducible assumption) | (with_reducible refine Below.alloc ?_ (by first | omega | (simp; done) | (simp; omega)) _) | (with_reducible refine Below.setCell ?_ (by first | omega | (simp; done) | (simp; omega)) _) | (with_reducible refine Below.drew ?_) | (with_reducible refine bt ?_ (below_regrown _ _ _)) | (refine bt ?_ (by with_reducible assumption)))), bs_start [] page⟩
theorem bs_sl {v : Value} {L : List Ar} {w : World} (page : Int) (h : SlAr w v L) : Calls Try.prog 63 #[v, .int .i64 page, .func (.func 64) #[] #[]] w (BsPost L page w) := by
  rcases h with ⟨p, c, rfl, rfl⟩ | ⟨b, off, cap, rfl, h2, h3, h4, h5⟩
  · exact bs_nil p c page w
  · exact bs_any b off cap page h2 h3 h4 h5

theorem holds_not {page : Int} {a : Ar} (h : a.fin ≤ page ∨ page < a.pg) : holdsB page a = false := by unfold holdsB; simp; omega
theorem find_end {L : List Ar} {page : Int} (hg : Good L) (hI : BsInv L page L.length L.length) : findA L page = none :=
  findA_none fun j b hj hb => holds_not (Or.inl ((hI hg).1 j b hj hb))
theorem find_gap {L : List Ar} {page : Int} {i : Nat} {a : Ar} (hg : Good L) (hI : BsInv L page i i) (ha : L[i]? = some a) (h : page < a.pg) : findA L page = none :=
  findA_none fun j b hj hb => by
    rcases Nat.lt_or_ge j i with h1 | h1
    · exact holds_not (Or.inl ((hI hg).1 j b h1 hb))
    · rcases Nat.lt_or_eq_of_le h1 with h2 | h2
      · have := rise_fin hg h2 ha hb
        have hk := good_ok hg i a ha
        unfold Ar.ok at hk
        exact holds_not (Or.inr (by unfold Ar.fin at this; omega))
      · subst h2; rw [ha] at hb; cases hb; exact holds_not (Or.inr h)
theorem find_hit {L : List Ar} {page : Int} {i : Nat} {a : Ar} (hg : Good L) (hI : BsInv L page i i) (ha : L[i]? = some a) (h : a.pg ≤ page) : findA L page = some a :=
  findA_some (fun j b hj hb => holds_not (Or.inl ((hI hg).1 j b hj hb))) ha (by unfold holdsB; simp; exact ⟨h, (hI hg).2 i a (Nat.le_refl _) ha⟩)
/-- what Find answers -/
def findI (L : List Ar) (page : Int) : Option Ar := if checkI L = 0 then findA L page else none

set_option maxRecDepth 100000 in
set_option maxHeartbeats 4000000 in
theorem find_any {v : Value} {L : List Ar} {w : World} (page : Int) (h : SlAr w v L) : Calls Try.prog 34 #[v, .int .i64 page] w (RB (FindV (findI L page)) w) := by
  have HC := hid (fun w' (hb : Below w.heap.size w w') => check_sl (h.grown hb))
  have HS := hid (fun w' (hb : Below w.heap.size w w') => bs_sl page (h.grown hb))
  have hsz : (Try.prog.info? 63).map (·.size) = some 4 := by kernel_rfl
  have Hsz := hid hsz; clear hsz
  have hbw := Below.refl w.heap.size w
  go_enter Try.func34, Try.ntmps34
  go_wp2_with (first | ((with_reducible refine at_op 4 ?_); refine wpList_new_row' rfl (some 4) rfl (zl4) 63 (by kernel_rfl) w.heap.size w hbw hbw.size ?_; intro g4 wn4 hL4 hB4 hbn hkn hnn; skip; clear hbw hkn hnn; have hbw := hbn; clear hbn) | (go_at_call 63; (with_reducible refine (HS.out _ hbw).mono ?_); rintro e wc ⟨i, hi, rfl, hbc, hI⟩; have hL4 := hL4.grown hbc hL4.lt; have hbn := bt hbw hbc; clear hbw hbc; have hbw := hbn; clear hbn))
  by_cases hc : checkI L = 0
  · obtain ⟨_, hg⟩ := checkI_zero.1 hc
    have HQ : Hid (findI L page = findA L page) := by refine hid ?_; unfold findI; rw [if_pos hc]
    rw [hc] at HC
    clear hc
    by_cases hlt : i < L.length
    · obtain ⟨a, ha⟩ : ∃ a, L[i]? = some a := ⟨L[i], by simp [hlt]⟩
      rcases h with ⟨p, c, rfl, rfl⟩ | ⟨b, off, cap, rfl, hbl, hcap, hmax, hcells⟩
      · simp at hlt
      have HL := hid hcells
      have hne : ((i : Int) == L.length) = false := by rw [beq_eq_false_iff_ne]; omega
      have hli : (i : Int) < L.length := Int.ofNat_lt.2 hlt
      clear hcells hmax
      by_cases hp : page < a.pg
      · have HX := hid (find_gap hg hI ha hp)
        clear hI
        go_wp2_with (first | ((go_at_call 38; (with_reducible refine (HC.out _ hbw).mono ?_); rintro e wk ⟨rfl, hbc⟩); have hL4 := hL4.grown hbc hL4.lt; have hbn := bt hbw hbc; clear hbw hbc; have hbw := hbn; clear hbn; obtain ⟨c0, c1, c2, c3⟩ := (HL.out i a ha).grown hbw hbl) | ((with_reducible refine at_store 4 ?_); refine wpList_put_row rfl 63 (.tmp 4) (.tmp 32) rfl rfl g4 (zl4) (zl4) rfl rfl hL4 Hsz.out rfl rfl w.heap.size w hbw hB4 ?_; intro wp4 hLn hbn hon; skip; clear hL4 hbw hon; have hL4 := hLn; have hbw := hbn; clear hLn hbn))
        refine bodyPost_ret (v := .tuple #[.agg (zl4).toArray, .bool false]) (results_hold2 rfl _ g4 (zl4) (.bool false) _ rfl rfl hL4 Try.underlying63 rfl Hsz.out) rfl ⟨by rw [HQ.out, HX.out]; rfl, hbw⟩
      · have HX := hid (find_hit hg hI ha (by omega))
        clear hI
        have hp' : decide (page < a.pg) = false := by simpa using hp
        go_wp2_with (first | ((go_at_call 38; (with_reducible refine (HC.out _ hbw).mono ?_); rintro e wk ⟨rfl, hbc⟩); have hL4 := hL4.grown hbc hL4.lt; have hbn := bt hbw hbc; clear hbw hbc; have hbw := hbn; clear hbn; obtain ⟨c0, c1, c2, c3⟩ := (HL.out i a ha).grown hbw hbl) | ((with_reducible refine at_store 4 ?_); refine wpList_put_row rfl 63 (.tmp 4) (.tmp 36) rfl rfl g4 ([.int .i64 a.pg, .int .i64 a.n, .int .i64 a.prot, .bool a.z]) (zl4) rfl rfl hL4 Hsz.out rfl rfl w.heap.size w hbw hB4 ?_; intro wp4 hLn hbn hon; skip; clear hL4 hbw hon; have hL4 := hLn; have hbw := hbn; clear hLn hbn))
        refine bodyPost_ret (v := .tuple #[.agg ([.int .i64 a.pg, .int .i64 a.n, .int .i64 a.prot, .bool a.z]).toArray, .bool true]) (results_hold2 rfl _ g4 ([.int .i64 a.pg, .int .i64 a.n, .int .i64 a.prot, .bool a.z]) (.bool true) _ rfl rfl hL4 Try.underlying63 rfl Hsz.out) rfl ⟨by rw [HQ.out, HX.out]; rfl, hbw⟩
    · obtain rfl : i = L.length := by omega
      have HX := hid (find_end hg hI)
      have hlen : ∃ n : Nat, n = L.length := ⟨_, rfl⟩
      clear hI
      rcases h with ⟨p, c, rfl, rfl⟩ | ⟨b, off, cap, rfl, hbl, hcap, hmax, hcells⟩
      · go_wp2_with (first | ((go_at_call 38; (with_reducible refine (HC.out _ hbw).mono ?_); rintro e wk ⟨rfl, hbc⟩); have hL4 := hL4.grown hbc hL4.lt; have hbn := bt hbw hbc; clear hbw hbc; have hbw := hbn; clear hbn; skip) | ((with_reducible refine at_store 4 ?_); refine wpList_put_row rfl 63 (.tmp 4) (.tmp 32) rfl rfl g4 (zl4) (zl4) rfl rfl hL4 Hsz.out rfl rfl w.heap.size w hbw hB4 ?_; intro wp4 hLn hbn hon; skip; clear hL4 hbw hon; have hL4 := hLn; have hbw := hbn; clear hLn hbn))
        refine bodyPost_ret (v := .tuple #[.agg (zl4).toArray, .bool false]) (results_hold2 rfl _ g4 (zl4) (.bool false) _ rfl rfl hL4 Try.underlying63 rfl Hsz.out) rfl ⟨by rw [HQ.out, HX.out]; rfl, hbw⟩
      · clear hcells hmax
        go_wp2_with (first | ((go_at_call 38; (with_reducible refine (HC.out _ hbw).mono ?_); rintro e wk ⟨rfl, hbc⟩); have hL4 := hL4.grown hbc hL4.lt; have hbn := bt hbw hbc; clear hbw hbc; have hbw := hbn; clear hbn; skip) | ((with_reducible refine at_store 4 ?_); refine wpList_put_row rfl 63 (.tmp 4) (.tmp 32) rfl rfl g4 (zl4) (zl4) rfl rfl hL4 Hsz.out rfl rfl w.heap.size w hbw hB4 ?_; intro wp4 hLn hbn hon; skip; clear hL4 hbw hon; have hL4 := hLn; have hbw := hbn; clear hLn hbn))
        refine bodyPost_ret (v := .tuple #[.agg (zl4).toArray, .bool false]) (results_hold2 rfl _ g4 (zl4) (.bool false) _ rfl rfl hL4 Try.underlying63 rfl Hsz.out) rfl ⟨by rw [HQ.out, HX.out]; rfl, hbw⟩
  · have HQ : Hid (findI L page = none) := by refine hid ?_; unfold findI; rw [if_neg hc]
    have hn : (checkI L != 0) = true := by rw [bne_iff_ne]; exact hc
    clear hc
    generalize checkI L = ck at *
    go_wp2_with (first | ((go_at_call 38; (with_reducible refine (HC.out _ hbw).mono ?_); rintro e wk ⟨rfl, hbc⟩); have hL4 := hL4.grown hbc hL4.lt; have hbn := bt hbw hbc; clear hbw hbc; have hbw := hbn; clear hbn; skip) | ((with_reducible refine at_store 4 ?_); refine wpList_put_row rfl 63 (.tmp 4) (.tmp 32) rfl rfl g4 (zl4) (zl4) rfl rfl hL4 Hsz.out rfl rfl w.heap.size w hbw hB4 ?_; intro wp4 hLn hbn hon; skip; clear hL4 hbw hon; have hL4 := hLn; have hbw := hbn; clear hLn hbn))
    refine bodyPost_ret (v := .tuple #[.agg (zl4).toArray, .bool false]) (results_hold2 rfl _ g4 (zl4) (.bool false) _ rfl rfl hL4 Try.underlying63 rfl Hsz.out) rfl ⟨by rw [HQ.out]; rfl, hbw⟩
end Go.Proofs.Ytejnpppejalhfaa
