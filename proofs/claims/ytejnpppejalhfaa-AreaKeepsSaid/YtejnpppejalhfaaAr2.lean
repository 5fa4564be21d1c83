/- The contract of area.Check. -/
import Derived.Test.YtejnpppejalhfaaAr1
namespace Go.Proofs.Ytejnpppejalhfaa
open Go.RowKit Go.Sort

theorem wrap64_small (n : Int) (h1 : -1000000000000 ≤ n) (h2 : n ≤ 1000000000000) : wrap64 n = n := by unfold wrap64; omega
theorem fin_wrap {a : Ar} (h : a.ok) : wrap64 a.fin = a.fin := by unfold Ar.ok at h; unfold Ar.fin; exact wrap64_small _ (by omega) (by omega)
theorem checkI_many {L : List Ar} (h : 255 < L.length) : checkI L = 2 := by unfold checkI; rw [if_pos h]
theorem checkI_good {L : List Ar} (h : ¬ 255 < L.length) (hg : ∀ i, i < L.length → OkAt L i) : checkI L = 0 := by unfold checkI; rw [if_neg h, if_pos ((good_iff L).2 hg)]
theorem checkI_bad {L : List Ar} (h : ¬ 255 < L.length) {i : Nat} (hi : i < L.length) (hg : ¬ OkAt L i) : checkI L = 1 := by
  unfold checkI; rw [if_neg h, if_neg fun g => hg ((good_iff L).1 g i hi)]

set_option maxRecDepth 100000 in
set_option maxHeartbeats 4000000 in
theorem check_nil (p : Option Addr) (c : Nat) (w : World) : Calls Try.prog 38 #[.slice p 0 c] w (RB (.int .i64 0) w) := by
  go_enter Try.func38, Try.ntmps38
  go_wp2
  go_loopw [10] (fun vi wr => vi = .int .i64 0 ∧ wr = w) (fun _ _ => 0)
  case atStart => exact ⟨rfl, rfl⟩
  case round =>
    obtain ⟨rfl, rfl⟩ := hrel
    go_wp2
    go_ret
    exact ⟨rfl, (by repeat (first | (with_reducible exact Below.refl _ _) | (with_reducible assumption) | (with_reducible refine Below.alloc ?_ (by first | omega | (simp; done) | (simp; omega)) _) | (with_reducible refine Below.setCell ?_ (by first | omega | (simp; done) | (simp; omega)) _) | (with_reducible refine Below.drew ?_) | (with_reducible refine bt ?_ (below_regrown _ _ _)) | (refine bt ?_ (by with_reducible assumption))))⟩

theorem okAt_zero {L : List Ar} {a : Ar} (ha : L[0]? = some a) (h : a.ok) : OkAt L 0 := ⟨a, ha, h, fun j b hj => by omega⟩
theorem okAt_not {L : List Ar} {i : Nat} {a : Ar} (ha : L[i]? = some a) (h : ¬ a.ok) : ¬ OkAt L i := by
  rintro ⟨c, hc, h1, _⟩
  rw [ha] at hc; cases hc; exact h h1
theorem okAt_succ {L : List Ar} {k : Nat} {a b : Ar} (ha : L[k + 1]? = some a) (hb : L[k]? = some b) : OkAt L (k + 1) ↔ a.ok ∧ b.fin ≤ a.pg ∧ ¬ b.alike a := by
  constructor
  · rintro ⟨c, hc, h1, h2⟩
    rw [ha] at hc; cases hc
    exact ⟨h1, h2 k b rfl hb⟩
  · rintro ⟨h1, h2, h3⟩
    refine ⟨a, ha, h1, fun j d hj hd => ?_⟩
    obtain rfl : j = k := by omega
    rw [hb] at hd; cases hd
    exact ⟨h2, h3⟩
theorem okAt_ok {L : List Ar} {k : Nat} {b : Ar} (hb : L[k]? = some b) (h : OkAt L k) : b.ok := by
  obtain ⟨c, hc, h1, _⟩ := h
  rw [hb] at hc; cases hc; exact h1

set_option maxRecDepth 100000 in
set_option maxHeartbeats 4000000 in
theorem check_any (b off cap : Nat) (L : List Ar) (w : World) (hbl : b < w.heap.size) (hcap : L.length ≤ cap) (hmax : cap ≤ maxLen) (hcells : ∀ i a, L[i]? = some a → CellsAr w b (off + i * 4) a) :
    Calls Try.prog 38 #[.slice (some ⟨b, off, none⟩) L.length cap] w (RB (.int .i64 (checkI L)) w) := by
  unfold maxLen at hmax
  by_cases hm : 255 < L.length
  · have HC := hid (checkI_many hm)
    generalize checkI L = r at *
    go_enter Try.func38, Try.ntmps38
    go_wp2
    go_ret
    exact ⟨ret_int HC.out.symm, (by repeat (first | (with_reducible exact Below.refl _ _) | (with_reducible assumption) | (with_reducible refine Below.alloc ?_ (by first | omega | (simp; done) | (simp; omega)) _) | (with_reducible refine Below.setCell ?_ (by first | omega | (simp; done) | (simp; omega)) _) | (with_reducible refine Below.drew ?_) | (with_reducible refine bt ?_ (below_regrown _ _ _)) | (refine bt ?_ (by with_reducible assumption))))⟩
  have HC := hid hcells
  clear hcells
  obtain ⟨r, hr⟩ : ∃ r, r = checkI L := ⟨_, rfl⟩
  rw [← hr]
  have HR := hid hr; clear hr
  go_enter Try.func38, Try.ntmps38
  go_wp2
  go_loopw [10] (fun vi wr => ∃ i : Nat, i ≤ L.length ∧ vi = .int .i64 i ∧ Below w.heap.size w wr ∧ Hid (∀ j, j < i → OkAt L j)) (fun vi _ => L.length - (intOf vi).toNat)
  case atStart => exact ⟨0, by omega, rfl, Below.refl _ _, fun j hj => by omega⟩
  case round =>
    obtain ⟨i, hi, rfl, hb, HO⟩ := hrel
    by_cases hlt : i < L.length
    · obtain ⟨a, ha⟩ : ∃ a, L[i]? = some a := ⟨L[i], by simp [hlt]⟩
      obtain ⟨c0, c1, c2, c3⟩ := (HC.out i a ha).grown hb hbl
      have hbr := ltAll (Nat.lt_of_lt_of_le hbl hb.size)
      have hsz := hb.size
      have HE : Hid True := hid trivial
      have HN : Hid True := hid trivial
      obtain ⟨s, hs⟩ : ∃ s, s = decide a.ok := ⟨_, rfl⟩
      have HS : Hid (∀ w, Calls Try.prog 68 #[.int .i64 a.pg, .int .i64 a.n, .int .i64 a.prot] w (RB (.bool s) w)) := fun w => by rw [hs]; exact rb_same (span_any a.pg a.n a.prot w)
      cases s
      · have HX := hid (okAt_not ha (by simpa using hs.symm))
        clear hs
        go_wp2
        refine wp_region_quiet_below (by kernel_rfl) (by kernel_rfl) ?_
        repeat (first | go_big_quiet_step ((first | (go_at_call 68; exact Calls.regrown_of (HS.out _)) | (go_at_call 65; exact Calls.regrown_of (HE.out _)) | (go_at_call 69; exact Calls.regrown_of (HN.out _)))) | quiet_step ((first | (go_at_call 68; exact Calls.regrown_of (HS.out _)) | (go_at_call 65; exact Calls.regrown_of (HE.out _)) | (go_at_call 69; exact Calls.regrown_of (HN.out _)))))
        refine wpQuiet_nil ?_
        intro wq hw'
        obtain ⟨⟨dq, osq⟩, hw''⟩ := hw'
        have hbr := of_regrown hw''
        clear hw''
        first
          | (have hbn := bt hbq hbr; clear hcq hfq hzq hbq hbr; have hbq := hbn; clear hbn)
          | (have hbq := hbr; clear hbr)
        obtain ⟨hcq, hfq, hzq⟩ := bcell3 hbq
        go_wp2
        go_ret
        exact ⟨ret_int (by rw [HR.out, checkI_bad hm hlt HX.out]), (by repeat (first | (with_reducible exact Below.refl _ _) | (with_reducible assumption) | (with_reducible refine Below.alloc ?_ (by first | omega | (simp; done) | (simp; omega)) _) | (with_reducible refine Below.setCell ?_ (by first | omega | (simp; done) | (simp; omega)) _) | (with_reducible refine Below.drew ?_) | (with_reducible refine bt ?_ (below_regrown _ _ _)) | (refine bt ?_ (by with_reducible assumption))))⟩
      have hok : a.ok := by simpa using hs.symm
      clear hs
      match i with
      | 0 =>
        have HX := hid (okAt_zero ha hok)
        clear hok
        simp only [Nat.zero_mul, Nat.add_zero] at c0 c1 c2 c3
        go_wp2
        refine wp_region_quiet_below (by kernel_rfl) (by kernel_rfl) ?_
        repeat (first | go_big_quiet_step ((first | (go_at_call 68; exact Calls.regrown_of (HS.out _)) | (go_at_call 65; exact Calls.regrown_of (HE.out _)) | (go_at_call 69; exact Calls.regrown_of (HN.out _)))) | quiet_step ((first | (go_at_call 68; exact Calls.regrown_of (HS.out _)) | (go_at_call 65; exact Calls.regrown_of (HE.out _)) | (go_at_call 69; exact Calls.regrown_of (HN.out _)))))
        refine wpQuiet_nil ?_
        intro wq hw'
        obtain ⟨⟨dq, osq⟩, hw''⟩ := hw'
        have hbr := of_regrown hw''
        clear hw''
        first
          | (have hbn := bt hbq hbr; clear hcq hfq hzq hbq hbr; have hbq := hbn; clear hbn)
          | (have hbq := hbr; clear hbr)
        obtain ⟨hcq, hfq, hzq⟩ := bcell3 hbq
        go_wp2
        go_roundw
        case rel =>
          refine ⟨0 + 1, by omega, by go_num, (by repeat (first | (with_reducible exact Below.refl _ _) | (with_reducible assumption) | (with_reducible refine Below.alloc ?_ (by first | omega | (simp; done) | (simp; omega)) _) | (with_reducible refine Below.setCell ?_ (by first | omega | (simp; done) | (simp; omega)) _) | (with_reducible refine Below.drew ?_) | (with_reducible refine bt ?_ (below_regrown _ _ _)) | (refine bt ?_ (by with_reducible assumption)))), fun j hj => ?_⟩
          rcases Nat.lt_succ_iff_lt_or_eq.1 hj with h | h
          · exact HO.out j h
          · subst h; exact HX.out
        case measure => simp [intOf]; omega
      | k + 1 =>
        obtain ⟨q, hq⟩ : ∃ q, L[k]? = some q := ⟨L[k], by simp⟩
        have hqo := okAt_ok hq (HO.out k (by omega))
        obtain ⟨d0, d1, d2, d3⟩ := (HC.out k q hq).grown hb hbl
        have HA := hid (okAt_succ ha hq)
        have HE := hid (fun w => end_any q w)
        rw [fin_wrap hqo] at HE
        obtain ⟨o, ho⟩ : ∃ o, o = decide (q.alike a) := ⟨_, rfl⟩
        have HN := hid (fun w => one_any q a w (fin_wrap hqo))
        rw [← ho] at HN
        unfold arC at HE HN
        have HF := hid (show q.fin = q.fin from rfl)
        by_cases hl : a.pg < q.fin
        · have HX : Hid (¬ OkAt L (k + 1)) := fun h => by have := (HA.out.1 h).2.1; omega
          have hl' : decide (a.pg < q.fin) = true := by simpa using hl
          clear hl hok hqo ho
          generalize q.fin = f at *
          go_wp2
          refine wp_region_quiet_below (by kernel_rfl) (by kernel_rfl) ?_
          repeat (first | go_big_quiet_step ((first | (go_at_call 68; exact Calls.regrown_of (HS.out _)) | (go_at_call 65; exact Calls.regrown_of (HE.out _)) | (go_at_call 69; exact Calls.regrown_of (HN.out _)))) | quiet_step ((first | (go_at_call 68; exact Calls.regrown_of (HS.out _)) | (go_at_call 65; exact Calls.regrown_of (HE.out _)) | (go_at_call 69; exact Calls.regrown_of (HN.out _)))))
          refine wpQuiet_nil ?_
          intro wq hw'
          obtain ⟨⟨dq, osq⟩, hw''⟩ := hw'
          have hbr := of_regrown hw''
          clear hw''
          first
            | (have hbn := bt hbq hbr; clear hcq hfq hzq hbq hbr; have hbq := hbn; clear hbn)
            | (have hbq := hbr; clear hbr)
          obtain ⟨hcq, hfq, hzq⟩ := bcell3 hbq
          go_wp2
          go_ret
          exact ⟨ret_int (by rw [HR.out, checkI_bad hm hlt HX.out]), (by repeat (first | (with_reducible exact Below.refl _ _) | (with_reducible assumption) | (with_reducible refine Below.alloc ?_ (by first | omega | (simp; done) | (simp; omega)) _) | (with_reducible refine Below.setCell ?_ (by first | omega | (simp; done) | (simp; omega)) _) | (with_reducible refine Below.drew ?_) | (with_reducible refine bt ?_ (below_regrown _ _ _)) | (refine bt ?_ (by with_reducible assumption))))⟩
        have hl' : decide (a.pg < q.fin) = false := by simpa using hl
        cases o
        · have HX : Hid (OkAt L (k + 1)) := HA.out.2 ⟨hok, by omega, by simpa using ho.symm⟩
          clear hl hok hqo ho
          generalize q.fin = f at *
          go_wp2
          refine wp_region_quiet_below (by kernel_rfl) (by kernel_rfl) ?_
          repeat (first | go_big_quiet_step ((first | (go_at_call 68; exact Calls.regrown_of (HS.out _)) | (go_at_call 65; exact Calls.regrown_of (HE.out _)) | (go_at_call 69; exact Calls.regrown_of (HN.out _)))) | quiet_step ((first | (go_at_call 68; exact Calls.regrown_of (HS.out _)) | (go_at_call 65; exact Calls.regrown_of (HE.out _)) | (go_at_call 69; exact Calls.regrown_of (HN.out _)))))
          refine wpQuiet_nil ?_
          intro wq hw'
          obtain ⟨⟨dq, osq⟩, hw''⟩ := hw'
          have hbr := of_regrown hw''
          clear hw''
          first
            | (have hbn := bt hbq hbr; clear hcq hfq hzq hbq hbr; have hbq := hbn; clear hbn)
            | (have hbq := hbr; clear hbr)
          obtain ⟨hcq, hfq, hzq⟩ := bcell3 hbq
          go_wp2
          go_roundw
          case rel =>
            refine ⟨(k + 1) + 1, by omega, by go_num, (by repeat (first | (with_reducible exact Below.refl _ _) | (with_reducible assumption) | (with_reducible refine Below.alloc ?_ (by first | omega | (simp; done) | (simp; omega)) _) | (with_reducible refine Below.setCell ?_ (by first | omega | (simp; done) | (simp; omega)) _) | (with_reducible refine Below.drew ?_) | (with_reducible refine bt ?_ (below_regrown _ _ _)) | (refine bt ?_ (by with_reducible assumption)))), fun j hj => ?_⟩
            rcases Nat.lt_succ_iff_lt_or_eq.1 hj with h | h
            · exact HO.out j h
            · subst h; exact HX.out
          case measure => simp [intOf]; omega
        · have HX : Hid (¬ OkAt L (k + 1)) := fun h => (HA.out.1 h).2.2 (by simpa using ho.symm)
          clear hl hok hqo ho
          generalize q.fin = f at *
          go_wp2
          refine wp_region_quiet_below (by kernel_rfl) (by kernel_rfl) ?_
          repeat (first | go_big_quiet_step ((first | (go_at_call 68; exact Calls.regrown_of (HS.out _)) | (go_at_call 65; exact Calls.regrown_of (HE.out _)) | (go_at_call 69; exact Calls.regrown_of (HN.out _)))) | quiet_step ((first | (go_at_call 68; exact Calls.regrown_of (HS.out _)) | (go_at_call 65; exact Calls.regrown_of (HE.out _)) | (go_at_call 69; exact Calls.regrown_of (HN.out _)))))
          refine wpQuiet_nil ?_
          intro wq hw'
          obtain ⟨⟨dq, osq⟩, hw''⟩ := hw'
          have hbr := of_regrown hw''
          clear hw''
          first
            | (have hbn := bt hbq hbr; clear hcq hfq hzq hbq hbr; have hbq := hbn; clear hbn)
            | (have hbq := hbr; clear hbr)
          obtain ⟨hcq, hfq, hzq⟩ := bcell3 hbq
          go_wp2
          go_ret
          exact ⟨ret_int (by rw [HR.out, checkI_bad hm hlt HX.out]), (by repeat (first | (with_reducible exact Below.refl _ _) | (with_reducible assumption) | (with_reducible refine Below.alloc ?_ (by first | omega | (simp; done) | (simp; omega)) _) | (with_reducible refine Below.setCell ?_ (by first | omega | (simp; done) | (simp; omega)) _) | (with_reducible refine Below.drew ?_) | (with_reducible refine bt ?_ (below_regrown _ _ _)) | (refine bt ?_ (by with_reducible assumption))))⟩
    · go_wp2
      go_ret
      have : i = L.length := by omega
      subst this
      refine ⟨ret_int ?_, hb⟩
      rw [HR.out, checkI_good hm HO.out]
end Go.Proofs.Ytejnpppejalhfaa
