/- Texts that the proof stands on, one behind the other: Ar2, Ar3, Ar4, Ar7, Ar8, Ar9, Ar10, Ar17, As1, As2, Ar19, Ar20, Ar21, Ar22, Ar23, Ar5, Ar11, Ar12, Ar13, Ar14, Ar15, Ar16, As3, As4, Ar6, As5, PlArea3, PlLnk2, Bits, BitsF, Lk1. -/
import Derived.Deep.DeepAppendWide
import Derived.Laws.OwnMore
import Derived.Laws.Cover2
import Derived.Maps.AppendAt
import Derived.Deep.RegionWith
import Derived.Deep.DeepCutAuto
import Derived.Lib.AppendZerosOnto
import Derived.Lib.Walk
import Derived.Test.YtejnpppejalhfabProg
import Derived.Handy
import Derived.BigQuiet
import Derived.Deep.QuietTactic
import Derived.WalkSpells
import Derived.Test.YtejnpppejalhfabPLinkLinks3
/- The contract of area.Check. -/
namespace Go.Proofs.Ytejnpppejalhfab
open Go.RowKit Go.Sort

theorem wrap64_small (n : Int) (h1 : -1000000000000 ≤ n) (h2 : n ≤ 1000000000000) : wrap64 n = n := by unfold wrap64; omega
theorem fin_wrap {a : Ar} (h : a.ok) : wrap64 a.fin = a.fin := by unfold Ar.ok at h; unfold Ar.fin; exact wrap64_small _ (by omega) (by omega)
theorem checkI_many {L : List Ar} (h : 255 < L.length) : checkI L = 2 := by unfold checkI; rw [if_pos h]
theorem checkI_good {L : List Ar} (h : ¬ 255 < L.length) (hg : ∀ i, i < L.length → OkAt L i) : checkI L = 0 := by unfold checkI; rw [if_neg h, if_pos ((good_iff L).2 hg)]
theorem checkI_bad {L : List Ar} (h : ¬ 255 < L.length) {i : Nat} (hi : i < L.length) (hg : ¬ OkAt L i) : checkI L = 1 := by
  unfold checkI; rw [if_neg h, if_neg fun g => hg ((good_iff L).1 g i hi)]

set_option maxRecDepth 100000 in
set_option maxHeartbeats 4000000 in
theorem check_nil (p : Option Addr) (c : Nat) (w : World) : Calls Try.prog 62 #[.slice p 0 c] w (RB (.int .i64 0) w) := by
  go_enter Try.func62, Try.ntmps62
  go_wp2
  go_loopw [10] (fun vi wr => vi = .int .i64 0 ∧ wr = w) (fun _ _ => 0)
  case atStart => exact ⟨rfl, rfl⟩
  case round =>
    obtain ⟨rfl, rfl⟩ := hrel
    go_wp2
    go_ret
    exact ⟨rfl, (by repeat ((with_reducible exact Below.refl _ _)))⟩

theorem okAt_zero {L : List Ar} {a : Ar} (ha : L[0]? = some a) (h : a.ok) : OkAt L 0 := ⟨a, ha, h, fun j b hj => by omega⟩
theorem okAt_not {L : List Ar} {i : Nat} {a : Ar} (ha : L[i]? = some a) (h : ¬ a.ok) : ¬ OkAt L i := by
  rintro ⟨c, hc, h1, _⟩
  rw [ha] at hc; cases hc; exact h h1
theorem okAt_succ {L : List Ar} {k : Nat} {a b : Ar} (ha : L[k + 1]? = some a) (hb : L[k]? = some b) : OkAt L (k + 1) ↔ a.ok ∧ b.fin ≤ a.pg ∧ ¬ b.alike a := by
  constructor
  · rintro ⟨c, hc, h1, h2⟩
    rw [ha] at hc; cases hc
    exact ⟨h1, h2 k b rfl hb⟩
  · rintro ⟨h1, h2, h3⟩
    refine ⟨a, ha, h1, fun j d hj hd => ?_⟩
    obtain rfl : j = k := by omega
    rw [hb] at hd; cases hd
    exact ⟨h2, h3⟩
theorem okAt_ok {L : List Ar} {k : Nat} {b : Ar} (hb : L[k]? = some b) (h : OkAt L k) : b.ok := by
  obtain ⟨c, hc, h1, _⟩ := h
  rw [hb] at hc; cases hc; exact h1

set_option maxRecDepth 100000 in
set_option maxHeartbeats 4000000 in
theorem check_any (b off cap : Nat) (L : List Ar) (w : World) (hbl : b < w.heap.size) (hcap : L.length ≤ cap) (hmax : cap ≤ maxLen) (hcells : ∀ i a, L[i]? = some a → CellsAr w b (off + i * 4) a) :
    Calls Try.prog 62 #[.slice (some ⟨b, off, none⟩) L.length cap] w (RB (.int .i64 (checkI L)) w) := by
  unfold maxLen at hmax
  by_cases hm : 255 < L.length
  · have HC := hid (checkI_many hm)
    generalize checkI L = r at *
    go_enter Try.func62, Try.ntmps62
    go_wp2
    go_ret
    exact ⟨ret_int HC.out.symm, (by repeat ((with_reducible exact Below.refl _ _)))⟩
  have HC := hid hcells
  clear hcells
  obtain ⟨r, hr⟩ : ∃ r, r = checkI L := ⟨_, rfl⟩
  rw [← hr]
  have HR := hid hr; clear hr
  go_enter Try.func62, Try.ntmps62
  go_wp2
  go_loopw [10] (fun vi wr => ∃ i : Nat, i ≤ L.length ∧ vi = .int .i64 i ∧ Below w.heap.size w wr ∧ Hid (∀ j, j < i → OkAt L j)) (fun vi _ => L.length - (intOf vi).toNat)
  case atStart => exact ⟨0, by omega, rfl, Below.refl _ _, fun j hj => by omega⟩
  case round =>
    obtain ⟨i, hi, rfl, hb, HO⟩ := hrel
    by_cases hlt : i < L.length
    · obtain ⟨a, ha⟩ : ∃ a, L[i]? = some a := ⟨L[i], by simp [hlt]⟩
      obtain ⟨c0, c1, c2, c3⟩ := (HC.out i a ha).grown hb hbl
      have hbr := ltAll (Nat.lt_of_lt_of_le hbl hb.size)
      have hsz := hb.size
      have HE : Hid True := hid trivial
      have HN : Hid True := hid trivial
      obtain ⟨s, hs⟩ : ∃ s, s = decide a.ok := ⟨_, rfl⟩
      have HS : Hid (∀ w, Calls Try.prog 106 #[.int .i64 a.pg, .int .i64 a.n, .int .i64 a.prot] w (RB (.bool s) w)) := fun w => by rw [hs]; exact rb_same (span_any a.pg a.n a.prot w)
      cases s
      · have HX := hid (okAt_not ha (by simpa using hs.symm))
        clear hs
        go_wp2
        refine wp_region_quiet_below (by kernel_rfl) (by kernel_rfl) ?_
        repeat ((go_big_quiet_step (((go_at_call 106; exact Calls.regrown_of (HS.out _))))))
        refine wpQuiet_nil ?_
        intro wq hw'
        obtain ⟨⟨dq, osq⟩, hw''⟩ := hw'
        have hbr := of_regrown hw''
        clear hw''
        first
          | (have hbn := bt hbq hbr; clear hcq hfq hzq hbq hbr; have hbq := hbn; clear hbn)
          | (have hbq := hbr; clear hbr)
        obtain ⟨hcq, hfq, hzq⟩ := bcell3 hbq
        go_wp2
        go_ret
        exact ⟨ret_int (by rw [HR.out, checkI_bad hm hlt HX.out]), (by repeat (first | (with_reducible assumption) | (with_reducible refine Below.alloc ?_ (by (omega)) _) | (refine bt ?_ (by with_reducible assumption))))⟩
      have hok : a.ok := by simpa using hs.symm
      clear hs
      match i with
      | 0 =>
        have HX := hid (okAt_zero ha hok)
        clear hok
        simp only [Nat.zero_mul, Nat.add_zero] at c0 c1 c2 c3
        go_wp2
        refine wp_region_quiet_below (by kernel_rfl) (by kernel_rfl) ?_
        repeat ((go_big_quiet_step (((go_at_call 106; exact Calls.regrown_of (HS.out _))))))
        refine wpQuiet_nil ?_
        intro wq hw'
        obtain ⟨⟨dq, osq⟩, hw''⟩ := hw'
        have hbr := of_regrown hw''
        clear hw''
        first
          | (have hbn := bt hbq hbr; clear hcq hfq hzq hbq hbr; have hbq := hbn; clear hbn)
          | (have hbq := hbr; clear hbr)
        obtain ⟨hcq, hfq, hzq⟩ := bcell3 hbq
        go_wp2
        go_roundw
        case rel =>
          refine ⟨0 + 1, by omega, by go_num, (by repeat (first | (with_reducible assumption) | (with_reducible refine Below.alloc ?_ (by (omega)) _) | (refine bt ?_ (by with_reducible assumption)))), fun j hj => ?_⟩
          rcases Nat.lt_succ_iff_lt_or_eq.1 hj with h | h
          · exact HO.out j h
          · subst h; exact HX.out
        case measure => simp [intOf]; omega
      | k + 1 =>
        obtain ⟨q, hq⟩ : ∃ q, L[k]? = some q := ⟨L[k], by simp⟩
        have hqo := okAt_ok hq (HO.out k (by omega))
        obtain ⟨d0, d1, d2, d3⟩ := (HC.out k q hq).grown hb hbl
        have HA := hid (okAt_succ ha hq)
        have HE := hid (fun w => end_any q w)
        rw [fin_wrap hqo] at HE
        obtain ⟨o, ho⟩ : ∃ o, o = decide (q.alike a) := ⟨_, rfl⟩
        have HN := hid (fun w => one_any q a w (fin_wrap hqo))
        rw [← ho] at HN
        unfold arC at HE HN
        have HF := hid (show q.fin = q.fin from rfl)
        by_cases hl : a.pg < q.fin
        · have HX : Hid (¬ OkAt L (k + 1)) := fun h => by have := (HA.out.1 h).2.1; omega
          have hl' : decide (a.pg < q.fin) = true := by simpa using hl
          clear hl hok hqo ho
          generalize q.fin = f at *
          go_wp2
          refine wp_region_quiet_below (by kernel_rfl) (by kernel_rfl) ?_
          repeat ((go_big_quiet_step ((first | (go_at_call 106; exact Calls.regrown_of (HS.out _)) | (go_at_call 107; exact Calls.regrown_of (HE.out _))))))
          refine wpQuiet_nil ?_
          intro wq hw'
          obtain ⟨⟨dq, osq⟩, hw''⟩ := hw'
          have hbr := of_regrown hw''
          clear hw''
          first
            | (have hbn := bt hbq hbr; clear hcq hfq hzq hbq hbr; have hbq := hbn; clear hbn)
            | (have hbq := hbr; clear hbr)
          obtain ⟨hcq, hfq, hzq⟩ := bcell3 hbq
          go_wp2
          go_ret
          exact ⟨ret_int (by rw [HR.out, checkI_bad hm hlt HX.out]), (by repeat (first | (with_reducible assumption) | (with_reducible refine Below.alloc ?_ (by (omega)) _) | (refine bt ?_ (by with_reducible assumption))))⟩
        have hl' : decide (a.pg < q.fin) = false := by simpa using hl
        cases o
        · have HX : Hid (OkAt L (k + 1)) := HA.out.2 ⟨hok, by omega, by simpa using ho.symm⟩
          clear hl hok hqo ho
          generalize q.fin = f at *
          go_wp2
          refine wp_region_quiet_below (by kernel_rfl) (by kernel_rfl) ?_
          repeat ((go_big_quiet_step ((first | (go_at_call 106; exact Calls.regrown_of (HS.out _)) | (go_at_call 107; exact Calls.regrown_of (HE.out _)) | (go_at_call 108; exact Calls.regrown_of (HN.out _))))))
          refine wpQuiet_nil ?_
          intro wq hw'
          obtain ⟨⟨dq, osq⟩, hw''⟩ := hw'
          have hbr := of_regrown hw''
          clear hw''
          first
            | (have hbn := bt hbq hbr; clear hcq hfq hzq hbq hbr; have hbq := hbn; clear hbn)
            | (have hbq := hbr; clear hbr)
          obtain ⟨hcq, hfq, hzq⟩ := bcell3 hbq
          go_wp2
          go_roundw
          case rel =>
            refine ⟨(k + 1) + 1, by omega, by go_num, (by repeat (first | (with_reducible assumption) | (with_reducible refine Below.alloc ?_ (by (omega)) _) | (refine bt ?_ (by with_reducible assumption)))), fun j hj => ?_⟩
            rcases Nat.lt_succ_iff_lt_or_eq.1 hj with h | h
            · exact HO.out j h
            · subst h; exact HX.out
          case measure => simp [intOf]; omega
        · have HX : Hid (¬ OkAt L (k + 1)) := fun h => (HA.out.1 h).2.2 (by simpa using ho.symm)
          clear hl hok hqo ho
          generalize q.fin = f at *
          go_wp2
          refine wp_region_quiet_below (by kernel_rfl) (by kernel_rfl) ?_
          repeat ((go_big_quiet_step ((first | (go_at_call 106; exact Calls.regrown_of (HS.out _)) | (go_at_call 107; exact Calls.regrown_of (HE.out _)) | (go_at_call 108; exact Calls.regrown_of (HN.out _))))))
          refine wpQuiet_nil ?_
          intro wq hw'
          obtain ⟨⟨dq, osq⟩, hw''⟩ := hw'
          have hbr := of_regrown hw''
          clear hw''
          first
            | (have hbn := bt hbq hbr; clear hcq hfq hzq hbq hbr; have hbq := hbn; clear hbn)
            | (have hbq := hbr; clear hbr)
          obtain ⟨hcq, hfq, hzq⟩ := bcell3 hbq
          go_wp2
          go_ret
          exact ⟨ret_int (by rw [HR.out, checkI_bad hm hlt HX.out]), (by repeat (first | (with_reducible assumption) | (with_reducible refine Below.alloc ?_ (by (omega)) _) | (refine bt ?_ (by with_reducible assumption))))⟩
    · go_wp2
      go_ret
      have : i = L.length := by omega
      subst this
      refine ⟨ret_int ?_, hb⟩
      rw [HR.out, checkI_good hm HO.out]
end Go.Proofs.Ytejnpppejalhfab
/- The contracts of area.Total, Find, and of the reference's Pages, AreaAt. -/
namespace Go.Proofs.Ytejnpppejalhfab
open Go.RowKit Go.Sort

theorem check_sl {v : Value} {L : List Ar} {w : World} (h : SlAr w v L) : Calls Try.prog 62 #[v] w (RB (.int .i64 (checkI L)) w) := by
  rcases h with ⟨p, c, rfl, rfl⟩ | ⟨b, off, cap, rfl, h2, h3, h4, h5⟩
  · exact check_nil p c w
  · exact check_any b off cap L w h2 h3 h4 h5

theorem sumN_take {L : List Ar} : ∀ {i : Nat} {a : Ar}, L[i]? = some a → sumN (L.take (i + 1)) = sumN (L.take i) + a.n := by
  induction L with
  | nil => intro i a h; simp at h
  | cons c L ih =>
    intro i a h
    cases i with
    | zero => simp at h; subst h; simp [sumN]
    | succ i => simp only [List.take_succ_cons, sumN]; rw [ih (by simpa using h)]; omega
theorem sumN_bound {L : List Ar} (h : ∀ (i : Nat) (a : Ar), L[i]? = some a → a.ok) : ∀ i : Nat, i ≤ L.length → 0 ≤ sumN (L.take i) ∧ sumN (L.take i) ≤ 255 * (i : Int) := by
  intro i
  induction i with
  | zero => intro _; simp [sumN]
  | succ i ih =>
    intro hi
    obtain ⟨h1, h2⟩ := ih (by omega)
    have ha := h i L[i] (by simp [hi])
    rw [sumN_take (a := L[i]) (by simp [hi])]
    unfold Ar.ok at ha
    omega
theorem good_ok {L : List Ar} (h : Good L) : ∀ (i : Nat) (a : Ar), L[i]? = some a → a.ok := fun i a ha => okAt_ok ha ((good_iff L).1 h i (by
  obtain ⟨hi, _⟩ := List.getElem?_eq_some_iff.1 ha; exact hi))
theorem checkI_zero {L : List Ar} : checkI L = 0 ↔ L.length ≤ 255 ∧ Good L := by
  unfold checkI
  split
  · exact ⟨fun h => by omega, fun h => by omega⟩
  · split
    · exact ⟨fun _ => ⟨by omega, by assumption⟩, fun _ => rfl⟩
    · exact ⟨fun h => by omega, fun h => absurd h.2 (by assumption)⟩

set_option maxRecDepth 100000 in
set_option maxHeartbeats 4000000 in
theorem total_bad {v : Value} {L : List Ar} {w : World} (h : SlAr w v L) (hc : checkI L ≠ 0) : Calls Try.prog 63 #[v] w (RB (.int .i64 0) w) := by
  have HC := hid (check_sl h)
  have hn : (checkI L == 0) = false := by rw [beq_eq_false_iff_ne]; exact hc
  clear h hc
  generalize checkI L = r at *
  go_enter Try.func63, Try.ntmps63
  go_wp2_with (first | (go_at_call 62; (with_reducible refine (HC.out).mono ?_); rintro e w1 ⟨rfl, hb1⟩))
  go_ret
  exact ⟨rfl, (by repeat ((with_reducible assumption)))⟩

set_option maxRecDepth 100000 in
set_option maxHeartbeats 4000000 in
theorem total_good {v : Value} {L : List Ar} {w : World} (h : SlAr w v L) (hc : checkI L = 0) : Calls Try.prog 63 #[v] w (RB (.int .i64 (sumN L)) w) := by
  have HC := hid (check_sl h)
  rw [hc] at HC
  obtain ⟨hlen, hg⟩ := checkI_zero.1 hc
  have hok := good_ok hg
  have HB := hid (sumN_bound hok)
  clear hc hg
  rcases h with ⟨p, c, rfl, rfl⟩ | ⟨b, off, cap, rfl, hbl, hcap, hmax, hcells⟩
  · go_enter Try.func63, Try.ntmps63
    go_wp2_with (first | (go_at_call 62; (with_reducible refine (HC.out).mono ?_); rintro e w1 ⟨rfl, hb1⟩))
    go_loopw [3, 11] (fun vn vi wr => vn = .int .i64 0 ∧ vi = .int .i64 0 ∧ wr = w1) (fun _ _ _ => 0)
    case atStart => exact ⟨rfl, rfl, rfl⟩
    case round =>
      obtain ⟨rfl, rfl, rfl⟩ := hrel
      go_wp2
      go_ret
      exact ⟨rfl, (by repeat ((with_reducible assumption)))⟩
  · unfold maxLen at hmax
    have HL := hid hcells
    have HO := hid hok
    clear hcells hok
    go_enter Try.func63, Try.ntmps63
    go_wp2_with (first | (go_at_call 62; (with_reducible refine (HC.out).mono ?_); rintro e w1 ⟨rfl, hb1⟩))
    go_loopw [3, 11] (fun vn vi wr => ∃ i : Nat, i ≤ L.length ∧ vi = .int .i64 i ∧ vn = .int .i64 (sumN (L.take i)) ∧ Below w.heap.size w wr) (fun _ vi _ => L.length - (intOf vi).toNat)
    case atStart => exact ⟨0, by omega, rfl, by simp [sumN], hb1⟩
    case round =>
      obtain ⟨i, hi, rfl, rfl, hb⟩ := hrel
      by_cases hlt : i < L.length
      · obtain ⟨a, ha⟩ : ∃ a, L[i]? = some a := ⟨L[i], by simp [hlt]⟩
        obtain ⟨c0, c1, c2, c3⟩ := (HL.out i a ha).grown hb hbl
        have hbr := ltAll (Nat.lt_of_lt_of_le hbl hb.size)
        have hsz := hb.size
        have hs := sumN_take ha
        have hn := HB.out i hi
        have hn2 := HO.out i a ha
        unfold Ar.ok at hn2
        have hw : wrap64 (sumN (L.take i) + a.n) = sumN (L.take i) + a.n := wrap64_small _ (by omega) (by omega)
        have HS := hid hs
        clear hs hn hn2
        generalize sumN (L.take i) = q at *
        go_wp2
        go_roundw
        case rel => exact ⟨i + 1, by omega, by go_num, by rw [HS.out, hw], (by repeat (first | (with_reducible assumption) | (with_reducible refine Below.alloc ?_ (by (omega)) _)))⟩
        case measure => simp [intOf]; omega
      · go_wp2
        go_ret
        have : i = L.length := by omega
        subst this
        exact ⟨ret_int (by simp), hb⟩
end Go.Proofs.Ytejnpppejalhfab
/- The contracts of the reference's Pages, AreaAt. -/
namespace Go.Proofs.Ytejnpppejalhfab
open Go.RowKit Go.Sort

def zeroAr : Ar := ⟨0, 0, 0, false⟩
def holdsB (page : Int) (a : Ar) : Bool := decide (a.pg ≤ page ∧ page < a.fin)
def findA (L : List Ar) (page : Int) : Option Ar := L.find? (holdsB page)
theorem findA_some {L : List Ar} {page : Int} : ∀ {i : Nat} {a : Ar}, (∀ (j : Nat) (b : Ar), j < i → L[j]? = some b → holdsB page b = false) → L[i]? = some a → holdsB page a = true → findA L page = some a := by
  unfold findA
  induction L with
  | nil => intro i a _ h; simp at h
  | cons c L ih =>
    intro i a h1 h2 h3
    cases i with
    | zero => simp at h2; subst h2; rw [List.find?_cons, h3]
    | succ i =>
      have hc := h1 0 c (by omega) rfl
      rw [List.find?_cons, hc]
      exact ih (i := i) (fun j b hj hb => h1 (j + 1) b (by omega) (by simpa using hb)) (by simpa using h2) h3
theorem findA_none {L : List Ar} {page : Int} (h : ∀ (j : Nat) (b : Ar), j < L.length → L[j]? = some b → holdsB page b = false) : findA L page = none := by
  unfold findA
  rw [List.find?_eq_none]
  intro x hx
  obtain ⟨j, hj, rfl⟩ := List.getElem_of_mem hx
  have := h j L[j] hj (by simp)
  simp [this]
def zl4 : List Value := [.int .i64 0, .int .i64 0, .int .i64 0, .bool false]
def FindV (o : Option Ar) : Value := .tuple #[.agg (arC (o.getD zeroAr)).toArray, .bool o.isSome]

end Go.Proofs.Ytejnpppejalhfab
/- The contracts of the reference's mark and boardOf. -/
namespace Go.Proofs.Ytejnpppejalhfab
open Go.RowKit Go.Sort

set_option maxRecDepth 100000 in
theorem mark_any (prot : Int) (z : Bool) (h : 0 ≤ prot ∧ prot ≤ 3) (w : World) : Calls Try.prog 53 #[.int .i64 prot, .bool z] w fun e w' => e = .returned (.int .i64 (1 + 2 * prot + (if z then 8 else 0))) ∧ w = w' := by
  obtain ⟨h1, h2⟩ := h
  cases z
  · go_enter Try.func53, Try.ntmps53
    go_wp2
    go_ret
    exact ⟨ret_int (by simp), rfl⟩
  · go_enter Try.func53, Try.ntmps53
    go_wp2
    go_ret
    exact ⟨ret_int (by simp), rfl⟩

/-- a board's cells -/
def bdC (b : Int → Int) : List Value := (List.range 256).map fun p : Nat => Value.int .i64 (b p)
theorem bdC_len (b : Int → Int) : (bdC b).length = 256 := by simp [bdC]
theorem bdC_at (b : Int → Int) (p : Nat) (h : p < 256) : (bdC b)[p]? = some (.int .i64 (b p)) := by simp [bdC, h]
theorem bdC_set (b : Int → Int) (p : Nat) (n : Int) : (bdC b).set p (.int .i64 n) = bdC (fun x => if x = p then n else b x) := by
  apply List.ext_getElem?
  intro i
  by_cases hi : i < 256
  · rw [bdC_at _ _ hi]
    by_cases e : p = i
    · subst e
      rw [List.getElem?_set_self (by rw [bdC_len]; exact hi)]; simp
    · rw [List.getElem?_set_ne e, bdC_at _ _ hi]
      rw [if_neg (by omega)]
  · rw [List.getElem?_eq_none (by rw [List.length_set, bdC_len]; omega), List.getElem?_eq_none (by rw [bdC_len]; omega)]
theorem bdC_ext {b b' : Int → Int} (h : ∀ p : Int, 0 ≤ p → p ≤ 255 → b p = b' p) : bdC b = bdC b' := by
  unfold bdC
  apply List.map_congr_left
  intro p hp
  rw [List.mem_range] at hp
  rw [h p (by omega) (by omega)]
instance riseDec : (e : Int) → (l : List Ar) → Decidable (RiseF e l)
  | _, [] => isTrue trivial
  | e, a :: l => by
    unfold RiseF
    have := riseDec a.fin l
    infer_instance
end Go.Proofs.Ytejnpppejalhfab
/- The contract of the reference's boardOf. -/
namespace Go.Proofs.Ytejnpppejalhfab
open Go.RowKit Go.Sort

end Go.Proofs.Ytejnpppejalhfab
/- Rows of areas that a call owns; the contract of the reference's areasOf. -/
namespace Go.Proofs.Ytejnpppejalhfab
open Go.RowKit Go.Sort

def flat (L : List Ar) : List Value := L.flatMap arC
theorem flat_len (L : List Ar) : (flat L).length = L.length * 4 := by
  induction L with
  | nil => rfl
  | cons a L ih => unfold flat at *; simp [arC, ih]; omega
theorem flat_snoc (L : List Ar) (a : Ar) : flat (L ++ [a]) = flat L ++ arC a := by simp [flat]
theorem flat_grow (L : List Ar) (a : Ar) (n : Int) : flat (L ++ [{ a with n := n }]) = (flat (L ++ [a])).set (L.length * 4 + 1) (.int .i64 n) := by
  rw [flat_snoc, flat_snoc, List.set_append_right _ _ (by rw [flat_len]; omega), flat_len, show L.length * 4 + 1 - L.length * 4 = 1 by omega]
  rfl
theorem flat_at (L : List Ar) (a : Ar) (j : Nat) (h : j < 4) : (flat (L ++ [a]))[L.length * 4 + j]? = (arC a)[j]? := by
  rw [flat_snoc, List.getElem?_append_right (by rw [flat_len]; omega), flat_len, show L.length * 4 + j - L.length * 4 = j by omega]
theorem own_below {w w' : World} {base : Nat} {e : TypeId} {size n : Nat} {v : Value} {xs : List Value} (h : w.ownsRow base e size v n xs) (hb : Below w.heap.size w w') : w'.ownsRow base e size v n xs := by
  refine ⟨h.1, ?_⟩
  rcases h.2 with hn | ⟨g, cap, cur, rfl, hbg, hgg, rest⟩
  · exact .inl hn
  · exact .inr ⟨g, cap, cur, rfl, hbg, by rw [hb.block g (Array.getElem?_eq_some_iff.1 hgg).1]; exact hgg, rest⟩

theorem aUpto_pos (b : Int → Int) (k : Nat) : ∀ a ∈ aUpto b k, 1 ≤ a.pg ∧ 1 ≤ a.n := by
  induction k with
  | zero => intro a h; simp [aUpto] at h
  | succ k ih =>
    unfold aUpto aStep
    split
    · exact ih
    split
    · intro a h
      rcases List.eq_nil_or_concat (aUpto b k) with e | ⟨l, c, e⟩
      · rw [e] at h; simp [growLast] at h
      · rw [e] at ih h
        simp only [List.concat_eq_append] at ih h
        rw [growLast_eq] at h
        rcases List.mem_append.1 h with h | h
        · exact ih a (List.mem_append.2 (Or.inl h))
        · have : a = { c with n := c.n + 1 } := by simpa using h
          subst this
          have := ih c (by simp)
          exact ⟨this.1, by simp only; omega⟩
    · intro a h
      rcases List.mem_append.1 h with h | h
      · exact ih a h
      · rw [List.mem_singleton] at h
        rw [h]
        exact ⟨by simp only; omega, by simp only; omega⟩
theorem aUpto_len (b : Int → Int) (k : Nat) : (aUpto b k).length ≤ k := by
  induction k with
  | zero => simp [aUpto]
  | succ k ih =>
    unfold aUpto aStep
    split
    · omega
    split
    · rcases List.eq_nil_or_concat (aUpto b k) with e | ⟨l, c, e⟩
      · rw [e]; simp [growLast]
      · rw [e] at ih ⊢
        simp only [List.concat_eq_append] at ih ⊢
        rw [growLast_eq]
        simp at ih ⊢
        omega
    · simp; omega

/-- a row of one's own, begun behind base -/
def OwnAr (base : Nat) (w : World) (v : Value) (L : List Ar) : Prop := w.ownsRow base 131 4 v L.length (flat L)
theorem own_base {w : World} {base base' : Nat} {v : Value} {L : List Ar} (h : w.ownsRow base 131 4 v L.length (flat L)) (hb : base' ≤ base) : OwnAr base' w v L := by
  refine ⟨h.1, ?_⟩
  rcases h.2 with hn | ⟨g, cap, cur, rfl, hg, rest⟩
  · exact .inl hn
  · exact .inr ⟨g, cap, cur, rfl, Nat.le_trans hb hg, rest⟩
def AreasPost (L : List Ar) (w : World) (e : Ending) (w' : World) : Prop := ∃ v, e = .returned v ∧ OwnAr w.heap.size w' v L ∧ Below w.heap.size w w'
theorem info_area : ∃ i, (Try.prog).info? 131 = some i ∧ i.zero = some (.agg #[.int .i64 0, .int .i64 0, .int .i64 0, .bool false]) ∧ i.size = 4 ∧ i.bytes = 32 := by
  have h : ((Try.prog).info? 131).map (fun i => (i.zero, i.size, i.bytes)) = some (some (.agg #[.int .i64 0, .int .i64 0, .int .i64 0, .bool false]), 4, 32) := by kernel_rfl
  cases hq : (Try.prog).info? 131 with
  | none => simp [hq] at h
  | some i =>
    simp [hq] at h
    exact ⟨i, rfl, h.1, h.2.1, h.2.2⟩
theorem cells_new (W : World) (c0 c1 c2 c3 : Value) (t : TypeId) : ∀ (j : Nat) (u : Value), [c0, c1, c2, c3][j]? = some u → (W.alloc (.cells #[c0, c1, c2, c3] t)).cell? ((⟨W.heap.size, 0, none⟩ : Addr).add j) = some u := by
  intro j u h
  rw [show (⟨W.heap.size, 0, none⟩ : Addr).add j = ⟨W.heap.size, j, none⟩ from by unfold Addr.add; split <;> simp_all]
  rw [World.cell?_alloc_mark, ← h]
  simp

theorem ms4 {k : Nat} (h : k < 255) : (256 - ((k : Int) + 1 + 1)).toNat < (256 - ((k : Int) + 1)).toNat := by omega
set_option maxRecDepth 100000 in
set_option maxHeartbeats 4000000 in
theorem areasOf_any (b : Int → Int) (hm : ∀ p, Mark (b p)) (h0 : b 0 = 0) (w : World) : Calls Try.prog 55 #[.agg (bdC b).toArray] w (AreasPost (aUpto b 255) w) := by
  obtain ⟨i0, hi0, hz0, hs0, hy0⟩ := info_area
  have HI := hid hi0
  have HZ := hid hz0
  have HSZ := hid hs0
  have HY := hid hy0
  have HA := hid (aUpto_apart b hm h0)
  have HP := hid (aUpto_pos b)
  have HN := hid (aUpto_len b)
  have HM := hid hm
  have HB := hid (bdC_at b)
  clear hi0 hz0 hs0 hy0 hm h0
  have hbw := Below.refl w.heap.size w
  obtain ⟨B, hB⟩ : ∃ B, B = bdC b := ⟨_, rfl⟩
  rw [← hB] at HB ⊢
  clear hB
  go_enter Try.func55, Try.ntmps55
  go_wp2_with (first | ((with_reducible refine at_op 1 ?_); refine wpList_box_row' rfl 117 (.tmp 0) rfl (some 1) rfl (B) rfl w.heap.size w hbw hbw.size ?_; intro g1 wn1 hL1 hB1 hbn hkn hnn; skip; clear hbw hkn hnn; have hbw := hbn; clear hbn))
  go_loopw [3, 4] (fun vo vp wr => ∃ k : Nat, k ≤ 255 ∧ vp = .int .i64 ((k : Int) + 1) ∧ Below wn1.heap.size wn1 wr ∧ wr.ownsRow wn1.heap.size 131 4 vo (aUpto b k).length (flat (aUpto b k))) (fun _ vp _ => (256 - intOf vp).toNat)
  case atStart => exact ⟨0, by omega, rfl, Below.refl _ _, World.ownsRow_nil _ _ _ _⟩
  case round =>
    obtain ⟨k, hk, rfl, hb2, hown⟩ := hrel
    by_cases hlt : k < 255
    · have h1b := hL1.grown hb2 hL1.lt
      have e0 := (h1b.cell k).trans (HB.out k (by omega))
      have e1 := (h1b.cell (k + 1)).trans (HB.out (k + 1) (by omega))
      rw [show ((k + 1 : Nat) : Int) = (k : Int) + 1 by omega] at e1
      have z1 := ltAll h1b.lt
      have HS : Hid (aUpto b (k + 1) = aStep b (aUpto b k) ((k : Int) + 1)) := hid rfl
      by_cases c1 : b ((k : Int) + 1) = 0
      · have c1' : (b ((k : Int) + 1) == 0) = true := by simpa using c1
        have HX : Hid (aUpto b (k + 1) = aUpto b k) := by refine hid ?_; rw [HS.out]; unfold aStep; rw [if_pos c1]
        clear c1
        generalize b ((k : Int) + 1) = bp at *
        have HMS := hid (ms4 hlt)
        go_wp2
        exact ⟨⟨k + 1, hlt, rfl, hb2, by rw [HX.out]; exact hown⟩, HMS.out⟩
      have c1' : (b ((k : Int) + 1) == 0) = false := by simpa using c1
      have hmk := HM.out ((k : Int) + 1)
      by_cases c2 : b k = b ((k : Int) + 1)
      · have c2' : (b k == b ((k : Int) + 1)) = true := by simpa using c2
        obtain ⟨l, a, hla, hfin⟩ := (HA.out k).2.2 (by rw [c2]; exact c1)
        have HX : Hid (aUpto b (k + 1) = l ++ [{ a with n := a.n + 1 }]) := by
          refine hid ?_
          rw [HS.out]; unfold aStep
          rw [if_neg c1, if_pos (by rw [show (k : Int) + 1 - 1 = k by omega]; exact c2), hla, growLast_eq]
        have hpg := HP.out k a (by rw [hla]; simp)
        have hfn : a.fin = a.pg + a.n := rfl
        have hw : wrap64 (a.n + 1) = a.n + 1 := by
          exact wrap64_small _ (by omega) (by omega)
        have HF := hid (flat_grow l a (a.n + 1))
        have HAT := hid (flat_at l a 1 (by decide))
        rw [hla, show (l ++ [a]).length = l.length + 1 by simp] at hown
        have hlen : l.length ≤ 255 := by have := HN.out k; rw [hla] at this; simp at this; omega
        rcases hown.2 with ⟨_, h⟩ | ⟨g, cap, cur, rfl, hbg, hgg, hnc, hcm, hrest⟩
        · omega
        have hglt := (Array.getElem?_eq_some_iff.1 hgg).1
        clear hgg hcm hrest cur
        have HMS := hid (ms4 hlt)
        clear c1 c2 hla hfin hpg hfn hmk
        generalize b ((k : Int) + 1) = bp at *
        generalize b k = bk at *
        have t0 : wr.cell? ⟨g, l.length * 4 + 1, none⟩ = some (.int .i64 a.n) := (hown.cellAt (l.length * 4 + 1) (by omega)).trans HAT.out
        have t1 := hown.frozenAt (l.length * 4 + 1)
        have zg := ltAll hglt
        go_wp2
        refine wp_region_quiet_below (by kernel_rfl) (by kernel_rfl) ?_
        repeat ((go_big_quiet_step ((fail))))
        refine wpQuiet_nil ?_
        intro wq hw'
        obtain ⟨⟨dq, osq⟩, hw''⟩ := hw'
        have hbr := of_regrown hw''
        clear hw''
        first
          | (have hbn := bt hbq hbr; clear hcq hfq hzq hbq hbr; have hbq := hbn; clear hbn)
          | (have hbq := hbr; clear hbr)
        obtain ⟨hcq, hfq, hzq⟩ := bcell3 hbq
        have hown := own_below hown hbq
        have hb2 := bt hb2 hbq
        have HS2 := hid (hown.stored (l.length * 4 + 1) (.int .i64 (a.n + 1)))
        go_wp2
        refine ⟨⟨k + 1, hlt, rfl, hb2.setCell hbg _, ?_⟩, HMS.out⟩
        rw [HX.out, HF.out]
        simpa using HS2.out.1
      · have c2' : (b k == b ((k : Int) + 1)) = false := by simpa using c2
        have HX : Hid (aUpto b (k + 1) = aUpto b k ++ [⟨(k : Int) + 1, 1, (b ((k : Int) + 1) - 1) % 8 / 2, decide (8 ≤ b ((k : Int) + 1) - 1)⟩]) := by
          refine hid ?_
          rw [HS.out]; unfold aStep
          rw [if_neg c1, if_neg (by rw [show (k : Int) + 1 - 1 = k by omega]; exact c2)]
        have HMS := hid (ms4 hlt)
        have hlen := HN.out k
        have hmk2 : 1 ≤ b ((k : Int) + 1) ∧ b ((k : Int) + 1) ≤ 16 := by unfold Mark at hmk; omega
        obtain ⟨m1, m2⟩ := hmk2
        have hr1 : (b ((k : Int) + 1) - 1).tmod 8 = (b ((k : Int) + 1) - 1) % 8 := Int.tmod_eq_emod_of_nonneg (by omega)
        have hr2 : ((b ((k : Int) + 1) - 1) % 8).tdiv 2 = (b ((k : Int) + 1) - 1) % 8 / 2 := Int.tdiv_eq_ediv_of_nonneg (by omega)
        clear c1 c2 hmk
        generalize aUpto b k = U at *
        generalize b ((k : Int) + 1) = bp at *
        generalize b k = bk at *
        go_wp2
        refine wp_region_quiet_below (by kernel_rfl) (by kernel_rfl) ?_
        repeat ((go_big_quiet_step ((fail))))
        refine wpQuiet_nil ?_
        intro wq hw'
        obtain ⟨⟨dq, osq⟩, hw''⟩ := hw'
        have hbr := of_regrown hw''
        clear hw''
        first
          | (have hbn := bt hbq hbr; clear hcq hfq hzq hbq hbr; have hbq := hbn; clear hbn)
          | (have hbq := hbr; clear hbr)
        obtain ⟨hcq, hfq, hzq⟩ := bcell3 hbq
        have hown := own_below hown hbq
        have hb2 := bt hb2 hbq
        go_wp2_with (first | ((with_reducible refine at_op 45 ?_); go_must (refine wpList_append_own_wide _ rfl (.tmp 36) (.tmp 44) 37 rfl wn1.heap.size 131 i0 (.agg #[.int .i64 0, .int .i64 0, .int .i64 0, .bool false]) 4 32 Try.underlying37 HI.out HZ.out HSZ.out HY.out rfl (by decide) u3 U.length (flat U) rfl (hown.alloc _) ⟨wq.heap.size, 0, none⟩ 1 1 [.int .i64 ((k : Int) + 1), .int .i64 1, .int .i64 ((bp - 1) % 8 / 2), .bool (decide (8 ≤ bp - 1))] rfl rfl (cells_new wq _ _ _ _ _) (by intro u hu; simp at hu; rcases hu with rfl | rfl | rfl | rfl <;> rfl) (by unfold maxLen; omega) (by omega) (by have := hb2.size; simp; omega) ?_); intro v3 w3 hown3 hg3 hn3))
        have hb3 := (hb2.alloc hb2.size _).grown hg3 (by have := hb2.size; simp; omega) (fun j hj => (hown.lt j hj).1)
        refine ⟨⟨k + 1, hlt, rfl, hb3, ?_⟩, HMS.out⟩
        rw [HX.out, flat_snoc, List.length_append]
        exact hown3
    · go_wp2
      go_ret
      obtain rfl : k = 255 := by omega
      exact ⟨_, rfl, own_base hown hbw.size, bt hbw hb2⟩
end Go.Proofs.Ytejnpppejalhfab
/- The contract of the reference's SameAreas. -/
namespace Go.Proofs.Ytejnpppejalhfab
open Go.RowKit Go.Sort

theorem same_index {A B : List Ar} (hl : A.length = B.length) (h : ∀ (i : Nat) (a b : Ar), A[i]? = some a → B[i]? = some b → a = b) : A = B := by
  apply List.ext_getElem hl
  intro i h1 h2
  exact h i _ _ (by simp [h1]) (by simp [h2])
theorem same_not {A B : List Ar} {i : Nat} {a b : Ar} (ha : A[i]? = some a) (hb : B[i]? = some b) (h : a ≠ b) : A ≠ B := fun e => by
  subst e; rw [ha] at hb; cases hb; exact h rfl
theorem len_not {A B : List Ar} (h : A.length ≠ B.length) : A ≠ B := fun e => h (by rw [e])

theorem ms5 {i n : Nat} (h : i < n) : n - ((i : Int) + 1).toNat < n - ((i : Int)).toNat := by omega
theorem wrap_succ' (h n : Nat) (h1 : h < n) (h2 : n ≤ 9223372036854775807) : wrap64 ((h : Int) + 1) = (h : Int) + 1 := by unfold wrap64; omega
set_option maxRecDepth 100000 in
set_option maxHeartbeats 4000000 in
theorem same_some {A B : List Ar} {w : World} (b1 off1 cap1 b2 off2 cap2 : Nat) (hb1 : b1 < w.heap.size) (hb2 : b2 < w.heap.size) (hc1 : ∀ i a, A[i]? = some a → CellsAr w b1 (off1 + i * 4) a) (hc2 : ∀ i a, B[i]? = some a → CellsAr w b2 (off2 + i * 4) a) (hl : A.length = B.length) (hmax : A.length ≤ 9223372036854775807) :
    Calls Try.prog 56 #[.slice (some ⟨b1, off1, none⟩) A.length cap1, .slice (some ⟨b2, off2, none⟩) B.length cap2] w (RB (.bool (decide (A = B))) w) := by
  have HA := hid hc1
  have HB := hid hc2
  have HL := hid hl
  have HM := hid hmax
  rw [← hl]
  clear hc1 hc2 hl hmax
  go_enter Try.func56, Try.ntmps56
  go_wp2
  go_loopw [5] (fun vi wr => ∃ i : Nat, i ≤ A.length ∧ vi = .int .i64 i ∧ Below w.heap.size w wr ∧ Hid (∀ (j : Nat) (a b : Ar), j < i → A[j]? = some a → B[j]? = some b → a = b)) (fun vi _ => A.length - (intOf vi).toNat)
  case atStart => exact ⟨0, by omega, rfl, Below.refl _ _, fun j a b hj => by omega⟩
  case round =>
    obtain ⟨i, hi, rfl, hb, HO⟩ := hrel
    by_cases hlt : i < A.length
    · obtain ⟨a, ha⟩ : ∃ a, A[i]? = some a := ⟨A[i], by simp [hlt]⟩
      obtain ⟨b, hbb⟩ : ∃ b, B[i]? = some b := ⟨B[i]'(by have := HL.out; omega), by simp⟩
      obtain ⟨c0, c1, c2, c3⟩ := (HA.out i a ha).grown hb hb1
      obtain ⟨d0, d1, d2, d3⟩ := (HB.out i b hbb).grown hb hb2
      have z1 := ltAll (Nat.lt_of_lt_of_le hb1 hb.size)
      have z2 := ltAll (Nat.lt_of_lt_of_le hb2 hb.size)
      by_cases e : a = b
      · have HX := hid e
        subst e
        have hli : (i : Int) < A.length := Int.ofNat_lt.2 hlt
        have hws := wrap_succ' i A.length hlt HM.out
        have HMS := hid (ms5 hlt)
        go_wp2
        refine wp_region_quiet_below (by kernel_rfl) (by kernel_rfl) ?_
        repeat (first | go_big_quiet_step ((fail)) | quiet_step ((fail)))
        refine wpQuiet_nil ?_
        intro wq hw'
        obtain ⟨⟨dq, osq⟩, hw''⟩ := hw'
        have hbr := of_regrown hw''
        clear hw''
        first
          | (have hbn := bt hbq hbr; clear hcq hfq hzq hbq hbr; have hbq := hbn; clear hbn)
          | (have hbq := hbr; clear hbr)
        obtain ⟨hcq, hfq, hzq⟩ := bcell3 hbq
        go_wp2
        go_roundw
        case rel =>
          refine ⟨i + 1, hlt, by first | rfl | (rw [hws]; rfl), bt hb hbq, fun j x y hj hx hy => ?_⟩
          rcases Nat.lt_succ_iff_lt_or_eq.1 hj with h | h
          · exact HO.out j x y h hx hy
          · subst h; rw [ha] at hx; rw [hbb] at hy; cases hx; cases hy; rfl
        case measure => first | exact HMS.out | (rw [hws]; exact HMS.out)
      · have HX := hid (same_not ha hbb e)
        by_cases e1 : a.pg = b.pg
        · by_cases e2 : a.n = b.n
          · by_cases e3 : a.prot = b.prot
            · have e4 : ¬ a.z = b.z := fun h => e (by cases a; cases b; simp_all)
              have f1 : (a.pg == b.pg) = true := by simpa using e1
              have f2 : (a.n == b.n) = true := by simpa using e2
              have f3 : (a.prot == b.prot) = true := by simpa using e3
              have f4 : (a.z == b.z) = false := by simpa using e4
              clear e e1 e2 e3 e4
              go_wp2
              refine wp_region_quiet_below (by kernel_rfl) (by kernel_rfl) ?_
              repeat (first | go_big_quiet_step ((fail)) | quiet_step ((fail)))
              refine wpQuiet_nil ?_
              intro wq hw'
              obtain ⟨⟨dq, osq⟩, hw''⟩ := hw'
              have hbr := of_regrown hw''
              clear hw''
              first
                | (have hbn := bt hbq hbr; clear hcq hfq hzq hbq hbr; have hbq := hbn; clear hbn)
                | (have hbq := hbr; clear hbr)
              obtain ⟨hcq, hfq, hzq⟩ := bcell3 hbq
              go_wp2
              go_ret
              exact ⟨ret_bool (decide_eq_false HX.out).symm, bt hb hbq⟩
            · have f1 : (a.pg == b.pg) = true := by simpa using e1
              have f2 : (a.n == b.n) = true := by simpa using e2
              have f3 : (a.prot == b.prot) = false := by simpa using e3
              clear e e1 e2 e3
              go_wp2
              refine wp_region_quiet_below (by kernel_rfl) (by kernel_rfl) ?_
              repeat (first | go_big_quiet_step ((fail)) | quiet_step ((fail)))
              refine wpQuiet_nil ?_
              intro wq hw'
              obtain ⟨⟨dq, osq⟩, hw''⟩ := hw'
              have hbr := of_regrown hw''
              clear hw''
              first
                | (have hbn := bt hbq hbr; clear hcq hfq hzq hbq hbr; have hbq := hbn; clear hbn)
                | (have hbq := hbr; clear hbr)
              obtain ⟨hcq, hfq, hzq⟩ := bcell3 hbq
              go_wp2
              go_ret
              exact ⟨ret_bool (decide_eq_false HX.out).symm, bt hb hbq⟩
          · have f1 : (a.pg == b.pg) = true := by simpa using e1
            have f2 : (a.n == b.n) = false := by simpa using e2
            clear e e1 e2
            go_wp2
            refine wp_region_quiet_below (by kernel_rfl) (by kernel_rfl) ?_
            repeat (first | go_big_quiet_step ((fail)) | quiet_step ((fail)))
            refine wpQuiet_nil ?_
            intro wq hw'
            obtain ⟨⟨dq, osq⟩, hw''⟩ := hw'
            have hbr := of_regrown hw''
            clear hw''
            first
              | (have hbn := bt hbq hbr; clear hcq hfq hzq hbq hbr; have hbq := hbn; clear hbn)
              | (have hbq := hbr; clear hbr)
            obtain ⟨hcq, hfq, hzq⟩ := bcell3 hbq
            go_wp2
            go_ret
            exact ⟨ret_bool (decide_eq_false HX.out).symm, bt hb hbq⟩
        · have f1 : (a.pg == b.pg) = false := by simpa using e1
          clear e e1
          go_wp2
          refine wp_region_quiet_below (by kernel_rfl) (by kernel_rfl) ?_
          repeat (first | go_big_quiet_step ((fail)) | quiet_step ((fail)))
          refine wpQuiet_nil ?_
          intro wq hw'
          obtain ⟨⟨dq, osq⟩, hw''⟩ := hw'
          have hbr := of_regrown hw''
          clear hw''
          first
            | (have hbn := bt hbq hbr; clear hcq hfq hzq hbq hbr; have hbq := hbn; clear hbn)
            | (have hbq := hbr; clear hbr)
          obtain ⟨hcq, hfq, hzq⟩ := bcell3 hbq
          go_wp2
          go_ret
          exact ⟨ret_bool (decide_eq_false HX.out).symm, bt hb hbq⟩
    · go_wp2
      go_ret
      obtain rfl : i = A.length := by omega
      exact ⟨ret_bool (decide_eq_true (same_index HL.out fun j x y hx hy => HO.out j x y (List.getElem?_eq_some_iff.1 hx).1 hx hy)).symm, hb⟩
end Go.Proofs.Ytejnpppejalhfab
/- joined: the plain side. -/
namespace Go.Proofs.Ytejnpppejalhfab
open Go.RowKit Go.Sort

theorem joinStep_len (J : List Ar) (a : Ar) : (joinStep J a).length ≤ J.length + 1 := by
  unfold joinStep
  split
  · split <;> simp
  · simp
end Go.Proofs.Ytejnpppejalhfab
/- area.end, area.one, by the step calculus. -/
namespace Go.Proofs.Ytejnpppejalhfab
open Go.RowKit Go.Sort
end Go.Proofs.Ytejnpppejalhfab
/- area.joined, by the step calculus. -/
namespace Go.Proofs.Ytejnpppejalhfab
open Go.RowKit Go.Sort
theorem rise_ok {L : List Ar} : ∀ {e : Int}, RiseF e L → ∀ (i : Nat) (a : Ar), L[i]? = some a → a.ok := by
  induction L with
  | nil => intro e _ i a h; simp at h
  | cons b L ih =>
    intro e h i a ha
    cases i with
    | zero => simp at ha; subst ha; exact h.1
    | succ i => exact ih h.2.2 i a (by simpa using ha)
end Go.Proofs.Ytejnpppejalhfab
/- The contract of area.cut. -/
namespace Go.Proofs.Ytejnpppejalhfab
open Go.RowKit Go.Sort

/-- two rows of one's own lie apart -/
def RowsApart (v u : Value) : Prop := v.ownBlock = none ∨ v.ownBlock ≠ u.ownBlock
theorem RowsApart.symm {v u : Value} (h : RowsApart v u) : RowsApart u v := by
  unfold RowsApart at *
  cases hv : v.ownBlock <;> cases hu : u.ownBlock <;> simp_all
  omega
end Go.Proofs.Ytejnpppejalhfab
/- The contract of area.cut. -/
namespace Go.Proofs.Ytejnpppejalhfab
open Go.RowKit Go.Sort

end Go.Proofs.Ytejnpppejalhfab
/- slices.Grow of a nil slice of areas; slices.Concat of three. -/
namespace Go.Proofs.Ytejnpppejalhfab
open Go.RowKit Go.Sort

end Go.Proofs.Ytejnpppejalhfab
/- slices.Concat of rows of areas. -/
namespace Go.Proofs.Ytejnpppejalhfab
open Go.RowKit Go.Sort

end Go.Proofs.Ytejnpppejalhfab
/- slices.Concat of three rows of areas: the walk. -/
namespace Go.Proofs.Ytejnpppejalhfab
open Go.RowKit Go.Sort

theorem SlAr.below {w w' : World} {v : Value} {L : List Ar} (h : SlAr w v L) (hb : Below w.heap.size w w') : SlAr w' v L := by
  rcases h with h | ⟨b, off, cap, rfl, h2, h3, h4, h5⟩
  · exact Or.inl h
  · exact Or.inr ⟨b, off, cap, rfl, Nat.lt_of_lt_of_le h2 hb.size, h3, h4, fun i a ha => (h5 i a ha).grown hb h2⟩
end Go.Proofs.Ytejnpppejalhfab
/- The contract of area.Find. -/
namespace Go.Proofs.Ytejnpppejalhfab
open Go.RowKit Go.Sort

def cmpI (a : Ar) (page : Int) : Int := if wrap64 a.fin ≤ page then -1 else 1
set_option maxRecDepth 100000 in
set_option maxHeartbeats 1000000 in
theorem cmp_any (a : Ar) (page : Int) (w : World) : Calls Try.prog 110 #[.agg (arC a).toArray, .int .i64 page] w (RB (.int .i64 (cmpI a page)) w) := by
  have HE := hid (fun w => end_any a w)
  have HC : Hid (cmpI a page = if wrap64 a.fin ≤ page then -1 else 1) := hid rfl
  generalize wrap64 a.fin = f at *
  unfold arC at *
  by_cases h : f ≤ page
  · go_enter Try.func110, Try.ntmps110
    go_wp2_with (first | (go_at_call 107; (with_reducible refine (HE.out _).mono ?_); rintro e w1 ⟨rfl, hb1⟩))
    go_ret
    exact ⟨ret_int (by rw [HC.out, if_pos h]), (by repeat (first | (with_reducible exact Below.refl _ _) | (with_reducible refine Below.alloc ?_ (by (omega)) _) | (refine bt ?_ (by with_reducible assumption))))⟩
  · go_enter Try.func110, Try.ntmps110
    go_wp2_with (first | (go_at_call 107; (with_reducible refine (HE.out _).mono ?_); rintro e w1 ⟨rfl, hb1⟩))
    go_ret
    exact ⟨ret_int (by rw [HC.out, if_neg (by omega)]), (by repeat (first | (with_reducible exact Below.refl _ _) | (with_reducible refine Below.alloc ?_ (by (omega)) _) | (refine bt ?_ (by with_reducible assumption))))⟩
theorem cmp_ne (a : Ar) (page : Int) : (cmpI a page == 0) = false := by unfold cmpI; split <;> decide
theorem cmp_lt {a : Ar} {page : Int} : cmpI a page < 0 ↔ wrap64 a.fin ≤ page := by unfold cmpI; split <;> omega

/-- of good areas, what ends by a page stands ahead -/
theorem rise_fin {L : List Ar} (h : Good L) : ∀ {j k : Nat} {a b : Ar}, j < k → L[j]? = some a → L[k]? = some b → a.fin ≤ b.pg := by
  have ok := (good_iff L).1 h
  intro j k
  induction k with
  | zero => intro a b hj; omega
  | succ k ih =>
    intro a b hj ha hb
    obtain ⟨hk, _⟩ := List.getElem?_eq_some_iff.1 hb
    obtain ⟨c, hc⟩ : ∃ c, L[k]? = some c := ⟨L[k], by simp⟩
    have h1 := ((okAt_succ hb hc).1 (ok (k + 1) hk)).2.1
    rcases Nat.lt_succ_iff_lt_or_eq.1 hj with h2 | h2
    · have h3 := ih h2 ha hc
      have h4 := good_ok h k c hc
      unfold Ar.ok at h4
      unfold Ar.fin at *
      omega
    · subst h2; rw [ha] at hc; cases hc; exact h1

def BsInv (L : List Ar) (page : Int) (i j : Nat) : Prop := Good L → (∀ (t : Nat) (a : Ar), t < i → L[t]? = some a → a.fin ≤ page) ∧ (∀ (t : Nat) (a : Ar), j ≤ t → L[t]? = some a → page < a.fin)
theorem bs_start (L : List Ar) (page : Int) : BsInv L page 0 L.length := fun _ => ⟨fun t a h => by omega, fun t a h ha => by obtain ⟨h2, _⟩ := List.getElem?_eq_some_iff.1 ha; omega⟩
theorem bs_left {L : List Ar} {page : Int} {i j h : Nat} {a : Ar} (hI : BsInv L page i j) (ha : L[h]? = some a) (hc : cmpI a page < 0) : BsInv L page (h + 1) j := fun hg => by
  have hok := good_ok hg h a ha
  rw [cmp_lt, fin_wrap hok] at hc
  refine ⟨fun t b ht hb => ?_, (hI hg).2⟩
  rcases Nat.lt_succ_iff_lt_or_eq.1 ht with h1 | h1
  · have := rise_fin hg h1 hb ha
    have hb' := good_ok hg t b hb
    unfold Ar.ok at hok
    unfold Ar.fin at *
    omega
  · subst h1; rw [ha] at hb; cases hb; exact hc
theorem bs_right {L : List Ar} {page : Int} {i j h : Nat} {a : Ar} (hI : BsInv L page i j) (ha : L[h]? = some a) (hc : ¬ cmpI a page < 0) : BsInv L page i h := fun hg => by
  have hok := good_ok hg h a ha
  rw [cmp_lt, fin_wrap hok] at hc
  refine ⟨(hI hg).1, fun t b ht hb => ?_⟩
  rcases Nat.lt_or_eq_of_le ht with h1 | h1
  · have := rise_fin hg h1 ha hb
    have hb' := good_ok hg t b hb
    unfold Ar.ok at hb'
    unfold Ar.fin at *
    omega
  · subst h1; rw [ha] at hb; cases hb; omega

def BsPost (L : List Ar) (page : Int) (w : World) (e : Ending) (w' : World) : Prop := ∃ i : Nat, i ≤ L.length ∧ e = .returned (.tuple #[.int .i64 i, .bool false]) ∧ Below w.heap.size w w' ∧ BsInv L page i i

theorem half_num (i j n : Nat) (hi : i ≤ n) (hj : j ≤ n) (h : n ≤ 9223372036854775807) : IntKind.u64.wrap (wrap64 ((i : Int) + j)) = (i : Int) + j := by
  rw [IntKind.wrap_u64]; unfold wrap64; omega
theorem half_num0 (i j n : Nat) (hi : i ≤ n) (hj : j ≤ n) (h : n ≤ 9223372036854775807) : IntKind.u64.wrap ((i : Int) + j) = (i : Int) + j := by
  rw [IntKind.wrap_u64]; omega
theorem wrap_succ (h n : Nat) (h1 : h < n) (h2 : n ≤ 9223372036854775807) : wrap64 ((h : Int) + 1) = (h : Int) + 1 := by unfold wrap64; omega
theorem len_max {n cap : Nat} (h : n ≤ cap) (hm : cap ≤ maxLen) : n ≤ 9223372036854775807 := Nat.le_trans h hm
theorem ms1 {i j h : Nat} (h1 : i ≤ h) (h2 : h < j) : ((j : Int)).toNat - ((h : Int) + 1).toNat < (j : Int).toNat - (i : Int).toNat := by omega
theorem ms2 {i j h : Nat} (h1 : i ≤ h) (h2 : h < j) : ((h : Int)).toNat - (i : Int).toNat < (j : Int).toNat - (i : Int).toNat := by omega
theorem half_num2 (i j n : Nat) (hi : i ≤ n) (hj : j ≤ n) (h : n ≤ 9223372036854775807) : wrap64 (((i : Int) + j) / 2) = ((i + j) / 2 : Nat) := by
  unfold wrap64; omega
set_option maxRecDepth 100000 in
set_option maxHeartbeats 4000000 in
theorem bs_any {L : List Ar} {w : World} (b off cap : Nat) (page : Int) (hbl : b < w.heap.size) (hcap : L.length ≤ cap) (hmax : cap ≤ maxLen) (hcells : ∀ i a, L[i]? = some a → CellsAr w b (off + i * 4) a) :
    Calls Try.prog 109 #[.slice (some ⟨b, off, none⟩) L.length cap, .int .i64 page, .func (.func 110) #[] #[]] w (BsPost L page w) := by
  have hlen := len_max hcap hmax
  clear hmax hcap
  have HLEN := hid hlen; clear hlen
  have HL := hid hcells
  have HI := hid (bs_start L page)
  clear hcells
  go_enter Try.func109, Try.ntmps109
  go_wp2
  go_loopw [9, 10] (fun vi vj wr => ∃ i j : Nat, i ≤ j ∧ j ≤ L.length ∧ vi = .int .i64 i ∧ vj = .int .i64 j ∧ Below w.heap.size w wr ∧ Hid (BsInv L page i j)) (fun vi vj _ => (intOf vj).toNat - (intOf vi).toNat)
  case atStart => exact ⟨0, L.length, by omega, by omega, rfl, rfl, Below.refl _ _, HI.out⟩
  case round =>
    clear HI
    obtain ⟨i, j, hij, hj, rfl, rfl, hb, HI⟩ := hrel
    by_cases hlt : i < j
    · obtain ⟨h, hh⟩ : ∃ h, h = (i + j) / 2 := ⟨_, rfl⟩
      have hhj : h < j := by omega
      have hih : i ≤ h := by omega
      obtain ⟨a, ha⟩ : ∃ a, L[h]? = some a := ⟨L[h]'(by omega), by simp⟩
      obtain ⟨c0, c1, c2, c3⟩ := (HL.out h a ha).grown hb hbl
      have hbr := ltAll (Nat.lt_of_lt_of_le hbl hb.size)
      have hsz := hb.size
      have hq0 := half_num0 i j L.length (Nat.le_trans hij hj) hj HLEN.out
      have hq1 := half_num i j L.length (Nat.le_trans hij hj) hj HLEN.out
      have hq2 := half_num2 i j L.length (Nat.le_trans hij hj) hj HLEN.out
      rw [← hh] at hq2
      have HC := hid (fun w => cmp_any a page w)
      unfold arC at HC
      have hw1 : wrap64 ((h : Int) + 1) = (h : Int) + 1 := wrap_succ h L.length (Nat.lt_of_lt_of_le hhj hj) HLEN.out
      have hlh : (h : Int) < L.length := Int.ofNat_lt.2 (Nat.lt_of_lt_of_le hhj hj)
      clear hh
      go_upto_region 5 with fail
      rw [hq2]
      clear hq0 hq1 hq2
      by_cases hc : cmpI a page < 0
      · have HX := hid (bs_left HI.out ha hc)
        generalize cmpI a page = cv at *
        go_wp2_with (first | (go_at_call 110; (with_reducible refine (HC.out _).mono ?_); rintro e w1 ⟨rfl, hb1⟩))
        go_roundw
        case rel => exact ⟨h + 1, j, Nat.succ_le_of_lt hhj, hj, by rw [hw1]; rfl, rfl, (by repeat (first | (with_reducible assumption) | (refine bt ?_ (by with_reducible assumption)))), HX.out⟩
        case measure => (rw [hw1]; exact ms1 hih hhj)
      · have HX := hid (bs_right HI.out ha hc)
        generalize cmpI a page = cv at *
        go_wp2_with (first | (go_at_call 110; (with_reducible refine (HC.out _).mono ?_); rintro e w1 ⟨rfl, hb1⟩))
        go_roundw
        case rel => exact ⟨i, h, hih, Nat.le_of_lt (Nat.lt_of_lt_of_le hhj hj), rfl, rfl, (by repeat (first | (with_reducible assumption) | (refine bt ?_ (by with_reducible assumption)))), HX.out⟩
        case measure => exact ms2 hih hhj
    · obtain rfl : i = j := by omega
      by_cases hn : i < L.length
      · obtain ⟨a, ha⟩ : ∃ a, L[i]? = some a := ⟨L[i], by simp [hn]⟩
        obtain ⟨c0, c1, c2, c3⟩ := (HL.out i a ha).grown hb hbl
        have hbr := ltAll (Nat.lt_of_lt_of_le hbl hb.size)
        have hsz := hb.size
        have HC := hid (fun w => cmp_any a page w)
        have hz := cmp_ne a page
        unfold arC at HC
        generalize cmpI a page = cv at *
        go_wp2_with (first | (go_at_call 110; (with_reducible refine (HC.out _).mono ?_); rintro e w1 ⟨rfl, hb1⟩))
        go_ret2
        exact ⟨i, hj, rfl, (by repeat (first | (with_reducible assumption) | (refine bt ?_ (by with_reducible assumption)))), HI.out⟩
      · go_wp2
        go_ret2
        exact ⟨i, hj, rfl, (by repeat ((with_reducible assumption))), HI.out⟩
end Go.Proofs.Ytejnpppejalhfab
/- The contracts of the reference's SameAreas (all forms), within, CheckAreas. -/
namespace Go.Proofs.Ytejnpppejalhfab
open Go.RowKit Go.Sort

set_option maxRecDepth 100000 in
set_option maxHeartbeats 4000000 in
theorem same_sl {va vb : Value} {A B : List Ar} {w : World} (ha : SlAr w va A) (hb : SlAr w vb B) : Calls Try.prog 56 #[va, vb] w (RB (.bool (decide (A = B))) w) := by
  rcases ha with ⟨p, c, rfl, rfl⟩ | ⟨b1, off1, cap1, rfl, h2, h3, h4, h5⟩
  · rcases hb with ⟨p2, c2, rfl, rfl⟩ | ⟨b2, off2, cap2, rfl, k2, k3, k4, k5⟩
    · go_enter Try.func56, Try.ntmps56
      go_wp2
      go_loopw [5] (fun vi wr => vi = .int .i64 0 ∧ wr = w) (fun _ _ => 0)
      case atStart => exact ⟨rfl, rfl⟩
      case round =>
        obtain ⟨rfl, rfl⟩ := hrel
        go_wp2
        go_ret
        exact ⟨ret_bool (by simp), Below.refl _ _⟩
    · cases B with
      | nil =>
        simp only [List.length_nil]
        go_enter Try.func56, Try.ntmps56
        go_wp2
        go_loopw [5] (fun vi wr => vi = .int .i64 0 ∧ wr = w) (fun _ _ => 0)
        case atStart => exact ⟨rfl, rfl⟩
        case round =>
          obtain ⟨rfl, rfl⟩ := hrel
          go_wp2
          go_ret
          exact ⟨ret_bool (by simp), Below.refl _ _⟩
      | cons c B =>
        have hn : ((0 : Int) != ((c :: B).length : Nat)) = true := by rw [bne_iff_ne]; simp; omega
        generalize hD : (c :: B).length = n at *
        go_enter Try.func56, Try.ntmps56
        go_wp2
        go_ret
        exact ⟨ret_bool (by simp), Below.refl _ _⟩
  · rcases hb with ⟨p2, c2, rfl, rfl⟩ | ⟨b2, off2, cap2, rfl, k2, k3, k4, k5⟩
    · cases A with
      | nil =>
        simp only [List.length_nil]
        go_enter Try.func56, Try.ntmps56
        go_wp2
        go_loopw [5] (fun vi wr => vi = .int .i64 0 ∧ wr = w) (fun _ _ => 0)
        case atStart => exact ⟨rfl, rfl⟩
        case round =>
          obtain ⟨rfl, rfl⟩ := hrel
          go_wp2
          go_ret
          exact ⟨ret_bool (by simp), Below.refl _ _⟩
      | cons c A =>
        have hn : (((c :: A).length : Int) != 0) = true := by rw [bne_iff_ne]; simp; omega
        generalize hD : (c :: A).length = n at *
        go_enter Try.func56, Try.ntmps56
        go_wp2
        go_ret
        exact ⟨ret_bool (by simp), Below.refl _ _⟩
    · by_cases hl : A.length = B.length
      · exact same_some b1 off1 cap1 b2 off2 cap2 h2 k2 h5 k5 hl (len_max h3 h4)
      · have HX := hid (len_not hl)
        have hn : ((A.length : Int) != B.length) = true := by rw [bne_iff_ne]; omega
        clear hl h4 k4 h5 k5 h3 k3
        go_enter Try.func56, Try.ntmps56
        go_wp2
        go_ret
        exact ⟨ret_bool (decide_eq_false HX.out).symm, Below.refl _ _⟩

end Go.Proofs.Ytejnpppejalhfab
/- The contract of the reference's CheckAreas. -/
namespace Go.Proofs.Ytejnpppejalhfab
open Go.RowKit Go.Sort

end Go.Proofs.Ytejnpppejalhfab
/- The contracts of the reference's spanError, MapIn. -/
namespace Go.Proofs.Ytejnpppejalhfab
open Go.RowKit Go.Sort

/-- a board with pages from lo to q marked anew -/
def layW (base : Int → Int) (m lo q : Int) (x : Int) : Int := if lo ≤ x ∧ x < q then m else base x
theorem layW_start (base : Int → Int) (m lo : Int) : bdC (layW base m lo lo) = bdC base := bdC_ext fun p _ _ => by unfold layW; rw [if_neg (by omega)]
theorem layW_step (base : Int → Int) (m lo : Int) (q : Nat) (h : lo ≤ q) : (bdC (layW base m lo q)).set q (.int .i64 m) = bdC (layW base m lo ((q : Int) + 1)) := by
  rw [bdC_set]
  refine bdC_ext fun p _ _ => ?_
  unfold layW
  by_cases e : p = q
  · rw [if_pos e, if_pos (by omega)]
  · rw [if_neg e]
    by_cases c : lo ≤ p ∧ p < q
    · rw [if_pos c, if_pos (by omega)]
    · rw [if_neg c, if_neg (by omega)]
end Go.Proofs.Ytejnpppejalhfab
/- The contract of the reference's MapIn. -/
namespace Go.Proofs.Ytejnpppejalhfab
open Go.RowKit Go.Sort

end Go.Proofs.Ytejnpppejalhfab
/- The contract of the reference's UnmapIn. -/
namespace Go.Proofs.Ytejnpppejalhfab
open Go.RowKit Go.Sort


end Go.Proofs.Ytejnpppejalhfab
/- The contract of the reference's ProtectIn. -/
namespace Go.Proofs.Ytejnpppejalhfab
open Go.RowKit Go.Sort


end Go.Proofs.Ytejnpppejalhfab
/- The contracts of package area in the words of the step calculus; the closures; turned. -/
namespace Go.Proofs.Ytejnpppejalhfab
open Go.RowKit Go.Sort

theorem arC_one (L : List Ar) : ∀ r ∈ L.map arC, r.all (·.oneCell') = true := fun r hr => by
  obtain ⟨a, _, rfl⟩ := List.mem_map.1 hr; rfl
theorem arC_len4 (L : List Ar) : ∀ r ∈ L.map arC, r.length = 4 := fun r hr => by
  obtain ⟨a, _, rfl⟩ := List.mem_map.1 hr; rfl
theorem flat_map (L : List Ar) : (L.map arC).flatten = flat L := by unfold flat; rw [List.flatMap_def]
theorem ar_of_sl {w : World} {v : Value} {L : List Ar} (h : Sl nF w 4 v (L.map arC)) : SlAr w v L := by
  rcases h with ⟨p, c, rfl, h⟩ | ⟨b, off, cap, rfl, h3, h4, hr⟩
  · exact Or.inl ⟨_, _, rfl, by simpa using h⟩
  · rw [List.length_map] at h3 ⊢
    refine Or.inr ⟨b, off, cap, rfl, hr.lt, h3, h4, fun i a ha => ?_⟩
    have hk : (L.map arC)[i]? = some (arC a) := by simp [ha]
    exact ⟨hr.cells i _ hk 0 _ rfl, hr.cells i _ hk 1 _ rfl, hr.cells i _ hk 2 _ rfl, hr.cells i _ hk 3 _ rfl⟩
theorem row_of_own {w w' : World} {v : Value} {L : List Ar} (h : w'.ownsRow w.heap.size 131 4 v L.length (flat L)) : (Asr.row 131 4 v (L.map arC)).holds w' ∧ ∀ k, (Asr.row 131 4 v (L.map arC)).fp = some k → w.heap.size ≤ k := by
  refine ⟨⟨?_, arC_len4 L, arC_one L⟩, fun k hk => (h.lt k hk).1⟩
  rw [List.length_map, flat_map]
  refine ⟨h.1, ?_⟩
  rcases h.2 with hn | ⟨g, cap, cur, rfl, hb, rest⟩
  · exact Or.inl hn
  · exact Or.inr ⟨g, cap, cur, rfl, Nat.zero_le _, rest⟩
theorem st_of_own {w w' : World} {v : Value} {L : List Ar} (h : OwnAr w.heap.size w' v L) (hb : Below w.heap.size w w') : St nF w w' [.row 131 4 v (L.map arC)] := by
  obtain ⟨a1, a2⟩ := row_of_own h
  refine ⟨hb.os, hb.tape, hb.output, hb.size, fun k hk _ => hb.block k hk, ?_, ?_, List.Pairwise.cons (by simp) List.Pairwise.nil⟩
  · intro A hA; simp at hA; subst hA; exact a1
  · intro A hA k hk; simp at hA; subst hA; exact Or.inl (a2 k hk)
theorem check_fn {v : Value} {L : List Ar} {w : World} (h : Sl nF w 4 v (L.map arC)) : Fn Try.prog 62 [v] w (RBf (.int .i64 (checkI L)) w) :=
  Fn.of_rb ⟨Try.func62, by kernel_rfl, by kernel_rfl⟩ (check_sl (ar_of_sl h))
end Go.Proofs.Ytejnpppejalhfab
/- area.Map, Unmap, Protect, by the step calculus. -/
namespace Go.Proofs.Ytejnpppejalhfab
open Go.RowKit Go.Sort

end Go.Proofs.Ytejnpppejalhfab
/- The contract of area.Find. -/
namespace Go.Proofs.Ytejnpppejalhfab
open Go.RowKit Go.Sort

set_option maxRecDepth 100000 in
set_option maxHeartbeats 4000000 in
theorem bs_nil (p : Option Addr) (c : Nat) (page : Int) (w : World) : Calls Try.prog 109 #[.slice p 0 c, .int .i64 page, .func (.func 110) #[] #[]] w (BsPost [] page w) := by
  go_enter Try.func109, Try.ntmps109
  go_wp2
  go_loopw [9, 10] (fun vi vj wr => vi = .int .i64 0 ∧ vj = .int .i64 0 ∧ wr = w) (fun _ _ _ => 0)
  case atStart => exact ⟨rfl, rfl, rfl⟩
  case round =>
    obtain ⟨rfl, rfl, rfl⟩ := hrel
    go_wp2
    go_ret2
    exact ⟨0, by simp, rfl, (by repeat ((with_reducible exact Below.refl _ _))), bs_start [] page⟩
theorem bs_sl {v : Value} {L : List Ar} {w : World} (page : Int) (h : SlAr w v L) : Calls Try.prog 109 #[v, .int .i64 page, .func (.func 110) #[] #[]] w (BsPost L page w) := by
  rcases h with ⟨p, c, rfl, rfl⟩ | ⟨b, off, cap, rfl, h2, h3, h4, h5⟩
  · exact bs_nil p c page w
  · exact bs_any b off cap page h2 h3 h4 h5

theorem holds_not {page : Int} {a : Ar} (h : a.fin ≤ page ∨ page < a.pg) : holdsB page a = false := by unfold holdsB; simp; omega
theorem find_end {L : List Ar} {page : Int} (hg : Good L) (hI : BsInv L page L.length L.length) : findA L page = none :=
  findA_none fun j b hj hb => holds_not (Or.inl ((hI hg).1 j b hj hb))
theorem find_gap {L : List Ar} {page : Int} {i : Nat} {a : Ar} (hg : Good L) (hI : BsInv L page i i) (ha : L[i]? = some a) (h : page < a.pg) : findA L page = none :=
  findA_none fun j b hj hb => by
    rcases Nat.lt_or_ge j i with h1 | h1
    · exact holds_not (Or.inl ((hI hg).1 j b h1 hb))
    · rcases Nat.lt_or_eq_of_le h1 with h2 | h2
      · have := rise_fin hg h2 ha hb
        have hk := good_ok hg i a ha
        unfold Ar.ok at hk
        exact holds_not (Or.inr (by unfold Ar.fin at this; omega))
      · subst h2; rw [ha] at hb; cases hb; exact holds_not (Or.inr h)
theorem find_hit {L : List Ar} {page : Int} {i : Nat} {a : Ar} (hg : Good L) (hI : BsInv L page i i) (ha : L[i]? = some a) (h : a.pg ≤ page) : findA L page = some a :=
  findA_some (fun j b hj hb => holds_not (Or.inl ((hI hg).1 j b hj hb))) ha (by unfold holdsB; simp; exact ⟨h, (hI hg).2 i a (Nat.le_refl _) ha⟩)
/-- what Find answers -/
def findI (L : List Ar) (page : Int) : Option Ar := if checkI L = 0 then findA L page else none

set_option maxRecDepth 100000 in
set_option maxHeartbeats 4000000 in
theorem find_any {v : Value} {L : List Ar} {w : World} (page : Int) (h : SlAr w v L) : Calls Try.prog 64 #[v, .int .i64 page] w (RB (FindV (findI L page)) w) := by
  have HC := hid (fun w' (hb : Below w.heap.size w w') => check_sl (h.grown hb))
  have HS := hid (fun w' (hb : Below w.heap.size w w') => bs_sl page (h.grown hb))
  have hsz : (Try.prog.info? 131).map (·.size) = some 4 := by kernel_rfl
  have Hsz := hid hsz; clear hsz
  have hbw := Below.refl w.heap.size w
  go_enter Try.func64, Try.ntmps64
  go_wp2_with (first | ((with_reducible refine at_op 4 ?_); refine wpList_new_row' rfl (some 4) rfl (zl4) 131 (by kernel_rfl) w.heap.size w hbw hbw.size ?_; intro g4 wn4 hL4 hB4 hbn hkn hnn; skip; clear hbw hkn hnn; have hbw := hbn; clear hbn) | (go_at_call 109; (with_reducible refine (HS.out _ hbw).mono ?_); rintro e wc ⟨i, hi, rfl, hbc, hI⟩; have hL4 := hL4.grown hbc hL4.lt; have hbn := bt hbw hbc; clear hbw hbc; have hbw := hbn; clear hbn))
  by_cases hc : checkI L = 0
  · obtain ⟨_, hg⟩ := checkI_zero.1 hc
    have HQ : Hid (findI L page = findA L page) := by refine hid ?_; unfold findI; rw [if_pos hc]
    rw [hc] at HC
    clear hc
    by_cases hlt : i < L.length
    · obtain ⟨a, ha⟩ : ∃ a, L[i]? = some a := ⟨L[i], by simp [hlt]⟩
      rcases h with ⟨p, c, rfl, rfl⟩ | ⟨b, off, cap, rfl, hbl, hcap, hmax, hcells⟩
      · simp at hlt
      have HL := hid hcells
      have hne : ((i : Int) == L.length) = false := by rw [beq_eq_false_iff_ne]; omega
      have hli : (i : Int) < L.length := Int.ofNat_lt.2 hlt
      clear hcells hmax
      by_cases hp : page < a.pg
      · have HX := hid (find_gap hg hI ha hp)
        clear hI
        go_wp2_with (first | ((go_at_call 62; (with_reducible refine (HC.out _ hbw).mono ?_); rintro e wk ⟨rfl, hbc⟩); have hL4 := hL4.grown hbc hL4.lt; have hbn := bt hbw hbc; clear hbw hbc; have hbw := hbn; clear hbn; obtain ⟨c0, c1, c2, c3⟩ := (HL.out i a ha).grown hbw hbl) | ((with_reducible refine at_store 4 ?_); refine wpList_put_row rfl 131 (.tmp 4) (.tmp 32) rfl rfl g4 (zl4) (zl4) rfl rfl hL4 Hsz.out rfl rfl w.heap.size w hbw hB4 ?_; intro wp4 hLn hbn hon; skip; clear hL4 hbw hon; have hL4 := hLn; have hbw := hbn; clear hLn hbn))
        refine bodyPost_ret (v := .tuple #[.agg (zl4).toArray, .bool false]) (results_hold2 rfl _ g4 (zl4) (.bool false) _ rfl rfl hL4 Try.underlying131 rfl Hsz.out) rfl ⟨by rw [HQ.out, HX.out]; rfl, hbw⟩
      · have HX := hid (find_hit hg hI ha (by omega))
        clear hI
        have hp' : decide (page < a.pg) = false := by simpa using hp
        go_wp2_with (first | ((go_at_call 62; (with_reducible refine (HC.out _ hbw).mono ?_); rintro e wk ⟨rfl, hbc⟩); have hL4 := hL4.grown hbc hL4.lt; have hbn := bt hbw hbc; clear hbw hbc; have hbw := hbn; clear hbn; obtain ⟨c0, c1, c2, c3⟩ := (HL.out i a ha).grown hbw hbl) | ((with_reducible refine at_store 4 ?_); refine wpList_put_row rfl 131 (.tmp 4) (.tmp 36) rfl rfl g4 ([.int .i64 a.pg, .int .i64 a.n, .int .i64 a.prot, .bool a.z]) (zl4) rfl rfl hL4 Hsz.out rfl rfl w.heap.size w hbw hB4 ?_; intro wp4 hLn hbn hon; skip; clear hL4 hbw hon; have hL4 := hLn; have hbw := hbn; clear hLn hbn))
        refine bodyPost_ret (v := .tuple #[.agg ([.int .i64 a.pg, .int .i64 a.n, .int .i64 a.prot, .bool a.z]).toArray, .bool true]) (results_hold2 rfl _ g4 ([.int .i64 a.pg, .int .i64 a.n, .int .i64 a.prot, .bool a.z]) (.bool true) _ rfl rfl hL4 Try.underlying131 rfl Hsz.out) rfl ⟨by rw [HQ.out, HX.out]; rfl, hbw⟩
    · obtain rfl : i = L.length := by omega
      have HX := hid (find_end hg hI)
      have hlen : ∃ n : Nat, n = L.length := ⟨_, rfl⟩
      clear hI
      rcases h with ⟨p, c, rfl, rfl⟩ | ⟨b, off, cap, rfl, hbl, hcap, hmax, hcells⟩
      · go_wp2_with (first | ((go_at_call 62; (with_reducible refine (HC.out _ hbw).mono ?_); rintro e wk ⟨rfl, hbc⟩); have hL4 := hL4.grown hbc hL4.lt; have hbn := bt hbw hbc; clear hbw hbc; have hbw := hbn; clear hbn; skip) | ((with_reducible refine at_store 4 ?_); refine wpList_put_row rfl 131 (.tmp 4) (.tmp 32) rfl rfl g4 (zl4) (zl4) rfl rfl hL4 Hsz.out rfl rfl w.heap.size w hbw hB4 ?_; intro wp4 hLn hbn hon; skip; clear hL4 hbw hon; have hL4 := hLn; have hbw := hbn; clear hLn hbn))
        refine bodyPost_ret (v := .tuple #[.agg (zl4).toArray, .bool false]) (results_hold2 rfl _ g4 (zl4) (.bool false) _ rfl rfl hL4 Try.underlying131 rfl Hsz.out) rfl ⟨by rw [HQ.out, HX.out]; rfl, hbw⟩
      · clear hcells hmax
        go_wp2_with (first | ((go_at_call 62; (with_reducible refine (HC.out _ hbw).mono ?_); rintro e wk ⟨rfl, hbc⟩); have hL4 := hL4.grown hbc hL4.lt; have hbn := bt hbw hbc; clear hbw hbc; have hbw := hbn; clear hbn; skip) | ((with_reducible refine at_store 4 ?_); refine wpList_put_row rfl 131 (.tmp 4) (.tmp 32) rfl rfl g4 (zl4) (zl4) rfl rfl hL4 Hsz.out rfl rfl w.heap.size w hbw hB4 ?_; intro wp4 hLn hbn hon; skip; clear hL4 hbw hon; have hL4 := hLn; have hbw := hbn; clear hLn hbn))
        refine bodyPost_ret (v := .tuple #[.agg (zl4).toArray, .bool false]) (results_hold2 rfl _ g4 (zl4) (.bool false) _ rfl rfl hL4 Try.underlying131 rfl Hsz.out) rfl ⟨by rw [HQ.out, HX.out]; rfl, hbw⟩
  · have HQ : Hid (findI L page = none) := by refine hid ?_; unfold findI; rw [if_neg hc]
    have hn : (checkI L != 0) = true := by rw [bne_iff_ne]; exact hc
    clear hc
    generalize checkI L = ck at *
    go_wp2_with (first | ((go_at_call 62; (with_reducible refine (HC.out _ hbw).mono ?_); rintro e wk ⟨rfl, hbc⟩); have hL4 := hL4.grown hbc hL4.lt; have hbn := bt hbw hbc; clear hbw hbc; have hbw := hbn; clear hbn; skip) | ((with_reducible refine at_store 4 ?_); refine wpList_put_row rfl 131 (.tmp 4) (.tmp 32) rfl rfl g4 (zl4) (zl4) rfl rfl hL4 Hsz.out rfl rfl w.heap.size w hbw hB4 ?_; intro wp4 hLn hbn hon; skip; clear hL4 hbw hon; have hL4 := hLn; have hbw := hbn; clear hLn hbn))
    refine bodyPost_ret (v := .tuple #[.agg (zl4).toArray, .bool false]) (results_hold2 rfl _ g4 (zl4) (.bool false) _ rfl rfl hL4 Try.underlying131 rfl Hsz.out) rfl ⟨by rw [HQ.out]; rfl, hbw⟩
end Go.Proofs.Ytejnpppejalhfab
/- The reference's contracts for areas in the words of the step calculus. -/
namespace Go.Proofs.Ytejnpppejalhfab
open Go.RowKit Go.Sort

theorem same_fn {va vb : Value} {A B : List Ar} {w : World} (ha : Sl nF w 4 va (A.map arC)) (hb : Sl nF w 4 vb (B.map arC)) : Fn Try.prog 56 [va, vb] w (RBf (.bool (decide (A = B))) w) :=
  Fn.of_rb ⟨Try.func56, by kernel_rfl, by kernel_rfl⟩ (same_sl (ar_of_sl ha) (ar_of_sl hb))
theorem Find_fn {v : Value} {L : List Ar} {w : World} (page : Int) (h : Sl nF w 4 v (L.map arC)) : Fn Try.prog 64 [v, .int .i64 page] w (RBf (FindV (findI L page)) w) :=
  Fn.of_rb ⟨Try.func64, by kernel_rfl, by kernel_rfl⟩ (find_any page (ar_of_sl h))
theorem Total_fn {v : Value} {L : List Ar} {w : World} (h : Sl nF w 4 v (L.map arC)) : Fn Try.prog 63 [v] w (RBf (.int .i64 (if checkI L = 0 then sumN L else 0)) w) := by
  by_cases hc : checkI L = 0
  · rw [if_pos hc]
    exact Fn.of_rb ⟨Try.func63, by kernel_rfl, by kernel_rfl⟩ (total_good (ar_of_sl h) hc)
  · rw [if_neg hc]
    exact Fn.of_rb ⟨Try.func63, by kernel_rfl, by kernel_rfl⟩ (total_bad (ar_of_sl h) hc)
theorem Sl.nil (w : World) (sz : Nat) : Sl nF w sz (.slice none 0 0) [] := Or.inl ⟨_, _, rfl, rfl⟩
def L2 : List Ar := [⟨3, 1, 1, true⟩, ⟨4, 1, 0, true⟩, ⟨5, 2, 1, true⟩]
end Go.Proofs.Ytejnpppejalhfab
/- What AreaKeeps says, in plain Lean. -/
namespace Go.Proofs.Ytejnpppejalhfab
open Go.RowKit Go.Sort

theorem find_ok {L : List Ar} {p : Int} {a : Ar} (h : RiseF 1 L) (hf : findA L p = some a) : a.ok := by
  unfold findA at hf
  obtain ⟨i, hi⟩ := List.mem_iff_getElem?.1 (List.mem_of_find?_eq_some hf)
  exact rise_ok h i a hi
end Go.Proofs.Ytejnpppejalhfab
/- What is linked is right: in plain Lean. -/
namespace Go.Proofs.Ytejnpppejalhfab
open Go.RowKit Go.Sort

def arOk (A : List Ar) (p : Int) : Bool := match findA A p with
  | some a => !a.z
  | none => false
def shsB (A : List Ar) : Int → List Sh → Bool
  | _, [] => true
  | last, s :: r => arOk A s.page && (rightS s && (decide (last < s.page) && shsB A s.page r))
def entB (A : List Ar) (en : Int) : Bool := decide (0 ≤ en ∧ en.tmod 8 = 0) && (match findA A (en.tdiv 16) with
  | some a => decide (2 ≤ a.prot)
  | none => false)
def lkB (A : List Ar) (L : List Sh) (en : Int) : Bool := decide ((L.length : Int) = sumN A) && (shsB A 0 L && entB A en)
def checkLk (A : List Ar) (L : List Sh) (en : Int) : Int := if checkI A = 0 then (if lkB A L en = true then 0 else 1) else checkI A
/-- a slice of sheets in memory: each with its slice of fixes -/
structure ShsV (w : World) (Lp : List (Sh × Value)) (vs : Value) : Prop where
  sl : Sl nF w 3 vs (Lp.map fun p => shC p.1 p.2)
  fx : ∀ p ∈ Lp, ShV w p.1 p.2
theorem ShsV.now {w w' : World} {Γ : List Asr} {Lp : List (Sh × Value)} {vs : Value} (h : ShsV w Lp vs) (hS : St nF w w' Γ) : ShsV w' Lp vs := ⟨h.sl.now hS, fun p hp => (h.fx p hp).now hS⟩
def shs (Lp : List (Sh × Value)) : List Sh := Lp.map (·.1)
theorem shs_len (Lp : List (Sh × Value)) : (shs Lp).length = Lp.length := by unfold shs; simp
theorem shs_at {Lp : List (Sh × Value)} {i : Nat} {p : Sh × Value} (h : Lp[i]? = some p) : (shs Lp)[i]? = some p.1 := by unfold shs; rw [List.getElem?_map, h]; rfl
theorem shsB_step {A : List Ar} {l : List Sh} {i : Nat} {s : Sh} {last : Int} (h : l[i]? = some s) : shsB A last (l.drop i) = (arOk A s.page && (rightS s && (decide (last < s.page) && shsB A s.page (l.drop (i + 1))))) := by
  rw [drop_at h]; rfl
theorem good_pos {A : List Ar} (hc : checkI A = 0) {p : Int} {a : Ar} (h : findA A p = some a) : a.ok ∧ 1 ≤ p := by
  have hg := (checkI_zero.1 hc).2
  have hok := find_ok hg.1 h
  have := List.find?_some h
  unfold holdsB at this
  rw [decide_eq_true_eq] at this
  unfold Ar.ok at hok
  exact ⟨hok, by omega⟩
def lkA (va vs : Value) (en : Int) : Value := .agg [va, vs, .int .i64 en].toArray
end Go.Proofs.Ytejnpppejalhfab
/- The contracts of package bits and of the reference's bytes. -/
namespace Go.Proofs.Ytejnpppejalhfab
open Go.RowKit

set_option maxRecDepth 100000 in
set_option maxHeartbeats 400000 in
theorem bytes_any (n : Int) (k : Nat) (w : World) (hk : k ≤ 8) :
    Calls Try.prog 69 #[.int .i64 n, .int .i64 k] w fun e w' => e = .returned (.string ⟨(leB n k).toArray⟩) ∧ Below w.heap.size w w' := by
  have hcv := run_str_of_one (P := Try.prog) 76 5 9 Try.underlying76 Try.underlying5 Try.underlying9
  go_enter Try.func69, Try.ntmps69
  go_wp2
  go_loopw [0, 5, 6] (fun vn vs vi wr => ∃ j : Nat, j ≤ k ∧ vi = .int .i64 j ∧ vn = .int .i64 (n / 2 ^ (8 * j)) ∧ vs = .string ⟨(leB n j).toArray⟩ ∧ Below w.heap.size w wr) (fun _ _ i _ => k - (intOf i).toNat)
  case atStart => exact ⟨0, by omega, rfl, by simp, rfl, Below.refl _ _⟩
  case round =>
    obtain ⟨j, hj, rfl, rfl, rfl, hb⟩ := hrel
    have hlen : (leB n j).length ≤ 8 := by rw [leB_length]; omega
    by_cases hlt : j < k
    · go_wp2
      go_roundw
      case rel => exact ⟨j + 1, by omega, by go_num, by rw [div_step], rfl, hb.alloc hb.size _⟩
      case measure => simp [intOf]; omega
    · go_wp2
      obtain rfl : j = k := by omega
      go_ret
      exact ⟨rfl, hb⟩
theorem inB_spec (off n all : Int) : inB off n all = (decide (0 ≤ off) && (decide (0 ≤ n) && (decide (off ≤ all) && decide (n ≤ all - off)))) := by
  unfold inB; simp

set_option maxRecDepth 100000 in
set_option maxHeartbeats 400000 in
theorem in_any (off n all : Int) (w : World) (h : 0 ≤ all) (h2 : all ≤ 9223372036854775807) :
    Calls Try.prog 70 #[.int .i64 off, .int .i64 n, .int .i64 all] w fun e w' => e = .returned (.bool (inB off n all)) ∧ w = w' := by
  have hs := hid (inB_spec off n all)
  go_enter Try.func70, Try.ntmps70
  go_wp2
  all_goals
    go_ret
    refine ⟨ret_bool ?_, rfl⟩
    rw [hs.out]
    first
      | (rw [IntWalk.wrap64_in (all - off) ⟨by omega, by omega⟩]; simp [*]; done)
      | (rw [Bool.eq_iff_iff]; simp; omega)

theorem inB_yes (off n all : Nat) (h : off + n ≤ all) : inB off n all = true := by
  unfold inB; simp; omega

set_option maxRecDepth 100000 in
set_option maxHeartbeats 400000 in
theorem lay_yes (s t : List UInt8) (off : Nat) (w : World) (hs : s.length ≤ maxLen) (h : off + t.length ≤ s.length) :
    Calls Try.prog 59 #[.string ⟨s.toArray⟩, .int .i64 off, .string ⟨t.toArray⟩] w fun e w' => e = .returned (.tuple #[.string ⟨(splice s off t).toArray⟩, .int .i64 0]) ∧ Below w.heap.size w w' := by
  unfold maxLen at hs
  have hin := inB_yes off t.length s.length h
  have hin2 := hid hin; clear hin
  go_enter Try.func59, Try.ntmps59
  have hsz5 : (Try.prog.info? 5).map (·.size) = some 1 := by kernel_rfl
  have Hsz5 := hid hsz5; clear hsz5
  go_wp2_with (first | (go_at_call 70; (with_reducible refine (in_any _ _ _ _ (by omega) (by omega)).mono ?_); rintro e w' ⟨rfl, rfl⟩; rw [hin2.out]) | ((with_reducible refine at_op 17 ?_); refine wpList_conv_bytes rfl (.tmp 16) 9 76 5 rfl Try.underlying9 Try.underlying76 Try.underlying5 s rfl w.heap.size w (Below.refl _ _) (Nat.le_refl _) ?_; intro cap w1 hcap hb1 hby1 hsz1; have HB := hid hby1; clear hby1) | ((with_reducible refine at_op 22 ?_); refine wpList_copy_str rfl (.tmp 20) (.tmp 21) 76 9 rfl 5 Try.underlying76 Hsz5.out _ (s.length - off) _ rfl t rfl w.heap.size off s HB.out ?c1 ?c2 w.heap.size w hb1 (Nat.le_refl _) ?_; (case c1 => go_must (rw [List.length_take]; omega)); (case c2 => go_must (rw [List.length_take]; intro h0; rw [if_neg (by omega)])); intro w2 hb2 hsz2 hby2; have HB2 := hid hby2; clear hby2) | ((with_reducible refine at_op 24 ?_); refine wpList_conv_str rfl (.tmp 23) 76 9 5 rfl Try.underlying76 Try.underlying5 Try.underlying9 _ w.heap.size s.length _ rfl ?c3 HB2.out ?_; (case c3 => go_must (exact length_splice _ _ _ (by rw [List.length_take]; omega))); clear HB2))
  all_goals
    go_ret2
    refine ⟨?_, hb2⟩
    show Ending.returned (.tuple #[.string ⟨(splice s off (t.take (s.length - off))).toArray⟩, .int .i64 0]) = _
    rw [List.take_of_length_le (show t.length ≤ s.length - off from by omega)]

set_option maxRecDepth 100000 in
set_option maxHeartbeats 400000 in
theorem lay_no (s t : List UInt8) (off : Int) (w : World) (hs : s.length ≤ maxLen) (h : inB off t.length s.length = false) :
    Calls Try.prog 59 #[.string ⟨s.toArray⟩, .int .i64 off, .string ⟨t.toArray⟩] w fun e w' => e = .returned (.tuple #[.string ⟨#[]⟩, .int .i64 3]) ∧ w = w' := by
  unfold maxLen at hs
  go_enter Try.func59, Try.ntmps59
  go_wp2_with (go_at_call 70; (with_reducible refine (in_any _ _ _ _ (by omega) (by omega)).mono ?_); rintro e w' ⟨rfl, rfl⟩; rw [h])
  go_ret2
  exact ⟨rfl, rfl⟩

set_option maxRecDepth 100000 in
set_option maxHeartbeats 400000 in
theorem put_yes (n : Int) (k : Nat) (w : World) (h1 : 1 ≤ k) (h8 : k ≤ 8) :
    Calls Try.prog 93 #[.int .i64 n, .int .i64 k] w fun e w' => e = .returned (.tuple #[.string ⟨(leB n k).toArray⟩, .int .i64 0]) ∧ Below w.heap.size w w' := by
  have hi5 : (Try.prog.info? 5).map (fun i => (i.zero, i.size, i.bytes)) = some (some (.int .u8 0), 1, 1) := by kernel_rfl
  have Hi5 := hid hi5; clear hi5
  go_enter Try.func93, Try.ntmps93
  go_wp2_with (((with_reducible refine at_op 15 ?_); refine wpList_make_bytes rfl (.tmp 14) (.tmp 14) 76 5 rfl Try.underlying76 Hi5.out k ?c1 rfl rfl w.heap.size w (Below.refl _ _) (Nat.le_refl _) ?_; (case c1 => omega); intro w1 hb1 hby1 hsz1; have HB := hid hby1; clear hby1))
  go_loopw [18] (fun vi wr => ∃ j : Nat, j ≤ k ∧ vi = .int .i64 j ∧ Below w.heap.size w wr ∧ w.heap.size < wr.heap.size ∧ Hid (BytesAt wr w.heap.size (putRow n k j))) (fun i _ => k - (intOf i).toNat)
  case atStart => exact ⟨0, by omega, rfl, hb1, hsz1, by have := HB.out; unfold putRow; show BytesAt _ _ _; simpa [leB] using this⟩
  case round =>
    obtain ⟨j, hj, rfl, hb, hsz, HBj⟩ := hrel
    by_cases hlt : j < k
    · obtain ⟨hc, hf⟩ := HBj.out j (by rw [putRow_length _ _ _ hj]; exact hlt)
      obtain ⟨v, hv⟩ : ∃ v, v = Value.int .u8 ((putRow n k j)[j]'(by rw [putRow_length _ _ _ hj]; exact hlt)).toNat := ⟨_, rfl⟩
      rw [← hv] at hc; clear hv
      go_wp2
      have HS := HBj.out.set j (by rw [putRow_length _ _ _ hj]; exact hlt) (byteAt n j) _ (val_int (put_num n j (by omega)))
      rw [putRow_step n k j hlt] at HS
      exact ⟨⟨j + 1, by omega, by go_num, hb.setCell (Nat.le_refl _) _, by simpa using hsz, HS⟩, by simp [intOf]; omega⟩
    · go_wp2_with (((with_reducible refine at_op 32 ?_); refine wpList_conv_str rfl (.tmp 31) 76 9 5 rfl Try.underlying76 Try.underlying5 Try.underlying9 (putRow n k j) w.heap.size k _ rfl ?c3 HBj.out ?_; (case c3 => go_must (exact putRow_length _ _ _ hj)); clear HBj))
      obtain rfl : j = k := by omega
      go_ret2
      refine ⟨?_, hb⟩
      show Ending.returned (.tuple #[.string ⟨(putRow n j j).toArray⟩, .int .i64 0]) = _
      rw [putRow_end]
end Go.Proofs.Ytejnpppejalhfab
/- The contracts of bits in the words of the step calculus. -/
namespace Go.Proofs.Ytejnpppejalhfab
open Go.RowKit Go.Sort

theorem Lay_fn (s t : List UInt8) (off : Int) (w : World) (hs : s.length ≤ maxLen) : Fn Try.prog 59 [.string ⟨s.toArray⟩, .int .i64 off, .string ⟨t.toArray⟩] w (RBf (.tuple #[.string ⟨(if inB off t.length s.length = true then splice s off.toNat t else []).toArray⟩, .int .i64 (if inB off t.length s.length = true then 0 else 3)]) w) := by
  by_cases h : inB off t.length s.length = true
  · rw [if_pos h, if_pos h]
    unfold inB at h
    simp only [decide_eq_true_eq] at h
    have h1 := lay_yes s t off.toNat w hs (by omega)
    rw [Int.toNat_of_nonneg (by omega)] at h1
    exact Fn.of_rb ⟨Try.func59, by kernel_rfl, by kernel_rfl⟩ (rb_below h1)
  · rw [if_neg h, if_neg h]
    exact (Fn.of_same ⟨Try.func59, by kernel_rfl, by kernel_rfl⟩ (lay_no s t off w hs (by simpa using h))).mono (by rintro v w' ⟨rfl, rfl⟩; exact ⟨rfl, St.start _⟩)
end Go.Proofs.Ytejnpppejalhfab
/- Sheets: right, and filled. -/
namespace Go.Proofs.Ytejnpppejalhfab
open Go.RowKit Go.Sort
abbrev shA (s : Sh) (u : Value) : Value := .agg (shC s u).toArray
set_option maxRecDepth 100000 in
set_option maxHeartbeats 4000000 in
theorem right_fn {S : Sh} {w : World} {u : Value} (hu : ShV w S u) : Fn Try.prog 58 [shA S u] w (RBf (.bool (rightS S)) w) := by
  have bnd := hu.bound
  obtain ⟨p, c, rfl⟩ := hu.len
  refine fn_enter (fn := Try.f58) ⟨Try.func58, by kernel_rfl, by kernel_rfl⟩ (by exact rfl) Try.ntmps58 (by exact rfl) ?_
  have hS := St.start w
  unfold shA shC
  by_cases h0 : (1 ≤ S.page ∧ S.page ≤ 255) ∧ S.data.length = 16
  rotate_left
  · have hf : rightS S = false := by unfold rightS; rw [decide_eq_false h0]; rfl
    rw [hf]
    repeat' (first | (first | ((with_reducible apply l_pure tabOk); exact rfl; exact rfl) | ((with_reducible apply l_load); exact rfl; (((with_reducible apply Loads.sc tabOk); exact rfl; ((exact hS.blkC 0 rfl rfl)))); exact rfl) | ((with_reducible apply l_box hS); exact rfl; exact rfl; exact rfl; intro g w' hS'; clear hS; have hS := hS'; clear hS') | (first | ((with_reducible apply l_yes); exact rfl; exact rfl; exact rfl; exact rfl; (assumption)) | ((with_reducible apply l_no); exact rfl; exact rfl; exact rfl; exact rfl; (first | exact rfl | assumption); exact rfl) | ((with_reducible apply l_partd); exact rfl; exact rfl; exact rfl; all_goals (intro hb hp; try (exfalso; omega))) | ((with_reducible apply l_pick1); exact rfl; (first | exact rfl | assumption); exact rfl; exact rfl) | ((with_reducible apply l_pick2); exact rfl; ((assumption)); exact rfl; exact rfl))) | (first | (with_reducible apply c_seq) | (with_reducible apply c_region) | (with_reducible apply l_nil) | (with_reducible apply q_then) | (with_reducible apply c_ret) | (with_reducible apply q_then_ret)) | (first | ((with_reducible apply c_ift); exact rfl; (exact rfl)) | ((with_reducible apply c_ifn); exact rfl; all_goals (intro hb hp; try (exfalso; omega)))))
    all_goals (((apply q_ret1); (repeat (first | exact ResL.nil | (apply ResL.tmp; exact rfl)))); exact ⟨rfl, hS.sub (List.nil_sublist _)⟩)
  have hr : rightS S = fxOk 0 S.fixes := by unfold rightS; rw [decide_eq_true h0]; rfl
  rw [hr]
  repeat' (first | (first | ((with_reducible apply l_pure tabOk); exact rfl; exact rfl) | ((with_reducible apply l_load); exact rfl; (first | ((with_reducible apply Loads.sc tabOk); exact rfl; ((exact hS.blkC 0 rfl rfl))) | ((with_reducible apply Loads.sl tabOk); exact rfl; ((exact hS.blkC 0 rfl rfl)))); exact rfl) | ((with_reducible apply l_box hS); exact rfl; exact rfl; exact rfl; intro g w' hS'; clear hS; have hS := hS'; clear hS') | (first | ((with_reducible apply l_yes); exact rfl; exact rfl; exact rfl; exact rfl; (assumption)) | ((with_reducible apply l_partd); exact rfl; exact rfl; exact rfl; all_goals (intro hb hp; try (exfalso; omega))) | ((with_reducible apply l_pick2); exact rfl; ((assumption)); exact rfl; exact rfl))) | (first | (with_reducible apply c_seq) | (with_reducible apply c_region) | (with_reducible apply l_nil) | (with_reducible apply q_then) | (with_reducible apply c_skip) | (with_reducible apply c_block)) | (((with_reducible apply c_ifn); exact rfl; all_goals (intro hb hp; try (exfalso; omega)))))
  refine c_loopK (X := Nat × Int) (fun x => [(23, .int .i64 (x.1 : Nat)), (3, .int .i64 x.2)]) [1, 21, 22] rfl (fun _ => []) (fun x => (x.1 ≤ S.fixes.length ∧ 0 ≤ x.2 ∧ x.2 ≤ 16) ∧ fxOk 0 S.fixes = fxOk x.2 (S.fixes.drop x.1)) (fun x => S.fixes.length - x.1) (0, 0) (by repeat (first | exact Fr.sub_nil _ | (apply Fr.sub_cons; exact rfl))) (by simp) hS ?_
  clear hS
  rintro ⟨i, free⟩ w1 ⟨⟨hi, hf0, hf1⟩, hok⟩ hS
  dsimp only [List.cons_append, List.nil_append] at hi hf0 hf1 hok hS ⊢
  by_cases hlt : i < S.fixes.length
  · obtain ⟨x, hx⟩ := lt_get (l := S.fixes) (i := i) (by omega)
    have hrow := map_get (f := fxC) hx
    obtain ⟨b, off, rfl, hro⟩ := hu.at_ (i := i) hlt
    have hst := fxOk_step (free := free) hx
    by_cases h1 : free ≤ x.off ∧ x.off ≤ 16 ∧ x.bytes ≠ [] ∧ (x.bytes.length : Int) ≤ 16 - x.off
    · have ho : fxOne free x = true := decide_eq_true h1
      have hb0 : decide (x.bytes = []) = false := decide_eq_false h1.2.2.1
      rw [ho, Bool.true_and] at hst
      repeat' (first | (first | ((with_reducible apply l_add); exact rfl; exact rfl; omega; omega; exact rfl) | ((with_reducible apply l_sub); exact rfl; exact rfl; omega; omega; exact rfl) | ((with_reducible apply l_pure tabOk); exact rfl; exact rfl) | ((with_reducible apply l_load); exact rfl; (first | ((with_reducible apply Loads.sc tabOk); exact rfl; ((exact hS.blkC 0 rfl rfl))) | ((with_reducible apply Loads.st tabOk); exact rfl; ((exact hS.roR (by assumption) (by assumption))); exact rfl)); exact rfl) | ((with_reducible apply l_ix tabOk); exact rfl; exact rfl; exact rfl; ((exact rfl)); ((omega)); exact rfl) | ((with_reducible apply l_alloc hS tabOk); exact rfl; exact rfl; exact rfl; intro g w' hS'; clear hS; have hS := hS'; clear hS') | (((with_reducible apply l_store hS tabOk (i := 0)); exact rfl; exact rfl; exact rfl; exact rfl; exact rfl; exact rfl; exact rfl; exact rfl; ((exact (rfl : _ = [_, _]))); intro w' hS'; simp only [List.set] at hS'; clear hS; have hS := hS'; clear hS')) | (first | ((with_reducible apply l_yes); exact rfl; exact rfl; exact rfl; exact rfl; (assumption)) | ((with_reducible apply l_partd); exact rfl; exact rfl; exact rfl; all_goals (intro hb hp; try (exfalso; omega))) | ((with_reducible apply l_pick2); exact rfl; ((assumption)); exact rfl; exact rfl))) | (first | (with_reducible apply c_seq) | (with_reducible apply c_region) | (with_reducible apply l_nil) | (with_reducible apply q_then) | (with_reducible apply c_skip) | (with_reducible apply c_block) | (with_reducible apply q_block)) | (((with_reducible apply c_ifd); exact rfl; all_goals (intro hb hp; try (exfalso; omega)))))
      refine q_loopK (i + 1, fxEnd x) (by repeat (first | exact Fr.sub_nil _ | (apply Fr.sub_cons; exact rfl))) ⟨⟨by show i + 1 ≤ S.fixes.length; omega, by show 0 ≤ fxEnd x; unfold fxEnd; omega, by show fxEnd x ≤ 16; unfold fxEnd; omega⟩, by rw [hok, hst]⟩ hS.drop (by show S.fixes.length - (i + 1) < S.fixes.length - i; omega)
    · have ho : fxOne free x = false := decide_eq_false h1
      rw [ho, Bool.false_and] at hst
      by_cases hb1 : x.bytes = []
      · have hb0 : decide (x.bytes = []) = true := decide_eq_true hb1
        repeat' (first | (first | ((with_reducible apply l_pure tabOk); exact rfl; exact rfl) | ((with_reducible apply l_load); exact rfl; (first | ((with_reducible apply Loads.sc tabOk); exact rfl; ((exact hS.blkC 0 rfl rfl))) | ((with_reducible apply Loads.st tabOk); exact rfl; ((exact hS.roR (by assumption) (by assumption))); exact rfl)); exact rfl) | ((with_reducible apply l_ix tabOk); exact rfl; exact rfl; exact rfl; ((exact rfl)); ((omega)); exact rfl) | ((with_reducible apply l_alloc hS tabOk); exact rfl; exact rfl; exact rfl; intro g w' hS'; clear hS; have hS := hS'; clear hS') | (((with_reducible apply l_store hS tabOk (i := 0)); exact rfl; exact rfl; exact rfl; exact rfl; exact rfl; exact rfl; exact rfl; exact rfl; ((exact (rfl : _ = [_, _]))); intro w' hS'; simp only [List.set] at hS'; clear hS; have hS := hS'; clear hS')) | (first | ((with_reducible apply l_yes); exact rfl; exact rfl; exact rfl; exact rfl; (assumption)) | ((with_reducible apply l_no); exact rfl; exact rfl; exact rfl; exact rfl; (first | exact rfl | assumption); exact rfl) | ((with_reducible apply l_partd); exact rfl; exact rfl; exact rfl; all_goals (intro hb hp; try (exfalso; omega))) | ((with_reducible apply l_pick1); exact rfl; (first | exact rfl | assumption); exact rfl; exact rfl) | ((with_reducible apply l_pick2); exact rfl; ((assumption)); exact rfl; exact rfl))) | (first | (with_reducible apply c_seq) | (with_reducible apply c_region) | (with_reducible apply l_nil) | (with_reducible apply q_then) | (with_reducible apply c_skip) | (with_reducible apply c_block) | (with_reducible apply c_ret) | (with_reducible apply q_then_ret) | (with_reducible apply q_block_ret)) | (first | ((with_reducible apply c_ift); exact rfl; (exact rfl)) | ((with_reducible apply c_ifd); exact rfl; all_goals (intro hb hp; try (exfalso; omega)))))
        all_goals (((apply q_ret1); (repeat (first | exact ResL.nil | (apply ResL.tmp; exact rfl)))); exact ⟨by rw [hok, hst], hS.sub (List.nil_sublist _)⟩)
      · have hb0 : decide (x.bytes = []) = false := decide_eq_false hb1
        repeat' (first | (first | ((with_reducible apply l_add); exact rfl; exact rfl; omega; omega; exact rfl) | ((with_reducible apply l_sub); exact rfl; exact rfl; omega; omega; exact rfl) | ((with_reducible apply l_pure tabOk); exact rfl; exact rfl) | ((with_reducible apply l_load); exact rfl; (first | ((with_reducible apply Loads.sc tabOk); exact rfl; ((exact hS.blkC 0 rfl rfl))) | ((with_reducible apply Loads.st tabOk); exact rfl; ((exact hS.roR (by assumption) (by assumption))); exact rfl)); exact rfl) | ((with_reducible apply l_ix tabOk); exact rfl; exact rfl; exact rfl; ((exact rfl)); ((omega)); exact rfl) | ((with_reducible apply l_alloc hS tabOk); exact rfl; exact rfl; exact rfl; intro g w' hS'; clear hS; have hS := hS'; clear hS') | (((with_reducible apply l_store hS tabOk (i := 0)); exact rfl; exact rfl; exact rfl; exact rfl; exact rfl; exact rfl; exact rfl; exact rfl; ((exact (rfl : _ = [_, _]))); intro w' hS'; simp only [List.set] at hS'; clear hS; have hS := hS'; clear hS')) | (first | ((with_reducible apply l_yes); exact rfl; exact rfl; exact rfl; exact rfl; (assumption)) | ((with_reducible apply l_no); exact rfl; exact rfl; exact rfl; exact rfl; (first | exact rfl | assumption); exact rfl) | ((with_reducible apply l_partd); exact rfl; exact rfl; exact rfl; all_goals (intro hb hp; try (exfalso; omega))) | ((with_reducible apply l_pick1); exact rfl; (first | exact rfl | assumption); exact rfl; exact rfl) | ((with_reducible apply l_pick2); exact rfl; ((assumption)); exact rfl; exact rfl))) | (first | (with_reducible apply c_seq) | (with_reducible apply c_region) | (with_reducible apply l_nil) | (with_reducible apply q_then) | (with_reducible apply c_skip) | (with_reducible apply c_block) | (with_reducible apply c_ret) | (with_reducible apply q_then_ret) | (with_reducible apply q_block) | (with_reducible apply q_block_ret)) | (first | ((with_reducible apply c_ift); exact rfl; (exact rfl)) | ((with_reducible apply c_ifd); exact rfl; all_goals (intro hb hp; try (exfalso; omega)))))
        all_goals first | (((apply q_ret1); (repeat (first | exact ResL.nil | (apply ResL.tmp; exact rfl)))); exact ⟨by rw [hok, hst], hS.sub (List.nil_sublist _)⟩) | (exfalso; exact h1 ⟨by omega, by omega, hb1, by omega⟩)
  · repeat' (first | (((with_reducible apply l_pure tabOk); exact rfl; exact rfl)) | (first | (with_reducible apply c_seq) | (with_reducible apply c_region) | (with_reducible apply l_nil) | (with_reducible apply q_then) | (with_reducible apply c_exit) | (with_reducible apply c_ret) | (with_reducible apply q_then_exit) | (with_reducible apply q_block_exit)) | (((with_reducible apply c_ifd); exact rfl; all_goals (intro hb hp; try (exfalso; omega)))))
    (apply q_ret1); (repeat (first | exact ResL.nil | (apply ResL.tmp; exact rfl)))
    exact ⟨by rw [hok, List.drop_of_length_le (by omega)]; rfl, hS.sub (List.nil_sublist _)⟩
/-! filling -/
theorem fill_step {l : List Fx} {i : Nat} {f : Fx} {d : List UInt8} (h : l[i]? = some f) : fillF d (l.take (i + 1)) = splice (fillF d (l.take i)) f.off.toNat f.bytes := by
  unfold fillF
  rw [List.take_add_one, h]
  simp [List.foldl_append]
theorem fxOk_at {l : List Fx} : ∀ {free : Int}, fxOk free l = true → 0 ≤ free → ∀ {i : Nat} {f : Fx}, l[i]? = some f → (0 ≤ f.off ∧ f.off ≤ 16) ∧ (f.bytes.length : Int) ≤ 16 - f.off := by
  induction l with
  | nil => intro free _ _ i f h; simp at h
  | cons g r ih =>
    intro free h h0 i f hf
    simp only [fxOk, fxOne, Bool.and_eq_true, decide_eq_true_eq] at h
    obtain ⟨⟨h1, h2, h3, h4⟩, h5⟩ := h
    cases i with
    | zero => simp at hf; subst hf; exact ⟨⟨by omega, h2⟩, h4⟩
    | succ i => exact ih h5 (by unfold fxEnd; omega) (by simpa using hf)
theorem fillT_len {l : List Fx} {d : List UInt8} {free : Int} (h : fxOk free l = true) (h0 : 0 ≤ free) (hd : d.length = 16) : ∀ i, i ≤ l.length → (fillF d (l.take i)).length = 16 := by
  intro i
  induction i with
  | zero => intro _; simpa [fillF] using hd
  | succ i ih =>
    intro hi
    have hx : l[i]? = some l[i] := List.getElem?_eq_getElem (by omega)
    have := ih (by omega)
    obtain ⟨⟨h1, h2⟩, h3⟩ := fxOk_at h h0 hx
    rw [fill_step hx, splice_len (by omega)]
    exact this
theorem right_parts {S : Sh} (h : rightS S = true) : S.data.length = 16 ∧ fxOk 0 S.fixes = true := by
  unfold rightS at h
  simp only [Bool.and_eq_true, decide_eq_true_eq] at h
  exact ⟨h.1.2, h.2⟩
theorem fill_all {S : Sh} {i : Nat} (hi : S.fixes.length ≤ i) : fillF S.data (S.fixes.take i) = fillS S := by rw [List.take_of_length_le hi]; rfl
set_option maxRecDepth 100000 in
set_option maxHeartbeats 4000000 in
theorem Fill_fn {S : Sh} {w : World} {u : Value} (hu : ShV w S u) : Fn Try.prog 18 [shA S u] w (RBf (.tuple #[.string ⟨(if rightS S = true then fillS S else []).toArray⟩, .int .i64 (if rightS S = true then 0 else 1)]) w) := by
  have hr := fun w (h : ShV w S u) => right_fn h
  by_cases hR : rightS S = true
  rotate_left
  · rw [if_neg hR, if_neg hR]
    rw [show rightS S = false by simpa using hR] at hr
    refine fn_enter (fn := Try.f18) ⟨Try.func18, by kernel_rfl, by kernel_rfl⟩ (by exact rfl) Try.ntmps18 (by exact rfl) ?_
    have hS := St.start w
    unfold shA shC
    repeat' (first | (first | ((with_reducible apply l_pure tabOk); exact rfl; exact rfl) | ((with_reducible apply l_load); exact rfl; (((with_reducible apply Loads.st tabOk); exact rfl; ((exact hS.blkR 0 rfl)); exact rfl)); exact rfl) | ((with_reducible apply l_box hS); exact rfl; exact rfl; exact rfl; intro g w' hS'; clear hS; have hS := hS'; clear hS')) | (first | (with_reducible apply c_seq) | (with_reducible apply c_region) | (with_reducible apply l_nil) | (with_reducible apply q_then) | (with_reducible apply c_ret) | (with_reducible apply q_then_ret)) | (((with_reducible apply c_ift); exact rfl; (exact rfl))) | ((with_reducible apply l_call); exact rfl; exact rfl; exact hr _ (hu.now hS); exact rfl; rintro _ w' ⟨rfl, hS'⟩; replace hS := hS.transA hS'; simp only [appA] at hS; clear hS'))
    (apply q_ret2); (repeat (first | exact ResL.nil | (apply ResL.tmp; exact rfl)))
    exact ⟨rfl, hS.sub (List.nil_sublist _)⟩
  rw [if_pos hR, if_pos hR]
  rw [hR] at hr
  obtain ⟨hd, hok⟩ := right_parts hR
  have bnd := hu.bound
  obtain ⟨p, c, rfl⟩ := hu.len
  refine fn_enter (fn := Try.f18) ⟨Try.func18, by kernel_rfl, by kernel_rfl⟩ (by exact rfl) Try.ntmps18 (by exact rfl) ?_
  have hS := St.start w
  unfold shA shC
  repeat' (first | (first | ((with_reducible apply l_pure tabOk); exact rfl; exact rfl) | ((with_reducible apply l_load); exact rfl; (first | ((with_reducible apply Loads.sc tabOk); exact rfl; ((exact hS.blkC 0 rfl rfl))) | ((with_reducible apply Loads.sl tabOk); exact rfl; ((exact hS.blkC 0 rfl rfl))) | ((with_reducible apply Loads.st tabOk); exact rfl; ((exact hS.blkR 0 rfl)); exact rfl)); exact rfl) | ((with_reducible apply l_box hS); exact rfl; exact rfl; exact rfl; intro g w' hS'; clear hS; have hS := hS'; clear hS')) | (first | (with_reducible apply c_seq) | (with_reducible apply c_region) | (with_reducible apply l_nil) | (with_reducible apply q_then) | (with_reducible apply c_skip) | (with_reducible apply c_block)) | (((with_reducible apply c_iff); exact rfl; (exact rfl))) | ((with_reducible apply l_call); exact rfl; exact rfl; exact hr _ (hu.now hS); exact rfl; rintro _ w' ⟨rfl, hS'⟩; replace hS := hS.transA hS'; simp only [appA] at hS; clear hS'))
  refine c_loopK (X := Nat) (fun x => [(15, .int .i64 (x : Nat)), (4, .string ⟨(fillF S.data (S.fixes.take x)).toArray⟩)]) [1, 13, 14] rfl (fun _ => []) (fun x => x ≤ S.fixes.length) (fun x => S.fixes.length - x) 0 (by repeat (first | exact Fr.sub_nil _ | (apply Fr.sub_cons; exact rfl))) (by simp) hS ?_
  clear hS
  intro i w1 hi hS
  dsimp only [List.cons_append, List.nil_append] at hi hS ⊢
  have hlen := fillT_len hok (by omega) hd i hi
  by_cases hlt : i < S.fixes.length
  · obtain ⟨x, hx⟩ := lt_get (l := S.fixes) (i := i) (by omega)
    have hrow := map_get (f := fxC) hx
    obtain ⟨b, off, rfl, hro⟩ := hu.at_ (i := i) hlt
    obtain ⟨⟨h1, h2⟩, h3⟩ := fxOk_at hok (by omega) hx
    have hst := fill_step (d := S.data) hx
    generalize fillF S.data (S.fixes.take i) = d at hlen hst ⊢
    have hlay := fun w => Lay_fn d x.bytes x.off w (by unfold maxLen; omega)
    have hin : inB x.off x.bytes.length d.length = true := by unfold inB; rw [decide_eq_true_eq]; omega
    simp only [hin, if_true] at hlay
    repeat' (first | (first | ((with_reducible apply l_add); exact rfl; exact rfl; omega; omega; exact rfl) | ((with_reducible apply l_pure tabOk); exact rfl; exact rfl) | ((with_reducible apply l_load); exact rfl; (first | ((with_reducible apply Loads.sc tabOk); exact rfl; ((exact hS.blkC 0 rfl rfl))) | ((with_reducible apply Loads.st tabOk); exact rfl; ((exact hS.roR (by assumption) (by assumption))); exact rfl)); exact rfl) | ((with_reducible apply l_ix tabOk); exact rfl; exact rfl; exact rfl; ((exact rfl)); ((omega)); exact rfl) | ((with_reducible apply l_alloc hS tabOk); exact rfl; exact rfl; exact rfl; intro g w' hS'; clear hS; have hS := hS'; clear hS') | (((with_reducible apply l_store hS tabOk (i := 0)); exact rfl; exact rfl; exact rfl; exact rfl; exact rfl; exact rfl; exact rfl; exact rfl; ((exact (rfl : _ = [_, _]))); intro w' hS'; simp only [List.set] at hS'; clear hS; have hS := hS'; clear hS'))) | (first | (with_reducible apply c_seq) | (with_reducible apply c_region) | (with_reducible apply l_nil) | (with_reducible apply q_then) | (with_reducible apply c_skip) | (with_reducible apply c_block) | (with_reducible apply q_block)) | (((with_reducible apply c_ifd); exact rfl; all_goals (intro hb hp; try (exfalso; omega)))) | ((with_reducible apply l_call); exact rfl; exact rfl; exact hlay _; exact rfl; rintro _ w' ⟨rfl, hS'⟩; replace hS := hS.transA hS'; simp only [appA] at hS; clear hS'))
    exact q_loopK (i + 1) (by rw [hst]; repeat (first | exact Fr.sub_nil _ | (apply Fr.sub_cons; exact rfl))) (by show i + 1 ≤ S.fixes.length; omega) hS.drop (by show S.fixes.length - (i + 1) < S.fixes.length - i; omega)
  · repeat' (first | (((with_reducible apply l_pure tabOk); exact rfl; exact rfl)) | (first | (with_reducible apply c_seq) | (with_reducible apply c_region) | (with_reducible apply l_nil) | (with_reducible apply q_then) | (with_reducible apply c_exit) | (with_reducible apply c_ret) | (with_reducible apply q_then_exit) | (with_reducible apply q_block_exit)) | (((with_reducible apply c_ifd); exact rfl; all_goals (intro hb hp; try (exfalso; omega)))))
    (apply q_ret2); (repeat (first | exact ResL.nil | (apply ResL.tmp; exact rfl)))
    exact ⟨by rw [fill_all (by omega)], hS.sub (List.nil_sublist _)⟩
end Go.Proofs.Ytejnpppejalhfab
