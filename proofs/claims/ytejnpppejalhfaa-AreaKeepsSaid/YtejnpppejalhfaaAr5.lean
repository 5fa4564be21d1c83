/- The contract of area.Find. -/
import Derived.Test.YtejnpppejalhfaaAr4
import Derived.Deep.RegionWith
import Derived.Deep.DeepCutAuto
namespace Go.Proofs.Ytejnpppejalhfaa
open Go.RowKit Go.Sort

def cmpI (a : Ar) (page : Int) : Int := if wrap64 a.fin ≤ page then -1 else 1
set_option maxRecDepth 100000 in
set_option maxHeartbeats 1000000 in
theorem cmp_any (a : Ar) (page : Int) (w : World) : Calls Try.prog 64 #[.agg (arC a).toArray, .int .i64 page] w (RB (.int .i64 (cmpI a page)) w) := by
  have HE := hid (fun w => end_any a w)
  have HC : Hid (cmpI a page = if wrap64 a.fin ≤ page then -1 else 1) := hid rfl
  generalize wrap64 a.fin = f at *
  unfold arC at *
  by_cases h : f ≤ page
  · go_enter Try.func64, Try.ntmps64
    go_wp2_with (first | (go_at_call 65; (with_reducible refine (HE.out _).mono ?_); rintro e w1 ⟨rfl, hb1⟩))
    go_ret
    exact ⟨ret_int (by rw [HC.out, if_pos h]), (by repeat (first | (with_reducible exact Below.refl _ _) | (with_reducible assumption) | (with_reducible refine Below.alloc ?_ (by first | omega | (simp; done) | (simp; omega)) _) | (with_reducible refine Below.setCell ?_ (by first | omega | (simp; done) | (simp; omega)) _) | (with_reducible refine Below.drew ?_) | (with_reducible refine bt ?_ (below_regrown _ _ _)) | (refine bt ?_ (by with_reducible assumption))))⟩
  · go_enter Try.func64, Try.ntmps64
    go_wp2_with (first | (go_at_call 65; (with_reducible refine (HE.out _).mono ?_); rintro e w1 ⟨rfl, hb1⟩))
    go_ret
    exact ⟨ret_int (by rw [HC.out, if_neg (by omega)]), (by repeat (first | (with_reducible exact Below.refl _ _) | (with_reducible assumption) | (with_reducible refine Below.alloc ?_ (by first | omega | (simp; done) | (simp; omega)) _) | (with_reducible refine Below.setCell ?_ (by first | omega | (simp; done) | (simp; omega)) _) | (with_reducible refine Below.drew ?_) | (with_reducible refine bt ?_ (below_regrown _ _ _)) | (refine bt ?_ (by with_reducible assumption))))⟩
theorem cmp_ne (a : Ar) (page : Int) : (cmpI a page == 0) = false := by unfold cmpI; split <;> decide
theorem cmp_lt {a : Ar} {page : Int} : cmpI a page < 0 ↔ wrap64 a.fin ≤ page := by unfold cmpI; split <;> omega

/-- of good areas, what ends by a page stands ahead -/
theorem rise_fin {L : List Ar} (h : Good L) : ∀ {j k : Nat} {a b : Ar}, j < k → L[j]? = some a → L[k]? = some b → a.fin ≤ b.pg := by
  have ok := (good_iff L).1 h
  intro j k
  induction k with
  | zero => intro a b hj; omega
  | succ k ih =>
    intro a b hj ha hb
    obtain ⟨hk, _⟩ := List.getElem?_eq_some_iff.1 hb
    obtain ⟨c, hc⟩ : ∃ c, L[k]? = some c := ⟨L[k], by simp⟩
    have h1 := ((okAt_succ hb hc).1 (ok (k + 1) hk)).2.1
    rcases Nat.lt_succ_iff_lt_or_eq.1 hj with h2 | h2
    · have h3 := ih h2 ha hc
      have h4 := good_ok h k c hc
      unfold Ar.ok at h4
      unfold Ar.fin at *
      omega
    · subst h2; rw [ha] at hc; cases hc; exact h1

def BsInv (L : List Ar) (page : Int) (i j : Nat) : Prop := Good L → (∀ (t : Nat) (a : Ar), t < i → L[t]? = some a → a.fin ≤ page) ∧ (∀ (t : Nat) (a : Ar), j ≤ t → L[t]? = some a → page < a.fin)
theorem bs_start (L : List Ar) (page : Int) : BsInv L page 0 L.length := fun _ => ⟨fun t a h => by omega, fun t a h ha => by obtain ⟨h2, _⟩ := List.getElem?_eq_some_iff.1 ha; omega⟩
theorem bs_left {L : List Ar} {page : Int} {i j h : Nat} {a : Ar} (hI : BsInv L page i j) (ha : L[h]? = some a) (hc : cmpI a page < 0) : BsInv L page (h + 1) j := fun hg => by
  have hok := good_ok hg h a ha
  rw [cmp_lt, fin_wrap hok] at hc
  refine ⟨fun t b ht hb => ?_, (hI hg).2⟩
  rcases Nat.lt_succ_iff_lt_or_eq.1 ht with h1 | h1
  · have := rise_fin hg h1 hb ha
    have hb' := good_ok hg t b hb
    unfold Ar.ok at hok
    unfold Ar.fin at *
    omega
  · subst h1; rw [ha] at hb; cases hb; exact hc
theorem bs_right {L : List Ar} {page : Int} {i j h : Nat} {a : Ar} (hI : BsInv L page i j) (ha : L[h]? = some a) (hc : ¬ cmpI a page < 0) : BsInv L page i h := fun hg => by
  have hok := good_ok hg h a ha
  rw [cmp_lt, fin_wrap hok] at hc
  refine ⟨(hI hg).1, fun t b ht hb => ?_⟩
  rcases Nat.lt_or_eq_of_le ht with h1 | h1
  · have := rise_fin hg h1 ha hb
    have hb' := good_ok hg t b hb
    unfold Ar.ok at hb'
    unfold Ar.fin at *
    omega
  · subst h1; rw [ha] at hb; cases hb; omega

def BsPost (L : List Ar) (page : Int) (w : World) (e : Ending) (w' : World) : Prop := ∃ i : Nat, i ≤ L.length ∧ e = .returned (.tuple #[.int .i64 i, .bool false]) ∧ Below w.heap.size w w' ∧ BsInv L page i i

theorem half_num (i j n : Nat) (hi : i ≤ n) (hj : j ≤ n) (h : n ≤ 9223372036854775807) : IntKind.u64.wrap (wrap64 ((i : Int) + j)) = (i : Int) + j := by
  rw [IntKind.wrap_u64]; unfold wrap64; omega
theorem half_num0 (i j n : Nat) (hi : i ≤ n) (hj : j ≤ n) (h : n ≤ 9223372036854775807) : IntKind.u64.wrap ((i : Int) + j) = (i : Int) + j := by
  rw [IntKind.wrap_u64]; omega
theorem wrap_succ (h n : Nat) (h1 : h < n) (h2 : n ≤ 9223372036854775807) : wrap64 ((h : Int) + 1) = (h : Int) + 1 := by unfold wrap64; omega
theorem len_max {n cap : Nat} (h : n ≤ cap) (hm : cap ≤ maxLen) : n ≤ 9223372036854775807 := Nat.le_trans h hm
theorem ms1 {i j h : Nat} (h1 : i ≤ h) (h2 : h < j) : ((j : Int)).toNat - ((h : Int) + 1).toNat < (j : Int).toNat - (i : Int).toNat := by omega
theorem ms2 {i j h : Nat} (h1 : i ≤ h) (h2 : h < j) : ((h : Int)).toNat - (i : Int).toNat < (j : Int).toNat - (i : Int).toNat := by omega
theorem half_num2 (i j n : Nat) (hi : i ≤ n) (hj : j ≤ n) (h : n ≤ 9223372036854775807) : wrap64 (((i : Int) + j) / 2) = ((i + j) / 2 : Nat) := by
  unfold wrap64; omega
set_option maxRecDepth 100000 in
set_option maxHeartbeats 4000000 in
theorem bs_any {L : List Ar} {w : World} (b off cap : Nat) (page : Int) (hbl : b < w.heap.size) (hcap : L.length ≤ cap) (hmax : cap ≤ maxLen) (hcells : ∀ i a, L[i]? = some a → CellsAr w b (off + i * 4) a) :
    Calls Try.prog 63 #[.slice (some ⟨b, off, none⟩) L.length cap, .int .i64 page, .func (.func 64) #[] #[]] w (BsPost L page w) := by
  have hlen := len_max hcap hmax
  clear hmax hcap
  have HLEN := hid hlen; clear hlen
  have HL := hid hcells
  have HI := hid (bs_start L page)
  clear hcells
  go_enter Try.func63, Try.ntmps63
  go_wp2
  go_loopw [9, 10] (fun vi vj wr => ∃ i j : Nat, i ≤ j ∧ j ≤ L.length ∧ vi = .int .i64 i ∧ vj = .int .i64 j ∧ Below w.heap.size w wr ∧ Hid (BsInv L page i j)) (fun vi vj _ => (intOf vj).toNat - (intOf vi).toNat)
  case atStart => exact ⟨0, L.length, by omega, by omega, rfl, rfl, Below.refl _ _, HI.out⟩
  case round =>
    clear HI
    obtain ⟨i, j, hij, hj, rfl, rfl, hb, HI⟩ := hrel
    by_cases hlt : i < j
    · obtain ⟨h, hh⟩ : ∃ h, h = (i + j) / 2 := ⟨_, rfl⟩
      have hhj : h < j := by omega
      have hih : i ≤ h := by omega
      obtain ⟨a, ha⟩ : ∃ a, L[h]? = some a := ⟨L[h]'(by omega), by simp⟩
      obtain ⟨c0, c1, c2, c3⟩ := (HL.out h a ha).grown hb hbl
      have hbr := ltAll (Nat.lt_of_lt_of_le hbl hb.size)
      have hsz := hb.size
      have hq0 := half_num0 i j L.length (Nat.le_trans hij hj) hj HLEN.out
      have hq1 := half_num i j L.length (Nat.le_trans hij hj) hj HLEN.out
      have hq2 := half_num2 i j L.length (Nat.le_trans hij hj) hj HLEN.out
      rw [← hh] at hq2
      have HC := hid (fun w => cmp_any a page w)
      unfold arC at HC
      have hw1 : wrap64 ((h : Int) + 1) = (h : Int) + 1 := wrap_succ h L.length (Nat.lt_of_lt_of_le hhj hj) HLEN.out
      have hlh : (h : Int) < L.length := Int.ofNat_lt.2 (Nat.lt_of_lt_of_le hhj hj)
      clear hh
      go_upto_region 5 with fail
      rw [hq2]
      clear hq0 hq1 hq2
      by_cases hc : cmpI a page < 0
      · have HX := hid (bs_left HI.out ha hc)
        generalize cmpI a page = cv at *
        go_wp2_with (first | (go_at_call 64; (with_reducible refine (HC.out _).mono ?_); rintro e w1 ⟨rfl, hb1⟩))
        go_roundw
        case rel => exact ⟨h + 1, j, Nat.succ_le_of_lt hhj, hj, by rw [hw1]; rfl, rfl, (by repeat (first | (with_reducible exact Below.refl _ _) | (with_reducible assumption) | (with_reducible refine Below.alloc ?_ (by first | omega | (simp; done) | (simp; omega)) _) | (with_reducible refine Below.setCell ?_ (by first | omega | (simp; done) | (simp; omega)) _) | (with_reducible refine Below.drew ?_) | (with_reducible refine bt ?_ (below_regrown _ _ _)) | (refine bt ?_ (by with_reducible assumption)))), HX.out⟩
        case measure => (rw [hw1]; exact ms1 hih hhj)
      · have HX := hid (bs_right HI.out ha hc)
        generalize cmpI a page = cv at *
        go_wp2_with (first | (go_at_call 64; (with_reducible refine (HC.out _).mono ?_); rintro e w1 ⟨rfl, hb1⟩))
        go_roundw
        case rel => exact ⟨i, h, hih, Nat.le_of_lt (Nat.lt_of_lt_of_le hhj hj), rfl, rfl, (by repeat (first | (with_reducible exact Below.refl _ _) | (with_reducible assumption) | (with_reducible refine Below.alloc ?_ (by first | omega | (simp; done) | (simp; omega)) _) | (with_reducible refine Below.setCell ?_ (by first | omega | (simp; done) | (simp; omega)) _) | (with_reducible refine Below.drew ?_) | (with_reducible refine bt ?_ (below_regrown _ _ _)) | (refine bt ?_ (by with_reducible assumption)))), HX.out⟩
        case measure => exact ms2 hih hhj
    · obtain rfl : i = j := by omega
      by_cases hn : i < L.length
      · obtain ⟨a, ha⟩ : ∃ a, L[i]? = some a := ⟨L[i], by simp [hn]⟩
        obtain ⟨c0, c1, c2, c3⟩ := (HL.out i a ha).grown hb hbl
        have hbr := ltAll (Nat.lt_of_lt_of_le hbl hb.size)
        have hsz := hb.size
        have HC := hid (fun w => cmp_any a page w)
        have hz := cmp_ne a page
        unfold arC at HC
        generalize cmpI a page = cv at *
        go_wp2_with (first | (go_at_call 64; (with_reducible refine (HC.out _).mono ?_); rintro e w1 ⟨rfl, hb1⟩))
        go_ret2
        exact ⟨i, hj, rfl, (by repeat (first | (with_reducible exact Below.refl _ _) | (with_reducible assumption) | (with_reducible refine Below.alloc ?_ (by first | omega | (simp; done) | (simp; omega)) _) | (with_reducible refine Below.setCell ?_ (by first | omega | (simp; done) | (simp; omega)) _) | (with_reducible refine Below.drew ?_) | (with_reducible refine bt ?_ (below_regrown _ _ _)) | (refine bt ?_ (by with_reducible assumption)))), HI.out⟩
      · go_wp2
        go_ret2
        exact ⟨i, hj, rfl, (by repeat (first | (with_reducible exact Below.refl _ _) | (with_reducible assumption) | (with_reducible refine Below.alloc ?_ (by first | omega | (simp; done) | (simp; omega)) _) | (with_reducible refine Below.setCell ?_ (by first | omega | (simp; done) | (simp; omega)) _) | (with_reducible refine Below.drew ?_) | (with_reducible refine bt ?_ (below_regrown _ _ _)) | (refine bt ?_ (by with_reducible assumption)))), HI.out⟩
end Go.Proofs.Ytejnpppejalhfaa
