/- Texts that the proof stands on, one behind the other: Ar20, Ar21, Ar22, Ar23, Ar5, Ar11, Ar12, Ar13, Ar14, Ar15, Ar16, As3, As4, Ar6, As5, PlArea3, PlLnk2, Bits, BitsF, Lk1, Lk2, Lk3, Sc21, PlLnk5, PlFix, PlLay. -/
import Derived.Deep.RegionWith
import Derived.Deep.DeepCutAuto
import Derived.Lib.AppendZerosOnto
import Derived.Lib.Walk
import Derived.Test.YtejnpppejalhfabProg
import Derived.Handy
import Derived.BigQuiet
import Derived.Deep.QuietTactic
import Derived.WalkSpells
import Derived.Laws.IdiomCopy
import Derived.Test.YtejnpppejalhfabPLinkLong3
/- The contract of area.cut. -/
namespace Go.Proofs.Ytejnpppejalhfab
open Go.RowKit Go.Sort

end Go.Proofs.Ytejnpppejalhfab
/- slices.Grow of a nil slice of areas; slices.Concat of three. -/
namespace Go.Proofs.Ytejnpppejalhfab
open Go.RowKit Go.Sort

end Go.Proofs.Ytejnpppejalhfab
/- slices.Concat of rows of areas. -/
namespace Go.Proofs.Ytejnpppejalhfab
open Go.RowKit Go.Sort

end Go.Proofs.Ytejnpppejalhfab
/- slices.Concat of three rows of areas: the walk. -/
namespace Go.Proofs.Ytejnpppejalhfab
open Go.RowKit Go.Sort

theorem SlAr.below {w w' : World} {v : Value} {L : List Ar} (h : SlAr w v L) (hb : Below w.heap.size w w') : SlAr w' v L := by
  rcases h with h | ⟨b, off, cap, rfl, h2, h3, h4, h5⟩
  · exact Or.inl h
  · exact Or.inr ⟨b, off, cap, rfl, Nat.lt_of_lt_of_le h2 hb.size, h3, h4, fun i a ha => (h5 i a ha).grown hb h2⟩
end Go.Proofs.Ytejnpppejalhfab
/- The contract of area.Find. -/
namespace Go.Proofs.Ytejnpppejalhfab
open Go.RowKit Go.Sort

def cmpI (a : Ar) (page : Int) : Int := if wrap64 a.fin ≤ page then -1 else 1
set_option maxRecDepth 100000 in
set_option maxHeartbeats 1000000 in
theorem cmp_any (a : Ar) (page : Int) (w : World) : Calls Try.prog 110 #[.agg (arC a).toArray, .int .i64 page] w (RB (.int .i64 (cmpI a page)) w) := by
  have HE := hid (fun w => end_any a w)
  have HC : Hid (cmpI a page = if wrap64 a.fin ≤ page then -1 else 1) := hid rfl
  generalize wrap64 a.fin = f at *
  unfold arC at *
  by_cases h : f ≤ page
  · go_enter Try.func110, Try.ntmps110
    go_wp2_with (first | (go_at_call 107; (with_reducible refine (HE.out _).mono ?_); rintro e w1 ⟨rfl, hb1⟩))
    go_ret
    exact ⟨ret_int (by rw [HC.out, if_pos h]), (by repeat (first | (with_reducible exact Below.refl _ _) | (with_reducible refine Below.alloc ?_ (by (omega)) _) | (refine bt ?_ (by with_reducible assumption))))⟩
  · go_enter Try.func110, Try.ntmps110
    go_wp2_with (first | (go_at_call 107; (with_reducible refine (HE.out _).mono ?_); rintro e w1 ⟨rfl, hb1⟩))
    go_ret
    exact ⟨ret_int (by rw [HC.out, if_neg (by omega)]), (by repeat (first | (with_reducible exact Below.refl _ _) | (with_reducible refine Below.alloc ?_ (by (omega)) _) | (refine bt ?_ (by with_reducible assumption))))⟩
theorem cmp_ne (a : Ar) (page : Int) : (cmpI a page == 0) = false := by unfold cmpI; split <;> decide
theorem cmp_lt {a : Ar} {page : Int} : cmpI a page < 0 ↔ wrap64 a.fin ≤ page := by unfold cmpI; split <;> omega

/-- of good areas, what ends by a page stands ahead -/
theorem rise_fin {L : List Ar} (h : Good L) : ∀ {j k : Nat} {a b : Ar}, j < k → L[j]? = some a → L[k]? = some b → a.fin ≤ b.pg := by
  have ok := (good_iff L).1 h
  intro j k
  induction k with
  | zero => intro a b hj; omega
  | succ k ih =>
    intro a b hj ha hb
    obtain ⟨hk, _⟩ := List.getElem?_eq_some_iff.1 hb
    obtain ⟨c, hc⟩ : ∃ c, L[k]? = some c := ⟨L[k], by simp⟩
    have h1 := ((okAt_succ hb hc).1 (ok (k + 1) hk)).2.1
    rcases Nat.lt_succ_iff_lt_or_eq.1 hj with h2 | h2
    · have h3 := ih h2 ha hc
      have h4 := good_ok h k c hc
      unfold Ar.ok at h4
      unfold Ar.fin at *
      omega
    · subst h2; rw [ha] at hc; cases hc; exact h1

def BsInv (L : List Ar) (page : Int) (i j : Nat) : Prop := Good L → (∀ (t : Nat) (a : Ar), t < i → L[t]? = some a → a.fin ≤ page) ∧ (∀ (t : Nat) (a : Ar), j ≤ t → L[t]? = some a → page < a.fin)
theorem bs_start (L : List Ar) (page : Int) : BsInv L page 0 L.length := fun _ => ⟨fun t a h => by omega, fun t a h ha => by obtain ⟨h2, _⟩ := List.getElem?_eq_some_iff.1 ha; omega⟩
theorem bs_left {L : List Ar} {page : Int} {i j h : Nat} {a : Ar} (hI : BsInv L page i j) (ha : L[h]? = some a) (hc : cmpI a page < 0) : BsInv L page (h + 1) j := fun hg => by
  have hok := good_ok hg h a ha
  rw [cmp_lt, fin_wrap hok] at hc
  refine ⟨fun t b ht hb => ?_, (hI hg).2⟩
  rcases Nat.lt_succ_iff_lt_or_eq.1 ht with h1 | h1
  · have := rise_fin hg h1 hb ha
    have hb' := good_ok hg t b hb
    unfold Ar.ok at hok
    unfold Ar.fin at *
    omega
  · subst h1; rw [ha] at hb; cases hb; exact hc
theorem bs_right {L : List Ar} {page : Int} {i j h : Nat} {a : Ar} (hI : BsInv L page i j) (ha : L[h]? = some a) (hc : ¬ cmpI a page < 0) : BsInv L page i h := fun hg => by
  have hok := good_ok hg h a ha
  rw [cmp_lt, fin_wrap hok] at hc
  refine ⟨(hI hg).1, fun t b ht hb => ?_⟩
  rcases Nat.lt_or_eq_of_le ht with h1 | h1
  · have := rise_fin hg h1 ha hb
    have hb' := good_ok hg t b hb
    unfold Ar.ok at hb'
    unfold Ar.fin at *
    omega
  · subst h1; rw [ha] at hb; cases hb; omega

def BsPost (L : List Ar) (page : Int) (w : World) (e : Ending) (w' : World) : Prop := ∃ i : Nat, i ≤ L.length ∧ e = .returned (.tuple #[.int .i64 i, .bool false]) ∧ Below w.heap.size w w' ∧ BsInv L page i i

theorem half_num (i j n : Nat) (hi : i ≤ n) (hj : j ≤ n) (h : n ≤ 9223372036854775807) : IntKind.u64.wrap (wrap64 ((i : Int) + j)) = (i : Int) + j := by
  rw [IntKind.wrap_u64]; unfold wrap64; omega
theorem half_num0 (i j n : Nat) (hi : i ≤ n) (hj : j ≤ n) (h : n ≤ 9223372036854775807) : IntKind.u64.wrap ((i : Int) + j) = (i : Int) + j := by
  rw [IntKind.wrap_u64]; omega
theorem wrap_succ (h n : Nat) (h1 : h < n) (h2 : n ≤ 9223372036854775807) : wrap64 ((h : Int) + 1) = (h : Int) + 1 := by unfold wrap64; omega
theorem len_max {n cap : Nat} (h : n ≤ cap) (hm : cap ≤ maxLen) : n ≤ 9223372036854775807 := Nat.le_trans h hm
theorem ms1 {i j h : Nat} (h1 : i ≤ h) (h2 : h < j) : ((j : Int)).toNat - ((h : Int) + 1).toNat < (j : Int).toNat - (i : Int).toNat := by omega
theorem ms2 {i j h : Nat} (h1 : i ≤ h) (h2 : h < j) : ((h : Int)).toNat - (i : Int).toNat < (j : Int).toNat - (i : Int).toNat := by omega
theorem half_num2 (i j n : Nat) (hi : i ≤ n) (hj : j ≤ n) (h : n ≤ 9223372036854775807) : wrap64 (((i : Int) + j) / 2) = ((i + j) / 2 : Nat) := by
  unfold wrap64; omega
set_option maxRecDepth 100000 in
set_option maxHeartbeats 4000000 in
theorem bs_any {L : List Ar} {w : World} (b off cap : Nat) (page : Int) (hbl : b < w.heap.size) (hcap : L.length ≤ cap) (hmax : cap ≤ maxLen) (hcells : ∀ i a, L[i]? = some a → CellsAr w b (off + i * 4) a) :
    Calls Try.prog 109 #[.slice (some ⟨b, off, none⟩) L.length cap, .int .i64 page, .func (.func 110) #[] #[]] w (BsPost L page w) := by
  have hlen := len_max hcap hmax
  clear hmax hcap
  have HLEN := hid hlen; clear hlen
  have HL := hid hcells
  have HI := hid (bs_start L page)
  clear hcells
  go_enter Try.func109, Try.ntmps109
  go_wp2
  go_loopw [9, 10] (fun vi vj wr => ∃ i j : Nat, i ≤ j ∧ j ≤ L.length ∧ vi = .int .i64 i ∧ vj = .int .i64 j ∧ Below w.heap.size w wr ∧ Hid (BsInv L page i j)) (fun vi vj _ => (intOf vj).toNat - (intOf vi).toNat)
  case atStart => exact ⟨0, L.length, by omega, by omega, rfl, rfl, Below.refl _ _, HI.out⟩
  case round =>
    clear HI
    obtain ⟨i, j, hij, hj, rfl, rfl, hb, HI⟩ := hrel
    by_cases hlt : i < j
    · obtain ⟨h, hh⟩ : ∃ h, h = (i + j) / 2 := ⟨_, rfl⟩
      have hhj : h < j := by omega
      have hih : i ≤ h := by omega
      obtain ⟨a, ha⟩ : ∃ a, L[h]? = some a := ⟨L[h]'(by omega), by simp⟩
      obtain ⟨c0, c1, c2, c3⟩ := (HL.out h a ha).grown hb hbl
      have hbr := ltAll (Nat.lt_of_lt_of_le hbl hb.size)
      have hsz := hb.size
      have hq0 := half_num0 i j L.length (Nat.le_trans hij hj) hj HLEN.out
      have hq1 := half_num i j L.length (Nat.le_trans hij hj) hj HLEN.out
      have hq2 := half_num2 i j L.length (Nat.le_trans hij hj) hj HLEN.out
      rw [← hh] at hq2
      have HC := hid (fun w => cmp_any a page w)
      unfold arC at HC
      have hw1 : wrap64 ((h : Int) + 1) = (h : Int) + 1 := wrap_succ h L.length (Nat.lt_of_lt_of_le hhj hj) HLEN.out
      have hlh : (h : Int) < L.length := Int.ofNat_lt.2 (Nat.lt_of_lt_of_le hhj hj)
      clear hh
      go_upto_region 5 with fail
      rw [hq2]
      clear hq0 hq1 hq2
      by_cases hc : cmpI a page < 0
      · have HX := hid (bs_left HI.out ha hc)
        generalize cmpI a page = cv at *
        go_wp2_with (first | (go_at_call 110; (with_reducible refine (HC.out _).mono ?_); rintro e w1 ⟨rfl, hb1⟩))
        go_roundw
        case rel => exact ⟨h + 1, j, Nat.succ_le_of_lt hhj, hj, by rw [hw1]; rfl, rfl, (by repeat (first | (with_reducible assumption) | (refine bt ?_ (by with_reducible assumption)))), HX.out⟩
        case measure => (rw [hw1]; exact ms1 hih hhj)
      · have HX := hid (bs_right HI.out ha hc)
        generalize cmpI a page = cv at *
        go_wp2_with (first | (go_at_call 110; (with_reducible refine (HC.out _).mono ?_); rintro e w1 ⟨rfl, hb1⟩))
        go_roundw
        case rel => exact ⟨i, h, hih, Nat.le_of_lt (Nat.lt_of_lt_of_le hhj hj), rfl, rfl, (by repeat (first | (with_reducible assumption) | (refine bt ?_ (by with_reducible assumption)))), HX.out⟩
        case measure => exact ms2 hih hhj
    · obtain rfl : i = j := by omega
      by_cases hn : i < L.length
      · obtain ⟨a, ha⟩ : ∃ a, L[i]? = some a := ⟨L[i], by simp [hn]⟩
        obtain ⟨c0, c1, c2, c3⟩ := (HL.out i a ha).grown hb hbl
        have hbr := ltAll (Nat.lt_of_lt_of_le hbl hb.size)
        have hsz := hb.size
        have HC := hid (fun w => cmp_any a page w)
        have hz := cmp_ne a page
        unfold arC at HC
        generalize cmpI a page = cv at *
        go_wp2_with (first | (go_at_call 110; (with_reducible refine (HC.out _).mono ?_); rintro e w1 ⟨rfl, hb1⟩))
        go_ret2
        exact ⟨i, hj, rfl, (by repeat (first | (with_reducible assumption) | (refine bt ?_ (by with_reducible assumption)))), HI.out⟩
      · go_wp2
        go_ret2
        exact ⟨i, hj, rfl, (by repeat ((with_reducible assumption))), HI.out⟩
end Go.Proofs.Ytejnpppejalhfab
/- The contracts of the reference's SameAreas (all forms), within, CheckAreas. -/
namespace Go.Proofs.Ytejnpppejalhfab
open Go.RowKit Go.Sort

end Go.Proofs.Ytejnpppejalhfab
/- The contract of the reference's CheckAreas. -/
namespace Go.Proofs.Ytejnpppejalhfab
open Go.RowKit Go.Sort

end Go.Proofs.Ytejnpppejalhfab
/- The contracts of the reference's spanError, MapIn. -/
namespace Go.Proofs.Ytejnpppejalhfab
open Go.RowKit Go.Sort

end Go.Proofs.Ytejnpppejalhfab
/- The contract of the reference's MapIn. -/
namespace Go.Proofs.Ytejnpppejalhfab
open Go.RowKit Go.Sort

end Go.Proofs.Ytejnpppejalhfab
/- The contract of the reference's UnmapIn. -/
namespace Go.Proofs.Ytejnpppejalhfab
open Go.RowKit Go.Sort


end Go.Proofs.Ytejnpppejalhfab
/- The contract of the reference's ProtectIn. -/
namespace Go.Proofs.Ytejnpppejalhfab
open Go.RowKit Go.Sort


end Go.Proofs.Ytejnpppejalhfab
/- The contracts of package area in the words of the step calculus; the closures; turned. -/
namespace Go.Proofs.Ytejnpppejalhfab
open Go.RowKit Go.Sort

theorem ar_of_sl {w : World} {v : Value} {L : List Ar} (h : Sl nF w 4 v (L.map arC)) : SlAr w v L := by
  rcases h with ⟨p, c, rfl, h⟩ | ⟨b, off, cap, rfl, h3, h4, hr⟩
  · exact Or.inl ⟨_, _, rfl, by simpa using h⟩
  · rw [List.length_map] at h3 ⊢
    refine Or.inr ⟨b, off, cap, rfl, hr.lt, h3, h4, fun i a ha => ?_⟩
    have hk : (L.map arC)[i]? = some (arC a) := by simp [ha]
    exact ⟨hr.cells i _ hk 0 _ rfl, hr.cells i _ hk 1 _ rfl, hr.cells i _ hk 2 _ rfl, hr.cells i _ hk 3 _ rfl⟩
theorem check_fn {v : Value} {L : List Ar} {w : World} (h : Sl nF w 4 v (L.map arC)) : Fn Try.prog 62 [v] w (RBf (.int .i64 (checkI L)) w) :=
  Fn.of_rb ⟨Try.func62, by kernel_rfl, by kernel_rfl⟩ (check_sl (ar_of_sl h))
end Go.Proofs.Ytejnpppejalhfab
/- area.Map, Unmap, Protect, by the step calculus. -/
namespace Go.Proofs.Ytejnpppejalhfab
open Go.RowKit Go.Sort

end Go.Proofs.Ytejnpppejalhfab
/- The contract of area.Find. -/
namespace Go.Proofs.Ytejnpppejalhfab
open Go.RowKit Go.Sort

set_option maxRecDepth 100000 in
set_option maxHeartbeats 4000000 in
theorem bs_nil (p : Option Addr) (c : Nat) (page : Int) (w : World) : Calls Try.prog 109 #[.slice p 0 c, .int .i64 page, .func (.func 110) #[] #[]] w (BsPost [] page w) := by
  go_enter Try.func109, Try.ntmps109
  go_wp2
  go_loopw [9, 10] (fun vi vj wr => vi = .int .i64 0 ∧ vj = .int .i64 0 ∧ wr = w) (fun _ _ _ => 0)
  case atStart => exact ⟨rfl, rfl, rfl⟩
  case round =>
    obtain ⟨rfl, rfl, rfl⟩ := hrel
    go_wp2
    go_ret2
    exact ⟨0, by simp, rfl, (by repeat ((with_reducible exact Below.refl _ _))), bs_start [] page⟩
theorem bs_sl {v : Value} {L : List Ar} {w : World} (page : Int) (h : SlAr w v L) : Calls Try.prog 109 #[v, .int .i64 page, .func (.func 110) #[] #[]] w (BsPost L page w) := by
  rcases h with ⟨p, c, rfl, rfl⟩ | ⟨b, off, cap, rfl, h2, h3, h4, h5⟩
  · exact bs_nil p c page w
  · exact bs_any b off cap page h2 h3 h4 h5

theorem holds_not {page : Int} {a : Ar} (h : a.fin ≤ page ∨ page < a.pg) : holdsB page a = false := by unfold holdsB; simp; omega
theorem find_end {L : List Ar} {page : Int} (hg : Good L) (hI : BsInv L page L.length L.length) : findA L page = none :=
  findA_none fun j b hj hb => holds_not (Or.inl ((hI hg).1 j b hj hb))
theorem find_gap {L : List Ar} {page : Int} {i : Nat} {a : Ar} (hg : Good L) (hI : BsInv L page i i) (ha : L[i]? = some a) (h : page < a.pg) : findA L page = none :=
  findA_none fun j b hj hb => by
    rcases Nat.lt_or_ge j i with h1 | h1
    · exact holds_not (Or.inl ((hI hg).1 j b h1 hb))
    · rcases Nat.lt_or_eq_of_le h1 with h2 | h2
      · have := rise_fin hg h2 ha hb
        have hk := good_ok hg i a ha
        unfold Ar.ok at hk
        exact holds_not (Or.inr (by unfold Ar.fin at this; omega))
      · subst h2; rw [ha] at hb; cases hb; exact holds_not (Or.inr h)
theorem find_hit {L : List Ar} {page : Int} {i : Nat} {a : Ar} (hg : Good L) (hI : BsInv L page i i) (ha : L[i]? = some a) (h : a.pg ≤ page) : findA L page = some a :=
  findA_some (fun j b hj hb => holds_not (Or.inl ((hI hg).1 j b hj hb))) ha (by unfold holdsB; simp; exact ⟨h, (hI hg).2 i a (Nat.le_refl _) ha⟩)
/-- what Find answers -/
def findI (L : List Ar) (page : Int) : Option Ar := if checkI L = 0 then findA L page else none

set_option maxRecDepth 100000 in
set_option maxHeartbeats 4000000 in
theorem find_any {v : Value} {L : List Ar} {w : World} (page : Int) (h : SlAr w v L) : Calls Try.prog 64 #[v, .int .i64 page] w (RB (FindV (findI L page)) w) := by
  have HC := hid (fun w' (hb : Below w.heap.size w w') => check_sl (h.grown hb))
  have HS := hid (fun w' (hb : Below w.heap.size w w') => bs_sl page (h.grown hb))
  have hsz : (Try.prog.info? 131).map (·.size) = some 4 := by kernel_rfl
  have Hsz := hid hsz; clear hsz
  have hbw := Below.refl w.heap.size w
  go_enter Try.func64, Try.ntmps64
  go_wp2_with (first | ((with_reducible refine at_op 4 ?_); refine wpList_new_row' rfl (some 4) rfl (zl4) 131 (by kernel_rfl) w.heap.size w hbw hbw.size ?_; intro g4 wn4 hL4 hB4 hbn hkn hnn; skip; clear hbw hkn hnn; have hbw := hbn; clear hbn) | (go_at_call 109; (with_reducible refine (HS.out _ hbw).mono ?_); rintro e wc ⟨i, hi, rfl, hbc, hI⟩; have hL4 := hL4.grown hbc hL4.lt; have hbn := bt hbw hbc; clear hbw hbc; have hbw := hbn; clear hbn))
  by_cases hc : checkI L = 0
  · obtain ⟨_, hg⟩ := checkI_zero.1 hc
    have HQ : Hid (findI L page = findA L page) := by refine hid ?_; unfold findI; rw [if_pos hc]
    rw [hc] at HC
    clear hc
    by_cases hlt : i < L.length
    · obtain ⟨a, ha⟩ : ∃ a, L[i]? = some a := ⟨L[i], by simp [hlt]⟩
      rcases h with ⟨p, c, rfl, rfl⟩ | ⟨b, off, cap, rfl, hbl, hcap, hmax, hcells⟩
      · simp at hlt
      have HL := hid hcells
      have hne : ((i : Int) == L.length) = false := by rw [beq_eq_false_iff_ne]; omega
      have hli : (i : Int) < L.length := Int.ofNat_lt.2 hlt
      clear hcells hmax
      by_cases hp : page < a.pg
      · have HX := hid (find_gap hg hI ha hp)
        clear hI
        go_wp2_with (first | ((go_at_call 62; (with_reducible refine (HC.out _ hbw).mono ?_); rintro e wk ⟨rfl, hbc⟩); have hL4 := hL4.grown hbc hL4.lt; have hbn := bt hbw hbc; clear hbw hbc; have hbw := hbn; clear hbn; obtain ⟨c0, c1, c2, c3⟩ := (HL.out i a ha).grown hbw hbl) | ((with_reducible refine at_store 4 ?_); refine wpList_put_row rfl 131 (.tmp 4) (.tmp 32) rfl rfl g4 (zl4) (zl4) rfl rfl hL4 Hsz.out rfl rfl w.heap.size w hbw hB4 ?_; intro wp4 hLn hbn hon; skip; clear hL4 hbw hon; have hL4 := hLn; have hbw := hbn; clear hLn hbn))
        refine bodyPost_ret (v := .tuple #[.agg (zl4).toArray, .bool false]) (results_hold2 rfl _ g4 (zl4) (.bool false) _ rfl rfl hL4 Try.underlying131 rfl Hsz.out) rfl ⟨by rw [HQ.out, HX.out]; rfl, hbw⟩
      · have HX := hid (find_hit hg hI ha (by omega))
        clear hI
        have hp' : decide (page < a.pg) = false := by simpa using hp
        go_wp2_with (first | ((go_at_call 62; (with_reducible refine (HC.out _ hbw).mono ?_); rintro e wk ⟨rfl, hbc⟩); have hL4 := hL4.grown hbc hL4.lt; have hbn := bt hbw hbc; clear hbw hbc; have hbw := hbn; clear hbn; obtain ⟨c0, c1, c2, c3⟩ := (HL.out i a ha).grown hbw hbl) | ((with_reducible refine at_store 4 ?_); refine wpList_put_row rfl 131 (.tmp 4) (.tmp 36) rfl rfl g4 ([.int .i64 a.pg, .int .i64 a.n, .int .i64 a.prot, .bool a.z]) (zl4) rfl rfl hL4 Hsz.out rfl rfl w.heap.size w hbw hB4 ?_; intro wp4 hLn hbn hon; skip; clear hL4 hbw hon; have hL4 := hLn; have hbw := hbn; clear hLn hbn))
        refine bodyPost_ret (v := .tuple #[.agg ([.int .i64 a.pg, .int .i64 a.n, .int .i64 a.prot, .bool a.z]).toArray, .bool true]) (results_hold2 rfl _ g4 ([.int .i64 a.pg, .int .i64 a.n, .int .i64 a.prot, .bool a.z]) (.bool true) _ rfl rfl hL4 Try.underlying131 rfl Hsz.out) rfl ⟨by rw [HQ.out, HX.out]; rfl, hbw⟩
    · obtain rfl : i = L.length := by omega
      have HX := hid (find_end hg hI)
      have hlen : ∃ n : Nat, n = L.length := ⟨_, rfl⟩
      clear hI
      rcases h with ⟨p, c, rfl, rfl⟩ | ⟨b, off, cap, rfl, hbl, hcap, hmax, hcells⟩
      · go_wp2_with (first | ((go_at_call 62; (with_reducible refine (HC.out _ hbw).mono ?_); rintro e wk ⟨rfl, hbc⟩); have hL4 := hL4.grown hbc hL4.lt; have hbn := bt hbw hbc; clear hbw hbc; have hbw := hbn; clear hbn; skip) | ((with_reducible refine at_store 4 ?_); refine wpList_put_row rfl 131 (.tmp 4) (.tmp 32) rfl rfl g4 (zl4) (zl4) rfl rfl hL4 Hsz.out rfl rfl w.heap.size w hbw hB4 ?_; intro wp4 hLn hbn hon; skip; clear hL4 hbw hon; have hL4 := hLn; have hbw := hbn; clear hLn hbn))
        refine bodyPost_ret (v := .tuple #[.agg (zl4).toArray, .bool false]) (results_hold2 rfl _ g4 (zl4) (.bool false) _ rfl rfl hL4 Try.underlying131 rfl Hsz.out) rfl ⟨by rw [HQ.out, HX.out]; rfl, hbw⟩
      · clear hcells hmax
        go_wp2_with (first | ((go_at_call 62; (with_reducible refine (HC.out _ hbw).mono ?_); rintro e wk ⟨rfl, hbc⟩); have hL4 := hL4.grown hbc hL4.lt; have hbn := bt hbw hbc; clear hbw hbc; have hbw := hbn; clear hbn; skip) | ((with_reducible refine at_store 4 ?_); refine wpList_put_row rfl 131 (.tmp 4) (.tmp 32) rfl rfl g4 (zl4) (zl4) rfl rfl hL4 Hsz.out rfl rfl w.heap.size w hbw hB4 ?_; intro wp4 hLn hbn hon; skip; clear hL4 hbw hon; have hL4 := hLn; have hbw := hbn; clear hLn hbn))
        refine bodyPost_ret (v := .tuple #[.agg (zl4).toArray, .bool false]) (results_hold2 rfl _ g4 (zl4) (.bool false) _ rfl rfl hL4 Try.underlying131 rfl Hsz.out) rfl ⟨by rw [HQ.out, HX.out]; rfl, hbw⟩
  · have HQ : Hid (findI L page = none) := by refine hid ?_; unfold findI; rw [if_neg hc]
    have hn : (checkI L != 0) = true := by rw [bne_iff_ne]; exact hc
    clear hc
    generalize checkI L = ck at *
    go_wp2_with (first | ((go_at_call 62; (with_reducible refine (HC.out _ hbw).mono ?_); rintro e wk ⟨rfl, hbc⟩); have hL4 := hL4.grown hbc hL4.lt; have hbn := bt hbw hbc; clear hbw hbc; have hbw := hbn; clear hbn; skip) | ((with_reducible refine at_store 4 ?_); refine wpList_put_row rfl 131 (.tmp 4) (.tmp 32) rfl rfl g4 (zl4) (zl4) rfl rfl hL4 Hsz.out rfl rfl w.heap.size w hbw hB4 ?_; intro wp4 hLn hbn hon; skip; clear hL4 hbw hon; have hL4 := hLn; have hbw := hbn; clear hLn hbn))
    refine bodyPost_ret (v := .tuple #[.agg (zl4).toArray, .bool false]) (results_hold2 rfl _ g4 (zl4) (.bool false) _ rfl rfl hL4 Try.underlying131 rfl Hsz.out) rfl ⟨by rw [HQ.out]; rfl, hbw⟩
end Go.Proofs.Ytejnpppejalhfab
/- The reference's contracts for areas in the words of the step calculus. -/
namespace Go.Proofs.Ytejnpppejalhfab
open Go.RowKit Go.Sort

theorem Find_fn {v : Value} {L : List Ar} {w : World} (page : Int) (h : Sl nF w 4 v (L.map arC)) : Fn Try.prog 64 [v, .int .i64 page] w (RBf (FindV (findI L page)) w) :=
  Fn.of_rb ⟨Try.func64, by kernel_rfl, by kernel_rfl⟩ (find_any page (ar_of_sl h))
theorem Total_fn {v : Value} {L : List Ar} {w : World} (h : Sl nF w 4 v (L.map arC)) : Fn Try.prog 63 [v] w (RBf (.int .i64 (if checkI L = 0 then sumN L else 0)) w) := by
  by_cases hc : checkI L = 0
  · rw [if_pos hc]
    exact Fn.of_rb ⟨Try.func63, by kernel_rfl, by kernel_rfl⟩ (total_good (ar_of_sl h) hc)
  · rw [if_neg hc]
    exact Fn.of_rb ⟨Try.func63, by kernel_rfl, by kernel_rfl⟩ (total_bad (ar_of_sl h) hc)
theorem Sl.nil (w : World) (sz : Nat) : Sl nF w sz (.slice none 0 0) [] := Or.inl ⟨_, _, rfl, rfl⟩
def L1 : List Ar := [⟨3, 4, 1, true⟩]
def L2 : List Ar := [⟨3, 1, 1, true⟩, ⟨4, 1, 0, true⟩, ⟨5, 2, 1, true⟩]
end Go.Proofs.Ytejnpppejalhfab
/- What AreaKeeps says, in plain Lean. -/
namespace Go.Proofs.Ytejnpppejalhfab
open Go.RowKit Go.Sort

theorem rise_len {L : List Ar} : ∀ {e : Int}, RiseF e L → L ≠ [] → e + L.length ≤ 256 := by
  induction L with
  | nil => intro e _ h; exact (h rfl).elim
  | cons a L ih =>
    intro e h _
    obtain ⟨h1, h2, h3⟩ := h
    unfold Ar.ok at h1
    have hf : a.fin = a.pg + a.n := rfl
    cases L with
    | nil => simp; omega
    | cons b L =>
      have := ih h3 (by simp)
      simp only [List.length_cons] at this ⊢
      omega
theorem check_good {L : List Ar} (h : Good L) : checkI L = 0 := by
  refine checkI_zero.2 ⟨?_, h⟩
  by_cases e : L = []
  · subst e; simp
  · have := rise_len h.1 e
    omega
def markO : Option Ar → Int
  | none => 0
  | some a => a.mk'
theorem paint_find {L : List Ar} (p : Int) : ∀ {e : Int}, RiseF e L → paint L p = markO (findA L p) := by
  induction L with
  | nil => intro e _; rfl
  | cons a L ih =>
    intro e h
    obtain ⟨h1, h2, h3⟩ := h
    unfold findA at ih ⊢
    rw [List.find?_cons]
    by_cases hin : a.pg ≤ p ∧ p < a.fin
    · rw [paint_cons_in hin]
      have : holdsB p a = true := by unfold holdsB; simp; exact hin
      rw [this]
      rfl
    · rw [paint_cons_out hin]
      have : holdsB p a = false := by unfold holdsB; simp; omega
      rw [this]
      exact ih h3
theorem find_ok {L : List Ar} {p : Int} {a : Ar} (h : RiseF 1 L) (hf : findA L p = some a) : a.ok := by
  unfold findA at hf
  obtain ⟨i, hi⟩ := List.mem_iff_getElem?.1 (List.mem_of_find?_eq_some hf)
  exact rise_ok h i a hi
theorem find_some {L : List Ar} {p prot : Int} {z : Bool} (hL : Good L) (hp : 0 ≤ prot ∧ prot ≤ 3) (h : paint L p = 1 + 2 * prot + (if z then 8 else 0)) : ∃ a, findA L p = some a ∧ a.prot = prot ∧ a.z = z := by
  rw [paint_find p hL.1] at h
  cases h1 : findA L p with
  | none => rw [h1] at h; unfold markO at h; simp only at h; split at h <;> omega
  | some a =>
    rw [h1] at h
    have h' : a.mk' = (⟨1, 1, prot, z⟩ : Ar).mk' := h
    obtain ⟨e1, e2⟩ := mk_inj (find_ok hL.1 h1) (by unfold Ar.ok; simp only; omega) h'
    exact ⟨a, rfl, e1, e2⟩
end Go.Proofs.Ytejnpppejalhfab
/- What is linked is right: in plain Lean. -/
namespace Go.Proofs.Ytejnpppejalhfab
open Go.RowKit Go.Sort

def arOk (A : List Ar) (p : Int) : Bool := match findA A p with
  | some a => !a.z
  | none => false
def shsB (A : List Ar) : Int → List Sh → Bool
  | _, [] => true
  | last, s :: r => arOk A s.page && (rightS s && (decide (last < s.page) && shsB A s.page r))
def riseB : Int → List Sh → Bool
  | _, [] => true
  | last, s :: r => rightS s && (decide (last < s.page) && riseB s.page r)
def arB (A : List Ar) (l : List Sh) : Bool := l.all fun s => arOk A s.page
theorem shsB_eq (A : List Ar) : ∀ (l : List Sh) (last : Int), shsB A last l = (riseB last l && arB A l) := by
  intro l
  induction l with
  | nil => intro last; rfl
  | cons s r ih =>
    intro last
    simp only [shsB, riseB, arB, List.all_cons, ih]
    cases arOk A s.page <;> cases rightS s <;> cases decide (last < s.page) <;> cases riseB s.page r <;> rfl
def entB (A : List Ar) (en : Int) : Bool := decide (0 ≤ en ∧ en.tmod 8 = 0) && (match findA A (en.tdiv 16) with
  | some a => decide (2 ≤ a.prot)
  | none => false)
def lkB (A : List Ar) (L : List Sh) (en : Int) : Bool := decide ((L.length : Int) = sumN A) && (shsB A 0 L && entB A en)
def checkLk (A : List Ar) (L : List Sh) (en : Int) : Int := if checkI A = 0 then (if lkB A L en = true then 0 else 1) else checkI A
/-- a slice of sheets in memory: each with its slice of fixes -/
structure ShsV (w : World) (Lp : List (Sh × Value)) (vs : Value) : Prop where
  sl : Sl nF w 3 vs (Lp.map fun p => shC p.1 p.2)
  fx : ∀ p ∈ Lp, ShV w p.1 p.2
theorem ShsV.now {w w' : World} {Γ : List Asr} {Lp : List (Sh × Value)} {vs : Value} (h : ShsV w Lp vs) (hS : St nF w w' Γ) : ShsV w' Lp vs := ⟨h.sl.now hS, fun p hp => (h.fx p hp).now hS⟩
def shs (Lp : List (Sh × Value)) : List Sh := Lp.map (·.1)
theorem shs_len (Lp : List (Sh × Value)) : (shs Lp).length = Lp.length := by unfold shs; simp
theorem shs_at {Lp : List (Sh × Value)} {i : Nat} {p : Sh × Value} (h : Lp[i]? = some p) : (shs Lp)[i]? = some p.1 := by unfold shs; rw [List.getElem?_map, h]; rfl
theorem shsB_step {A : List Ar} {l : List Sh} {i : Nat} {s : Sh} {last : Int} (h : l[i]? = some s) : shsB A last (l.drop i) = (arOk A s.page && (rightS s && (decide (last < s.page) && shsB A s.page (l.drop (i + 1))))) := by
  rw [drop_at h]; rfl
theorem good_pos {A : List Ar} (hc : checkI A = 0) {p : Int} {a : Ar} (h : findA A p = some a) : a.ok ∧ 1 ≤ p := by
  have hg := (checkI_zero.1 hc).2
  have hok := find_ok hg.1 h
  have := List.find?_some h
  unfold holdsB at this
  rw [decide_eq_true_eq] at this
  unfold Ar.ok at hok
  exact ⟨hok, by omega⟩
def lkA (va vs : Value) (en : Int) : Value := .agg [va, vs, .int .i64 en].toArray
end Go.Proofs.Ytejnpppejalhfab
/- The contracts of package bits and of the reference's bytes. -/
namespace Go.Proofs.Ytejnpppejalhfab
open Go.RowKit

set_option maxRecDepth 100000 in
set_option maxHeartbeats 400000 in
theorem bytes_any (n : Int) (k : Nat) (w : World) (hk : k ≤ 8) :
    Calls Try.prog 69 #[.int .i64 n, .int .i64 k] w fun e w' => e = .returned (.string ⟨(leB n k).toArray⟩) ∧ Below w.heap.size w w' := by
  have hcv := run_str_of_one (P := Try.prog) 76 5 9 Try.underlying76 Try.underlying5 Try.underlying9
  go_enter Try.func69, Try.ntmps69
  go_wp2
  go_loopw [0, 5, 6] (fun vn vs vi wr => ∃ j : Nat, j ≤ k ∧ vi = .int .i64 j ∧ vn = .int .i64 (n / 2 ^ (8 * j)) ∧ vs = .string ⟨(leB n j).toArray⟩ ∧ Below w.heap.size w wr) (fun _ _ i _ => k - (intOf i).toNat)
  case atStart => exact ⟨0, by omega, rfl, by simp, rfl, Below.refl _ _⟩
  case round =>
    obtain ⟨j, hj, rfl, rfl, rfl, hb⟩ := hrel
    have hlen : (leB n j).length ≤ 8 := by rw [leB_length]; omega
    by_cases hlt : j < k
    · go_wp2
      go_roundw
      case rel => exact ⟨j + 1, by omega, by go_num, by rw [div_step], rfl, hb.alloc hb.size _⟩
      case measure => simp [intOf]; omega
    · go_wp2
      obtain rfl : j = k := by omega
      go_ret
      exact ⟨rfl, hb⟩
theorem inB_spec (off n all : Int) : inB off n all = (decide (0 ≤ off) && (decide (0 ≤ n) && (decide (off ≤ all) && decide (n ≤ all - off)))) := by
  unfold inB; simp

set_option maxRecDepth 100000 in
set_option maxHeartbeats 400000 in
theorem in_any (off n all : Int) (w : World) (h : 0 ≤ all) (h2 : all ≤ 9223372036854775807) :
    Calls Try.prog 70 #[.int .i64 off, .int .i64 n, .int .i64 all] w fun e w' => e = .returned (.bool (inB off n all)) ∧ w = w' := by
  have hs := hid (inB_spec off n all)
  go_enter Try.func70, Try.ntmps70
  go_wp2
  all_goals
    go_ret
    refine ⟨ret_bool ?_, rfl⟩
    rw [hs.out]
    first
      | (rw [IntWalk.wrap64_in (all - off) ⟨by omega, by omega⟩]; simp [*]; done)
      | (rw [Bool.eq_iff_iff]; simp; omega)

set_option maxRecDepth 100000 in
set_option maxHeartbeats 400000 in
theorem over_any (s t : List UInt8) (off : Nat) (w : World) (hs : s.length ≤ maxLen) (h : off + t.length ≤ s.length) :
    Calls Try.prog 61 #[.string ⟨s.toArray⟩, .int .i64 off, .string ⟨t.toArray⟩] w fun e w' => e = .returned (.string ⟨(splice s off t).toArray⟩) ∧ ∃ n, w' = w.drewN n := by
  unfold maxLen at hs
  go_enter Try.func61, Try.ntmps61
  go_wp2
  go_quiet (fail)
  go_wp2
  go_ret
  refine ⟨?_, drewN_any⟩
  exact ret_str (by simp [splice, List.take_of_length_le])

set_option maxRecDepth 100000 in
set_option maxHeartbeats 400000 in
theorem part_no (s : List UInt8) (off n : Int) (w : World) (hs : s.length ≤ maxLen) (h : inB off n s.length = false) :
    Calls Try.prog 24 #[.string ⟨s.toArray⟩, .int .i64 off, .int .i64 n] w fun e w' => e = .returned (.tuple #[.string ⟨#[]⟩, .int .i64 3]) ∧ w = w' := by
  unfold maxLen at hs
  go_enter Try.func24, Try.ntmps24
  go_wp2_with (go_at_call 70; (with_reducible refine (in_any _ _ _ _ (by omega) (by omega)).mono ?_); rintro e w' ⟨rfl, rfl⟩; rw [h])
  go_ret2
  exact ⟨rfl, rfl⟩

theorem inB_yes (off n all : Nat) (h : off + n ≤ all) : inB off n all = true := by
  unfold inB; simp; omega

set_option maxRecDepth 100000 in
set_option maxHeartbeats 400000 in
theorem part_yes (s : List UInt8) (off n : Nat) (w : World) (hs : s.length ≤ maxLen) (h : off + n ≤ s.length) :
    Calls Try.prog 24 #[.string ⟨s.toArray⟩, .int .i64 off, .int .i64 n] w fun e w' => e = .returned (.tuple #[.string ⟨((s.drop off).take n).toArray⟩, .int .i64 0]) ∧ w = w' := by
  unfold maxLen at hs
  have hin := inB_yes off n s.length h
  have hin2 := hid hin; clear hin
  go_enter Try.func24, Try.ntmps24
  go_wp2_with (go_at_call 70; (with_reducible refine (in_any _ _ _ _ (by omega) (by omega)).mono ?_); rintro e w' ⟨rfl, rfl⟩; rw [hin2.out])
  go_ret2
  refine ⟨?_, rfl⟩
  show Ending.returned (.tuple #[.string ⟨((s.drop off).take (off + n - off)).toArray⟩, .int .i64 0]) = _
  rw [Nat.add_sub_cancel_left]

set_option maxRecDepth 100000 in
set_option maxHeartbeats 400000 in
theorem lay_yes (s t : List UInt8) (off : Nat) (w : World) (hs : s.length ≤ maxLen) (h : off + t.length ≤ s.length) :
    Calls Try.prog 59 #[.string ⟨s.toArray⟩, .int .i64 off, .string ⟨t.toArray⟩] w fun e w' => e = .returned (.tuple #[.string ⟨(splice s off t).toArray⟩, .int .i64 0]) ∧ Below w.heap.size w w' := by
  unfold maxLen at hs
  have hin := inB_yes off t.length s.length h
  have hin2 := hid hin; clear hin
  go_enter Try.func59, Try.ntmps59
  have hsz5 : (Try.prog.info? 5).map (·.size) = some 1 := by kernel_rfl
  have Hsz5 := hid hsz5; clear hsz5
  go_wp2_with (first | (go_at_call 70; (with_reducible refine (in_any _ _ _ _ (by omega) (by omega)).mono ?_); rintro e w' ⟨rfl, rfl⟩; rw [hin2.out]) | ((with_reducible refine at_op 17 ?_); refine wpList_conv_bytes rfl (.tmp 16) 9 76 5 rfl Try.underlying9 Try.underlying76 Try.underlying5 s rfl w.heap.size w (Below.refl _ _) (Nat.le_refl _) ?_; intro cap w1 hcap hb1 hby1 hsz1; have HB := hid hby1; clear hby1) | ((with_reducible refine at_op 22 ?_); refine wpList_copy_str rfl (.tmp 20) (.tmp 21) 76 9 rfl 5 Try.underlying76 Hsz5.out _ (s.length - off) _ rfl t rfl w.heap.size off s HB.out ?c1 ?c2 w.heap.size w hb1 (Nat.le_refl _) ?_; (case c1 => go_must (rw [List.length_take]; omega)); (case c2 => go_must (rw [List.length_take]; intro h0; rw [if_neg (by omega)])); intro w2 hb2 hsz2 hby2; have HB2 := hid hby2; clear hby2) | ((with_reducible refine at_op 24 ?_); refine wpList_conv_str rfl (.tmp 23) 76 9 5 rfl Try.underlying76 Try.underlying5 Try.underlying9 _ w.heap.size s.length _ rfl ?c3 HB2.out ?_; (case c3 => go_must (exact length_splice _ _ _ (by rw [List.length_take]; omega))); clear HB2))
  all_goals
    go_ret2
    refine ⟨?_, hb2⟩
    show Ending.returned (.tuple #[.string ⟨(splice s off (t.take (s.length - off))).toArray⟩, .int .i64 0]) = _
    rw [List.take_of_length_le (show t.length ≤ s.length - off from by omega)]

set_option maxRecDepth 100000 in
set_option maxHeartbeats 400000 in
theorem lay_no (s t : List UInt8) (off : Int) (w : World) (hs : s.length ≤ maxLen) (h : inB off t.length s.length = false) :
    Calls Try.prog 59 #[.string ⟨s.toArray⟩, .int .i64 off, .string ⟨t.toArray⟩] w fun e w' => e = .returned (.tuple #[.string ⟨#[]⟩, .int .i64 3]) ∧ w = w' := by
  unfold maxLen at hs
  go_enter Try.func59, Try.ntmps59
  go_wp2_with (go_at_call 70; (with_reducible refine (in_any _ _ _ _ (by omega) (by omega)).mono ?_); rintro e w' ⟨rfl, rfl⟩; rw [h])
  go_ret2
  exact ⟨rfl, rfl⟩

set_option maxRecDepth 100000 in
set_option maxHeartbeats 400000 in
theorem put_yes (n : Int) (k : Nat) (w : World) (h1 : 1 ≤ k) (h8 : k ≤ 8) :
    Calls Try.prog 93 #[.int .i64 n, .int .i64 k] w fun e w' => e = .returned (.tuple #[.string ⟨(leB n k).toArray⟩, .int .i64 0]) ∧ Below w.heap.size w w' := by
  have hi5 : (Try.prog.info? 5).map (fun i => (i.zero, i.size, i.bytes)) = some (some (.int .u8 0), 1, 1) := by kernel_rfl
  have Hi5 := hid hi5; clear hi5
  go_enter Try.func93, Try.ntmps93
  go_wp2_with (((with_reducible refine at_op 15 ?_); refine wpList_make_bytes rfl (.tmp 14) (.tmp 14) 76 5 rfl Try.underlying76 Hi5.out k ?c1 rfl rfl w.heap.size w (Below.refl _ _) (Nat.le_refl _) ?_; (case c1 => omega); intro w1 hb1 hby1 hsz1; have HB := hid hby1; clear hby1))
  go_loopw [18] (fun vi wr => ∃ j : Nat, j ≤ k ∧ vi = .int .i64 j ∧ Below w.heap.size w wr ∧ w.heap.size < wr.heap.size ∧ Hid (BytesAt wr w.heap.size (putRow n k j))) (fun i _ => k - (intOf i).toNat)
  case atStart => exact ⟨0, by omega, rfl, hb1, hsz1, by have := HB.out; unfold putRow; show BytesAt _ _ _; simpa [leB] using this⟩
  case round =>
    obtain ⟨j, hj, rfl, hb, hsz, HBj⟩ := hrel
    by_cases hlt : j < k
    · obtain ⟨hc, hf⟩ := HBj.out j (by rw [putRow_length _ _ _ hj]; exact hlt)
      obtain ⟨v, hv⟩ : ∃ v, v = Value.int .u8 ((putRow n k j)[j]'(by rw [putRow_length _ _ _ hj]; exact hlt)).toNat := ⟨_, rfl⟩
      rw [← hv] at hc; clear hv
      go_wp2
      have HS := HBj.out.set j (by rw [putRow_length _ _ _ hj]; exact hlt) (byteAt n j) _ (val_int (put_num n j (by omega)))
      rw [putRow_step n k j hlt] at HS
      exact ⟨⟨j + 1, by omega, by go_num, hb.setCell (Nat.le_refl _) _, by simpa using hsz, HS⟩, by simp [intOf]; omega⟩
    · go_wp2_with (((with_reducible refine at_op 32 ?_); refine wpList_conv_str rfl (.tmp 31) 76 9 5 rfl Try.underlying76 Try.underlying5 Try.underlying9 (putRow n k j) w.heap.size k _ rfl ?c3 HBj.out ?_; (case c3 => go_must (exact putRow_length _ _ _ hj)); clear HBj))
      obtain rfl : j = k := by omega
      go_ret2
      refine ⟨?_, hb⟩
      show Ending.returned (.tuple #[.string ⟨(putRow n j j).toArray⟩, .int .i64 0]) = _
      rw [putRow_end]
end Go.Proofs.Ytejnpppejalhfab
/- The contracts of bits in the words of the step calculus. -/
namespace Go.Proofs.Ytejnpppejalhfab
open Go.RowKit Go.Sort

theorem Part_fn (l : List UInt8) (off n : Int) (w : World) (hl : l.length ≤ maxLen) : Fn Try.prog 24 [.string ⟨l.toArray⟩, .int .i64 off, .int .i64 n] w (RBf (.tuple #[.string ⟨(if inB off n l.length = true then (l.drop off.toNat).take n.toNat else []).toArray⟩, .int .i64 (if inB off n l.length = true then 0 else 3)]) w) := by
  by_cases h : inB off n l.length = true
  · rw [if_pos h, if_pos h]
    unfold inB at h
    simp only [decide_eq_true_eq] at h
    have h1 := part_yes l off.toNat n.toNat w hl (by omega)
    rw [Int.toNat_of_nonneg (by omega), Int.toNat_of_nonneg (by omega)] at h1
    exact (Fn.of_same ⟨Try.func24, by kernel_rfl, by kernel_rfl⟩ h1).mono (by rintro v w' ⟨rfl, rfl⟩; exact ⟨rfl, St.start _⟩)
  · rw [if_neg h, if_neg h]
    exact (Fn.of_same ⟨Try.func24, by kernel_rfl, by kernel_rfl⟩ (part_no l off n w hl (by simpa using h))).mono (by rintro v w' ⟨rfl, rfl⟩; exact ⟨rfl, St.start _⟩)
theorem Lay_fn (s t : List UInt8) (off : Int) (w : World) (hs : s.length ≤ maxLen) : Fn Try.prog 59 [.string ⟨s.toArray⟩, .int .i64 off, .string ⟨t.toArray⟩] w (RBf (.tuple #[.string ⟨(if inB off t.length s.length = true then splice s off.toNat t else []).toArray⟩, .int .i64 (if inB off t.length s.length = true then 0 else 3)]) w) := by
  by_cases h : inB off t.length s.length = true
  · rw [if_pos h, if_pos h]
    unfold inB at h
    simp only [decide_eq_true_eq] at h
    have h1 := lay_yes s t off.toNat w hs (by omega)
    rw [Int.toNat_of_nonneg (by omega)] at h1
    exact Fn.of_rb ⟨Try.func59, by kernel_rfl, by kernel_rfl⟩ (rb_below h1)
  · rw [if_neg h, if_neg h]
    exact (Fn.of_same ⟨Try.func59, by kernel_rfl, by kernel_rfl⟩ (lay_no s t off w hs (by simpa using h))).mono (by rintro v w' ⟨rfl, rfl⟩; exact ⟨rfl, St.start _⟩)
theorem Over_fn (s t : List UInt8) (off : Nat) (w : World) (hs : s.length ≤ maxLen) (h : off + t.length ≤ s.length) : Fn Try.prog 61 [.string ⟨s.toArray⟩, .int .i64 off, .string ⟨t.toArray⟩] w (RBf (.string ⟨(splice s off t).toArray⟩) w) :=
  ⟨⟨_, Try.func61, by kernel_rfl, by kernel_rfl⟩, (over_any s t off w hs h).mono fun _ _ ⟨he, n, hw⟩ => ⟨_, he, rfl, by subst hw; exact (St.start w).grow ⟨rfl, rfl, rfl, Nat.le_refl _, fun _ _ _ => rfl⟩⟩⟩
end Go.Proofs.Ytejnpppejalhfab
/- Sheets: right, and filled. -/
namespace Go.Proofs.Ytejnpppejalhfab
open Go.RowKit Go.Sort
abbrev shA (s : Sh) (u : Value) : Value := .agg (shC s u).toArray
set_option maxRecDepth 100000 in
set_option maxHeartbeats 4000000 in
theorem right_fn {S : Sh} {w : World} {u : Value} (hu : ShV w S u) : Fn Try.prog 58 [shA S u] w (RBf (.bool (rightS S)) w) := by
  have bnd := hu.bound
  obtain ⟨p, c, rfl⟩ := hu.len
  refine fn_enter (fn := Try.f58) ⟨Try.func58, by kernel_rfl, by kernel_rfl⟩ (by exact rfl) Try.ntmps58 (by exact rfl) ?_
  have hS := St.start w
  unfold shA shC
  by_cases h0 : (1 ≤ S.page ∧ S.page ≤ 255) ∧ S.data.length = 16
  rotate_left
  · have hf : rightS S = false := by unfold rightS; rw [decide_eq_false h0]; rfl
    rw [hf]
    repeat' (first | (first | ((with_reducible apply l_pure tabOk); exact rfl; exact rfl) | ((with_reducible apply l_load); exact rfl; (((with_reducible apply Loads.sc tabOk); exact rfl; ((exact hS.blkC 0 rfl rfl)))); exact rfl) | ((with_reducible apply l_box hS); exact rfl; exact rfl; exact rfl; intro g w' hS'; clear hS; have hS := hS'; clear hS') | (first | ((with_reducible apply l_yes); exact rfl; exact rfl; exact rfl; exact rfl; (assumption)) | ((with_reducible apply l_no); exact rfl; exact rfl; exact rfl; exact rfl; (first | exact rfl | assumption); exact rfl) | ((with_reducible apply l_partd); exact rfl; exact rfl; exact rfl; all_goals (intro hb hp; try (exfalso; omega))) | ((with_reducible apply l_pick1); exact rfl; (first | exact rfl | assumption); exact rfl; exact rfl) | ((with_reducible apply l_pick2); exact rfl; ((assumption)); exact rfl; exact rfl))) | (first | (with_reducible apply c_seq) | (with_reducible apply c_region) | (with_reducible apply l_nil) | (with_reducible apply q_then) | (with_reducible apply c_ret) | (with_reducible apply q_then_ret)) | (first | ((with_reducible apply c_ift); exact rfl; (exact rfl)) | ((with_reducible apply c_ifn); exact rfl; all_goals (intro hb hp; try (exfalso; omega)))))
    all_goals (((apply q_ret1); (repeat (first | exact ResL.nil | (apply ResL.tmp; exact rfl)))); exact ⟨rfl, hS.sub (List.nil_sublist _)⟩)
  have hr : rightS S = fxOk 0 S.fixes := by unfold rightS; rw [decide_eq_true h0]; rfl
  rw [hr]
  repeat' (first | (first | ((with_reducible apply l_pure tabOk); exact rfl; exact rfl) | ((with_reducible apply l_load); exact rfl; (first | ((with_reducible apply Loads.sc tabOk); exact rfl; ((exact hS.blkC 0 rfl rfl))) | ((with_reducible apply Loads.sl tabOk); exact rfl; ((exact hS.blkC 0 rfl rfl)))); exact rfl) | ((with_reducible apply l_box hS); exact rfl; exact rfl; exact rfl; intro g w' hS'; clear hS; have hS := hS'; clear hS') | (first | ((with_reducible apply l_yes); exact rfl; exact rfl; exact rfl; exact rfl; (assumption)) | ((with_reducible apply l_partd); exact rfl; exact rfl; exact rfl; all_goals (intro hb hp; try (exfalso; omega))) | ((with_reducible apply l_pick2); exact rfl; ((assumption)); exact rfl; exact rfl))) | (first | (with_reducible apply c_seq) | (with_reducible apply c_region) | (with_reducible apply l_nil) | (with_reducible apply q_then) | (with_reducible apply c_skip) | (with_reducible apply c_block)) | (((with_reducible apply c_ifn); exact rfl; all_goals (intro hb hp; try (exfalso; omega)))))
  refine c_loopK (X := Nat × Int) (fun x => [(23, .int .i64 (x.1 : Nat)), (3, .int .i64 x.2)]) [1, 21, 22] rfl (fun _ => []) (fun x => (x.1 ≤ S.fixes.length ∧ 0 ≤ x.2 ∧ x.2 ≤ 16) ∧ fxOk 0 S.fixes = fxOk x.2 (S.fixes.drop x.1)) (fun x => S.fixes.length - x.1) (0, 0) (by repeat (first | exact Fr.sub_nil _ | (apply Fr.sub_cons; exact rfl))) (by simp) hS ?_
  clear hS
  rintro ⟨i, free⟩ w1 ⟨⟨hi, hf0, hf1⟩, hok⟩ hS
  dsimp only [List.cons_append, List.nil_append] at hi hf0 hf1 hok hS ⊢
  by_cases hlt : i < S.fixes.length
  · obtain ⟨x, hx⟩ := lt_get (l := S.fixes) (i := i) (by omega)
    have hrow := map_get (f := fxC) hx
    obtain ⟨b, off, rfl, hro⟩ := hu.at_ (i := i) hlt
    have hst := fxOk_step (free := free) hx
    by_cases h1 : free ≤ x.off ∧ x.off ≤ 16 ∧ x.bytes ≠ [] ∧ (x.bytes.length : Int) ≤ 16 - x.off
    · have ho : fxOne free x = true := decide_eq_true h1
      have hb0 : decide (x.bytes = []) = false := decide_eq_false h1.2.2.1
      rw [ho, Bool.true_and] at hst
      repeat' (first | (first | ((with_reducible apply l_add); exact rfl; exact rfl; omega; omega; exact rfl) | ((with_reducible apply l_sub); exact rfl; exact rfl; omega; omega; exact rfl) | ((with_reducible apply l_pure tabOk); exact rfl; exact rfl) | ((with_reducible apply l_load); exact rfl; (first | ((with_reducible apply Loads.sc tabOk); exact rfl; ((exact hS.blkC 0 rfl rfl))) | ((with_reducible apply Loads.st tabOk); exact rfl; ((exact hS.roR (by assumption) (by assumption))); exact rfl)); exact rfl) | ((with_reducible apply l_ix tabOk); exact rfl; exact rfl; exact rfl; ((exact rfl)); ((omega)); exact rfl) | ((with_reducible apply l_alloc hS tabOk); exact rfl; exact rfl; exact rfl; intro g w' hS'; clear hS; have hS := hS'; clear hS') | (((with_reducible apply l_store hS tabOk (i := 0)); exact rfl; exact rfl; exact rfl; exact rfl; exact rfl; exact rfl; exact rfl; exact rfl; ((exact (rfl : _ = [_, _]))); intro w' hS'; simp only [List.set] at hS'; clear hS; have hS := hS'; clear hS')) | (first | ((with_reducible apply l_yes); exact rfl; exact rfl; exact rfl; exact rfl; (assumption)) | ((with_reducible apply l_partd); exact rfl; exact rfl; exact rfl; all_goals (intro hb hp; try (exfalso; omega))) | ((with_reducible apply l_pick2); exact rfl; ((assumption)); exact rfl; exact rfl))) | (first | (with_reducible apply c_seq) | (with_reducible apply c_region) | (with_reducible apply l_nil) | (with_reducible apply q_then) | (with_reducible apply c_skip) | (with_reducible apply c_block) | (with_reducible apply q_block)) | (((with_reducible apply c_ifd); exact rfl; all_goals (intro hb hp; try (exfalso; omega)))))
      refine q_loopK (i + 1, fxEnd x) (by repeat (first | exact Fr.sub_nil _ | (apply Fr.sub_cons; exact rfl))) ⟨⟨by show i + 1 ≤ S.fixes.length; omega, by show 0 ≤ fxEnd x; unfold fxEnd; omega, by show fxEnd x ≤ 16; unfold fxEnd; omega⟩, by rw [hok, hst]⟩ hS.drop (by show S.fixes.length - (i + 1) < S.fixes.length - i; omega)
    · have ho : fxOne free x = false := decide_eq_false h1
      rw [ho, Bool.false_and] at hst
      by_cases hb1 : x.bytes = []
      · have hb0 : decide (x.bytes = []) = true := decide_eq_true hb1
        repeat' (first | (first | ((with_reducible apply l_pure tabOk); exact rfl; exact rfl) | ((with_reducible apply l_load); exact rfl; (first | ((with_reducible apply Loads.sc tabOk); exact rfl; ((exact hS.blkC 0 rfl rfl))) | ((with_reducible apply Loads.st tabOk); exact rfl; ((exact hS.roR (by assumption) (by assumption))); exact rfl)); exact rfl) | ((with_reducible apply l_ix tabOk); exact rfl; exact rfl; exact rfl; ((exact rfl)); ((omega)); exact rfl) | ((with_reducible apply l_alloc hS tabOk); exact rfl; exact rfl; exact rfl; intro g w' hS'; clear hS; have hS := hS'; clear hS') | (((with_reducible apply l_store hS tabOk (i := 0)); exact rfl; exact rfl; exact rfl; exact rfl; exact rfl; exact rfl; exact rfl; exact rfl; ((exact (rfl : _ = [_, _]))); intro w' hS'; simp only [List.set] at hS'; clear hS; have hS := hS'; clear hS')) | (first | ((with_reducible apply l_yes); exact rfl; exact rfl; exact rfl; exact rfl; (assumption)) | ((with_reducible apply l_no); exact rfl; exact rfl; exact rfl; exact rfl; (first | exact rfl | assumption); exact rfl) | ((with_reducible apply l_partd); exact rfl; exact rfl; exact rfl; all_goals (intro hb hp; try (exfalso; omega))) | ((with_reducible apply l_pick1); exact rfl; (first | exact rfl | assumption); exact rfl; exact rfl) | ((with_reducible apply l_pick2); exact rfl; ((assumption)); exact rfl; exact rfl))) | (first | (with_reducible apply c_seq) | (with_reducible apply c_region) | (with_reducible apply l_nil) | (with_reducible apply q_then) | (with_reducible apply c_skip) | (with_reducible apply c_block) | (with_reducible apply c_ret) | (with_reducible apply q_then_ret) | (with_reducible apply q_block_ret)) | (first | ((with_reducible apply c_ift); exact rfl; (exact rfl)) | ((with_reducible apply c_ifd); exact rfl; all_goals (intro hb hp; try (exfalso; omega)))))
        all_goals (((apply q_ret1); (repeat (first | exact ResL.nil | (apply ResL.tmp; exact rfl)))); exact ⟨by rw [hok, hst], hS.sub (List.nil_sublist _)⟩)
      · have hb0 : decide (x.bytes = []) = false := decide_eq_false hb1
        repeat' (first | (first | ((with_reducible apply l_add); exact rfl; exact rfl; omega; omega; exact rfl) | ((with_reducible apply l_sub); exact rfl; exact rfl; omega; omega; exact rfl) | ((with_reducible apply l_pure tabOk); exact rfl; exact rfl) | ((with_reducible apply l_load); exact rfl; (first | ((with_reducible apply Loads.sc tabOk); exact rfl; ((exact hS.blkC 0 rfl rfl))) | ((with_reducible apply Loads.st tabOk); exact rfl; ((exact hS.roR (by assumption) (by assumption))); exact rfl)); exact rfl) | ((with_reducible apply l_ix tabOk); exact rfl; exact rfl; exact rfl; ((exact rfl)); ((omega)); exact rfl) | ((with_reducible apply l_alloc hS tabOk); exact rfl; exact rfl; exact rfl; intro g w' hS'; clear hS; have hS := hS'; clear hS') | (((with_reducible apply l_store hS tabOk (i := 0)); exact rfl; exact rfl; exact rfl; exact rfl; exact rfl; exact rfl; exact rfl; exact rfl; ((exact (rfl : _ = [_, _]))); intro w' hS'; simp only [List.set] at hS'; clear hS; have hS := hS'; clear hS')) | (first | ((with_reducible apply l_yes); exact rfl; exact rfl; exact rfl; exact rfl; (assumption)) | ((with_reducible apply l_no); exact rfl; exact rfl; exact rfl; exact rfl; (first | exact rfl | assumption); exact rfl) | ((with_reducible apply l_partd); exact rfl; exact rfl; exact rfl; all_goals (intro hb hp; try (exfalso; omega))) | ((with_reducible apply l_pick1); exact rfl; (first | exact rfl | assumption); exact rfl; exact rfl) | ((with_reducible apply l_pick2); exact rfl; ((assumption)); exact rfl; exact rfl))) | (first | (with_reducible apply c_seq) | (with_reducible apply c_region) | (with_reducible apply l_nil) | (with_reducible apply q_then) | (with_reducible apply c_skip) | (with_reducible apply c_block) | (with_reducible apply c_ret) | (with_reducible apply q_then_ret) | (with_reducible apply q_block) | (with_reducible apply q_block_ret)) | (first | ((with_reducible apply c_ift); exact rfl; (exact rfl)) | ((with_reducible apply c_ifd); exact rfl; all_goals (intro hb hp; try (exfalso; omega)))))
        all_goals first | (((apply q_ret1); (repeat (first | exact ResL.nil | (apply ResL.tmp; exact rfl)))); exact ⟨by rw [hok, hst], hS.sub (List.nil_sublist _)⟩) | (exfalso; exact h1 ⟨by omega, by omega, hb1, by omega⟩)
  · repeat' (first | (((with_reducible apply l_pure tabOk); exact rfl; exact rfl)) | (first | (with_reducible apply c_seq) | (with_reducible apply c_region) | (with_reducible apply l_nil) | (with_reducible apply q_then) | (with_reducible apply c_exit) | (with_reducible apply c_ret) | (with_reducible apply q_then_exit) | (with_reducible apply q_block_exit)) | (((with_reducible apply c_ifd); exact rfl; all_goals (intro hb hp; try (exfalso; omega)))))
    (apply q_ret1); (repeat (first | exact ResL.nil | (apply ResL.tmp; exact rfl)))
    exact ⟨by rw [hok, List.drop_of_length_le (by omega)]; rfl, hS.sub (List.nil_sublist _)⟩
/-! filling -/
theorem fill_step {l : List Fx} {i : Nat} {f : Fx} {d : List UInt8} (h : l[i]? = some f) : fillF d (l.take (i + 1)) = splice (fillF d (l.take i)) f.off.toNat f.bytes := by
  unfold fillF
  rw [List.take_add_one, h]
  simp [List.foldl_append]
theorem fxOk_at {l : List Fx} : ∀ {free : Int}, fxOk free l = true → 0 ≤ free → ∀ {i : Nat} {f : Fx}, l[i]? = some f → (0 ≤ f.off ∧ f.off ≤ 16) ∧ (f.bytes.length : Int) ≤ 16 - f.off := by
  induction l with
  | nil => intro free _ _ i f h; simp at h
  | cons g r ih =>
    intro free h h0 i f hf
    simp only [fxOk, fxOne, Bool.and_eq_true, decide_eq_true_eq] at h
    obtain ⟨⟨h1, h2, h3, h4⟩, h5⟩ := h
    cases i with
    | zero => simp at hf; subst hf; exact ⟨⟨by omega, h2⟩, h4⟩
    | succ i => exact ih h5 (by unfold fxEnd; omega) (by simpa using hf)
theorem fillT_len {l : List Fx} {d : List UInt8} {free : Int} (h : fxOk free l = true) (h0 : 0 ≤ free) (hd : d.length = 16) : ∀ i, i ≤ l.length → (fillF d (l.take i)).length = 16 := by
  intro i
  induction i with
  | zero => intro _; simpa [fillF] using hd
  | succ i ih =>
    intro hi
    have hx : l[i]? = some l[i] := List.getElem?_eq_getElem (by omega)
    have := ih (by omega)
    obtain ⟨⟨h1, h2⟩, h3⟩ := fxOk_at h h0 hx
    rw [fill_step hx, splice_len (by omega)]
    exact this
theorem right_parts {S : Sh} (h : rightS S = true) : S.data.length = 16 ∧ fxOk 0 S.fixes = true := by
  unfold rightS at h
  simp only [Bool.and_eq_true, decide_eq_true_eq] at h
  exact ⟨h.1.2, h.2⟩
theorem fill_all {S : Sh} {i : Nat} (hi : S.fixes.length ≤ i) : fillF S.data (S.fixes.take i) = fillS S := by rw [List.take_of_length_le hi]; rfl
set_option maxRecDepth 100000 in
set_option maxHeartbeats 4000000 in
theorem Fill_fn {S : Sh} {w : World} {u : Value} (hu : ShV w S u) : Fn Try.prog 18 [shA S u] w (RBf (.tuple #[.string ⟨(if rightS S = true then fillS S else []).toArray⟩, .int .i64 (if rightS S = true then 0 else 1)]) w) := by
  have hr := fun w (h : ShV w S u) => right_fn h
  by_cases hR : rightS S = true
  rotate_left
  · rw [if_neg hR, if_neg hR]
    rw [show rightS S = false by simpa using hR] at hr
    refine fn_enter (fn := Try.f18) ⟨Try.func18, by kernel_rfl, by kernel_rfl⟩ (by exact rfl) Try.ntmps18 (by exact rfl) ?_
    have hS := St.start w
    unfold shA shC
    repeat' (first | (first | ((with_reducible apply l_pure tabOk); exact rfl; exact rfl) | ((with_reducible apply l_load); exact rfl; (((with_reducible apply Loads.st tabOk); exact rfl; ((exact hS.blkR 0 rfl)); exact rfl)); exact rfl) | ((with_reducible apply l_box hS); exact rfl; exact rfl; exact rfl; intro g w' hS'; clear hS; have hS := hS'; clear hS')) | (first | (with_reducible apply c_seq) | (with_reducible apply c_region) | (with_reducible apply l_nil) | (with_reducible apply q_then) | (with_reducible apply c_ret) | (with_reducible apply q_then_ret)) | (((with_reducible apply c_ift); exact rfl; (exact rfl))) | ((with_reducible apply l_call); exact rfl; exact rfl; exact hr _ (hu.now hS); exact rfl; rintro _ w' ⟨rfl, hS'⟩; replace hS := hS.transA hS'; simp only [appA] at hS; clear hS'))
    (apply q_ret2); (repeat (first | exact ResL.nil | (apply ResL.tmp; exact rfl)))
    exact ⟨rfl, hS.sub (List.nil_sublist _)⟩
  rw [if_pos hR, if_pos hR]
  rw [hR] at hr
  obtain ⟨hd, hok⟩ := right_parts hR
  have bnd := hu.bound
  obtain ⟨p, c, rfl⟩ := hu.len
  refine fn_enter (fn := Try.f18) ⟨Try.func18, by kernel_rfl, by kernel_rfl⟩ (by exact rfl) Try.ntmps18 (by exact rfl) ?_
  have hS := St.start w
  unfold shA shC
  repeat' (first | (first | ((with_reducible apply l_pure tabOk); exact rfl; exact rfl) | ((with_reducible apply l_load); exact rfl; (first | ((with_reducible apply Loads.sc tabOk); exact rfl; ((exact hS.blkC 0 rfl rfl))) | ((with_reducible apply Loads.sl tabOk); exact rfl; ((exact hS.blkC 0 rfl rfl))) | ((with_reducible apply Loads.st tabOk); exact rfl; ((exact hS.blkR 0 rfl)); exact rfl)); exact rfl) | ((with_reducible apply l_box hS); exact rfl; exact rfl; exact rfl; intro g w' hS'; clear hS; have hS := hS'; clear hS')) | (first | (with_reducible apply c_seq) | (with_reducible apply c_region) | (with_reducible apply l_nil) | (with_reducible apply q_then) | (with_reducible apply c_skip) | (with_reducible apply c_block)) | (((with_reducible apply c_iff); exact rfl; (exact rfl))) | ((with_reducible apply l_call); exact rfl; exact rfl; exact hr _ (hu.now hS); exact rfl; rintro _ w' ⟨rfl, hS'⟩; replace hS := hS.transA hS'; simp only [appA] at hS; clear hS'))
  refine c_loopK (X := Nat) (fun x => [(15, .int .i64 (x : Nat)), (4, .string ⟨(fillF S.data (S.fixes.take x)).toArray⟩)]) [1, 13, 14] rfl (fun _ => []) (fun x => x ≤ S.fixes.length) (fun x => S.fixes.length - x) 0 (by repeat (first | exact Fr.sub_nil _ | (apply Fr.sub_cons; exact rfl))) (by simp) hS ?_
  clear hS
  intro i w1 hi hS
  dsimp only [List.cons_append, List.nil_append] at hi hS ⊢
  have hlen := fillT_len hok (by omega) hd i hi
  by_cases hlt : i < S.fixes.length
  · obtain ⟨x, hx⟩ := lt_get (l := S.fixes) (i := i) (by omega)
    have hrow := map_get (f := fxC) hx
    obtain ⟨b, off, rfl, hro⟩ := hu.at_ (i := i) hlt
    obtain ⟨⟨h1, h2⟩, h3⟩ := fxOk_at hok (by omega) hx
    have hst := fill_step (d := S.data) hx
    generalize fillF S.data (S.fixes.take i) = d at hlen hst ⊢
    have hlay := fun w => Lay_fn d x.bytes x.off w (by unfold maxLen; omega)
    have hin : inB x.off x.bytes.length d.length = true := by unfold inB; rw [decide_eq_true_eq]; omega
    simp only [hin, if_true] at hlay
    repeat' (first | (first | ((with_reducible apply l_add); exact rfl; exact rfl; omega; omega; exact rfl) | ((with_reducible apply l_pure tabOk); exact rfl; exact rfl) | ((with_reducible apply l_load); exact rfl; (first | ((with_reducible apply Loads.sc tabOk); exact rfl; ((exact hS.blkC 0 rfl rfl))) | ((with_reducible apply Loads.st tabOk); exact rfl; ((exact hS.roR (by assumption) (by assumption))); exact rfl)); exact rfl) | ((with_reducible apply l_ix tabOk); exact rfl; exact rfl; exact rfl; ((exact rfl)); ((omega)); exact rfl) | ((with_reducible apply l_alloc hS tabOk); exact rfl; exact rfl; exact rfl; intro g w' hS'; clear hS; have hS := hS'; clear hS') | (((with_reducible apply l_store hS tabOk (i := 0)); exact rfl; exact rfl; exact rfl; exact rfl; exact rfl; exact rfl; exact rfl; exact rfl; ((exact (rfl : _ = [_, _]))); intro w' hS'; simp only [List.set] at hS'; clear hS; have hS := hS'; clear hS'))) | (first | (with_reducible apply c_seq) | (with_reducible apply c_region) | (with_reducible apply l_nil) | (with_reducible apply q_then) | (with_reducible apply c_skip) | (with_reducible apply c_block) | (with_reducible apply q_block)) | (((with_reducible apply c_ifd); exact rfl; all_goals (intro hb hp; try (exfalso; omega)))) | ((with_reducible apply l_call); exact rfl; exact rfl; exact hlay _; exact rfl; rintro _ w' ⟨rfl, hS'⟩; replace hS := hS.transA hS'; simp only [appA] at hS; clear hS'))
    exact q_loopK (i + 1) (by rw [hst]; repeat (first | exact Fr.sub_nil _ | (apply Fr.sub_cons; exact rfl))) (by show i + 1 ≤ S.fixes.length; omega) hS.drop (by show S.fixes.length - (i + 1) < S.fixes.length - i; omega)
  · repeat' (first | (((with_reducible apply l_pure tabOk); exact rfl; exact rfl)) | (first | (with_reducible apply c_seq) | (with_reducible apply c_region) | (with_reducible apply l_nil) | (with_reducible apply q_then) | (with_reducible apply c_exit) | (with_reducible apply c_ret) | (with_reducible apply q_then_exit) | (with_reducible apply q_block_exit)) | (((with_reducible apply c_ifd); exact rfl; all_goals (intro hb hp; try (exfalso; omega)))))
    (apply q_ret2); (repeat (first | exact ResL.nil | (apply ResL.tmp; exact rfl)))
    exact ⟨by rw [fill_all (by omega)], hS.sub (List.nil_sublist _)⟩
end Go.Proofs.Ytejnpppejalhfab
/- link.Check and the reference's. -/
namespace Go.Proofs.Ytejnpppejalhfab
open Go.RowKit Go.Sort
set_option maxRecDepth 100000 in
set_option maxHeartbeats 8000000 in
theorem LkCheck_fn {A : List Ar} {Lp : List (Sh × Value)} {w : World} {va vs : Value} {en : Int} (hA : Sl nF w 4 va (A.map arC)) (hL : ShsV w Lp vs) (hen : -9223372036854775808 ≤ en) (hen2 : en ≤ 9223372036854775807) : Fn Try.prog 21 [lkA va vs en] w (RBf (.int .i64 (checkLk A (shs Lp) en)) w) := by
  have bnd := hL.sl.bound
  have hsl := hL.sl
  obtain ⟨p, c, rfl⟩ := hL.sl.len
  unfold lkA
  by_cases hc : checkI A = 0
  rotate_left
  · have hr : checkLk A (shs Lp) en = checkI A := if_neg hc
    have hc' : (!decide (checkI A = 0)) = true := by rw [decide_eq_false hc]; rfl
    rw [hr]
    refine fn_enter (fn := Try.f21) ⟨Try.func21, by kernel_rfl, by kernel_rfl⟩ (by exact rfl) Try.ntmps21 (by exact rfl) ?_
    have hS := St.start w
    repeat' (first | (first | ((with_reducible apply l_pure tabOk); exact rfl; exact rfl) | ((with_reducible apply l_load); exact rfl; (((with_reducible apply Loads.sl tabOk); exact rfl; ((exact hS.blkC 0 rfl rfl)))); exact rfl) | ((with_reducible apply l_box hS); exact rfl; exact rfl; exact rfl; intro g w' hS'; clear hS; have hS := hS'; clear hS')) | (first | (with_reducible apply c_seq) | (with_reducible apply c_region) | (with_reducible apply l_nil) | (with_reducible apply q_then) | (with_reducible apply c_ret) | (with_reducible apply q_then_ret)) | (((with_reducible apply c_ift); exact rfl; (assumption))) | ((with_reducible apply l_call); exact rfl; exact rfl; exact check_fn (hA.now hS); exact rfl; rintro _ w' ⟨rfl, hS'⟩; replace hS := hS.transA hS'; simp only [appA] at hS; clear hS'))
    (apply q_ret1); (repeat (first | exact ResL.nil | (apply ResL.tmp; exact rfl)))
    exact ⟨rfl, hS.sub (List.nil_sublist _)⟩
  have hck := fun w (h : Sl nF w 4 va (A.map arC)) => check_fn h
  have htot := fun w (h : Sl nF w 4 va (A.map arC)) => Total_fn h
  have hfnd := fun w page (h : Sl nF w 4 va (A.map arC)) => Find_fn page h
  have hfi : ∀ page, findI A page = findA A page := fun page => if_pos hc
  simp only [hc, if_true, hfi] at hck htot hfnd
  have hr : checkLk A (shs Lp) en = if lkB A (shs Lp) en = true then 0 else 1 := if_pos hc
  rw [hr]
  unfold lkB
  rw [shs_len]
  by_cases hn : (Lp.length : Int) = sumN A
  rotate_left
  · have hn' : (!decide ((Lp.length : Int) = sumN A)) = true := by rw [decide_eq_false hn]; rfl
    rw [if_neg (by rw [decide_eq_false hn]; simp)]
    refine fn_enter (fn := Try.f21) ⟨Try.func21, by kernel_rfl, by kernel_rfl⟩ (by exact rfl) Try.ntmps21 (by exact rfl) ?_
    have hS := St.start w
    repeat' (first | (first | ((with_reducible apply l_pure tabOk); exact rfl; exact rfl) | ((with_reducible apply l_load); exact rfl; (((with_reducible apply Loads.sl tabOk); exact rfl; ((exact hS.blkC 0 rfl rfl)))); exact rfl) | ((with_reducible apply l_box hS); exact rfl; exact rfl; exact rfl; intro g w' hS'; clear hS; have hS := hS'; clear hS')) | (first | (with_reducible apply c_seq) | (with_reducible apply c_region) | (with_reducible apply l_nil) | (with_reducible apply q_then) | (with_reducible apply c_skip)) | (((with_reducible apply c_iff); exact rfl; (exact rfl))) | ((with_reducible apply l_call); exact rfl; exact rfl; exact hck _ (hA.now hS); exact rfl; rintro _ w' ⟨rfl, hS'⟩; replace hS := hS.transA hS'; simp only [appA] at hS; clear hS'))
    (focus ((with_reducible apply c_drawAll nF _ _ (by kernel_rfl) (by kernel_rfl) hS); (repeat' (first | (first | ((with_reducible apply d_pure tabOk); exact rfl; exact rfl) | ((with_reducible apply d_load); exact rfl; (intro wd hd; replace hd : St _ _ wd _ := hd; (((with_reducible apply Loads.sl tabOk); exact rfl; ((exact hd.blkC 0 rfl rfl))))); exact rfl)) | ((with_reducible apply d_call); exact rfl; exact rfl; (intro wd hd; replace hd : St _ _ wd _ := hd; exact htot _ (hA.now hd)); exact rfl))); all_goals ((with_reducible apply d_nil); intro w' hS'; clear hS; have hS := hS'; clear hS')))
    repeat' (first | (((with_reducible apply l_pure tabOk); exact rfl; exact rfl)) | (first | (with_reducible apply c_seq) | (with_reducible apply c_region) | (with_reducible apply l_nil) | (with_reducible apply q_then) | (with_reducible apply c_ret) | (with_reducible apply q_then_ret)) | (((with_reducible apply c_ift); exact rfl; (assumption))))
    (apply q_ret1); (repeat (first | exact ResL.nil | (apply ResL.tmp; exact rfl)))
    exact ⟨rfl, hS.sub (List.nil_sublist _)⟩
  have hn' : (!decide ((Lp.length : Int) = sumN A)) = false := by rw [decide_eq_true hn]; rfl
  rw [decide_eq_true hn, Bool.true_and]
  refine fn_enter (fn := Try.f21) ⟨Try.func21, by kernel_rfl, by kernel_rfl⟩ (by exact rfl) Try.ntmps21 (by exact rfl) ?_
  have hS := St.start w
  repeat' (first | (first | ((with_reducible apply l_pure tabOk); exact rfl; exact rfl) | ((with_reducible apply l_load); exact rfl; (((with_reducible apply Loads.sl tabOk); exact rfl; ((exact hS.blkC 0 rfl rfl)))); exact rfl) | ((with_reducible apply l_box hS); exact rfl; exact rfl; exact rfl; intro g w' hS'; clear hS; have hS := hS'; clear hS')) | (first | (with_reducible apply c_seq) | (with_reducible apply c_region) | (with_reducible apply l_nil) | (with_reducible apply q_then) | (with_reducible apply c_skip)) | (((with_reducible apply c_iff); exact rfl; (exact rfl))) | ((with_reducible apply l_call); exact rfl; exact rfl; exact hck _ (hA.now hS); exact rfl; rintro _ w' ⟨rfl, hS'⟩; replace hS := hS.transA hS'; simp only [appA] at hS; clear hS'))
  (focus ((with_reducible apply c_drawAll nF _ _ (by kernel_rfl) (by kernel_rfl) hS); (repeat' (first | (first | ((with_reducible apply d_pure tabOk); exact rfl; exact rfl) | ((with_reducible apply d_load); exact rfl; (intro wd hd; replace hd : St _ _ wd _ := hd; (((with_reducible apply Loads.sl tabOk); exact rfl; ((exact hd.blkC 0 rfl rfl))))); exact rfl)) | ((with_reducible apply d_call); exact rfl; exact rfl; (intro wd hd; replace hd : St _ _ wd _ := hd; exact htot _ (hA.now hd)); exact rfl))); all_goals ((with_reducible apply d_nil); intro w' hS'; clear hS; have hS := hS'; clear hS')))
  repeat' (first | (first | ((with_reducible apply l_pure tabOk); exact rfl; exact rfl) | ((with_reducible apply l_load); exact rfl; (((with_reducible apply Loads.sl tabOk); exact rfl; ((exact hS.blkC 0 rfl rfl)))); exact rfl)) | (first | (with_reducible apply c_seq) | (with_reducible apply c_region) | (with_reducible apply l_nil) | (with_reducible apply q_then) | (with_reducible apply c_skip) | (with_reducible apply c_block)) | (((with_reducible apply c_iff); exact rfl; (assumption))))
  refine c_loopK (X := Nat × Int) (fun x => [(27, .int .i64 (x.1 : Nat)), (4, .int .i64 x.2)]) [1, 25, 26] rfl (fun _ => []) (fun x => x.1 ≤ Lp.length ∧ shsB A 0 (shs Lp) = shsB A x.2 ((shs Lp).drop x.1)) (fun x => Lp.length - x.1) (0, 0) (by repeat (first | exact Fr.sub_nil _ | (apply Fr.sub_cons; exact rfl))) (by simp) hS ?_
  clear hS
  rintro ⟨i, last⟩ w1 ⟨hi, hok⟩ hS
  dsimp only [List.cons_append, List.nil_append] at hi hok hS ⊢
  by_cases hlt : i < Lp.length
  · obtain ⟨x, hx⟩ := lt_get (l := Lp) (i := i) (by omega)
    have hrow := map_get (f := fun p => shC p.1 p.2) hx
    obtain ⟨b, off, rfl, hro⟩ := hsl.at_ (i := i) hlt
    have hst := shsB_step (A := A) (last := last) (shs_at hx)
    have hfx := hL.fx x (List.mem_of_getElem? hx)
    have hfi2 := fun w h => hfnd w x.1.page h
    obtain ⟨S, u⟩ := x
    dsimp only [shC] at hrow hst hfx hfi2
    obtain ⟨pu, cu, rfl⟩ := hfx.len
    have hrt := fun w (h : ShV w S (.slice pu S.fixes.length cu)) => right_fn h
    rw [hst] at hok
    cases hf : findA A S.page with
    | none =>
      simp only [hf] at hfi2
      have ha : arOk A S.page = false := by unfold arOk; rw [hf]
      rw [ha, Bool.false_and] at hok
      repeat' (first | (first | ((with_reducible apply l_pure tabOk); exact rfl; exact rfl) | ((with_reducible apply l_load); exact rfl; (first | ((with_reducible apply Loads.sc tabOk); exact rfl; ((exact hS.blkC 0 rfl rfl))) | ((with_reducible apply Loads.sl tabOk); exact rfl; ((exact hS.blkC 1 rfl rfl))) | ((with_reducible apply Loads.st tabOk); exact rfl; ((exact hS.roR (by assumption) (by assumption))); exact rfl)); exact rfl) | ((with_reducible apply l_ix tabOk); exact rfl; exact rfl; exact rfl; ((exact rfl)); ((omega)); exact rfl) | ((with_reducible apply l_alloc hS tabOk); exact rfl; exact rfl; exact rfl; intro g w' hS'; clear hS; have hS := hS'; clear hS') | (((with_reducible apply l_store hS tabOk (i := 0)); exact rfl; exact rfl; exact rfl; exact rfl; exact rfl; exact rfl; exact rfl; exact rfl; (first | exact (rfl : _ = [_, _, _]) | exact (rfl : _ = [_, _, _, _])); intro w' hS'; simp only [List.set] at hS'; clear hS; have hS := hS'; clear hS')) | (first | ((with_reducible apply l_no); exact rfl; exact rfl; exact rfl; exact rfl; ((exact rfl)); exact rfl) | ((with_reducible apply l_pick1); exact rfl; ((exact rfl)); exact rfl; exact rfl))) | (first | (with_reducible apply c_seq) | (with_reducible apply c_region) | (with_reducible apply l_nil) | (with_reducible apply q_then) | (with_reducible apply c_skip) | (with_reducible apply c_block) | (with_reducible apply c_ret) | (with_reducible apply q_then_ret) | (with_reducible apply q_block_ret)) | (first | ((with_reducible apply c_ift); exact rfl; (exact rfl)) | ((with_reducible apply c_ifd); exact rfl; all_goals (intro hb hp; try (exfalso; omega)))) | ((with_reducible apply l_call); exact rfl; exact rfl; exact hfi2 _ (hA.now hS); exact rfl; rintro _ w' ⟨rfl, hS'⟩; replace hS := hS.transA hS'; simp only [appA] at hS; clear hS'))
      (apply q_ret1); (repeat (first | exact ResL.nil | (apply ResL.tmp; exact rfl)))
      exact ⟨by rw [hok]; rfl, hS.sub (List.nil_sublist _)⟩
    | some a =>
      simp only [hf] at hfi2
      obtain ⟨pg, n, prot, z⟩ := a
      cases z with
      | true =>
        have ha : arOk A S.page = false := by unfold arOk; rw [hf]; rfl
        rw [ha, Bool.false_and] at hok
        repeat' (first | (first | ((with_reducible apply l_pure tabOk); exact rfl; exact rfl) | ((with_reducible apply l_load); exact rfl; (first | ((with_reducible apply Loads.sc tabOk); exact rfl; ((exact hS.blkC 0 rfl rfl))) | ((with_reducible apply Loads.sl tabOk); exact rfl; ((exact hS.blkC 1 rfl rfl))) | ((with_reducible apply Loads.st tabOk); exact rfl; ((exact hS.roR (by assumption) (by assumption))); exact rfl)); exact rfl) | ((with_reducible apply l_ix tabOk); exact rfl; exact rfl; exact rfl; ((exact rfl)); ((omega)); exact rfl) | ((with_reducible apply l_alloc hS tabOk); exact rfl; exact rfl; exact rfl; intro g w' hS'; clear hS; have hS := hS'; clear hS') | (((with_reducible apply l_store hS tabOk (i := 0)); exact rfl; exact rfl; exact rfl; exact rfl; exact rfl; exact rfl; exact rfl; exact rfl; (first | exact (rfl : _ = [_, _, _]) | exact (rfl : _ = [_, _, _, _])); intro w' hS'; simp only [List.set] at hS'; clear hS; have hS := hS'; clear hS')) | (first | ((with_reducible apply l_yes); exact rfl; exact rfl; exact rfl; exact rfl; (exact rfl)) | ((with_reducible apply l_no); exact rfl; exact rfl; exact rfl; exact rfl; ((exact rfl)); exact rfl) | ((with_reducible apply l_pick1); exact rfl; ((exact rfl)); exact rfl; exact rfl) | ((with_reducible apply l_pick2); exact rfl; ((exact rfl)); exact rfl; exact rfl))) | (first | (with_reducible apply c_seq) | (with_reducible apply c_region) | (with_reducible apply l_nil) | (with_reducible apply q_then) | (with_reducible apply c_skip) | (with_reducible apply c_block) | (with_reducible apply c_ret) | (with_reducible apply q_then_ret) | (with_reducible apply q_block_ret)) | (first | ((with_reducible apply c_ift); exact rfl; (exact rfl)) | ((with_reducible apply c_ifd); exact rfl; all_goals (intro hb hp; try (exfalso; omega)))) | ((with_reducible apply l_call); exact rfl; exact rfl; exact hfi2 _ (hA.now hS); exact rfl; rintro _ w' ⟨rfl, hS'⟩; replace hS := hS.transA hS'; simp only [appA] at hS; clear hS'))
        (apply q_ret1); (repeat (first | exact ResL.nil | (apply ResL.tmp; exact rfl)))
        exact ⟨by rw [hok]; rfl, hS.sub (List.nil_sublist _)⟩
      | false =>
        have ha : arOk A S.page = true := by unfold arOk; rw [hf]; rfl
        rw [ha, Bool.true_and] at hok
        cases hR : rightS S with
        | false =>
          simp only [hR] at hrt
          rw [hR, Bool.false_and] at hok
          repeat' (first | (first | ((with_reducible apply l_pure tabOk); exact rfl; exact rfl) | ((with_reducible apply l_load); exact rfl; (first | ((with_reducible apply Loads.sc tabOk); exact rfl; ((exact hS.blkC 0 rfl rfl))) | ((with_reducible apply Loads.sl tabOk); exact rfl; ((exact hS.blkC 1 rfl rfl))) | ((with_reducible apply Loads.st tabOk); exact rfl; (first | exact hS.blkR 1 rfl | exact hS.roR (by assumption) (by assumption)); exact rfl)); exact rfl) | ((with_reducible apply l_ix tabOk); exact rfl; exact rfl; exact rfl; ((exact rfl)); ((omega)); exact rfl) | ((with_reducible apply l_alloc hS tabOk); exact rfl; exact rfl; exact rfl; intro g w' hS'; clear hS; have hS := hS'; clear hS') | (((with_reducible apply l_store hS tabOk (i := 0)); exact rfl; exact rfl; exact rfl; exact rfl; exact rfl; exact rfl; exact rfl; exact rfl; (first | exact (rfl : _ = [_, _, _]) | exact (rfl : _ = [_, _, _, _])); intro w' hS'; simp only [List.set] at hS'; clear hS; have hS := hS'; clear hS')) | (first | ((with_reducible apply l_yes); exact rfl; exact rfl; exact rfl; exact rfl; (exact rfl)) | ((with_reducible apply l_no); exact rfl; exact rfl; exact rfl; exact rfl; ((exact rfl)); exact rfl) | ((with_reducible apply l_pick1); exact rfl; ((exact rfl)); exact rfl; exact rfl) | ((with_reducible apply l_pick2); exact rfl; ((exact rfl)); exact rfl; exact rfl))) | (first | (with_reducible apply c_seq) | (with_reducible apply c_region) | (with_reducible apply l_nil) | (with_reducible apply q_then) | (with_reducible apply c_skip) | (with_reducible apply c_block) | (with_reducible apply c_ret) | (with_reducible apply q_then_ret) | (with_reducible apply q_block_ret)) | (first | ((with_reducible apply c_ift); exact rfl; (exact rfl)) | ((with_reducible apply c_ifd); exact rfl; all_goals (intro hb hp; try (exfalso; omega)))) | ((with_reducible apply l_call); exact rfl; exact rfl; exact hfi2 _ (hA.now hS); exact rfl; rintro _ w' ⟨rfl, hS'⟩; replace hS := hS.transA hS'; simp only [appA] at hS; clear hS') | ((with_reducible apply l_call); exact rfl; exact rfl; exact hrt _ (hfx.now hS); exact rfl; rintro _ w' ⟨rfl, hS'⟩; replace hS := hS.transA hS'; simp only [appA] at hS; clear hS'))
          (apply q_ret1); (repeat (first | exact ResL.nil | (apply ResL.tmp; exact rfl)))
          exact ⟨by rw [hok]; rfl, hS.sub (List.nil_sublist _)⟩
        | true =>
          simp only [hR] at hrt
          rw [hR, Bool.true_and] at hok
          by_cases hlp : last < S.page
          · rw [decide_eq_true hlp, Bool.true_and] at hok
            repeat' (first | (first | ((with_reducible apply l_add); exact rfl; exact rfl; omega; omega; exact rfl) | ((with_reducible apply l_pure tabOk); exact rfl; exact rfl) | ((with_reducible apply l_load); exact rfl; (first | ((with_reducible apply Loads.sc tabOk); exact rfl; (first | exact hS.blkC 0 rfl rfl | exact hS.blkC 1 rfl rfl)) | ((with_reducible apply Loads.sl tabOk); exact rfl; ((exact hS.blkC 1 rfl rfl))) | ((with_reducible apply Loads.st tabOk); exact rfl; (first | exact hS.blkR 1 rfl | exact hS.roR (by assumption) (by assumption)); exact rfl)); exact rfl) | ((with_reducible apply l_ix tabOk); exact rfl; exact rfl; exact rfl; ((exact rfl)); ((omega)); exact rfl) | ((with_reducible apply l_alloc hS tabOk); exact rfl; exact rfl; exact rfl; intro g w' hS'; clear hS; have hS := hS'; clear hS') | (((with_reducible apply l_store hS tabOk (i := 0)); exact rfl; exact rfl; exact rfl; exact rfl; exact rfl; exact rfl; exact rfl; exact rfl; (first | exact (rfl : _ = [_, _, _]) | exact (rfl : _ = [_, _, _, _])); intro w' hS'; simp only [List.set] at hS'; clear hS; have hS := hS'; clear hS')) | (first | ((with_reducible apply l_yes); exact rfl; exact rfl; exact rfl; exact rfl; (exact rfl)) | ((with_reducible apply l_pick2); exact rfl; ((exact rfl)); exact rfl; exact rfl))) | (first | (with_reducible apply c_seq) | (with_reducible apply c_region) | (with_reducible apply l_nil) | (with_reducible apply q_then) | (with_reducible apply c_skip) | (with_reducible apply c_block) | (with_reducible apply q_block)) | (((with_reducible apply c_ifd); exact rfl; all_goals (intro hb hp; try (exfalso; omega)))) | ((with_reducible apply l_call); exact rfl; exact rfl; exact hfi2 _ (hA.now hS); exact rfl; rintro _ w' ⟨rfl, hS'⟩; replace hS := hS.transA hS'; simp only [appA] at hS; clear hS') | ((with_reducible apply l_call); exact rfl; exact rfl; exact hrt _ (hfx.now hS); exact rfl; rintro _ w' ⟨rfl, hS'⟩; replace hS := hS.transA hS'; simp only [appA] at hS; clear hS'))
            exact q_loopK (i + 1, S.page) (by repeat (first | exact Fr.sub_nil _ | (apply Fr.sub_cons; exact rfl))) ⟨by show i + 1 ≤ Lp.length; omega, hok⟩ (hS.reorder [2] (by decide) rfl) (by show Lp.length - (i + 1) < Lp.length - i; omega)
          · rw [decide_eq_false hlp, Bool.false_and] at hok
            repeat' (first | (first | ((with_reducible apply l_pure tabOk); exact rfl; exact rfl) | ((with_reducible apply l_load); exact rfl; (first | ((with_reducible apply Loads.sc tabOk); exact rfl; (first | exact hS.blkC 0 rfl rfl | exact hS.blkC 1 rfl rfl)) | ((with_reducible apply Loads.sl tabOk); exact rfl; ((exact hS.blkC 1 rfl rfl))) | ((with_reducible apply Loads.st tabOk); exact rfl; (first | exact hS.blkR 1 rfl | exact hS.roR (by assumption) (by assumption)); exact rfl)); exact rfl) | ((with_reducible apply l_ix tabOk); exact rfl; exact rfl; exact rfl; ((exact rfl)); ((omega)); exact rfl) | ((with_reducible apply l_alloc hS tabOk); exact rfl; exact rfl; exact rfl; intro g w' hS'; clear hS; have hS := hS'; clear hS') | (((with_reducible apply l_store hS tabOk (i := 0)); exact rfl; exact rfl; exact rfl; exact rfl; exact rfl; exact rfl; exact rfl; exact rfl; (first | exact (rfl : _ = [_, _, _]) | exact (rfl : _ = [_, _, _, _])); intro w' hS'; simp only [List.set] at hS'; clear hS; have hS := hS'; clear hS')) | (first | ((with_reducible apply l_yes); exact rfl; exact rfl; exact rfl; exact rfl; (exact rfl)) | ((with_reducible apply l_pick2); exact rfl; ((exact rfl)); exact rfl; exact rfl))) | (first | (with_reducible apply c_seq) | (with_reducible apply c_region) | (with_reducible apply l_nil) | (with_reducible apply q_then) | (with_reducible apply c_skip) | (with_reducible apply c_block) | (with_reducible apply c_ret) | (with_reducible apply q_then_ret) | (with_reducible apply q_block_ret)) | (((with_reducible apply c_ifd); exact rfl; all_goals (intro hb hp; try (exfalso; omega)))) | ((with_reducible apply l_call); exact rfl; exact rfl; exact hfi2 _ (hA.now hS); exact rfl; rintro _ w' ⟨rfl, hS'⟩; replace hS := hS.transA hS'; simp only [appA] at hS; clear hS') | ((with_reducible apply l_call); exact rfl; exact rfl; exact hrt _ (hfx.now hS); exact rfl; rintro _ w' ⟨rfl, hS'⟩; replace hS := hS.transA hS'; simp only [appA] at hS; clear hS'))
            (apply q_ret1); (repeat (first | exact ResL.nil | (apply ResL.tmp; exact rfl)))
            exact ⟨by rw [hok]; rfl, hS.sub (List.nil_sublist _)⟩
  rw [List.drop_of_length_le (by rw [shs_len]; omega)] at hok
  have hrv : (if (shsB A 0 (shs Lp) && entB A en) = true then (0 : Int) else 1) = if entB A en = true then 0 else 1 := by
    simp only [hok, shsB, Bool.true_and]
  rw [hrv]
  have hfe := fun w h => hfnd w (en.tdiv 16) h
  by_cases he : 0 ≤ en ∧ en.tmod 8 = 0
  rotate_left
  · have hE : entB A en = false := by unfold entB; rw [decide_eq_false he]; rfl
    rw [hE]
    have hrv2 : (if false = true then (0 : Int) else 1) = 1 := rfl
    repeat' (first | (first | ((with_reducible apply l_pure tabOk); exact rfl; exact rfl) | ((with_reducible apply l_load); exact rfl; (((with_reducible apply Loads.sc tabOk); exact rfl; ((exact hS.blkC 0 rfl rfl)))); exact rfl) | (first | ((with_reducible apply l_yes); exact rfl; exact rfl; exact rfl; exact rfl; (assumption)) | ((with_reducible apply l_no); exact rfl; exact rfl; exact rfl; exact rfl; ((assumption)); exact rfl) | ((with_reducible apply l_partd); exact rfl; exact rfl; exact rfl; all_goals (intro hb hp; try (exfalso; omega))) | ((with_reducible apply l_pick1); exact rfl; ((assumption)); exact rfl; exact rfl) | ((with_reducible apply l_pick2); exact rfl; ((assumption)); exact rfl; exact rfl))) | (first | (with_reducible apply c_seq) | (with_reducible apply c_region) | (with_reducible apply l_nil) | (with_reducible apply q_then) | (with_reducible apply c_exit) | (with_reducible apply c_ret) | (with_reducible apply q_then_exit) | (with_reducible apply q_then_ret) | (with_reducible apply q_block_exit)) | (first | ((with_reducible apply c_ift); exact rfl; (exact rfl)) | ((with_reducible apply c_ifd); exact rfl; all_goals (intro hb hp; try (exfalso; omega))) | ((with_reducible apply c_ifn); exact rfl; all_goals (intro hb hp; try (exfalso; omega)))) | ((with_reducible apply l_remT); exact rfl; exact rfl; omega; exact rfl))
    all_goals (((apply q_ret1); (repeat (first | exact ResL.nil | (apply ResL.tmp; exact rfl)))); exact ⟨rfl, hS.sub (List.nil_sublist _)⟩)
  cases hf : findA A (en.tdiv 16) with
  | none =>
    simp only [hf] at hfe
    have hE : entB A en = false := by unfold entB; rw [hf]; simp
    rw [hE]
    repeat' (first | (first | ((with_reducible apply l_pure tabOk); exact rfl; exact rfl) | ((with_reducible apply l_load); exact rfl; (first | ((with_reducible apply Loads.sc tabOk); exact rfl; ((exact hS.blkC 0 rfl rfl))) | ((with_reducible apply Loads.sl tabOk); exact rfl; ((exact hS.blkC 0 rfl rfl)))); exact rfl) | ((with_reducible apply l_alloc hS tabOk); exact rfl; exact rfl; exact rfl; intro g w' hS'; clear hS; have hS := hS'; clear hS') | (((with_reducible apply l_store hS tabOk (i := 0)); exact rfl; exact rfl; exact rfl; exact rfl; exact rfl; exact rfl; exact rfl; exact rfl; ((exact (rfl : _ = [_, _, _, _]))); intro w' hS'; simp only [List.set] at hS'; clear hS; have hS := hS'; clear hS')) | (first | ((with_reducible apply l_yes); exact rfl; exact rfl; exact rfl; exact rfl; (assumption)) | ((with_reducible apply l_no); exact rfl; exact rfl; exact rfl; exact rfl; ((exact rfl)); exact rfl) | ((with_reducible apply l_partd); exact rfl; exact rfl; exact rfl; all_goals (intro hb hp; try (exfalso; omega))) | ((with_reducible apply l_pick1); exact rfl; ((exact rfl)); exact rfl; exact rfl) | ((with_reducible apply l_pick2); exact rfl; ((assumption)); exact rfl; exact rfl))) | (first | (with_reducible apply c_seq) | (with_reducible apply c_region) | (with_reducible apply l_nil) | (with_reducible apply q_then) | (with_reducible apply c_skip) | (with_reducible apply c_exit) | (with_reducible apply c_ret) | (with_reducible apply q_then_exit) | (with_reducible apply q_then_ret) | (with_reducible apply q_block_exit)) | (first | ((with_reducible apply c_ift); exact rfl; (exact rfl)) | ((with_reducible apply c_ifd); exact rfl; all_goals (intro hb hp; try (exfalso; omega))) | ((with_reducible apply c_ifn); exact rfl; all_goals (intro hb hp; try (exfalso; omega)))) | ((with_reducible apply l_remT); exact rfl; exact rfl; omega; exact rfl) | ((with_reducible apply l_quoT); exact rfl; exact rfl; omega; omega; omega; exact rfl) | ((with_reducible apply l_call); exact rfl; exact rfl; exact hfe _ (hA.now hS); exact rfl; rintro _ w' ⟨rfl, hS'⟩; replace hS := hS.transA hS'; simp only [appA] at hS; clear hS'))
    (apply q_ret1); (repeat (first | exact ResL.nil | (apply ResL.tmp; exact rfl)))
    exact ⟨rfl, hS.sub (List.nil_sublist _)⟩
  | some a =>
    simp only [hf] at hfe
    have hok2 := (good_pos hc hf).1
    unfold Ar.ok at hok2
    obtain ⟨pg, n, prot, z⟩ := a
    dsimp only at hok2
    have ha2 := and2 (p := prot) (by omega) (by omega)
    by_cases h2 : 2 ≤ prot
    · have hE : entB A en = true := by unfold entB; rw [hf, decide_eq_true he]; simp [h2]
      rw [hE]
      rw [if_pos h2] at ha2
      repeat' (first | (first | ((with_reducible apply l_pure tabOk); exact rfl; exact rfl) | ((with_reducible apply l_load); exact rfl; (first | ((with_reducible apply Loads.sc tabOk); exact rfl; ((exact hS.blkC 0 rfl rfl))) | ((with_reducible apply Loads.sl tabOk); exact rfl; ((exact hS.blkC 0 rfl rfl)))); exact rfl) | ((with_reducible apply l_alloc hS tabOk); exact rfl; exact rfl; exact rfl; intro g w' hS'; clear hS; have hS := hS'; clear hS') | (((with_reducible apply l_store hS tabOk (i := 0)); exact rfl; exact rfl; exact rfl; exact rfl; exact rfl; exact rfl; exact rfl; exact rfl; ((exact (rfl : _ = [_, _, _, _]))); intro w' hS'; simp only [List.set] at hS'; clear hS; have hS := hS'; clear hS')) | (first | ((with_reducible apply l_yes); exact rfl; exact rfl; exact rfl; exact rfl; first | exact rfl | assumption) | ((with_reducible apply l_partd); exact rfl; exact rfl; exact rfl; all_goals (intro hb hp; try (exfalso; omega))) | ((with_reducible apply l_pick2); exact rfl; (first | exact rfl | assumption); exact rfl; exact rfl))) | (first | (with_reducible apply c_seq) | (with_reducible apply c_region) | (with_reducible apply l_nil) | (with_reducible apply q_then) | (with_reducible apply c_skip) | (with_reducible apply c_exit) | (with_reducible apply c_ret) | (with_reducible apply q_then_exit) | (with_reducible apply q_block_exit)) | (first | ((with_reducible apply c_iff); exact rfl; (exact rfl)) | ((with_reducible apply c_ifd); exact rfl; all_goals (intro hb hp; try (exfalso; omega))) | ((with_reducible apply c_ifn); exact rfl; all_goals (intro hb hp; try (exfalso; omega)))) | ((with_reducible apply l_remT); exact rfl; exact rfl; omega; exact rfl) | ((with_reducible apply l_quoT); exact rfl; exact rfl; omega; omega; omega; exact rfl) | ((with_reducible apply l_call); exact rfl; exact rfl; exact hfe _ (hA.now hS); exact rfl; rintro _ w' ⟨rfl, hS'⟩; replace hS := hS.transA hS'; simp only [appA] at hS; clear hS') | ((with_reducible apply l_and); exact rfl; exact rfl; exact ha2; exact rfl))
      (apply q_ret1); (repeat (first | exact ResL.nil | (apply ResL.tmp; exact rfl)))
      exact ⟨rfl, hS.sub (List.nil_sublist _)⟩
    · have hE : entB A en = false := by unfold entB; rw [hf]; simp [h2]
      rw [hE]
      rw [if_neg h2] at ha2
      repeat' (first | (first | ((with_reducible apply l_pure tabOk); exact rfl; exact rfl) | ((with_reducible apply l_load); exact rfl; (first | ((with_reducible apply Loads.sc tabOk); exact rfl; ((exact hS.blkC 0 rfl rfl))) | ((with_reducible apply Loads.sl tabOk); exact rfl; ((exact hS.blkC 0 rfl rfl)))); exact rfl) | ((with_reducible apply l_alloc hS tabOk); exact rfl; exact rfl; exact rfl; intro g w' hS'; clear hS; have hS := hS'; clear hS') | (((with_reducible apply l_store hS tabOk (i := 0)); exact rfl; exact rfl; exact rfl; exact rfl; exact rfl; exact rfl; exact rfl; exact rfl; ((exact (rfl : _ = [_, _, _, _]))); intro w' hS'; simp only [List.set] at hS'; clear hS; have hS := hS'; clear hS')) | (first | ((with_reducible apply l_yes); exact rfl; exact rfl; exact rfl; exact rfl; first | exact rfl | assumption) | ((with_reducible apply l_partd); exact rfl; exact rfl; exact rfl; all_goals (intro hb hp; try (exfalso; omega))) | ((with_reducible apply l_pick2); exact rfl; (first | exact rfl | assumption); exact rfl; exact rfl))) | (first | (with_reducible apply c_seq) | (with_reducible apply c_region) | (with_reducible apply l_nil) | (with_reducible apply q_then) | (with_reducible apply c_skip) | (with_reducible apply c_exit) | (with_reducible apply c_ret) | (with_reducible apply q_then_exit) | (with_reducible apply q_then_ret) | (with_reducible apply q_block_exit)) | (first | ((with_reducible apply c_ift); exact rfl; (exact rfl)) | ((with_reducible apply c_ifd); exact rfl; all_goals (intro hb hp; try (exfalso; omega))) | ((with_reducible apply c_ifn); exact rfl; all_goals (intro hb hp; try (exfalso; omega)))) | ((with_reducible apply l_remT); exact rfl; exact rfl; omega; exact rfl) | ((with_reducible apply l_quoT); exact rfl; exact rfl; omega; omega; omega; exact rfl) | ((with_reducible apply l_call); exact rfl; exact rfl; exact hfe _ (hA.now hS); exact rfl; rintro _ w' ⟨rfl, hS'⟩; replace hS := hS.transA hS'; simp only [appA] at hS; clear hS') | ((with_reducible apply l_and); exact rfl; exact rfl; exact ha2; exact rfl))
      (apply q_ret1); (repeat (first | exact ResL.nil | (apply ResL.tmp; exact rfl)))
      exact ⟨rfl, hS.sub (List.nil_sublist _)⟩
end Go.Proofs.Ytejnpppejalhfab
/- The reference's sheetsRise and CheckLinked. -/
namespace Go.Proofs.Ytejnpppejalhfab
open Go.RowKit Go.Sort
theorem right_page {S : Sh} (h : rightS S = true) : 1 ≤ S.page ∧ S.page ≤ 255 := by
  unfold rightS at h
  simp only [Bool.and_eq_true, decide_eq_true_eq] at h
  exact h.1.1
end Go.Proofs.Ytejnpppejalhfab
/- THE STEP CALCULUS, part 21: min and max; copy of a string into a row of bytes of one's own; things in a list of whatever length. -/
namespace Go.Proofs.Ytejnpppejalhfab
open Go.RowKit Go.Sort

section
variable {P : Program} {n : Nat} {ds : List Deferred} {E : Fr} {w : World} {Q : Exit → Act → World → Prop} {ops : Array Oper} {rest : List Oper} {d : Nat} {dst : Option Nat} {ty : TypeId} {pos : String} {after : Array Edge} {F : Nat → Prop} {w0 : World} {Γ : List Asr} {T : Tab}
theorem r_min {x y : Operand} {ats : Array TypeId} {m k : Int} (hx : E.ev x = some (.int .i64 m)) (hy : E.ev y = some (.int .i64 k)) : ∀ a, Has n ds a E → ∀ dst, Runs P ⟨dst, .call { callee := .builtin .min, args := #[x, y], argTypes := ats }, ty, pos, after, none⟩ a (.int .i64 (min m k)) := fun a ha dst w => by
  have e : (if k < m then k else m) = min m k := by omega
  simp [execOp, resolve, invoke, builtin, ha.ev hx, ha.ev hy, Builtin.min_, Builtin.min2, Result.andThen, e]
theorem l_min {x y : Operand} {ats : Array TypeId} {m k : Int} (hx : E.ev x = some (.int .i64 m)) (hy : E.ev y = some (.int .i64 k)) (hd : Nat.blt d n = true) (k' : WL P ops Q rest n ds ((d, .int .i64 (min m k)) :: E) w) : WL P ops Q (⟨some d, .call { callee := .builtin .min, args := #[x, y], argTypes := ats }, ty, pos, after, none⟩ :: rest) n ds E w := l_runs (fun a ha => r_min hx hy a ha _) hd k'
theorem d_strFrom {C : World → Prop} {K : Act → Prop} (hT : TabOk P T) {t sz : Nat} {z : Value} {x lo : Operand} {kk : IntKind} {l : List UInt8} {i : Int} (ht : T.get t = some (.sc .string sz z)) (hx : E.ev x = some (.string ⟨l.toArray⟩)) (hlo : E.ev lo = some (.int kk i)) (h0 : 0 ≤ i) (h1 : i ≤ l.length) (hd : Nat.blt d n = true) (k : WD P ops C K rest n ds ((d, .string ⟨(l.drop i.toNat).toArray⟩) :: E)) : WD P ops C K (⟨some d, .slice t x (some lo) none none, ty, pos, after, none⟩ :: rest) n ds E := d_runs (fun a ha => r_strFrom hT ht hx hlo h0 h1 a ha _) hd k
theorem setL_pre (old c : List Value) (h : c.length ≤ old.length) : setL old 0 c = c ++ old.drop c.length := by
  conv => lhs; rw [← List.take_append_drop c.length old]
  rw [setL_front _ _ _ _ (by simp; omega), setL_all _ _ (by simp; omega)]
/-- 'copy(b, s)', b a row of bytes of one's own, s a string -/
theorem g_copyS (hS : St F w0 w Γ) (hT : TabOk P T) {t u e m cap g i : Nat} {ty2 : TypeId} {x y : Operand} {old l : List UInt8} (ht : T.get t = some (.sl e 1 1 false [.int .u8 0])) (hx : E.ev x = some (.slice (some ⟨g, 0, none⟩) m cap)) (hi : Γ[i]? = some (.row e 1 (.slice (some ⟨g, 0, none⟩) m cap) (bR old))) (hy : E.ev y = some (.string ⟨l.toArray⟩)) :
    Gets P ⟨dst, .call { callee := .builtin .copy, args := #[x, y], argTypes := #[t, u] }, ty2, pos, after, none⟩ n ds E w (fun v' w' => v' = .int .i64 ((l.take m).length : Nat) ∧ St F w0 w' (Γ.set i (.row e 1 (.slice (some ⟨g, 0, none⟩) m cap) (bR (l.take m ++ old.drop (l.take m).length))))) := by
  intro a ha K Q k
  obtain ⟨hown, hlen, hone⟩ := hS.at_ hi
  rcases hown.2 with ⟨hv, _⟩ | ⟨g', cap', cur, hv, _, hg, hmc, hcm, hcs, htake⟩
  · cases hv
  have hol : (bR old).length = old.length := bR_len old
  cases hv
  rw [hol] at hmc htake hx hi
  simp only [hol] at k
  obtain ⟨c, hc⟩ : ∃ c, c = l.take old.length := ⟨_, rfl⟩
  have hcl : c.length = min l.length old.length := by rw [hc, List.length_take]; omega
  have hHL : HoldL w g cur.toList := ⟨e, hg⟩
  have hcu : old.length ≤ cur.size := by rw [hcs]; omega
  obtain ⟨ji, zv, hu, hinfo, _, hs, hby, hz, hzl, _, hsz, hs0⟩ := hT.sl ht
  have hst := run_storeCells_cells (P := P) g 0 (c.map fun b => Value.int .u8 (b.toNat : Int)) 0 w (fun j hj => by
    rw [List.length_map] at hj
    rw [hHL.cell]
    simp only [Option.isSome_iff_exists]
    exact ⟨_, List.getElem?_eq_getElem (by simp; omega)⟩) (fun j _ => hHL.frozen _) (by simp [Value.oneCell'])
  have hcs2 : ((ByteArray.extract ⟨l.toArray⟩ 0 (Nat.min l.length old.length)).data.map fun b => Value.int .u8 (b.toNat : Int)).toList = c.map fun b => Value.int .u8 (b.toNat : Int) := by
    rw [ba_extract, hc, show l.take old.length = l.take (Nat.min l.length old.length) by rw [List.take_eq_take_iff]; show min old.length l.length = min (min l.length old.length) l.length; omega]
    simp
  have hrun : (Builtin.copy_ #[t, u] ty2 #[.slice (some ⟨g, 0, none⟩) old.length cap, .string ⟨l.toArray⟩]).run P w = .ok (goInt c.length) (w.setCells g 0 (c.map fun b => Value.int .u8 (b.toNat : Int))) := by
    simp [Builtin.copy_, run_underlying hu, Builtin.lenOf, Builtin.firstCells, sizeOf, typeInfo, hinfo, hs, ByteArray.size]
    have e : List.take (Nat.min l.length old.length) (l.map fun b => Value.int .u8 (b.toNat : Int)) = c.map fun b => Value.int .u8 (b.toNat : Int) := by rw [← List.map_take, hc, show l.take old.length = l.take (Nat.min l.length old.length) by rw [List.take_eq_take_iff]; show min old.length l.length = min (min l.length old.length) l.length; omega]
    rw [e, hst, hcl]
    rfl
  have hex : (execOp a.eval ⟨dst, .call { callee := .builtin .copy, args := #[x, y], argTypes := #[t, u] }, ty2, pos, after, none⟩).run P w = .ok (.value (.int .i64 (c.length : Nat))) (w.setCells g 0 (c.map fun b => Value.int .u8 (b.toNat : Int))) := by
    simp [execOp, resolve, invoke, builtin, ha.ev hx, ha.ev hy, hrun, Result.andThen, goInt]
  unfold Oper.wp
  rw [hex]
  simp only [← hc] at k
  have hcel : (bR (c ++ old.drop c.length)).length = old.length := by rw [bR_len, List.length_append, List.length_drop]; omega
  refine k _ _ ⟨rfl, hS.upd hi (grownBy_setCells w g 0 _) ⟨⟨?_, .inr ⟨g, cap, _, by rw [hcel], Nat.zero_le _, setCells_heap hg 0 _, by rw [hcel]; exact hmc, hcm, by simp [setL_len, hcs], ?_⟩⟩, ?_, ?_⟩ (fun q hq => Or.inl hq)⟩
  · rw [bR_flat, List.length_map, hcel, List.length_append, List.length_drop]; omega
  · rw [hcel, Nat.mul_one, List.toList_toArray, setL_pre _ _ (by simp; omega), bR_flat, List.map_append, List.length_map, List.take_append]
    rw [Nat.mul_one, bR_flat] at htake
    have h1 : (c.map fun b => Value.int .u8 (b.toNat : Int)).take old.length = c.map fun b => Value.int .u8 (b.toNat : Int) := List.take_of_length_le (by rw [List.length_map]; omega)
    rw [h1, List.length_map, List.map_drop, ← htake, List.drop_take]
  · intro r hr
    unfold bR at hr
    obtain ⟨b, _, rfl⟩ := List.mem_map.1 hr
    rfl
  · intro r hr
    unfold bR at hr
    obtain ⟨b, _, rfl⟩ := List.mem_map.1 hr
    rfl
end
end Go.Proofs.Ytejnpppejalhfab
/- Sheets of an object while they are made: boxes. -/
namespace Go.Proofs.Ytejnpppejalhfab
open Go.RowKit Go.Sort

section
variable {F : Nat → Prop} {w0 w w' : World} {Γ Δ : List Asr}
/-- what is one's own, the first m in another order, some of them forgotten -/
theorem St.reorderT (m : Nat) (is : List Nat) (h : St F w0 w Γ) (hn : is.Nodup ∧ ∀ i ∈ is, i < m) (hp : pickL Γ is = some Δ) : St F w0 w (appA Δ (Γ.drop m)) := by
  rw [appA_eq]
  have h1 := h.reorder is hn.1 hp
  have h2 := h.sub (List.drop_sublist m Γ)
  refine ⟨h.os, h.tape, h.output, h.size, h.base, fun A hA => ?_, fun A hA => ?_, ?_⟩
  · rcases List.mem_append.1 hA with hA | hA
    · exact h1.holds A hA
    · exact h2.holds A hA
  · rcases List.mem_append.1 hA with hA | hA
    · exact h1.own A hA
    · exact h2.own A hA
  · rw [List.pairwise_append]
    refine ⟨h1.apart, h2.apart, fun a ha b hb => ?_⟩
    obtain ⟨j, hj⟩ := List.mem_iff_getElem?.1 ha
    obtain ⟨k, hk⟩ := List.mem_iff_getElem?.1 hb
    obtain ⟨i, hi, hi2⟩ := pickL_at hp j a hj
    rw [List.getElem?_drop] at hk
    have := hn.2 i (List.mem_of_getElem? hi)
    exact apart_at h.apart hi2 hk (by omega)
end
/-- a sheet in the making: its block, its page, its bytes, its fixes -/
structure Bx where
  g : Nat
  pg : Int
  data : List UInt8
  p : Option Addr
  c : Nat
  fx : List Fx
def Bx.v (b : Bx) : Value := .slice b.p b.fx.length b.c
def bxB (b : Bx) : Asr := .blk b.g [.int .i64 b.pg, .string ⟨b.data.toArray⟩, .slice b.p b.fx.length b.c]
def bxR (b : Bx) : Asr := .row 124 2 (.slice b.p b.fx.length b.c) (b.fx.map fxC)
def bxs (l : List Bx) : List Asr := l.map bxB ++ l.map bxR
def kvB (b : Bx) : Value × Value := (.int .i64 b.pg, .pointer (some ⟨b.g, 0, none⟩))
def keyB (b : Bx) : Int × List UInt8 × List Fx := (b.pg, b.data, b.fx)
theorem bxs_cons (b : Bx) (l : List Bx) : (bxs (b :: l)).Perm (bxB b :: bxR b :: bxs l) := by
  unfold bxs
  simp only [List.map_cons, List.cons_append]
  exact List.Perm.cons _ List.perm_middle
theorem bxs_perm {l m : List Bx} (h : l.Perm m) : (bxs l).Perm (bxs m) := (h.map bxB).append (h.map bxR)
theorem bxs_snoc (b : Bx) (l : List Bx) : (bxB b :: bxR b :: bxs l).Perm (bxs (l ++ [b])) := (bxs_cons b l).symm.trans (bxs_perm (List.perm_append_comm (l₁ := [b]) (l₂ := l)))
theorem perm_erase {α : Type} : ∀ {l : List α} {k : Nat} {b : α}, l[k]? = some b → l.Perm (b :: l.eraseIdx k) := by
  intro l
  induction l with
  | nil => intro k b h; simp at h
  | cons a l ih =>
    intro k b h
    cases k with
    | zero => simp at h; subst h; simp
    | succ k =>
      simp only [List.getElem?_cons_succ] at h
      rw [List.eraseIdx_cons_succ]
      exact ((ih h).cons a).trans (List.Perm.swap b a _)
theorem bxs_pick {l : List Bx} {k : Nat} {b : Bx} (h : l[k]? = some b) : (bxs l).Perm (bxB b :: bxR b :: bxs (l.eraseIdx k)) := (bxs_perm (perm_erase h)).trans (bxs_cons b _)
theorem erase_set {α : Type} : ∀ {l : List α} {k : Nat} {b : α}, (l.set k b).eraseIdx k = l.eraseIdx k := by
  intro l
  induction l with
  | nil => intro k b; simp
  | cons a l ih =>
    intro k b
    cases k with
    | zero => simp
    | succ k => simp only [List.set_cons_succ, List.eraseIdx_cons_succ, ih]
theorem bxs_put {l : List Bx} {k : Nat} {b0 b : Bx} (h : l[k]? = some b0) : (bxB b :: bxR b :: bxs (l.eraseIdx k)).Perm (bxs (l.set k b)) := by
  have h1 := bxs_pick (l := l.set k b) (k := k) (b := b) (by rw [List.getElem?_set]; simp [(List.getElem?_eq_some_iff.1 h).1])
  rw [erase_set] at h1
  exact h1.symm
/-! pages of an object -/
def dataAt (d : List UInt8) (n : Nat) : List UInt8 := (d.drop (n * 16)).take 16 ++ List.replicate (16 - ((d.drop (n * 16)).take 16).length) 0
theorem dataAt_len (d : List UInt8) (n : Nat) : (dataAt d n).length = 16 := by
  unfold dataAt
  simp only [List.length_append, List.length_replicate, List.length_take]
  omega
def pgK (b0 : Int) (s : Sg) (n : Nat) : Int × List UInt8 × List Fx := (b0 + s.pg + n, dataAt s.data n, [])
def pgsS (b0 : Int) (s : Sg) (m : Nat) : List (Int × List UInt8 × List Fx) := (List.range m).map (pgK b0 s)
def pgsO (b0 : Int) (l : List Sg) : List (Int × List UInt8 × List Fx) := l.flatMap fun s => pgsS b0 s s.n.toNat
theorem pgsS_succ (b0 : Int) (s : Sg) (m : Nat) : pgsS b0 s (m + 1) = pgsS b0 s m ++ [pgK b0 s m] := by
  unfold pgsS
  rw [List.range_succ, List.map_append]
  rfl
theorem pgsO_step {b0 : Int} {l : List Sg} {j : Nat} {s : Sg} (h : l[j]? = some s) : pgsO b0 (l.take (j + 1)) = pgsO b0 (l.take j) ++ pgsS b0 s s.n.toNat := by
  unfold pgsO
  rw [List.take_add_one, h]
  simp
theorem ut_int : (Try.prog).underlying 3 = some (.int .i64) := by kernel_rfl
theorem mt_sheets : (Try.prog).underlying 189 = some (.map 3 194) := by kernel_rfl
end Go.Proofs.Ytejnpppejalhfab
/- What a relocation lays into a page. -/
namespace Go.Proofs.Ytejnpppejalhfab
open Go.RowKit Go.Sort

/-- of bytes s at an address, the part in a page -/
def fxOf (at_ : Int) (s : List UInt8) (pg : Int) : List Fx :=
  let fr := at_ - 16 * pg
  let a := max fr 0
  let e := min (fr + s.length) 16
  if a < e then [⟨a, (s.drop (a - fr).toNat).take (e - a).toNat⟩] else []
theorem take_drop_take {α : Type} (s : List α) (d i m : Nat) (h : i + m ≤ d) : ((s.take d).drop i).take m = (s.drop i).take m := by
  rw [List.drop_take, List.take_take, Nat.min_eq_left (by omega)]
theorem fxOf_step {at_ : Int} {s : List UInt8} {d n : Nat} {off : Int} (h0 : 0 ≤ at_) (hd : d < s.length) (hoff : off = (at_ + d) % 16) (hal : d = 0 ∨ off = 0) (hn : (n : Int) = min ((s.length : Int) - d) (16 - off)) (pg : Int) :
    fxOf at_ (s.take (d + n)) pg = fxOf at_ (s.take d) pg ++ (if pg = (at_ + d) / 16 then [⟨off, (s.drop d).take n⟩] else []) := by
  have hl1 : (s.take (d + n)).length = d + n := by rw [List.length_take]; omega
  have hl2 : (s.take d).length = d := by rw [List.length_take]; omega
  unfold fxOf
  dsimp only []
  rw [hl1, hl2]
  by_cases hp : pg = (at_ + d) / 16
  · rw [if_pos hp]
    have h1 : ¬ max (at_ - 16 * pg) 0 < min (at_ - 16 * pg + (d : Nat)) 16 := by omega
    have h2 : max (at_ - 16 * pg) 0 < min (at_ - 16 * pg + ((d + n : Nat) : Int)) 16 := by omega
    rw [if_neg h1, if_pos h2, List.nil_append]
    have h3 : max (at_ - 16 * pg) 0 = off := by omega
    have h4 : min (at_ - 16 * pg + ((d + n : Nat) : Int)) 16 = off + n := by omega
    rw [h3, h4, show (off - (at_ - 16 * pg)).toNat = d by omega, show (off + n - off).toNat = n by omega, take_drop_take _ _ _ _ (by omega)]
  · rw [if_neg hp, List.append_nil]
    by_cases hlt : pg < (at_ + d) / 16
    · have h3 : min (at_ - 16 * pg + ((d + n : Nat) : Int)) 16 = 16 := by omega
      have h4 : min (at_ - 16 * pg + (d : Int)) 16 = 16 := by omega
      rw [h3, h4]
      by_cases ha : max (at_ - 16 * pg) 0 < 16
      · rw [if_pos ha, if_pos ha, take_drop_take _ _ _ _ (by omega), take_drop_take _ _ _ _ (by omega)]
      · rw [if_neg ha, if_neg ha]
    · rw [if_neg (by omega), if_neg (by omega)]
theorem fxOf_nil (at_ pg : Int) : fxOf at_ [] pg = [] := by
  unfold fxOf
  rw [if_neg (by simp only [List.length_nil]; omega)]
end Go.Proofs.Ytejnpppejalhfab
/- What the linker lays down, in plain Lean. -/
namespace Go.Proofs.Ytejnpppejalhfab
open Go.RowKit Go.Sort

def bytesOf (os : List (Im × Int)) (at_ : Int) (r : Rl) : Option (List UInt8) := (if r.name = [] then some at_ else adr os r.name).map fun t => leB (IntKind.i64.wrap (t + r.add)) 8
def bytesT (os : List (Im × Int)) (at_ : Int) (r : Rl) : List UInt8 := (bytesOf os at_ r).getD []
def symsIn (os : List (Im × Int)) (at_ : Int) (l : List Rl) : Bool := l.all fun r => (bytesOf os at_ r).isSome
def fxAll (os : List (Im × Int)) (at_ : Int) (l : List Rl) (pg : Int) : List Fx := l.flatMap fun r => fxOf (at_ + r.at_) (bytesT os at_ r) pg
def shOf (os : List (Im × Int)) (at_ : Int) (l : List Rl) (k : Int × List UInt8 × List Fx) : Sh := ⟨k.1, k.2.1, fxAll os at_ l k.1⟩
/-- the sheets of an object -/
def shO (os : List (Im × Int)) (I : Im) (b0 : Int) : List Sh := (pgsO b0 I.segs).map (shOf os (b0 * 16) I.rels)
def rawA (b0 : Int) (s : Sg) : Ar := ⟨b0 + s.pg, s.n, rgt s, false⟩
def arsO (A : List Ar) (b0 : Int) (l : List Sg) : List Ar := (l.map (rawA b0)).foldl joinStep A
theorem fxOf_len (at_ : Int) (s : List UInt8) (pg : Int) : (fxOf at_ s pg).length ≤ 1 := by
  unfold fxOf
  dsimp only []
  split <;> simp
theorem fxAll_len (os : List (Im × Int)) (at_ : Int) (l : List Rl) (pg : Int) : (fxAll os at_ l pg).length ≤ l.length := by
  unfold fxAll
  induction l with
  | nil => simp
  | cons r l ih =>
    have := fxOf_len (at_ + r.at_) (bytesT os at_ r) pg
    simp only [List.flatMap_cons, List.length_append, List.length_cons]
    omega
theorem fxAll_step {os : List (Im × Int)} {at_ : Int} {l : List Rl} {j : Nat} {r : Rl} (h : l[j]? = some r) (pg : Int) : fxAll os at_ (l.take (j + 1)) pg = fxAll os at_ (l.take j) pg ++ fxOf (at_ + r.at_) (bytesT os at_ r) pg := by
  unfold fxAll
  rw [List.take_add_one, h]
  simp
theorem arsO_step {A : List Ar} {b0 : Int} {l : List Sg} {j : Nat} {s : Sg} (h : l[j]? = some s) : arsO A b0 (l.take (j + 1)) = joinStep (arsO A b0 (l.take j)) (rawA b0 s) := by
  unfold arsO
  rw [List.take_add_one, h]
  simp
theorem pgsS_mem {b0 : Int} {s : Sg} {m : Nat} {k : Int × List UInt8 × List Fx} (h : k ∈ pgsS b0 s m) : ∃ n : Nat, n < m ∧ k = pgK b0 s n := by
  unfold pgsS at h
  obtain ⟨n, hn, rfl⟩ := List.mem_map.1 h
  exact ⟨n, List.mem_range.1 hn, rfl⟩
theorem pgs_rise (b0 : Int) : ∀ {l : List Sg}, Ch l → l.all sgOk = true → (∀ k ∈ pgsO b0 l, ∀ s, l[0]? = some s → b0 + s.pg ≤ k.1) ∧ (pgsO b0 l).Pairwise fun a b => a.1 < b.1
  | [], _, _ => ⟨by simp, by simp [pgsO]⟩
  | s :: l, hch, hs => by
    have hch' : Ch l := fun j a b h1 h2 => hch (j + 1) a b (by simpa using h1) (by simpa using h2)
    simp only [List.all_cons, Bool.and_eq_true] at hs
    obtain ⟨i1, i2⟩ := pgs_rise b0 hch' hs.2
    have e : pgsO b0 (s :: l) = pgsS b0 s s.n.toNat ++ pgsO b0 l := by unfold pgsO; simp
    have hso := hs.1
    unfold sgOk at hso
    have hso := of_decide_eq_true hso
    have later : ∀ k ∈ pgsO b0 l, b0 + s.pg + s.n ≤ k.1 := fun k hk => by
      cases l with
      | nil => simp [pgsO] at hk
      | cons t l =>
        have h1 := i1 k hk t rfl
        have h2 := hch 0 s t rfl rfl
        omega
    rw [e]
    refine ⟨fun k hk s' hs' => ?_, ?_⟩
    · simp only [List.getElem?_cons_zero, Option.some.injEq] at hs'
      subst hs'
      rcases List.mem_append.1 hk with h | h
      · obtain ⟨n, -, rfl⟩ := pgsS_mem h
        show _ ≤ b0 + s.pg + (n : Int)
        omega
      · have := later k h
        omega
    · rw [List.pairwise_append]
      refine ⟨?_, i2, fun a ha b hb => ?_⟩
      · unfold pgsS
        rw [List.pairwise_map]
        refine List.pairwise_lt_range.imp ?_
        intro a b hab
        show b0 + s.pg + (a : Int) < b0 + s.pg + (b : Int)
        omega
      · obtain ⟨n, hn, rfl⟩ := pgsS_mem ha
        have := later b hb
        show b0 + s.pg + (n : Int) < b.1
        omega
theorem pgs_nodup {b0 : Int} {l : List Sg} (hch : Ch l) (hs : l.all sgOk = true) : ((pgsO b0 l).map (·.1)).Nodup := by
  have := (pgs_rise b0 hch hs).2
  unfold List.Nodup
  rw [List.pairwise_map]
  exact this.imp fun h => by omega
theorem pgsS_len (b0 : Int) (s : Sg) (m : Nat) : (pgsS b0 s m).length = m := by unfold pgsS; simp
theorem pgsO_at {b0 : Int} {l : List Sg} {j n : Nat} {s : Sg} (h : l[j]? = some s) (hn : n < s.n.toNat) : (pgsO b0 l)[(pgsO b0 (l.take j)).length + n]? = some (pgK b0 s n) := by
  have e : pgsO b0 l = pgsO b0 (l.take j) ++ (pgsS b0 s s.n.toNat ++ pgsO b0 (l.drop (j + 1))) := by
    conv => lhs; rw [← List.take_append_drop j l, drop_at h]
    unfold pgsO
    simp
  rw [e, List.getElem?_append_right (by omega), Nat.add_sub_cancel_left, List.getElem?_append_left (by rw [pgsS_len]; exact hn)]
  unfold pgsS
  rw [List.getElem?_map, List.getElem?_range hn]
  rfl
theorem pgs_len_le {b0 : Int} {l : List Sg} (hs : l.all sgOk = true) : (pgsO b0 l).length ≤ 255 * l.length := by
  induction l with
  | nil => simp [pgsO]
  | cons s l ih =>
    simp only [List.all_cons, Bool.and_eq_true] at hs
    have hso := hs.1
    unfold sgOk at hso
    have hso := of_decide_eq_true hso
    have e : pgsO b0 (s :: l) = pgsS b0 s s.n.toNat ++ pgsO b0 l := by unfold pgsO; simp
    have := ih hs.2
    rw [e, List.length_append, pgsS_len, List.length_cons]
    omega
theorem pgs_there {b0 : Int} {l : List Sg} {x : Int} (h : (own l x).isSome = true) : ∃ k ∈ pgsO b0 l, k.1 = (b0 * 16 + x) / 16 := by
  obtain ⟨s, hs⟩ := Option.isSome_iff_exists.1 h
  unfold own at hs
  have hm := List.mem_of_find?_eq_some hs
  have hin := List.find?_some hs
  unfold inSg at hin
  have hin := of_decide_eq_true hin
  refine ⟨pgK b0 s (x / 16 - s.pg).toNat, ?_, ?_⟩
  · unfold pgsO pgsS
    refine List.mem_flatMap.2 ⟨s, hm, List.mem_map.2 ⟨_, List.mem_range.2 ?_, rfl⟩⟩
    omega
  · show b0 + s.pg + ((x / 16 - s.pg).toNat : Int) = _
    omega
/-- areas as the linker makes them -/
def AOk (A : List Ar) : Prop := ∀ a ∈ A, a.z = false ∧ 0 ≤ a.pg ∧ 0 ≤ a.n ∧ a.pg + a.n ≤ 200000 ∧ 0 ≤ a.prot ∧ a.prot ≤ 3
theorem AOk.step {A : List Ar} {a : Ar} (h : AOk A) (ha : a.z = false ∧ 0 ≤ a.pg ∧ 0 ≤ a.n ∧ a.pg + a.n ≤ 200000 ∧ 0 ≤ a.prot ∧ a.prot ≤ 3) : AOk (joinStep A a) := by
  unfold joinStep
  split
  · rename_i b hb
    have hbm := h b (List.mem_of_getLast? hb)
    split
    · rename_i hal
      unfold Ar.alike at hal
      intro x hx
      rcases List.mem_append.1 hx with h1 | h1
      · exact h x ((List.dropLast_sublist A).subset h1)
      · obtain rfl : x = { b with n := b.n + a.n } := by simpa using h1
        have e1 : b.fin = a.pg := hal.1
        unfold Ar.fin at e1
        obtain ⟨q1, q2, q3, q4, q5, q6⟩ := hbm
        obtain ⟨p1, p2, p3, p4, p5, p6⟩ := ha
        refine ⟨q1, q2, ?_, ?_, q5, q6⟩
        · show 0 ≤ b.n + a.n
          omega
        · show b.pg + (b.n + a.n) ≤ 200000
          omega
    · intro x hx
      rcases List.mem_append.1 hx with h1 | h1
      · exact h x h1
      · obtain rfl : x = a := by simpa using h1
        exact ha
  · intro x hx
    rcases List.mem_append.1 hx with h1 | h1
    · exact h x h1
    · obtain rfl : x = a := by simpa using h1
      exact ha
end Go.Proofs.Ytejnpppejalhfab
