/- The contract of the reference's SameAreas. -/
import Derived.Test.YtejnpppejalhfaaAr9
import Derived.Laws.Cover2
namespace Go.Proofs.Ytejnpppejalhfaa
open Go.RowKit Go.Sort

theorem same_index {A B : List Ar} (hl : A.length = B.length) (h : ∀ (i : Nat) (a b : Ar), A[i]? = some a → B[i]? = some b → a = b) : A = B := by
  apply List.ext_getElem hl
  intro i h1 h2
  exact h i _ _ (by simp [h1]) (by simp [h2])
theorem same_not {A B : List Ar} {i : Nat} {a b : Ar} (ha : A[i]? = some a) (hb : B[i]? = some b) (h : a ≠ b) : A ≠ B := fun e => by
  subst e; rw [ha] at hb; cases hb; exact h rfl
theorem len_not {A B : List Ar} (h : A.length ≠ B.length) : A ≠ B := fun e => h (by rw [e])

theorem ms5 {i n : Nat} (h : i < n) : n - ((i : Int) + 1).toNat < n - ((i : Int)).toNat := by omega
theorem wrap_succ' (h n : Nat) (h1 : h < n) (h2 : n ≤ 9223372036854775807) : wrap64 ((h : Int) + 1) = (h : Int) + 1 := by unfold wrap64; omega
set_option maxRecDepth 100000 in
set_option maxHeartbeats 4000000 in
theorem same_some {A B : List Ar} {w : World} (b1 off1 cap1 b2 off2 cap2 : Nat) (hb1 : b1 < w.heap.size) (hb2 : b2 < w.heap.size) (hc1 : ∀ i a, A[i]? = some a → CellsAr w b1 (off1 + i * 4) a) (hc2 : ∀ i a, B[i]? = some a → CellsAr w b2 (off2 + i * 4) a) (hl : A.length = B.length) (hmax : A.length ≤ 9223372036854775807) :
    Calls Try.prog 47 #[.slice (some ⟨b1, off1, none⟩) A.length cap1, .slice (some ⟨b2, off2, none⟩) B.length cap2] w (RB (.bool (decide (A = B))) w) := by
  have HA := hid hc1
  have HB := hid hc2
  have HL := hid hl
  have HM := hid hmax
  rw [← hl]
  clear hc1 hc2 hl hmax
  go_enter Try.func47, Try.ntmps47
  go_wp2
  go_loopw [5] (fun vi wr => ∃ i : Nat, i ≤ A.length ∧ vi = .int .i64 i ∧ Below w.heap.size w wr ∧ Hid (∀ (j : Nat) (a b : Ar), j < i → A[j]? = some a → B[j]? = some b → a = b)) (fun vi _ => A.length - (intOf vi).toNat)
  case atStart => exact ⟨0, by omega, rfl, Below.refl _ _, fun j a b hj => by omega⟩
  case round =>
    obtain ⟨i, hi, rfl, hb, HO⟩ := hrel
    by_cases hlt : i < A.length
    · obtain ⟨a, ha⟩ : ∃ a, A[i]? = some a := ⟨A[i], by simp [hlt]⟩
      obtain ⟨b, hbb⟩ : ∃ b, B[i]? = some b := ⟨B[i]'(by have := HL.out; omega), by simp⟩
      obtain ⟨c0, c1, c2, c3⟩ := (HA.out i a ha).grown hb hb1
      obtain ⟨d0, d1, d2, d3⟩ := (HB.out i b hbb).grown hb hb2
      have z1 := ltAll (Nat.lt_of_lt_of_le hb1 hb.size)
      have z2 := ltAll (Nat.lt_of_lt_of_le hb2 hb.size)
      by_cases e : a = b
      · have HX := hid e
        subst e
        have hli : (i : Int) < A.length := Int.ofNat_lt.2 hlt
        have hws := wrap_succ' i A.length hlt HM.out
        have HMS := hid (ms5 hlt)
        go_wp2
        refine wp_region_quiet_below (by kernel_rfl) (by kernel_rfl) ?_
        repeat (first | go_big_quiet_step ((fail)) | quiet_step ((fail)))
        refine wpQuiet_nil ?_
        intro wq hw'
        obtain ⟨⟨dq, osq⟩, hw''⟩ := hw'
        have hbr := of_regrown hw''
        clear hw''
        first
          | (have hbn := bt hbq hbr; clear hcq hfq hzq hbq hbr; have hbq := hbn; clear hbn)
          | (have hbq := hbr; clear hbr)
        obtain ⟨hcq, hfq, hzq⟩ := bcell3 hbq
        go_wp2
        go_roundw
        case rel =>
          refine ⟨i + 1, hlt, by first | rfl | (rw [hws]; rfl), bt hb hbq, fun j x y hj hx hy => ?_⟩
          rcases Nat.lt_succ_iff_lt_or_eq.1 hj with h | h
          · exact HO.out j x y h hx hy
          · subst h; rw [ha] at hx; rw [hbb] at hy; cases hx; cases hy; rfl
        case measure => first | exact HMS.out | (rw [hws]; exact HMS.out)
      · have HX := hid (same_not ha hbb e)
        by_cases e1 : a.pg = b.pg
        · by_cases e2 : a.n = b.n
          · by_cases e3 : a.prot = b.prot
            · have e4 : ¬ a.z = b.z := fun h => e (by cases a; cases b; simp_all)
              have f1 : (a.pg == b.pg) = true := by simpa using e1
              have f2 : (a.n == b.n) = true := by simpa using e2
              have f3 : (a.prot == b.prot) = true := by simpa using e3
              have f4 : (a.z == b.z) = false := by simpa using e4
              clear e e1 e2 e3 e4
              go_wp2
              refine wp_region_quiet_below (by kernel_rfl) (by kernel_rfl) ?_
              repeat (first | go_big_quiet_step ((fail)) | quiet_step ((fail)))
              refine wpQuiet_nil ?_
              intro wq hw'
              obtain ⟨⟨dq, osq⟩, hw''⟩ := hw'
              have hbr := of_regrown hw''
              clear hw''
              first
                | (have hbn := bt hbq hbr; clear hcq hfq hzq hbq hbr; have hbq := hbn; clear hbn)
                | (have hbq := hbr; clear hbr)
              obtain ⟨hcq, hfq, hzq⟩ := bcell3 hbq
              go_wp2
              go_ret
              exact ⟨ret_bool (decide_eq_false HX.out).symm, bt hb hbq⟩
            · have f1 : (a.pg == b.pg) = true := by simpa using e1
              have f2 : (a.n == b.n) = true := by simpa using e2
              have f3 : (a.prot == b.prot) = false := by simpa using e3
              clear e e1 e2 e3
              go_wp2
              refine wp_region_quiet_below (by kernel_rfl) (by kernel_rfl) ?_
              repeat (first | go_big_quiet_step ((fail)) | quiet_step ((fail)))
              refine wpQuiet_nil ?_
              intro wq hw'
              obtain ⟨⟨dq, osq⟩, hw''⟩ := hw'
              have hbr := of_regrown hw''
              clear hw''
              first
                | (have hbn := bt hbq hbr; clear hcq hfq hzq hbq hbr; have hbq := hbn; clear hbn)
                | (have hbq := hbr; clear hbr)
              obtain ⟨hcq, hfq, hzq⟩ := bcell3 hbq
              go_wp2
              go_ret
              exact ⟨ret_bool (decide_eq_false HX.out).symm, bt hb hbq⟩
          · have f1 : (a.pg == b.pg) = true := by simpa using e1
            have f2 : (a.n == b.n) = false := by simpa using e2
            clear e e1 e2
            go_wp2
            refine wp_region_quiet_below (by kernel_rfl) (by kernel_rfl) ?_
            repeat (first | go_big_quiet_step ((fail)) | quiet_step ((fail)))
            refine wpQuiet_nil ?_
            intro wq hw'
            obtain ⟨⟨dq, osq⟩, hw''⟩ := hw'
            have hbr := of_regrown hw''
            clear hw''
            first
              | (have hbn := bt hbq hbr; clear hcq hfq hzq hbq hbr; have hbq := hbn; clear hbn)
              | (have hbq := hbr; clear hbr)
            obtain ⟨hcq, hfq, hzq⟩ := bcell3 hbq
            go_wp2
            go_ret
            exact ⟨ret_bool (decide_eq_false HX.out).symm, bt hb hbq⟩
        · have f1 : (a.pg == b.pg) = false := by simpa using e1
          clear e e1
          go_wp2
          refine wp_region_quiet_below (by kernel_rfl) (by kernel_rfl) ?_
          repeat (first | go_big_quiet_step ((fail)) | quiet_step ((fail)))
          refine wpQuiet_nil ?_
          intro wq hw'
          obtain ⟨⟨dq, osq⟩, hw''⟩ := hw'
          have hbr := of_regrown hw''
          clear hw''
          first
            | (have hbn := bt hbq hbr; clear hcq hfq hzq hbq hbr; have hbq := hbn; clear hbn)
            | (have hbq := hbr; clear hbr)
          obtain ⟨hcq, hfq, hzq⟩ := bcell3 hbq
          go_wp2
          go_ret
          exact ⟨ret_bool (decide_eq_false HX.out).symm, bt hb hbq⟩
    · go_wp2
      go_ret
      obtain rfl : i = A.length := by omega
      exact ⟨ret_bool (decide_eq_true (same_index HL.out fun j x y hx hy => HO.out j x y (List.getElem?_eq_some_iff.1 hx).1 hx hy)).symm, hb⟩
end Go.Proofs.Ytejnpppejalhfaa
