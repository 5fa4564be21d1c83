/- The contract of the reference's IsBad. -/
import Derived.Test.YtejnpppejalhfaaCpu7
namespace Go.Proofs.Ytejnpppejalhfaa
open Go.RowKit Go.Sort

set_option maxRecDepth 100000 in
set_option maxHeartbeats 4000000 in
theorem isBad_any (op a b c imm : Int) (w : World) (res : Bool) (h : res = true ↔ badI op a b c imm) :
    Calls Try.prog 31 #[insV op a b c imm] w (RB (.bool res) w) := by
  unfold insV
  unfold badI useA useB useC at h
  have H := hid h; clear h
  by_cases hr : op < 1 ∨ 16 < op
  · have HW := hid (fun w => within_no op 1 16 w hr)
    have HI : Hid True := hid trivial
    have HU : Hid True := hid trivial
    have HO := hid hr; clear hr
    go_enter Try.func31, Try.ntmps31
    go_wp2_with (first | (go_at_call 57; (with_reducible refine (HW.out _).mono ?_); rintro e w1 ⟨rfl, rfl⟩) | (go_at_call 57; (with_reducible refine (HI.out _).mono ?_); rintro e w1 ⟨rfl, rfl⟩) | ((go_at_call 61; (with_reducible refine (HU.out _).mono ?_); rintro e w2 ⟨rfl, hb2⟩); obtain ⟨hc2, hf2⟩ := bcell hb2; have hz2 : w.heap.size < w2.heap.size := by (have := hb2.size; simp at this; omega)))
    all_goals
      have h := H.out
      have hop := HO.out
      go_ret
      refine ⟨ret_bool ?_, (by repeat (first | (with_reducible exact Below.refl _ _) | (with_reducible assumption) | (with_reducible refine Below.alloc ?_ (by first | omega | (simp; done) | (simp; omega)) _) | (with_reducible refine Below.setCell ?_ (by first | omega | (simp; done) | (simp; omega)) _) | (with_reducible refine Below.drew ?_) | (with_reducible refine bt ?_ (below_regrown _ _ _)) | (refine bt ?_ (by with_reducible assumption))))⟩
      rw [Bool.eq_iff_iff, h]
      clear h H HO HW HI HU
      simp only [beq_iff_eq, beq_eq_false_iff_ne, bne_iff_ne, bne_eq_false_iff_eq, ne_eq, decide_eq_true_eq, decide_eq_false_iff_not] at *
      first
        | omega
        | (simp; omega)
  have HW := hid (fun w => within_yes op 1 16 w (by omega))
  rcases show (op = 1 ∨ op = 11 ∨ op = 15) ∨ (2 ≤ op ∧ op ≤ 7) ∨ (op = 8 ∨ op = 9 ∨ op = 10 ∨ op = 13 ∨ op = 14) ∨ op = 12 ∨ op = 16 by omega with h | h | h | h | h
  · have HU := hid (uses_a op h)
    have n16 : (op == 16) = false := by rw [beq_eq_false_iff_ne]; omega
    have n9 : (op == 9) = false := by rw [beq_eq_false_iff_ne]; omega
    have n10 : (op == 10) = false := by rw [beq_eq_false_iff_ne]; omega
    have HI : Hid True := hid trivial
    unfold Shape at HU
    have HO := hid h; clear h
    go_enter Try.func31, Try.ntmps31
    go_wp2_with (first | (go_at_call 57; (with_reducible refine (HW.out _).mono ?_); rintro e w1 ⟨rfl, rfl⟩) | (go_at_call 57; (with_reducible refine (HI.out _).mono ?_); rintro e w1 ⟨rfl, rfl⟩) | ((go_at_call 61; (with_reducible refine (HU.out _).mono ?_); rintro e w2 ⟨rfl, hb2⟩); obtain ⟨hc2, hf2⟩ := bcell hb2; have hz2 : w.heap.size < w2.heap.size := by (have := hb2.size; simp at this; omega)))
    all_goals
      have h := H.out
      have hop := HO.out
      go_ret
      refine ⟨ret_bool ?_, (by repeat (first | (with_reducible exact Below.refl _ _) | (with_reducible assumption) | (with_reducible refine Below.alloc ?_ (by first | omega | (simp; done) | (simp; omega)) _) | (with_reducible refine Below.setCell ?_ (by first | omega | (simp; done) | (simp; omega)) _) | (with_reducible refine Below.drew ?_) | (with_reducible refine bt ?_ (below_regrown _ _ _)) | (refine bt ?_ (by with_reducible assumption))))⟩
      rw [Bool.eq_iff_iff, h]
      clear h H HO HW HI HU
      simp only [beq_iff_eq, beq_eq_false_iff_ne, bne_iff_ne, bne_eq_false_iff_eq, ne_eq, decide_eq_true_eq, decide_eq_false_iff_not] at *
      first
        | omega
        | (simp; omega)
  · have HU := hid (uses_b op h)
    have n16 : (op == 16) = false := by rw [beq_eq_false_iff_ne]; omega
    have n9 : (op == 9) = false := by rw [beq_eq_false_iff_ne]; omega
    have n10 : (op == 10) = false := by rw [beq_eq_false_iff_ne]; omega
    have HI : Hid True := hid trivial
    unfold Shape at HU
    have HO := hid h; clear h
    go_enter Try.func31, Try.ntmps31
    go_wp2_with (first | (go_at_call 57; (with_reducible refine (HW.out _).mono ?_); rintro e w1 ⟨rfl, rfl⟩) | (go_at_call 57; (with_reducible refine (HI.out _).mono ?_); rintro e w1 ⟨rfl, rfl⟩) | ((go_at_call 61; (with_reducible refine (HU.out _).mono ?_); rintro e w2 ⟨rfl, hb2⟩); obtain ⟨hc2, hf2⟩ := bcell hb2; have hz2 : w.heap.size < w2.heap.size := by (have := hb2.size; simp at this; omega)))
    all_goals
      have h := H.out
      have hop := HO.out
      go_ret
      refine ⟨ret_bool ?_, (by repeat (first | (with_reducible exact Below.refl _ _) | (with_reducible assumption) | (with_reducible refine Below.alloc ?_ (by first | omega | (simp; done) | (simp; omega)) _) | (with_reducible refine Below.setCell ?_ (by first | omega | (simp; done) | (simp; omega)) _) | (with_reducible refine Below.drew ?_) | (with_reducible refine bt ?_ (below_regrown _ _ _)) | (refine bt ?_ (by with_reducible assumption))))⟩
      rw [Bool.eq_iff_iff, h]
      clear h H HO HW HI HU
      simp only [beq_iff_eq, beq_eq_false_iff_ne, bne_iff_ne, bne_eq_false_iff_eq, ne_eq, decide_eq_true_eq, decide_eq_false_iff_not] at *
      first
        | omega
        | (simp; omega)
  · have HU := hid (uses_c op h)
    have n16 : (op == 16) = false := by rw [beq_eq_false_iff_ne]; omega
    have HI : Hid True := hid trivial
    unfold Shape at HU
    have HO := hid h; clear h
    go_enter Try.func31, Try.ntmps31
    go_wp2_with (first | (go_at_call 57; (with_reducible refine (HW.out _).mono ?_); rintro e w1 ⟨rfl, rfl⟩) | (go_at_call 57; (with_reducible refine (HI.out _).mono ?_); rintro e w1 ⟨rfl, rfl⟩) | ((go_at_call 61; (with_reducible refine (HU.out _).mono ?_); rintro e w2 ⟨rfl, hb2⟩); obtain ⟨hc2, hf2⟩ := bcell hb2; have hz2 : w.heap.size < w2.heap.size := by (have := hb2.size; simp at this; omega)))
    all_goals
      have h := H.out
      have hop := HO.out
      go_ret
      refine ⟨ret_bool ?_, (by repeat (first | (with_reducible exact Below.refl _ _) | (with_reducible assumption) | (with_reducible refine Below.alloc ?_ (by first | omega | (simp; done) | (simp; omega)) _) | (with_reducible refine Below.setCell ?_ (by first | omega | (simp; done) | (simp; omega)) _) | (with_reducible refine Below.drew ?_) | (with_reducible refine bt ?_ (below_regrown _ _ _)) | (refine bt ?_ (by with_reducible assumption))))⟩
      rw [Bool.eq_iff_iff, h]
      clear h H HO HW HI HU
      simp only [beq_iff_eq, beq_eq_false_iff_ne, bne_iff_ne, bne_eq_false_iff_eq, ne_eq, decide_eq_true_eq, decide_eq_false_iff_not] at *
      first
        | omega
        | (simp; omega)
  · have HU := hid (uses_d op (Or.inl h))
    have n16 : (op == 16) = false := by rw [beq_eq_false_iff_ne]; omega
    have n9 : (op == 9) = false := by rw [beq_eq_false_iff_ne]; omega
    have n10 : (op == 10) = false := by rw [beq_eq_false_iff_ne]; omega
    have HI : Hid True := hid trivial
    unfold Shape at HU
    have HO := hid h; clear h
    go_enter Try.func31, Try.ntmps31
    go_wp2_with (first | (go_at_call 57; (with_reducible refine (HW.out _).mono ?_); rintro e w1 ⟨rfl, rfl⟩) | (go_at_call 57; (with_reducible refine (HI.out _).mono ?_); rintro e w1 ⟨rfl, rfl⟩) | ((go_at_call 61; (with_reducible refine (HU.out _).mono ?_); rintro e w2 ⟨rfl, hb2⟩); obtain ⟨hc2, hf2⟩ := bcell hb2; have hz2 : w.heap.size < w2.heap.size := by (have := hb2.size; simp at this; omega)))
    all_goals
      have h := H.out
      have hop := HO.out
      go_ret
      refine ⟨ret_bool ?_, (by repeat (first | (with_reducible exact Below.refl _ _) | (with_reducible assumption) | (with_reducible refine Below.alloc ?_ (by first | omega | (simp; done) | (simp; omega)) _) | (with_reducible refine Below.setCell ?_ (by first | omega | (simp; done) | (simp; omega)) _) | (with_reducible refine Below.drew ?_) | (with_reducible refine bt ?_ (below_regrown _ _ _)) | (refine bt ?_ (by with_reducible assumption))))⟩
      rw [Bool.eq_iff_iff, h]
      clear h H HO HW HI HU
      simp only [beq_iff_eq, beq_eq_false_iff_ne, bne_iff_ne, bne_eq_false_iff_eq, ne_eq, decide_eq_true_eq, decide_eq_false_iff_not] at *
      first
        | omega
        | (simp; omega)
  · have HU := hid (uses_d op (Or.inr h))
    have n16 : (op == 16) = true := by rw [beq_iff_eq]; exact h
    have n9 : (op == 9) = false := by rw [beq_eq_false_iff_ne]; omega
    have n10 : (op == 10) = false := by rw [beq_eq_false_iff_ne]; omega
    unfold Shape at HU
    have HO := hid h; clear h
    by_cases hi : imm < 1 ∨ 6 < imm
    · have HI := hid (fun w => within_no imm 1 6 w hi)
      go_enter Try.func31, Try.ntmps31
      go_wp2_with (first | (go_at_call 57; (with_reducible refine (HW.out _).mono ?_); rintro e w1 ⟨rfl, rfl⟩) | (go_at_call 57; (with_reducible refine (HI.out _).mono ?_); rintro e w1 ⟨rfl, rfl⟩) | ((go_at_call 61; (with_reducible refine (HU.out _).mono ?_); rintro e w2 ⟨rfl, hb2⟩); obtain ⟨hc2, hf2⟩ := bcell hb2; have hz2 : w.heap.size < w2.heap.size := by (have := hb2.size; simp at this; omega)))
      all_goals
        have h := H.out
        have hop := HO.out
        go_ret
        refine ⟨ret_bool ?_, (by repeat (first | (with_reducible exact Below.refl _ _) | (with_reducible assumption) | (with_reducible refine Below.alloc ?_ (by first | omega | (simp; done) | (simp; omega)) _) | (with_reducible refine Below.setCell ?_ (by first | omega | (simp; done) | (simp; omega)) _) | (with_reducible refine Below.drew ?_) | (with_reducible refine bt ?_ (below_regrown _ _ _)) | (refine bt ?_ (by with_reducible assumption))))⟩
        rw [Bool.eq_iff_iff, h]
        clear h H HO HW HI HU
        simp only [beq_iff_eq, beq_eq_false_iff_ne, bne_iff_ne, bne_eq_false_iff_eq, ne_eq, decide_eq_true_eq, decide_eq_false_iff_not] at *
        first
          | omega
          | (simp; omega)
    · have HI := hid (fun w => within_yes imm 1 6 w (by omega))
      go_enter Try.func31, Try.ntmps31
      go_wp2_with (first | (go_at_call 57; (with_reducible refine (HW.out _).mono ?_); rintro e w1 ⟨rfl, rfl⟩) | (go_at_call 57; (with_reducible refine (HI.out _).mono ?_); rintro e w1 ⟨rfl, rfl⟩) | ((go_at_call 61; (with_reducible refine (HU.out _).mono ?_); rintro e w2 ⟨rfl, hb2⟩); obtain ⟨hc2, hf2⟩ := bcell hb2; have hz2 : w.heap.size < w2.heap.size := by (have := hb2.size; simp at this; omega)))
      all_goals
        have h := H.out
        have hop := HO.out
        go_ret
        refine ⟨ret_bool ?_, (by repeat (first | (with_reducible exact Below.refl _ _) | (with_reducible assumption) | (with_reducible refine Below.alloc ?_ (by first | omega | (simp; done) | (simp; omega)) _) | (with_reducible refine Below.setCell ?_ (by first | omega | (simp; done) | (simp; omega)) _) | (with_reducible refine Below.drew ?_) | (with_reducible refine bt ?_ (below_regrown _ _ _)) | (refine bt ?_ (by with_reducible assumption))))⟩
        rw [Bool.eq_iff_iff, h]
        clear h H HO HW HI HU
        simp only [beq_iff_eq, beq_eq_false_iff_ne, bne_iff_ne, bne_eq_false_iff_eq, ne_eq, decide_eq_true_eq, decide_eq_false_iff_not] at *
        first
          | omega
          | (simp; omega)
end Go.Proofs.Ytejnpppejalhfaa
