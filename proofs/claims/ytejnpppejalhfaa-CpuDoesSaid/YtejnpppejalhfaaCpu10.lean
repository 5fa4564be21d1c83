/- The contracts of the reference's AskOf, DoneOf. -/
import Derived.Test.YtejnpppejalhfaaCpu8
import Derived.BigRegion
namespace Go.Proofs.Ytejnpppejalhfaa
open Go.RowKit Go.Sort

set_option maxRecDepth 100000 in
set_option maxHeartbeats 4000000 in
theorem askOf_none (p : Pr) (op imm : Int) (a b c : Nat) (w : World) (hbad : ¬ badI op a b c imm) (h : op ≠ 9 ∧ op ≠ 10 ∧ op ≠ 16) :
    Calls Try.prog 32 #[p.v, insV op a b c imm] w (RB (.agg zl5.toArray) w) := by
  obtain ⟨h9, h10, h16⟩ := h
  have HB := hid (fun w => isBad_any op a b c imm w false ⟨fun h => by simp at h, fun h => absurd h hbad⟩)
  unfold insV at HB ⊢
  have hsz : (Try.prog.info? 38).map (·.size) = some 5 := by kernel_rfl
  have Hsz5 := hid hsz; clear hsz
  have hsz : (Try.prog.info? 52).map (·.size) = some 5 := by kernel_rfl
  have Hsza := hid hsz; clear hsz
  have hsz : (Try.prog.info? 3).map (·.size) = some 1 := by kernel_rfl
  have Hsz1 := hid hsz; clear hsz
  have hsz : (Try.prog.info? 50).map (·.size) = some 13 := by kernel_rfl
  have Hszp := hid hsz; clear hsz
  clear hbad
  have k9 : (op == 9) = false := by rw [beq_eq_false_iff_ne]; exact h9
  have k10 : (op == 10) = false := by rw [beq_eq_false_iff_ne]; exact h10
  have k16 : (op == 16) = false := by rw [beq_eq_false_iff_ne]; exact h16
  clear h9 h10 h16
  unfold Pr.v
  generalize p.cells = L
  go_enter Try.func32, Try.ntmps32
  go_wp2_with (first | ((with_reducible refine at_op 2 ?_); refine wpList_box_row rfl 50 (.tmp 0) rfl (some 2) rfl L rfl w.heap.size w (Below.refl _ _) (Nat.le_refl _) ?_; intro w0 hL0 hbw hz0 hg0; clear hg0) | ((with_reducible refine at_op 3 ?_); refine wpList_box_row rfl 38 (.tmp 1) rfl (some 3) rfl [.int .i64 op, .int .i64 a, .int .i64 b, .int .i64 c, .int .i64 imm] rfl w.heap.size w hbw hbw.size ?_; intro w1 hLi hbw1 hz1 hg1; have hL0 := hL0.kept hg1; have n1 := Nat.ne_of_gt hz0; clear hbw hg1; have hbw := hbw1; clear hbw1) | ((with_reducible refine at_op 4 ?_); refine wpList_new_row rfl (some 4) rfl zl5 52 (by kernel_rfl) w.heap.size w hbw hbw.size ?_; intro w2 hL6 hbw2 hz2 hg2; have n2 := Nat.ne_of_gt hL0.lt; have n3 := Nat.ne_of_gt hz1; have hL0 := hL0.kept hg2; have hLi := hLi.kept hg2; clear hbw hg2; have hbw := hbw2; clear hbw2; have fi := hLi.cell) | ((with_reducible refine at_op 6 ?_); refine wpList_get_row rfl 38 (.tmp 3) rfl w0.heap.size [.int .i64 op, .int .i64 a, .int .i64 b, .int .i64 c, .int .i64 imm] rfl hLi _ Try.underlying38 rfl Hsz5.out ?_) | ((go_at_call 31; (with_reducible refine (HB.out _).mono ?_); rintro e w3 ⟨rfl, hb3⟩); have hL0 := hL0.grown hb3 hL0.lt; have hL6 := hL6.grown hb3 hL6.lt; have hLi := hLi.grown hb3 hLi.lt; have hbw := bt hbw hb3; clear hb3; have fi := hLi.cell) | ((with_reducible refine at_store 4 ?_); refine wpList_put_row rfl 52 (.tmp 4) (.tmp 51) rfl rfl w1.heap.size (zl5) zl5 rfl rfl hL6 Hsza.out rfl rfl w.heap.size w hbw (by omega) ?_; intro w9 hL6 hbw ho9; clear ho9))
  all_goals
    refine bodyPost_ret (v := .agg (zl5).toArray) (results_hold rfl _ w1.heap.size (zl5) _ rfl hL6 Try.underlying52 rfl Hsza.out) rfl ⟨rfl, hbw⟩
set_option maxRecDepth 100000 in
set_option maxHeartbeats 4000000 in
theorem askOf_call (p : Pr) (imm : Int) (a b c : Nat) (w : World) (hbad : ¬ badI 16 a b c imm) :
    Calls Try.prog 32 #[p.v, insV 16 a b c imm] w (RB (.agg (i5 3 0 0 0 imm).toArray) w) := by
  obtain ⟨op, h16⟩ : ∃ op : Int, op = 16 := ⟨_, rfl⟩
  rw [← h16] at hbad ⊢
  have HB := hid (fun w => isBad_any op a b c imm w false ⟨fun h => by simp at h, fun h => absurd h hbad⟩)
  unfold insV at HB ⊢
  have hsz : (Try.prog.info? 38).map (·.size) = some 5 := by kernel_rfl
  have Hsz5 := hid hsz; clear hsz
  have hsz : (Try.prog.info? 52).map (·.size) = some 5 := by kernel_rfl
  have Hsza := hid hsz; clear hsz
  have hsz : (Try.prog.info? 3).map (·.size) = some 1 := by kernel_rfl
  have Hsz1 := hid hsz; clear hsz
  have hsz : (Try.prog.info? 50).map (·.size) = some 13 := by kernel_rfl
  have Hszp := hid hsz; clear hsz
  clear hbad
  have k9 : (op == 9) = false := by rw [beq_eq_false_iff_ne]; omega
  have k10 : (op == 10) = false := by rw [beq_eq_false_iff_ne]; omega
  have k16 : (op == 16) = true := by rw [beq_iff_eq]; exact h16
  clear h16
  unfold Pr.v
  generalize p.cells = L
  go_enter Try.func32, Try.ntmps32
  go_wp2_with (first | ((with_reducible refine at_op 2 ?_); refine wpList_box_row rfl 50 (.tmp 0) rfl (some 2) rfl L rfl w.heap.size w (Below.refl _ _) (Nat.le_refl _) ?_; intro w0 hL0 hbw hz0 hg0; clear hg0) | ((with_reducible refine at_op 3 ?_); refine wpList_box_row rfl 38 (.tmp 1) rfl (some 3) rfl [.int .i64 op, .int .i64 a, .int .i64 b, .int .i64 c, .int .i64 imm] rfl w.heap.size w hbw hbw.size ?_; intro w1 hLi hbw1 hz1 hg1; have hL0 := hL0.kept hg1; have n1 := Nat.ne_of_gt hz0; clear hbw hg1; have hbw := hbw1; clear hbw1) | ((with_reducible refine at_op 4 ?_); refine wpList_new_row rfl (some 4) rfl zl5 52 (by kernel_rfl) w.heap.size w hbw hbw.size ?_; intro w2 hL6 hbw2 hz2 hg2; have n2 := Nat.ne_of_gt hL0.lt; have n3 := Nat.ne_of_gt hz1; have hL0 := hL0.kept hg2; have hLi := hLi.kept hg2; clear hbw hg2; have hbw := hbw2; clear hbw2; have fi := hLi.cell) | ((with_reducible refine at_op 6 ?_); refine wpList_get_row rfl 38 (.tmp 3) rfl w0.heap.size [.int .i64 op, .int .i64 a, .int .i64 b, .int .i64 c, .int .i64 imm] rfl hLi _ Try.underlying38 rfl Hsz5.out ?_) | ((go_at_call 31; (with_reducible refine (HB.out _).mono ?_); rintro e w3 ⟨rfl, hb3⟩); have hL0 := hL0.grown hb3 hL0.lt; have hL6 := hL6.grown hb3 hL6.lt; have hLi := hLi.grown hb3 hLi.lt; have hbw := bt hbw hb3; clear hb3; have fi := hLi.cell) | ((with_reducible refine at_store 4 ?_); refine wpList_put_row rfl 52 (.tmp 4) (.tmp 50) rfl rfl w1.heap.size (i5 3 0 0 0 imm) zl5 rfl rfl hL6 Hsza.out rfl rfl w.heap.size w hbw (by omega) ?_; intro w9 hL6 hbw ho9; clear ho9))
  all_goals
    refine bodyPost_ret (v := .agg (i5 3 0 0 0 imm).toArray) (results_hold rfl _ w1.heap.size (i5 3 0 0 0 imm) _ rfl hL6 Try.underlying52 rfl Hsza.out) rfl ⟨rfl, hbw⟩
set_option maxRecDepth 100000 in
set_option maxHeartbeats 4000000 in
theorem askOf_load (p : Pr) (hp : p.r.length = 8) (imm : Int) (a b c : Nat) (w : World) (hbad : ¬ badI 9 a b c imm) :
    Calls Try.prog 32 #[p.v, insV 9 a b c imm] w (RB (.agg (i5 1 (wrap64 (p.reg b + imm)) c 0 0).toArray) w) := by
  have kb : (b : Int) < 8 := by unfold badI useA useB useC at hbad; omega
  obtain ⟨x, hx⟩ : ∃ x, x = p.reg b := ⟨_, rfl⟩
  have CB := hid (cells_at p hp b (by omega))
  rw [← hx] at CB ⊢
  clear hx
  obtain ⟨op, h16⟩ : ∃ op : Int, op = 9 := ⟨_, rfl⟩
  rw [← h16] at hbad ⊢
  have HB := hid (fun w => isBad_any op a b c imm w false ⟨fun h => by simp at h, fun h => absurd h hbad⟩)
  unfold insV at HB ⊢
  have hsz : (Try.prog.info? 38).map (·.size) = some 5 := by kernel_rfl
  have Hsz5 := hid hsz; clear hsz
  have hsz : (Try.prog.info? 52).map (·.size) = some 5 := by kernel_rfl
  have Hsza := hid hsz; clear hsz
  have hsz : (Try.prog.info? 3).map (·.size) = some 1 := by kernel_rfl
  have Hsz1 := hid hsz; clear hsz
  have hsz : (Try.prog.info? 50).map (·.size) = some 13 := by kernel_rfl
  have Hszp := hid hsz; clear hsz
  clear hbad
  have k9 : (op == 9) = true := by rw [beq_iff_eq]; exact h16
  clear h16
  unfold Pr.v
  generalize p.cells = L at *
  go_enter Try.func32, Try.ntmps32
  go_wp2_with (first | ((with_reducible refine at_op 2 ?_); refine wpList_box_row rfl 50 (.tmp 0) rfl (some 2) rfl L rfl w.heap.size w (Below.refl _ _) (Nat.le_refl _) ?_; intro w0 hL0 hbw hz0 hg0; clear hg0) | ((with_reducible refine at_op 3 ?_); refine wpList_box_row rfl 38 (.tmp 1) rfl (some 3) rfl [.int .i64 op, .int .i64 a, .int .i64 b, .int .i64 c, .int .i64 imm] rfl w.heap.size w hbw hbw.size ?_; intro w1 hLi hbw1 hz1 hg1; have hL0 := hL0.kept hg1; have n1 := Nat.ne_of_gt hz0; clear hbw hg1; have hbw := hbw1; clear hbw1) | ((with_reducible refine at_op 4 ?_); refine wpList_new_row rfl (some 4) rfl zl5 52 (by kernel_rfl) w.heap.size w hbw hbw.size ?_; intro w2 hL6 hbw2 hz2 hg2; have n2 := Nat.ne_of_gt hL0.lt; have n3 := Nat.ne_of_gt hz1; have hL0 := hL0.kept hg2; have hLi := hLi.kept hg2; clear hbw hg2; have hbw := hbw2; clear hbw2; have fi := hLi.cell) | ((with_reducible refine at_op 6 ?_); refine wpList_get_row rfl 38 (.tmp 3) rfl w0.heap.size [.int .i64 op, .int .i64 a, .int .i64 b, .int .i64 c, .int .i64 imm] rfl hLi _ Try.underlying38 rfl Hsz5.out ?_) | ((go_at_call 31; (with_reducible refine (HB.out _).mono ?_); rintro e w3 ⟨rfl, hb3⟩); have hL0 := hL0.grown hb3 hL0.lt; have hL6 := hL6.grown hb3 hL6.lt; have hLi := hLi.grown hb3 hLi.lt; have hbw := bt hbw hb3; clear hb3; have fi := hLi.cell))
  have zi := ltAll hLi.lt
  have z0 := ltAll hL0.lt
  have fb := (hL0.cell b).trans CB.out
  refine wp_region_grown_tail 11 (by kernel_rfl) (by kernel_rfl) ?_
  simp only [List.take_succ_cons, List.take_zero, List.drop_succ_cons, List.drop_zero]
  repeat (first | go_big_quiet_step ((fail)) | quiet_step ((fail)))
  refine wpQuiet_nil ?_
  intro wq hw'
  obtain ⟨⟨dq, osq⟩, hw''⟩ := hw'
  have hbr := of_regrown hw''
  clear hw''
  first
    | (have hbn := bt hbq hbr; clear hcq hfq hzq hbq hbr; have hbq := hbn; clear hbn)
    | (have hbq := hbr; clear hbr)
  obtain ⟨hcq, hfq, hzq⟩ := bcell3 hbq
  have hL6 := hL6.grown hbq hL6.lt
  have hbw := bt hbw hbq
  go_wp2_with (first | ((with_reducible refine at_store 4 ?_); refine wpList_put_row rfl 52 (.tmp 4) (.tmp 23) rfl rfl w1.heap.size (i5 1 (wrap64 (x + imm)) c 0 0) zl5 rfl rfl hL6 Hsza.out rfl rfl w.heap.size w hbw (by omega) ?_; intro w9 hL6 hbw ho9; clear ho9))
  all_goals
    refine bodyPost_ret (v := .agg (i5 1 (wrap64 (x + imm)) c 0 0).toArray) (results_hold rfl _ w1.heap.size (i5 1 (wrap64 (x + imm)) c 0 0) _ rfl hL6 Try.underlying52 rfl Hsza.out) rfl ⟨rfl, hbw⟩
set_option maxRecDepth 100000 in
set_option maxHeartbeats 4000000 in
theorem askOf_store (p : Pr) (hp : p.r.length = 8) (imm : Int) (a b c : Nat) (w : World) (hbad : ¬ badI 10 a b c imm) :
    Calls Try.prog 32 #[p.v, insV 10 a b c imm] w (RB (.agg (i5 2 (wrap64 (p.reg b + imm)) c (p.reg a) 0).toArray) w) := by
  have kb : (b : Int) < 8 := by unfold badI useA useB useC at hbad; omega
  obtain ⟨x, hx⟩ : ∃ x, x = p.reg b := ⟨_, rfl⟩
  have CB := hid (cells_at p hp b (by omega))
  rw [← hx] at CB ⊢
  clear hx
  have ka : (a : Int) < 8 := by unfold badI useA useB useC at hbad; omega
  obtain ⟨y, hy⟩ : ∃ y, y = p.reg a := ⟨_, rfl⟩
  have CA := hid (cells_at p hp a (by omega))
  rw [← hy] at CA ⊢
  clear hy
  obtain ⟨op, h16⟩ : ∃ op : Int, op = 10 := ⟨_, rfl⟩
  rw [← h16] at hbad ⊢
  have HB := hid (fun w => isBad_any op a b c imm w false ⟨fun h => by simp at h, fun h => absurd h hbad⟩)
  unfold insV at HB ⊢
  have hsz : (Try.prog.info? 38).map (·.size) = some 5 := by kernel_rfl
  have Hsz5 := hid hsz; clear hsz
  have hsz : (Try.prog.info? 52).map (·.size) = some 5 := by kernel_rfl
  have Hsza := hid hsz; clear hsz
  have hsz : (Try.prog.info? 3).map (·.size) = some 1 := by kernel_rfl
  have Hsz1 := hid hsz; clear hsz
  have hsz : (Try.prog.info? 50).map (·.size) = some 13 := by kernel_rfl
  have Hszp := hid hsz; clear hsz
  clear hbad
  have k9 : (op == 9) = false := by rw [beq_eq_false_iff_ne]; omega
  have k10 : (op == 10) = true := by rw [beq_iff_eq]; exact h16
  clear h16
  unfold Pr.v
  generalize p.cells = L at *
  go_enter Try.func32, Try.ntmps32
  go_wp2_with (first | ((with_reducible refine at_op 2 ?_); refine wpList_box_row rfl 50 (.tmp 0) rfl (some 2) rfl L rfl w.heap.size w (Below.refl _ _) (Nat.le_refl _) ?_; intro w0 hL0 hbw hz0 hg0; clear hg0) | ((with_reducible refine at_op 3 ?_); refine wpList_box_row rfl 38 (.tmp 1) rfl (some 3) rfl [.int .i64 op, .int .i64 a, .int .i64 b, .int .i64 c, .int .i64 imm] rfl w.heap.size w hbw hbw.size ?_; intro w1 hLi hbw1 hz1 hg1; have hL0 := hL0.kept hg1; have n1 := Nat.ne_of_gt hz0; clear hbw hg1; have hbw := hbw1; clear hbw1) | ((with_reducible refine at_op 4 ?_); refine wpList_new_row rfl (some 4) rfl zl5 52 (by kernel_rfl) w.heap.size w hbw hbw.size ?_; intro w2 hL6 hbw2 hz2 hg2; have n2 := Nat.ne_of_gt hL0.lt; have n3 := Nat.ne_of_gt hz1; have hL0 := hL0.kept hg2; have hLi := hLi.kept hg2; clear hbw hg2; have hbw := hbw2; clear hbw2; have fi := hLi.cell) | ((with_reducible refine at_op 6 ?_); refine wpList_get_row rfl 38 (.tmp 3) rfl w0.heap.size [.int .i64 op, .int .i64 a, .int .i64 b, .int .i64 c, .int .i64 imm] rfl hLi _ Try.underlying38 rfl Hsz5.out ?_) | ((go_at_call 31; (with_reducible refine (HB.out _).mono ?_); rintro e w3 ⟨rfl, hb3⟩); have hL0 := hL0.grown hb3 hL0.lt; have hL6 := hL6.grown hb3 hL6.lt; have hLi := hLi.grown hb3 hLi.lt; have hbw := bt hbw hb3; clear hb3; have fi := hLi.cell))
  have zi := ltAll hLi.lt
  have z0 := ltAll hL0.lt
  have fb := (hL0.cell b).trans CB.out
  have fa := (hL0.cell a).trans CA.out
  refine wp_region_grown_tail 16 (by kernel_rfl) (by kernel_rfl) ?_
  simp only [List.take_succ_cons, List.take_zero, List.drop_succ_cons, List.drop_zero]
  repeat (first | go_big_quiet_step ((fail)) | quiet_step ((fail)))
  refine wpQuiet_nil ?_
  intro wq hw'
  obtain ⟨⟨dq, osq⟩, hw''⟩ := hw'
  have hbr := of_regrown hw''
  clear hw''
  first
    | (have hbn := bt hbq hbr; clear hcq hfq hzq hbq hbr; have hbq := hbn; clear hbn)
    | (have hbq := hbr; clear hbr)
  obtain ⟨hcq, hfq, hzq⟩ := bcell3 hbq
  have hL6 := hL6.grown hbq hL6.lt
  have hbw := bt hbw hbq
  go_wp2_with (first | ((with_reducible refine at_store 4 ?_); refine wpList_put_row rfl 52 (.tmp 4) (.tmp 43) rfl rfl w1.heap.size (i5 2 (wrap64 (x + imm)) c y 0) zl5 rfl rfl hL6 Hsza.out rfl rfl w.heap.size w hbw (by omega) ?_; intro w9 hL6 hbw ho9; clear ho9))
  all_goals
    refine bodyPost_ret (v := .agg (i5 2 (wrap64 (x + imm)) c y 0).toArray) (results_hold rfl _ w1.heap.size (i5 2 (wrap64 (x + imm)) c y 0) _ rfl hL6 Try.underlying52 rfl Hsza.out) rfl ⟨rfl, hbw⟩
theorem askOf_any (p : Pr) (hp : p.r.length = 8) (op imm : Int) (a b c : Nat) (w : World) (hbad : ¬ badI op a b c imm) :
    Calls Try.prog 32 #[p.v, insV op a b c imm] w (RB (.agg (askL p op a b c imm).toArray) w) := by
  by_cases h9 : op = 9
  · subst h9; exact askOf_load p hp imm a b c w hbad
  by_cases h10 : op = 10
  · subst h10; exact askOf_store p hp imm a b c w hbad
  by_cases h16 : op = 16
  · subst h16; exact askOf_call p imm a b c w hbad
  have := askOf_none p op imm a b c w hbad ⟨h9, h10, h16⟩
  unfold askL
  rwa [if_neg h9, if_neg h10, if_neg h16]
end Go.Proofs.Ytejnpppejalhfaa
