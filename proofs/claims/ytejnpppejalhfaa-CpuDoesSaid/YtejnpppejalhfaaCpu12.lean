/- The contract of the reference's DoneOf: the rest. -/
import Derived.Test.YtejnpppejalhfaaCpu11
namespace Go.Proofs.Ytejnpppejalhfaa
open Go.RowKit Go.Sort

-- op 8
set_option maxRecDepth 100000 in
set_option maxHeartbeats 4000000 in
theorem doneOf_addi (p : Pr) (hp : p.r.length = 8) (imm value : Int) (a b c : Nat) (w : World) (ka : (a : Int) < 8) (kb : (b : Int) < 8) :
    Calls Try.prog 33 #[p.v, insV 8 a b c imm, .int .i64 value] w (RB (doneP p 8 a b c imm value).v w) := by
  have hsz : (Try.prog.info? 3).map (·.size) = some 1 := by kernel_rfl
  have Hsz1 := hid hsz; clear hsz
  have hsz : (Try.prog.info? 50).map (·.size) = some 13 := by kernel_rfl
  have Hszp := hid hsz; clear hsz
  have hLn := cells_len p hp
  have C8 := hid (cells_eight p hp)
  have HO := hid (cells_one (doneP p (8) a b c imm value))
  obtain ⟨x, hx⟩ : ∃ x, x = p.reg b := ⟨_, rfl⟩
  have CB := hid (cells_at p hp b (by omega))
  rw [← hx] at CB
  have HZ : Hid ((doneP p 8 a b c imm value).cells = (p.cells.set a (.int .i64 (wrap64 (x + imm)))).set 8 (.int .i64 (wrap64 (p.pc + 8)))) := by
    refine hid ?_
    rw [cells_reg p a _ hp (by omega), cells_pc _ _ (by simpa using hp)]
    unfold doneP
    rw [if_pos (by decide)]
    simp [jumpI, workI, hx]
  clear hx
  unfold Pr.v insV
  generalize (doneP p (8) a b c imm value).cells = Z at *
  generalize p.cells = L at *
  generalize p.pc = pc at *
  go_enter Try.func33, Try.ntmps33
  go_wp2_with (first | ((with_reducible refine at_op 3 ?_); refine wpList_box_row rfl 50 (.tmp 0) rfl (some 3) rfl L rfl w.heap.size w (Below.refl _ _) (Nat.le_refl _) ?_; intro w0 hL0 hbw hz0 hg0; clear hg0) | ((with_reducible refine at_op 4 ?_); refine wpList_box_row rfl 38 (.tmp 1) rfl (some 4) rfl [.int .i64 (8), .int .i64 a, .int .i64 b, .int .i64 c, .int .i64 imm] rfl w.heap.size w hbw hbw.size ?_; intro w1 hLi hbw1 hz1 hg1; have hL0 := hL0.kept hg1; have n1 := Nat.ne_of_gt hz0; clear hbw hg1; have hbw := hbw1; clear hbw1) | ((with_reducible refine at_op 6 ?_); refine wpList_new_row rfl (some 6) rfl zl13 50 (by kernel_rfl) w.heap.size w hbw hbw.size ?_; intro w2 hL6 hbw2 hz2 hg2; have n2 := Nat.ne_of_gt hL0.lt; have n3 := Nat.ne_of_gt hz1; have hL0 := hL0.kept hg2; have hLi := hLi.kept hg2; clear hbw hg2; have hbw := hbw2; clear hbw2; have fi := hLi.cell; have f8 := (hL0.cell 8).trans C8.out; have zi := ltAll hLi.lt; have z0 := ltAll hL0.lt; have fb := (hL0.cell b).trans CB.out))
  refine wp_region_grown_tail 12 (by kernel_rfl) (by kernel_rfl) ?_
  simp only [List.take_succ_cons, List.take_zero, List.drop_succ_cons, List.drop_zero]
  repeat (first | go_big_quiet_step ((fail)) | quiet_step ((fail)))
  refine wpQuiet_nil ?_
  intro wq hw'
  obtain ⟨⟨dq, osq⟩, hw''⟩ := hw'
  have hbr := of_regrown hw''
  clear hw''
  first
    | (have hbn := bt hbq hbr; clear hcq hfq hzq hbq hbr; have hbq := hbn; clear hbn)
    | (have hbq := hbr; clear hbr)
  obtain ⟨hcq, hfq, hzq⟩ := bcell3 hbq
  have hL0 := hL0.grown hbq hL0.lt
  have hL6 := hL6.grown hbq hL6.lt
  have hLi := hLi.grown hbq hLi.lt
  have hbw := bt hbw hbq
  have fi := hLi.cell
  have f8 := (hL0.cell 8).trans C8.out
  go_wp2_with (first | ((with_reducible refine at_store 51 ?_); refine wpList_put_cell rfl 3 (.tmp 51) (.tmp 49) rfl rfl Hsz1.out w.heap.size a (wrap64 (x + imm)) rfl rfl (L) hL0 (by first | omega | (simp; omega)) w.heap.size w hbw (Nat.le_refl _) ?_; intro w6 hL06 hbw6 ho6; have hL6 := hL6.other ho6 n2; have hLi := hLi.other ho6 n1; clear hL0 hbw ho6; have hL0 := hL06; have hbw := hbw6; clear hL06 hbw6; have fi := hLi.cell) | ((with_reducible refine at_store 139 ?_); refine wpList_put_cell rfl 3 (.tmp 139) (.tmp 138) rfl rfl Hsz1.out w.heap.size 8 (wrap64 (pc + 8)) rfl rfl (L.set a (.int .i64 (wrap64 (x + imm)))) hL0 (by first | omega | (simp; omega)) w.heap.size w hbw (Nat.le_refl _) ?_; intro w6 hL06 hbw6 ho6; have hL6 := hL6.other ho6 n2; have hLi := hLi.other ho6 n1; clear hL0 hbw ho6; have hL0 := hL06; have hbw := hbw6; clear hL06 hbw6; have fi := hLi.cell) | ((with_reducible refine at_op 140 ?_); refine wpList_get_row rfl 50 (.tmp 3) rfl w.heap.size ((L.set a (.int .i64 (wrap64 (x + imm)))).set 8 (.int .i64 (wrap64 (pc + 8)))) rfl hL0 _ Try.underlying50 rfl (by rw [Hszp.out]; simp [hLn]) ?_) | ((with_reducible refine at_store 6 ?_); refine wpList_put_row rfl 50 (.tmp 6) (.tmp 140) rfl rfl w1.heap.size ((L.set a (.int .i64 (wrap64 (x + imm)))).set 8 (.int .i64 (wrap64 (pc + 8)))) zl13 rfl rfl hL6 (by rw [Hszp.out]; simp [hLn]) (by simp [hLn, zl13]) (by rw [← HZ.out]; exact HO.out) w.heap.size w hbw (by omega) ?_; intro w9 hL6 hbw ho9; clear ho9))
  all_goals
    refine bodyPost_ret (v := .agg ((L.set a (.int .i64 (wrap64 (x + imm)))).set 8 (.int .i64 (wrap64 (pc + 8)))).toArray) (results_hold rfl _ w1.heap.size ((L.set a (.int .i64 (wrap64 (x + imm)))).set 8 (.int .i64 (wrap64 (pc + 8)))) _ rfl hL6 Try.underlying50 rfl (by rw [Hszp.out]; simp [hLn])) rfl ⟨ret_agg1 HZ.out, hbw⟩

-- op 2 to 7
set_option maxRecDepth 100000 in
set_option maxHeartbeats 4000000 in
theorem doneOf_reck (p : Pr) (hp : p.r.length = 8) (op imm value : Int) (a b c : Nat) (w : World) (h : 2 ≤ op ∧ op ≤ 7) (ka : (a : Int) < 8) (kb : (b : Int) < 8) (kc : (c : Int) < 8) :
    Calls Try.prog 33 #[p.v, insV op a b c imm, .int .i64 value] w (RB (doneP p op a b c imm value).v w) := by
  have hsz : (Try.prog.info? 3).map (·.size) = some 1 := by kernel_rfl
  have Hsz1 := hid hsz; clear hsz
  have hsz : (Try.prog.info? 50).map (·.size) = some 13 := by kernel_rfl
  have Hszp := hid hsz; clear hsz
  have hLn := cells_len p hp
  have C8 := hid (cells_eight p hp)
  have HO := hid (cells_one (doneP p (op) a b c imm value))
  obtain ⟨x, hx⟩ : ∃ x, x = p.reg b := ⟨_, rfl⟩
  have CB := hid (cells_at p hp b (by omega))
  rw [← hx] at CB
  obtain ⟨y, hy⟩ : ∃ y, y = p.reg c := ⟨_, rfl⟩
  have CC := hid (cells_at p hp c (by omega))
  rw [← hy] at CC
  obtain ⟨n, hn⟩ : ∃ n, n = reckI op x y := ⟨_, rfl⟩
  have HR := hid (fun w => reckon_any op x y w h)
  rw [← hn] at HR
  have HZ : Hid ((doneP p op a b c imm value).cells = (p.cells.set a (.int .i64 n)).set 8 (.int .i64 (wrap64 (p.pc + 8)))) := by
    refine hid ?_
    rw [cells_reg p a _ hp (by omega), cells_pc _ _ (by simpa using hp), hn, hx, hy]
    unfold doneP
    rw [if_pos (by unfold Works; omega)]
    unfold jumpI workI
    rw [if_neg (by omega), if_neg (by omega), if_neg (by omega), if_neg (by omega), if_neg (by omega), if_neg (by omega)]
    simp
  clear hx hy hn
  unfold Pr.v insV
  generalize (doneP p (op) a b c imm value).cells = Z at *
  generalize p.cells = L at *
  generalize p.pc = pc at *
  have k1 : (op == 1) = false := by rw [beq_eq_false_iff_ne]; omega
  have k8 : (op == 8) = false := by rw [beq_eq_false_iff_ne]; omega
  have k9 : (op == 9) = false := by rw [beq_eq_false_iff_ne]; omega
  have k10 : (op == 10) = false := by rw [beq_eq_false_iff_ne]; omega
  have k11 : (op == 11) = false := by rw [beq_eq_false_iff_ne]; omega
  have k12 : (op == 12) = false := by rw [beq_eq_false_iff_ne]; omega
  have k13 : (op == 13) = false := by rw [beq_eq_false_iff_ne]; omega
  have k14 : (op == 14) = false := by rw [beq_eq_false_iff_ne]; omega
  have k15 : (op == 15) = false := by rw [beq_eq_false_iff_ne]; omega
  have k16 : (op == 16) = false := by rw [beq_eq_false_iff_ne]; omega
  clear h
  go_enter Try.func33, Try.ntmps33
  go_wp2_with (first | ((with_reducible refine at_op 3 ?_); refine wpList_box_row rfl 50 (.tmp 0) rfl (some 3) rfl L rfl w.heap.size w (Below.refl _ _) (Nat.le_refl _) ?_; intro w0 hL0 hbw hz0 hg0; clear hg0) | ((with_reducible refine at_op 4 ?_); refine wpList_box_row rfl 38 (.tmp 1) rfl (some 4) rfl [.int .i64 (op), .int .i64 a, .int .i64 b, .int .i64 c, .int .i64 imm] rfl w.heap.size w hbw hbw.size ?_; intro w1 hLi hbw1 hz1 hg1; have hL0 := hL0.kept hg1; have n1 := Nat.ne_of_gt hz0; clear hbw hg1; have hbw := hbw1; clear hbw1) | ((with_reducible refine at_op 6 ?_); refine wpList_new_row rfl (some 6) rfl zl13 50 (by kernel_rfl) w.heap.size w hbw hbw.size ?_; intro w2 hL6 hbw2 hz2 hg2; have n2 := Nat.ne_of_gt hL0.lt; have n3 := Nat.ne_of_gt hz1; have hL0 := hL0.kept hg2; have hLi := hLi.kept hg2; clear hbw hg2; have hbw := hbw2; clear hbw2; have fi := hLi.cell; have f8 := (hL0.cell 8).trans C8.out; have zi := ltAll hLi.lt; have z0 := ltAll hL0.lt; have fb := (hL0.cell b).trans CB.out; have fc := (hL0.cell c).trans CC.out))
  refine wp_region_grown_tail 17 (by kernel_rfl) (by kernel_rfl) ?_
  simp only [List.take_succ_cons, List.take_zero, List.drop_succ_cons, List.drop_zero]
  repeat (first | go_big_quiet_step ((go_at_call 62; exact Calls.regrown_of (HR.out _))) | quiet_step ((go_at_call 62; exact Calls.regrown_of (HR.out _))))
  refine wpQuiet_nil ?_
  intro wq hw'
  obtain ⟨⟨dq, osq⟩, hw''⟩ := hw'
  have hbr := of_regrown hw''
  clear hw''
  first
    | (have hbn := bt hbq hbr; clear hcq hfq hzq hbq hbr; have hbq := hbn; clear hbn)
    | (have hbq := hbr; clear hbr)
  obtain ⟨hcq, hfq, hzq⟩ := bcell3 hbq
  have hL0 := hL0.grown hbq hL0.lt
  have hL6 := hL6.grown hbq hL6.lt
  have hLi := hLi.grown hbq hLi.lt
  have hbw := bt hbw hbq
  have fi := hLi.cell
  have f8 := (hL0.cell 8).trans C8.out
  go_wp2_with (first | ((with_reducible refine at_store 29 ?_); refine wpList_put_cell rfl 3 (.tmp 29) (.tmp 27) rfl rfl Hsz1.out w.heap.size a (n) rfl rfl (L) hL0 (by first | omega | (simp; omega)) w.heap.size w hbw (Nat.le_refl _) ?_; intro w6 hL06 hbw6 ho6; have hL6 := hL6.other ho6 n2; have hLi := hLi.other ho6 n1; clear hL0 hbw ho6; have hL0 := hL06; have hbw := hbw6; clear hL06 hbw6; have fi := hLi.cell) | ((with_reducible refine at_store 139 ?_); refine wpList_put_cell rfl 3 (.tmp 139) (.tmp 138) rfl rfl Hsz1.out w.heap.size 8 (wrap64 (pc + 8)) rfl rfl (L.set a (.int .i64 n)) hL0 (by first | omega | (simp; omega)) w.heap.size w hbw (Nat.le_refl _) ?_; intro w6 hL06 hbw6 ho6; have hL6 := hL6.other ho6 n2; have hLi := hLi.other ho6 n1; clear hL0 hbw ho6; have hL0 := hL06; have hbw := hbw6; clear hL06 hbw6; have fi := hLi.cell) | ((with_reducible refine at_op 140 ?_); refine wpList_get_row rfl 50 (.tmp 3) rfl w.heap.size ((L.set a (.int .i64 n)).set 8 (.int .i64 (wrap64 (pc + 8)))) rfl hL0 _ Try.underlying50 rfl (by rw [Hszp.out]; simp [hLn]) ?_) | ((with_reducible refine at_store 6 ?_); refine wpList_put_row rfl 50 (.tmp 6) (.tmp 140) rfl rfl w1.heap.size ((L.set a (.int .i64 n)).set 8 (.int .i64 (wrap64 (pc + 8)))) zl13 rfl rfl hL6 (by rw [Hszp.out]; simp [hLn]) (by simp [hLn, zl13]) (by rw [← HZ.out]; exact HO.out) w.heap.size w hbw (by omega) ?_; intro w9 hL6 hbw ho9; clear ho9))
  all_goals
    refine bodyPost_ret (v := .agg ((L.set a (.int .i64 n)).set 8 (.int .i64 (wrap64 (pc + 8)))).toArray) (results_hold rfl _ w1.heap.size ((L.set a (.int .i64 n)).set 8 (.int .i64 (wrap64 (pc + 8)))) _ rfl hL6 Try.underlying50 rfl (by rw [Hszp.out]; simp [hLn])) rfl ⟨ret_agg1 HZ.out, hbw⟩

-- op 13, 14
set_option maxRecDepth 100000 in
set_option maxHeartbeats 4000000 in
theorem doneOf_eq (p : Pr) (hp : p.r.length = 8) (imm value : Int) (a b c : Nat) (w : World) (ka : (a : Int) < 8) (kb : (b : Int) < 8) (he : p.reg a = p.reg b) :
    Calls Try.prog 33 #[p.v, insV 13 a b c imm, .int .i64 value] w (RB (doneP p 13 a b c imm value).v w) := by
  have hsz : (Try.prog.info? 3).map (·.size) = some 1 := by kernel_rfl
  have Hsz1 := hid hsz; clear hsz
  have hsz : (Try.prog.info? 50).map (·.size) = some 13 := by kernel_rfl
  have Hszp := hid hsz; clear hsz
  have hLn := cells_len p hp
  have C8 := hid (cells_eight p hp)
  have HO := hid (cells_one (doneP p (13) a b c imm value))
  have HZ : Hid ((doneP p 13 a b c imm value).cells = p.cells.set 8 (.int .i64 (wrap64 (p.pc + imm)))) := by
    refine hid ?_
    rw [cells_pc _ _ (by simpa using hp)]
    unfold doneP
    rw [if_neg (by decide), if_neg (by omega), if_neg (by omega)]
    simp [jumpI, he]
  obtain ⟨y, hy⟩ : ∃ y, y = p.reg a := ⟨_, rfl⟩
  have CA := hid (cells_at p hp a (by omega))
  rw [← hy] at CA
  obtain ⟨x, hx⟩ : ∃ x, x = p.reg b := ⟨_, rfl⟩
  have CB := hid (cells_at p hp b (by omega))
  rw [← hx] at CB
  rw [← hx, ← hy] at he
  clear hx hy
  have hee : (y == x) = true := by simp [he]
  clear he
  unfold Pr.v insV
  generalize (doneP p (13) a b c imm value).cells = Z at *
  generalize p.cells = L at *
  generalize p.pc = pc at *
  go_enter Try.func33, Try.ntmps33
  go_wp2_with (first | ((with_reducible refine at_op 3 ?_); refine wpList_box_row rfl 50 (.tmp 0) rfl (some 3) rfl L rfl w.heap.size w (Below.refl _ _) (Nat.le_refl _) ?_; intro w0 hL0 hbw hz0 hg0; clear hg0) | ((with_reducible refine at_op 4 ?_); refine wpList_box_row rfl 38 (.tmp 1) rfl (some 4) rfl [.int .i64 (13), .int .i64 a, .int .i64 b, .int .i64 c, .int .i64 imm] rfl w.heap.size w hbw hbw.size ?_; intro w1 hLi hbw1 hz1 hg1; have hL0 := hL0.kept hg1; have n1 := Nat.ne_of_gt hz0; clear hbw hg1; have hbw := hbw1; clear hbw1) | ((with_reducible refine at_op 6 ?_); refine wpList_new_row rfl (some 6) rfl zl13 50 (by kernel_rfl) w.heap.size w hbw hbw.size ?_; intro w2 hL6 hbw2 hz2 hg2; have n2 := Nat.ne_of_gt hL0.lt; have n3 := Nat.ne_of_gt hz1; have hL0 := hL0.kept hg2; have hLi := hLi.kept hg2; clear hbw hg2; have hbw := hbw2; clear hbw2; have fi := hLi.cell; have f8 := (hL0.cell 8).trans C8.out; have zi := ltAll hLi.lt; have z0 := ltAll hL0.lt; have fa := (hL0.cell a).trans CA.out; have fb := (hL0.cell b).trans CB.out))
  refine wp_region_quiet_below (by kernel_rfl) (by kernel_rfl) ?_
  repeat (first | go_big_quiet_step ((fail)) | quiet_step ((fail)))
  refine wpQuiet_nil ?_
  intro wq hw'
  obtain ⟨⟨dq, osq⟩, hw''⟩ := hw'
  have hbr := of_regrown hw''
  clear hw''
  first
    | (have hbn := bt hbq hbr; clear hcq hfq hzq hbq hbr; have hbq := hbn; clear hbn)
    | (have hbq := hbr; clear hbr)
  obtain ⟨hcq, hfq, hzq⟩ := bcell3 hbq
  have hL0 := hL0.grown hbq hL0.lt
  have hL6 := hL6.grown hbq hL6.lt
  have hLi := hLi.grown hbq hLi.lt
  have hbw := bt hbw hbq
  have fi := hLi.cell
  have f8 := (hL0.cell 8).trans C8.out
  go_wp2_with (first | ((with_reducible refine at_store 139 ?_); refine wpList_put_cell rfl 3 (.tmp 139) (.tmp 138) rfl rfl Hsz1.out w.heap.size 8 (wrap64 (pc + imm)) rfl rfl (L) hL0 (by first | omega | (simp; omega)) w.heap.size w hbw (Nat.le_refl _) ?_; intro w6 hL06 hbw6 ho6; have hL6 := hL6.other ho6 n2; have hLi := hLi.other ho6 n1; clear hL0 hbw ho6; have hL0 := hL06; have hbw := hbw6; clear hL06 hbw6; have fi := hLi.cell) | ((with_reducible refine at_op 140 ?_); refine wpList_get_row rfl 50 (.tmp 3) rfl w.heap.size ((L).set 8 (.int .i64 (wrap64 (pc + imm)))) rfl hL0 _ Try.underlying50 rfl (by rw [Hszp.out]; simp [hLn]) ?_) | ((with_reducible refine at_store 6 ?_); refine wpList_put_row rfl 50 (.tmp 6) (.tmp 140) rfl rfl w1.heap.size ((L).set 8 (.int .i64 (wrap64 (pc + imm)))) zl13 rfl rfl hL6 (by rw [Hszp.out]; simp [hLn]) (by simp [hLn, zl13]) (by rw [← HZ.out]; exact HO.out) w.heap.size w hbw (by omega) ?_; intro w9 hL6 hbw ho9; clear ho9))
  all_goals
    refine bodyPost_ret (v := .agg ((L).set 8 (.int .i64 (wrap64 (pc + imm)))).toArray) (results_hold rfl _ w1.heap.size ((L).set 8 (.int .i64 (wrap64 (pc + imm)))) _ rfl hL6 Try.underlying50 rfl (by rw [Hszp.out]; simp [hLn])) rfl ⟨ret_agg1 HZ.out, hbw⟩
set_option maxRecDepth 100000 in
set_option maxHeartbeats 4000000 in
theorem doneOf_ne (p : Pr) (hp : p.r.length = 8) (imm value : Int) (a b c : Nat) (w : World) (ka : (a : Int) < 8) (kb : (b : Int) < 8) (he : ¬ p.reg a = p.reg b) :
    Calls Try.prog 33 #[p.v, insV 13 a b c imm, .int .i64 value] w (RB (doneP p 13 a b c imm value).v w) := by
  have hsz : (Try.prog.info? 3).map (·.size) = some 1 := by kernel_rfl
  have Hsz1 := hid hsz; clear hsz
  have hsz : (Try.prog.info? 50).map (·.size) = some 13 := by kernel_rfl
  have Hszp := hid hsz; clear hsz
  have hLn := cells_len p hp
  have C8 := hid (cells_eight p hp)
  have HO := hid (cells_one (doneP p (13) a b c imm value))
  have HZ : Hid ((doneP p 13 a b c imm value).cells = p.cells.set 8 (.int .i64 (wrap64 (p.pc + 8)))) := by
    refine hid ?_
    rw [cells_pc _ _ (by simpa using hp)]
    unfold doneP
    rw [if_neg (by decide), if_neg (by omega), if_neg (by omega)]
    simp [jumpI, he]
  obtain ⟨y, hy⟩ : ∃ y, y = p.reg a := ⟨_, rfl⟩
  have CA := hid (cells_at p hp a (by omega))
  rw [← hy] at CA
  obtain ⟨x, hx⟩ : ∃ x, x = p.reg b := ⟨_, rfl⟩
  have CB := hid (cells_at p hp b (by omega))
  rw [← hx] at CB
  rw [← hx, ← hy] at he
  clear hx hy
  have hee : (y == x) = false := by simp [he]
  clear he
  unfold Pr.v insV
  generalize (doneP p (13) a b c imm value).cells = Z at *
  generalize p.cells = L at *
  generalize p.pc = pc at *
  go_enter Try.func33, Try.ntmps33
  go_wp2_with (first | ((with_reducible refine at_op 3 ?_); refine wpList_box_row rfl 50 (.tmp 0) rfl (some 3) rfl L rfl w.heap.size w (Below.refl _ _) (Nat.le_refl _) ?_; intro w0 hL0 hbw hz0 hg0; clear hg0) | ((with_reducible refine at_op 4 ?_); refine wpList_box_row rfl 38 (.tmp 1) rfl (some 4) rfl [.int .i64 (13), .int .i64 a, .int .i64 b, .int .i64 c, .int .i64 imm] rfl w.heap.size w hbw hbw.size ?_; intro w1 hLi hbw1 hz1 hg1; have hL0 := hL0.kept hg1; have n1 := Nat.ne_of_gt hz0; clear hbw hg1; have hbw := hbw1; clear hbw1) | ((with_reducible refine at_op 6 ?_); refine wpList_new_row rfl (some 6) rfl zl13 50 (by kernel_rfl) w.heap.size w hbw hbw.size ?_; intro w2 hL6 hbw2 hz2 hg2; have n2 := Nat.ne_of_gt hL0.lt; have n3 := Nat.ne_of_gt hz1; have hL0 := hL0.kept hg2; have hLi := hLi.kept hg2; clear hbw hg2; have hbw := hbw2; clear hbw2; have fi := hLi.cell; have f8 := (hL0.cell 8).trans C8.out; have zi := ltAll hLi.lt; have z0 := ltAll hL0.lt; have fa := (hL0.cell a).trans CA.out; have fb := (hL0.cell b).trans CB.out))
  refine wp_region_quiet_below (by kernel_rfl) (by kernel_rfl) ?_
  repeat (first | go_big_quiet_step ((fail)) | quiet_step ((fail)))
  refine wpQuiet_nil ?_
  intro wq hw'
  obtain ⟨⟨dq, osq⟩, hw''⟩ := hw'
  have hbr := of_regrown hw''
  clear hw''
  first
    | (have hbn := bt hbq hbr; clear hcq hfq hzq hbq hbr; have hbq := hbn; clear hbn)
    | (have hbq := hbr; clear hbr)
  obtain ⟨hcq, hfq, hzq⟩ := bcell3 hbq
  have hL0 := hL0.grown hbq hL0.lt
  have hL6 := hL6.grown hbq hL6.lt
  have hLi := hLi.grown hbq hLi.lt
  have hbw := bt hbw hbq
  have fi := hLi.cell
  have f8 := (hL0.cell 8).trans C8.out
  go_wp2_with (first | ((with_reducible refine at_store 139 ?_); refine wpList_put_cell rfl 3 (.tmp 139) (.tmp 138) rfl rfl Hsz1.out w.heap.size 8 (wrap64 (pc + 8)) rfl rfl (L) hL0 (by first | omega | (simp; omega)) w.heap.size w hbw (Nat.le_refl _) ?_; intro w6 hL06 hbw6 ho6; have hL6 := hL6.other ho6 n2; have hLi := hLi.other ho6 n1; clear hL0 hbw ho6; have hL0 := hL06; have hbw := hbw6; clear hL06 hbw6; have fi := hLi.cell) | ((with_reducible refine at_op 140 ?_); refine wpList_get_row rfl 50 (.tmp 3) rfl w.heap.size ((L).set 8 (.int .i64 (wrap64 (pc + 8)))) rfl hL0 _ Try.underlying50 rfl (by rw [Hszp.out]; simp [hLn]) ?_) | ((with_reducible refine at_store 6 ?_); refine wpList_put_row rfl 50 (.tmp 6) (.tmp 140) rfl rfl w1.heap.size ((L).set 8 (.int .i64 (wrap64 (pc + 8)))) zl13 rfl rfl hL6 (by rw [Hszp.out]; simp [hLn]) (by simp [hLn, zl13]) (by rw [← HZ.out]; exact HO.out) w.heap.size w hbw (by omega) ?_; intro w9 hL6 hbw ho9; clear ho9))
  all_goals
    refine bodyPost_ret (v := .agg ((L).set 8 (.int .i64 (wrap64 (pc + 8)))).toArray) (results_hold rfl _ w1.heap.size ((L).set 8 (.int .i64 (wrap64 (pc + 8)))) _ rfl hL6 Try.underlying50 rfl (by rw [Hszp.out]; simp [hLn])) rfl ⟨ret_agg1 HZ.out, hbw⟩
set_option maxRecDepth 100000 in
set_option maxHeartbeats 4000000 in
theorem doneOf_lt (p : Pr) (hp : p.r.length = 8) (imm value : Int) (a b c : Nat) (w : World) (ka : (a : Int) < 8) (kb : (b : Int) < 8) (he : p.reg a < p.reg b) :
    Calls Try.prog 33 #[p.v, insV 14 a b c imm, .int .i64 value] w (RB (doneP p 14 a b c imm value).v w) := by
  have hsz : (Try.prog.info? 3).map (·.size) = some 1 := by kernel_rfl
  have Hsz1 := hid hsz; clear hsz
  have hsz : (Try.prog.info? 50).map (·.size) = some 13 := by kernel_rfl
  have Hszp := hid hsz; clear hsz
  have hLn := cells_len p hp
  have C8 := hid (cells_eight p hp)
  have HO := hid (cells_one (doneP p (14) a b c imm value))
  have HZ : Hid ((doneP p 14 a b c imm value).cells = p.cells.set 8 (.int .i64 (wrap64 (p.pc + imm)))) := by
    refine hid ?_
    rw [cells_pc _ _ (by simpa using hp)]
    unfold doneP
    rw [if_neg (by decide), if_neg (by omega), if_neg (by omega)]
    simp [jumpI, he]
  obtain ⟨y, hy⟩ : ∃ y, y = p.reg a := ⟨_, rfl⟩
  have CA := hid (cells_at p hp a (by omega))
  rw [← hy] at CA
  obtain ⟨x, hx⟩ : ∃ x, x = p.reg b := ⟨_, rfl⟩
  have CB := hid (cells_at p hp b (by omega))
  rw [← hx] at CB
  rw [← hx, ← hy] at he
  clear hx hy
  have hee : decide (y < x) = true := by simp [he]
  clear he
  unfold Pr.v insV
  generalize (doneP p (14) a b c imm value).cells = Z at *
  generalize p.cells = L at *
  generalize p.pc = pc at *
  go_enter Try.func33, Try.ntmps33
  go_wp2_with (first | ((with_reducible refine at_op 3 ?_); refine wpList_box_row rfl 50 (.tmp 0) rfl (some 3) rfl L rfl w.heap.size w (Below.refl _ _) (Nat.le_refl _) ?_; intro w0 hL0 hbw hz0 hg0; clear hg0) | ((with_reducible refine at_op 4 ?_); refine wpList_box_row rfl 38 (.tmp 1) rfl (some 4) rfl [.int .i64 (14), .int .i64 a, .int .i64 b, .int .i64 c, .int .i64 imm] rfl w.heap.size w hbw hbw.size ?_; intro w1 hLi hbw1 hz1 hg1; have hL0 := hL0.kept hg1; have n1 := Nat.ne_of_gt hz0; clear hbw hg1; have hbw := hbw1; clear hbw1) | ((with_reducible refine at_op 6 ?_); refine wpList_new_row rfl (some 6) rfl zl13 50 (by kernel_rfl) w.heap.size w hbw hbw.size ?_; intro w2 hL6 hbw2 hz2 hg2; have n2 := Nat.ne_of_gt hL0.lt; have n3 := Nat.ne_of_gt hz1; have hL0 := hL0.kept hg2; have hLi := hLi.kept hg2; clear hbw hg2; have hbw := hbw2; clear hbw2; have fi := hLi.cell; have f8 := (hL0.cell 8).trans C8.out; have zi := ltAll hLi.lt; have z0 := ltAll hL0.lt; have fa := (hL0.cell a).trans CA.out; have fb := (hL0.cell b).trans CB.out))
  refine wp_region_quiet_below (by kernel_rfl) (by kernel_rfl) ?_
  repeat (first | go_big_quiet_step ((fail)) | quiet_step ((fail)))
  refine wpQuiet_nil ?_
  intro wq hw'
  obtain ⟨⟨dq, osq⟩, hw''⟩ := hw'
  have hbr := of_regrown hw''
  clear hw''
  first
    | (have hbn := bt hbq hbr; clear hcq hfq hzq hbq hbr; have hbq := hbn; clear hbn)
    | (have hbq := hbr; clear hbr)
  obtain ⟨hcq, hfq, hzq⟩ := bcell3 hbq
  have hL0 := hL0.grown hbq hL0.lt
  have hL6 := hL6.grown hbq hL6.lt
  have hLi := hLi.grown hbq hLi.lt
  have hbw := bt hbw hbq
  have fi := hLi.cell
  have f8 := (hL0.cell 8).trans C8.out
  go_wp2_with (first | ((with_reducible refine at_store 139 ?_); refine wpList_put_cell rfl 3 (.tmp 139) (.tmp 138) rfl rfl Hsz1.out w.heap.size 8 (wrap64 (pc + imm)) rfl rfl (L) hL0 (by first | omega | (simp; omega)) w.heap.size w hbw (Nat.le_refl _) ?_; intro w6 hL06 hbw6 ho6; have hL6 := hL6.other ho6 n2; have hLi := hLi.other ho6 n1; clear hL0 hbw ho6; have hL0 := hL06; have hbw := hbw6; clear hL06 hbw6; have fi := hLi.cell) | ((with_reducible refine at_op 140 ?_); refine wpList_get_row rfl 50 (.tmp 3) rfl w.heap.size ((L).set 8 (.int .i64 (wrap64 (pc + imm)))) rfl hL0 _ Try.underlying50 rfl (by rw [Hszp.out]; simp [hLn]) ?_) | ((with_reducible refine at_store 6 ?_); refine wpList_put_row rfl 50 (.tmp 6) (.tmp 140) rfl rfl w1.heap.size ((L).set 8 (.int .i64 (wrap64 (pc + imm)))) zl13 rfl rfl hL6 (by rw [Hszp.out]; simp [hLn]) (by simp [hLn, zl13]) (by rw [← HZ.out]; exact HO.out) w.heap.size w hbw (by omega) ?_; intro w9 hL6 hbw ho9; clear ho9))
  all_goals
    refine bodyPost_ret (v := .agg ((L).set 8 (.int .i64 (wrap64 (pc + imm)))).toArray) (results_hold rfl _ w1.heap.size ((L).set 8 (.int .i64 (wrap64 (pc + imm)))) _ rfl hL6 Try.underlying50 rfl (by rw [Hszp.out]; simp [hLn])) rfl ⟨ret_agg1 HZ.out, hbw⟩
set_option maxRecDepth 100000 in
set_option maxHeartbeats 4000000 in
theorem doneOf_ge (p : Pr) (hp : p.r.length = 8) (imm value : Int) (a b c : Nat) (w : World) (ka : (a : Int) < 8) (kb : (b : Int) < 8) (he : ¬ p.reg a < p.reg b) :
    Calls Try.prog 33 #[p.v, insV 14 a b c imm, .int .i64 value] w (RB (doneP p 14 a b c imm value).v w) := by
  have hsz : (Try.prog.info? 3).map (·.size) = some 1 := by kernel_rfl
  have Hsz1 := hid hsz; clear hsz
  have hsz : (Try.prog.info? 50).map (·.size) = some 13 := by kernel_rfl
  have Hszp := hid hsz; clear hsz
  have hLn := cells_len p hp
  have C8 := hid (cells_eight p hp)
  have HO := hid (cells_one (doneP p (14) a b c imm value))
  have HZ : Hid ((doneP p 14 a b c imm value).cells = p.cells.set 8 (.int .i64 (wrap64 (p.pc + 8)))) := by
    refine hid ?_
    rw [cells_pc _ _ (by simpa using hp)]
    unfold doneP
    rw [if_neg (by decide), if_neg (by omega), if_neg (by omega)]
    simp [jumpI, he]
  obtain ⟨y, hy⟩ : ∃ y, y = p.reg a := ⟨_, rfl⟩
  have CA := hid (cells_at p hp a (by omega))
  rw [← hy] at CA
  obtain ⟨x, hx⟩ : ∃ x, x = p.reg b := ⟨_, rfl⟩
  have CB := hid (cells_at p hp b (by omega))
  rw [← hx] at CB
  rw [← hx, ← hy] at he
  clear hx hy
  have hee : decide (y < x) = false := by simp [he]
  clear he
  unfold Pr.v insV
  generalize (doneP p (14) a b c imm value).cells = Z at *
  generalize p.cells = L at *
  generalize p.pc = pc at *
  go_enter Try.func33, Try.ntmps33
  go_wp2_with (first | ((with_reducible refine at_op 3 ?_); refine wpList_box_row rfl 50 (.tmp 0) rfl (some 3) rfl L rfl w.heap.size w (Below.refl _ _) (Nat.le_refl _) ?_; intro w0 hL0 hbw hz0 hg0; clear hg0) | ((with_reducible refine at_op 4 ?_); refine wpList_box_row rfl 38 (.tmp 1) rfl (some 4) rfl [.int .i64 (14), .int .i64 a, .int .i64 b, .int .i64 c, .int .i64 imm] rfl w.heap.size w hbw hbw.size ?_; intro w1 hLi hbw1 hz1 hg1; have hL0 := hL0.kept hg1; have n1 := Nat.ne_of_gt hz0; clear hbw hg1; have hbw := hbw1; clear hbw1) | ((with_reducible refine at_op 6 ?_); refine wpList_new_row rfl (some 6) rfl zl13 50 (by kernel_rfl) w.heap.size w hbw hbw.size ?_; intro w2 hL6 hbw2 hz2 hg2; have n2 := Nat.ne_of_gt hL0.lt; have n3 := Nat.ne_of_gt hz1; have hL0 := hL0.kept hg2; have hLi := hLi.kept hg2; clear hbw hg2; have hbw := hbw2; clear hbw2; have fi := hLi.cell; have f8 := (hL0.cell 8).trans C8.out; have zi := ltAll hLi.lt; have z0 := ltAll hL0.lt; have fa := (hL0.cell a).trans CA.out; have fb := (hL0.cell b).trans CB.out))
  refine wp_region_quiet_below (by kernel_rfl) (by kernel_rfl) ?_
  repeat (first | go_big_quiet_step ((fail)) | quiet_step ((fail)))
  refine wpQuiet_nil ?_
  intro wq hw'
  obtain ⟨⟨dq, osq⟩, hw''⟩ := hw'
  have hbr := of_regrown hw''
  clear hw''
  first
    | (have hbn := bt hbq hbr; clear hcq hfq hzq hbq hbr; have hbq := hbn; clear hbn)
    | (have hbq := hbr; clear hbr)
  obtain ⟨hcq, hfq, hzq⟩ := bcell3 hbq
  have hL0 := hL0.grown hbq hL0.lt
  have hL6 := hL6.grown hbq hL6.lt
  have hLi := hLi.grown hbq hLi.lt
  have hbw := bt hbw hbq
  have fi := hLi.cell
  have f8 := (hL0.cell 8).trans C8.out
  go_wp2_with (first | ((with_reducible refine at_store 139 ?_); refine wpList_put_cell rfl 3 (.tmp 139) (.tmp 138) rfl rfl Hsz1.out w.heap.size 8 (wrap64 (pc + 8)) rfl rfl (L) hL0 (by first | omega | (simp; omega)) w.heap.size w hbw (Nat.le_refl _) ?_; intro w6 hL06 hbw6 ho6; have hL6 := hL6.other ho6 n2; have hLi := hLi.other ho6 n1; clear hL0 hbw ho6; have hL0 := hL06; have hbw := hbw6; clear hL06 hbw6; have fi := hLi.cell) | ((with_reducible refine at_op 140 ?_); refine wpList_get_row rfl 50 (.tmp 3) rfl w.heap.size ((L).set 8 (.int .i64 (wrap64 (pc + 8)))) rfl hL0 _ Try.underlying50 rfl (by rw [Hszp.out]; simp [hLn]) ?_) | ((with_reducible refine at_store 6 ?_); refine wpList_put_row rfl 50 (.tmp 6) (.tmp 140) rfl rfl w1.heap.size ((L).set 8 (.int .i64 (wrap64 (pc + 8)))) zl13 rfl rfl hL6 (by rw [Hszp.out]; simp [hLn]) (by simp [hLn, zl13]) (by rw [← HZ.out]; exact HO.out) w.heap.size w hbw (by omega) ?_; intro w9 hL6 hbw ho9; clear ho9))
  all_goals
    refine bodyPost_ret (v := .agg ((L).set 8 (.int .i64 (wrap64 (pc + 8)))).toArray) (results_hold rfl _ w1.heap.size ((L).set 8 (.int .i64 (wrap64 (pc + 8)))) _ rfl hL6 Try.underlying50 rfl (by rw [Hszp.out]; simp [hLn])) rfl ⟨ret_agg1 HZ.out, hbw⟩

-- op 16
set_option maxRecDepth 100000 in
set_option maxHeartbeats 4000000 in
theorem doneOf_out (p : Pr) (hp : p.r.length = 8) (value : Int) (a b c : Nat) (w : World) :
    Calls Try.prog 33 #[p.v, insV 16 a b c 1, .int .i64 value] w (RB (doneP p 16 a b c 1 value).v w) := by
  obtain ⟨imm, hi⟩ : ∃ imm : Int, imm = 1 := ⟨_, rfl⟩
  rw [← hi]
  have hsz : (Try.prog.info? 3).map (·.size) = some 1 := by kernel_rfl
  have Hsz1 := hid hsz; clear hsz
  have hsz : (Try.prog.info? 50).map (·.size) = some 13 := by kernel_rfl
  have Hszp := hid hsz; clear hsz
  have hLn := cells_len p hp
  have C8 := hid (cells_eight p hp)
  have HO := hid (cells_one (doneP p (16) a b c imm value))
  have HZ : Hid ((doneP p 16 a b c imm value).cells = p.cells.set 8 (.int .i64 (wrap64 (p.pc + 8)))) := by
    refine hid ?_
    rw [cells_pc _ _ (by simpa using hp)]
    unfold doneP
    rw [if_neg (by decide), if_neg (by omega), if_neg (by omega)]
    simp [jumpI]
  unfold Pr.v insV
  generalize (doneP p (16) a b c imm value).cells = Z at *
  generalize p.cells = L at *
  generalize p.pc = pc at *
  have k1 : (imm == 6) = false := by rw [beq_eq_false_iff_ne]; omega
  have k2 : (imm != 1) = false := by rw [bne_eq_false_iff_eq]; exact hi
  clear hi
  go_enter Try.func33, Try.ntmps33
  go_wp2_with (first | ((with_reducible refine at_op 3 ?_); refine wpList_box_row rfl 50 (.tmp 0) rfl (some 3) rfl L rfl w.heap.size w (Below.refl _ _) (Nat.le_refl _) ?_; intro w0 hL0 hbw hz0 hg0; clear hg0) | ((with_reducible refine at_op 4 ?_); refine wpList_box_row rfl 38 (.tmp 1) rfl (some 4) rfl [.int .i64 (16), .int .i64 a, .int .i64 b, .int .i64 c, .int .i64 imm] rfl w.heap.size w hbw hbw.size ?_; intro w1 hLi hbw1 hz1 hg1; have hL0 := hL0.kept hg1; have n1 := Nat.ne_of_gt hz0; clear hbw hg1; have hbw := hbw1; clear hbw1) | ((with_reducible refine at_op 6 ?_); refine wpList_new_row rfl (some 6) rfl zl13 50 (by kernel_rfl) w.heap.size w hbw hbw.size ?_; intro w2 hL6 hbw2 hz2 hg2; have n2 := Nat.ne_of_gt hL0.lt; have n3 := Nat.ne_of_gt hz1; have hL0 := hL0.kept hg2; have hLi := hLi.kept hg2; clear hbw hg2; have hbw := hbw2; clear hbw2; have fi := hLi.cell; have f8 := (hL0.cell 8).trans C8.out; have zi := ltAll hLi.lt; have z0 := ltAll hL0.lt; skip) | ((with_reducible refine at_store 139 ?_); refine wpList_put_cell rfl 3 (.tmp 139) (.tmp 138) rfl rfl Hsz1.out w.heap.size 8 (wrap64 (pc + 8)) rfl rfl (L) hL0 (by first | omega | (simp; omega)) w.heap.size w hbw (Nat.le_refl _) ?_; intro w6 hL06 hbw6 ho6; have hL6 := hL6.other ho6 n2; have hLi := hLi.other ho6 n1; clear hL0 hbw ho6; have hL0 := hL06; have hbw := hbw6; clear hL06 hbw6; have fi := hLi.cell) | ((with_reducible refine at_op 140 ?_); refine wpList_get_row rfl 50 (.tmp 3) rfl w.heap.size ((L).set 8 (.int .i64 (wrap64 (pc + 8)))) rfl hL0 _ Try.underlying50 rfl (by rw [Hszp.out]; simp [hLn]) ?_) | ((with_reducible refine at_store 6 ?_); refine wpList_put_row rfl 50 (.tmp 6) (.tmp 140) rfl rfl w1.heap.size ((L).set 8 (.int .i64 (wrap64 (pc + 8)))) zl13 rfl rfl hL6 (by rw [Hszp.out]; simp [hLn]) (by simp [hLn, zl13]) (by rw [← HZ.out]; exact HO.out) w.heap.size w hbw (by omega) ?_; intro w9 hL6 hbw ho9; clear ho9))
  all_goals
    refine bodyPost_ret (v := .agg ((L).set 8 (.int .i64 (wrap64 (pc + 8)))).toArray) (results_hold rfl _ w1.heap.size ((L).set 8 (.int .i64 (wrap64 (pc + 8)))) _ rfl hL6 Try.underlying50 rfl (by rw [Hszp.out]; simp [hLn])) rfl ⟨ret_agg1 HZ.out, hbw⟩
set_option maxRecDepth 100000 in
set_option maxHeartbeats 4000000 in
theorem doneOf_exit (p : Pr) (hp : p.r.length = 8) (value : Int) (a b c : Nat) (w : World) :
    Calls Try.prog 33 #[p.v, insV 16 a b c 6, .int .i64 value] w (RB (doneP p 16 a b c 6 value).v w) := by
  obtain ⟨imm, hi⟩ : ∃ imm : Int, imm = 6 := ⟨_, rfl⟩
  rw [← hi]
  have hsz : (Try.prog.info? 3).map (·.size) = some 1 := by kernel_rfl
  have Hsz1 := hid hsz; clear hsz
  have hsz : (Try.prog.info? 50).map (·.size) = some 13 := by kernel_rfl
  have Hszp := hid hsz; clear hsz
  have hLn := cells_len p hp
  have C8 := hid (cells_eight p hp)
  have HO := hid (cells_one (doneP p (16) a b c imm value))
  obtain ⟨x, hx⟩ : ∃ x, x = p.reg 0 := ⟨_, rfl⟩
  have CX := hid (cells_at p hp 0 (by omega))
  rw [← hx] at CX
  have HZ : Hid ((doneP p 16 a b c imm value).cells = ((p.cells.set 9 (.int .i64 2)).set 10 (.int .i64 x)).set 8 (.int .i64 (wrap64 (p.pc + 8)))) := by
    refine hid ?_
    rw [cells_st _ 2 hp, cells_code _ x (by simpa using hp), cells_pc _ _ (by simpa using hp), hx]
    unfold doneP
    rw [if_neg (by decide), if_pos (by omega)]
    simp [jumpI]
  clear hx
  unfold Pr.v insV
  generalize (doneP p (16) a b c imm value).cells = Z at *
  generalize p.cells = L at *
  generalize p.pc = pc at *
  have k1 : (imm == 6) = true := by rw [beq_iff_eq]; exact hi
  clear hi
  go_enter Try.func33, Try.ntmps33
  go_wp2_with (first | ((with_reducible refine at_op 3 ?_); refine wpList_box_row rfl 50 (.tmp 0) rfl (some 3) rfl L rfl w.heap.size w (Below.refl _ _) (Nat.le_refl _) ?_; intro w0 hL0 hbw hz0 hg0; clear hg0) | ((with_reducible refine at_op 4 ?_); refine wpList_box_row rfl 38 (.tmp 1) rfl (some 4) rfl [.int .i64 (16), .int .i64 a, .int .i64 b, .int .i64 c, .int .i64 imm] rfl w.heap.size w hbw hbw.size ?_; intro w1 hLi hbw1 hz1 hg1; have hL0 := hL0.kept hg1; have n1 := Nat.ne_of_gt hz0; clear hbw hg1; have hbw := hbw1; clear hbw1) | ((with_reducible refine at_op 6 ?_); refine wpList_new_row rfl (some 6) rfl zl13 50 (by kernel_rfl) w.heap.size w hbw hbw.size ?_; intro w2 hL6 hbw2 hz2 hg2; have n2 := Nat.ne_of_gt hL0.lt; have n3 := Nat.ne_of_gt hz1; have hL0 := hL0.kept hg2; have hLi := hLi.kept hg2; clear hbw hg2; have hbw := hbw2; clear hbw2; have fi := hLi.cell; have f8 := (hL0.cell 8).trans C8.out; have zi := ltAll hLi.lt; have z0 := ltAll hL0.lt; skip) | (((with_reducible refine at_store 125 ?_); refine wpList_put_cell rfl 3 (.tmp 125) (.const (.int .i64 2)) rfl rfl Hsz1.out w.heap.size 9 (2) rfl rfl (L) hL0 (by first | omega | (simp; omega)) w.heap.size w hbw (Nat.le_refl _) ?_; intro w6 hL06 hbw6 ho6; have hL6 := hL6.other ho6 n2; have hLi := hLi.other ho6 n1; clear hL0 hbw ho6; have hL0 := hL06; have hbw := hbw6; clear hL06 hbw6; have fi := hLi.cell); have fx := (hL0.cell 0).trans ((List.getElem?_set_ne (by decide)).trans CX.out)) | ((with_reducible refine at_store 129 ?_); refine wpList_put_cell rfl 3 (.tmp 129) (.tmp 128) rfl rfl Hsz1.out w.heap.size 10 (x) rfl rfl (L.set 9 (.int .i64 2)) hL0 (by first | omega | (simp; omega)) w.heap.size w hbw (Nat.le_refl _) ?_; intro w6 hL06 hbw6 ho6; have hL6 := hL6.other ho6 n2; have hLi := hLi.other ho6 n1; clear hL0 hbw ho6; have hL0 := hL06; have hbw := hbw6; clear hL06 hbw6; have fi := hLi.cell) | ((with_reducible refine at_store 139 ?_); refine wpList_put_cell rfl 3 (.tmp 139) (.tmp 138) rfl rfl Hsz1.out w.heap.size 8 (wrap64 (pc + 8)) rfl rfl ((L.set 9 (.int .i64 2)).set 10 (.int .i64 x)) hL0 (by first | omega | (simp; omega)) w.heap.size w hbw (Nat.le_refl _) ?_; intro w6 hL06 hbw6 ho6; have hL6 := hL6.other ho6 n2; have hLi := hLi.other ho6 n1; clear hL0 hbw ho6; have hL0 := hL06; have hbw := hbw6; clear hL06 hbw6; have fi := hLi.cell) | ((with_reducible refine at_op 140 ?_); refine wpList_get_row rfl 50 (.tmp 3) rfl w.heap.size (((L.set 9 (.int .i64 2)).set 10 (.int .i64 x)).set 8 (.int .i64 (wrap64 (pc + 8)))) rfl hL0 _ Try.underlying50 rfl (by rw [Hszp.out]; simp [hLn]) ?_) | ((with_reducible refine at_store 6 ?_); refine wpList_put_row rfl 50 (.tmp 6) (.tmp 140) rfl rfl w1.heap.size (((L.set 9 (.int .i64 2)).set 10 (.int .i64 x)).set 8 (.int .i64 (wrap64 (pc + 8)))) zl13 rfl rfl hL6 (by rw [Hszp.out]; simp [hLn]) (by simp [hLn, zl13]) (by rw [← HZ.out]; exact HO.out) w.heap.size w hbw (by omega) ?_; intro w9 hL6 hbw ho9; clear ho9))
  all_goals
    refine bodyPost_ret (v := .agg (((L.set 9 (.int .i64 2)).set 10 (.int .i64 x)).set 8 (.int .i64 (wrap64 (pc + 8)))).toArray) (results_hold rfl _ w1.heap.size (((L.set 9 (.int .i64 2)).set 10 (.int .i64 x)).set 8 (.int .i64 (wrap64 (pc + 8)))) _ rfl hL6 Try.underlying50 rfl (by rw [Hszp.out]; simp [hLn])) rfl ⟨ret_agg1 HZ.out, hbw⟩
set_option maxRecDepth 100000 in
set_option maxHeartbeats 4000000 in
theorem doneOf_call (p : Pr) (hp : p.r.length = 8) (imm value : Int) (a b c : Nat) (w : World) (hi : 1 < imm ∧ imm < 6) :
    Calls Try.prog 33 #[p.v, insV 16 a b c imm, .int .i64 value] w (RB (doneP p 16 a b c imm value).v w) := by
  have hsz : (Try.prog.info? 3).map (·.size) = some 1 := by kernel_rfl
  have Hsz1 := hid hsz; clear hsz
  have hsz : (Try.prog.info? 50).map (·.size) = some 13 := by kernel_rfl
  have Hszp := hid hsz; clear hsz
  have hLn := cells_len p hp
  have C8 := hid (cells_eight p hp)
  have HO := hid (cells_one (doneP p (16) a b c imm value))
  have HZ : Hid ((doneP p 16 a b c imm value).cells = (p.cells.set 0 (.int .i64 value)).set 8 (.int .i64 (wrap64 (p.pc + 8)))) := by
    refine hid ?_
    rw [cells_reg p 0 value hp (by decide), cells_pc _ _ (by simpa using hp)]
    unfold doneP
    rw [if_neg (by decide), if_neg (by omega), if_pos (by omega)]
    simp [jumpI]
  unfold Pr.v insV
  generalize (doneP p (16) a b c imm value).cells = Z at *
  generalize p.cells = L at *
  generalize p.pc = pc at *
  have k1 : (imm == 6) = false := by rw [beq_eq_false_iff_ne]; omega
  have k2 : (imm != 1) = true := by rw [bne_iff_ne]; omega
  clear hi
  go_enter Try.func33, Try.ntmps33
  go_wp2_with (first | ((with_reducible refine at_op 3 ?_); refine wpList_box_row rfl 50 (.tmp 0) rfl (some 3) rfl L rfl w.heap.size w (Below.refl _ _) (Nat.le_refl _) ?_; intro w0 hL0 hbw hz0 hg0; clear hg0) | ((with_reducible refine at_op 4 ?_); refine wpList_box_row rfl 38 (.tmp 1) rfl (some 4) rfl [.int .i64 (16), .int .i64 a, .int .i64 b, .int .i64 c, .int .i64 imm] rfl w.heap.size w hbw hbw.size ?_; intro w1 hLi hbw1 hz1 hg1; have hL0 := hL0.kept hg1; have n1 := Nat.ne_of_gt hz0; clear hbw hg1; have hbw := hbw1; clear hbw1) | ((with_reducible refine at_op 6 ?_); refine wpList_new_row rfl (some 6) rfl zl13 50 (by kernel_rfl) w.heap.size w hbw hbw.size ?_; intro w2 hL6 hbw2 hz2 hg2; have n2 := Nat.ne_of_gt hL0.lt; have n3 := Nat.ne_of_gt hz1; have hL0 := hL0.kept hg2; have hLi := hLi.kept hg2; clear hbw hg2; have hbw := hbw2; clear hbw2; have fi := hLi.cell; have f8 := (hL0.cell 8).trans C8.out; have zi := ltAll hLi.lt; have z0 := ltAll hL0.lt; skip) | ((with_reducible refine at_store 135 ?_); refine wpList_put_cell rfl 3 (.tmp 135) (.tmp 133) rfl rfl Hsz1.out w.heap.size 0 (value) rfl rfl (L) hL0 (by first | omega | (simp; omega)) w.heap.size w hbw (Nat.le_refl _) ?_; intro w6 hL06 hbw6 ho6; have hL6 := hL6.other ho6 n2; have hLi := hLi.other ho6 n1; clear hL0 hbw ho6; have hL0 := hL06; have hbw := hbw6; clear hL06 hbw6; have fi := hLi.cell) | ((with_reducible refine at_store 139 ?_); refine wpList_put_cell rfl 3 (.tmp 139) (.tmp 138) rfl rfl Hsz1.out w.heap.size 8 (wrap64 (pc + 8)) rfl rfl (L.set 0 (.int .i64 value)) hL0 (by first | omega | (simp; omega)) w.heap.size w hbw (Nat.le_refl _) ?_; intro w6 hL06 hbw6 ho6; have hL6 := hL6.other ho6 n2; have hLi := hLi.other ho6 n1; clear hL0 hbw ho6; have hL0 := hL06; have hbw := hbw6; clear hL06 hbw6; have fi := hLi.cell) | ((with_reducible refine at_op 140 ?_); refine wpList_get_row rfl 50 (.tmp 3) rfl w.heap.size ((L.set 0 (.int .i64 value)).set 8 (.int .i64 (wrap64 (pc + 8)))) rfl hL0 _ Try.underlying50 rfl (by rw [Hszp.out]; simp [hLn]) ?_) | ((with_reducible refine at_store 6 ?_); refine wpList_put_row rfl 50 (.tmp 6) (.tmp 140) rfl rfl w1.heap.size ((L.set 0 (.int .i64 value)).set 8 (.int .i64 (wrap64 (pc + 8)))) zl13 rfl rfl hL6 (by rw [Hszp.out]; simp [hLn]) (by simp [hLn, zl13]) (by rw [← HZ.out]; exact HO.out) w.heap.size w hbw (by omega) ?_; intro w9 hL6 hbw ho9; clear ho9))
  all_goals
    refine bodyPost_ret (v := .agg ((L.set 0 (.int .i64 value)).set 8 (.int .i64 (wrap64 (pc + 8)))).toArray) (results_hold rfl _ w1.heap.size ((L.set 0 (.int .i64 value)).set 8 (.int .i64 (wrap64 (pc + 8)))) _ rfl hL6 Try.underlying50 rfl (by rw [Hszp.out]; simp [hLn])) rfl ⟨ret_agg1 HZ.out, hbw⟩

theorem doneOf_any (p : Pr) (hp : p.r.length = 8) (op imm value : Int) (a b c : Nat) (w : World) (hbad : ¬ badI op a b c imm) :
    Calls Try.prog 33 #[p.v, insV op a b c imm, .int .i64 value] w (RB (doneP p op a b c imm value).v w) := by
  unfold badI useA useB useC at hbad
  by_cases h : 2 ≤ op ∧ op ≤ 7
  · exact doneOf_reck p hp op imm value a b c w h (by omega) (by omega) (by omega)
  rcases show op = 1 ∨ op = 8 ∨ op = 9 ∨ op = 10 ∨ op = 11 ∨ op = 12 ∨ op = 13 ∨ op = 14 ∨ op = 15 ∨ op = 16 by omega with h | h | h | h | h | h | h | h | h | h
  · subst h; exact doneOf_set p hp imm value a b c w (by omega)
  · subst h; exact doneOf_addi p hp imm value a b c w (by omega) (by omega)
  · subst h; exact doneOf_load p hp imm value a b c w (by omega)
  · subst h; exact doneOf_store p hp imm value a b c w
  · subst h; exact doneOf_here p hp imm value a b c w (by omega)
  · subst h; exact doneOf_jump p hp imm value a b c w
  · subst h
    by_cases he : p.reg a = p.reg b
    · exact doneOf_eq p hp imm value a b c w (by omega) (by omega) he
    · exact doneOf_ne p hp imm value a b c w (by omega) (by omega) he
  · subst h
    by_cases he : p.reg a < p.reg b
    · exact doneOf_lt p hp imm value a b c w (by omega) (by omega) he
    · exact doneOf_ge p hp imm value a b c w (by omega) (by omega) he
  · subst h; exact doneOf_go p hp imm value a b c w (by omega)
  · subst h
    rcases show imm = 1 ∨ imm = 6 ∨ (1 < imm ∧ imm < 6) by omega with h | h | h
    · subst h; exact doneOf_out p hp value a b c w
    · subst h; exact doneOf_exit p hp value a b c w
    · exact doneOf_call p hp imm value a b c w h
end Go.Proofs.Ytejnpppejalhfaa
