/- The contract of the reference's DoneOf. -/
import Derived.Test.YtejnpppejalhfaaCpu10
namespace Go.Proofs.Ytejnpppejalhfaa
open Go.RowKit Go.Sort

theorem ret_agg1 {L Z : List Value} (h : Z = L) : Ending.returned (.agg L.toArray) = .returned (.agg Z.toArray) := by rw [h]
theorem cells_eight (p : Pr) (hp : p.r.length = 8) : p.cells[8]? = some (.int .i64 p.pc) := by
  simp [Pr.cells, hp, List.getElem?_append_right]
-- op 1
set_option maxRecDepth 100000 in
set_option maxHeartbeats 4000000 in
theorem doneOf_set (p : Pr) (hp : p.r.length = 8) (imm value : Int) (a b c : Nat) (w : World) (ka : (a : Int) < 8) :
    Calls Try.prog 33 #[p.v, insV 1 a b c imm, .int .i64 value] w (RB (doneP p 1 a b c imm value).v w) := by
  have hsz : (Try.prog.info? 3).map (·.size) = some 1 := by kernel_rfl
  have Hsz1 := hid hsz; clear hsz
  have hsz : (Try.prog.info? 50).map (·.size) = some 13 := by kernel_rfl
  have Hszp := hid hsz; clear hsz
  have hLn := cells_len p hp
  have C8 := hid (cells_eight p hp)
  have HO := hid (cells_one (doneP p (1) a b c imm value))
  have HZ : Hid ((doneP p 1 a b c imm value).cells = (p.cells.set a (.int .i64 imm)).set 8 (.int .i64 (wrap64 (p.pc + 8)))) := by
    refine hid ?_
    rw [cells_reg p a _ hp (by omega), cells_pc _ _ (by simpa using hp)]
    unfold doneP
    rw [if_pos (by decide)]
    simp [jumpI, workI]
  unfold Pr.v insV
  generalize (doneP p (1) a b c imm value).cells = Z at *
  generalize p.cells = L at *
  generalize p.pc = pc at *
  go_enter Try.func33, Try.ntmps33
  go_wp2_with (first | ((with_reducible refine at_op 3 ?_); refine wpList_box_row rfl 50 (.tmp 0) rfl (some 3) rfl L rfl w.heap.size w (Below.refl _ _) (Nat.le_refl _) ?_; intro w0 hL0 hbw hz0 hg0; clear hg0) | ((with_reducible refine at_op 4 ?_); refine wpList_box_row rfl 38 (.tmp 1) rfl (some 4) rfl [.int .i64 (1), .int .i64 a, .int .i64 b, .int .i64 c, .int .i64 imm] rfl w.heap.size w hbw hbw.size ?_; intro w1 hLi hbw1 hz1 hg1; have hL0 := hL0.kept hg1; have n1 := Nat.ne_of_gt hz0; clear hbw hg1; have hbw := hbw1; clear hbw1) | ((with_reducible refine at_op 6 ?_); refine wpList_new_row rfl (some 6) rfl zl13 50 (by kernel_rfl) w.heap.size w hbw hbw.size ?_; intro w2 hL6 hbw2 hz2 hg2; have n2 := Nat.ne_of_gt hL0.lt; have n3 := Nat.ne_of_gt hz1; have hL0 := hL0.kept hg2; have hLi := hLi.kept hg2; clear hbw hg2; have hbw := hbw2; clear hbw2; have fi := hLi.cell; have f8 := (hL0.cell 8).trans C8.out; have zi := ltAll hLi.lt; have z0 := ltAll hL0.lt; skip) | ((with_reducible refine at_store 37 ?_); refine wpList_put_cell rfl 3 (.tmp 37) (.tmp 35) rfl rfl Hsz1.out w.heap.size a (imm) rfl rfl (L) hL0 (by first | omega | (simp; omega)) w.heap.size w hbw (Nat.le_refl _) ?_; intro w6 hL06 hbw6 ho6; have hL6 := hL6.other ho6 n2; have hLi := hLi.other ho6 n1; clear hL0 hbw ho6; have hL0 := hL06; have hbw := hbw6; clear hL06 hbw6; have fi := hLi.cell) | ((with_reducible refine at_store 139 ?_); refine wpList_put_cell rfl 3 (.tmp 139) (.tmp 138) rfl rfl Hsz1.out w.heap.size 8 (wrap64 (pc + 8)) rfl rfl (L.set a (.int .i64 imm)) hL0 (by first | omega | (simp; omega)) w.heap.size w hbw (Nat.le_refl _) ?_; intro w6 hL06 hbw6 ho6; have hL6 := hL6.other ho6 n2; have hLi := hLi.other ho6 n1; clear hL0 hbw ho6; have hL0 := hL06; have hbw := hbw6; clear hL06 hbw6; have fi := hLi.cell) | ((with_reducible refine at_op 140 ?_); refine wpList_get_row rfl 50 (.tmp 3) rfl w.heap.size ((L.set a (.int .i64 imm)).set 8 (.int .i64 (wrap64 (pc + 8)))) rfl hL0 _ Try.underlying50 rfl (by rw [Hszp.out]; simp [hLn]) ?_) | ((with_reducible refine at_store 6 ?_); refine wpList_put_row rfl 50 (.tmp 6) (.tmp 140) rfl rfl w1.heap.size ((L.set a (.int .i64 imm)).set 8 (.int .i64 (wrap64 (pc + 8)))) zl13 rfl rfl hL6 (by rw [Hszp.out]; simp [hLn]) (by simp [hLn, zl13]) (by rw [← HZ.out]; exact HO.out) w.heap.size w hbw (by omega) ?_; intro w9 hL6 hbw ho9; clear ho9))
  all_goals
    refine bodyPost_ret (v := .agg ((L.set a (.int .i64 imm)).set 8 (.int .i64 (wrap64 (pc + 8)))).toArray) (results_hold rfl _ w1.heap.size ((L.set a (.int .i64 imm)).set 8 (.int .i64 (wrap64 (pc + 8)))) _ rfl hL6 Try.underlying50 rfl (by rw [Hszp.out]; simp [hLn])) rfl ⟨ret_agg1 HZ.out, hbw⟩
-- op 9
set_option maxRecDepth 100000 in
set_option maxHeartbeats 4000000 in
theorem doneOf_load (p : Pr) (hp : p.r.length = 8) (imm value : Int) (a b c : Nat) (w : World) (ka : (a : Int) < 8) :
    Calls Try.prog 33 #[p.v, insV 9 a b c imm, .int .i64 value] w (RB (doneP p 9 a b c imm value).v w) := by
  have hsz : (Try.prog.info? 3).map (·.size) = some 1 := by kernel_rfl
  have Hsz1 := hid hsz; clear hsz
  have hsz : (Try.prog.info? 50).map (·.size) = some 13 := by kernel_rfl
  have Hszp := hid hsz; clear hsz
  have hLn := cells_len p hp
  have C8 := hid (cells_eight p hp)
  have HO := hid (cells_one (doneP p (9) a b c imm value))
  have HZ : Hid ((doneP p 9 a b c imm value).cells = (p.cells.set a (.int .i64 value)).set 8 (.int .i64 (wrap64 (p.pc + 8)))) := by
    refine hid ?_
    rw [cells_reg p a _ hp (by omega), cells_pc _ _ (by simpa using hp)]
    unfold doneP
    rw [if_pos (by decide)]
    simp [jumpI, workI]
  unfold Pr.v insV
  generalize (doneP p (9) a b c imm value).cells = Z at *
  generalize p.cells = L at *
  generalize p.pc = pc at *
  go_enter Try.func33, Try.ntmps33
  go_wp2_with (first | ((with_reducible refine at_op 3 ?_); refine wpList_box_row rfl 50 (.tmp 0) rfl (some 3) rfl L rfl w.heap.size w (Below.refl _ _) (Nat.le_refl _) ?_; intro w0 hL0 hbw hz0 hg0; clear hg0) | ((with_reducible refine at_op 4 ?_); refine wpList_box_row rfl 38 (.tmp 1) rfl (some 4) rfl [.int .i64 (9), .int .i64 a, .int .i64 b, .int .i64 c, .int .i64 imm] rfl w.heap.size w hbw hbw.size ?_; intro w1 hLi hbw1 hz1 hg1; have hL0 := hL0.kept hg1; have n1 := Nat.ne_of_gt hz0; clear hbw hg1; have hbw := hbw1; clear hbw1) | ((with_reducible refine at_op 6 ?_); refine wpList_new_row rfl (some 6) rfl zl13 50 (by kernel_rfl) w.heap.size w hbw hbw.size ?_; intro w2 hL6 hbw2 hz2 hg2; have n2 := Nat.ne_of_gt hL0.lt; have n3 := Nat.ne_of_gt hz1; have hL0 := hL0.kept hg2; have hLi := hLi.kept hg2; clear hbw hg2; have hbw := hbw2; clear hbw2; have fi := hLi.cell; have f8 := (hL0.cell 8).trans C8.out; have zi := ltAll hLi.lt; have z0 := ltAll hL0.lt; skip) | ((with_reducible refine at_store 58 ?_); refine wpList_put_cell rfl 3 (.tmp 58) (.tmp 56) rfl rfl Hsz1.out w.heap.size a (value) rfl rfl (L) hL0 (by first | omega | (simp; omega)) w.heap.size w hbw (Nat.le_refl _) ?_; intro w6 hL06 hbw6 ho6; have hL6 := hL6.other ho6 n2; have hLi := hLi.other ho6 n1; clear hL0 hbw ho6; have hL0 := hL06; have hbw := hbw6; clear hL06 hbw6; have fi := hLi.cell) | ((with_reducible refine at_store 139 ?_); refine wpList_put_cell rfl 3 (.tmp 139) (.tmp 138) rfl rfl Hsz1.out w.heap.size 8 (wrap64 (pc + 8)) rfl rfl (L.set a (.int .i64 value)) hL0 (by first | omega | (simp; omega)) w.heap.size w hbw (Nat.le_refl _) ?_; intro w6 hL06 hbw6 ho6; have hL6 := hL6.other ho6 n2; have hLi := hLi.other ho6 n1; clear hL0 hbw ho6; have hL0 := hL06; have hbw := hbw6; clear hL06 hbw6; have fi := hLi.cell) | ((with_reducible refine at_op 140 ?_); refine wpList_get_row rfl 50 (.tmp 3) rfl w.heap.size ((L.set a (.int .i64 value)).set 8 (.int .i64 (wrap64 (pc + 8)))) rfl hL0 _ Try.underlying50 rfl (by rw [Hszp.out]; simp [hLn]) ?_) | ((with_reducible refine at_store 6 ?_); refine wpList_put_row rfl 50 (.tmp 6) (.tmp 140) rfl rfl w1.heap.size ((L.set a (.int .i64 value)).set 8 (.int .i64 (wrap64 (pc + 8)))) zl13 rfl rfl hL6 (by rw [Hszp.out]; simp [hLn]) (by simp [hLn, zl13]) (by rw [← HZ.out]; exact HO.out) w.heap.size w hbw (by omega) ?_; intro w9 hL6 hbw ho9; clear ho9))
  all_goals
    refine bodyPost_ret (v := .agg ((L.set a (.int .i64 value)).set 8 (.int .i64 (wrap64 (pc + 8)))).toArray) (results_hold rfl _ w1.heap.size ((L.set a (.int .i64 value)).set 8 (.int .i64 (wrap64 (pc + 8)))) _ rfl hL6 Try.underlying50 rfl (by rw [Hszp.out]; simp [hLn])) rfl ⟨ret_agg1 HZ.out, hbw⟩
-- op 11
set_option maxRecDepth 100000 in
set_option maxHeartbeats 4000000 in
theorem doneOf_here (p : Pr) (hp : p.r.length = 8) (imm value : Int) (a b c : Nat) (w : World) (ka : (a : Int) < 8) :
    Calls Try.prog 33 #[p.v, insV 11 a b c imm, .int .i64 value] w (RB (doneP p 11 a b c imm value).v w) := by
  have hsz : (Try.prog.info? 3).map (·.size) = some 1 := by kernel_rfl
  have Hsz1 := hid hsz; clear hsz
  have hsz : (Try.prog.info? 50).map (·.size) = some 13 := by kernel_rfl
  have Hszp := hid hsz; clear hsz
  have hLn := cells_len p hp
  have C8 := hid (cells_eight p hp)
  have HO := hid (cells_one (doneP p (11) a b c imm value))
  have HZ : Hid ((doneP p 11 a b c imm value).cells = (p.cells.set a (.int .i64 (wrap64 (p.pc + imm)))).set 8 (.int .i64 (wrap64 (p.pc + 8)))) := by
    refine hid ?_
    rw [cells_reg p a _ hp (by omega), cells_pc _ _ (by simpa using hp)]
    unfold doneP
    rw [if_pos (by decide)]
    simp [jumpI, workI]
  unfold Pr.v insV
  generalize (doneP p (11) a b c imm value).cells = Z at *
  generalize p.cells = L at *
  generalize p.pc = pc at *
  go_enter Try.func33, Try.ntmps33
  go_wp2_with (first | ((with_reducible refine at_op 3 ?_); refine wpList_box_row rfl 50 (.tmp 0) rfl (some 3) rfl L rfl w.heap.size w (Below.refl _ _) (Nat.le_refl _) ?_; intro w0 hL0 hbw hz0 hg0; clear hg0) | ((with_reducible refine at_op 4 ?_); refine wpList_box_row rfl 38 (.tmp 1) rfl (some 4) rfl [.int .i64 (11), .int .i64 a, .int .i64 b, .int .i64 c, .int .i64 imm] rfl w.heap.size w hbw hbw.size ?_; intro w1 hLi hbw1 hz1 hg1; have hL0 := hL0.kept hg1; have n1 := Nat.ne_of_gt hz0; clear hbw hg1; have hbw := hbw1; clear hbw1) | ((with_reducible refine at_op 6 ?_); refine wpList_new_row rfl (some 6) rfl zl13 50 (by kernel_rfl) w.heap.size w hbw hbw.size ?_; intro w2 hL6 hbw2 hz2 hg2; have n2 := Nat.ne_of_gt hL0.lt; have n3 := Nat.ne_of_gt hz1; have hL0 := hL0.kept hg2; have hLi := hLi.kept hg2; clear hbw hg2; have hbw := hbw2; clear hbw2; have fi := hLi.cell; have f8 := (hL0.cell 8).trans C8.out; have zi := ltAll hLi.lt; have z0 := ltAll hL0.lt; skip) | ((with_reducible refine at_store 69 ?_); refine wpList_put_cell rfl 3 (.tmp 69) (.tmp 67) rfl rfl Hsz1.out w.heap.size a (wrap64 (pc + imm)) rfl rfl (L) hL0 (by first | omega | (simp; omega)) w.heap.size w hbw (Nat.le_refl _) ?_; intro w6 hL06 hbw6 ho6; have hL6 := hL6.other ho6 n2; have hLi := hLi.other ho6 n1; clear hL0 hbw ho6; have hL0 := hL06; have hbw := hbw6; clear hL06 hbw6; have fi := hLi.cell) | ((with_reducible refine at_store 139 ?_); refine wpList_put_cell rfl 3 (.tmp 139) (.tmp 138) rfl rfl Hsz1.out w.heap.size 8 (wrap64 (pc + 8)) rfl rfl (L.set a (.int .i64 (wrap64 (pc + imm)))) hL0 (by first | omega | (simp; omega)) w.heap.size w hbw (Nat.le_refl _) ?_; intro w6 hL06 hbw6 ho6; have hL6 := hL6.other ho6 n2; have hLi := hLi.other ho6 n1; clear hL0 hbw ho6; have hL0 := hL06; have hbw := hbw6; clear hL06 hbw6; have fi := hLi.cell) | ((with_reducible refine at_op 140 ?_); refine wpList_get_row rfl 50 (.tmp 3) rfl w.heap.size ((L.set a (.int .i64 (wrap64 (pc + imm)))).set 8 (.int .i64 (wrap64 (pc + 8)))) rfl hL0 _ Try.underlying50 rfl (by rw [Hszp.out]; simp [hLn]) ?_) | ((with_reducible refine at_store 6 ?_); refine wpList_put_row rfl 50 (.tmp 6) (.tmp 140) rfl rfl w1.heap.size ((L.set a (.int .i64 (wrap64 (pc + imm)))).set 8 (.int .i64 (wrap64 (pc + 8)))) zl13 rfl rfl hL6 (by rw [Hszp.out]; simp [hLn]) (by simp [hLn, zl13]) (by rw [← HZ.out]; exact HO.out) w.heap.size w hbw (by omega) ?_; intro w9 hL6 hbw ho9; clear ho9))
  all_goals
    refine bodyPost_ret (v := .agg ((L.set a (.int .i64 (wrap64 (pc + imm)))).set 8 (.int .i64 (wrap64 (pc + 8)))).toArray) (results_hold rfl _ w1.heap.size ((L.set a (.int .i64 (wrap64 (pc + imm)))).set 8 (.int .i64 (wrap64 (pc + 8)))) _ rfl hL6 Try.underlying50 rfl (by rw [Hszp.out]; simp [hLn])) rfl ⟨ret_agg1 HZ.out, hbw⟩
-- op 12
set_option maxRecDepth 100000 in
set_option maxHeartbeats 4000000 in
theorem doneOf_jump (p : Pr) (hp : p.r.length = 8) (imm value : Int) (a b c : Nat) (w : World) :
    Calls Try.prog 33 #[p.v, insV 12 a b c imm, .int .i64 value] w (RB (doneP p 12 a b c imm value).v w) := by
  have hsz : (Try.prog.info? 3).map (·.size) = some 1 := by kernel_rfl
  have Hsz1 := hid hsz; clear hsz
  have hsz : (Try.prog.info? 50).map (·.size) = some 13 := by kernel_rfl
  have Hszp := hid hsz; clear hsz
  have hLn := cells_len p hp
  have C8 := hid (cells_eight p hp)
  have HO := hid (cells_one (doneP p (12) a b c imm value))
  have HZ : Hid ((doneP p 12 a b c imm value).cells = p.cells.set 8 (.int .i64 (wrap64 (p.pc + imm)))) := by
    refine hid ?_
    rw [cells_pc _ _ (by simpa using hp)]
    unfold doneP
    rw [if_neg (by decide), if_neg (by omega), if_neg (by omega)]
    simp [jumpI]
  unfold Pr.v insV
  generalize (doneP p (12) a b c imm value).cells = Z at *
  generalize p.cells = L at *
  generalize p.pc = pc at *
  go_enter Try.func33, Try.ntmps33
  go_wp2_with (first | ((with_reducible refine at_op 3 ?_); refine wpList_box_row rfl 50 (.tmp 0) rfl (some 3) rfl L rfl w.heap.size w (Below.refl _ _) (Nat.le_refl _) ?_; intro w0 hL0 hbw hz0 hg0; clear hg0) | ((with_reducible refine at_op 4 ?_); refine wpList_box_row rfl 38 (.tmp 1) rfl (some 4) rfl [.int .i64 (12), .int .i64 a, .int .i64 b, .int .i64 c, .int .i64 imm] rfl w.heap.size w hbw hbw.size ?_; intro w1 hLi hbw1 hz1 hg1; have hL0 := hL0.kept hg1; have n1 := Nat.ne_of_gt hz0; clear hbw hg1; have hbw := hbw1; clear hbw1) | ((with_reducible refine at_op 6 ?_); refine wpList_new_row rfl (some 6) rfl zl13 50 (by kernel_rfl) w.heap.size w hbw hbw.size ?_; intro w2 hL6 hbw2 hz2 hg2; have n2 := Nat.ne_of_gt hL0.lt; have n3 := Nat.ne_of_gt hz1; have hL0 := hL0.kept hg2; have hLi := hLi.kept hg2; clear hbw hg2; have hbw := hbw2; clear hbw2; have fi := hLi.cell; have f8 := (hL0.cell 8).trans C8.out; have zi := ltAll hLi.lt; have z0 := ltAll hL0.lt; skip) | ((with_reducible refine at_store 139 ?_); refine wpList_put_cell rfl 3 (.tmp 139) (.tmp 138) rfl rfl Hsz1.out w.heap.size 8 (wrap64 (pc + imm)) rfl rfl (L) hL0 (by first | omega | (simp; omega)) w.heap.size w hbw (Nat.le_refl _) ?_; intro w6 hL06 hbw6 ho6; have hL6 := hL6.other ho6 n2; have hLi := hLi.other ho6 n1; clear hL0 hbw ho6; have hL0 := hL06; have hbw := hbw6; clear hL06 hbw6; have fi := hLi.cell) | ((with_reducible refine at_op 140 ?_); refine wpList_get_row rfl 50 (.tmp 3) rfl w.heap.size ((L).set 8 (.int .i64 (wrap64 (pc + imm)))) rfl hL0 _ Try.underlying50 rfl (by rw [Hszp.out]; simp [hLn]) ?_) | ((with_reducible refine at_store 6 ?_); refine wpList_put_row rfl 50 (.tmp 6) (.tmp 140) rfl rfl w1.heap.size ((L).set 8 (.int .i64 (wrap64 (pc + imm)))) zl13 rfl rfl hL6 (by rw [Hszp.out]; simp [hLn]) (by simp [hLn, zl13]) (by rw [← HZ.out]; exact HO.out) w.heap.size w hbw (by omega) ?_; intro w9 hL6 hbw ho9; clear ho9))
  all_goals
    refine bodyPost_ret (v := .agg ((L).set 8 (.int .i64 (wrap64 (pc + imm)))).toArray) (results_hold rfl _ w1.heap.size ((L).set 8 (.int .i64 (wrap64 (pc + imm)))) _ rfl hL6 Try.underlying50 rfl (by rw [Hszp.out]; simp [hLn])) rfl ⟨ret_agg1 HZ.out, hbw⟩
-- op 10
set_option maxRecDepth 100000 in
set_option maxHeartbeats 4000000 in
theorem doneOf_store (p : Pr) (hp : p.r.length = 8) (imm value : Int) (a b c : Nat) (w : World) :
    Calls Try.prog 33 #[p.v, insV 10 a b c imm, .int .i64 value] w (RB (doneP p 10 a b c imm value).v w) := by
  have hsz : (Try.prog.info? 3).map (·.size) = some 1 := by kernel_rfl
  have Hsz1 := hid hsz; clear hsz
  have hsz : (Try.prog.info? 50).map (·.size) = some 13 := by kernel_rfl
  have Hszp := hid hsz; clear hsz
  have hLn := cells_len p hp
  have C8 := hid (cells_eight p hp)
  have HO := hid (cells_one (doneP p (10) a b c imm value))
  have HZ : Hid ((doneP p 10 a b c imm value).cells = p.cells.set 8 (.int .i64 (wrap64 (p.pc + 8)))) := by
    refine hid ?_
    rw [cells_pc _ _ (by simpa using hp)]
    unfold doneP
    rw [if_neg (by decide), if_neg (by omega), if_neg (by omega)]
    simp [jumpI]
  unfold Pr.v insV
  generalize (doneP p (10) a b c imm value).cells = Z at *
  generalize p.cells = L at *
  generalize p.pc = pc at *
  go_enter Try.func33, Try.ntmps33
  go_wp2_with (first | ((with_reducible refine at_op 3 ?_); refine wpList_box_row rfl 50 (.tmp 0) rfl (some 3) rfl L rfl w.heap.size w (Below.refl _ _) (Nat.le_refl _) ?_; intro w0 hL0 hbw hz0 hg0; clear hg0) | ((with_reducible refine at_op 4 ?_); refine wpList_box_row rfl 38 (.tmp 1) rfl (some 4) rfl [.int .i64 (10), .int .i64 a, .int .i64 b, .int .i64 c, .int .i64 imm] rfl w.heap.size w hbw hbw.size ?_; intro w1 hLi hbw1 hz1 hg1; have hL0 := hL0.kept hg1; have n1 := Nat.ne_of_gt hz0; clear hbw hg1; have hbw := hbw1; clear hbw1) | ((with_reducible refine at_op 6 ?_); refine wpList_new_row rfl (some 6) rfl zl13 50 (by kernel_rfl) w.heap.size w hbw hbw.size ?_; intro w2 hL6 hbw2 hz2 hg2; have n2 := Nat.ne_of_gt hL0.lt; have n3 := Nat.ne_of_gt hz1; have hL0 := hL0.kept hg2; have hLi := hLi.kept hg2; clear hbw hg2; have hbw := hbw2; clear hbw2; have fi := hLi.cell; have f8 := (hL0.cell 8).trans C8.out; have zi := ltAll hLi.lt; have z0 := ltAll hL0.lt; skip) | ((with_reducible refine at_store 139 ?_); refine wpList_put_cell rfl 3 (.tmp 139) (.tmp 138) rfl rfl Hsz1.out w.heap.size 8 (wrap64 (pc + 8)) rfl rfl (L) hL0 (by first | omega | (simp; omega)) w.heap.size w hbw (Nat.le_refl _) ?_; intro w6 hL06 hbw6 ho6; have hL6 := hL6.other ho6 n2; have hLi := hLi.other ho6 n1; clear hL0 hbw ho6; have hL0 := hL06; have hbw := hbw6; clear hL06 hbw6; have fi := hLi.cell) | ((with_reducible refine at_op 140 ?_); refine wpList_get_row rfl 50 (.tmp 3) rfl w.heap.size ((L).set 8 (.int .i64 (wrap64 (pc + 8)))) rfl hL0 _ Try.underlying50 rfl (by rw [Hszp.out]; simp [hLn]) ?_) | ((with_reducible refine at_store 6 ?_); refine wpList_put_row rfl 50 (.tmp 6) (.tmp 140) rfl rfl w1.heap.size ((L).set 8 (.int .i64 (wrap64 (pc + 8)))) zl13 rfl rfl hL6 (by rw [Hszp.out]; simp [hLn]) (by simp [hLn, zl13]) (by rw [← HZ.out]; exact HO.out) w.heap.size w hbw (by omega) ?_; intro w9 hL6 hbw ho9; clear ho9))
  all_goals
    refine bodyPost_ret (v := .agg ((L).set 8 (.int .i64 (wrap64 (pc + 8)))).toArray) (results_hold rfl _ w1.heap.size ((L).set 8 (.int .i64 (wrap64 (pc + 8)))) _ rfl hL6 Try.underlying50 rfl (by rw [Hszp.out]; simp [hLn])) rfl ⟨ret_agg1 HZ.out, hbw⟩
-- op 15
set_option maxRecDepth 100000 in
set_option maxHeartbeats 4000000 in
theorem doneOf_go (p : Pr) (hp : p.r.length = 8) (imm value : Int) (a b c : Nat) (w : World) (ka : (a : Int) < 8) :
    Calls Try.prog 33 #[p.v, insV 15 a b c imm, .int .i64 value] w (RB (doneP p 15 a b c imm value).v w) := by
  have hsz : (Try.prog.info? 3).map (·.size) = some 1 := by kernel_rfl
  have Hsz1 := hid hsz; clear hsz
  have hsz : (Try.prog.info? 50).map (·.size) = some 13 := by kernel_rfl
  have Hszp := hid hsz; clear hsz
  have hLn := cells_len p hp
  have C8 := hid (cells_eight p hp)
  have HO := hid (cells_one (doneP p (15) a b c imm value))
  obtain ⟨y, hy⟩ : ∃ y, y = p.reg a := ⟨_, rfl⟩
  have CA := hid (cells_at p hp a (by omega))
  rw [← hy] at CA
  have HZ : Hid ((doneP p 15 a b c imm value).cells = p.cells.set 8 (.int .i64 y)) := by
    refine hid ?_
    rw [cells_pc _ _ (by simpa using hp)]
    unfold doneP
    rw [if_neg (by decide), if_neg (by omega), if_neg (by omega)]
    simp [jumpI, hy]
  clear hy
  unfold Pr.v insV
  generalize (doneP p (15) a b c imm value).cells = Z at *
  generalize p.cells = L at *
  generalize p.pc = pc at *
  go_enter Try.func33, Try.ntmps33
  go_wp2_with (first | ((with_reducible refine at_op 3 ?_); refine wpList_box_row rfl 50 (.tmp 0) rfl (some 3) rfl L rfl w.heap.size w (Below.refl _ _) (Nat.le_refl _) ?_; intro w0 hL0 hbw hz0 hg0; clear hg0) | ((with_reducible refine at_op 4 ?_); refine wpList_box_row rfl 38 (.tmp 1) rfl (some 4) rfl [.int .i64 (15), .int .i64 a, .int .i64 b, .int .i64 c, .int .i64 imm] rfl w.heap.size w hbw hbw.size ?_; intro w1 hLi hbw1 hz1 hg1; have hL0 := hL0.kept hg1; have n1 := Nat.ne_of_gt hz0; clear hbw hg1; have hbw := hbw1; clear hbw1) | ((with_reducible refine at_op 6 ?_); refine wpList_new_row rfl (some 6) rfl zl13 50 (by kernel_rfl) w.heap.size w hbw hbw.size ?_; intro w2 hL6 hbw2 hz2 hg2; have n2 := Nat.ne_of_gt hL0.lt; have n3 := Nat.ne_of_gt hz1; have hL0 := hL0.kept hg2; have hLi := hLi.kept hg2; clear hbw hg2; have hbw := hbw2; clear hbw2; have fi := hLi.cell; have f8 := (hL0.cell 8).trans C8.out; have zi := ltAll hLi.lt; have z0 := ltAll hL0.lt; have fa := (hL0.cell a).trans CA.out) | ((with_reducible refine at_store 139 ?_); refine wpList_put_cell rfl 3 (.tmp 139) (.tmp 138) rfl rfl Hsz1.out w.heap.size 8 (y) rfl rfl (L) hL0 (by first | omega | (simp; omega)) w.heap.size w hbw (Nat.le_refl _) ?_; intro w6 hL06 hbw6 ho6; have hL6 := hL6.other ho6 n2; have hLi := hLi.other ho6 n1; clear hL0 hbw ho6; have hL0 := hL06; have hbw := hbw6; clear hL06 hbw6; have fi := hLi.cell) | ((with_reducible refine at_op 140 ?_); refine wpList_get_row rfl 50 (.tmp 3) rfl w.heap.size ((L).set 8 (.int .i64 (y))) rfl hL0 _ Try.underlying50 rfl (by rw [Hszp.out]; simp [hLn]) ?_) | ((with_reducible refine at_store 6 ?_); refine wpList_put_row rfl 50 (.tmp 6) (.tmp 140) rfl rfl w1.heap.size ((L).set 8 (.int .i64 (y))) zl13 rfl rfl hL6 (by rw [Hszp.out]; simp [hLn]) (by simp [hLn, zl13]) (by rw [← HZ.out]; exact HO.out) w.heap.size w hbw (by omega) ?_; intro w9 hL6 hbw ho9; clear ho9))
  all_goals
    refine bodyPost_ret (v := .agg ((L).set 8 (.int .i64 (y))).toArray) (results_hold rfl _ w1.heap.size ((L).set 8 (.int .i64 (y))) _ rfl hL6 Try.underlying50 rfl (by rw [Hszp.out]; simp [hLn])) rfl ⟨ret_agg1 HZ.out, hbw⟩
end Go.Proofs.Ytejnpppejalhfaa
