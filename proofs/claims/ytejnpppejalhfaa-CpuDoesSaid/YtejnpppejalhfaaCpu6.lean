/- The contract of Ask. -/
import Derived.Test.YtejnpppejalhfaaCpu5
import Derived.BigRegion
namespace Go.Proofs.Ytejnpppejalhfaa
open Go.RowKit Go.Sort

/-- what an instruction that is not bad asks for -/
def askL (p : Pr) (op : Int) (a b c : Nat) (imm : Int) : List Value :=
  if op = 9 then [.int .i64 1, .int .i64 (wrap64 (p.reg b + imm)), .int .i64 c, .int .i64 0, .int .i64 0]
  else if op = 10 then [.int .i64 2, .int .i64 (wrap64 (p.reg b + imm)), .int .i64 c, .int .i64 (p.reg a), .int .i64 0]
  else if op = 16 then [.int .i64 3, .int .i64 0, .int .i64 0, .int .i64 0, .int .i64 imm]
  else zl5
def badL : List Value := [.int .i64 4, .int .i64 0, .int .i64 0, .int .i64 0, .int .i64 0]


set_option maxRecDepth 100000 in
set_option maxHeartbeats 4000000 in
theorem ask_no (p : Pr) (s : ByteArray) (w : World) (hdec : ∀ w, Calls Try.prog 24 #[.string s] w (RB (.tuple #[insV 0 0 0 0 0, .int .i64 3]) w)) :
    Calls Try.prog 29 #[p.v, .string s] w (RB (.tuple #[.agg zl5.toArray, .int .i64 3]) w) := by
  have HD := hid hdec
  unfold insV at HD
  clear hdec
  have hsz : (Try.prog.info? 38).map (·.size) = some 5 := by kernel_rfl
  have Hsz5 := hid hsz; clear hsz
  have hsz : (Try.prog.info? 52).map (·.size) = some 5 := by kernel_rfl
  have Hsza := hid hsz; clear hsz
  have hsz : (Try.prog.info? 3).map (·.size) = some 1 := by kernel_rfl
  have Hsz1 := hid hsz; clear hsz
  unfold Pr.v
  generalize p.cells = L
  go_enter Try.func29, Try.ntmps29
  go_wp2_with (first | ((with_reducible refine at_op 2 ?_); refine wpList_box_row rfl 50 (.tmp 0) rfl (some 2) rfl L rfl w.heap.size w (Below.refl _ _) (Nat.le_refl _) ?_; intro w0 hL0 hbw hz0 hg0; clear hg0) | ((go_at_call 24; (with_reducible refine (HD.out _).mono ?_); rintro e w1 ⟨rfl, hb1⟩); have hL6 := (hold_zl5 _ _).grown hb1 (by simp); have hL0 := hL0.past ((Below.refl _ w0).alloc (Nat.le_refl _) _) hb1; have hbw := bt (hbw.alloc hbw.size _) hb1; clear hb1; have z6 := ltAll hL6.lt) | ((with_reducible refine at_store 4 ?_); refine wpList_put_row rfl 52 (.tmp 4) (.tmp 16) rfl rfl w0.heap.size zl5 zl5 rfl rfl (hL6.grown (?cb : Below w1.heap.size w1 _) hL6.lt) Hsza.out rfl rfl w.heap.size w ?cc (Nat.le_of_lt hz0) ?_; (case cb => exact (by repeat (first | (with_reducible exact Below.refl _ _) | (with_reducible assumption) | (with_reducible refine Below.alloc ?_ (by first | omega | (simp; done) | (simp; omega)) _) | (with_reducible refine Below.setCell ?_ (by first | omega | (simp; done) | (simp; omega)) _) | (with_reducible refine Below.drew ?_) | (with_reducible refine bt ?_ (below_regrown _ _ _)) | (refine bt ?_ (by with_reducible assumption))))); (case cc => exact (by repeat (first | (with_reducible exact Below.refl _ _) | (with_reducible assumption) | (with_reducible refine Below.alloc ?_ (by first | omega | (simp; done) | (simp; omega)) _) | (with_reducible refine Below.setCell ?_ (by first | omega | (simp; done) | (simp; omega)) _) | (with_reducible refine Below.drew ?_) | (with_reducible refine bt ?_ (below_regrown _ _ _)) | (refine bt ?_ (by with_reducible assumption))))); intro w9 hL6 hbw ho9; clear ho9))
  all_goals
    refine bodyPost_ret (v := .tuple #[.agg (zl5).toArray, .int .i64 3]) (results_hold2 rfl _ w0.heap.size (zl5) _ _ rfl rfl hL6 Try.underlying52 rfl Hsza.out) rfl ⟨rfl, hbw⟩

set_option maxRecDepth 100000 in
set_option maxHeartbeats 4000000 in
theorem ask_bad (p : Pr) (s : ByteArray) (op a b c imm : Int) (w : World) (hdec : ∀ w, Calls Try.prog 24 #[.string s] w (RB (.tuple #[insV op a b c imm, .int .i64 0]) w)) (hbad : badI op a b c imm) :
    Calls Try.prog 29 #[p.v, .string s] w (RB (.tuple #[.agg badL.toArray, .int .i64 0]) w) := by
  have HD := hid hdec
  have HB := hid (fun w => bad_any op a b c imm w true ⟨fun _ => hbad, fun _ => rfl⟩)
  unfold insV at HD HB
  clear hdec
  have hsz : (Try.prog.info? 38).map (·.size) = some 5 := by kernel_rfl
  have Hsz5 := hid hsz; clear hsz
  have hsz : (Try.prog.info? 52).map (·.size) = some 5 := by kernel_rfl
  have Hsza := hid hsz; clear hsz
  have hsz : (Try.prog.info? 3).map (·.size) = some 1 := by kernel_rfl
  have Hsz1 := hid hsz; clear hsz
  unfold Pr.v
  generalize p.cells = L
  go_enter Try.func29, Try.ntmps29
  go_wp2_with (first | ((with_reducible refine at_op 2 ?_); refine wpList_box_row rfl 50 (.tmp 0) rfl (some 2) rfl L rfl w.heap.size w (Below.refl _ _) (Nat.le_refl _) ?_; intro w0 hL0 hbw hz0 hg0; clear hg0) | ((go_at_call 24; (with_reducible refine (HD.out _).mono ?_); rintro e w1 ⟨rfl, hb1⟩); have hL6 := (hold_zl5 _ _).grown hb1 (by simp); have hL0 := hL0.past ((Below.refl _ w0).alloc (Nat.le_refl _) _) hb1; have hbw := bt (hbw.alloc hbw.size _) hb1; clear hb1; have z6 := ltAll hL6.lt) | ((with_reducible refine at_store 6 ?_); refine wpList_put_row rfl 38 (.tmp 6) (.tmp 12) rfl rfl w1.heap.size [.int .i64 op, .int .i64 a, .int .i64 b, .int .i64 c, .int .i64 imm] zl5 rfl rfl (hold_zl5 w1 _) Hsz5.out rfl rfl w.heap.size w (hbw.alloc hbw.size _) hbw.size ?_; intro w2 hLi hbw2 ho2; have n0 := Nat.ne_of_lt hL0.lt; have n6 := Nat.ne_of_lt hL6.lt; have hL0 := (hL0.grown ((Below.refl _ w1).alloc (Nat.le_refl _) _) hL0.lt).other ho2 n0; have hL6 := (hL6.grown ((Below.refl _ w1).alloc (Nat.le_refl _) _) hL6.lt).other ho2 n6; clear hbw ho2; have hbw := hbw2; clear hbw2; have fi := hLi.cell) | ((with_reducible refine at_op 18 ?_); refine wpList_get_row rfl 38 (.tmp 6) rfl w1.heap.size [.int .i64 op, .int .i64 a, .int .i64 b, .int .i64 c, .int .i64 imm] rfl hLi _ Try.underlying38 rfl Hsz5.out ?_) | ((go_at_call 58; (with_reducible refine (HB.out _).mono ?_); rintro e w3 ⟨rfl, hb3⟩); have hL0 := hL0.grown hb3 hL0.lt; have hL6 := hL6.grown hb3 hL6.lt; have hLi := hLi.grown hb3 hLi.lt; have hbw := bt hbw hb3; clear hb3; have fi := hLi.cell) | ((with_reducible refine at_store 4 ?_); refine wpList_put_row rfl 52 (.tmp 4) (.tmp 20) rfl rfl w0.heap.size (badL) zl5 rfl rfl hL6 Hsza.out rfl rfl w.heap.size w hbw (Nat.le_of_lt hz0) ?_; intro w9 hL6 hbw ho9; clear ho9))
  all_goals
    refine bodyPost_ret (v := .tuple #[.agg (badL).toArray, .int .i64 0]) (results_hold2 rfl _ w0.heap.size (badL) _ _ rfl rfl hL6 Try.underlying52 rfl Hsza.out) rfl ⟨rfl, hbw⟩

def i5 (x0 x1 x2 x3 x4 : Int) : List Value := [.int .i64 x0, .int .i64 x1, .int .i64 x2, .int .i64 x3, .int .i64 x4]
set_option maxRecDepth 100000 in
set_option maxHeartbeats 4000000 in
theorem ask_none (p : Pr) (s : ByteArray) (op imm : Int) (a b c : Nat) (w : World) (hdec : ∀ w, Calls Try.prog 24 #[.string s] w (RB (.tuple #[insV op a b c imm, .int .i64 0]) w)) (hbad : ¬ badI op a b c imm) (h : op ≠ 9 ∧ op ≠ 10 ∧ op ≠ 16) :
    Calls Try.prog 29 #[p.v, .string s] w (RB (.tuple #[.agg (askL p op a b c imm).toArray, .int .i64 0]) w) := by
  obtain ⟨h9, h10, h16⟩ := h
  have HD := hid hdec
  have HB := hid (fun w => bad_any op a b c imm w false ⟨fun h => by simp at h, fun h => absurd h hbad⟩)
  unfold insV at HD HB
  clear hdec
  have hsz : (Try.prog.info? 38).map (·.size) = some 5 := by kernel_rfl
  have Hsz5 := hid hsz; clear hsz
  have hsz : (Try.prog.info? 52).map (·.size) = some 5 := by kernel_rfl
  have Hsza := hid hsz; clear hsz
  have hsz : (Try.prog.info? 3).map (·.size) = some 1 := by kernel_rfl
  have Hsz1 := hid hsz; clear hsz
  unfold askL
  rw [if_neg h9, if_neg h10, if_neg h16]
  clear hbad
  have k9 : (op == 9) = false := by rw [beq_eq_false_iff_ne]; exact h9
  have k10 : (op == 10) = false := by rw [beq_eq_false_iff_ne]; exact h10
  have k16 : (op == 16) = false := by rw [beq_eq_false_iff_ne]; exact h16
  clear h9 h10 h16
  unfold Pr.v
  generalize p.cells = L
  go_enter Try.func29, Try.ntmps29
  go_wp2_with (first | ((with_reducible refine at_op 2 ?_); refine wpList_box_row rfl 50 (.tmp 0) rfl (some 2) rfl L rfl w.heap.size w (Below.refl _ _) (Nat.le_refl _) ?_; intro w0 hL0 hbw hz0 hg0; clear hg0) | ((go_at_call 24; (with_reducible refine (HD.out _).mono ?_); rintro e w1 ⟨rfl, hb1⟩); have hL6 := (hold_zl5 _ _).grown hb1 (by simp); have hL0 := hL0.past ((Below.refl _ w0).alloc (Nat.le_refl _) _) hb1; have hbw := bt (hbw.alloc hbw.size _) hb1; clear hb1; have z6 := ltAll hL6.lt) | ((with_reducible refine at_store 6 ?_); refine wpList_put_row rfl 38 (.tmp 6) (.tmp 12) rfl rfl w1.heap.size [.int .i64 op, .int .i64 a, .int .i64 b, .int .i64 c, .int .i64 imm] zl5 rfl rfl (hold_zl5 w1 _) Hsz5.out rfl rfl w.heap.size w (hbw.alloc hbw.size _) hbw.size ?_; intro w2 hLi hbw2 ho2; have n0 := Nat.ne_of_lt hL0.lt; have n6 := Nat.ne_of_lt hL6.lt; have hL0 := (hL0.grown ((Below.refl _ w1).alloc (Nat.le_refl _) _) hL0.lt).other ho2 n0; have hL6 := (hL6.grown ((Below.refl _ w1).alloc (Nat.le_refl _) _) hL6.lt).other ho2 n6; clear hbw ho2; have hbw := hbw2; clear hbw2; have fi := hLi.cell) | ((with_reducible refine at_op 18 ?_); refine wpList_get_row rfl 38 (.tmp 6) rfl w1.heap.size [.int .i64 op, .int .i64 a, .int .i64 b, .int .i64 c, .int .i64 imm] rfl hLi _ Try.underlying38 rfl Hsz5.out ?_) | ((go_at_call 58; (with_reducible refine (HB.out _).mono ?_); rintro e w3 ⟨rfl, hb3⟩); have hL0 := hL0.grown hb3 hL0.lt; have hL6 := hL6.grown hb3 hL6.lt; have hLi := hLi.grown hb3 hLi.lt; have hbw := bt hbw hb3; clear hb3; have fi := hLi.cell) | ((with_reducible refine at_op 8 ?_); refine wpList_new_row rfl (some 8) rfl zl5 52 (by kernel_rfl) w.heap.size w hbw hbw.size ?_; intro w4 hL8 hbw4 hz8 hg8; have m0 := Nat.ne_of_lt hL0.lt; have m6 := Nat.ne_of_lt hL6.lt; have mi := Nat.ne_of_lt hLi.lt; have mw := hbw.size; have hL0 := hL0.kept hg8; have hL6 := hL6.kept hg8; have hLi := hLi.kept hg8; have fi := hLi.cell; clear hbw hg8; have hbw := hbw4; clear hbw4) | ((with_reducible refine at_op 56 ?_); refine wpList_get_row rfl 52 (.tmp 8) rfl w3.heap.size (zl5) rfl hL8 _ Try.underlying52 rfl Hsza.out ?_) | ((with_reducible refine at_store 4 ?_); refine wpList_put_row rfl 52 (.tmp 4) (.tmp 56) rfl rfl w0.heap.size (zl5) zl5 rfl rfl hL6 Hsza.out rfl rfl w.heap.size w hbw (Nat.le_of_lt hz0) ?_; intro w9 hL6 hbw ho9; clear ho9))
  all_goals
    refine bodyPost_ret (v := .tuple #[.agg (zl5).toArray, .int .i64 0]) (results_hold2 rfl _ w0.heap.size (zl5) _ _ rfl rfl hL6 Try.underlying52 rfl Hsza.out) rfl ⟨rfl, hbw⟩

theorem cells_at (p : Pr) (hp : p.r.length = 8) (k : Nat) (hk : k < 8) : p.cells[k]? = some (.int .i64 (p.reg k)) := by
  simp [Pr.cells, Pr.reg, hp, hk, List.getElem?_append_left]
set_option maxRecDepth 100000 in
set_option maxHeartbeats 4000000 in
theorem ask_call (p : Pr) (s : ByteArray) (imm : Int) (a b c : Nat) (w : World) (hdec : ∀ w, Calls Try.prog 24 #[.string s] w (RB (.tuple #[insV 16 a b c imm, .int .i64 0]) w)) (hbad : ¬ badI 16 a b c imm) :
    Calls Try.prog 29 #[p.v, .string s] w (RB (.tuple #[.agg (i5 3 0 0 0 imm).toArray, .int .i64 0]) w) := by
  obtain ⟨op, h16⟩ : ∃ op : Int, op = 16 := ⟨_, rfl⟩
  rw [← h16] at hdec hbad
  have HD := hid hdec
  have HB := hid (fun w => bad_any op a b c imm w false ⟨fun h => by simp at h, fun h => absurd h hbad⟩)
  unfold insV at HD HB
  clear hdec
  have hsz : (Try.prog.info? 38).map (·.size) = some 5 := by kernel_rfl
  have Hsz5 := hid hsz; clear hsz
  have hsz : (Try.prog.info? 52).map (·.size) = some 5 := by kernel_rfl
  have Hsza := hid hsz; clear hsz
  have hsz : (Try.prog.info? 3).map (·.size) = some 1 := by kernel_rfl
  have Hsz1 := hid hsz; clear hsz
  clear hbad
  have k9 : (op == 9) = false := by rw [beq_eq_false_iff_ne]; omega
  have k10 : (op == 10) = false := by rw [beq_eq_false_iff_ne]; omega
  have k16 : (op == 16) = true := by rw [beq_iff_eq]; exact h16
  clear h16
  unfold Pr.v
  generalize p.cells = L
  go_enter Try.func29, Try.ntmps29
  go_wp2_with (first | ((with_reducible refine at_op 2 ?_); refine wpList_box_row rfl 50 (.tmp 0) rfl (some 2) rfl L rfl w.heap.size w (Below.refl _ _) (Nat.le_refl _) ?_; intro w0 hL0 hbw hz0 hg0; clear hg0) | ((go_at_call 24; (with_reducible refine (HD.out _).mono ?_); rintro e w1 ⟨rfl, hb1⟩); have hL6 := (hold_zl5 _ _).grown hb1 (by simp); have hL0 := hL0.past ((Below.refl _ w0).alloc (Nat.le_refl _) _) hb1; have hbw := bt (hbw.alloc hbw.size _) hb1; clear hb1; have z6 := ltAll hL6.lt) | ((with_reducible refine at_store 6 ?_); refine wpList_put_row rfl 38 (.tmp 6) (.tmp 12) rfl rfl w1.heap.size [.int .i64 op, .int .i64 a, .int .i64 b, .int .i64 c, .int .i64 imm] zl5 rfl rfl (hold_zl5 w1 _) Hsz5.out rfl rfl w.heap.size w (hbw.alloc hbw.size _) hbw.size ?_; intro w2 hLi hbw2 ho2; have n0 := Nat.ne_of_lt hL0.lt; have n6 := Nat.ne_of_lt hL6.lt; have hL0 := (hL0.grown ((Below.refl _ w1).alloc (Nat.le_refl _) _) hL0.lt).other ho2 n0; have hL6 := (hL6.grown ((Below.refl _ w1).alloc (Nat.le_refl _) _) hL6.lt).other ho2 n6; clear hbw ho2; have hbw := hbw2; clear hbw2; have fi := hLi.cell) | ((with_reducible refine at_op 18 ?_); refine wpList_get_row rfl 38 (.tmp 6) rfl w1.heap.size [.int .i64 op, .int .i64 a, .int .i64 b, .int .i64 c, .int .i64 imm] rfl hLi _ Try.underlying38 rfl Hsz5.out ?_) | ((go_at_call 58; (with_reducible refine (HB.out _).mono ?_); rintro e w3 ⟨rfl, hb3⟩); have hL0 := hL0.grown hb3 hL0.lt; have hL6 := hL6.grown hb3 hL6.lt; have hLi := hLi.grown hb3 hLi.lt; have hbw := bt hbw hb3; clear hb3; have fi := hLi.cell) | ((with_reducible refine at_op 8 ?_); refine wpList_new_row rfl (some 8) rfl zl5 52 (by kernel_rfl) w.heap.size w hbw hbw.size ?_; intro w4 hL8 hbw4 hz8 hg8; have m0 := Nat.ne_of_lt hL0.lt; have m6 := Nat.ne_of_lt hL6.lt; have mi := Nat.ne_of_lt hLi.lt; have mw := hbw.size; have hL0 := hL0.kept hg8; have hL6 := hL6.kept hg8; have hLi := hLi.kept hg8; have fi := hLi.cell; clear hbw hg8; have hbw := hbw4; clear hbw4))
  have c80 : w4.cell? ⟨w3.heap.size, 0, none⟩ = some (.int .i64 0) := hL8.cell 0
  have c84 : w4.cell? ⟨w3.heap.size, 4, none⟩ = some (.int .i64 0) := hL8.cell 4
  have q4 : w4.cell? ⟨w1.heap.size, 4, none⟩ = some (.int .i64 imm) := hLi.cell 4
  have f80 := hL8.frozen 0
  have f84 := hL8.frozen 4
  clear fi
  go_region
  have hL8' : HoldL ((w4.drew.setCell ⟨w3.heap.size, 0, none⟩ (.int .i64 3)).setCell ⟨w3.heap.size, 4, none⟩ (.int .i64 imm)) w3.heap.size (i5 3 0 0 0 imm) := (hL8.drew.put 0 _).put 4 _
  have hL6' : HoldL ((w4.drew.setCell ⟨w3.heap.size, 0, none⟩ (.int .i64 3)).setCell ⟨w3.heap.size, 4, none⟩ (.int .i64 imm)) w0.heap.size zl5 := (hL6.drew.putOther _ m6).putOther _ m6
  have hbw' : Below w.heap.size w ((w4.drew.setCell ⟨w3.heap.size, 0, none⟩ (.int .i64 3)).setCell ⟨w3.heap.size, 4, none⟩ (.int .i64 imm)) := (hbw.drew.setCell mw _).setCell mw _
  clear hL8 hL6 hbw
  have hL8 := hL8'; have hL6 := hL6'; have hbw := hbw'
  go_wp2_with (first | ((with_reducible refine at_op 56 ?_); refine wpList_get_row rfl 52 (.tmp 8) rfl w3.heap.size (i5 3 0 0 0 imm) rfl hL8 _ Try.underlying52 rfl Hsza.out ?_) | ((with_reducible refine at_store 4 ?_); refine wpList_put_row rfl 52 (.tmp 4) (.tmp 56) rfl rfl w0.heap.size (i5 3 0 0 0 imm) zl5 rfl rfl hL6 Hsza.out rfl rfl w.heap.size w hbw (Nat.le_of_lt hz0) ?_; intro w9 hL6 hbw ho9; clear ho9))
  all_goals
    refine bodyPost_ret (v := .tuple #[.agg (i5 3 0 0 0 imm).toArray, .int .i64 0]) (results_hold2 rfl _ w0.heap.size (i5 3 0 0 0 imm) _ _ rfl rfl hL6 Try.underlying52 rfl Hsza.out) rfl ⟨rfl, hbw⟩

set_option maxRecDepth 100000 in
set_option maxHeartbeats 4000000 in
theorem ask_load (p : Pr) (hp : p.r.length = 8) (s : ByteArray) (imm : Int) (a b c : Nat) (w : World) (hdec : ∀ w, Calls Try.prog 24 #[.string s] w (RB (.tuple #[insV 9 a b c imm, .int .i64 0]) w)) (hbad : ¬ badI 9 a b c imm) :
    Calls Try.prog 29 #[p.v, .string s] w (RB (.tuple #[.agg (i5 1 (wrap64 (p.reg b + imm)) c 0 0).toArray, .int .i64 0]) w) := by
  have kb : (b : Int) < 8 := by unfold badI useA useB useC at hbad; omega
  obtain ⟨x, hx⟩ : ∃ x, x = p.reg b := ⟨_, rfl⟩
  have CB := hid (cells_at p hp b (by omega))
  rw [← hx] at CB ⊢
  clear hx
  obtain ⟨op, h16⟩ : ∃ op : Int, op = 9 := ⟨_, rfl⟩
  rw [← h16] at hdec hbad
  have HD := hid hdec
  have HB := hid (fun w => bad_any op a b c imm w false ⟨fun h => by simp at h, fun h => absurd h hbad⟩)
  unfold insV at HD HB
  clear hdec
  have hsz : (Try.prog.info? 38).map (·.size) = some 5 := by kernel_rfl
  have Hsz5 := hid hsz; clear hsz
  have hsz : (Try.prog.info? 52).map (·.size) = some 5 := by kernel_rfl
  have Hsza := hid hsz; clear hsz
  have hsz : (Try.prog.info? 3).map (·.size) = some 1 := by kernel_rfl
  have Hsz1 := hid hsz; clear hsz
  clear hbad
  have k9 : (op == 9) = true := by rw [beq_iff_eq]; exact h16
  have k10 : (op == 10) = false := by rw [beq_eq_false_iff_ne]; omega
  clear h16
  unfold Pr.v
  generalize p.cells = L at *
  go_enter Try.func29, Try.ntmps29
  go_wp2_with (first | ((with_reducible refine at_op 2 ?_); refine wpList_box_row rfl 50 (.tmp 0) rfl (some 2) rfl L rfl w.heap.size w (Below.refl _ _) (Nat.le_refl _) ?_; intro w0 hL0 hbw hz0 hg0; clear hg0) | ((go_at_call 24; (with_reducible refine (HD.out _).mono ?_); rintro e w1 ⟨rfl, hb1⟩); have hL6 := (hold_zl5 _ _).grown hb1 (by simp); have hL0 := hL0.past ((Below.refl _ w0).alloc (Nat.le_refl _) _) hb1; have hbw := bt (hbw.alloc hbw.size _) hb1; clear hb1; have z6 := ltAll hL6.lt) | ((with_reducible refine at_store 6 ?_); refine wpList_put_row rfl 38 (.tmp 6) (.tmp 12) rfl rfl w1.heap.size [.int .i64 op, .int .i64 a, .int .i64 b, .int .i64 c, .int .i64 imm] zl5 rfl rfl (hold_zl5 w1 _) Hsz5.out rfl rfl w.heap.size w (hbw.alloc hbw.size _) hbw.size ?_; intro w2 hLi hbw2 ho2; have n0 := Nat.ne_of_lt hL0.lt; have n6 := Nat.ne_of_lt hL6.lt; have hL0 := (hL0.grown ((Below.refl _ w1).alloc (Nat.le_refl _) _) hL0.lt).other ho2 n0; have hL6 := (hL6.grown ((Below.refl _ w1).alloc (Nat.le_refl _) _) hL6.lt).other ho2 n6; clear hbw ho2; have hbw := hbw2; clear hbw2; have fi := hLi.cell) | ((with_reducible refine at_op 18 ?_); refine wpList_get_row rfl 38 (.tmp 6) rfl w1.heap.size [.int .i64 op, .int .i64 a, .int .i64 b, .int .i64 c, .int .i64 imm] rfl hLi _ Try.underlying38 rfl Hsz5.out ?_) | ((go_at_call 58; (with_reducible refine (HB.out _).mono ?_); rintro e w3 ⟨rfl, hb3⟩); have hL0 := hL0.grown hb3 hL0.lt; have hL6 := hL6.grown hb3 hL6.lt; have hLi := hLi.grown hb3 hLi.lt; have hbw := bt hbw hb3; clear hb3; have fi := hLi.cell) | ((with_reducible refine at_op 8 ?_); refine wpList_new_row rfl (some 8) rfl zl5 52 (by kernel_rfl) w.heap.size w hbw hbw.size ?_; intro w4 hL8 hbw4 hz8 hg8; have m0 := Nat.ne_of_lt hL0.lt; have m6 := Nat.ne_of_lt hL6.lt; have mi := Nat.ne_of_lt hLi.lt; have mw := hbw.size; have hL0 := hL0.kept hg8; have hL6 := hL6.kept hg8; have hLi := hLi.kept hg8; have fi := hLi.cell; clear hbw hg8; have hbw := hbw4; clear hbw4) | ((with_reducible refine at_store 35 ?_); refine wpList_put_cell rfl 3 (.tmp 35) (.const (.int .i64 1)) rfl rfl Hsz1.out w3.heap.size 0 (1) rfl rfl (zl5) hL8 (by simp [zl5, i5]) w.heap.size w hbw mw ?_; intro w6 hL86 hbw6 ho6; have hL0 := hL0.other ho6 m0; have hL6 := hL6.other ho6 m6; have hLi := hLi.other ho6 mi; clear hL8 hbw ho6; have hL8 := hL86; have hbw := hbw6; clear hL86 hbw6; have fi := hLi.cell))
  have fb := (hL0.cell b).trans CB.out
  have c81 : w6.cell? ⟨w3.heap.size, 1, none⟩ = some (.int .i64 0) := hL8.cell 1
  have c82 : w6.cell? ⟨w3.heap.size, 2, none⟩ = some (.int .i64 0) := hL8.cell 2
  have q2 : w6.cell? ⟨w1.heap.size, 2, none⟩ = some (.int .i64 b) := hLi.cell 2
  have q3 : w6.cell? ⟨w1.heap.size, 3, none⟩ = some (.int .i64 c) := hLi.cell 3
  have q4 : w6.cell? ⟨w1.heap.size, 4, none⟩ = some (.int .i64 imm) := hLi.cell 4
  have f81 := hL8.frozen 1
  have f82 := hL8.frozen 2
  clear fi
  go_region
  have hL8' : HoldL ((w6.drew.setCell ⟨w3.heap.size, 1, none⟩ (.int .i64 (wrap64 (x + imm)))).setCell ⟨w3.heap.size, 2, none⟩ (.int .i64 c)) w3.heap.size (i5 1 (wrap64 (x + imm)) c 0 0) := (hL8.drew.put 1 _).put 2 _
  have hL6' : HoldL ((w6.drew.setCell ⟨w3.heap.size, 1, none⟩ (.int .i64 (wrap64 (x + imm)))).setCell ⟨w3.heap.size, 2, none⟩ (.int .i64 c)) w0.heap.size zl5 := (hL6.drew.putOther _ m6).putOther _ m6
  have hbw' : Below w.heap.size w ((w6.drew.setCell ⟨w3.heap.size, 1, none⟩ (.int .i64 (wrap64 (x + imm)))).setCell ⟨w3.heap.size, 2, none⟩ (.int .i64 c)) := (hbw.drew.setCell mw _).setCell mw _
  clear hL8 hL6 hbw
  have hL8 := hL8'; have hL6 := hL6'; have hbw := hbw'
  go_wp2_with (first | ((with_reducible refine at_op 56 ?_); refine wpList_get_row rfl 52 (.tmp 8) rfl w3.heap.size (i5 1 (wrap64 (x + imm)) c 0 0) rfl hL8 _ Try.underlying52 rfl Hsza.out ?_) | ((with_reducible refine at_store 4 ?_); refine wpList_put_row rfl 52 (.tmp 4) (.tmp 56) rfl rfl w0.heap.size (i5 1 (wrap64 (x + imm)) c 0 0) zl5 rfl rfl hL6 Hsza.out rfl rfl w.heap.size w hbw (Nat.le_of_lt hz0) ?_; intro w9 hL6 hbw ho9; clear ho9))
  all_goals
    refine bodyPost_ret (v := .tuple #[.agg (i5 1 (wrap64 (x + imm)) c 0 0).toArray, .int .i64 0]) (results_hold2 rfl _ w0.heap.size (i5 1 (wrap64 (x + imm)) c 0 0) _ _ rfl rfl hL6 Try.underlying52 rfl Hsza.out) rfl ⟨rfl, hbw⟩

set_option maxRecDepth 100000 in
set_option maxHeartbeats 4000000 in
theorem ask_store (p : Pr) (hp : p.r.length = 8) (s : ByteArray) (imm : Int) (a b c : Nat) (w : World) (hdec : ∀ w, Calls Try.prog 24 #[.string s] w (RB (.tuple #[insV 10 a b c imm, .int .i64 0]) w)) (hbad : ¬ badI 10 a b c imm) :
    Calls Try.prog 29 #[p.v, .string s] w (RB (.tuple #[.agg (i5 2 (wrap64 (p.reg b + imm)) c (p.reg a) 0).toArray, .int .i64 0]) w) := by
  have kb : (b : Int) < 8 := by unfold badI useA useB useC at hbad; omega
  obtain ⟨x, hx⟩ : ∃ x, x = p.reg b := ⟨_, rfl⟩
  have CB := hid (cells_at p hp b (by omega))
  rw [← hx] at CB ⊢
  clear hx
  have ka : (a : Int) < 8 := by unfold badI useA useB useC at hbad; omega
  obtain ⟨y, hy⟩ : ∃ y, y = p.reg a := ⟨_, rfl⟩
  have CA := hid (cells_at p hp a (by omega))
  rw [← hy] at CA ⊢
  clear hy
  obtain ⟨op, h16⟩ : ∃ op : Int, op = 10 := ⟨_, rfl⟩
  rw [← h16] at hdec hbad
  have HD := hid hdec
  have HB := hid (fun w => bad_any op a b c imm w false ⟨fun h => by simp at h, fun h => absurd h hbad⟩)
  unfold insV at HD HB
  clear hdec
  have hsz : (Try.prog.info? 38).map (·.size) = some 5 := by kernel_rfl
  have Hsz5 := hid hsz; clear hsz
  have hsz : (Try.prog.info? 52).map (·.size) = some 5 := by kernel_rfl
  have Hsza := hid hsz; clear hsz
  have hsz : (Try.prog.info? 3).map (·.size) = some 1 := by kernel_rfl
  have Hsz1 := hid hsz; clear hsz
  clear hbad
  have k10 : (op == 10) = true := by rw [beq_iff_eq]; exact h16
  clear h16
  unfold Pr.v
  generalize p.cells = L at *
  go_enter Try.func29, Try.ntmps29
  go_wp2_with (first | ((with_reducible refine at_op 2 ?_); refine wpList_box_row rfl 50 (.tmp 0) rfl (some 2) rfl L rfl w.heap.size w (Below.refl _ _) (Nat.le_refl _) ?_; intro w0 hL0 hbw hz0 hg0; clear hg0) | ((go_at_call 24; (with_reducible refine (HD.out _).mono ?_); rintro e w1 ⟨rfl, hb1⟩); have hL6 := (hold_zl5 _ _).grown hb1 (by simp); have hL0 := hL0.past ((Below.refl _ w0).alloc (Nat.le_refl _) _) hb1; have hbw := bt (hbw.alloc hbw.size _) hb1; clear hb1; have z6 := ltAll hL6.lt) | ((with_reducible refine at_store 6 ?_); refine wpList_put_row rfl 38 (.tmp 6) (.tmp 12) rfl rfl w1.heap.size [.int .i64 op, .int .i64 a, .int .i64 b, .int .i64 c, .int .i64 imm] zl5 rfl rfl (hold_zl5 w1 _) Hsz5.out rfl rfl w.heap.size w (hbw.alloc hbw.size _) hbw.size ?_; intro w2 hLi hbw2 ho2; have n0 := Nat.ne_of_lt hL0.lt; have n6 := Nat.ne_of_lt hL6.lt; have hL0 := (hL0.grown ((Below.refl _ w1).alloc (Nat.le_refl _) _) hL0.lt).other ho2 n0; have hL6 := (hL6.grown ((Below.refl _ w1).alloc (Nat.le_refl _) _) hL6.lt).other ho2 n6; clear hbw ho2; have hbw := hbw2; clear hbw2; have fi := hLi.cell) | ((with_reducible refine at_op 18 ?_); refine wpList_get_row rfl 38 (.tmp 6) rfl w1.heap.size [.int .i64 op, .int .i64 a, .int .i64 b, .int .i64 c, .int .i64 imm] rfl hLi _ Try.underlying38 rfl Hsz5.out ?_) | ((go_at_call 58; (with_reducible refine (HB.out _).mono ?_); rintro e w3 ⟨rfl, hb3⟩); have hL0 := hL0.grown hb3 hL0.lt; have hL6 := hL6.grown hb3 hL6.lt; have hLi := hLi.grown hb3 hLi.lt; have hbw := bt hbw hb3; clear hb3; have fi := hLi.cell) | (((with_reducible refine at_op 8 ?_); refine wpList_new_row rfl (some 8) rfl zl5 52 (by kernel_rfl) w.heap.size w hbw hbw.size ?_; intro w4 hL8 hbw4 hz8 hg8; have m0 := Nat.ne_of_lt hL0.lt; have m6 := Nat.ne_of_lt hL6.lt; have mi := Nat.ne_of_lt hLi.lt; have mw := hbw.size; have hL0 := hL0.kept hg8; have hL6 := hL6.kept hg8; have hLi := hLi.kept hg8; have fi := hLi.cell; clear hbw hg8; have hbw := hbw4; clear hbw4); have fa := (hL0.cell a).trans CA.out) | ((with_reducible refine at_store 34 ?_); refine wpList_put_cell rfl 3 (.tmp 34) (.tmp 33) rfl rfl Hsz1.out w3.heap.size 3 (y) rfl rfl (zl5) hL8 (by simp [zl5, i5]) w.heap.size w hbw mw ?_; intro w6 hL86 hbw6 ho6; have hL0 := hL0.other ho6 m0; have hL6 := hL6.other ho6 m6; have hLi := hLi.other ho6 mi; clear hL8 hbw ho6; have hL8 := hL86; have hbw := hbw6; clear hL86 hbw6; have fi := hLi.cell) | ((with_reducible refine at_store 35 ?_); refine wpList_put_cell rfl 3 (.tmp 35) (.const (.int .i64 1)) rfl rfl Hsz1.out w3.heap.size 0 (1) rfl rfl (i5 0 0 0 y 0) hL8 (by simp [zl5, i5]) w.heap.size w hbw mw ?_; intro w6 hL86 hbw6 ho6; have hL0 := hL0.other ho6 m0; have hL6 := hL6.other ho6 m6; have hLi := hLi.other ho6 mi; clear hL8 hbw ho6; have hL8 := hL86; have hbw := hbw6; clear hL86 hbw6; have fi := hLi.cell) | ((with_reducible refine at_store 39 ?_); refine wpList_put_cell rfl 3 (.tmp 39) (.const (.int .i64 2)) rfl rfl Hsz1.out w3.heap.size 0 (2) rfl rfl (i5 1 0 0 y 0) hL8 (by simp [zl5, i5]) w.heap.size w hbw mw ?_; intro w6 hL86 hbw6 ho6; have hL0 := hL0.other ho6 m0; have hL6 := hL6.other ho6 m6; have hLi := hLi.other ho6 mi; clear hL8 hbw ho6; have hL8 := hL86; have hbw := hbw6; clear hL86 hbw6; have fi := hLi.cell))
  have fb := (hL0.cell b).trans CB.out
  have c81 : w6.cell? ⟨w3.heap.size, 1, none⟩ = some (.int .i64 0) := hL8.cell 1
  have c82 : w6.cell? ⟨w3.heap.size, 2, none⟩ = some (.int .i64 0) := hL8.cell 2
  have q2 : w6.cell? ⟨w1.heap.size, 2, none⟩ = some (.int .i64 b) := hLi.cell 2
  have q3 : w6.cell? ⟨w1.heap.size, 3, none⟩ = some (.int .i64 c) := hLi.cell 3
  have q4 : w6.cell? ⟨w1.heap.size, 4, none⟩ = some (.int .i64 imm) := hLi.cell 4
  have f81 := hL8.frozen 1
  have f82 := hL8.frozen 2
  clear fi
  go_region
  have hL8' : HoldL ((w6.drew.setCell ⟨w3.heap.size, 1, none⟩ (.int .i64 (wrap64 (x + imm)))).setCell ⟨w3.heap.size, 2, none⟩ (.int .i64 c)) w3.heap.size (i5 2 (wrap64 (x + imm)) c y 0) := (hL8.drew.put 1 _).put 2 _
  have hL6' : HoldL ((w6.drew.setCell ⟨w3.heap.size, 1, none⟩ (.int .i64 (wrap64 (x + imm)))).setCell ⟨w3.heap.size, 2, none⟩ (.int .i64 c)) w0.heap.size zl5 := (hL6.drew.putOther _ m6).putOther _ m6
  have hbw' : Below w.heap.size w ((w6.drew.setCell ⟨w3.heap.size, 1, none⟩ (.int .i64 (wrap64 (x + imm)))).setCell ⟨w3.heap.size, 2, none⟩ (.int .i64 c)) := (hbw.drew.setCell mw _).setCell mw _
  clear hL8 hL6 hbw
  have hL8 := hL8'; have hL6 := hL6'; have hbw := hbw'
  go_wp2_with (first | ((with_reducible refine at_op 56 ?_); refine wpList_get_row rfl 52 (.tmp 8) rfl w3.heap.size (i5 2 (wrap64 (x + imm)) c y 0) rfl hL8 _ Try.underlying52 rfl Hsza.out ?_) | ((with_reducible refine at_store 4 ?_); refine wpList_put_row rfl 52 (.tmp 4) (.tmp 56) rfl rfl w0.heap.size (i5 2 (wrap64 (x + imm)) c y 0) zl5 rfl rfl hL6 Hsza.out rfl rfl w.heap.size w hbw (Nat.le_of_lt hz0) ?_; intro w9 hL6 hbw ho9; clear ho9))
  all_goals
    refine bodyPost_ret (v := .tuple #[.agg (i5 2 (wrap64 (x + imm)) c y 0).toArray, .int .i64 0]) (results_hold2 rfl _ w0.heap.size (i5 2 (wrap64 (x + imm)) c y 0) _ _ rfl rfl hL6 Try.underlying52 rfl Hsza.out) rfl ⟨rfl, hbw⟩

/-- ASK, of an instruction that is not bad -/
theorem ask_yes (p : Pr) (hp : p.r.length = 8) (s : ByteArray) (op imm : Int) (a b c : Nat) (w : World) (hdec : ∀ w, Calls Try.prog 24 #[.string s] w (RB (.tuple #[insV op a b c imm, .int .i64 0]) w)) (hbad : ¬ badI op a b c imm) :
    Calls Try.prog 29 #[p.v, .string s] w (RB (.tuple #[.agg (askL p op a b c imm).toArray, .int .i64 0]) w) := by
  by_cases h9 : op = 9
  · subst h9; exact ask_load p hp s imm a b c w hdec hbad
  by_cases h10 : op = 10
  · subst h10; exact ask_store p hp s imm a b c w hdec hbad
  by_cases h16 : op = 16
  · subst h16; exact ask_call p s imm a b c w hdec hbad
  exact ask_none p s op imm a b c w hdec hbad ⟨h9, h10, h16⟩
end Go.Proofs.Ytejnpppejalhfaa
