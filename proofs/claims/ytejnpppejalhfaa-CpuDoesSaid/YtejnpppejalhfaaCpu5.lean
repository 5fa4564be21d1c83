/- The contract of Done. -/
import Derived.Test.YtejnpppejalhfaaCpu4
import Derived.Test.YtejnpppejalhfaaCpuBad
import Derived.Test.YtejnpppejalhfaaObj
namespace Go.Proofs.Ytejnpppejalhfaa
open Go.RowKit Go.Sort

def zeroP : Pr := ⟨[0, 0, 0, 0, 0, 0, 0, 0], 0, 0, 0, 0, 0⟩
instance (op : Int) : Decidable (Works op) := by unfold Works; infer_instance
/-- a process behind an instruction that is not bad -/
def doneP (p : Pr) (op : Int) (a b c : Nat) (imm value : Int) : Pr :=
  { (if Works op then { p with r := p.r.set a (workI p op b c imm value) }
    else if op = 16 ∧ imm = 6 then { p with st := 2, code := p.reg 0 }
    else if op = 16 ∧ imm ≠ 1 then { p with r := p.r.set 0 value }
    else p) with pc := jumpI p op a b imm }

theorem cells_reg (p : Pr) (k : Nat) (n : Int) (hp : p.r.length = 8) (hk : k < 8) : p.cells.set k (.int .i64 n) = ({ p with r := p.r.set k n } : Pr).cells := by
  simp [Pr.cells, List.set_append_left, hp, hk, List.map_set]
theorem cells_pc (p : Pr) (n : Int) (hp : p.r.length = 8) : p.cells.set 8 (.int .i64 n) = ({ p with pc := n } : Pr).cells := by
  simp [Pr.cells, List.set_append_right, hp]
theorem cells_st (p : Pr) (n : Int) (hp : p.r.length = 8) : p.cells.set 9 (.int .i64 n) = ({ p with st := n } : Pr).cells := by
  simp [Pr.cells, List.set_append_right, hp]
theorem cells_code (p : Pr) (n : Int) (hp : p.r.length = 8) : p.cells.set 10 (.int .i64 n) = ({ p with code := n } : Pr).cells := by
  simp [Pr.cells, List.set_append_right, hp]
theorem cells_len (p : Pr) (hp : p.r.length = 8) : p.cells.length = 13 := by simp [Pr.cells, hp]
theorem cells_one (p : Pr) : p.cells.all (·.oneCell') = true := by
  simp [Pr.cells, Value.oneCell']
theorem PrAt.of {w : World} {g : Nat} {p : Pr} (h : HoldL w g p.cells) : PrAt w g p := fun j _ => h.cell j

def zl13 : List Value := [.int .i64 0, .int .i64 0, .int .i64 0, .int .i64 0, .int .i64 0, .int .i64 0, .int .i64 0, .int .i64 0, .int .i64 0, .int .i64 0, .int .i64 0, .int .i64 0, .int .i64 0]
theorem hold_zl13 (w : World) (t : TypeId) : HoldL (w.alloc (.cells #[.int .i64 0, .int .i64 0, .int .i64 0, .int .i64 0, .int .i64 0, .int .i64 0, .int .i64 0, .int .i64 0, .int .i64 0, .int .i64 0, .int .i64 0, .int .i64 0, .int .i64 0] t)) w.heap.size zl13 := ⟨t, heap_alloc_new _ _⟩
theorem ret_agg {L Z : List Value} {v : Value} (h : Z = L) : Ending.returned (.tuple #[.agg L.toArray, v]) = .returned (.tuple #[.agg Z.toArray, v]) := by rw [h]

set_option maxRecDepth 100000 in
set_option maxHeartbeats 4000000 in
theorem done_no (p : Pr) (s : ByteArray) (value : Int) (w : World) (hdec : ∀ w, Calls Try.prog 24 #[.string s] w (RB (.tuple #[insV 0 0 0 0 0, .int .i64 3]) w)) :
    Calls Try.prog 30 #[p.v, .string s, .int .i64 value] w (RB (.tuple #[zeroP.v, .int .i64 3]) w) := by
  have HD := hid hdec
  unfold insV at HD
  clear hdec
  have hsz : (Try.prog.info? 50).map (·.size) = some 13 := by kernel_rfl
  have Hsz := hid hsz; clear hsz
  unfold Pr.v
  have HZ := hid (show zeroP.cells = zl13 from rfl)
  generalize p.cells = L
  generalize zeroP.cells = Z at *
  go_enter Try.func30, Try.ntmps30
  go_wp2_with (first | ((with_reducible refine at_op 3 ?_); refine wpList_box_row rfl 50 (.tmp 0) rfl (some 3) rfl L rfl w.heap.size w (Below.refl _ _) (Nat.le_refl _) ?_; intro w0 hL0 hbw hz0 hg0; clear hg0) | ((go_at_call 24; (with_reducible refine (HD.out _).mono ?_); rintro e w1 ⟨rfl, hb1⟩); have hL6 := (hold_zl13 _ _).grown hb1 (by simp); have hL0 := hL0.past ((Below.refl _ w0).alloc (Nat.le_refl _) _) hb1; have hbw := bt (hbw.alloc hbw.size _) hb1; clear hb1; have z6 := ltAll hL6.lt) | ((with_reducible refine at_store 6 ?_); refine wpList_put_row rfl 50 (.tmp 6) (.tmp 20) rfl rfl w0.heap.size zl13 zl13 rfl rfl (hL6.grown (?cb : Below w1.heap.size w1 _) hL6.lt) Hsz.out rfl rfl w.heap.size w ?cc (Nat.le_of_lt hz0) ?_; (case cb => exact (by repeat (first | (with_reducible exact Below.refl _ _) | (with_reducible assumption) | (with_reducible refine Below.alloc ?_ (by first | omega | (simp; done) | (simp; omega)) _) | (with_reducible refine Below.setCell ?_ (by first | omega | (simp; done) | (simp; omega)) _) | (with_reducible refine Below.drew ?_) | (with_reducible refine bt ?_ (below_regrown _ _ _)) | (refine bt ?_ (by with_reducible assumption))))); (case cc => exact (by repeat (first | (with_reducible exact Below.refl _ _) | (with_reducible assumption) | (with_reducible refine Below.alloc ?_ (by first | omega | (simp; done) | (simp; omega)) _) | (with_reducible refine Below.setCell ?_ (by first | omega | (simp; done) | (simp; omega)) _) | (with_reducible refine Below.drew ?_) | (with_reducible refine bt ?_ (below_regrown _ _ _)) | (refine bt ?_ (by with_reducible assumption))))); intro w9 hL6 hbw ho9; clear ho9))
  all_goals
    refine bodyPost_ret (v := .tuple #[.agg zl13.toArray, .int .i64 3]) (results_hold2 rfl _ w0.heap.size zl13 _ _ rfl rfl hL6 Try.underlying50 rfl Hsz.out) rfl ⟨ret_agg HZ.out, hbw⟩

def zl5 : List Value := [.int .i64 0, .int .i64 0, .int .i64 0, .int .i64 0, .int .i64 0]
theorem hold_zl5 (w : World) (t : TypeId) : HoldL (w.alloc (.cells #[.int .i64 0, .int .i64 0, .int .i64 0, .int .i64 0, .int .i64 0] t)) w.heap.size zl5 := ⟨t, heap_alloc_new _ _⟩
set_option maxRecDepth 100000 in
set_option maxHeartbeats 4000000 in
theorem done_bad (p : Pr) (s : ByteArray) (op a b c imm value : Int) (w : World) (hdec : ∀ w, Calls Try.prog 24 #[.string s] w (RB (.tuple #[insV op a b c imm, .int .i64 0]) w)) (hbad : badI op a b c imm) :
    Calls Try.prog 30 #[p.v, .string s, .int .i64 value] w (RB (.tuple #[zeroP.v, .int .i64 10]) w) := by
  have HD := hid hdec
  have HB := hid (fun w => bad_any op a b c imm w true ⟨fun _ => hbad, fun _ => rfl⟩)
  unfold insV at HD HB
  clear hdec
  have hsz : (Try.prog.info? 50).map (·.size) = some 13 := by kernel_rfl
  have Hsz := hid hsz; clear hsz
  have hsz : (Try.prog.info? 38).map (·.size) = some 5 := by kernel_rfl
  have Hsz5 := hid hsz; clear hsz
  unfold Pr.v
  have HZ := hid (show zeroP.cells = zl13 from rfl)
  generalize p.cells = L
  generalize zeroP.cells = Z at *
  go_enter Try.func30, Try.ntmps30
  go_wp2_with (first | ((with_reducible refine at_op 3 ?_); refine wpList_box_row rfl 50 (.tmp 0) rfl (some 3) rfl L rfl w.heap.size w (Below.refl _ _) (Nat.le_refl _) ?_; intro w0 hL0 hbw hz0 hg0; clear hg0) | ((go_at_call 24; (with_reducible refine (HD.out _).mono ?_); rintro e w1 ⟨rfl, hb1⟩); have hL6 := (hold_zl13 _ _).grown hb1 (by simp); have hL0 := hL0.past ((Below.refl _ w0).alloc (Nat.le_refl _) _) hb1; have hbw := bt (hbw.alloc hbw.size _) hb1; clear hb1; have z6 := ltAll hL6.lt) | ((with_reducible refine at_store 8 ?_); refine wpList_put_row rfl 38 (.tmp 8) (.tmp 16) rfl rfl w1.heap.size [.int .i64 op, .int .i64 a, .int .i64 b, .int .i64 c, .int .i64 imm] zl5 rfl rfl (hold_zl5 w1 _) Hsz5.out rfl rfl w.heap.size w (hbw.alloc hbw.size _) hbw.size ?_; intro w2 hLi hbw2 ho2; have n0 := Nat.ne_of_lt hL0.lt; have n6 := Nat.ne_of_lt hL6.lt; have hL0 := (hL0.grown ((Below.refl _ w1).alloc (Nat.le_refl _) _) hL0.lt).other ho2 n0; have hL6 := (hL6.grown ((Below.refl _ w1).alloc (Nat.le_refl _) _) hL6.lt).other ho2 n6; clear hbw ho2; have hbw := hbw2; clear hbw2; have fi := hLi.cell) | ((with_reducible refine at_op 22 ?_); refine wpList_get_row rfl 38 (.tmp 8) rfl w1.heap.size [.int .i64 op, .int .i64 a, .int .i64 b, .int .i64 c, .int .i64 imm] rfl hLi _ Try.underlying38 rfl Hsz5.out ?_) | ((go_at_call 58; (with_reducible refine (HB.out _).mono ?_); rintro e w3 ⟨rfl, hb3⟩); have hL0 := hL0.grown hb3 hL0.lt; have hL6 := hL6.grown hb3 hL6.lt; have hLi := hLi.grown hb3 hLi.lt; have hbw := bt hbw hb3; clear hb3; have fi := hLi.cell) | ((with_reducible refine at_store 6 ?_); refine wpList_put_row rfl 50 (.tmp 6) (.tmp 24) rfl rfl w0.heap.size zl13 zl13 rfl rfl hL6 Hsz.out rfl rfl w.heap.size w hbw (Nat.le_of_lt hz0) ?_; intro w9 hL6 hbw ho9; clear ho9))
  all_goals
    refine bodyPost_ret (v := .tuple #[.agg zl13.toArray, .int .i64 10]) (results_hold2 rfl _ w0.heap.size zl13 _ _ rfl rfl hL6 Try.underlying50 rfl Hsz.out) rfl ⟨ret_agg HZ.out, hbw⟩

set_option maxRecDepth 100000 in
set_option maxHeartbeats 4000000 in
theorem done_works (p : Pr) (hp : p.r.length = 8) (s : ByteArray) (op imm value : Int) (a b c : Nat) (w : World) (hdec : ∀ w, Calls Try.prog 24 #[.string s] w (RB (.tuple #[insV op a b c imm, .int .i64 0]) w)) (hbad : ¬ badI op a b c imm) (hw : Works op) :
    Calls Try.prog 30 #[p.v, .string s, .int .i64 value] w (RB (.tuple #[(doneP p op a b c imm value).v, .int .i64 0]) w) := by
  have HD := hid hdec
  have HB := hid (fun w => bad_any op a b c imm w false ⟨fun h => by simp at h, fun h => absurd h hbad⟩)
  have HJ : Hid (∀ w' : World, HoldL w' w.heap.size p.cells → Calls Try.prog 59 #[.pointer (some ⟨w.heap.size, 0, none⟩), insV op a b c imm] w' (RB (.int .i64 (jumpI p op a b imm)) w')) :=
    fun w' h => jump_any w.heap.size p hp op a b c imm w' (PrAt.of h) (Int.natCast_nonneg _) (Int.natCast_nonneg _) (fun h => by unfold badI useA useB useC at hbad; omega) (fun h => by unfold badI useA useB useC at hbad; omega)
  obtain ⟨nx, hnx⟩ : ∃ nx, nx = jumpI p op a b imm := ⟨_, rfl⟩
  rw [← hnx] at HJ
  have HN := hid hnx; clear hnx
  unfold insV at HD HB HJ
  clear hdec
  have hsz : (Try.prog.info? 50).map (·.size) = some 13 := by kernel_rfl
  have Hsz := hid hsz; clear hsz
  have hsz : (Try.prog.info? 38).map (·.size) = some 5 := by kernel_rfl
  have Hsz5 := hid hsz; clear hsz
  have hsz : (Try.prog.info? 3).map (·.size) = some 1 := by kernel_rfl
  have Hsz1 := hid hsz; clear hsz
  have HW : Hid (∀ w' : World, HoldL w' w.heap.size p.cells → Calls Try.prog 60 #[.pointer (some ⟨w.heap.size, 0, none⟩), insV op a b c imm, .int .i64 value] w' (RB (.tuple #[.int .i64 (workI p op b c imm value), .bool true]) w')) :=
    fun w' h => work_yes w.heap.size p hp op a b c imm value w' (PrAt.of h) (Int.natCast_nonneg _) (Int.natCast_nonneg _) (fun h => by unfold badI useA useB useC at hbad; omega) (fun h => by unfold badI useA useB useC at hbad; omega) hw
  obtain ⟨n, hn⟩ : ∃ n, n = workI p op b c imm value := ⟨_, rfl⟩
  rw [← hn] at HW
  have HWN := hid hn; clear hn
  unfold insV at HW
  have ka : (a : Int) < 8 := by unfold badI useA useB useC at hbad; unfold Works at hw; omega
  have k16 : (op == 16) = false := by rw [beq_eq_false_iff_ne]; unfold Works at hw; omega
  have HZ : Hid ((doneP p op a b c imm value).cells = (p.cells.set a (.int .i64 n)).set 8 (.int .i64 nx)) := by
    rw [cells_reg p a n hp (by omega), cells_pc _ nx (by simpa using hp), HWN.out, HN.out]
    unfold doneP
    rw [if_pos hw]
    exact rfl
  clear hbad hw HN HWN
  have hLn := cells_len p hp
  have HO := hid (cells_one (doneP p op a b c imm value))
  unfold Pr.v
  generalize (doneP p op a b c imm value).cells = Z at *
  generalize p.cells = L at *
  go_enter Try.func30, Try.ntmps30
  go_wp2_with (first | ((with_reducible refine at_op 3 ?_); refine wpList_box_row rfl 50 (.tmp 0) rfl (some 3) rfl L rfl w.heap.size w (Below.refl _ _) (Nat.le_refl _) ?_; intro w0 hL0 hbw hz0 hg0; clear hg0) | ((go_at_call 24; (with_reducible refine (HD.out _).mono ?_); rintro e w1 ⟨rfl, hb1⟩); have hL6 := (hold_zl13 _ _).grown hb1 (by simp); have hL0 := hL0.past ((Below.refl _ w0).alloc (Nat.le_refl _) _) hb1; have hbw := bt (hbw.alloc hbw.size _) hb1; clear hb1; have z6 := ltAll hL6.lt) | ((with_reducible refine at_store 8 ?_); refine wpList_put_row rfl 38 (.tmp 8) (.tmp 16) rfl rfl w1.heap.size [.int .i64 op, .int .i64 a, .int .i64 b, .int .i64 c, .int .i64 imm] zl5 rfl rfl (hold_zl5 w1 _) Hsz5.out rfl rfl w.heap.size w (hbw.alloc hbw.size _) hbw.size ?_; intro w2 hLi hbw2 ho2; have n0 := Nat.ne_of_lt hL0.lt; have hni := Nat.ne_of_gt hL0.lt; have n6 := Nat.ne_of_lt hL6.lt; have hL0 := (hL0.grown ((Below.refl _ w1).alloc (Nat.le_refl _) _) hL0.lt).other ho2 n0; have hL6 := (hL6.grown ((Below.refl _ w1).alloc (Nat.le_refl _) _) hL6.lt).other ho2 n6; clear hbw ho2; have hbw := hbw2; clear hbw2; have fi := hLi.cell) | ((with_reducible refine at_op 22 ?_); refine wpList_get_row rfl 38 (.tmp 8) rfl w1.heap.size [.int .i64 op, .int .i64 a, .int .i64 b, .int .i64 c, .int .i64 imm] rfl hLi _ Try.underlying38 rfl Hsz5.out ?_) | ((with_reducible refine at_op 25 ?_); refine wpList_get_row rfl 38 (.tmp 8) rfl w1.heap.size [.int .i64 op, .int .i64 a, .int .i64 b, .int .i64 c, .int .i64 imm] rfl hLi _ Try.underlying38 rfl Hsz5.out ?_) | ((with_reducible refine at_op 28 ?_); refine wpList_get_row rfl 38 (.tmp 8) rfl w1.heap.size [.int .i64 op, .int .i64 a, .int .i64 b, .int .i64 c, .int .i64 imm] rfl hLi _ Try.underlying38 rfl Hsz5.out ?_) | ((go_at_call 58; (with_reducible refine (HB.out _).mono ?_); rintro e w3 ⟨rfl, hb3⟩); have hL0 := hL0.grown hb3 hL0.lt; have hL6 := hL6.grown hb3 hL6.lt; have hLi := hLi.grown hb3 hLi.lt; have hbw := bt hbw hb3; clear hb3; have fi := hLi.cell) | ((go_at_call 59; (with_reducible refine (HJ.out _ hL0).mono ?_); rintro e w4 ⟨rfl, hb4⟩); have hL0 := hL0.grown hb4 hL0.lt; have hL6 := hL6.grown hb4 hL6.lt; have hLi := hLi.grown hb4 hLi.lt; have hbw := bt hbw hb4; clear hb4; have fi := hLi.cell) | ((go_at_call 60; (with_reducible refine (HW.out _ hL0).mono ?_); rintro e w5 ⟨rfl, hb5⟩); have hL0 := hL0.grown hb5 hL0.lt; have hL6 := hL6.grown hb5 hL6.lt; have hLi := hLi.grown hb5 hLi.lt; have hbw := bt hbw hb5; clear hb5; have fi := hLi.cell) | ((with_reducible refine at_store 38 ?_); refine wpList_put_cell rfl 3 (.tmp 38) (.tmp 36) rfl rfl Hsz1.out w.heap.size a (n) rfl rfl (L) hL0 (by first | omega | (simp; omega)) w.heap.size w hbw (Nat.le_refl _) ?_; intro w6 hL06 hbw6 ho6; have n6 := Nat.ne_of_gt hz0; have hL6 := hL6.other ho6 n6; have hLi := hLi.other ho6 hni; clear hL0 hbw ho6; have hL0 := hL06; have hbw := hbw6; clear hL06 hbw6; have fi := hLi.cell) | ((with_reducible refine at_store 57 ?_); refine wpList_put_cell rfl 3 (.tmp 57) (.tmp 56) rfl rfl Hsz1.out w.heap.size 8 (nx) rfl rfl (L.set a (.int .i64 n)) hL0 (by first | omega | (simp; omega)) w.heap.size w hbw (Nat.le_refl _) ?_; intro w6 hL06 hbw6 ho6; have n6 := Nat.ne_of_gt hz0; have hL6 := hL6.other ho6 n6; have hLi := hLi.other ho6 hni; clear hL0 hbw ho6; have hL0 := hL06; have hbw := hbw6; clear hL06 hbw6; have fi := hLi.cell) | ((with_reducible refine at_op 58 ?_); refine wpList_get_row rfl 50 (.tmp 3) rfl w.heap.size ((L.set a (.int .i64 n)).set 8 (.int .i64 nx)) rfl hL0 _ Try.underlying50 rfl (by rw [Hsz.out]; simp [hLn]) ?_) | ((with_reducible refine at_store 6 ?_); refine wpList_put_row rfl 50 (.tmp 6) (.tmp 58) rfl rfl w0.heap.size ((L.set a (.int .i64 n)).set 8 (.int .i64 nx)) zl13 rfl rfl hL6 (by rw [Hsz.out]; simp [hLn]) (by simp [hLn, zl13]) (by rw [← HZ.out]; exact HO.out) w.heap.size w hbw (Nat.le_of_lt hz0) ?_; intro w9 hL6 hbw ho9; clear ho9))
  all_goals
    refine bodyPost_ret (v := .tuple #[.agg ((L.set a (.int .i64 n)).set 8 (.int .i64 nx)).toArray, .int .i64 0]) (results_hold2 rfl _ w0.heap.size ((L.set a (.int .i64 n)).set 8 (.int .i64 nx)) _ _ rfl rfl hL6 Try.underlying50 rfl (by rw [Hsz.out]; simp [hLn])) rfl ⟨ret_agg HZ.out, hbw⟩

set_option maxRecDepth 100000 in
set_option maxHeartbeats 4000000 in
theorem done_plain (p : Pr) (hp : p.r.length = 8) (s : ByteArray) (op imm value : Int) (a b c : Nat) (w : World) (hdec : ∀ w, Calls Try.prog 24 #[.string s] w (RB (.tuple #[insV op a b c imm, .int .i64 0]) w)) (hbad : ¬ badI op a b c imm) (hw : ¬ Works op) (h16 : op ≠ 16) :
    Calls Try.prog 30 #[p.v, .string s, .int .i64 value] w (RB (.tuple #[(doneP p op a b c imm value).v, .int .i64 0]) w) := by
  have HD := hid hdec
  have HB := hid (fun w => bad_any op a b c imm w false ⟨fun h => by simp at h, fun h => absurd h hbad⟩)
  have HJ : Hid (∀ w' : World, HoldL w' w.heap.size p.cells → Calls Try.prog 59 #[.pointer (some ⟨w.heap.size, 0, none⟩), insV op a b c imm] w' (RB (.int .i64 (jumpI p op a b imm)) w')) :=
    fun w' h => jump_any w.heap.size p hp op a b c imm w' (PrAt.of h) (Int.natCast_nonneg _) (Int.natCast_nonneg _) (fun h => by unfold badI useA useB useC at hbad; omega) (fun h => by unfold badI useA useB useC at hbad; omega)
  obtain ⟨nx, hnx⟩ : ∃ nx, nx = jumpI p op a b imm := ⟨_, rfl⟩
  rw [← hnx] at HJ
  have HN := hid hnx; clear hnx
  unfold insV at HD HB HJ
  clear hdec
  have hsz : (Try.prog.info? 50).map (·.size) = some 13 := by kernel_rfl
  have Hsz := hid hsz; clear hsz
  have hsz : (Try.prog.info? 38).map (·.size) = some 5 := by kernel_rfl
  have Hsz5 := hid hsz; clear hsz
  have hsz : (Try.prog.info? 3).map (·.size) = some 1 := by kernel_rfl
  have Hsz1 := hid hsz; clear hsz
  have HW : Hid (∀ w' : World, Calls Try.prog 60 #[.pointer (some ⟨w.heap.size, 0, none⟩), insV op a b c imm, .int .i64 value] w' (RB (.tuple #[.int .i64 0, .bool false]) w')) :=
    fun w' => work_no w.heap.size op a b c imm value w' hw
  unfold insV at HW
  have k16 : (op == 16) = false := by rw [beq_eq_false_iff_ne]; exact h16
  have HZ : Hid ((doneP p op a b c imm value).cells = p.cells.set 8 (.int .i64 nx)) := by
    rw [cells_pc _ nx hp, HN.out]
    unfold doneP
    rw [if_neg hw, if_neg (fun h => h16 h.1), if_neg (fun h => h16 h.1)]
    exact rfl
  clear hbad hw HN
  have hLn := cells_len p hp
  have HO := hid (cells_one (doneP p op a b c imm value))
  unfold Pr.v
  generalize (doneP p op a b c imm value).cells = Z at *
  generalize p.cells = L at *
  go_enter Try.func30, Try.ntmps30
  go_wp2_with (first | ((with_reducible refine at_op 3 ?_); refine wpList_box_row rfl 50 (.tmp 0) rfl (some 3) rfl L rfl w.heap.size w (Below.refl _ _) (Nat.le_refl _) ?_; intro w0 hL0 hbw hz0 hg0; clear hg0) | ((go_at_call 24; (with_reducible refine (HD.out _).mono ?_); rintro e w1 ⟨rfl, hb1⟩); have hL6 := (hold_zl13 _ _).grown hb1 (by simp); have hL0 := hL0.past ((Below.refl _ w0).alloc (Nat.le_refl _) _) hb1; have hbw := bt (hbw.alloc hbw.size _) hb1; clear hb1; have z6 := ltAll hL6.lt) | ((with_reducible refine at_store 8 ?_); refine wpList_put_row rfl 38 (.tmp 8) (.tmp 16) rfl rfl w1.heap.size [.int .i64 op, .int .i64 a, .int .i64 b, .int .i64 c, .int .i64 imm] zl5 rfl rfl (hold_zl5 w1 _) Hsz5.out rfl rfl w.heap.size w (hbw.alloc hbw.size _) hbw.size ?_; intro w2 hLi hbw2 ho2; have n0 := Nat.ne_of_lt hL0.lt; have hni := Nat.ne_of_gt hL0.lt; have n6 := Nat.ne_of_lt hL6.lt; have hL0 := (hL0.grown ((Below.refl _ w1).alloc (Nat.le_refl _) _) hL0.lt).other ho2 n0; have hL6 := (hL6.grown ((Below.refl _ w1).alloc (Nat.le_refl _) _) hL6.lt).other ho2 n6; clear hbw ho2; have hbw := hbw2; clear hbw2; have fi := hLi.cell) | ((with_reducible refine at_op 22 ?_); refine wpList_get_row rfl 38 (.tmp 8) rfl w1.heap.size [.int .i64 op, .int .i64 a, .int .i64 b, .int .i64 c, .int .i64 imm] rfl hLi _ Try.underlying38 rfl Hsz5.out ?_) | ((with_reducible refine at_op 25 ?_); refine wpList_get_row rfl 38 (.tmp 8) rfl w1.heap.size [.int .i64 op, .int .i64 a, .int .i64 b, .int .i64 c, .int .i64 imm] rfl hLi _ Try.underlying38 rfl Hsz5.out ?_) | ((with_reducible refine at_op 28 ?_); refine wpList_get_row rfl 38 (.tmp 8) rfl w1.heap.size [.int .i64 op, .int .i64 a, .int .i64 b, .int .i64 c, .int .i64 imm] rfl hLi _ Try.underlying38 rfl Hsz5.out ?_) | ((go_at_call 58; (with_reducible refine (HB.out _).mono ?_); rintro e w3 ⟨rfl, hb3⟩); have hL0 := hL0.grown hb3 hL0.lt; have hL6 := hL6.grown hb3 hL6.lt; have hLi := hLi.grown hb3 hLi.lt; have hbw := bt hbw hb3; clear hb3; have fi := hLi.cell) | ((go_at_call 59; (with_reducible refine (HJ.out _ hL0).mono ?_); rintro e w4 ⟨rfl, hb4⟩); have hL0 := hL0.grown hb4 hL0.lt; have hL6 := hL6.grown hb4 hL6.lt; have hLi := hLi.grown hb4 hLi.lt; have hbw := bt hbw hb4; clear hb4; have fi := hLi.cell) | ((go_at_call 60; (with_reducible refine (HW.out _).mono ?_); rintro e w5 ⟨rfl, hb5⟩); have hL0 := hL0.grown hb5 hL0.lt; have hL6 := hL6.grown hb5 hL6.lt; have hLi := hLi.grown hb5 hLi.lt; have hbw := bt hbw hb5; clear hb5; have fi := hLi.cell) | fail | ((with_reducible refine at_store 57 ?_); refine wpList_put_cell rfl 3 (.tmp 57) (.tmp 56) rfl rfl Hsz1.out w.heap.size 8 (nx) rfl rfl (L) hL0 (by first | omega | (simp; omega)) w.heap.size w hbw (Nat.le_refl _) ?_; intro w6 hL06 hbw6 ho6; have n6 := Nat.ne_of_gt hz0; have hL6 := hL6.other ho6 n6; have hLi := hLi.other ho6 hni; clear hL0 hbw ho6; have hL0 := hL06; have hbw := hbw6; clear hL06 hbw6; have fi := hLi.cell) | ((with_reducible refine at_op 58 ?_); refine wpList_get_row rfl 50 (.tmp 3) rfl w.heap.size (L.set 8 (.int .i64 nx)) rfl hL0 _ Try.underlying50 rfl (by rw [Hsz.out]; simp [hLn]) ?_) | ((with_reducible refine at_store 6 ?_); refine wpList_put_row rfl 50 (.tmp 6) (.tmp 58) rfl rfl w0.heap.size (L.set 8 (.int .i64 nx)) zl13 rfl rfl hL6 (by rw [Hsz.out]; simp [hLn]) (by simp [hLn, zl13]) (by rw [← HZ.out]; exact HO.out) w.heap.size w hbw (Nat.le_of_lt hz0) ?_; intro w9 hL6 hbw ho9; clear ho9))
  all_goals
    refine bodyPost_ret (v := .tuple #[.agg (L.set 8 (.int .i64 nx)).toArray, .int .i64 0]) (results_hold2 rfl _ w0.heap.size (L.set 8 (.int .i64 nx)) _ _ rfl rfl hL6 Try.underlying50 rfl (by rw [Hsz.out]; simp [hLn])) rfl ⟨ret_agg HZ.out, hbw⟩

set_option maxRecDepth 100000 in
set_option maxHeartbeats 4000000 in
theorem done_out (p : Pr) (hp : p.r.length = 8) (s : ByteArray) (value : Int) (a b c : Nat) (w : World) (hdec : ∀ w, Calls Try.prog 24 #[.string s] w (RB (.tuple #[insV 16 a b c 1, .int .i64 0]) w)) :
    Calls Try.prog 30 #[p.v, .string s, .int .i64 value] w (RB (.tuple #[(doneP p 16 a b c 1 value).v, .int .i64 0]) w) := by
  obtain ⟨op, h16⟩ : ∃ op : Int, op = 16 := ⟨_, rfl⟩
  obtain ⟨imm, h1⟩ : ∃ imm : Int, imm = 1 := ⟨_, rfl⟩
  rw [← h16, ← h1] at hdec ⊢
  have hbad : ¬ badI op a b c imm := by unfold badI useA useB useC; omega
  have hw : ¬ Works op := by unfold Works; omega
  have HD := hid hdec
  have HB := hid (fun w => bad_any op a b c imm w false ⟨fun h => by simp at h, fun h => absurd h hbad⟩)
  have HJ : Hid (∀ w' : World, HoldL w' w.heap.size p.cells → Calls Try.prog 59 #[.pointer (some ⟨w.heap.size, 0, none⟩), insV op a b c imm] w' (RB (.int .i64 (jumpI p op a b imm)) w')) :=
    fun w' h => jump_any w.heap.size p hp op a b c imm w' (PrAt.of h) (Int.natCast_nonneg _) (Int.natCast_nonneg _) (fun h => by unfold badI useA useB useC at hbad; omega) (fun h => by unfold badI useA useB useC at hbad; omega)
  obtain ⟨nx, hnx⟩ : ∃ nx, nx = jumpI p op a b imm := ⟨_, rfl⟩
  rw [← hnx] at HJ
  have HN := hid hnx; clear hnx
  unfold insV at HD HB HJ
  clear hdec
  have hsz : (Try.prog.info? 50).map (·.size) = some 13 := by kernel_rfl
  have Hsz := hid hsz; clear hsz
  have hsz : (Try.prog.info? 38).map (·.size) = some 5 := by kernel_rfl
  have Hsz5 := hid hsz; clear hsz
  have hsz : (Try.prog.info? 3).map (·.size) = some 1 := by kernel_rfl
  have Hsz1 := hid hsz; clear hsz
  have HW : Hid (∀ w' : World, Calls Try.prog 60 #[.pointer (some ⟨w.heap.size, 0, none⟩), insV op a b c imm, .int .i64 value] w' (RB (.tuple #[.int .i64 0, .bool false]) w')) :=
    fun w' => work_no w.heap.size op a b c imm value w' hw
  unfold insV at HW
  have HZ : Hid ((doneP p op a b c imm value).cells = p.cells.set 8 (.int .i64 nx)) := by
    rw [cells_pc _ nx hp, HN.out]
    unfold doneP
    rw [if_neg hw, if_neg (fun h => by omega), if_neg (fun h => h.2 h1)]
    exact rfl
  clear hbad hw HN
  have hLn := cells_len p hp
  have HO := hid (cells_one (doneP p op a b c imm value))
  unfold Pr.v
  generalize (doneP p op a b c imm value).cells = Z at *
  generalize p.cells = L at *
  have k16 : (op == 16) = true := by rw [beq_iff_eq]; exact h16
  have k1 : (imm == 1) = true := by rw [beq_iff_eq]; exact h1
  clear h16 h1
  go_enter Try.func30, Try.ntmps30
  go_wp2_with (first | ((with_reducible refine at_op 3 ?_); refine wpList_box_row rfl 50 (.tmp 0) rfl (some 3) rfl L rfl w.heap.size w (Below.refl _ _) (Nat.le_refl _) ?_; intro w0 hL0 hbw hz0 hg0; clear hg0) | ((go_at_call 24; (with_reducible refine (HD.out _).mono ?_); rintro e w1 ⟨rfl, hb1⟩); have hL6 := (hold_zl13 _ _).grown hb1 (by simp); have hL0 := hL0.past ((Below.refl _ w0).alloc (Nat.le_refl _) _) hb1; have hbw := bt (hbw.alloc hbw.size _) hb1; clear hb1; have z6 := ltAll hL6.lt) | ((with_reducible refine at_store 8 ?_); refine wpList_put_row rfl 38 (.tmp 8) (.tmp 16) rfl rfl w1.heap.size [.int .i64 op, .int .i64 a, .int .i64 b, .int .i64 c, .int .i64 imm] zl5 rfl rfl (hold_zl5 w1 _) Hsz5.out rfl rfl w.heap.size w (hbw.alloc hbw.size _) hbw.size ?_; intro w2 hLi hbw2 ho2; have n0 := Nat.ne_of_lt hL0.lt; have hni := Nat.ne_of_gt hL0.lt; have n6 := Nat.ne_of_lt hL6.lt; have hL0 := (hL0.grown ((Below.refl _ w1).alloc (Nat.le_refl _) _) hL0.lt).other ho2 n0; have hL6 := (hL6.grown ((Below.refl _ w1).alloc (Nat.le_refl _) _) hL6.lt).other ho2 n6; clear hbw ho2; have hbw := hbw2; clear hbw2; have fi := hLi.cell) | ((with_reducible refine at_op 22 ?_); refine wpList_get_row rfl 38 (.tmp 8) rfl w1.heap.size [.int .i64 op, .int .i64 a, .int .i64 b, .int .i64 c, .int .i64 imm] rfl hLi _ Try.underlying38 rfl Hsz5.out ?_) | ((with_reducible refine at_op 25 ?_); refine wpList_get_row rfl 38 (.tmp 8) rfl w1.heap.size [.int .i64 op, .int .i64 a, .int .i64 b, .int .i64 c, .int .i64 imm] rfl hLi _ Try.underlying38 rfl Hsz5.out ?_) | ((with_reducible refine at_op 28 ?_); refine wpList_get_row rfl 38 (.tmp 8) rfl w1.heap.size [.int .i64 op, .int .i64 a, .int .i64 b, .int .i64 c, .int .i64 imm] rfl hLi _ Try.underlying38 rfl Hsz5.out ?_) | ((go_at_call 58; (with_reducible refine (HB.out _).mono ?_); rintro e w3 ⟨rfl, hb3⟩); have hL0 := hL0.grown hb3 hL0.lt; have hL6 := hL6.grown hb3 hL6.lt; have hLi := hLi.grown hb3 hLi.lt; have hbw := bt hbw hb3; clear hb3; have fi := hLi.cell) | ((go_at_call 59; (with_reducible refine (HJ.out _ hL0).mono ?_); rintro e w4 ⟨rfl, hb4⟩); have hL0 := hL0.grown hb4 hL0.lt; have hL6 := hL6.grown hb4 hL6.lt; have hLi := hLi.grown hb4 hLi.lt; have hbw := bt hbw hb4; clear hb4; have fi := hLi.cell) | ((go_at_call 60; (with_reducible refine (HW.out _).mono ?_); rintro e w5 ⟨rfl, hb5⟩); have hL0 := hL0.grown hb5 hL0.lt; have hL6 := hL6.grown hb5 hL6.lt; have hLi := hLi.grown hb5 hLi.lt; have hbw := bt hbw hb5; clear hb5; have fi := hLi.cell) | fail | ((with_reducible refine at_store 57 ?_); refine wpList_put_cell rfl 3 (.tmp 57) (.tmp 56) rfl rfl Hsz1.out w.heap.size 8 (nx) rfl rfl (L) hL0 (by first | omega | (simp; omega)) w.heap.size w hbw (Nat.le_refl _) ?_; intro w6 hL06 hbw6 ho6; have n6 := Nat.ne_of_gt hz0; have hL6 := hL6.other ho6 n6; have hLi := hLi.other ho6 hni; clear hL0 hbw ho6; have hL0 := hL06; have hbw := hbw6; clear hL06 hbw6; have fi := hLi.cell) | ((with_reducible refine at_op 58 ?_); refine wpList_get_row rfl 50 (.tmp 3) rfl w.heap.size (L.set 8 (.int .i64 nx)) rfl hL0 _ Try.underlying50 rfl (by rw [Hsz.out]; simp [hLn]) ?_) | ((with_reducible refine at_store 6 ?_); refine wpList_put_row rfl 50 (.tmp 6) (.tmp 58) rfl rfl w0.heap.size (L.set 8 (.int .i64 nx)) zl13 rfl rfl hL6 (by rw [Hsz.out]; simp [hLn]) (by simp [hLn, zl13]) (by rw [← HZ.out]; exact HO.out) w.heap.size w hbw (Nat.le_of_lt hz0) ?_; intro w9 hL6 hbw ho9; clear ho9))
  all_goals
    refine bodyPost_ret (v := .tuple #[.agg (L.set 8 (.int .i64 nx)).toArray, .int .i64 0]) (results_hold2 rfl _ w0.heap.size (L.set 8 (.int .i64 nx)) _ _ rfl rfl hL6 Try.underlying50 rfl (by rw [Hsz.out]; simp [hLn])) rfl ⟨ret_agg HZ.out, hbw⟩

theorem cells_zero (p : Pr) (hp : p.r.length = 8) : p.cells[0]? = some (.int .i64 (p.reg 0)) := by
  simp [Pr.cells, Pr.reg, hp, List.getElem?_append_left]

set_option maxRecDepth 100000 in
set_option maxHeartbeats 4000000 in
theorem done_exit (p : Pr) (hp : p.r.length = 8) (s : ByteArray) (value : Int) (a b c : Nat) (w : World) (hdec : ∀ w, Calls Try.prog 24 #[.string s] w (RB (.tuple #[insV 16 a b c 6, .int .i64 0]) w)) :
    Calls Try.prog 30 #[p.v, .string s, .int .i64 value] w (RB (.tuple #[(doneP p 16 a b c 6 value).v, .int .i64 0]) w) := by
  obtain ⟨op, h16⟩ : ∃ op : Int, op = 16 := ⟨_, rfl⟩
  obtain ⟨imm, h1⟩ : ∃ imm : Int, imm = 6 := ⟨_, rfl⟩
  rw [← h16, ← h1] at hdec ⊢
  have hbad : ¬ badI op a b c imm := by unfold badI useA useB useC; omega
  have hw : ¬ Works op := by unfold Works; omega
  have HD := hid hdec
  have HB := hid (fun w => bad_any op a b c imm w false ⟨fun h => by simp at h, fun h => absurd h hbad⟩)
  have HJ : Hid (∀ w' : World, HoldL w' w.heap.size p.cells → Calls Try.prog 59 #[.pointer (some ⟨w.heap.size, 0, none⟩), insV op a b c imm] w' (RB (.int .i64 (jumpI p op a b imm)) w')) :=
    fun w' h => jump_any w.heap.size p hp op a b c imm w' (PrAt.of h) (Int.natCast_nonneg _) (Int.natCast_nonneg _) (fun h => by unfold badI useA useB useC at hbad; omega) (fun h => by unfold badI useA useB useC at hbad; omega)
  obtain ⟨nx, hnx⟩ : ∃ nx, nx = jumpI p op a b imm := ⟨_, rfl⟩
  rw [← hnx] at HJ
  have HN := hid hnx; clear hnx
  unfold insV at HD HB HJ
  clear hdec
  have hsz : (Try.prog.info? 50).map (·.size) = some 13 := by kernel_rfl
  have Hsz := hid hsz; clear hsz
  have hsz : (Try.prog.info? 38).map (·.size) = some 5 := by kernel_rfl
  have Hsz5 := hid hsz; clear hsz
  have hsz : (Try.prog.info? 3).map (·.size) = some 1 := by kernel_rfl
  have Hsz1 := hid hsz; clear hsz
  have HW : Hid (∀ w' : World, Calls Try.prog 60 #[.pointer (some ⟨w.heap.size, 0, none⟩), insV op a b c imm, .int .i64 value] w' (RB (.tuple #[.int .i64 0, .bool false]) w')) :=
    fun w' => work_no w.heap.size op a b c imm value w' hw
  unfold insV at HW
  obtain ⟨x, hx⟩ : ∃ x, x = p.reg 0 := ⟨_, rfl⟩
  have HZ : Hid ((doneP p op a b c imm value).cells = ((p.cells.set 9 (.int .i64 2)).set 10 (.int .i64 x)).set 8 (.int .i64 nx)) := by
    rw [cells_st _ 2 hp, cells_code _ x (by simpa using hp), cells_pc _ nx (by simpa using hp), HN.out, hx]
    unfold doneP
    rw [if_neg hw, if_pos ⟨h16, h1⟩]
    exact rfl
  have C0 := hid (cells_zero p hp)
  rw [← hx] at C0
  clear hx
  clear hbad hw HN
  have hLn := cells_len p hp
  have HO := hid (cells_one (doneP p op a b c imm value))
  unfold Pr.v
  generalize (doneP p op a b c imm value).cells = Z at *
  generalize p.cells = L at *
  have k16 : (op == 16) = true := by rw [beq_iff_eq]; exact h16
  have k1 : (imm == 1) = false := by rw [beq_eq_false_iff_ne]; omega
  have k6 : (imm == 6) = true := by rw [beq_iff_eq]; exact h1
  clear h16 h1
  go_enter Try.func30, Try.ntmps30
  go_wp2_with (first | ((with_reducible refine at_op 3 ?_); refine wpList_box_row rfl 50 (.tmp 0) rfl (some 3) rfl L rfl w.heap.size w (Below.refl _ _) (Nat.le_refl _) ?_; intro w0 hL0 hbw hz0 hg0; clear hg0) | ((go_at_call 24; (with_reducible refine (HD.out _).mono ?_); rintro e w1 ⟨rfl, hb1⟩); have hL6 := (hold_zl13 _ _).grown hb1 (by simp); have hL0 := hL0.past ((Below.refl _ w0).alloc (Nat.le_refl _) _) hb1; have hbw := bt (hbw.alloc hbw.size _) hb1; clear hb1; have z6 := ltAll hL6.lt) | ((with_reducible refine at_store 8 ?_); refine wpList_put_row rfl 38 (.tmp 8) (.tmp 16) rfl rfl w1.heap.size [.int .i64 op, .int .i64 a, .int .i64 b, .int .i64 c, .int .i64 imm] zl5 rfl rfl (hold_zl5 w1 _) Hsz5.out rfl rfl w.heap.size w (hbw.alloc hbw.size _) hbw.size ?_; intro w2 hLi hbw2 ho2; have n0 := Nat.ne_of_lt hL0.lt; have hni := Nat.ne_of_gt hL0.lt; have n6 := Nat.ne_of_lt hL6.lt; have hL0 := (hL0.grown ((Below.refl _ w1).alloc (Nat.le_refl _) _) hL0.lt).other ho2 n0; have hL6 := (hL6.grown ((Below.refl _ w1).alloc (Nat.le_refl _) _) hL6.lt).other ho2 n6; clear hbw ho2; have hbw := hbw2; clear hbw2; have fi := hLi.cell) | ((with_reducible refine at_op 22 ?_); refine wpList_get_row rfl 38 (.tmp 8) rfl w1.heap.size [.int .i64 op, .int .i64 a, .int .i64 b, .int .i64 c, .int .i64 imm] rfl hLi _ Try.underlying38 rfl Hsz5.out ?_) | ((with_reducible refine at_op 25 ?_); refine wpList_get_row rfl 38 (.tmp 8) rfl w1.heap.size [.int .i64 op, .int .i64 a, .int .i64 b, .int .i64 c, .int .i64 imm] rfl hLi _ Try.underlying38 rfl Hsz5.out ?_) | ((with_reducible refine at_op 28 ?_); refine wpList_get_row rfl 38 (.tmp 8) rfl w1.heap.size [.int .i64 op, .int .i64 a, .int .i64 b, .int .i64 c, .int .i64 imm] rfl hLi _ Try.underlying38 rfl Hsz5.out ?_) | ((go_at_call 58; (with_reducible refine (HB.out _).mono ?_); rintro e w3 ⟨rfl, hb3⟩); have hL0 := hL0.grown hb3 hL0.lt; have hL6 := hL6.grown hb3 hL6.lt; have hLi := hLi.grown hb3 hLi.lt; have hbw := bt hbw hb3; clear hb3; have fi := hLi.cell) | ((go_at_call 59; (with_reducible refine (HJ.out _ hL0).mono ?_); rintro e w4 ⟨rfl, hb4⟩); have hL0 := hL0.grown hb4 hL0.lt; have hL6 := hL6.grown hb4 hL6.lt; have hLi := hLi.grown hb4 hLi.lt; have hbw := bt hbw hb4; clear hb4; have fi := hLi.cell) | ((go_at_call 60; (with_reducible refine (HW.out _).mono ?_); rintro e w5 ⟨rfl, hb5⟩); have hL0 := hL0.grown hb5 hL0.lt; have hL6 := hL6.grown hb5 hL6.lt; have hLi := hLi.grown hb5 hLi.lt; have hbw := bt hbw hb5; clear hb5; have fi := hLi.cell; have f0 := (hL0.cell 0).trans C0.out) | ((with_reducible refine at_store 54 ?_); refine wpList_put_cell rfl 3 (.tmp 54) (.const (.int .i64 2)) rfl rfl Hsz1.out w.heap.size 9 (2) rfl rfl (L) hL0 (by first | omega | (simp; omega)) w.heap.size w hbw (Nat.le_refl _) ?_; intro w6 hL06 hbw6 ho6; have n6 := Nat.ne_of_gt hz0; have hL6 := hL6.other ho6 n6; have hLi := hLi.other ho6 hni; clear hL0 hbw ho6; have hL0 := hL06; have hbw := hbw6; clear hL06 hbw6; have fi := hLi.cell) | ((with_reducible refine at_store 55 ?_); refine wpList_put_cell rfl 3 (.tmp 55) (.tmp 53) rfl rfl Hsz1.out w.heap.size 10 (x) rfl rfl (L.set 9 (.int .i64 2)) hL0 (by first | omega | (simp; omega)) w.heap.size w hbw (Nat.le_refl _) ?_; intro w6 hL06 hbw6 ho6; have n6 := Nat.ne_of_gt hz0; have hL6 := hL6.other ho6 n6; have hLi := hLi.other ho6 hni; clear hL0 hbw ho6; have hL0 := hL06; have hbw := hbw6; clear hL06 hbw6; have fi := hLi.cell) | ((with_reducible refine at_store 57 ?_); refine wpList_put_cell rfl 3 (.tmp 57) (.tmp 56) rfl rfl Hsz1.out w.heap.size 8 (nx) rfl rfl ((L.set 9 (.int .i64 2)).set 10 (.int .i64 x)) hL0 (by first | omega | (simp; omega)) w.heap.size w hbw (Nat.le_refl _) ?_; intro w6 hL06 hbw6 ho6; have n6 := Nat.ne_of_gt hz0; have hL6 := hL6.other ho6 n6; have hLi := hLi.other ho6 hni; clear hL0 hbw ho6; have hL0 := hL06; have hbw := hbw6; clear hL06 hbw6; have fi := hLi.cell) | ((with_reducible refine at_op 58 ?_); refine wpList_get_row rfl 50 (.tmp 3) rfl w.heap.size (((L.set 9 (.int .i64 2)).set 10 (.int .i64 x)).set 8 (.int .i64 nx)) rfl hL0 _ Try.underlying50 rfl (by rw [Hsz.out]; simp [hLn]) ?_) | ((with_reducible refine at_store 6 ?_); refine wpList_put_row rfl 50 (.tmp 6) (.tmp 58) rfl rfl w0.heap.size (((L.set 9 (.int .i64 2)).set 10 (.int .i64 x)).set 8 (.int .i64 nx)) zl13 rfl rfl hL6 (by rw [Hsz.out]; simp [hLn]) (by simp [hLn, zl13]) (by rw [← HZ.out]; exact HO.out) w.heap.size w hbw (Nat.le_of_lt hz0) ?_; intro w9 hL6 hbw ho9; clear ho9))
  all_goals
    refine bodyPost_ret (v := .tuple #[.agg (((L.set 9 (.int .i64 2)).set 10 (.int .i64 x)).set 8 (.int .i64 nx)).toArray, .int .i64 0]) (results_hold2 rfl _ w0.heap.size (((L.set 9 (.int .i64 2)).set 10 (.int .i64 x)).set 8 (.int .i64 nx)) _ _ rfl rfl hL6 Try.underlying50 rfl (by rw [Hsz.out]; simp [hLn])) rfl ⟨ret_agg HZ.out, hbw⟩

set_option maxRecDepth 100000 in
set_option maxHeartbeats 4000000 in
theorem done_call (p : Pr) (hp : p.r.length = 8) (s : ByteArray) (imm value : Int) (a b c : Nat) (w : World) (hdec : ∀ w, Calls Try.prog 24 #[.string s] w (RB (.tuple #[insV 16 a b c imm, .int .i64 0]) w)) (hi : 1 < imm ∧ imm < 6) :
    Calls Try.prog 30 #[p.v, .string s, .int .i64 value] w (RB (.tuple #[(doneP p 16 a b c imm value).v, .int .i64 0]) w) := by
  obtain ⟨op, h16⟩ : ∃ op : Int, op = 16 := ⟨_, rfl⟩
  rw [← h16] at hdec ⊢
  have hbad : ¬ badI op a b c imm := by unfold badI useA useB useC; omega
  have hw : ¬ Works op := by unfold Works; omega
  have HD := hid hdec
  have HB := hid (fun w => bad_any op a b c imm w false ⟨fun h => by simp at h, fun h => absurd h hbad⟩)
  have HJ : Hid (∀ w' : World, HoldL w' w.heap.size p.cells → Calls Try.prog 59 #[.pointer (some ⟨w.heap.size, 0, none⟩), insV op a b c imm] w' (RB (.int .i64 (jumpI p op a b imm)) w')) :=
    fun w' h => jump_any w.heap.size p hp op a b c imm w' (PrAt.of h) (Int.natCast_nonneg _) (Int.natCast_nonneg _) (fun h => by unfold badI useA useB useC at hbad; omega) (fun h => by unfold badI useA useB useC at hbad; omega)
  obtain ⟨nx, hnx⟩ : ∃ nx, nx = jumpI p op a b imm := ⟨_, rfl⟩
  rw [← hnx] at HJ
  have HN := hid hnx; clear hnx
  unfold insV at HD HB HJ
  clear hdec
  have hsz : (Try.prog.info? 50).map (·.size) = some 13 := by kernel_rfl
  have Hsz := hid hsz; clear hsz
  have hsz : (Try.prog.info? 38).map (·.size) = some 5 := by kernel_rfl
  have Hsz5 := hid hsz; clear hsz
  have hsz : (Try.prog.info? 3).map (·.size) = some 1 := by kernel_rfl
  have Hsz1 := hid hsz; clear hsz
  have HW : Hid (∀ w' : World, Calls Try.prog 60 #[.pointer (some ⟨w.heap.size, 0, none⟩), insV op a b c imm, .int .i64 value] w' (RB (.tuple #[.int .i64 0, .bool false]) w')) :=
    fun w' => work_no w.heap.size op a b c imm value w' hw
  unfold insV at HW
  have HZ : Hid ((doneP p op a b c imm value).cells = (p.cells.set 0 (.int .i64 value)).set 8 (.int .i64 nx)) := by
    rw [cells_reg p 0 value hp (by decide), cells_pc _ nx (by simpa using hp), HN.out]
    unfold doneP
    rw [if_neg hw, if_neg (fun h => by omega), if_pos ⟨h16, by omega⟩]
    exact rfl
  have k1 : (imm == 1) = false := by rw [beq_eq_false_iff_ne]; omega
  have k6 : (imm == 6) = false := by rw [beq_eq_false_iff_ne]; omega
  clear hi
  clear hbad hw HN
  have hLn := cells_len p hp
  have HO := hid (cells_one (doneP p op a b c imm value))
  unfold Pr.v
  generalize (doneP p op a b c imm value).cells = Z at *
  generalize p.cells = L at *
  have k16 : (op == 16) = true := by rw [beq_iff_eq]; exact h16
  clear h16
  go_enter Try.func30, Try.ntmps30
  go_wp2_with (first | ((with_reducible refine at_op 3 ?_); refine wpList_box_row rfl 50 (.tmp 0) rfl (some 3) rfl L rfl w.heap.size w (Below.refl _ _) (Nat.le_refl _) ?_; intro w0 hL0 hbw hz0 hg0; clear hg0) | ((go_at_call 24; (with_reducible refine (HD.out _).mono ?_); rintro e w1 ⟨rfl, hb1⟩); have hL6 := (hold_zl13 _ _).grown hb1 (by simp); have hL0 := hL0.past ((Below.refl _ w0).alloc (Nat.le_refl _) _) hb1; have hbw := bt (hbw.alloc hbw.size _) hb1; clear hb1; have z6 := ltAll hL6.lt) | ((with_reducible refine at_store 8 ?_); refine wpList_put_row rfl 38 (.tmp 8) (.tmp 16) rfl rfl w1.heap.size [.int .i64 op, .int .i64 a, .int .i64 b, .int .i64 c, .int .i64 imm] zl5 rfl rfl (hold_zl5 w1 _) Hsz5.out rfl rfl w.heap.size w (hbw.alloc hbw.size _) hbw.size ?_; intro w2 hLi hbw2 ho2; have n0 := Nat.ne_of_lt hL0.lt; have hni := Nat.ne_of_gt hL0.lt; have n6 := Nat.ne_of_lt hL6.lt; have hL0 := (hL0.grown ((Below.refl _ w1).alloc (Nat.le_refl _) _) hL0.lt).other ho2 n0; have hL6 := (hL6.grown ((Below.refl _ w1).alloc (Nat.le_refl _) _) hL6.lt).other ho2 n6; clear hbw ho2; have hbw := hbw2; clear hbw2; have fi := hLi.cell) | ((with_reducible refine at_op 22 ?_); refine wpList_get_row rfl 38 (.tmp 8) rfl w1.heap.size [.int .i64 op, .int .i64 a, .int .i64 b, .int .i64 c, .int .i64 imm] rfl hLi _ Try.underlying38 rfl Hsz5.out ?_) | ((with_reducible refine at_op 25 ?_); refine wpList_get_row rfl 38 (.tmp 8) rfl w1.heap.size [.int .i64 op, .int .i64 a, .int .i64 b, .int .i64 c, .int .i64 imm] rfl hLi _ Try.underlying38 rfl Hsz5.out ?_) | ((with_reducible refine at_op 28 ?_); refine wpList_get_row rfl 38 (.tmp 8) rfl w1.heap.size [.int .i64 op, .int .i64 a, .int .i64 b, .int .i64 c, .int .i64 imm] rfl hLi _ Try.underlying38 rfl Hsz5.out ?_) | ((go_at_call 58; (with_reducible refine (HB.out _).mono ?_); rintro e w3 ⟨rfl, hb3⟩); have hL0 := hL0.grown hb3 hL0.lt; have hL6 := hL6.grown hb3 hL6.lt; have hLi := hLi.grown hb3 hLi.lt; have hbw := bt hbw hb3; clear hb3; have fi := hLi.cell) | ((go_at_call 59; (with_reducible refine (HJ.out _ hL0).mono ?_); rintro e w4 ⟨rfl, hb4⟩); have hL0 := hL0.grown hb4 hL0.lt; have hL6 := hL6.grown hb4 hL6.lt; have hLi := hLi.grown hb4 hLi.lt; have hbw := bt hbw hb4; clear hb4; have fi := hLi.cell) | ((go_at_call 60; (with_reducible refine (HW.out _).mono ?_); rintro e w5 ⟨rfl, hb5⟩); have hL0 := hL0.grown hb5 hL0.lt; have hL6 := hL6.grown hb5 hL6.lt; have hLi := hLi.grown hb5 hLi.lt; have hbw := bt hbw hb5; clear hb5; have fi := hLi.cell) | ((with_reducible refine at_store 46 ?_); refine wpList_put_cell rfl 3 (.tmp 46) (.tmp 44) rfl rfl Hsz1.out w.heap.size 0 (value) rfl rfl (L) hL0 (by first | omega | (simp; omega)) w.heap.size w hbw (Nat.le_refl _) ?_; intro w6 hL06 hbw6 ho6; have n6 := Nat.ne_of_gt hz0; have hL6 := hL6.other ho6 n6; have hLi := hLi.other ho6 hni; clear hL0 hbw ho6; have hL0 := hL06; have hbw := hbw6; clear hL06 hbw6; have fi := hLi.cell) | ((with_reducible refine at_store 57 ?_); refine wpList_put_cell rfl 3 (.tmp 57) (.tmp 56) rfl rfl Hsz1.out w.heap.size 8 (nx) rfl rfl (L.set 0 (.int .i64 value)) hL0 (by first | omega | (simp; omega)) w.heap.size w hbw (Nat.le_refl _) ?_; intro w6 hL06 hbw6 ho6; have n6 := Nat.ne_of_gt hz0; have hL6 := hL6.other ho6 n6; have hLi := hLi.other ho6 hni; clear hL0 hbw ho6; have hL0 := hL06; have hbw := hbw6; clear hL06 hbw6; have fi := hLi.cell) | ((with_reducible refine at_op 58 ?_); refine wpList_get_row rfl 50 (.tmp 3) rfl w.heap.size ((L.set 0 (.int .i64 value)).set 8 (.int .i64 nx)) rfl hL0 _ Try.underlying50 rfl (by rw [Hsz.out]; simp [hLn]) ?_) | ((with_reducible refine at_store 6 ?_); refine wpList_put_row rfl 50 (.tmp 6) (.tmp 58) rfl rfl w0.heap.size ((L.set 0 (.int .i64 value)).set 8 (.int .i64 nx)) zl13 rfl rfl hL6 (by rw [Hsz.out]; simp [hLn]) (by simp [hLn, zl13]) (by rw [← HZ.out]; exact HO.out) w.heap.size w hbw (Nat.le_of_lt hz0) ?_; intro w9 hL6 hbw ho9; clear ho9))
  all_goals
    refine bodyPost_ret (v := .tuple #[.agg ((L.set 0 (.int .i64 value)).set 8 (.int .i64 nx)).toArray, .int .i64 0]) (results_hold2 rfl _ w0.heap.size ((L.set 0 (.int .i64 value)).set 8 (.int .i64 nx)) _ _ rfl rfl hL6 Try.underlying50 rfl (by rw [Hsz.out]; simp [hLn])) rfl ⟨ret_agg HZ.out, hbw⟩

/-- DONE, of an instruction that is not bad -/
theorem done_yes (p : Pr) (hp : p.r.length = 8) (s : ByteArray) (op imm value : Int) (a b c : Nat) (w : World) (hdec : ∀ w, Calls Try.prog 24 #[.string s] w (RB (.tuple #[insV op a b c imm, .int .i64 0]) w)) (hbad : ¬ badI op a b c imm) :
    Calls Try.prog 30 #[p.v, .string s, .int .i64 value] w (RB (.tuple #[(doneP p op a b c imm value).v, .int .i64 0]) w) := by
  by_cases hw : Works op
  · exact done_works p hp s op imm value a b c w hdec hbad hw
  by_cases h16 : op = 16
  · subst h16
    rcases show imm = 1 ∨ imm = 6 ∨ (1 < imm ∧ imm < 6) by unfold badI at hbad; omega with h | h | h
    · subst h; exact done_out p hp s value a b c w hdec
    · subst h; exact done_exit p hp s value a b c w hdec
    · exact done_call p hp s imm value a b c w hdec h
  · exact done_plain p hp s op imm value a b c w hdec hbad hw h16
end Go.Proofs.Ytejnpppejalhfaa
