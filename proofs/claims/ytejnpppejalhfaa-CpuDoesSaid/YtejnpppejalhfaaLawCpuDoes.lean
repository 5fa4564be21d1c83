/- The law CpuDoes, as a walk. -/
import Derived.Test.YtejnpppejalhfaaLawCpuBack
import Derived.Test.YtejnpppejalhfaaCpu12
import Derived.Laws.Cover2
import Derived.KernelRfl
namespace Go.Proofs.Ytejnpppejalhfaa
open Go.RowKit Go.Sort

theorem doneP_len (p : Pr) (hp : p.r.length = 8) (op : Int) (a b c : Nat) (imm value : Int) : (doneP p op a b c imm value).r.length = 8 := by
  unfold doneP
  split
  · simpa using hp
  split
  · exact hp
  split
  · simpa using hp
  · exact hp
theorem cells_ints (p : Pr) (hp : p.r.length = 8) : ∃ z0 z1 z2 z3 z4 z5 z6 z7 z8 z9 z10 z11 z12 : Int, p.cells = [.int .i64 z0, .int .i64 z1, .int .i64 z2, .int .i64 z3, .int .i64 z4, .int .i64 z5, .int .i64 z6, .int .i64 z7, .int .i64 z8, .int .i64 z9, .int .i64 z10, .int .i64 z11, .int .i64 z12] := by
  obtain ⟨r, pc, st, code, fk, fa⟩ := p
  match r, hp with
  | [a0, a1, a2, a3, a4, a5, a6, a7], _ => exact ⟨a0, a1, a2, a3, a4, a5, a6, a7, pc, st, code, fk, fa, rfl⟩
theorem ask_ints (p : Pr) (op : Int) (a b c : Nat) (imm : Int) : ∃ y0 y1 y2 y3 y4 : Int, askL p op a b c imm = [.int .i64 y0, .int .i64 y1, .int .i64 y2, .int .i64 y3, .int .i64 y4] := by
  unfold askL
  split
  · exact ⟨_, _, _, _, _, rfl⟩
  split
  · exact ⟨_, _, _, _, _, rfl⟩
  split
  · exact ⟨_, _, _, _, _, rfl⟩
  · exact ⟨_, _, _, _, _, rfl⟩
set_option maxRecDepth 100000 in
theorem eq_regs (z0 z1 z2 z3 z4 z5 z6 z7 : Int) (w : World) : (Op.equalIn 9999 46 (.agg #[.int .i64 z0, .int .i64 z1, .int .i64 z2, .int .i64 z3, .int .i64 z4, .int .i64 z5, .int .i64 z6, .int .i64 z7]) (.agg #[.int .i64 z0, .int .i64 z1, .int .i64 z2, .int .i64 z3, .int .i64 z4, .int .i64 z5, .int .i64 z6, .int .i64 z7])).run Try.prog w = .ok true w := by
  have u3 := Try.underlying3
  have a3 := Try.isAgg3
  have z3 := Try.sizeOf3
  rw [show (9999 : Nat) = 9998 + 1 from rfl, Op.equalIn]
  simp only [Sem.run_bind, run_underlying Try.underlying46, Result.andThen_ok]
  simp only [Std.Legacy.Range.forIn_eq_forIn_range', Std.Legacy.Range.size, Nat.sub_zero, Nat.add_sub_cancel, Nat.div_one, List.range'_succ, List.range'_zero, List.forIn_cons, List.forIn_nil]
  go_simp


set_option maxRecDepth 100000 in
set_option maxHeartbeats 4000000 in
theorem cpuDoes_n (r0 r1 r2 r3 r4 r5 r6 r7 r8 r9 r10 r11 r12 value : Int) (s : List UInt8) (w : World) (hs : s.length ≠ 8) :
    Calls Try.prog 7 #[.agg #[.int .i64 r0, .int .i64 r1, .int .i64 r2, .int .i64 r3, .int .i64 r4, .int .i64 r5, .int .i64 r6, .int .i64 r7, .int .i64 r8, .int .i64 r9, .int .i64 r10, .int .i64 r11, .int .i64 r12], .string ⟨s.toArray⟩, .int .i64 value] w (RB (.bool true) w) := by
  have HA : Hid (∀ w, Calls Try.prog 29 #[.agg #[.int .i64 r0, .int .i64 r1, .int .i64 r2, .int .i64 r3, .int .i64 r4, .int .i64 r5, .int .i64 r6, .int .i64 r7, .int .i64 r8, .int .i64 r9, .int .i64 r10, .int .i64 r11, .int .i64 r12], .string ⟨s.toArray⟩] w (RB (.tuple #[.agg #[.int .i64 0, .int .i64 0, .int .i64 0, .int .i64 0, .int .i64 0], .int .i64 3]) w)) :=
    fun w => ask_no ⟨[r0, r1, r2, r3, r4, r5, r6, r7], r8, r9, r10, r11, r12⟩ ⟨s.toArray⟩ w (fun w => decode_no s w (by omega))
  have HD : Hid (∀ w, Calls Try.prog 30 #[.agg #[.int .i64 r0, .int .i64 r1, .int .i64 r2, .int .i64 r3, .int .i64 r4, .int .i64 r5, .int .i64 r6, .int .i64 r7, .int .i64 r8, .int .i64 r9, .int .i64 r10, .int .i64 r11, .int .i64 r12], .string ⟨s.toArray⟩, .int .i64 value] w (RB (.tuple #[.agg #[.int .i64 0, .int .i64 0, .int .i64 0, .int .i64 0, .int .i64 0, .int .i64 0, .int .i64 0, .int .i64 0, .int .i64 0, .int .i64 0, .int .i64 0, .int .i64 0, .int .i64 0], .int .i64 3]) w)) :=
    fun w => done_no ⟨[r0, r1, r2, r3, r4, r5, r6, r7], r8, r9, r10, r11, r12⟩ ⟨s.toArray⟩ value w (fun w => decode_no s w (by omega))
  have HF : Hid True := hid trivial
  have HB : Hid True := hid trivial
  have hn : ((s.length : Int) != 8) = true := by rw [bne_iff_ne]; omega
  clear hs
  have hsz : (Try.prog.info? 38).map (·.size) = some 5 := by kernel_rfl
  have Hsz5 := hid hsz; clear hsz
  have hsz : (Try.prog.info? 52).map (·.size) = some 5 := by kernel_rfl
  have Hsza := hid hsz; clear hsz
  have hsz : (Try.prog.info? 50).map (·.size) = some 13 := by kernel_rfl
  have Hszp := hid hsz; clear hsz
  have hbw := Below.refl w.heap.size w
  have heq := eq_regs
  go_enter Try.func7, Try.ntmps7
  go_wp2_with (first | ((with_reducible refine at_op 3 ?_); refine wpList_box_row' rfl 50 (.tmp 0) rfl (some 3) rfl ([.int .i64 r0, .int .i64 r1, .int .i64 r2, .int .i64 r3, .int .i64 r4, .int .i64 r5, .int .i64 r6, .int .i64 r7, .int .i64 r8, .int .i64 r9, .int .i64 r10, .int .i64 r11, .int .i64 r12]) rfl w.heap.size w hbw hbw.size ?_; intro g3 wn3 hL3 hB3 hbn hkn hnn; skip; clear hbw hkn hnn; have hbw := hbn; clear hbn) | ((with_reducible refine at_op 13 ?_); refine wpList_get_row rfl 50 (.tmp 3) rfl g3 ([.int .i64 r0, .int .i64 r1, .int .i64 r2, .int .i64 r3, .int .i64 r4, .int .i64 r5, .int .i64 r6, .int .i64 r7, .int .i64 r8, .int .i64 r9, .int .i64 r10, .int .i64 r11, .int .i64 r12]) rfl hL3 _ Try.underlying50 rfl Hszp.out ?_) | ((go_at_call 29; (with_reducible refine (HA.out _).mono ?_); rintro e wc ⟨rfl, hbc⟩); (try have hL3 := hL3.grown hbc hL3.lt); have hbn := bt hbw hbc; clear hbw hbc; have hbw := hbn; clear hbn) | ((with_reducible refine at_op 7 ?_); refine wpList_new_row' rfl (some 7) rfl (zl5) 52 (by kernel_rfl) w.heap.size w hbw hbw.size ?_; intro g7 wn7 hL7 hB7 hbn hkn hnn; (try have n3_7 := hnn _ hL3.lt); (try have n7_3 := Ne.symm (hnn _ hL3.lt)); (try have hL3 := hL3.kept hkn); clear hbw hkn hnn; have hbw := hbn; clear hbn) | ((with_reducible refine at_store 7 ?_); refine wpList_put_row rfl 52 (.tmp 7) (.tmp 16) rfl rfl g7 (zl5) (zl5) rfl rfl hL7 Hsza.out rfl rfl w.heap.size w hbw hB7 ?_; intro wp7 hLn hbn hon; (try have hL3 := hL3.other hon n3_7); clear hL7 hbw hon; have hL7 := hLn; have hbw := hbn; clear hLn hbn) | ((with_reducible refine at_op 19 ?_); refine wpList_get_row rfl 50 (.tmp 3) rfl g3 ([.int .i64 r0, .int .i64 r1, .int .i64 r2, .int .i64 r3, .int .i64 r4, .int .i64 r5, .int .i64 r6, .int .i64 r7, .int .i64 r8, .int .i64 r9, .int .i64 r10, .int .i64 r11, .int .i64 r12]) rfl hL3 _ Try.underlying50 rfl Hszp.out ?_) | ((go_at_call 30; (with_reducible refine (HD.out _).mono ?_); rintro e wc ⟨rfl, hbc⟩); (try have hL3 := hL3.grown hbc hL3.lt); (try have hL7 := hL7.grown hbc hL7.lt); have hbn := bt hbw hbc; clear hbw hbc; have hbw := hbn; clear hbn) | ((with_reducible refine at_op 9 ?_); refine wpList_new_row' rfl (some 9) rfl (zl13) 50 (by kernel_rfl) w.heap.size w hbw hbw.size ?_; intro g9 wn9 hL9 hB9 hbn hkn hnn; (try have n3_9 := hnn _ hL3.lt); (try have n9_3 := Ne.symm (hnn _ hL3.lt)); (try have hL3 := hL3.kept hkn); (try have n7_9 := hnn _ hL7.lt); (try have n9_7 := Ne.symm (hnn _ hL7.lt)); (try have hL7 := hL7.kept hkn); clear hbw hkn hnn; have hbw := hbn; clear hbn) | ((with_reducible refine at_store 9 ?_); refine wpList_put_row rfl 50 (.tmp 9) (.tmp 23) rfl rfl g9 (zl13) (zl13) rfl rfl hL9 Hszp.out rfl rfl w.heap.size w hbw hB9 ?_; intro wp9 hLn hbn hon; (try have hL3 := hL3.other hon n3_9); (try have hL7 := hL7.other hon n7_9); clear hL9 hbw hon; have hL9 := hLn; have hbw := hbn; clear hLn hbn) | ((go_at_call 27; (with_reducible refine (HF.out _).mono ?_); rintro e wc ⟨rfl, hbc⟩); (try have hL3 := hL3.grown hbc hL3.lt); (try have hL7 := hL7.grown hbc hL7.lt); (try have hL9 := hL9.grown hbc hL9.lt); have hbn := bt hbw hbc; clear hbw hbc; have hbw := hbn; clear hbn) | ((with_reducible refine at_op 11 ?_); refine wpList_new_row' rfl (some 11) rfl (zl5) 38 (by kernel_rfl) w.heap.size w hbw hbw.size ?_; intro g11 wn11 hL11 hB11 hbn hkn hnn; (try have n3_11 := hnn _ hL3.lt); (try have n11_3 := Ne.symm (hnn _ hL3.lt)); (try have hL3 := hL3.kept hkn); (try have n7_11 := hnn _ hL7.lt); (try have n11_7 := Ne.symm (hnn _ hL7.lt)); (try have hL7 := hL7.kept hkn); (try have n9_11 := hnn _ hL9.lt); (try have n11_9 := Ne.symm (hnn _ hL9.lt)); (try have hL9 := hL9.kept hkn); clear hbw hkn hnn; have hbw := hbn; clear hbn) | ((with_reducible refine at_store 11 ?_); refine wpList_put_row rfl 38 (.tmp 11) (.tmp 48) rfl rfl g11 ([.int .i64 q0, .int .i64 q1, .int .i64 q2, .int .i64 q3, .int .i64 q4]) (zl5) rfl rfl hL11 Hsz5.out rfl rfl w.heap.size w hbw hB11 ?_; intro wp11 hLn hbn hon; (try have hL3 := hL3.other hon n3_11); (try have hL7 := hL7.other hon n7_11); (try have hL9 := hL9.other hon n9_11); clear hL11 hbw hon; have hL11 := hLn; have hbw := hbn; clear hLn hbn) | ((with_reducible refine at_op 49 ?_); refine wpList_get_row rfl 38 (.tmp 11) rfl g11 ([.int .i64 q0, .int .i64 q1, .int .i64 q2, .int .i64 q3, .int .i64 q4]) rfl hL11 _ Try.underlying38 rfl Hsz5.out ?_) | ((go_at_call 31; (with_reducible refine (HB.out _).mono ?_); rintro e wc ⟨rfl, hbc⟩); (try have hL3 := hL3.grown hbc hL3.lt); (try have hL7 := hL7.grown hbc hL7.lt); (try have hL9 := hL9.grown hbc hL9.lt); (try have hL11 := hL11.grown hbc hL11.lt); have hbn := bt hbw hbc; clear hbw hbc; have hbw := hbn; clear hbn) | (((go_at_call 28; (with_reducible refine (cpuBegun_any _).mono ?_); rintro e wc ⟨rfl, hbc⟩); (try have hL3 := hL3.grown hbc hL3.lt); (try have hL7 := hL7.grown hbc hL7.lt); (try have hL9 := hL9.grown hbc hL9.lt); (try have hL11 := hL11.grown hbc hL11.lt); have hbn := bt hbw hbc; clear hbw hbc; have hbw := hbn; clear hbn); have c7_0 : wc.cell? ⟨g7, 0, none⟩ = some (.int .i64 (0)) := hL7.cell 0; have c7_1 : wc.cell? ⟨g7, 1, none⟩ = some (.int .i64 (0)) := hL7.cell 1; have c7_2 : wc.cell? ⟨g7, 2, none⟩ = some (.int .i64 (0)) := hL7.cell 2; have c7_3 : wc.cell? ⟨g7, 3, none⟩ = some (.int .i64 (0)) := hL7.cell 3; have c7_4 : wc.cell? ⟨g7, 4, none⟩ = some (.int .i64 (0)) := hL7.cell 4; have c9_0 : wc.cell? ⟨g9, 0, none⟩ = some (.int .i64 0) := hL9.cell 0; have c9_1 : wc.cell? ⟨g9, 1, none⟩ = some (.int .i64 0) := hL9.cell 1; have c9_2 : wc.cell? ⟨g9, 2, none⟩ = some (.int .i64 0) := hL9.cell 2; have c9_3 : wc.cell? ⟨g9, 3, none⟩ = some (.int .i64 0) := hL9.cell 3; have c9_4 : wc.cell? ⟨g9, 4, none⟩ = some (.int .i64 0) := hL9.cell 4; have c9_5 : wc.cell? ⟨g9, 5, none⟩ = some (.int .i64 0) := hL9.cell 5; have c9_6 : wc.cell? ⟨g9, 6, none⟩ = some (.int .i64 0) := hL9.cell 6; have c9_7 : wc.cell? ⟨g9, 7, none⟩ = some (.int .i64 0) := hL9.cell 7; have c9_8 : wc.cell? ⟨g9, 8, none⟩ = some (.int .i64 0) := hL9.cell 8; have c9_9 : wc.cell? ⟨g9, 9, none⟩ = some (.int .i64 0) := hL9.cell 9; have c9_10 : wc.cell? ⟨g9, 10, none⟩ = some (.int .i64 0) := hL9.cell 10; have c9_11 : wc.cell? ⟨g9, 11, none⟩ = some (.int .i64 0) := hL9.cell 11; have c9_12 : wc.cell? ⟨g9, 12, none⟩ = some (.int .i64 0) := hL9.cell 12))
  all_goals
    go_ret
    exact ⟨rfl, hbw⟩

set_option maxRecDepth 100000 in
set_option maxHeartbeats 4000000 in
theorem cpuDoes_bad (r0 r1 r2 r3 r4 r5 r6 r7 r8 r9 r10 r11 r12 value : Int) (b0 b1 b2 b3 b4 b5 b6 b7 : UInt8) (w : World) (h : badI b0.toNat b1.toNat b2.toNat b3.toNat (wrap32 (numB [b4, b5, b6, b7]))) :
    Calls Try.prog 7 #[.agg #[.int .i64 r0, .int .i64 r1, .int .i64 r2, .int .i64 r3, .int .i64 r4, .int .i64 r5, .int .i64 r6, .int .i64 r7, .int .i64 r8, .int .i64 r9, .int .i64 r10, .int .i64 r11, .int .i64 r12], .string ⟨[b0, b1, b2, b3, b4, b5, b6, b7].toArray⟩, .int .i64 value] w (RB (.bool true) w) := by
  obtain ⟨op, ho⟩ : ∃ op : Int, op = b0.toNat := ⟨_, rfl⟩
  obtain ⟨a, ha⟩ : ∃ a : Nat, a = b1.toNat := ⟨_, rfl⟩
  obtain ⟨b, hb⟩ : ∃ b : Nat, b = b2.toNat := ⟨_, rfl⟩
  obtain ⟨c, hc⟩ : ∃ c : Nat, c = b3.toNat := ⟨_, rfl⟩
  obtain ⟨imm, hi⟩ : ∃ imm : Int, imm = wrap32 (numB [b4, b5, b6, b7]) := ⟨_, rfl⟩
  have hdec : ∀ w, Calls Try.prog 24 #[.string ⟨[b0, b1, b2, b3, b4, b5, b6, b7].toArray⟩] w (RB (.tuple #[insV op a b c imm, .int .i64 0]) w) := fun w => by
    rw [ho, ha, hb, hc, hi]; exact decode_yes b0 b1 b2 b3 b4 b5 b6 b7 w
  have HF : Hid (∀ w, Calls Try.prog 27 #[.string ⟨[b0, b1, b2, b3, b4, b5, b6, b7].toArray⟩] w (RB (.agg #[.int .i64 op, .int .i64 a, .int .i64 b, .int .i64 c, .int .i64 imm]) w)) := fun w => by
    rw [ho, ha, hb, hc, hi]; exact instrFrom b0 b1 b2 b3 b4 b5 b6 b7 w
  rw [← ho, ← ha, ← hb, ← hc, ← hi] at h
  clear ho ha hb hc hi
  obtain ⟨q0, hq0⟩ : ∃ q0 : Int, q0 = op := ⟨_, rfl⟩
  obtain ⟨q1, hq1⟩ : ∃ q1 : Int, q1 = a := ⟨_, rfl⟩
  obtain ⟨q2, hq2⟩ : ∃ q2 : Int, q2 = b := ⟨_, rfl⟩
  obtain ⟨q3, hq3⟩ : ∃ q3 : Int, q3 = c := ⟨_, rfl⟩
  obtain ⟨q4, hq4⟩ : ∃ q4 : Int, q4 = imm := ⟨_, rfl⟩
  have HA : Hid (∀ w, Calls Try.prog 29 #[.agg #[.int .i64 r0, .int .i64 r1, .int .i64 r2, .int .i64 r3, .int .i64 r4, .int .i64 r5, .int .i64 r6, .int .i64 r7, .int .i64 r8, .int .i64 r9, .int .i64 r10, .int .i64 r11, .int .i64 r12], .string ⟨[b0, b1, b2, b3, b4, b5, b6, b7].toArray⟩] w (RB (.tuple #[.agg #[.int .i64 4, .int .i64 0, .int .i64 0, .int .i64 0, .int .i64 0], .int .i64 0]) w)) :=
    fun w => ask_bad ⟨[r0, r1, r2, r3, r4, r5, r6, r7], r8, r9, r10, r11, r12⟩ _ op a b c imm w hdec h
  have HD : Hid (∀ w, Calls Try.prog 30 #[.agg #[.int .i64 r0, .int .i64 r1, .int .i64 r2, .int .i64 r3, .int .i64 r4, .int .i64 r5, .int .i64 r6, .int .i64 r7, .int .i64 r8, .int .i64 r9, .int .i64 r10, .int .i64 r11, .int .i64 r12], .string ⟨[b0, b1, b2, b3, b4, b5, b6, b7].toArray⟩, .int .i64 value] w (RB (.tuple #[.agg #[.int .i64 0, .int .i64 0, .int .i64 0, .int .i64 0, .int .i64 0, .int .i64 0, .int .i64 0, .int .i64 0, .int .i64 0, .int .i64 0, .int .i64 0, .int .i64 0, .int .i64 0], .int .i64 10]) w)) :=
    fun w => done_bad ⟨[r0, r1, r2, r3, r4, r5, r6, r7], r8, r9, r10, r11, r12⟩ _ op a b c imm value w hdec h
  have HB : Hid (∀ w, Calls Try.prog 31 #[.agg #[.int .i64 op, .int .i64 a, .int .i64 b, .int .i64 c, .int .i64 imm]] w (RB (.bool true) w)) :=
    fun w => isBad_any op a b c imm w true ⟨fun _ => h, fun _ => rfl⟩
  rw [← hq0, ← hq1, ← hq2, ← hq3, ← hq4] at HF HB
  clear hq0 hq1 hq2 hq3 hq4 h hdec
  have hsz : (Try.prog.info? 38).map (·.size) = some 5 := by kernel_rfl
  have Hsz5 := hid hsz; clear hsz
  have hsz : (Try.prog.info? 52).map (·.size) = some 5 := by kernel_rfl
  have Hsza := hid hsz; clear hsz
  have hsz : (Try.prog.info? 50).map (·.size) = some 13 := by kernel_rfl
  have Hszp := hid hsz; clear hsz
  have hbw := Below.refl w.heap.size w
  have heq := eq_regs
  go_enter Try.func7, Try.ntmps7
  go_wp2_with (first | ((with_reducible refine at_op 3 ?_); refine wpList_box_row' rfl 50 (.tmp 0) rfl (some 3) rfl ([.int .i64 r0, .int .i64 r1, .int .i64 r2, .int .i64 r3, .int .i64 r4, .int .i64 r5, .int .i64 r6, .int .i64 r7, .int .i64 r8, .int .i64 r9, .int .i64 r10, .int .i64 r11, .int .i64 r12]) rfl w.heap.size w hbw hbw.size ?_; intro g3 wn3 hL3 hB3 hbn hkn hnn; skip; clear hbw hkn hnn; have hbw := hbn; clear hbn) | ((with_reducible refine at_op 13 ?_); refine wpList_get_row rfl 50 (.tmp 3) rfl g3 ([.int .i64 r0, .int .i64 r1, .int .i64 r2, .int .i64 r3, .int .i64 r4, .int .i64 r5, .int .i64 r6, .int .i64 r7, .int .i64 r8, .int .i64 r9, .int .i64 r10, .int .i64 r11, .int .i64 r12]) rfl hL3 _ Try.underlying50 rfl Hszp.out ?_) | ((go_at_call 29; (with_reducible refine (HA.out _).mono ?_); rintro e wc ⟨rfl, hbc⟩); (try have hL3 := hL3.grown hbc hL3.lt); have hbn := bt hbw hbc; clear hbw hbc; have hbw := hbn; clear hbn) | ((with_reducible refine at_op 7 ?_); refine wpList_new_row' rfl (some 7) rfl (zl5) 52 (by kernel_rfl) w.heap.size w hbw hbw.size ?_; intro g7 wn7 hL7 hB7 hbn hkn hnn; (try have n3_7 := hnn _ hL3.lt); (try have n7_3 := Ne.symm (hnn _ hL3.lt)); (try have hL3 := hL3.kept hkn); clear hbw hkn hnn; have hbw := hbn; clear hbn) | ((with_reducible refine at_store 7 ?_); refine wpList_put_row rfl 52 (.tmp 7) (.tmp 16) rfl rfl g7 ([.int .i64 4, .int .i64 0, .int .i64 0, .int .i64 0, .int .i64 0]) (zl5) rfl rfl hL7 Hsza.out rfl rfl w.heap.size w hbw hB7 ?_; intro wp7 hLn hbn hon; (try have hL3 := hL3.other hon n3_7); clear hL7 hbw hon; have hL7 := hLn; have hbw := hbn; clear hLn hbn) | ((with_reducible refine at_op 19 ?_); refine wpList_get_row rfl 50 (.tmp 3) rfl g3 ([.int .i64 r0, .int .i64 r1, .int .i64 r2, .int .i64 r3, .int .i64 r4, .int .i64 r5, .int .i64 r6, .int .i64 r7, .int .i64 r8, .int .i64 r9, .int .i64 r10, .int .i64 r11, .int .i64 r12]) rfl hL3 _ Try.underlying50 rfl Hszp.out ?_) | ((go_at_call 30; (with_reducible refine (HD.out _).mono ?_); rintro e wc ⟨rfl, hbc⟩); (try have hL3 := hL3.grown hbc hL3.lt); (try have hL7 := hL7.grown hbc hL7.lt); have hbn := bt hbw hbc; clear hbw hbc; have hbw := hbn; clear hbn) | ((with_reducible refine at_op 9 ?_); refine wpList_new_row' rfl (some 9) rfl (zl13) 50 (by kernel_rfl) w.heap.size w hbw hbw.size ?_; intro g9 wn9 hL9 hB9 hbn hkn hnn; (try have n3_9 := hnn _ hL3.lt); (try have n9_3 := Ne.symm (hnn _ hL3.lt)); (try have hL3 := hL3.kept hkn); (try have n7_9 := hnn _ hL7.lt); (try have n9_7 := Ne.symm (hnn _ hL7.lt)); (try have hL7 := hL7.kept hkn); clear hbw hkn hnn; have hbw := hbn; clear hbn) | ((with_reducible refine at_store 9 ?_); refine wpList_put_row rfl 50 (.tmp 9) (.tmp 23) rfl rfl g9 (zl13) (zl13) rfl rfl hL9 Hszp.out rfl rfl w.heap.size w hbw hB9 ?_; intro wp9 hLn hbn hon; (try have hL3 := hL3.other hon n3_9); (try have hL7 := hL7.other hon n7_9); clear hL9 hbw hon; have hL9 := hLn; have hbw := hbn; clear hLn hbn) | ((go_at_call 27; (with_reducible refine (HF.out _).mono ?_); rintro e wc ⟨rfl, hbc⟩); (try have hL3 := hL3.grown hbc hL3.lt); (try have hL7 := hL7.grown hbc hL7.lt); (try have hL9 := hL9.grown hbc hL9.lt); have hbn := bt hbw hbc; clear hbw hbc; have hbw := hbn; clear hbn) | ((with_reducible refine at_op 11 ?_); refine wpList_new_row' rfl (some 11) rfl (zl5) 38 (by kernel_rfl) w.heap.size w hbw hbw.size ?_; intro g11 wn11 hL11 hB11 hbn hkn hnn; (try have n3_11 := hnn _ hL3.lt); (try have n11_3 := Ne.symm (hnn _ hL3.lt)); (try have hL3 := hL3.kept hkn); (try have n7_11 := hnn _ hL7.lt); (try have n11_7 := Ne.symm (hnn _ hL7.lt)); (try have hL7 := hL7.kept hkn); (try have n9_11 := hnn _ hL9.lt); (try have n11_9 := Ne.symm (hnn _ hL9.lt)); (try have hL9 := hL9.kept hkn); clear hbw hkn hnn; have hbw := hbn; clear hbn) | ((with_reducible refine at_store 11 ?_); refine wpList_put_row rfl 38 (.tmp 11) (.tmp 48) rfl rfl g11 ([.int .i64 q0, .int .i64 q1, .int .i64 q2, .int .i64 q3, .int .i64 q4]) (zl5) rfl rfl hL11 Hsz5.out rfl rfl w.heap.size w hbw hB11 ?_; intro wp11 hLn hbn hon; (try have hL3 := hL3.other hon n3_11); (try have hL7 := hL7.other hon n7_11); (try have hL9 := hL9.other hon n9_11); clear hL11 hbw hon; have hL11 := hLn; have hbw := hbn; clear hLn hbn) | ((with_reducible refine at_op 49 ?_); refine wpList_get_row rfl 38 (.tmp 11) rfl g11 ([.int .i64 q0, .int .i64 q1, .int .i64 q2, .int .i64 q3, .int .i64 q4]) rfl hL11 _ Try.underlying38 rfl Hsz5.out ?_) | ((go_at_call 31; (with_reducible refine (HB.out _).mono ?_); rintro e wc ⟨rfl, hbc⟩); (try have hL3 := hL3.grown hbc hL3.lt); (try have hL7 := hL7.grown hbc hL7.lt); (try have hL9 := hL9.grown hbc hL9.lt); (try have hL11 := hL11.grown hbc hL11.lt); have hbn := bt hbw hbc; clear hbw hbc; have hbw := hbn; clear hbn) | (((go_at_call 28; (with_reducible refine (cpuBegun_any _).mono ?_); rintro e wc ⟨rfl, hbc⟩); (try have hL3 := hL3.grown hbc hL3.lt); (try have hL7 := hL7.grown hbc hL7.lt); (try have hL9 := hL9.grown hbc hL9.lt); (try have hL11 := hL11.grown hbc hL11.lt); have hbn := bt hbw hbc; clear hbw hbc; have hbw := hbn; clear hbn); have c7_0 : wc.cell? ⟨g7, 0, none⟩ = some (.int .i64 (4)) := hL7.cell 0; have c7_1 : wc.cell? ⟨g7, 1, none⟩ = some (.int .i64 (0)) := hL7.cell 1; have c7_2 : wc.cell? ⟨g7, 2, none⟩ = some (.int .i64 (0)) := hL7.cell 2; have c7_3 : wc.cell? ⟨g7, 3, none⟩ = some (.int .i64 (0)) := hL7.cell 3; have c7_4 : wc.cell? ⟨g7, 4, none⟩ = some (.int .i64 (0)) := hL7.cell 4; have c9_0 : wc.cell? ⟨g9, 0, none⟩ = some (.int .i64 0) := hL9.cell 0; have c9_1 : wc.cell? ⟨g9, 1, none⟩ = some (.int .i64 0) := hL9.cell 1; have c9_2 : wc.cell? ⟨g9, 2, none⟩ = some (.int .i64 0) := hL9.cell 2; have c9_3 : wc.cell? ⟨g9, 3, none⟩ = some (.int .i64 0) := hL9.cell 3; have c9_4 : wc.cell? ⟨g9, 4, none⟩ = some (.int .i64 0) := hL9.cell 4; have c9_5 : wc.cell? ⟨g9, 5, none⟩ = some (.int .i64 0) := hL9.cell 5; have c9_6 : wc.cell? ⟨g9, 6, none⟩ = some (.int .i64 0) := hL9.cell 6; have c9_7 : wc.cell? ⟨g9, 7, none⟩ = some (.int .i64 0) := hL9.cell 7; have c9_8 : wc.cell? ⟨g9, 8, none⟩ = some (.int .i64 0) := hL9.cell 8; have c9_9 : wc.cell? ⟨g9, 9, none⟩ = some (.int .i64 0) := hL9.cell 9; have c9_10 : wc.cell? ⟨g9, 10, none⟩ = some (.int .i64 0) := hL9.cell 10; have c9_11 : wc.cell? ⟨g9, 11, none⟩ = some (.int .i64 0) := hL9.cell 11; have c9_12 : wc.cell? ⟨g9, 12, none⟩ = some (.int .i64 0) := hL9.cell 12))
  all_goals
    go_ret
    exact ⟨rfl, hbw⟩
set_option maxRecDepth 100000 in
set_option maxHeartbeats 8000000 in
theorem cpuDoes_good (r0 r1 r2 r3 r4 r5 r6 r7 r8 r9 r10 r11 r12 value : Int) (b0 b1 b2 b3 b4 b5 b6 b7 : UInt8) (w : World) (h : ¬ badI b0.toNat b1.toNat b2.toNat b3.toNat (wrap32 (numB [b4, b5, b6, b7]))) :
    Calls Try.prog 7 #[.agg #[.int .i64 r0, .int .i64 r1, .int .i64 r2, .int .i64 r3, .int .i64 r4, .int .i64 r5, .int .i64 r6, .int .i64 r7, .int .i64 r8, .int .i64 r9, .int .i64 r10, .int .i64 r11, .int .i64 r12], .string ⟨[b0, b1, b2, b3, b4, b5, b6, b7].toArray⟩, .int .i64 value] w (RB (.bool true) w) := by
  obtain ⟨op, ho⟩ : ∃ op : Int, op = b0.toNat := ⟨_, rfl⟩
  obtain ⟨a, ha⟩ : ∃ a : Nat, a = b1.toNat := ⟨_, rfl⟩
  obtain ⟨b, hb⟩ : ∃ b : Nat, b = b2.toNat := ⟨_, rfl⟩
  obtain ⟨c, hc⟩ : ∃ c : Nat, c = b3.toNat := ⟨_, rfl⟩
  obtain ⟨imm, hi⟩ : ∃ imm : Int, imm = wrap32 (numB [b4, b5, b6, b7]) := ⟨_, rfl⟩
  have hdec : ∀ w, Calls Try.prog 24 #[.string ⟨[b0, b1, b2, b3, b4, b5, b6, b7].toArray⟩] w (RB (.tuple #[insV op a b c imm, .int .i64 0]) w) := fun w => by
    rw [ho, ha, hb, hc, hi]; exact decode_yes b0 b1 b2 b3 b4 b5 b6 b7 w
  have HF : Hid (∀ w, Calls Try.prog 27 #[.string ⟨[b0, b1, b2, b3, b4, b5, b6, b7].toArray⟩] w (RB (.agg #[.int .i64 op, .int .i64 a, .int .i64 b, .int .i64 c, .int .i64 imm]) w)) := fun w => by
    rw [ho, ha, hb, hc, hi]; exact instrFrom b0 b1 b2 b3 b4 b5 b6 b7 w
  rw [← ho, ← ha, ← hb, ← hc, ← hi] at h
  clear ho ha hb hc hi
  obtain ⟨q0, hq0⟩ : ∃ q0 : Int, q0 = op := ⟨_, rfl⟩
  obtain ⟨q1, hq1⟩ : ∃ q1 : Int, q1 = a := ⟨_, rfl⟩
  obtain ⟨q2, hq2⟩ : ∃ q2 : Int, q2 = b := ⟨_, rfl⟩
  obtain ⟨q3, hq3⟩ : ∃ q3 : Int, q3 = c := ⟨_, rfl⟩
  obtain ⟨q4, hq4⟩ : ∃ q4 : Int, q4 = imm := ⟨_, rfl⟩
  obtain ⟨y0, y1, y2, y3, y4, hy⟩ := ask_ints ⟨[r0, r1, r2, r3, r4, r5, r6, r7], r8, r9, r10, r11, r12⟩ op a b c imm
  obtain ⟨z0, z1, z2, z3, z4, z5, z6, z7, z8, z9, z10, z11, z12, hz⟩ := cells_ints (doneP ⟨[r0, r1, r2, r3, r4, r5, r6, r7], r8, r9, r10, r11, r12⟩ op a b c imm value) (doneP_len _ rfl _ _ _ _ _ _)
  have HA : Hid (∀ w, Calls Try.prog 29 #[.agg #[.int .i64 r0, .int .i64 r1, .int .i64 r2, .int .i64 r3, .int .i64 r4, .int .i64 r5, .int .i64 r6, .int .i64 r7, .int .i64 r8, .int .i64 r9, .int .i64 r10, .int .i64 r11, .int .i64 r12], .string ⟨[b0, b1, b2, b3, b4, b5, b6, b7].toArray⟩] w (RB (.tuple #[.agg [.int .i64 y0, .int .i64 y1, .int .i64 y2, .int .i64 y3, .int .i64 y4].toArray, .int .i64 0]) w)) :=
    fun w => by rw [← hy]; exact ask_yes ⟨[r0, r1, r2, r3, r4, r5, r6, r7], r8, r9, r10, r11, r12⟩ rfl _ op imm a b c w hdec h
  have HD : Hid (∀ w, Calls Try.prog 30 #[.agg #[.int .i64 r0, .int .i64 r1, .int .i64 r2, .int .i64 r3, .int .i64 r4, .int .i64 r5, .int .i64 r6, .int .i64 r7, .int .i64 r8, .int .i64 r9, .int .i64 r10, .int .i64 r11, .int .i64 r12], .string ⟨[b0, b1, b2, b3, b4, b5, b6, b7].toArray⟩, .int .i64 value] w (RB (.tuple #[.agg [.int .i64 z0, .int .i64 z1, .int .i64 z2, .int .i64 z3, .int .i64 z4, .int .i64 z5, .int .i64 z6, .int .i64 z7, .int .i64 z8, .int .i64 z9, .int .i64 z10, .int .i64 z11, .int .i64 z12].toArray, .int .i64 0]) w)) :=
    fun w => by rw [← hz]; exact done_yes ⟨[r0, r1, r2, r3, r4, r5, r6, r7], r8, r9, r10, r11, r12⟩ rfl _ op imm value a b c w hdec h
  have HB : Hid (∀ w, Calls Try.prog 31 #[.agg #[.int .i64 op, .int .i64 a, .int .i64 b, .int .i64 c, .int .i64 imm]] w (RB (.bool false) w)) :=
    fun w => isBad_any op a b c imm w false ⟨fun h => by simp at h, fun hb => absurd hb h⟩
  have HX : Hid (∀ w, Calls Try.prog 32 #[.agg #[.int .i64 r0, .int .i64 r1, .int .i64 r2, .int .i64 r3, .int .i64 r4, .int .i64 r5, .int .i64 r6, .int .i64 r7, .int .i64 r8, .int .i64 r9, .int .i64 r10, .int .i64 r11, .int .i64 r12], .agg #[.int .i64 op, .int .i64 a, .int .i64 b, .int .i64 c, .int .i64 imm]] w (RB (.agg [.int .i64 y0, .int .i64 y1, .int .i64 y2, .int .i64 y3, .int .i64 y4].toArray) w)) :=
    fun w => by rw [← hy]; exact askOf_any ⟨[r0, r1, r2, r3, r4, r5, r6, r7], r8, r9, r10, r11, r12⟩ rfl op imm a b c w h
  have HY : Hid (∀ w, Calls Try.prog 33 #[.agg #[.int .i64 r0, .int .i64 r1, .int .i64 r2, .int .i64 r3, .int .i64 r4, .int .i64 r5, .int .i64 r6, .int .i64 r7, .int .i64 r8, .int .i64 r9, .int .i64 r10, .int .i64 r11, .int .i64 r12], .agg #[.int .i64 op, .int .i64 a, .int .i64 b, .int .i64 c, .int .i64 imm], .int .i64 value] w (RB (.agg [.int .i64 z0, .int .i64 z1, .int .i64 z2, .int .i64 z3, .int .i64 z4, .int .i64 z5, .int .i64 z6, .int .i64 z7, .int .i64 z8, .int .i64 z9, .int .i64 z10, .int .i64 z11, .int .i64 z12].toArray) w)) :=
    fun w => by rw [← hz]; exact doneOf_any ⟨[r0, r1, r2, r3, r4, r5, r6, r7], r8, r9, r10, r11, r12⟩ rfl op imm value a b c w h
  rw [← hq0, ← hq1, ← hq2, ← hq3, ← hq4] at HF HB HX HY
  clear hq0 hq1 hq2 hq3 hq4 h hdec hy hz
  have hsz : (Try.prog.info? 38).map (·.size) = some 5 := by kernel_rfl
  have Hsz5 := hid hsz; clear hsz
  have hsz : (Try.prog.info? 52).map (·.size) = some 5 := by kernel_rfl
  have Hsza := hid hsz; clear hsz
  have hsz : (Try.prog.info? 50).map (·.size) = some 13 := by kernel_rfl
  have Hszp := hid hsz; clear hsz
  have hbw := Below.refl w.heap.size w
  have heq := eq_regs
  go_enter Try.func7, Try.ntmps7
  go_wp2_with (first | ((with_reducible refine at_op 3 ?_); refine wpList_box_row' rfl 50 (.tmp 0) rfl (some 3) rfl ([.int .i64 r0, .int .i64 r1, .int .i64 r2, .int .i64 r3, .int .i64 r4, .int .i64 r5, .int .i64 r6, .int .i64 r7, .int .i64 r8, .int .i64 r9, .int .i64 r10, .int .i64 r11, .int .i64 r12]) rfl w.heap.size w hbw hbw.size ?_; intro g3 wn3 hL3 hB3 hbn hkn hnn; skip; clear hbw hkn hnn; have hbw := hbn; clear hbn) | ((with_reducible refine at_op 13 ?_); refine wpList_get_row rfl 50 (.tmp 3) rfl g3 ([.int .i64 r0, .int .i64 r1, .int .i64 r2, .int .i64 r3, .int .i64 r4, .int .i64 r5, .int .i64 r6, .int .i64 r7, .int .i64 r8, .int .i64 r9, .int .i64 r10, .int .i64 r11, .int .i64 r12]) rfl hL3 _ Try.underlying50 rfl Hszp.out ?_) | ((go_at_call 29; (with_reducible refine (HA.out _).mono ?_); rintro e wc ⟨rfl, hbc⟩); (try have hL3 := hL3.grown hbc hL3.lt); have hbn := bt hbw hbc; clear hbw hbc; have hbw := hbn; clear hbn) | ((with_reducible refine at_op 7 ?_); refine wpList_new_row' rfl (some 7) rfl (zl5) 52 (by kernel_rfl) w.heap.size w hbw hbw.size ?_; intro g7 wn7 hL7 hB7 hbn hkn hnn; (try have n3_7 := hnn _ hL3.lt); (try have n7_3 := Ne.symm (hnn _ hL3.lt)); (try have hL3 := hL3.kept hkn); clear hbw hkn hnn; have hbw := hbn; clear hbn) | ((with_reducible refine at_store 7 ?_); refine wpList_put_row rfl 52 (.tmp 7) (.tmp 16) rfl rfl g7 ([.int .i64 y0, .int .i64 y1, .int .i64 y2, .int .i64 y3, .int .i64 y4]) (zl5) rfl rfl hL7 Hsza.out rfl rfl w.heap.size w hbw hB7 ?_; intro wp7 hLn hbn hon; (try have hL3 := hL3.other hon n3_7); clear hL7 hbw hon; have hL7 := hLn; have hbw := hbn; clear hLn hbn) | ((with_reducible refine at_op 19 ?_); refine wpList_get_row rfl 50 (.tmp 3) rfl g3 ([.int .i64 r0, .int .i64 r1, .int .i64 r2, .int .i64 r3, .int .i64 r4, .int .i64 r5, .int .i64 r6, .int .i64 r7, .int .i64 r8, .int .i64 r9, .int .i64 r10, .int .i64 r11, .int .i64 r12]) rfl hL3 _ Try.underlying50 rfl Hszp.out ?_) | ((go_at_call 30; (with_reducible refine (HD.out _).mono ?_); rintro e wc ⟨rfl, hbc⟩); (try have hL3 := hL3.grown hbc hL3.lt); (try have hL7 := hL7.grown hbc hL7.lt); have hbn := bt hbw hbc; clear hbw hbc; have hbw := hbn; clear hbn) | ((with_reducible refine at_op 9 ?_); refine wpList_new_row' rfl (some 9) rfl (zl13) 50 (by kernel_rfl) w.heap.size w hbw hbw.size ?_; intro g9 wn9 hL9 hB9 hbn hkn hnn; (try have n3_9 := hnn _ hL3.lt); (try have n9_3 := Ne.symm (hnn _ hL3.lt)); (try have hL3 := hL3.kept hkn); (try have n7_9 := hnn _ hL7.lt); (try have n9_7 := Ne.symm (hnn _ hL7.lt)); (try have hL7 := hL7.kept hkn); clear hbw hkn hnn; have hbw := hbn; clear hbn) | ((with_reducible refine at_store 9 ?_); refine wpList_put_row rfl 50 (.tmp 9) (.tmp 23) rfl rfl g9 ([.int .i64 z0, .int .i64 z1, .int .i64 z2, .int .i64 z3, .int .i64 z4, .int .i64 z5, .int .i64 z6, .int .i64 z7, .int .i64 z8, .int .i64 z9, .int .i64 z10, .int .i64 z11, .int .i64 z12]) (zl13) rfl rfl hL9 Hszp.out rfl rfl w.heap.size w hbw hB9 ?_; intro wp9 hLn hbn hon; (try have hL3 := hL3.other hon n3_9); (try have hL7 := hL7.other hon n7_9); clear hL9 hbw hon; have hL9 := hLn; have hbw := hbn; clear hLn hbn) | ((go_at_call 27; (with_reducible refine (HF.out _).mono ?_); rintro e wc ⟨rfl, hbc⟩); (try have hL3 := hL3.grown hbc hL3.lt); (try have hL7 := hL7.grown hbc hL7.lt); (try have hL9 := hL9.grown hbc hL9.lt); have hbn := bt hbw hbc; clear hbw hbc; have hbw := hbn; clear hbn) | ((with_reducible refine at_op 11 ?_); refine wpList_new_row' rfl (some 11) rfl (zl5) 38 (by kernel_rfl) w.heap.size w hbw hbw.size ?_; intro g11 wn11 hL11 hB11 hbn hkn hnn; (try have n3_11 := hnn _ hL3.lt); (try have n11_3 := Ne.symm (hnn _ hL3.lt)); (try have hL3 := hL3.kept hkn); (try have n7_11 := hnn _ hL7.lt); (try have n11_7 := Ne.symm (hnn _ hL7.lt)); (try have hL7 := hL7.kept hkn); (try have n9_11 := hnn _ hL9.lt); (try have n11_9 := Ne.symm (hnn _ hL9.lt)); (try have hL9 := hL9.kept hkn); clear hbw hkn hnn; have hbw := hbn; clear hbn) | ((with_reducible refine at_store 11 ?_); refine wpList_put_row rfl 38 (.tmp 11) (.tmp 48) rfl rfl g11 ([.int .i64 q0, .int .i64 q1, .int .i64 q2, .int .i64 q3, .int .i64 q4]) (zl5) rfl rfl hL11 Hsz5.out rfl rfl w.heap.size w hbw hB11 ?_; intro wp11 hLn hbn hon; (try have hL3 := hL3.other hon n3_11); (try have hL7 := hL7.other hon n7_11); (try have hL9 := hL9.other hon n9_11); clear hL11 hbw hon; have hL11 := hLn; have hbw := hbn; clear hLn hbn) | ((with_reducible refine at_op 49 ?_); refine wpList_get_row rfl 38 (.tmp 11) rfl g11 ([.int .i64 q0, .int .i64 q1, .int .i64 q2, .int .i64 q3, .int .i64 q4]) rfl hL11 _ Try.underlying38 rfl Hsz5.out ?_) | ((go_at_call 31; (with_reducible refine (HB.out _).mono ?_); rintro e wc ⟨rfl, hbc⟩); (try have hL3 := hL3.grown hbc hL3.lt); (try have hL7 := hL7.grown hbc hL7.lt); (try have hL9 := hL9.grown hbc hL9.lt); (try have hL11 := hL11.grown hbc hL11.lt); have hbn := bt hbw hbc; clear hbw hbc; have hbw := hbn; clear hbn) | (((go_at_call 28; (with_reducible refine (cpuBegun_any _).mono ?_); rintro e wc ⟨rfl, hbc⟩); (try have hL3 := hL3.grown hbc hL3.lt); (try have hL7 := hL7.grown hbc hL7.lt); (try have hL9 := hL9.grown hbc hL9.lt); (try have hL11 := hL11.grown hbc hL11.lt); have hbn := bt hbw hbc; clear hbw hbc; have hbw := hbn; clear hbn); fail))
  have c7_0 : wc.cell? ⟨g7, 0, none⟩ = some (.int .i64 y0) := hL7.cell 0
  have c7_1 : wc.cell? ⟨g7, 1, none⟩ = some (.int .i64 y1) := hL7.cell 1
  have c7_2 : wc.cell? ⟨g7, 2, none⟩ = some (.int .i64 y2) := hL7.cell 2
  have c7_3 : wc.cell? ⟨g7, 3, none⟩ = some (.int .i64 y3) := hL7.cell 3
  have c7_4 : wc.cell? ⟨g7, 4, none⟩ = some (.int .i64 y4) := hL7.cell 4
  have c3_0 : wc.cell? ⟨g3, 0, none⟩ = some (.int .i64 r0) := hL3.cell 0
  have c3_1 : wc.cell? ⟨g3, 1, none⟩ = some (.int .i64 r1) := hL3.cell 1
  have c3_2 : wc.cell? ⟨g3, 2, none⟩ = some (.int .i64 r2) := hL3.cell 2
  have c3_3 : wc.cell? ⟨g3, 3, none⟩ = some (.int .i64 r3) := hL3.cell 3
  have c3_4 : wc.cell? ⟨g3, 4, none⟩ = some (.int .i64 r4) := hL3.cell 4
  have c3_5 : wc.cell? ⟨g3, 5, none⟩ = some (.int .i64 r5) := hL3.cell 5
  have c3_6 : wc.cell? ⟨g3, 6, none⟩ = some (.int .i64 r6) := hL3.cell 6
  have c3_7 : wc.cell? ⟨g3, 7, none⟩ = some (.int .i64 r7) := hL3.cell 7
  have c3_8 : wc.cell? ⟨g3, 8, none⟩ = some (.int .i64 r8) := hL3.cell 8
  have c3_9 : wc.cell? ⟨g3, 9, none⟩ = some (.int .i64 r9) := hL3.cell 9
  have c3_10 : wc.cell? ⟨g3, 10, none⟩ = some (.int .i64 r10) := hL3.cell 10
  have c3_11 : wc.cell? ⟨g3, 11, none⟩ = some (.int .i64 r11) := hL3.cell 11
  have c3_12 : wc.cell? ⟨g3, 12, none⟩ = some (.int .i64 r12) := hL3.cell 12
  have c11_0 : wc.cell? ⟨g11, 0, none⟩ = some (.int .i64 q0) := hL11.cell 0
  have c11_1 : wc.cell? ⟨g11, 1, none⟩ = some (.int .i64 q1) := hL11.cell 1
  have c11_2 : wc.cell? ⟨g11, 2, none⟩ = some (.int .i64 q2) := hL11.cell 2
  have c11_3 : wc.cell? ⟨g11, 3, none⟩ = some (.int .i64 q3) := hL11.cell 3
  have c11_4 : wc.cell? ⟨g11, 4, none⟩ = some (.int .i64 q4) := hL11.cell 4
  have c9_0 : wc.cell? ⟨g9, 0, none⟩ = some (.int .i64 z0) := hL9.cell 0
  have c9_1 : wc.cell? ⟨g9, 1, none⟩ = some (.int .i64 z1) := hL9.cell 1
  have c9_2 : wc.cell? ⟨g9, 2, none⟩ = some (.int .i64 z2) := hL9.cell 2
  have c9_3 : wc.cell? ⟨g9, 3, none⟩ = some (.int .i64 z3) := hL9.cell 3
  have c9_4 : wc.cell? ⟨g9, 4, none⟩ = some (.int .i64 z4) := hL9.cell 4
  have c9_5 : wc.cell? ⟨g9, 5, none⟩ = some (.int .i64 z5) := hL9.cell 5
  have c9_6 : wc.cell? ⟨g9, 6, none⟩ = some (.int .i64 z6) := hL9.cell 6
  have c9_7 : wc.cell? ⟨g9, 7, none⟩ = some (.int .i64 z7) := hL9.cell 7
  have c9_8 : wc.cell? ⟨g9, 8, none⟩ = some (.int .i64 z8) := hL9.cell 8
  have c9_9 : wc.cell? ⟨g9, 9, none⟩ = some (.int .i64 z9) := hL9.cell 9
  have c9_10 : wc.cell? ⟨g9, 10, none⟩ = some (.int .i64 z10) := hL9.cell 10
  have c9_11 : wc.cell? ⟨g9, 11, none⟩ = some (.int .i64 z11) := hL9.cell 11
  have c9_12 : wc.cell? ⟨g9, 12, none⟩ = some (.int .i64 z12) := hL9.cell 12
  have k3 := ltAll hL3.lt
  have k7 := ltAll hL7.lt
  have k9 := ltAll hL9.lt
  have k11 := ltAll hL11.lt
  refine wp_region_quiet_below (by kernel_rfl) (by kernel_rfl) ?_
  repeat (first | go_big_quiet_step ((first | (go_at_call 28; exact Calls.regrown_of (cpuBegun_any _)) | (go_at_call 32; exact Calls.regrown_of (HX.out _)) | (go_at_call 33; exact Calls.regrown_of (HY.out _)))) | quiet_step ((first | (go_at_call 28; exact Calls.regrown_of (cpuBegun_any _)) | (go_at_call 32; exact Calls.regrown_of (HX.out _)) | (go_at_call 33; exact Calls.regrown_of (HY.out _)))))
  refine wpQuiet_nil ?_
  intro wq hw'
  obtain ⟨⟨dq, osq⟩, hw''⟩ := hw'
  have hbr := of_regrown hw''
  clear hw''
  first
    | (have hbn := bt hbq hbr; clear hcq hfq hzq hbq hbr; have hbq := hbn; clear hbn)
    | (have hbq := hbr; clear hbr)
  obtain ⟨hcq, hfq, hzq⟩ := bcell3 hbq
  go_wp2_with fail
  all_goals
    go_ret
    exact ⟨rfl, bt hbw hbq⟩
theorem cpuDoes_walk (p : Pr) (hp : p.r.length = 8) (s : List UInt8) (value : Int) (w : World) :
    Calls Try.prog 7 #[p.v, .string ⟨s.toArray⟩, .int .i64 value] w (RB (.bool true) w) := by
  obtain ⟨r, pc, st, code, fk, fa⟩ := p
  match r, hp with
  | [a0, a1, a2, a3, a4, a5, a6, a7], _ =>
    by_cases hs : s.length = 8
    · match s, hs with
      | [b0, b1, b2, b3, b4, b5, b6, b7], _ =>
        by_cases h : badI b0.toNat b1.toNat b2.toNat b3.toNat (wrap32 (numB [b4, b5, b6, b7]))
        · exact cpuDoes_bad a0 a1 a2 a3 a4 a5 a6 a7 pc st code fk fa value b0 b1 b2 b3 b4 b5 b6 b7 w h
        · exact cpuDoes_good a0 a1 a2 a3 a4 a5 a6 a7 pc st code fk fa value b0 b1 b2 b3 b4 b5 b6 b7 w h
    · exact cpuDoes_n a0 a1 a2 a3 a4 a5 a6 a7 pc st code fk fa value s w hs
end Go.Proofs.Ytejnpppejalhfaa
