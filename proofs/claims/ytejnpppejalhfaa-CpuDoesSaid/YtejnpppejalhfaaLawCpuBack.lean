/- The law CpuBack, as a walk. -/
import Derived.Test.YtejnpppejalhfaaLawCpu
import Derived.Test.YtejnpppejalhfaaLawBits
namespace Go.Proofs.Ytejnpppejalhfaa
open Go.RowKit Go.Sort

theorem leB_4 (n : Int) : leB n 4 = [byteAt n 0, byteAt n 1, byteAt n 2, byteAt n 3] := by
  simp [leB, byteAt]
theorem leB_1 (n : Int) : leB n 1 = [byteAt n 0] := by
  simp [leB, byteAt]
theorem encB_8 (op a b c imm : Int) : encB op a b c imm = [byteAt op 0, byteAt a 0, byteAt b 0, byteAt c 0, byteAt imm 0, byteAt imm 1, byteAt imm 2, byteAt imm 3] := by
  unfold encB
  rw [leB_1, leB_1, leB_1, leB_1, leB_4]
  rfl
theorem byte0 (n : Int) (h : 0 ≤ n ∧ n ≤ 255) : ((byteAt n 0).toNat : Int) = n := by
  unfold byteAt
  rw [show n / 2 ^ (8 * 0) % 256 = n % 256 by simp, toInt8]
  omega
theorem dec_enc (op a b c imm : Int) (h : ¬ encBad op a b c imm) : decV (byteAt op 0) (byteAt a 0) (byteAt b 0) (byteAt c 0) (byteAt imm 0) (byteAt imm 1) (byteAt imm 2) (byteAt imm 3) = insV op a b c imm := by
  unfold encBad outB at h
  unfold decV
  rw [byte0 op (by omega), byte0 a (by omega), byte0 b (by omega), byte0 c (by omega), ← leB_4, numB_leB]
  congr 1
  unfold wrap32
  omega
theorem byteAt_wrap32 (n : Int) (j : Nat) (h : j < 4) : byteAt (wrap32 n) j = byteAt n j := by
  unfold byteAt wrap32
  have : j = 0 ∨ j = 1 ∨ j = 2 ∨ j = 3 := by omega
  rcases this with rfl | rfl | rfl | rfl <;> congr 2 <;> simp <;> omega
theorem byte0_self (b : UInt8) : byteAt (b.toNat : Int) 0 = b := by
  have := byteAt_numB [b] 0 (by simp)
  simpa [numB] using this
theorem enc_dec (b0 b1 b2 b3 b4 b5 b6 b7 : UInt8) : encB b0.toNat b1.toNat b2.toNat b3.toNat (wrap32 (numB [b4, b5, b6, b7])) = [b0, b1, b2, b3, b4, b5, b6, b7] := by
  rw [encB_8, byte0_self, byte0_self, byte0_self, byte0_self, byteAt_wrap32 _ _ (by decide), byteAt_wrap32 _ _ (by decide), byteAt_wrap32 _ _ (by decide), byteAt_wrap32 _ _ (by decide),
    byteAt_numB _ _ (by simp), byteAt_numB _ _ (by simp), byteAt_numB _ _ (by simp), byteAt_numB _ _ (by simp)]
  rfl
theorem dec_fine (b0 b1 b2 b3 b4 b5 b6 b7 : UInt8) : ¬ encBad b0.toNat b1.toNat b2.toNat b3.toNat (wrap32 (numB [b4, b5, b6, b7])) := by
  have h0 := b0.toNat_lt
  have h1 := b1.toNat_lt
  have h2 := b2.toNat_lt
  have h3 := b3.toNat_lt
  unfold encBad outB wrap32
  omega

set_option maxRecDepth 100000 in
set_option maxHeartbeats 4000000 in
theorem cpuBack_8 (op a b c imm : Int) (b0 b1 b2 b3 b4 b5 b6 b7 : UInt8) (w : World) :
    Calls Try.prog 8 #[insV op a b c imm, .string ⟨[b0, b1, b2, b3, b4, b5, b6, b7].toArray⟩] w (RB (.bool true) w) := by
  by_cases h : encBad op a b c imm
  · have HE := hid (fun w => encode_no op a b c imm w h)
    have HT : Hid True := hid trivial
    clear h
    have HD := hid (fun w => decode_yes b0 b1 b2 b3 b4 b5 b6 b7 w)
    have HY := hid (fun w => encode_yes _ _ _ _ _ w (dec_fine b0 b1 b2 b3 b4 b5 b6 b7))
    rw [enc_dec] at HY
    unfold decV at HD
    generalize (b0.toNat : Int) = q0 at *
    generalize (b1.toNat : Int) = q1 at *
    generalize (b2.toNat : Int) = q2 at *
    generalize (b3.toNat : Int) = q3 at *
    generalize wrap32 (numB [b4, b5, b6, b7]) = q4 at *
    have hsz : (Try.prog.info? 38).map (·.size) = some 5 := by kernel_rfl
    have Hsz5 := hid hsz; clear hsz
    have hbw := Below.refl w.heap.size w
    unfold insV at *
    go_enter Try.func8, Try.ntmps8
    go_wp2_with (first | ((with_reducible refine at_op 2 ?_); refine wpList_box_row' rfl 38 (.tmp 0) rfl (some 2) rfl ([.int .i64 op, .int .i64 a, .int .i64 b, .int .i64 c, .int .i64 imm]) rfl w.heap.size w hbw hbw.size ?_; intro g2 wn2 hL2 hB2 hbn hkn hnn; skip; clear hbw hkn hnn; have hbw := hbn; clear hbn) | ((with_reducible refine at_op 14 ?_); refine wpList_get_row rfl 38 (.tmp 2) rfl g2 ([.int .i64 op, .int .i64 a, .int .i64 b, .int .i64 c, .int .i64 imm]) rfl hL2 _ Try.underlying38 rfl Hsz5.out ?_) | ((go_at_call 23; (with_reducible refine (HE.out _).mono ?_); rintro e wc ⟨rfl, hbc⟩); (try have hL2 := hL2.grown hbc hL2.lt); (try have hL7 := hL7.grown hbc hL7.lt); (try have hL9 := hL9.grown hbc hL9.lt); have hbn := bt hbw hbc; clear hbw hbc; have hbw := hbn; clear hbn) | ((go_at_call 24; (with_reducible refine (HT.out _).mono ?_); rintro e wc ⟨rfl, hbc⟩); (try have hL2 := hL2.grown hbc hL2.lt); (try have hL7 := hL7.grown hbc hL7.lt); (try have hL9 := hL9.grown hbc hL9.lt); have hbn := bt hbw hbc; clear hbw hbc; have hbw := hbn; clear hbn) | ((go_at_call 24; (with_reducible refine (HD.out _).mono ?_); rintro e wc ⟨rfl, hbc⟩); (try have hL2 := hL2.grown hbc hL2.lt); (try have hL7 := hL7.grown hbc hL7.lt); (try have hL9 := hL9.grown hbc hL9.lt); have hbn := bt hbw hbc; clear hbw hbc; have hbw := hbn; clear hbn) | ((with_reducible refine at_op 7 ?_); refine wpList_new_row' rfl (some 7) rfl (zl5) 38 (by kernel_rfl) w.heap.size w hbw hbw.size ?_; intro g7 wn7 hL7 hB7 hbn hkn hnn; (try have n2_7 := hnn _ hL2.lt); (try have n7_2 := Ne.symm (hnn _ hL2.lt)); (try have hL2 := hL2.kept hkn); clear hbw hkn hnn; have hbw := hbn; clear hbn) | (((with_reducible refine at_store 7 ?_); refine wpList_put_row rfl 38 (.tmp 7) (.tmp 23) rfl rfl g7 ([.int .i64 op, .int .i64 a, .int .i64 b, .int .i64 c, .int .i64 imm]) (zl5) rfl rfl hL7 Hsz5.out rfl rfl w.heap.size w hbw hB7 ?_; intro wp7 hLn hbn hon; (try have hL2 := hL2.other hon n2_7); clear hL7 hbw hon; have hL7 := hLn; have hbw := hbn; clear hLn hbn); have c7_0 : wp7.cell? ⟨g7, 0, none⟩ = some (.int .i64 op) := hL7.cell 0; have c7_1 : wp7.cell? ⟨g7, 1, none⟩ = some (.int .i64 a) := hL7.cell 1; have c7_2 : wp7.cell? ⟨g7, 2, none⟩ = some (.int .i64 b) := hL7.cell 2; have c7_3 : wp7.cell? ⟨g7, 3, none⟩ = some (.int .i64 c) := hL7.cell 3; have c7_4 : wp7.cell? ⟨g7, 4, none⟩ = some (.int .i64 imm) := hL7.cell 4; have c2_0 : wp7.cell? ⟨g2, 0, none⟩ = some (.int .i64 op) := hL2.cell 0; have c2_1 : wp7.cell? ⟨g2, 1, none⟩ = some (.int .i64 a) := hL2.cell 1; have c2_2 : wp7.cell? ⟨g2, 2, none⟩ = some (.int .i64 b) := hL2.cell 2; have c2_3 : wp7.cell? ⟨g2, 3, none⟩ = some (.int .i64 c) := hL2.cell 3; have c2_4 : wp7.cell? ⟨g2, 4, none⟩ = some (.int .i64 imm) := hL2.cell 4) | ((with_reducible refine at_op 9 ?_); refine wpList_new_row' rfl (some 9) rfl (zl5) 38 (by kernel_rfl) w.heap.size w hbw hbw.size ?_; intro g9 wn9 hL9 hB9 hbn hkn hnn; (try have n2_9 := hnn _ hL2.lt); (try have n9_2 := Ne.symm (hnn _ hL2.lt)); (try have hL2 := hL2.kept hkn); (try have n7_9 := hnn _ hL7.lt); (try have n9_7 := Ne.symm (hnn _ hL7.lt)); (try have hL7 := hL7.kept hkn); clear hbw hkn hnn; have hbw := hbn; clear hbn) | ((with_reducible refine at_store 9 ?_); refine wpList_put_row rfl 38 (.tmp 9) (.tmp 35) rfl rfl g9 ([.int .i64 q0, .int .i64 q1, .int .i64 q2, .int .i64 q3, .int .i64 q4]) (zl5) rfl rfl hL9 Hsz5.out rfl rfl w.heap.size w hbw hB9 ?_; intro wp9 hLn hbn hon; (try have hL2 := hL2.other hon n2_9); (try have hL7 := hL7.other hon n7_9); clear hL9 hbw hon; have hL9 := hLn; have hbw := hbn; clear hLn hbn) | ((with_reducible refine at_op 41 ?_); refine wpList_get_row rfl 38 (.tmp 9) rfl g9 ([.int .i64 q0, .int .i64 q1, .int .i64 q2, .int .i64 q3, .int .i64 q4]) rfl hL9 _ Try.underlying38 rfl Hsz5.out ?_) | ((go_at_call 23; (with_reducible refine (HY.out _).mono ?_); rintro e wc ⟨rfl, hbc⟩); (try have hL2 := hL2.grown hbc hL2.lt); (try have hL7 := hL7.grown hbc hL7.lt); (try have hL9 := hL9.grown hbc hL9.lt); have hbn := bt hbw hbc; clear hbw hbc; have hbw := hbn; clear hbn) | ((go_at_call 28; (with_reducible refine (cpuBegun_any _).mono ?_); rintro e wc ⟨rfl, hbc⟩); (try have hL2 := hL2.grown hbc hL2.lt); (try have hL7 := hL7.grown hbc hL7.lt); (try have hL9 := hL9.grown hbc hL9.lt); have hbn := bt hbw hbc; clear hbw hbc; have hbw := hbn; clear hbn))
    all_goals
      go_ret
      exact ⟨rfl, hbw⟩
  · have HE := hid (fun w => encode_yes op a b c imm w h)
    have HT : Hid (∀ w, Calls Try.prog 24 #[.string ⟨(encB op a b c imm).toArray⟩] w (RB (.tuple #[insV op a b c imm, .int .i64 0]) w)) := fun w => by
      rw [encB_8, ← dec_enc op a b c imm h]
      exact decode_yes _ _ _ _ _ _ _ _ w
    clear h
    generalize encB op a b c imm = E at *
    have HD := hid (fun w => decode_yes b0 b1 b2 b3 b4 b5 b6 b7 w)
    have HY := hid (fun w => encode_yes _ _ _ _ _ w (dec_fine b0 b1 b2 b3 b4 b5 b6 b7))
    rw [enc_dec] at HY
    unfold decV at HD
    generalize (b0.toNat : Int) = q0 at *
    generalize (b1.toNat : Int) = q1 at *
    generalize (b2.toNat : Int) = q2 at *
    generalize (b3.toNat : Int) = q3 at *
    generalize wrap32 (numB [b4, b5, b6, b7]) = q4 at *
    have hsz : (Try.prog.info? 38).map (·.size) = some 5 := by kernel_rfl
    have Hsz5 := hid hsz; clear hsz
    have hbw := Below.refl w.heap.size w
    unfold insV at *
    go_enter Try.func8, Try.ntmps8
    go_wp2_with (first | ((with_reducible refine at_op 2 ?_); refine wpList_box_row' rfl 38 (.tmp 0) rfl (some 2) rfl ([.int .i64 op, .int .i64 a, .int .i64 b, .int .i64 c, .int .i64 imm]) rfl w.heap.size w hbw hbw.size ?_; intro g2 wn2 hL2 hB2 hbn hkn hnn; skip; clear hbw hkn hnn; have hbw := hbn; clear hbn) | ((with_reducible refine at_op 14 ?_); refine wpList_get_row rfl 38 (.tmp 2) rfl g2 ([.int .i64 op, .int .i64 a, .int .i64 b, .int .i64 c, .int .i64 imm]) rfl hL2 _ Try.underlying38 rfl Hsz5.out ?_) | ((go_at_call 23; (with_reducible refine (HE.out _).mono ?_); rintro e wc ⟨rfl, hbc⟩); (try have hL2 := hL2.grown hbc hL2.lt); (try have hL7 := hL7.grown hbc hL7.lt); (try have hL9 := hL9.grown hbc hL9.lt); have hbn := bt hbw hbc; clear hbw hbc; have hbw := hbn; clear hbn) | ((go_at_call 24; (with_reducible refine (HT.out _).mono ?_); rintro e wc ⟨rfl, hbc⟩); (try have hL2 := hL2.grown hbc hL2.lt); (try have hL7 := hL7.grown hbc hL7.lt); (try have hL9 := hL9.grown hbc hL9.lt); have hbn := bt hbw hbc; clear hbw hbc; have hbw := hbn; clear hbn) | ((go_at_call 24; (with_reducible refine (HD.out _).mono ?_); rintro e wc ⟨rfl, hbc⟩); (try have hL2 := hL2.grown hbc hL2.lt); (try have hL7 := hL7.grown hbc hL7.lt); (try have hL9 := hL9.grown hbc hL9.lt); have hbn := bt hbw hbc; clear hbw hbc; have hbw := hbn; clear hbn) | ((with_reducible refine at_op 7 ?_); refine wpList_new_row' rfl (some 7) rfl (zl5) 38 (by kernel_rfl) w.heap.size w hbw hbw.size ?_; intro g7 wn7 hL7 hB7 hbn hkn hnn; (try have n2_7 := hnn _ hL2.lt); (try have n7_2 := Ne.symm (hnn _ hL2.lt)); (try have hL2 := hL2.kept hkn); clear hbw hkn hnn; have hbw := hbn; clear hbn) | (((with_reducible refine at_store 7 ?_); refine wpList_put_row rfl 38 (.tmp 7) (.tmp 23) rfl rfl g7 ([.int .i64 op, .int .i64 a, .int .i64 b, .int .i64 c, .int .i64 imm]) (zl5) rfl rfl hL7 Hsz5.out rfl rfl w.heap.size w hbw hB7 ?_; intro wp7 hLn hbn hon; (try have hL2 := hL2.other hon n2_7); clear hL7 hbw hon; have hL7 := hLn; have hbw := hbn; clear hLn hbn); have c7_0 : wp7.cell? ⟨g7, 0, none⟩ = some (.int .i64 op) := hL7.cell 0; have c7_1 : wp7.cell? ⟨g7, 1, none⟩ = some (.int .i64 a) := hL7.cell 1; have c7_2 : wp7.cell? ⟨g7, 2, none⟩ = some (.int .i64 b) := hL7.cell 2; have c7_3 : wp7.cell? ⟨g7, 3, none⟩ = some (.int .i64 c) := hL7.cell 3; have c7_4 : wp7.cell? ⟨g7, 4, none⟩ = some (.int .i64 imm) := hL7.cell 4; have c2_0 : wp7.cell? ⟨g2, 0, none⟩ = some (.int .i64 op) := hL2.cell 0; have c2_1 : wp7.cell? ⟨g2, 1, none⟩ = some (.int .i64 a) := hL2.cell 1; have c2_2 : wp7.cell? ⟨g2, 2, none⟩ = some (.int .i64 b) := hL2.cell 2; have c2_3 : wp7.cell? ⟨g2, 3, none⟩ = some (.int .i64 c) := hL2.cell 3; have c2_4 : wp7.cell? ⟨g2, 4, none⟩ = some (.int .i64 imm) := hL2.cell 4) | ((with_reducible refine at_op 9 ?_); refine wpList_new_row' rfl (some 9) rfl (zl5) 38 (by kernel_rfl) w.heap.size w hbw hbw.size ?_; intro g9 wn9 hL9 hB9 hbn hkn hnn; (try have n2_9 := hnn _ hL2.lt); (try have n9_2 := Ne.symm (hnn _ hL2.lt)); (try have hL2 := hL2.kept hkn); (try have n7_9 := hnn _ hL7.lt); (try have n9_7 := Ne.symm (hnn _ hL7.lt)); (try have hL7 := hL7.kept hkn); clear hbw hkn hnn; have hbw := hbn; clear hbn) | ((with_reducible refine at_store 9 ?_); refine wpList_put_row rfl 38 (.tmp 9) (.tmp 35) rfl rfl g9 ([.int .i64 q0, .int .i64 q1, .int .i64 q2, .int .i64 q3, .int .i64 q4]) (zl5) rfl rfl hL9 Hsz5.out rfl rfl w.heap.size w hbw hB9 ?_; intro wp9 hLn hbn hon; (try have hL2 := hL2.other hon n2_9); (try have hL7 := hL7.other hon n7_9); clear hL9 hbw hon; have hL9 := hLn; have hbw := hbn; clear hLn hbn) | ((with_reducible refine at_op 41 ?_); refine wpList_get_row rfl 38 (.tmp 9) rfl g9 ([.int .i64 q0, .int .i64 q1, .int .i64 q2, .int .i64 q3, .int .i64 q4]) rfl hL9 _ Try.underlying38 rfl Hsz5.out ?_) | ((go_at_call 23; (with_reducible refine (HY.out _).mono ?_); rintro e wc ⟨rfl, hbc⟩); (try have hL2 := hL2.grown hbc hL2.lt); (try have hL7 := hL7.grown hbc hL7.lt); (try have hL9 := hL9.grown hbc hL9.lt); have hbn := bt hbw hbc; clear hbw hbc; have hbw := hbn; clear hbn) | ((go_at_call 28; (with_reducible refine (cpuBegun_any _).mono ?_); rintro e wc ⟨rfl, hbc⟩); (try have hL2 := hL2.grown hbc hL2.lt); (try have hL7 := hL7.grown hbc hL7.lt); (try have hL9 := hL9.grown hbc hL9.lt); have hbn := bt hbw hbc; clear hbw hbc; have hbw := hbn; clear hbn))
    all_goals
      go_ret
      exact ⟨rfl, hbw⟩
set_option maxRecDepth 100000 in
set_option maxHeartbeats 4000000 in
theorem cpuBack_n (op a b c imm : Int) (s : List UInt8) (w : World) (hs : s.length ≠ 8) :
    Calls Try.prog 8 #[insV op a b c imm, .string ⟨s.toArray⟩] w (RB (.bool true) w) := by
  by_cases h : encBad op a b c imm
  · have HE := hid (fun w => encode_no op a b c imm w h)
    have HT : Hid True := hid trivial
    clear h
    have HD := hid (fun w => decode_no s w (by omega))
    have HY : Hid True := hid trivial
    clear hs
    have hsz : (Try.prog.info? 38).map (·.size) = some 5 := by kernel_rfl
    have Hsz5 := hid hsz; clear hsz
    have hbw := Below.refl w.heap.size w
    unfold insV at *
    go_enter Try.func8, Try.ntmps8
    go_wp2_with (first | ((with_reducible refine at_op 2 ?_); refine wpList_box_row' rfl 38 (.tmp 0) rfl (some 2) rfl ([.int .i64 op, .int .i64 a, .int .i64 b, .int .i64 c, .int .i64 imm]) rfl w.heap.size w hbw hbw.size ?_; intro g2 wn2 hL2 hB2 hbn hkn hnn; skip; clear hbw hkn hnn; have hbw := hbn; clear hbn) | ((with_reducible refine at_op 14 ?_); refine wpList_get_row rfl 38 (.tmp 2) rfl g2 ([.int .i64 op, .int .i64 a, .int .i64 b, .int .i64 c, .int .i64 imm]) rfl hL2 _ Try.underlying38 rfl Hsz5.out ?_) | ((go_at_call 23; (with_reducible refine (HE.out _).mono ?_); rintro e wc ⟨rfl, hbc⟩); (try have hL2 := hL2.grown hbc hL2.lt); (try have hL7 := hL7.grown hbc hL7.lt); (try have hL9 := hL9.grown hbc hL9.lt); have hbn := bt hbw hbc; clear hbw hbc; have hbw := hbn; clear hbn) | ((go_at_call 24; (with_reducible refine (HT.out _).mono ?_); rintro e wc ⟨rfl, hbc⟩); (try have hL2 := hL2.grown hbc hL2.lt); (try have hL7 := hL7.grown hbc hL7.lt); (try have hL9 := hL9.grown hbc hL9.lt); have hbn := bt hbw hbc; clear hbw hbc; have hbw := hbn; clear hbn) | ((go_at_call 24; (with_reducible refine (HD.out _).mono ?_); rintro e wc ⟨rfl, hbc⟩); (try have hL2 := hL2.grown hbc hL2.lt); (try have hL7 := hL7.grown hbc hL7.lt); (try have hL9 := hL9.grown hbc hL9.lt); have hbn := bt hbw hbc; clear hbw hbc; have hbw := hbn; clear hbn) | ((with_reducible refine at_op 7 ?_); refine wpList_new_row' rfl (some 7) rfl (zl5) 38 (by kernel_rfl) w.heap.size w hbw hbw.size ?_; intro g7 wn7 hL7 hB7 hbn hkn hnn; (try have n2_7 := hnn _ hL2.lt); (try have n7_2 := Ne.symm (hnn _ hL2.lt)); (try have hL2 := hL2.kept hkn); clear hbw hkn hnn; have hbw := hbn; clear hbn) | (((with_reducible refine at_store 7 ?_); refine wpList_put_row rfl 38 (.tmp 7) (.tmp 23) rfl rfl g7 ([.int .i64 op, .int .i64 a, .int .i64 b, .int .i64 c, .int .i64 imm]) (zl5) rfl rfl hL7 Hsz5.out rfl rfl w.heap.size w hbw hB7 ?_; intro wp7 hLn hbn hon; (try have hL2 := hL2.other hon n2_7); clear hL7 hbw hon; have hL7 := hLn; have hbw := hbn; clear hLn hbn); have c7_0 : wp7.cell? ⟨g7, 0, none⟩ = some (.int .i64 op) := hL7.cell 0; have c7_1 : wp7.cell? ⟨g7, 1, none⟩ = some (.int .i64 a) := hL7.cell 1; have c7_2 : wp7.cell? ⟨g7, 2, none⟩ = some (.int .i64 b) := hL7.cell 2; have c7_3 : wp7.cell? ⟨g7, 3, none⟩ = some (.int .i64 c) := hL7.cell 3; have c7_4 : wp7.cell? ⟨g7, 4, none⟩ = some (.int .i64 imm) := hL7.cell 4; have c2_0 : wp7.cell? ⟨g2, 0, none⟩ = some (.int .i64 op) := hL2.cell 0; have c2_1 : wp7.cell? ⟨g2, 1, none⟩ = some (.int .i64 a) := hL2.cell 1; have c2_2 : wp7.cell? ⟨g2, 2, none⟩ = some (.int .i64 b) := hL2.cell 2; have c2_3 : wp7.cell? ⟨g2, 3, none⟩ = some (.int .i64 c) := hL2.cell 3; have c2_4 : wp7.cell? ⟨g2, 4, none⟩ = some (.int .i64 imm) := hL2.cell 4) | ((with_reducible refine at_op 9 ?_); refine wpList_new_row' rfl (some 9) rfl (zl5) 38 (by kernel_rfl) w.heap.size w hbw hbw.size ?_; intro g9 wn9 hL9 hB9 hbn hkn hnn; (try have n2_9 := hnn _ hL2.lt); (try have n9_2 := Ne.symm (hnn _ hL2.lt)); (try have hL2 := hL2.kept hkn); (try have n7_9 := hnn _ hL7.lt); (try have n9_7 := Ne.symm (hnn _ hL7.lt)); (try have hL7 := hL7.kept hkn); clear hbw hkn hnn; have hbw := hbn; clear hbn) | ((with_reducible refine at_store 9 ?_); refine wpList_put_row rfl 38 (.tmp 9) (.tmp 35) rfl rfl g9 (zl5) (zl5) rfl rfl hL9 Hsz5.out rfl rfl w.heap.size w hbw hB9 ?_; intro wp9 hLn hbn hon; (try have hL2 := hL2.other hon n2_9); (try have hL7 := hL7.other hon n7_9); clear hL9 hbw hon; have hL9 := hLn; have hbw := hbn; clear hLn hbn) | ((with_reducible refine at_op 41 ?_); refine wpList_get_row rfl 38 (.tmp 9) rfl g9 (zl5) rfl hL9 _ Try.underlying38 rfl Hsz5.out ?_) | ((go_at_call 23; (with_reducible refine (HY.out _).mono ?_); rintro e wc ⟨rfl, hbc⟩); (try have hL2 := hL2.grown hbc hL2.lt); (try have hL7 := hL7.grown hbc hL7.lt); (try have hL9 := hL9.grown hbc hL9.lt); have hbn := bt hbw hbc; clear hbw hbc; have hbw := hbn; clear hbn) | ((go_at_call 28; (with_reducible refine (cpuBegun_any _).mono ?_); rintro e wc ⟨rfl, hbc⟩); (try have hL2 := hL2.grown hbc hL2.lt); (try have hL7 := hL7.grown hbc hL7.lt); (try have hL9 := hL9.grown hbc hL9.lt); have hbn := bt hbw hbc; clear hbw hbc; have hbw := hbn; clear hbn))
    all_goals
      go_ret
      exact ⟨rfl, hbw⟩
  · have HE := hid (fun w => encode_yes op a b c imm w h)
    have HT : Hid (∀ w, Calls Try.prog 24 #[.string ⟨(encB op a b c imm).toArray⟩] w (RB (.tuple #[insV op a b c imm, .int .i64 0]) w)) := fun w => by
      rw [encB_8, ← dec_enc op a b c imm h]
      exact decode_yes _ _ _ _ _ _ _ _ w
    clear h
    generalize encB op a b c imm = E at *
    have HD := hid (fun w => decode_no s w (by omega))
    have HY : Hid True := hid trivial
    clear hs
    have hsz : (Try.prog.info? 38).map (·.size) = some 5 := by kernel_rfl
    have Hsz5 := hid hsz; clear hsz
    have hbw := Below.refl w.heap.size w
    unfold insV at *
    go_enter Try.func8, Try.ntmps8
    go_wp2_with (first | ((with_reducible refine at_op 2 ?_); refine wpList_box_row' rfl 38 (.tmp 0) rfl (some 2) rfl ([.int .i64 op, .int .i64 a, .int .i64 b, .int .i64 c, .int .i64 imm]) rfl w.heap.size w hbw hbw.size ?_; intro g2 wn2 hL2 hB2 hbn hkn hnn; skip; clear hbw hkn hnn; have hbw := hbn; clear hbn) | ((with_reducible refine at_op 14 ?_); refine wpList_get_row rfl 38 (.tmp 2) rfl g2 ([.int .i64 op, .int .i64 a, .int .i64 b, .int .i64 c, .int .i64 imm]) rfl hL2 _ Try.underlying38 rfl Hsz5.out ?_) | ((go_at_call 23; (with_reducible refine (HE.out _).mono ?_); rintro e wc ⟨rfl, hbc⟩); (try have hL2 := hL2.grown hbc hL2.lt); (try have hL7 := hL7.grown hbc hL7.lt); (try have hL9 := hL9.grown hbc hL9.lt); have hbn := bt hbw hbc; clear hbw hbc; have hbw := hbn; clear hbn) | ((go_at_call 24; (with_reducible refine (HT.out _).mono ?_); rintro e wc ⟨rfl, hbc⟩); (try have hL2 := hL2.grown hbc hL2.lt); (try have hL7 := hL7.grown hbc hL7.lt); (try have hL9 := hL9.grown hbc hL9.lt); have hbn := bt hbw hbc; clear hbw hbc; have hbw := hbn; clear hbn) | ((go_at_call 24; (with_reducible refine (HD.out _).mono ?_); rintro e wc ⟨rfl, hbc⟩); (try have hL2 := hL2.grown hbc hL2.lt); (try have hL7 := hL7.grown hbc hL7.lt); (try have hL9 := hL9.grown hbc hL9.lt); have hbn := bt hbw hbc; clear hbw hbc; have hbw := hbn; clear hbn) | ((with_reducible refine at_op 7 ?_); refine wpList_new_row' rfl (some 7) rfl (zl5) 38 (by kernel_rfl) w.heap.size w hbw hbw.size ?_; intro g7 wn7 hL7 hB7 hbn hkn hnn; (try have n2_7 := hnn _ hL2.lt); (try have n7_2 := Ne.symm (hnn _ hL2.lt)); (try have hL2 := hL2.kept hkn); clear hbw hkn hnn; have hbw := hbn; clear hbn) | (((with_reducible refine at_store 7 ?_); refine wpList_put_row rfl 38 (.tmp 7) (.tmp 23) rfl rfl g7 ([.int .i64 op, .int .i64 a, .int .i64 b, .int .i64 c, .int .i64 imm]) (zl5) rfl rfl hL7 Hsz5.out rfl rfl w.heap.size w hbw hB7 ?_; intro wp7 hLn hbn hon; (try have hL2 := hL2.other hon n2_7); clear hL7 hbw hon; have hL7 := hLn; have hbw := hbn; clear hLn hbn); have c7_0 : wp7.cell? ⟨g7, 0, none⟩ = some (.int .i64 op) := hL7.cell 0; have c7_1 : wp7.cell? ⟨g7, 1, none⟩ = some (.int .i64 a) := hL7.cell 1; have c7_2 : wp7.cell? ⟨g7, 2, none⟩ = some (.int .i64 b) := hL7.cell 2; have c7_3 : wp7.cell? ⟨g7, 3, none⟩ = some (.int .i64 c) := hL7.cell 3; have c7_4 : wp7.cell? ⟨g7, 4, none⟩ = some (.int .i64 imm) := hL7.cell 4; have c2_0 : wp7.cell? ⟨g2, 0, none⟩ = some (.int .i64 op) := hL2.cell 0; have c2_1 : wp7.cell? ⟨g2, 1, none⟩ = some (.int .i64 a) := hL2.cell 1; have c2_2 : wp7.cell? ⟨g2, 2, none⟩ = some (.int .i64 b) := hL2.cell 2; have c2_3 : wp7.cell? ⟨g2, 3, none⟩ = some (.int .i64 c) := hL2.cell 3; have c2_4 : wp7.cell? ⟨g2, 4, none⟩ = some (.int .i64 imm) := hL2.cell 4) | ((with_reducible refine at_op 9 ?_); refine wpList_new_row' rfl (some 9) rfl (zl5) 38 (by kernel_rfl) w.heap.size w hbw hbw.size ?_; intro g9 wn9 hL9 hB9 hbn hkn hnn; (try have n2_9 := hnn _ hL2.lt); (try have n9_2 := Ne.symm (hnn _ hL2.lt)); (try have hL2 := hL2.kept hkn); (try have n7_9 := hnn _ hL7.lt); (try have n9_7 := Ne.symm (hnn _ hL7.lt)); (try have hL7 := hL7.kept hkn); clear hbw hkn hnn; have hbw := hbn; clear hbn) | ((with_reducible refine at_store 9 ?_); refine wpList_put_row rfl 38 (.tmp 9) (.tmp 35) rfl rfl g9 (zl5) (zl5) rfl rfl hL9 Hsz5.out rfl rfl w.heap.size w hbw hB9 ?_; intro wp9 hLn hbn hon; (try have hL2 := hL2.other hon n2_9); (try have hL7 := hL7.other hon n7_9); clear hL9 hbw hon; have hL9 := hLn; have hbw := hbn; clear hLn hbn) | ((with_reducible refine at_op 41 ?_); refine wpList_get_row rfl 38 (.tmp 9) rfl g9 (zl5) rfl hL9 _ Try.underlying38 rfl Hsz5.out ?_) | ((go_at_call 23; (with_reducible refine (HY.out _).mono ?_); rintro e wc ⟨rfl, hbc⟩); (try have hL2 := hL2.grown hbc hL2.lt); (try have hL7 := hL7.grown hbc hL7.lt); (try have hL9 := hL9.grown hbc hL9.lt); have hbn := bt hbw hbc; clear hbw hbc; have hbw := hbn; clear hbn) | ((go_at_call 28; (with_reducible refine (cpuBegun_any _).mono ?_); rintro e wc ⟨rfl, hbc⟩); (try have hL2 := hL2.grown hbc hL2.lt); (try have hL7 := hL7.grown hbc hL7.lt); (try have hL9 := hL9.grown hbc hL9.lt); have hbn := bt hbw hbc; clear hbw hbc; have hbw := hbn; clear hbn))
    all_goals
      go_ret
      exact ⟨rfl, hbw⟩
theorem cpuBack_walk (op a b c imm : Int) (s : List UInt8) (w : World) :
    Calls Try.prog 8 #[insV op a b c imm, .string ⟨s.toArray⟩] w (RB (.bool true) w) := by
  by_cases hs : s.length = 8
  · match s, hs with
    | [b0, b1, b2, b3, b4, b5, b6, b7], _ => exact cpuBack_8 op a b c imm b0 b1 b2 b3 b4 b5 b6 b7 w
  · exact cpuBack_n op a b c imm s w hs
end Go.Proofs.Ytejnpppejalhfaa
