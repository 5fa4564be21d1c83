/- The contracts of Encode and Decode, and of the reference's InstrError, InstrBytes, InstrFrom. -/
import Derived.Test.YtejnpppejalhfaaBits
import Derived.Lib.QuietBelow
import Derived.Test.YtejnpppejalhfaaRegion
namespace Go.Proofs.Ytejnpppejalhfaa
open Go.RowKit Go.Sort

def insV (op a b c imm : Int) : Value := .agg #[.int .i64 op, .int .i64 a, .int .i64 b, .int .i64 c, .int .i64 imm]
def encB (op a b c imm : Int) : List UInt8 := leB op 1 ++ (leB a 1 ++ (leB b 1 ++ (leB c 1 ++ leB imm 4)))
theorem leB_one (n : Int) : leB n 1 = [UInt8.ofNat (n % 256).toNat] := by simp [leB]

theorem wrap64_in' (n : Int) (h1 : -9223372036854775808 ≤ n) (h2 : n ≤ 9223372036854775807) : wrap64 n = n := by unfold wrap64; omega
theorem wrap32_in' (n : Int) (h1 : -2147483648 ≤ n) (h2 : n ≤ 2147483647) : wrap64 (wrap32 n) = n := by unfold wrap64 wrap32; omega
theorem wrap32_out (n : Int) (h : n < -2147483648 ∨ 2147483647 < n) : (n != wrap64 (wrap32 n)) = true := by rw [bne_iff_ne]; unfold wrap64 wrap32; omega

def outB (n : Int) : Prop := n < 0 ∨ 255 < n
def encBad (op a b c imm : Int) : Prop := outB op ∨ outB a ∨ outB b ∨ outB c ∨ imm < -2147483648 ∨ 2147483647 < imm
def inByte (n : Int) : Prop := 0 ≤ n ∧ n ≤ 255
theorem out_or (n : Int) : outB n ∨ inByte n := by unfold outB inByte; omega

set_option maxRecDepth 100000 in
set_option maxHeartbeats 2000000 in
theorem encode_no (op a b c imm : Int) (w : World) (h : encBad op a b c imm) :
    Calls Try.prog 23 #[insV op a b c imm] w (RB (.tuple #[.string ⟨#[]⟩, .int .i64 3]) w) := by
  have hcv := run_str_of_one (P := Try.prog) 91 5 9 Try.underlying91 Try.underlying5 Try.underlying9
  have i0 : ∀ w, (Instr.index 95 (.agg #[.int .i64 op, .int .i64 a, .int .i64 b, .int .i64 c]) (.int .i64 0)).run Try.prog w = .ok (.int .i64 op) w := fun _ => by kernel_rfl
  have i1 : ∀ w, (Instr.index 95 (.agg #[.int .i64 op, .int .i64 a, .int .i64 b, .int .i64 c]) (.int .i64 1)).run Try.prog w = .ok (.int .i64 a) w := fun _ => by kernel_rfl
  have i2 : ∀ w, (Instr.index 95 (.agg #[.int .i64 op, .int .i64 a, .int .i64 b, .int .i64 c]) (.int .i64 2)).run Try.prog w = .ok (.int .i64 b) w := fun _ => by kernel_rfl
  have i3 : ∀ w, (Instr.index 95 (.agg #[.int .i64 op, .int .i64 a, .int .i64 b, .int .i64 c]) (.int .i64 3)).run Try.prog w = .ok (.int .i64 c) w := fun _ => by kernel_rfl
  have HP : Hid True := hid trivial
  unfold insV
  rcases out_or op with (g1 | g1) | ⟨g1, g1'⟩
  · clear h; go_enter Try.func23, Try.ntmps23
    go_wp2
    refine wp_loop_rounds 5 ?_
    repeat any_goals (rw [rounds_succ]; go_wp2_with (first | (go_at_call 14; (with_reducible refine (HP.out _).mono ?_); rintro e w1 ⟨rfl, hb1⟩)))
    all_goals
      go_ret2
      refine ⟨?_, ?_⟩
      · first | rfl | (show Ending.returned _ = _; simp [encB, leB_one]; refine ⟨?_, ?_, ?_, ?_⟩ <;> (congr 2; omega))
      · exact
          (by repeat (first | (with_reducible exact Below.refl _ _) | (with_reducible assumption) | (with_reducible refine Below.alloc ?_ (by first | omega | (simp; done) | (simp; omega)) _) | (with_reducible refine Below.setCell ?_ (by first | omega | (simp; done) | (simp; omega)) _) | (with_reducible refine Below.drew ?_) | (with_reducible refine bt ?_ (below_regrown _ _ _)) | (refine bt ?_ (by with_reducible assumption))))
  · clear h; go_enter Try.func23, Try.ntmps23
    go_wp2
    refine wp_loop_rounds 5 ?_
    repeat any_goals (rw [rounds_succ]; go_wp2_with (first | (go_at_call 14; (with_reducible refine (HP.out _).mono ?_); rintro e w1 ⟨rfl, hb1⟩)))
    all_goals
      go_ret2
      refine ⟨?_, ?_⟩
      · first | rfl | (show Ending.returned _ = _; simp [encB, leB_one]; refine ⟨?_, ?_, ?_, ?_⟩ <;> (congr 2; omega))
      · exact
          (by repeat (first | (with_reducible exact Below.refl _ _) | (with_reducible assumption) | (with_reducible refine Below.alloc ?_ (by first | omega | (simp; done) | (simp; omega)) _) | (with_reducible refine Below.setCell ?_ (by first | omega | (simp; done) | (simp; omega)) _) | (with_reducible refine Below.drew ?_) | (with_reducible refine bt ?_ (below_regrown _ _ _)) | (refine bt ?_ (by with_reducible assumption))))
  rcases out_or a with (g2 | g2) | ⟨g2, g2'⟩
  · clear h; go_enter Try.func23, Try.ntmps23
    go_wp2
    refine wp_loop_rounds 5 ?_
    repeat any_goals (rw [rounds_succ]; go_wp2_with (first | (go_at_call 14; (with_reducible refine (HP.out _).mono ?_); rintro e w1 ⟨rfl, hb1⟩)))
    all_goals
      go_ret2
      refine ⟨?_, ?_⟩
      · first | rfl | (show Ending.returned _ = _; simp [encB, leB_one]; refine ⟨?_, ?_, ?_, ?_⟩ <;> (congr 2; omega))
      · exact
          (by repeat (first | (with_reducible exact Below.refl _ _) | (with_reducible assumption) | (with_reducible refine Below.alloc ?_ (by first | omega | (simp; done) | (simp; omega)) _) | (with_reducible refine Below.setCell ?_ (by first | omega | (simp; done) | (simp; omega)) _) | (with_reducible refine Below.drew ?_) | (with_reducible refine bt ?_ (below_regrown _ _ _)) | (refine bt ?_ (by with_reducible assumption))))
  · clear h; go_enter Try.func23, Try.ntmps23
    go_wp2
    refine wp_loop_rounds 5 ?_
    repeat any_goals (rw [rounds_succ]; go_wp2_with (first | (go_at_call 14; (with_reducible refine (HP.out _).mono ?_); rintro e w1 ⟨rfl, hb1⟩)))
    all_goals
      go_ret2
      refine ⟨?_, ?_⟩
      · first | rfl | (show Ending.returned _ = _; simp [encB, leB_one]; refine ⟨?_, ?_, ?_, ?_⟩ <;> (congr 2; omega))
      · exact
          (by repeat (first | (with_reducible exact Below.refl _ _) | (with_reducible assumption) | (with_reducible refine Below.alloc ?_ (by first | omega | (simp; done) | (simp; omega)) _) | (with_reducible refine Below.setCell ?_ (by first | omega | (simp; done) | (simp; omega)) _) | (with_reducible refine Below.drew ?_) | (with_reducible refine bt ?_ (below_regrown _ _ _)) | (refine bt ?_ (by with_reducible assumption))))
  rcases out_or b with (g3 | g3) | ⟨g3, g3'⟩
  · clear h; go_enter Try.func23, Try.ntmps23
    go_wp2
    refine wp_loop_rounds 5 ?_
    repeat any_goals (rw [rounds_succ]; go_wp2_with (first | (go_at_call 14; (with_reducible refine (HP.out _).mono ?_); rintro e w1 ⟨rfl, hb1⟩)))
    all_goals
      go_ret2
      refine ⟨?_, ?_⟩
      · first | rfl | (show Ending.returned _ = _; simp [encB, leB_one]; refine ⟨?_, ?_, ?_, ?_⟩ <;> (congr 2; omega))
      · exact
          (by repeat (first | (with_reducible exact Below.refl _ _) | (with_reducible assumption) | (with_reducible refine Below.alloc ?_ (by first | omega | (simp; done) | (simp; omega)) _) | (with_reducible refine Below.setCell ?_ (by first | omega | (simp; done) | (simp; omega)) _) | (with_reducible refine Below.drew ?_) | (with_reducible refine bt ?_ (below_regrown _ _ _)) | (refine bt ?_ (by with_reducible assumption))))
  · clear h; go_enter Try.func23, Try.ntmps23
    go_wp2
    refine wp_loop_rounds 5 ?_
    repeat any_goals (rw [rounds_succ]; go_wp2_with (first | (go_at_call 14; (with_reducible refine (HP.out _).mono ?_); rintro e w1 ⟨rfl, hb1⟩)))
    all_goals
      go_ret2
      refine ⟨?_, ?_⟩
      · first | rfl | (show Ending.returned _ = _; simp [encB, leB_one]; refine ⟨?_, ?_, ?_, ?_⟩ <;> (congr 2; omega))
      · exact
          (by repeat (first | (with_reducible exact Below.refl _ _) | (with_reducible assumption) | (with_reducible refine Below.alloc ?_ (by first | omega | (simp; done) | (simp; omega)) _) | (with_reducible refine Below.setCell ?_ (by first | omega | (simp; done) | (simp; omega)) _) | (with_reducible refine Below.drew ?_) | (with_reducible refine bt ?_ (below_regrown _ _ _)) | (refine bt ?_ (by with_reducible assumption))))
  rcases out_or c with (g4 | g4) | ⟨g4, g4'⟩
  · clear h; go_enter Try.func23, Try.ntmps23
    go_wp2
    refine wp_loop_rounds 5 ?_
    repeat any_goals (rw [rounds_succ]; go_wp2_with (first | (go_at_call 14; (with_reducible refine (HP.out _).mono ?_); rintro e w1 ⟨rfl, hb1⟩)))
    all_goals
      go_ret2
      refine ⟨?_, ?_⟩
      · first | rfl | (show Ending.returned _ = _; simp [encB, leB_one]; refine ⟨?_, ?_, ?_, ?_⟩ <;> (congr 2; omega))
      · exact
          (by repeat (first | (with_reducible exact Below.refl _ _) | (with_reducible assumption) | (with_reducible refine Below.alloc ?_ (by first | omega | (simp; done) | (simp; omega)) _) | (with_reducible refine Below.setCell ?_ (by first | omega | (simp; done) | (simp; omega)) _) | (with_reducible refine Below.drew ?_) | (with_reducible refine bt ?_ (below_regrown _ _ _)) | (refine bt ?_ (by with_reducible assumption))))
  · clear h; go_enter Try.func23, Try.ntmps23
    go_wp2
    refine wp_loop_rounds 5 ?_
    repeat any_goals (rw [rounds_succ]; go_wp2_with (first | (go_at_call 14; (with_reducible refine (HP.out _).mono ?_); rintro e w1 ⟨rfl, hb1⟩)))
    all_goals
      go_ret2
      refine ⟨?_, ?_⟩
      · first | rfl | (show Ending.returned _ = _; simp [encB, leB_one]; refine ⟨?_, ?_, ?_, ?_⟩ <;> (congr 2; omega))
      · exact
          (by repeat (first | (with_reducible exact Below.refl _ _) | (with_reducible assumption) | (with_reducible refine Below.alloc ?_ (by first | omega | (simp; done) | (simp; omega)) _) | (with_reducible refine Below.setCell ?_ (by first | omega | (simp; done) | (simp; omega)) _) | (with_reducible refine Below.drew ?_) | (with_reducible refine bt ?_ (below_regrown _ _ _)) | (refine bt ?_ (by with_reducible assumption))))
  have hi := wrap32_out imm (by unfold encBad outB at h; omega)
  clear h
  go_enter Try.func23, Try.ntmps23
  go_wp2
  refine wp_loop_rounds 5 ?_
  repeat any_goals (rw [rounds_succ]; go_wp2_with (first | (go_at_call 14; (with_reducible refine (HP.out _).mono ?_); rintro e w1 ⟨rfl, hb1⟩)))
  all_goals
    go_ret2
    refine ⟨?_, ?_⟩
    · first | rfl | (show Ending.returned _ = _; simp [encB, leB_one]; refine ⟨?_, ?_, ?_, ?_⟩ <;> (congr 2; omega))
    · exact
        (by repeat (first | (with_reducible exact Below.refl _ _) | (with_reducible assumption) | (with_reducible refine Below.alloc ?_ (by first | omega | (simp; done) | (simp; omega)) _) | (with_reducible refine Below.setCell ?_ (by first | omega | (simp; done) | (simp; omega)) _) | (with_reducible refine Below.drew ?_) | (with_reducible refine bt ?_ (below_regrown _ _ _)) | (refine bt ?_ (by with_reducible assumption))))

set_option maxRecDepth 100000 in
set_option maxHeartbeats 2000000 in
theorem encode_yes (op a b c imm : Int) (w : World) (h : ¬ encBad op a b c imm) :
    Calls Try.prog 23 #[insV op a b c imm] w (RB (.tuple #[.string ⟨(encB op a b c imm).toArray⟩, .int .i64 0]) w) := by
  have hcv := run_str_of_one (P := Try.prog) 91 5 9 Try.underlying91 Try.underlying5 Try.underlying9
  have i0 : ∀ w, (Instr.index 95 (.agg #[.int .i64 op, .int .i64 a, .int .i64 b, .int .i64 c]) (.int .i64 0)).run Try.prog w = .ok (.int .i64 op) w := fun _ => by kernel_rfl
  have i1 : ∀ w, (Instr.index 95 (.agg #[.int .i64 op, .int .i64 a, .int .i64 b, .int .i64 c]) (.int .i64 1)).run Try.prog w = .ok (.int .i64 a) w := fun _ => by kernel_rfl
  have i2 : ∀ w, (Instr.index 95 (.agg #[.int .i64 op, .int .i64 a, .int .i64 b, .int .i64 c]) (.int .i64 2)).run Try.prog w = .ok (.int .i64 b) w := fun _ => by kernel_rfl
  have i3 : ∀ w, (Instr.index 95 (.agg #[.int .i64 op, .int .i64 a, .int .i64 b, .int .i64 c]) (.int .i64 3)).run Try.prog w = .ok (.int .i64 c) w := fun _ => by kernel_rfl
  have HP : Hid (∀ w, Calls Try.prog 14 #[.int .i64 imm, .int .i64 4] w (RB (.tuple #[.string ⟨(leB imm 4).toArray⟩, .int .i64 0]) w)) := fun w => rb_below (put_yes imm 4 w (by decide) (by decide))
  unfold insV
  obtain ⟨g1, g1', g2, g2', g3, g3', g4, g4', g5, g5'⟩ : 0 ≤ op ∧ op ≤ 255 ∧ 0 ≤ a ∧ a ≤ 255 ∧ 0 ≤ b ∧ b ≤ 255 ∧ 0 ≤ c ∧ c ≤ 255 ∧ -2147483648 ≤ imm ∧ imm ≤ 2147483647 := by unfold encBad outB at h; omega
  have hi : (imm != wrap64 (wrap32 imm)) = false := by rw [wrap32_in' imm g5 g5']; simp
  clear h
  go_enter Try.func23, Try.ntmps23
  go_wp2
  refine wp_loop_rounds 5 ?_
  repeat any_goals (rw [rounds_succ]; go_wp2_with (first | (go_at_call 14; (with_reducible refine (HP.out _).mono ?_); rintro e w1 ⟨rfl, hb1⟩)))
  all_goals
    go_ret2
    refine ⟨?_, ?_⟩
    · first | rfl | (show Ending.returned _ = _; simp [encB, leB_one]; refine ⟨?_, ?_, ?_, ?_⟩ <;> (congr 2; omega))
    · exact
        (by repeat (first | (with_reducible exact Below.refl _ _) | (with_reducible assumption) | (with_reducible refine Below.alloc ?_ (by first | omega | (simp; done) | (simp; omega)) _) | (with_reducible refine Below.setCell ?_ (by first | omega | (simp; done) | (simp; omega)) _) | (with_reducible refine Below.drew ?_) | (with_reducible refine bt ?_ (below_regrown _ _ _)) | (refine bt ?_ (by with_reducible assumption))))

/-- what eight bytes are as an instruction -/
def decV (b0 b1 b2 b3 b4 b5 b6 b7 : UInt8) : Value := insV b0.toNat b1.toNat b2.toNat b3.toNat (wrap32 (numB [b4, b5, b6, b7]))

theorem decImm (n : Int) (_h0 : 0 ≤ n) (_h : n < 4294967296) : wrap64 (wrap32 (wrap64 n)) = wrap32 n := by unfold wrap64 wrap32; omega
theorem num4_lt (b4 b5 b6 b7 : UInt8) : (numB [b4, b5, b6, b7] : Int) < 4294967296 := by have := numB_lt [b4, b5, b6, b7]; simp at this; omega
attribute [go_sem] wrap64_byte

set_option maxRecDepth 100000 in
set_option maxHeartbeats 1000000 in
theorem decode_yes (b0 b1 b2 b3 b4 b5 b6 b7 : UInt8) (w : World) :
    Calls Try.prog 24 #[.string ⟨[b0, b1, b2, b3, b4, b5, b6, b7].toArray⟩] w (RB (.tuple #[decV b0 b1 b2 b3 b4 b5 b6 b7, .int .i64 0]) w) := by
  have hg := hid (fun w => rb_same (get_yes [b4, b5, b6, b7] w (by simp) (by simp)))
  go_enter Try.func24, Try.ntmps24
  go_wp2_with (first | ((go_at_call 15; (with_reducible refine (hg.out _).mono ?_); rintro e w1 ⟨rfl, hb1⟩); obtain ⟨hc1, hf1⟩ := bcell hb1; have hz1 : w.heap.size < w1.heap.size := by (have := hb1.size; simp at this; omega)))
  refine wp_region_grown_tail 16 (by kernel_rfl) (by kernel_rfl) ?_
  simp only [List.take_succ_cons, List.take_zero, List.drop_succ_cons, List.drop_zero]
  repeat (first | go_big_quiet_step ((fail)) | quiet_step ((fail)))
  refine wpQuiet_nil ?_
  intro wq hw'
  obtain ⟨⟨dq, osq⟩, hw''⟩ := hw'
  have hbq := of_regrown hw''
  obtain ⟨hcq, hfq, hzq⟩ := bcell3 hbq
  clear hw''
  go_wp2
  refine bodyPost_ret (v := .tuple #[decV b0 b1 b2 b3 b4 b5 b6 b7, .int .i64 0]) ?_ rfl ?_
  · simp [results, Try.results24, go_sem, hc1, hz1, hcq, hfq, hzq]
    show Value.agg #[.int .i64 b0.toNat, .int .i64 b1.toNat, .int .i64 b2.toNat, .int .i64 b3.toNat, .int .i64 (wrap64 (wrap32 (wrap64 (numB [b4, b5, b6, b7]))))] = _
    rw [decImm _ (by omega) (num4_lt b4 b5 b6 b7)]; rfl
  · exact ⟨rfl,
      (by repeat (first | (with_reducible exact Below.refl _ _) | (with_reducible assumption) | (with_reducible refine Below.alloc ?_ (by first | omega | (simp; done) | (simp; omega)) _) | (with_reducible refine Below.setCell ?_ (by first | omega | (simp; done) | (simp; omega)) _) | (with_reducible refine Below.drew ?_) | (with_reducible refine bt ?_ (below_regrown _ _ _)) | (refine bt ?_ (by with_reducible assumption))))
      ⟩

set_option maxRecDepth 100000 in
set_option maxHeartbeats 1000000 in
theorem decode_no (l : List UInt8) (w : World) (h : l.length < 8 ∨ 8 < l.length) :
    Calls Try.prog 24 #[.string ⟨l.toArray⟩] w (RB (.tuple #[insV 0 0 0 0 0, .int .i64 3]) w) := by
  have hn : ((l.length : Int) != 8) = true := by rw [bne_iff_ne]; omega
  clear h
  go_enter Try.func24, Try.ntmps24
  go_wp2
  go_returns
  exact ⟨rfl,
    (by repeat (first | (with_reducible exact Below.refl _ _) | (with_reducible assumption) | (with_reducible refine Below.alloc ?_ (by first | omega | (simp; done) | (simp; omega)) _) | (with_reducible refine Below.setCell ?_ (by first | omega | (simp; done) | (simp; omega)) _) | (with_reducible refine Below.drew ?_) | (with_reducible refine bt ?_ (below_regrown _ _ _)) | (refine bt ?_ (by with_reducible assumption))))
    ⟩

theorem within_yes (n lo hi : Int) (w : World) (h : lo ≤ n ∧ n ≤ hi) : Calls Try.prog 57 #[.int .i64 n, .int .i64 lo, .int .i64 hi] w fun e w' => e = .returned (.bool true) ∧ w = w' := by
  obtain ⟨h1, h2⟩ := h
  go_enter Try.func57, Try.ntmps57
  go_wp2
  go_ret
  exact ⟨rfl, rfl⟩
theorem within_no (n lo hi : Int) (w : World) (h : n < lo ∨ hi < n) : Calls Try.prog 57 #[.int .i64 n, .int .i64 lo, .int .i64 hi] w fun e w' => e = .returned (.bool false) ∧ w = w' := by
  rcases h with h | h
  · go_enter Try.func57, Try.ntmps57
    go_wp2
    go_ret
    exact ⟨rfl, rfl⟩
  · by_cases h2 : lo ≤ n
    · go_enter Try.func57, Try.ntmps57
      go_wp2
      go_ret
      exact ⟨ret_bool (by simp; omega), rfl⟩
    · go_enter Try.func57, Try.ntmps57
      go_wp2
      go_ret
      exact ⟨rfl, rfl⟩

set_option maxRecDepth 100000 in
set_option maxHeartbeats 1000000 in
theorem instrError_yes (op a b c imm : Int) (w : World) (h : ¬ encBad op a b c imm) :
    Calls Try.prog 25 #[insV op a b c imm] w (RB (.int .i64 0) w) := by
  unfold insV
  unfold encBad outB at h
  simp only [not_or, Int.not_lt] at h
  go_enter Try.func25, Try.ntmps25
  go_wp2_with (first | (go_at_call 57; refine (within_yes _ _ _ _ ?_).mono ?_; (focus omega); rintro e w' ⟨rfl, rfl⟩) | (go_at_call 57; refine (within_no _ _ _ _ ?_).mono ?_; (focus omega); rintro e w' ⟨rfl, rfl⟩))
  go_ret
  exact ⟨rfl,
    (by repeat (first | (with_reducible exact Below.refl _ _) | (with_reducible assumption) | (with_reducible refine Below.alloc ?_ (by first | omega | (simp; done) | (simp; omega)) _) | (with_reducible refine Below.setCell ?_ (by first | omega | (simp; done) | (simp; omega)) _) | (with_reducible refine Below.drew ?_) | (with_reducible refine bt ?_ (below_regrown _ _ _)) | (refine bt ?_ (by with_reducible assumption))))
    ⟩
set_option maxRecDepth 100000 in
set_option maxHeartbeats 2000000 in
theorem instrError_no (op a b c imm : Int) (w : World) (h : encBad op a b c imm) :
    Calls Try.prog 25 #[insV op a b c imm] w (RB (.int .i64 3) w) := by
  unfold insV
  rcases out_or op with g1 | g1
  · clear h; unfold outB at g1; go_enter Try.func25, Try.ntmps25
    go_wp2_with (first | (go_at_call 57; refine (within_yes _ _ _ _ ?_).mono ?_; (focus omega); rintro e w' ⟨rfl, rfl⟩) | (go_at_call 57; refine (within_no _ _ _ _ ?_).mono ?_; (focus omega); rintro e w' ⟨rfl, rfl⟩))
    go_ret
    exact ⟨rfl,
      (by repeat (first | (with_reducible exact Below.refl _ _) | (with_reducible assumption) | (with_reducible refine Below.alloc ?_ (by first | omega | (simp; done) | (simp; omega)) _) | (with_reducible refine Below.setCell ?_ (by first | omega | (simp; done) | (simp; omega)) _) | (with_reducible refine Below.drew ?_) | (with_reducible refine bt ?_ (below_regrown _ _ _)) | (refine bt ?_ (by with_reducible assumption))))
      ⟩
  rcases out_or a with g2 | g2
  · clear h; unfold outB inByte at *; go_enter Try.func25, Try.ntmps25
    go_wp2_with (first | (go_at_call 57; refine (within_yes _ _ _ _ ?_).mono ?_; (focus omega); rintro e w' ⟨rfl, rfl⟩) | (go_at_call 57; refine (within_no _ _ _ _ ?_).mono ?_; (focus omega); rintro e w' ⟨rfl, rfl⟩))
    go_ret
    exact ⟨rfl,
      (by repeat (first | (with_reducible exact Below.refl _ _) | (with_reducible assumption) | (with_reducible refine Below.alloc ?_ (by first | omega | (simp; done) | (simp; omega)) _) | (with_reducible refine Below.setCell ?_ (by first | omega | (simp; done) | (simp; omega)) _) | (with_reducible refine Below.drew ?_) | (with_reducible refine bt ?_ (below_regrown _ _ _)) | (refine bt ?_ (by with_reducible assumption))))
      ⟩
  rcases out_or b with g3 | g3
  · clear h; unfold outB inByte at *; go_enter Try.func25, Try.ntmps25
    go_wp2_with (first | (go_at_call 57; refine (within_yes _ _ _ _ ?_).mono ?_; (focus omega); rintro e w' ⟨rfl, rfl⟩) | (go_at_call 57; refine (within_no _ _ _ _ ?_).mono ?_; (focus omega); rintro e w' ⟨rfl, rfl⟩))
    go_ret
    exact ⟨rfl,
      (by repeat (first | (with_reducible exact Below.refl _ _) | (with_reducible assumption) | (with_reducible refine Below.alloc ?_ (by first | omega | (simp; done) | (simp; omega)) _) | (with_reducible refine Below.setCell ?_ (by first | omega | (simp; done) | (simp; omega)) _) | (with_reducible refine Below.drew ?_) | (with_reducible refine bt ?_ (below_regrown _ _ _)) | (refine bt ?_ (by with_reducible assumption))))
      ⟩
  rcases out_or c with g4 | g4
  · clear h; unfold outB inByte at *; go_enter Try.func25, Try.ntmps25
    go_wp2_with (first | (go_at_call 57; refine (within_yes _ _ _ _ ?_).mono ?_; (focus omega); rintro e w' ⟨rfl, rfl⟩) | (go_at_call 57; refine (within_no _ _ _ _ ?_).mono ?_; (focus omega); rintro e w' ⟨rfl, rfl⟩))
    go_ret
    exact ⟨rfl,
      (by repeat (first | (with_reducible exact Below.refl _ _) | (with_reducible assumption) | (with_reducible refine Below.alloc ?_ (by first | omega | (simp; done) | (simp; omega)) _) | (with_reducible refine Below.setCell ?_ (by first | omega | (simp; done) | (simp; omega)) _) | (with_reducible refine Below.drew ?_) | (with_reducible refine bt ?_ (below_regrown _ _ _)) | (refine bt ?_ (by with_reducible assumption))))
      ⟩
  have hi : imm < -2147483648 ∨ 2147483647 < imm := by unfold encBad outB at h; unfold inByte at *; omega
  clear h; unfold inByte at *
  go_enter Try.func25, Try.ntmps25
  go_wp2_with (first | (go_at_call 57; refine (within_yes _ _ _ _ ?_).mono ?_; (focus omega); rintro e w' ⟨rfl, rfl⟩) | (go_at_call 57; refine (within_no _ _ _ _ ?_).mono ?_; (focus omega); rintro e w' ⟨rfl, rfl⟩))
  go_ret
  exact ⟨rfl,
    (by repeat (first | (with_reducible exact Below.refl _ _) | (with_reducible assumption) | (with_reducible refine Below.alloc ?_ (by first | omega | (simp; done) | (simp; omega)) _) | (with_reducible refine Below.setCell ?_ (by first | omega | (simp; done) | (simp; omega)) _) | (with_reducible refine Below.drew ?_) | (with_reducible refine bt ?_ (below_regrown _ _ _)) | (refine bt ?_ (by with_reducible assumption))))
    ⟩

set_option maxRecDepth 100000 in
set_option maxHeartbeats 1000000 in
theorem instrBytes (op a b c imm : Int) (w : World) :
    Calls Try.prog 26 #[insV op a b c imm] w (RB (.string ⟨(encB op a b c imm).toArray⟩) w) := by
  unfold insV
  go_enter Try.func26, Try.ntmps26
  go_wp2
  refine wp_region_quiet_below (by kernel_rfl) (by kernel_rfl) ?_
  repeat (first | go_big_quiet_step ((go_at_call 16; exact Calls.regrown_of (bytes_any _ _ _ (by decide)))) | quiet_step ((go_at_call 16; exact Calls.regrown_of (bytes_any _ _ _ (by decide)))))
  refine wpQuiet_nil ?_
  intro wq hw'
  obtain ⟨⟨dq, osq⟩, hw''⟩ := hw'
  have hbq := of_regrown hw''
  obtain ⟨hcq, hfq, hzq⟩ := bcell3 hbq
  clear hw''
  go_wp2
  go_ret
  exact ⟨rfl,
    (by repeat (first | (with_reducible exact Below.refl _ _) | (with_reducible assumption) | (with_reducible refine Below.alloc ?_ (by first | omega | (simp; done) | (simp; omega)) _) | (with_reducible refine Below.setCell ?_ (by first | omega | (simp; done) | (simp; omega)) _) | (with_reducible refine Below.drew ?_) | (with_reducible refine bt ?_ (below_regrown _ _ _)) | (refine bt ?_ (by with_reducible assumption))))
    ⟩

theorem wrap32_hi (n : Int) (h1 : 2147483648 ≤ n) (h2 : n < 4294967296) : n - 4294967296 = wrap32 n := by unfold wrap32; omega
theorem wrap32_lo (n : Int) (h0 : 0 ≤ n) (h1 : n < 2147483648) : n = wrap32 n := by unfold wrap32; omega
set_option maxRecDepth 100000 in
set_option maxHeartbeats 1000000 in
theorem instrFrom (b0 b1 b2 b3 b4 b5 b6 b7 : UInt8) (w : World) :
    Calls Try.prog 27 #[.string ⟨[b0, b1, b2, b3, b4, b5, b6, b7].toArray⟩] w (RB (decV b0 b1 b2 b3 b4 b5 b6 b7) w) := by
  obtain ⟨n, hn⟩ : ∃ n, n = (numB [b4, b5, b6, b7] : Int) := ⟨_, rfl⟩
  have hlt := num4_lt b4 b5 b6 b7
  have h0 : 0 ≤ (numB [b4, b5, b6, b7] : Int) := by omega
  have hg : Hid (∀ w, Calls Try.prog 17 #[.string ⟨[b4, b5, b6, b7].toArray⟩] w (RB (.int .i64 n) w)) := by
    intro w
    have := rb_same (number_any [b4, b5, b6, b7] w (by simp))
    rwa [wrap64_in' _ (by omega) (by omega), ← hn] at this
  unfold decV
  rw [← hn] at h0 hlt ⊢
  clear hn
  by_cases hs : 2147483648 ≤ n
  · go_enter Try.func27, Try.ntmps27
    go_wp2_with (first | ((go_at_call 17; (with_reducible refine (hg.out _).mono ?_); rintro e w1 ⟨rfl, hb1⟩); obtain ⟨hc1, hf1⟩ := bcell hb1; have hz1 : w.heap.size < w1.heap.size := by (have := hb1.size; simp at this; omega)))
    refine wp_region_grown_tail 14 (by kernel_rfl) (by kernel_rfl) ?_
    simp only [List.take_succ_cons, List.take_zero, List.drop_succ_cons, List.drop_zero]
    repeat (first | go_big_quiet_step ((fail)) | quiet_step ((fail)))
    refine wpQuiet_nil ?_
    intro wq hw'
    obtain ⟨⟨dq, osq⟩, hw''⟩ := hw'
    have hbq := of_regrown hw''
    obtain ⟨hcq, hfq, hzq⟩ := bcell3 hbq
    clear hw''
    go_wp2
    refine bodyPost_ret (v := insV b0.toNat b1.toNat b2.toNat b3.toNat (wrap32 n)) ?_ rfl ?_
    · simp [results, Try.results27, go_sem, hc1, hz1, hcq, hfq, hzq]
      show Value.agg #[.int .i64 b0.toNat, .int .i64 b1.toNat, .int .i64 b2.toNat, .int .i64 b3.toNat, .int .i64 _] = _
      rw [wrap32_hi n hs hlt]; rfl
    · exact ⟨rfl,
        (by repeat (first | (with_reducible exact Below.refl _ _) | (with_reducible assumption) | (with_reducible refine Below.alloc ?_ (by first | omega | (simp; done) | (simp; omega)) _) | (with_reducible refine Below.setCell ?_ (by first | omega | (simp; done) | (simp; omega)) _) | (with_reducible refine Below.drew ?_) | (with_reducible refine bt ?_ (below_regrown _ _ _)) | (refine bt ?_ (by with_reducible assumption))))
        ⟩
  · go_enter Try.func27, Try.ntmps27
    go_wp2_with (first | ((go_at_call 17; (with_reducible refine (hg.out _).mono ?_); rintro e w1 ⟨rfl, hb1⟩); obtain ⟨hc1, hf1⟩ := bcell hb1; have hz1 : w.heap.size < w1.heap.size := by (have := hb1.size; simp at this; omega)))
    refine wp_region_grown_tail 14 (by kernel_rfl) (by kernel_rfl) ?_
    simp only [List.take_succ_cons, List.take_zero, List.drop_succ_cons, List.drop_zero]
    repeat (first | go_big_quiet_step ((fail)) | quiet_step ((fail)))
    refine wpQuiet_nil ?_
    intro wq hw'
    obtain ⟨⟨dq, osq⟩, hw''⟩ := hw'
    have hbq := of_regrown hw''
    obtain ⟨hcq, hfq, hzq⟩ := bcell3 hbq
    clear hw''
    go_wp2
    refine bodyPost_ret (v := insV b0.toNat b1.toNat b2.toNat b3.toNat (wrap32 n)) ?_ rfl ?_
    · simp [results, Try.results27, go_sem, hc1, hz1, hcq, hfq, hzq]
      show Value.agg #[.int .i64 b0.toNat, .int .i64 b1.toNat, .int .i64 b2.toNat, .int .i64 b3.toNat, .int .i64 _] = _
      rw [← wrap32_lo n h0 (by omega)]; rfl
    · exact ⟨rfl,
        (by repeat (first | (with_reducible exact Below.refl _ _) | (with_reducible assumption) | (with_reducible refine Below.alloc ?_ (by first | omega | (simp; done) | (simp; omega)) _) | (with_reducible refine Below.setCell ?_ (by first | omega | (simp; done) | (simp; omega)) _) | (with_reducible refine Below.drew ?_) | (with_reducible refine bt ?_ (below_regrown _ _ _)) | (refine bt ?_ (by with_reducible assumption))))
        ⟩
end Go.Proofs.Ytejnpppejalhfaa
