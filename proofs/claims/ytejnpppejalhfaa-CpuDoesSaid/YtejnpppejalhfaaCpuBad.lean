/- The contract of cpu.bad. -/
import Derived.Test.YtejnpppejalhfaaCpu
import Derived.Test.YtejnpppejalhfaaCpu2
import Derived.Deep.RegionWith
import Derived.Deep.DeepCutAuto
namespace Go.Proofs.Ytejnpppejalhfaa
open Go.RowKit Go.Sort Go.MapKept
def useA (op : Int) : Prop := 1 ≤ op ∧ op ≤ 16 ∧ op ≠ 12 ∧ op ≠ 16
def useB (op : Int) : Prop := (2 ≤ op ∧ op ≤ 10) ∨ op = 13 ∨ op = 14
def useC (op : Int) : Prop := 2 ≤ op ∧ op ≤ 7
def badI (op a b c imm : Int) : Prop := op < 1 ∨ 16 < op ∨ (useA op ∧ 8 ≤ a) ∨ (useB op ∧ 8 ≤ b) ∨ (useC op ∧ 8 ≤ c) ∨
  ((op = 9 ∨ op = 10) ∧ c ≠ 1 ∧ c ≠ 2 ∧ c ≠ 4 ∧ c ≠ 8) ∨ (op = 16 ∧ (imm < 1 ∨ 6 < imm))
/-- what the table answers at a key -/
def Look (op : Int) (sa sb sc ok : Bool) : Prop := ∀ (w : World) (r : Nat), MapAt (.int .i64) w r shapeL →
  (Instr.lookup 150 (.map (some r)) (.int .i64 op) true).run Try.prog w = .ok (.tuple #[.agg #[.bool sa, .bool sb, .bool sc], .bool ok]) w

theorem look_hit (op : Int) (sa sb sc : Bool) (h : (Value.int .i64 op, sh sa sb sc) ∈ shapeL) : Look op sa sb sc true := fun _ _ hM =>
  run_lookup_hit (P := Try.prog) Try.underlying150 Try.underlying3 hM (by simp [IsKey]) h true
theorem look_miss (op : Int) (h : op < 1 ∨ 16 < op) : Look op false false false false := fun _ _ hM =>
  run_lookup_miss (P := Try.prog) Try.underlying150 Try.underlying3 hM (by simp [IsKey]) (by intro v; simp [shapeL]; omega) (by kernel_rfl) true

/-- the shape that fits an operation -/
theorem look_any (op : Int) : (Look op false false false false ∧ (op < 1 ∨ 16 < op)) ∨ (Look op true false false true ∧ (op = 1 ∨ op = 11 ∨ op = 15)) ∨ (Look op false false false true ∧ (op = 12 ∨ op = 16)) ∨
    (Look op true true true true ∧ 2 ≤ op ∧ op ≤ 7) ∨ (Look op true true false true ∧ (op = 8 ∨ op = 9 ∨ op = 10 ∨ op = 13 ∨ op = 14)) := by
  rcases show (op < 1 ∨ 16 < op) ∨ (op = 1 ∨ op = 11 ∨ op = 15) ∨ (op = 12 ∨ op = 16) ∨ (op = 2 ∨ op = 3 ∨ op = 4 ∨ op = 5 ∨ op = 6 ∨ op = 7) ∨ (op = 8 ∨ op = 9 ∨ op = 10 ∨ op = 13 ∨ op = 14) from by omega with h | h | h | h | h
  · exact .inl ⟨look_miss op h, h⟩
  · exact .inr (.inl ⟨look_hit op _ _ _ (by rcases h with rfl | rfl | rfl <;> simp [shapeL]), h⟩)
  · exact .inr (.inr (.inl ⟨look_hit op _ _ _ (by rcases h with rfl | rfl <;> simp [shapeL]), h⟩))
  · exact .inr (.inr (.inr (.inl ⟨look_hit op _ _ _ (by rcases h with rfl | rfl | rfl | rfl | rfl | rfl <;> simp [shapeL]), by omega, by omega⟩)))
  · exact .inr (.inr (.inr (.inr ⟨look_hit op _ _ _ (by rcases h with rfl | rfl | rfl | rfl | rfl <;> simp [shapeL]), h⟩)))

def BadCut (sa sb sc ok : Bool) (op a b c imm : Int) (w : World) (v3 v4 : Value) (wx : World) : Prop :=
  ∃ g, v3 = .pointer (some ⟨g, 0, none⟩) ∧ v4 = .bool ok ∧ Below w.heap.size w wx ∧ wx.cell? ⟨g, 0, none⟩ = some (.bool sa) ∧ wx.cell? ⟨g, 1, none⟩ = some (.bool sb) ∧ wx.cell? ⟨g, 2, none⟩ = some (.bool sc) ∧
    wx.cell? ⟨w.heap.size, 0, none⟩ = some (.int .i64 op) ∧ wx.cell? ⟨w.heap.size, 1, none⟩ = some (.int .i64 a) ∧ wx.cell? ⟨w.heap.size, 2, none⟩ = some (.int .i64 b) ∧ wx.cell? ⟨w.heap.size, 3, none⟩ = some (.int .i64 c) ∧ wx.cell? ⟨w.heap.size, 4, none⟩ = some (.int .i64 imm)

set_option maxRecDepth 100000 in
set_option maxHeartbeats 4000000 in
theorem bad_any (op a b c imm : Int) (w : World) (res : Bool) (h : res = true ↔ badI op a b c imm) :
    Calls Try.prog 58 #[insV op a b c imm] w (RB (.bool res) w) := by
  unfold insV
  unfold badI useA useB useC at h
  rcases look_any op with ⟨hl, hop⟩ | ⟨hl, hop⟩ | ⟨hl, hop⟩ | ⟨hl, hop1, hop2⟩ | ⟨hl, hop⟩
  · have hl := hid hl
    have H := hid h; clear h
    have HO := hid hop; clear hop
    go_enter Try.func58, Try.ntmps58
    go_upto_region 1 with fail
    go_cut [3, 4] (fun v3 v4 wx => BadCut false false false false op a b c imm w v3 v4 wx)
    case first =>
      go_region_with ((go_at_call 104; refine (shapes_any _).mono ?_; rintro e w1 ⟨r, rfl, hb1, hr1, hM⟩; have HL := hl.out _ _ hM; have HL2 := fun o => hl.out _ _ (hM.grown ((Below.refl _ w1).alloc (Nat.le_refl _) o)); clear hM; obtain ⟨hc1, hf1⟩ := bcell hb1; have hz1 : w.heap.size < w1.heap.size := by (have := hb1.size; simp at this; omega)))
      all_goals
        go_wp2_with fail
        go_meet
        exact ⟨_, rfl, rfl, (by repeat (first | (with_reducible exact Below.refl _ _) | (with_reducible assumption) | (with_reducible refine Below.alloc ?_ (by first | omega | (simp; done) | (simp; omega)) _) | (with_reducible refine Below.setCell ?_ (by first | omega | (simp; done) | (simp; omega)) _) | (with_reducible refine Below.drew ?_) | (with_reducible refine bt ?_ (below_regrown _ _ _)) | (refine bt ?_ (by with_reducible assumption)))), by simp [go_sem, hc1, hz1], by simp [go_sem, hc1, hz1], by simp [go_sem, hc1, hz1], by simp [go_sem, hc1, hz1], by simp [go_sem, hc1, hz1], by simp [go_sem, hc1, hz1], by simp [go_sem, hc1, hz1], by simp [go_sem, hc1, hz1]⟩
    case rest =>
      obtain ⟨g, rfl, rfl, hb, f0, f1, f2, q0, q1, q2, q3, q4⟩ := hcut
      go_wp2
      all_goals
        have h := H.out
        have hop := HO.out
        go_ret
        refine ⟨ret_bool ?_, hb⟩
        rw [Bool.eq_iff_iff, h]
        clear h H hl HO hb f0 f1 f2 q0 q1 q2 q3 q4
        simp only [beq_iff_eq, beq_eq_false_iff_ne, bne_iff_ne, bne_eq_false_iff_eq, ne_eq, decide_eq_true_eq, decide_eq_false_iff_not] at *
        first
          | omega
          | (simp; omega)
  · have hl := hid hl
    have H := hid h; clear h
    have HO := hid hop; clear hop
    go_enter Try.func58, Try.ntmps58
    go_upto_region 1 with fail
    go_cut [3, 4] (fun v3 v4 wx => BadCut true false false true op a b c imm w v3 v4 wx)
    case first =>
      go_region_with ((go_at_call 104; refine (shapes_any _).mono ?_; rintro e w1 ⟨r, rfl, hb1, hr1, hM⟩; have HL := hl.out _ _ hM; have HL2 := fun o => hl.out _ _ (hM.grown ((Below.refl _ w1).alloc (Nat.le_refl _) o)); clear hM; obtain ⟨hc1, hf1⟩ := bcell hb1; have hz1 : w.heap.size < w1.heap.size := by (have := hb1.size; simp at this; omega)))
      all_goals
        go_wp2_with fail
        go_meet
        exact ⟨_, rfl, rfl, (by repeat (first | (with_reducible exact Below.refl _ _) | (with_reducible assumption) | (with_reducible refine Below.alloc ?_ (by first | omega | (simp; done) | (simp; omega)) _) | (with_reducible refine Below.setCell ?_ (by first | omega | (simp; done) | (simp; omega)) _) | (with_reducible refine Below.drew ?_) | (with_reducible refine bt ?_ (below_regrown _ _ _)) | (refine bt ?_ (by with_reducible assumption)))), by simp [go_sem, hc1, hz1], by simp [go_sem, hc1, hz1], by simp [go_sem, hc1, hz1], by simp [go_sem, hc1, hz1], by simp [go_sem, hc1, hz1], by simp [go_sem, hc1, hz1], by simp [go_sem, hc1, hz1], by simp [go_sem, hc1, hz1]⟩
    case rest =>
      obtain ⟨g, rfl, rfl, hb, f0, f1, f2, q0, q1, q2, q3, q4⟩ := hcut
      go_wp2
      all_goals
        have h := H.out
        have hop := HO.out
        go_ret
        refine ⟨ret_bool ?_, hb⟩
        rw [Bool.eq_iff_iff, h]
        clear h H hl HO hb f0 f1 f2 q0 q1 q2 q3 q4
        simp only [beq_iff_eq, beq_eq_false_iff_ne, bne_iff_ne, bne_eq_false_iff_eq, ne_eq, decide_eq_true_eq, decide_eq_false_iff_not] at *
        first
          | omega
          | (simp; omega)
  · have hl := hid hl
    have H := hid h; clear h
    have HO := hid hop; clear hop
    go_enter Try.func58, Try.ntmps58
    go_upto_region 1 with fail
    go_cut [3, 4] (fun v3 v4 wx => BadCut false false false true op a b c imm w v3 v4 wx)
    case first =>
      go_region_with ((go_at_call 104; refine (shapes_any _).mono ?_; rintro e w1 ⟨r, rfl, hb1, hr1, hM⟩; have HL := hl.out _ _ hM; have HL2 := fun o => hl.out _ _ (hM.grown ((Below.refl _ w1).alloc (Nat.le_refl _) o)); clear hM; obtain ⟨hc1, hf1⟩ := bcell hb1; have hz1 : w.heap.size < w1.heap.size := by (have := hb1.size; simp at this; omega)))
      all_goals
        go_wp2_with fail
        go_meet
        exact ⟨_, rfl, rfl, (by repeat (first | (with_reducible exact Below.refl _ _) | (with_reducible assumption) | (with_reducible refine Below.alloc ?_ (by first | omega | (simp; done) | (simp; omega)) _) | (with_reducible refine Below.setCell ?_ (by first | omega | (simp; done) | (simp; omega)) _) | (with_reducible refine Below.drew ?_) | (with_reducible refine bt ?_ (below_regrown _ _ _)) | (refine bt ?_ (by with_reducible assumption)))), by simp [go_sem, hc1, hz1], by simp [go_sem, hc1, hz1], by simp [go_sem, hc1, hz1], by simp [go_sem, hc1, hz1], by simp [go_sem, hc1, hz1], by simp [go_sem, hc1, hz1], by simp [go_sem, hc1, hz1], by simp [go_sem, hc1, hz1]⟩
    case rest =>
      obtain ⟨g, rfl, rfl, hb, f0, f1, f2, q0, q1, q2, q3, q4⟩ := hcut
      go_wp2
      all_goals
        have h := H.out
        have hop := HO.out
        go_ret
        refine ⟨ret_bool ?_, hb⟩
        rw [Bool.eq_iff_iff, h]
        clear h H hl HO hb f0 f1 f2 q0 q1 q2 q3 q4
        simp only [beq_iff_eq, beq_eq_false_iff_ne, bne_iff_ne, bne_eq_false_iff_eq, ne_eq, decide_eq_true_eq, decide_eq_false_iff_not] at *
        first
          | omega
          | (simp; omega)
  · have hl := hid hl
    have H := hid h; clear h
    have HO := hid (And.intro hop1 hop2); clear hop1 hop2
    go_enter Try.func58, Try.ntmps58
    go_upto_region 1 with fail
    go_cut [3, 4] (fun v3 v4 wx => BadCut true true true true op a b c imm w v3 v4 wx)
    case first =>
      go_region_with ((go_at_call 104; refine (shapes_any _).mono ?_; rintro e w1 ⟨r, rfl, hb1, hr1, hM⟩; have HL := hl.out _ _ hM; have HL2 := fun o => hl.out _ _ (hM.grown ((Below.refl _ w1).alloc (Nat.le_refl _) o)); clear hM; obtain ⟨hc1, hf1⟩ := bcell hb1; have hz1 : w.heap.size < w1.heap.size := by (have := hb1.size; simp at this; omega)))
      all_goals
        go_wp2_with fail
        go_meet
        exact ⟨_, rfl, rfl, (by repeat (first | (with_reducible exact Below.refl _ _) | (with_reducible assumption) | (with_reducible refine Below.alloc ?_ (by first | omega | (simp; done) | (simp; omega)) _) | (with_reducible refine Below.setCell ?_ (by first | omega | (simp; done) | (simp; omega)) _) | (with_reducible refine Below.drew ?_) | (with_reducible refine bt ?_ (below_regrown _ _ _)) | (refine bt ?_ (by with_reducible assumption)))), by simp [go_sem, hc1, hz1], by simp [go_sem, hc1, hz1], by simp [go_sem, hc1, hz1], by simp [go_sem, hc1, hz1], by simp [go_sem, hc1, hz1], by simp [go_sem, hc1, hz1], by simp [go_sem, hc1, hz1], by simp [go_sem, hc1, hz1]⟩
    case rest =>
      obtain ⟨g, rfl, rfl, hb, f0, f1, f2, q0, q1, q2, q3, q4⟩ := hcut
      go_wp2
      all_goals
        have h := H.out
        have hop := HO.out
        go_ret
        refine ⟨ret_bool ?_, hb⟩
        rw [Bool.eq_iff_iff, h]
        clear h H hl HO hb f0 f1 f2 q0 q1 q2 q3 q4
        simp only [beq_iff_eq, beq_eq_false_iff_ne, bne_iff_ne, bne_eq_false_iff_eq, ne_eq, decide_eq_true_eq, decide_eq_false_iff_not] at *
        first
          | omega
          | (simp; omega)
  · have hl := hid hl
    have H := hid h; clear h
    have HO := hid hop; clear hop
    go_enter Try.func58, Try.ntmps58
    go_upto_region 1 with fail
    go_cut [3, 4] (fun v3 v4 wx => BadCut true true false true op a b c imm w v3 v4 wx)
    case first =>
      go_region_with ((go_at_call 104; refine (shapes_any _).mono ?_; rintro e w1 ⟨r, rfl, hb1, hr1, hM⟩; have HL := hl.out _ _ hM; have HL2 := fun o => hl.out _ _ (hM.grown ((Below.refl _ w1).alloc (Nat.le_refl _) o)); clear hM; obtain ⟨hc1, hf1⟩ := bcell hb1; have hz1 : w.heap.size < w1.heap.size := by (have := hb1.size; simp at this; omega)))
      all_goals
        go_wp2_with fail
        go_meet
        exact ⟨_, rfl, rfl, (by repeat (first | (with_reducible exact Below.refl _ _) | (with_reducible assumption) | (with_reducible refine Below.alloc ?_ (by first | omega | (simp; done) | (simp; omega)) _) | (with_reducible refine Below.setCell ?_ (by first | omega | (simp; done) | (simp; omega)) _) | (with_reducible refine Below.drew ?_) | (with_reducible refine bt ?_ (below_regrown _ _ _)) | (refine bt ?_ (by with_reducible assumption)))), by simp [go_sem, hc1, hz1], by simp [go_sem, hc1, hz1], by simp [go_sem, hc1, hz1], by simp [go_sem, hc1, hz1], by simp [go_sem, hc1, hz1], by simp [go_sem, hc1, hz1], by simp [go_sem, hc1, hz1], by simp [go_sem, hc1, hz1]⟩
    case rest =>
      obtain ⟨g, rfl, rfl, hb, f0, f1, f2, q0, q1, q2, q3, q4⟩ := hcut
      go_wp2
      all_goals
        have h := H.out
        have hop := HO.out
        go_ret
        refine ⟨ret_bool ?_, hb⟩
        rw [Bool.eq_iff_iff, h]
        clear h H hl HO hb f0 f1 f2 q0 q1 q2 q3 q4
        simp only [beq_iff_eq, beq_eq_false_iff_ne, bne_iff_ne, bne_eq_false_iff_eq, ne_eq, decide_eq_true_eq, decide_eq_false_iff_not] at *
        first
          | omega
          | (simp; omega)
end Go.Proofs.Ytejnpppejalhfaa
