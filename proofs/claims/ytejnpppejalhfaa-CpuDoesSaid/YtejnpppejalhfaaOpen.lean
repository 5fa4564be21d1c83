/- Arguments that are structs of integers alone, opened: an instruction, a process. -/
import Derived.Test.YtejnpppejalhfaaCpu3
import Derived.OpenShut
import Derived.WideShapes
import Derived.ProofKit
namespace Go.Proofs.Ytejnpppejalhfaa
open Go.ChangeShapes Go.WideShapes Go.ChangeAt Go.RowKit

section
variable {H : Type} {enc : TypeId × Value → H} {W : World} {base b0 : Nat} {sp : Nat → Bool} {held : Bool}

/-- a cell that is read as an integer is one -/
theorem cell_int {n : Nat} {t : TypeId} {c : Value} {o : Option (DataW H × List MemPlace)} (ht : (Try.prog).underlying t = some (.int .i64)) (h : DataW.trod enc Try.prog W base sp held n t [c] = o) (ho : o.isSome = true) : ∃ k : Int, c = .int .i64 k ∧ (Lit.int .i64 k).wf = true := by
  obtain ⟨x, hx⟩ := Option.isSome_iff_exists.1 ho
  obtain ⟨k, hk, _, hw⟩ := DataW.trod_int ht (h.trans hx)
  simp only [List.cons.injEq, and_true] at hk
  exact ⟨k, hk, hw⟩
theorem get_some {α : Type} {l : List α} {i : Nat} (h : i < l.length) : (l[i]?).isSome = true := by simp [h]

theorem c_int : (Try.prog).cellsOf 3 = 1 := by kernel_rfl
theorem c_instr : (Try.prog).cellsOf 38 = 5 := by kernel_rfl
theorem c_proc : (Try.prog).cellsOf 50 = 13 := by kernel_rfl
theorem c_regs : (Try.prog).cellsOf 46 = 8 := by kernel_rfl
theorem c_fault : (Try.prog).cellsOf 48 = 2 := by kernel_rfl

set_option maxRecDepth 100000 in
theorem open_instr {v : Value} {d : DataW H} {ps : List MemPlace} (hval : Value.okWide Try.prog W .any b0 38 v) (h : DataW.Trod enc Try.prog W base sp held 38 v d ps) :
    ∃ op a b c imm : Int, v = insV op a b c imm ∧ (Lit.int .i64 op).wf = true ∧ (Lit.int .i64 a).wf = true ∧ (Lit.int .i64 b).wf = true ∧ (Lit.int .i64 c).wf = true ∧ (Lit.int .i64 imm).wf = true := by
  obtain ⟨⟨cs⟩, rfl, hsz⟩ := okWide_struct Try.underlying38 hval
  rw [c_instr] at hsz
  match cs, hsz with
  | [c0, c1, c2, c3, c4], _ =>
    obtain ⟨fuel, hf⟩ := h
    obtain ⟨xs, n, _, _, _, hl, hf⟩ := DataW.trod_struct Try.underlying38 hf
    have f0 := hf 0 _ rfl
    have f1 := hf 1 _ rfl
    have f2 := hf 2 _ rfl
    have f3 := hf 3 _ rfl
    have f4 := hf 4 _ rfl
    simp only [c_int, Value.cells, List.drop_succ_cons, List.drop_zero, List.take_succ_cons, List.take_zero] at f0 f1 f2 f3 f4
    have hl : xs.length = 5 := hl
    obtain ⟨k0, rfl, w0⟩ := cell_int Try.underlying3 f0 (get_some (by omega))
    obtain ⟨k1, rfl, w1⟩ := cell_int Try.underlying3 f1 (get_some (by omega))
    obtain ⟨k2, rfl, w2⟩ := cell_int Try.underlying3 f2 (get_some (by omega))
    obtain ⟨k3, rfl, w3⟩ := cell_int Try.underlying3 f3 (get_some (by omega))
    obtain ⟨k4, rfl, w4⟩ := cell_int Try.underlying3 f4 (get_some (by omega))
    exact ⟨k0, k1, k2, k3, k4, rfl, w0, w1, w2, w3, w4⟩

set_option maxRecDepth 100000 in
theorem open_proc {v : Value} {d : DataW H} {ps : List MemPlace} (hval : Value.okWide Try.prog W .any b0 50 v) (h : DataW.Trod enc Try.prog W base sp held 50 v d ps) :
    ∃ p : Pr, v = p.v ∧ p.r.length = 8 := by
  obtain ⟨⟨cs⟩, rfl, hsz⟩ := okWide_struct Try.underlying50 hval
  rw [c_proc] at hsz
  match cs, hsz with
  | [c0, c1, c2, c3, c4, c5, c6, c7, c8, c9, c10, c11, c12], _ =>
    obtain ⟨fuel, hf⟩ := h
    obtain ⟨xs, n, _, _, _, hl, hf⟩ := DataW.trod_struct Try.underlying50 hf
    have f0 := hf 0 _ rfl
    have f1 := hf 1 _ rfl
    have f2 := hf 2 _ rfl
    have f3 := hf 3 _ rfl
    have f4 := hf 4 _ rfl
    simp only [c_int, c_regs, c_fault, Value.cells, List.drop_succ_cons, List.drop_zero, List.take_succ_cons, List.take_zero] at f0 f1 f2 f3 f4
    have hl : xs.length = 5 := hl
    obtain ⟨k8, rfl, _⟩ := cell_int Try.underlying3 f1 (get_some (by omega))
    obtain ⟨k9, rfl, _⟩ := cell_int Try.underlying3 f2 (get_some (by omega))
    obtain ⟨k10, rfl, _⟩ := cell_int Try.underlying3 f3 (get_some (by omega))
    obtain ⟨y0, hy0⟩ := Option.isSome_iff_exists.1 (get_some (l := xs) (i := 0) (by omega))
    obtain ⟨y4, hy4⟩ := Option.isSome_iff_exists.1 (get_some (l := xs) (i := 4) (by omega))
    obtain ⟨zs, m, _, _, _, hm, hg⟩ := DataW.trod_array Try.underlying46 (f0.trans hy0)
    obtain ⟨us, q, _, _, _, hu, hh⟩ := DataW.trod_struct Try.underlying48 (f4.trans hy4)
    have g0 := hg 0 (by omega)
    have g1 := hg 1 (by omega)
    have g2 := hg 2 (by omega)
    have g3 := hg 3 (by omega)
    have g4 := hg 4 (by omega)
    have g5 := hg 5 (by omega)
    have g6 := hg 6 (by omega)
    have g7 := hg 7 (by omega)
    have h0 := hh 0 _ rfl
    have h1 := hh 1 _ rfl
    simp only [c_int, Nat.zero_mul, Nat.mul_one, List.drop_succ_cons, List.drop_zero, List.take_succ_cons, List.take_zero] at g0 g1 g2 g3 g4 g5 g6 g7 h0 h1
    have hu : us.length = 2 := hu
    obtain ⟨r0, rfl, _⟩ := cell_int Try.underlying3 g0 (get_some (by omega))
    obtain ⟨r1, rfl, _⟩ := cell_int Try.underlying3 g1 (get_some (by omega))
    obtain ⟨r2, rfl, _⟩ := cell_int Try.underlying3 g2 (get_some (by omega))
    obtain ⟨r3, rfl, _⟩ := cell_int Try.underlying3 g3 (get_some (by omega))
    obtain ⟨r4, rfl, _⟩ := cell_int Try.underlying3 g4 (get_some (by omega))
    obtain ⟨r5, rfl, _⟩ := cell_int Try.underlying3 g5 (get_some (by omega))
    obtain ⟨r6, rfl, _⟩ := cell_int Try.underlying3 g6 (get_some (by omega))
    obtain ⟨r7, rfl, _⟩ := cell_int Try.underlying3 g7 (get_some (by omega))
    obtain ⟨k11, rfl, _⟩ := cell_int Try.underlying3 h0 (get_some (by omega))
    obtain ⟨k12, rfl, _⟩ := cell_int Try.underlying3 h1 (get_some (by omega))
    exact ⟨⟨[r0, r1, r2, r3, r4, r5, r6, r7], k8, k9, k10, k11, k12⟩, rfl, rfl⟩
end
end Go.Proofs.Ytejnpppejalhfaa
