/- A slice of areas that came in. -/
import Derived.Test.YtejnpppejalhfaaOp1
import Derived.Test.YtejnpppejalhfaaAs5
namespace Go.Proofs.Ytejnpppejalhfaa
open Go.ChangeShapes Go.WideShapes Go.ChangeAt Go.RowKit

section
variable {H : Type} {enc : TypeId × Value → H} {W : World} {base b0 : Nat} {sp : Nat → Bool} {held : Bool}
theorem cI {n : Nat} {t : TypeId} {c : Value} {o : Option (DataW H × List MemPlace)} (ht : (Try.prog).underlying t = some (.int .i64)) (h : DataW.trod enc Try.prog W base sp held n t [c] = o) (ho : o.isSome = true) : ∃ k : Int, c = .int .i64 k ∧ (Lit.int .i64 k).wf = true := by
  obtain ⟨x, hx⟩ := Option.isSome_iff_exists.1 ho
  obtain ⟨k, hk, _, hw⟩ := DataW.trod_int ht (h.trans hx)
  simp only [List.cons.injEq, and_true] at hk
  exact ⟨k, hk, hw⟩
theorem cB {n : Nat} {t : TypeId} {c : Value} {o : Option (DataW H × List MemPlace)} (ht : (Try.prog).underlying t = some .bool) (h : DataW.trod enc Try.prog W base sp held n t [c] = o) (ho : o.isSome = true) : ∃ b : Bool, c = .bool b := by
  obtain ⟨x, hx⟩ := Option.isSome_iff_exists.1 ho
  obtain ⟨b, hb, _⟩ := DataW.trod_bool ht (h.trans hx)
  simp only [List.cons.injEq, and_true] at hb
  exact ⟨b, hb⟩
theorem cS {n : Nat} {t : TypeId} {c : Value} {o : Option (DataW H × List MemPlace)} (ht : (Try.prog).underlying t = some .string) (h : DataW.trod enc Try.prog W base sp held n t [c] = o) (ho : o.isSome = true) : ∃ l : List UInt8, c = .string ⟨l.toArray⟩ ∧ l.length ≤ maxLen := by
  obtain ⟨x, hx⟩ := Option.isSome_iff_exists.1 ho
  obtain ⟨s, hs, _, hl⟩ := DataW.trod_string ht (h.trans hx)
  simp only [List.cons.injEq, and_true] at hs
  obtain ⟨⟨l⟩⟩ := s
  exact ⟨l, hs, by simpa [ByteArray.size] using hl⟩
theorem gS {α : Type} {l : List α} {i : Nat} (h : i < l.length) : (l[i]?).isSome = true := by simp [h]
theorem cc_int : (Try.prog).cellsOf 3 = 1 := by kernel_rfl
theorem cc_bool : (Try.prog).cellsOf 4 = 1 := by kernel_rfl
theorem cc_string : (Try.prog).cellsOf 9 = 1 := by kernel_rfl
theorem cc_area : (Try.prog).cellsOf 63 = 4 := by kernel_rfl
instance : Inhabited Ar := ⟨⟨0, 0, 0, false⟩⟩
set_option maxRecDepth 100000 in
theorem open_area {n : Nat} {cs : List Value} {z : DataW H × List MemPlace} (hl : cs.length = 4) (h : DataW.trod enc Try.prog W base sp held n 63 cs = some z) : ∃ a : Ar, cs = arC a := by
  match cs, hl with
  | [c0, c1, c2, c3], _ =>
    obtain ⟨xs, n, _, _, _, hl, hf⟩ := DataW.trod_struct Try.underlying63 h
    have f0 := hf 0 _ rfl
    have f1 := hf 1 _ rfl
    have f2 := hf 2 _ rfl
    have f3 := hf 3 _ rfl
    simp only [List.getElem_toArray, List.getElem_cons_zero, List.getElem_cons_succ, cc_int, cc_bool, List.drop_succ_cons, List.drop_zero, List.take_succ_cons, List.take_zero] at f0 f1 f2 f3
    have hl : xs.length = 4 := hl
    obtain ⟨k0, rfl, _⟩ := cI Try.underlying3 f0 (gS (by omega))
    obtain ⟨k1, rfl, _⟩ := cI Try.underlying3 f1 (gS (by omega))
    obtain ⟨k2, rfl, _⟩ := cI Try.underlying3 f2 (gS (by omega))
    obtain ⟨k3, rfl⟩ := cB Try.underlying4 f3 (gS (by omega))
    exact ⟨⟨k0, k1, k2, k3⟩, rfl⟩
set_option maxRecDepth 100000 in
theorem open_areas {v : Value} {d : DataW H} {ps : List MemPlace} (hval : Value.okWide Try.prog W .any b0 61 v) (h : DataW.Trod enc Try.prog W base sp held 61 v d ps) : ∃ L : List Ar, Sl nF W 4 v (L.map arC) := by
  obtain ⟨a, len, cap, rfl⟩ := okWide_slice Try.underlying61 hval
  obtain ⟨fuel, hf⟩ := h
  obtain ⟨v, xs, rows, hv, hsl, ⟨hr1, hr2⟩, _⟩ := open_sl Try.underlying61 cc_area (by decide) (fun (a : Ar) r => r = arC a) (fun x r h => by subst h; rfl) (fun n cs' z hl hz => open_area hl hz) hf
  have hv : (Value.slice a len cap) = v := by simpa [Value.cells] using hv
  subst hv
  refine ⟨xs, ?_⟩
  have : rows = xs.map arC := by
    apply List.ext_getElem?
    intro i
    rw [List.getElem?_map]
    by_cases hi : i < xs.length
    · rw [List.getElem?_eq_getElem hi, List.getElem?_eq_getElem (by omega)]
      simp only [Option.map_some, Option.some.injEq]
      exact hr2 i _ _ (List.getElem?_eq_getElem hi) (List.getElem?_eq_getElem (by omega))
    · rw [List.getElem?_eq_none (by omega), List.getElem?_eq_none (by omega)]; rfl
  rwa [this] at hsl
end
end Go.Proofs.Ytejnpppejalhfaa
