/- slices.Grow of a nil slice of areas; slices.Concat of three. -/
import Derived.Test.YtejnpppejalhfaaAr20
import Derived.Lib.AppendZerosOnto
import Derived.Lib.Walk
namespace Go.Proofs.Ytejnpppejalhfaa
open Go.RowKit Go.Sort

def GrowPost (w : World) (e : Ending) (w' : World) : Prop := ∃ v, e = .returned v ∧ w'.ownsRow w.heap.size 63 4 v 0 [] ∧ Below w.heap.size w w'
set_option maxRecDepth 100000 in
set_option maxHeartbeats 4000000 in
theorem grow_nil (n : Nat) (hn : n ≤ 3000) (w : World) : Calls Try.prog 114 #[.slice none 0 0, .int .i64 n] w (GrowPost w) := by
  have h1 : ¬ ((n : Int) < 0) := by omega
  by_cases h0 : n = 0
  · subst h0
    go_enter Try.func114, Try.ntmps114
    go_wp2
    go_ret
    exact ⟨_, rfl, World.ownsRow_nil _ _ _ _, Below.refl _ _⟩
  obtain ⟨i0, hi0, hz0, hs0, hy0⟩ := info_area
  have hn1 : wrap64 ((n : Int) - 0) = n := wrap64_small _ (by omega) (by omega)
  have hbys : n * i0.bytes ≤ 140737488355328 := by rw [hy0]; omega
  have hrz : ∀ ty, (Builtin.append_ #[61, 3] ty #[.slice none 0 0, .int .i64 n]).run Try.prog w =
      .ok (.slice (some ⟨w.heap.size, 0, none⟩) n (grownCap w n 0 63)) (w.drew.alloc (.cells (#[] ++ Builtin.zeroCells #[.int .i64 0, .int .i64 0, .int .i64 0, .bool false] n ++ Builtin.zeroCells #[.int .i64 0, .int .i64 0, .int .i64 0, .bool false] (grownCap w n 0 63 - n)) 63)) := fun ty => by
    have h := Lib.run_append_grow_zeros (P := Try.prog) w 61 3 ty 63 i0 _ .i64 .i64 Try.underlying61 Try.underlying3 hi0 hz0 none 0 0 [] (run_firstCells_none w.drew i0.size 0 0 0) n (by omega) (by omega) (by omega) (by omega) (by omega)
      (by rw [Nat.zero_add]; exact growslice_fits (by omega) hbys)
    rw [Nat.zero_add] at h
    exact h
  have hge := grownCap_ge w n 0 63
  have hcm := grownCap_le_maxLen w n 0 63 (by unfold maxLen; omega)
  have hG63 : grownCap w n 0 63 ≤ 9223372036854775807 := by unfold maxLen at hcm; exact hcm
  have hzz : ∀ k, (Builtin.zeroCells #[.int .i64 0, .int .i64 0, .int .i64 0, .bool false] k).size = k * 4 := fun k => by simp [size_zeroCells]
  generalize grownCap w n 0 63 = G at *
  have HZZ := hid hzz
  have HHI := hid hbys
  have HCM := hid hcm
  clear hbys hi0 hz0 hs0 hy0 hzz hcm h1
  obtain ⟨cur, hcur⟩ : ∃ cur, cur = (#[] ++ Builtin.zeroCells #[.int .i64 0, .int .i64 0, .int .i64 0, .bool false] n ++ Builtin.zeroCells #[.int .i64 0, .int .i64 0, .int .i64 0, .bool false] (G - n)) := ⟨_, rfl⟩
  rw [← hcur] at hrz
  have HCU : Hid (cur.size = G * 4) := hid (by
    rw [hcur, Array.size_append, Array.size_append, HZZ.out, HZZ.out]
    simp
    omega)
  clear hcur
  go_enter Try.func114, Try.ntmps114
  go_wp2_with (at_builtin; refine Lib.wpList_append_run _ rfl _ _ _ _ rfl _ _ rfl rfl _ _ (hrz _) ?_)
  go_ret
  refine ⟨_, rfl, ⟨rfl, Or.inr ⟨w.heap.size, G, cur, rfl, Nat.le_refl _, heap_alloc_new w.drew _, Nat.zero_le _, HCM.out, HCU.out, rfl⟩⟩, Below.alloc (Below.drew (Below.refl _ _)) (Nat.le_refl _) _⟩
end Go.Proofs.Ytejnpppejalhfaa
