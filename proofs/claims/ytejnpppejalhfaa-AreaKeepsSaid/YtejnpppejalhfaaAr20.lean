/- The contract of area.cut. -/
import Derived.Test.YtejnpppejalhfaaAr19
import Derived.Deep.RegionWith
import Derived.Deep.DeepCutAuto
namespace Go.Proofs.Ytejnpppejalhfaa
open Go.RowKit Go.Sort

theorem cells4 {w : World} {b : Nat} {a : Ar} (h : CellsAr w b 0 a) : w.cell? ⟨b, 0, none⟩ = some (.int .i64 a.pg) ∧ w.cell? ⟨b, 1, none⟩ = some (.int .i64 a.n) ∧ w.cell? ⟨b, 2, none⟩ = some (.int .i64 a.prot) ∧ w.cell? ⟨b, 3, none⟩ = some (.bool a.z) := h
theorem app_cell {w w' : World} {o : Obj} {a : Addr} {v : Value} {row : Option Nat} (h : w.cell? a = some v) (hg : (w.alloc o).grownBy w' row) (hne : row ≠ some a.block) : w'.cell? a = some v :=
  hg.cell ((World.grownBy_alloc w o none).cell h (by simp)) (Ne.symm hne)

theorem grown_setCell (w : World) (g k : Nat) (u : Value) : w.grownBy (w.setCell ⟨g, k, none⟩ u) (some g) := ⟨rfl, rfl, rfl, by simp, fun j _ hj => heap_setCell_other w ⟨g, k, none⟩ j u (fun e => hj (by simp [e]))⟩
theorem own_setCell {w : World} {base n g k size : Nat} {e : TypeId} {v : Value} {xs : List Value} (h : w.ownsRow base e size v n xs) (hne : v.ownBlock ≠ some g) (u : Value) : (w.setCell ⟨g, k, none⟩ u).ownsRow base e size v n xs :=
  h.kept (grown_setCell w g k u) (Or.inr hne)
theorem own_ne {w : World} {base n size g : Nat} {e : TypeId} {v : Value} {xs : List Value} (h : w.ownsRow base e size v n xs) (hg : w.heap.size ≤ g) : v.ownBlock ≠ some g := fun e => by
  have := (h.lt g e).2; omega
/-- what is carried past an append of a row -/
theorem app_other {w w' : World} {base n n' size : Nat} {e : TypeId} {v u v' : Value} {xs ys : List Value} (ho : w.ownsRow base e size u n ys) (hap : RowsApart v u) (hg : w.grownBy w' v.ownBlock) (hat : v'.ownBlock = v.ownBlock ∨ v'.ownBlock = some w.heap.size) :
    w'.ownsRow base e size u n ys ∧ RowsApart v' u := by
  refine ⟨ho.kept hg (by have := hap.symm; unfold RowsApart at this; exact this), ?_⟩
  rcases hat with h | h
  · unfold RowsApart at *; rw [h]; exact hap
  · right
    rw [h]
    intro hu
    have := (ho.lt _ hu.symm).2
    omega
set_option maxRecDepth 100000 in
set_option maxHeartbeats 8000000 in
theorem cut_some {L : List Ar} {w : World} (b off cap : Nat) (page : Int) (hbl : b < w.heap.size) (hcells : ∀ i a, L[i]? = some a → CellsAr w b (off + i * 4) a) (hok : ∀ (i : Nat) (a : Ar), L[i]? = some a → a.ok) (hlen : L.length ≤ 1000) (hp : 1 ≤ page ∧ page ≤ 600) :
    Calls Try.prog 105 #[.slice (some ⟨b, off, none⟩) L.length cap, .int .i64 page] w (CutPost (cutA L page) (cutB L page) w) := by
  obtain ⟨i0, hi0, hz0, hs0, hy0⟩ := info_area
  have HI := hid hi0
  have HZ := hid hz0
  have HSZ := hid hs0
  have HY := hid hy0
  have HL := hid hcells
  have HO := hid hok
  obtain ⟨hp1, hp2⟩ := hp
  clear hi0 hz0 hs0 hy0 hcells hok
  go_enter Try.func105, Try.ntmps105
  go_wp2
  go_loopw [6, 7, 14] (fun va vb vi wr => ∃ i : Nat, i ≤ L.length ∧ vi = .int .i64 i ∧ Below w.heap.size w wr ∧ wr.ownsRow w.heap.size 63 4 va (ctA L page i).length (flat (ctA L page i)) ∧ wr.ownsRow w.heap.size 63 4 vb (ctB L page i).length (flat (ctB L page i)) ∧ Hid (RowsApart va vb)) (fun _ _ vi _ => L.length - (intOf vi).toNat)
  case atStart => exact ⟨0, by omega, rfl, Below.refl _ _, World.ownsRow_nil _ _ _ _, World.ownsRow_nil _ _ _ _, Or.inl rfl⟩
  case round =>
    obtain ⟨i, hi, rfl, hb2, hoA, hoB, HAP⟩ := hrel
    by_cases hlt : i < L.length
    · obtain ⟨a, ha⟩ : ∃ a, L[i]? = some a := ⟨L[i], by simp [hlt]⟩
      obtain ⟨c0, c1, c2, c3⟩ := (HL.out i a ha).grown hb2 hbl
      have hao := HO.out i a ha
      have hbr := ltAll (Nat.lt_of_lt_of_le hbl hb2.size)
      have hb2w := hb2.size
      have HMS := hid (ms5 hlt)
      have hws : wrap64 ((i : Int) + 1) = (i : Int) + 1 := wrap64_small _ (by omega) (by omega)
      have hlA := ctA_len L page i
      have hlB := ctB_len L page i
      have HE := hid (fun w => end_any a w)
      rw [fin_wrap hao] at HE
      unfold arC at HE
      have hdef : a.fin = a.pg + a.n := rfl
      unfold Ar.ok at hao
      have hmw : wrap64 (min a.fin page - a.pg) = min a.fin page - a.pg := wrap64_small _ (by omega) (by omega)
      have hmx : wrap64 (a.fin - max a.pg page) = a.fin - max a.pg page := wrap64_small _ (by omega) (by omega)
      have HDEF := hid hdef
      have HAO := hid hao
      clear hdef hao
      by_cases h1 : a.pg < page
      · have HXA := hid (ctA_yes ha h1)
        have HB1 := hid (fun h => @ctB_yes L page i a ha h)
        have HB0 := hid (fun h => @ctB_no L page i a ha h)
        generalize a.fin = f at *
        go_wp2
        refine wp_region_grown_tail 8 (by kernel_rfl) (by kernel_rfl) ?_
        simp only [List.take_succ_cons, List.take_zero, List.drop_succ_cons, List.drop_zero]
        repeat (first | go_big_quiet_step ((go_at_call 65; exact Calls.regrown_of (HE.out _))) | quiet_step ((go_at_call 65; exact Calls.regrown_of (HE.out _))))
        refine wpQuiet_nil ?_
        intro wq hw'
        obtain ⟨⟨dq, osq⟩, hw''⟩ := hw'
        have hbr := of_regrown hw''
        clear hw''
        first
          | (have hbn := bt hbq hbr; clear hcq hfq hzq hbq hbr; have hbq := hbn; clear hbn)
          | (have hbq := hbr; clear hbr)
        obtain ⟨hcq, hfq, hzq⟩ := bcell3 hbq
        have nA := own_ne hoA (show wr.heap.size ≤ wr.heap.size + 1 by omega)
        have nB := own_ne hoB (show wr.heap.size ≤ wr.heap.size + 1 by omega)
        have pA := own_ne hoA (Nat.le_refl _)
        have pB := own_ne hoB (Nat.le_refl _)
        have hoA := own_below ((hoA.alloc _).alloc _) hbq
        have hoB := own_below ((hoB.alloc _).alloc _) hbq
        have hb2a := hb2.alloc hb2.size (.cells #[.int .i64 a.pg, .int .i64 a.n, .int .i64 a.prot, .bool a.z] 63)
        have hb2 := bt (hb2a.alloc hb2a.size _) hbq
        clear hb2a
        have hsz1 := hbq.size
        simp at hsz1
        go_upto_region 8 with fail
        generalize hW : wq.setCell ⟨wr.heap.size + 1, 1, none⟩ (.int .i64 (min f page - a.pg)) = w6
        have hoA := hW ▸ own_setCell hoA nA (.int .i64 (min f page - a.pg)) (k := 1)
        have hoB := hW ▸ own_setCell hoB nB (.int .i64 (min f page - a.pg)) (k := 1)
        have hwr : w.heap.size ≤ wr.heap.size := hb2w
        have hb6 := hW ▸ hb2.setCell (p := ⟨wr.heap.size + 1, 1, none⟩) (Nat.le_succ_of_le hwr) (.int .i64 (min f page - a.pg))
        have y0 : w6.cell? ⟨wr.heap.size + 1, 0, none⟩ = some (.int .i64 a.pg) := by rw [← hW]; simp [go_sem, hcq]
        have y1 : w6.cell? ⟨wr.heap.size + 1, 1, none⟩ = some (.int .i64 (min f page - a.pg)) := by rw [← hW]; simp [go_sem, hcq]
        have y2 : w6.cell? ⟨wr.heap.size + 1, 2, none⟩ = some (.int .i64 a.prot) := by rw [← hW]; simp [go_sem, hcq]
        have y3 : w6.cell? ⟨wr.heap.size + 1, 3, none⟩ = some (.bool a.z) := by rw [← hW]; simp [go_sem, hcq]
        have x0 : w6.cell? ⟨wr.heap.size, 0, none⟩ = some (.int .i64 a.pg) := by rw [← hW]; simp [go_sem, hcq]
        have x1 : w6.cell? ⟨wr.heap.size, 1, none⟩ = some (.int .i64 a.n) := by rw [← hW]; simp [go_sem, hcq]
        have x2 : w6.cell? ⟨wr.heap.size, 2, none⟩ = some (.int .i64 a.prot) := by rw [← hW]; simp [go_sem, hcq]
        have x3 : w6.cell? ⟨wr.heap.size, 3, none⟩ = some (.bool a.z) := by rw [← hW]; simp [go_sem, hcq]
        have z6 : wr.heap.size + 1 < w6.heap.size := by rw [← hW]; simp; omega
        clear hW hcq hfq hzq hbq hb2
        have z6a := ltAll z6
        go_upto_region 9 with (first | ((with_reducible refine at_op 34 ?_); refine wpList_append_own_at _ rfl (.tmp 31) (.tmp 33) 61 rfl w.heap.size 63 i0 (.agg #[.int .i64 0, .int .i64 0, .int .i64 0, .bool false]) 4 32 Try.underlying61 HI.out HZ.out HSZ.out HY.out rfl (by decide) (u6) ((ctA L page i).length) (flat (ctA L page i)) rfl (hoA.alloc _) ⟨w6.heap.size, 0, none⟩ 1 1 [.int .i64 a.pg, .int .i64 (min f page - a.pg), .int .i64 a.prot, .bool a.z] rfl rfl (cells_new w6 _ _ _ _ _) (by intro u hu; simp at hu; rcases hu with rfl | rfl | rfl | rfl <;> rfl) (by unfold maxLen; omega) (by omega) (by have := hb6.size; simp; omega) ?_; intro v3 w3 hown3 hg3 hn3 hat3))
        have hb3 := (hb6.alloc hb6.size _).grown hg3 (by have := hb6.size; simp; omega) (fun j hj => (hoA.lt j hj).1)
        obtain ⟨hoB3, HAP3⟩ := app_other (n' := 0) (xs := []) (hoB.alloc _) HAP.out hg3 hat3
        have hoA3 : w3.ownsRow w.heap.size 63 4 v3 (ctA L page (i + 1)).length (flat (ctA L page (i + 1))) := by
          rw [HXA.out, flat_snoc, List.length_append]
          exact hown3
        have x0 := app_cell x0 hg3 pA
        have x1 := app_cell x1 hg3 pA
        have x2 := app_cell x2 hg3 pA
        have x3 := app_cell x3 hg3 pA
        have CX : CellsAr w3 wr.heap.size 0 a := ⟨x0, x1, x2, x3⟩
        have z3 : wr.heap.size < w3.heap.size := by
          have := hg3.size
          simp at this
          omega
        have HAP3 := hid HAP3
        clear hoA hoB hown3 hg3 hn3 hat3 HAP y0 y1 y2 y3 z6 z6a nA nB pA pB hb6 HXA hmw
        by_cases h2 : page < f
        · have HXB := hid (HB1.out h2)
          go_wp2_with (first | ((go_at_call 65; (with_reducible refine (HE.out _).mono ?_); rintro e w4 ⟨rfl, hbq⟩); have hoA4 := own_below hoA3 hbq; have hoB4 := own_below hoB3 hbq; have hb4 := bt hb3 hbq; have z4 : wr.heap.size < w4.heap.size := Nat.lt_of_lt_of_le z3 hbq.size; have CX4 := CX.grown hbq z3; obtain ⟨q0, q1, q2, q3⟩ := cells4 CX4; clear CX hbq hb3 hoA3 hoB3 z3; have hsx := hb4.size))
          refine wp_region_grown_tail 6 (by kernel_rfl) (by kernel_rfl) ?_
          simp only [List.take_succ_cons, List.take_zero, List.drop_succ_cons, List.drop_zero]
          repeat (first | go_big_quiet_step ((go_at_call 65; exact Calls.regrown_of (HE.out _))) | quiet_step ((go_at_call 65; exact Calls.regrown_of (HE.out _))))
          refine wpQuiet_nil ?_
          intro wq hw'
          obtain ⟨⟨dq, osq⟩, hw''⟩ := hw'
          have hbr := of_regrown hw''
          clear hw''
          first
            | (have hbn := bt hbq hbr; clear hcq hfq hzq hbq hbr; have hbq := hbn; clear hbn)
            | (have hbq := hbr; clear hbr)
          obtain ⟨hcq, hfq, hzq⟩ := bcell3 hbq
          have nA := own_ne hoA4 (Nat.le_refl _)
          have nB := own_ne hoB4 (Nat.le_refl _)
          have hoA5 := own_below (hoA4.alloc _) hbq
          have hoB5 := own_below (hoB4.alloc _) hbq
          have hb5 := bt (hb4.alloc hsx _) hbq
          have hsz5 := hbq.size
          simp at hsz5
          go_upto_region 13 with fail
          generalize hW : wq.setCell ⟨w4.heap.size, 1, none⟩ (.int .i64 (f - max a.pg page)) = w8
          have hoA8 := hW ▸ own_setCell hoA5 nA (.int .i64 (f - max a.pg page)) (k := 1)
          have hoB8 := hW ▸ own_setCell hoB5 nB (.int .i64 (f - max a.pg page)) (k := 1)
          have hb8 := hW ▸ hb5.setCell (p := ⟨w4.heap.size, 1, none⟩) hsx (.int .i64 (f - max a.pg page))
          have y0 : w8.cell? ⟨w4.heap.size, 0, none⟩ = some (.int .i64 (max a.pg page)) := by rw [← hW]; simp [go_sem, hcq]
          have y1 : w8.cell? ⟨w4.heap.size, 1, none⟩ = some (.int .i64 (f - max a.pg page)) := by rw [← hW]; simp [go_sem, hcq]
          have y2 : w8.cell? ⟨w4.heap.size, 2, none⟩ = some (.int .i64 a.prot) := by rw [← hW]; simp [go_sem, hcq]
          have y3 : w8.cell? ⟨w4.heap.size, 3, none⟩ = some (.bool a.z) := by rw [← hW]; simp [go_sem, hcq]
          have z8 : w4.heap.size < w8.heap.size := by rw [← hW]; simp; omega
          clear hW hcq hfq hzq hbq hb5 hoA5 hoB5 hoA4 hoB4 hb4
          have z8a := ltAll z8
          have hs8 := hb8.size
          go_wp2_with (first | ((with_reducible refine at_op 54 ?_); refine wpList_append_own_at _ rfl (.tmp 51) (.tmp 53) 61 rfl w.heap.size 63 i0 (.agg #[.int .i64 0, .int .i64 0, .int .i64 0, .bool false]) 4 32 Try.underlying61 HI.out HZ.out HSZ.out HY.out rfl (by decide) (u7) ((ctB L page i).length) (flat (ctB L page i)) rfl (hoB8.alloc _) ⟨w8.heap.size, 0, none⟩ 1 1 [.int .i64 (max a.pg page), .int .i64 (f - max a.pg page), .int .i64 a.prot, .bool a.z] rfl rfl (cells_new w8 _ _ _ _ _) (by intro u hu; simp at hu; rcases hu with rfl | rfl | rfl | rfl <;> rfl) (by unfold maxLen; omega) (by omega) (by simp; omega) ?_; intro v5 w5 hown5 hg5 hn5 hat5))
          have hb9 := (hb8.alloc hs8 _).grown hg5 (by simp; omega) (fun j hj => (hoB8.lt j hj).1)
          obtain ⟨hoA9, HAP9⟩ := app_other (n' := 0) (xs := []) (hoA8.alloc _) (HAP3.out.symm) hg5 hat5
          refine ⟨⟨i + 1, hlt, rfl, hb9, hoA9, ?_, hid HAP9.symm⟩, HMS.out⟩
          rw [HXB.out, flat_snoc, List.length_append]
          exact hown5
        · have HXB := hid (HB0.out (by first | exact h2 | exact Int.not_lt.mp h2))
          go_wp2_with (first | ((go_at_call 65; (with_reducible refine (HE.out _).mono ?_); rintro e w4 ⟨rfl, hbq⟩); have hoA4 := own_below hoA3 hbq; have hoB4 := own_below hoB3 hbq; have hb4 := bt hb3 hbq; have z4 : wr.heap.size < w4.heap.size := Nat.lt_of_lt_of_le z3 hbq.size; have CX4 := CX.grown hbq z3; obtain ⟨q0, q1, q2, q3⟩ := cells4 CX4; clear CX hbq hb3 hoA3 hoB3 z3; have hsx := hb4.size))
          refine ⟨⟨i + 1, hlt, rfl, hb4, hoA4, ?_, HAP3⟩, HMS.out⟩
          rw [HXB.out]
          exact hoB4
      · have HXA := hid (ctA_no ha h1)
        have HB1 := hid (fun h => @ctB_yes L page i a ha h)
        have HB0 := hid (fun h => @ctB_no L page i a ha h)
        generalize a.fin = f at *
        go_upto_region 9 with fail
        have hb3 := hb2.alloc hb2w (.cells #[.int .i64 a.pg, .int .i64 a.n, .int .i64 a.prot, .bool a.z] 63)
        have hoA3 := hoA.alloc (.cells #[.int .i64 a.pg, .int .i64 a.n, .int .i64 a.prot, .bool a.z] 63)
        have hoB3 := hoB.alloc (.cells #[.int .i64 a.pg, .int .i64 a.n, .int .i64 a.prot, .bool a.z] 63)
        generalize hW : wr.alloc (.cells #[.int .i64 a.pg, .int .i64 a.n, .int .i64 a.prot, .bool a.z] 63) = w3 at *
        have x0 : w3.cell? ⟨wr.heap.size, 0, none⟩ = some (.int .i64 a.pg) := by rw [← hW]; simp [go_sem]
        have x1 : w3.cell? ⟨wr.heap.size, 1, none⟩ = some (.int .i64 a.n) := by rw [← hW]; simp [go_sem]
        have x2 : w3.cell? ⟨wr.heap.size, 2, none⟩ = some (.int .i64 a.prot) := by rw [← hW]; simp [go_sem]
        have x3 : w3.cell? ⟨wr.heap.size, 3, none⟩ = some (.bool a.z) := by rw [← hW]; simp [go_sem]
        have z3 : wr.heap.size < w3.heap.size := by rw [← hW]; simp
        have CX : CellsAr w3 wr.heap.size 0 a := ⟨x0, x1, x2, x3⟩
        rw [← HXA.out] at hoA3
        have HAP3 := HAP
        clear hW hoA hoB hb2 HAP hmw
        by_cases h2 : page < f
        · have HXB := hid (HB1.out h2)
          go_wp2_with (first | ((go_at_call 65; (with_reducible refine (HE.out _).mono ?_); rintro e w4 ⟨rfl, hbq⟩); have hoA4 := own_below hoA3 hbq; have hoB4 := own_below hoB3 hbq; have hb4 := bt hb3 hbq; have z4 : wr.heap.size < w4.heap.size := Nat.lt_of_lt_of_le z3 hbq.size; have CX4 := CX.grown hbq z3; obtain ⟨q0, q1, q2, q3⟩ := cells4 CX4; clear CX hbq hb3 hoA3 hoB3 z3; have hsx := hb4.size))
          refine wp_region_grown_tail 6 (by kernel_rfl) (by kernel_rfl) ?_
          simp only [List.take_succ_cons, List.take_zero, List.drop_succ_cons, List.drop_zero]
          repeat (first | go_big_quiet_step ((go_at_call 65; exact Calls.regrown_of (HE.out _))) | quiet_step ((go_at_call 65; exact Calls.regrown_of (HE.out _))))
          refine wpQuiet_nil ?_
          intro wq hw'
          obtain ⟨⟨dq, osq⟩, hw''⟩ := hw'
          have hbr := of_regrown hw''
          clear hw''
          first
            | (have hbn := bt hbq hbr; clear hcq hfq hzq hbq hbr; have hbq := hbn; clear hbn)
            | (have hbq := hbr; clear hbr)
          obtain ⟨hcq, hfq, hzq⟩ := bcell3 hbq
          have nA := own_ne hoA4 (Nat.le_refl _)
          have nB := own_ne hoB4 (Nat.le_refl _)
          have hoA5 := own_below (hoA4.alloc _) hbq
          have hoB5 := own_below (hoB4.alloc _) hbq
          have hb5 := bt (hb4.alloc hsx _) hbq
          have hsz5 := hbq.size
          simp at hsz5
          go_upto_region 13 with fail
          generalize hW : wq.setCell ⟨w4.heap.size, 1, none⟩ (.int .i64 (f - max a.pg page)) = w8
          have hoA8 := hW ▸ own_setCell hoA5 nA (.int .i64 (f - max a.pg page)) (k := 1)
          have hoB8 := hW ▸ own_setCell hoB5 nB (.int .i64 (f - max a.pg page)) (k := 1)
          have hb8 := hW ▸ hb5.setCell (p := ⟨w4.heap.size, 1, none⟩) hsx (.int .i64 (f - max a.pg page))
          have y0 : w8.cell? ⟨w4.heap.size, 0, none⟩ = some (.int .i64 (max a.pg page)) := by rw [← hW]; simp [go_sem, hcq]
          have y1 : w8.cell? ⟨w4.heap.size, 1, none⟩ = some (.int .i64 (f - max a.pg page)) := by rw [← hW]; simp [go_sem, hcq]
          have y2 : w8.cell? ⟨w4.heap.size, 2, none⟩ = some (.int .i64 a.prot) := by rw [← hW]; simp [go_sem, hcq]
          have y3 : w8.cell? ⟨w4.heap.size, 3, none⟩ = some (.bool a.z) := by rw [← hW]; simp [go_sem, hcq]
          have z8 : w4.heap.size < w8.heap.size := by rw [← hW]; simp; omega
          clear hW hcq hfq hzq hbq hb5 hoA5 hoB5 hoA4 hoB4 hb4
          have z8a := ltAll z8
          have hs8 := hb8.size
          go_wp2_with (first | ((with_reducible refine at_op 54 ?_); refine wpList_append_own_at _ rfl (.tmp 51) (.tmp 53) 61 rfl w.heap.size 63 i0 (.agg #[.int .i64 0, .int .i64 0, .int .i64 0, .bool false]) 4 32 Try.underlying61 HI.out HZ.out HSZ.out HY.out rfl (by decide) (u7) ((ctB L page i).length) (flat (ctB L page i)) rfl (hoB8.alloc _) ⟨w8.heap.size, 0, none⟩ 1 1 [.int .i64 (max a.pg page), .int .i64 (f - max a.pg page), .int .i64 a.prot, .bool a.z] rfl rfl (cells_new w8 _ _ _ _ _) (by intro u hu; simp at hu; rcases hu with rfl | rfl | rfl | rfl <;> rfl) (by unfold maxLen; omega) (by omega) (by simp; omega) ?_; intro v5 w5 hown5 hg5 hn5 hat5))
          have hb9 := (hb8.alloc hs8 _).grown hg5 (by simp; omega) (fun j hj => (hoB8.lt j hj).1)
          obtain ⟨hoA9, HAP9⟩ := app_other (n' := 0) (xs := []) (hoA8.alloc _) (HAP3.out.symm) hg5 hat5
          refine ⟨⟨i + 1, hlt, rfl, hb9, hoA9, ?_, hid HAP9.symm⟩, HMS.out⟩
          rw [HXB.out, flat_snoc, List.length_append]
          exact hown5
        · have HXB := hid (HB0.out (by first | exact h2 | exact Int.not_lt.mp h2))
          go_wp2_with (first | ((go_at_call 65; (with_reducible refine (HE.out _).mono ?_); rintro e w4 ⟨rfl, hbq⟩); have hoA4 := own_below hoA3 hbq; have hoB4 := own_below hoB3 hbq; have hb4 := bt hb3 hbq; have z4 : wr.heap.size < w4.heap.size := Nat.lt_of_lt_of_le z3 hbq.size; have CX4 := CX.grown hbq z3; obtain ⟨q0, q1, q2, q3⟩ := cells4 CX4; clear CX hbq hb3 hoA3 hoB3 z3; have hsx := hb4.size))
          refine ⟨⟨i + 1, hlt, rfl, hb4, hoA4, ?_, HAP3⟩, HMS.out⟩
          rw [HXB.out]
          exact hoB4
    · go_wp2
      go_ret2
      obtain rfl : i = L.length := by omega
      unfold ctA at hoA
      unfold ctB at hoB
      rw [List.take_length] at hoA hoB
      exact ⟨_, _, rfl, hoA, hoB, HAP.out, hb2⟩
set_option maxRecDepth 100000 in
set_option maxHeartbeats 4000000 in
theorem cut_nil (p : Option Addr) (c : Nat) (page : Int) (w : World) : Calls Try.prog 105 #[.slice p 0 c, .int .i64 page] w (CutPost [] [] w) := by
  go_enter Try.func105, Try.ntmps105
  go_wp2
  go_loopw [6, 7, 14] (fun va vb vi wr => va = .slice none 0 0 ∧ vb = .slice none 0 0 ∧ vi = .int .i64 0 ∧ w = wr) (fun _ _ _ _ => 0)
  case atStart => exact ⟨rfl, rfl, rfl, rfl⟩
  case round =>
    obtain ⟨rfl, rfl, rfl, rfl⟩ := hrel
    go_wp2
    go_ret2
    exact ⟨_, _, rfl, World.ownsRow_nil _ _ _ _, World.ownsRow_nil _ _ _ _, Or.inl rfl, Below.refl _ _⟩
theorem cut_sl {v : Value} {L : List Ar} {w : World} {page : Int} (h : SlAr w v L) (hok : ∀ (i : Nat) (a : Ar), L[i]? = some a → a.ok) (hlen : L.length ≤ 1000) (hp : 1 ≤ page ∧ page ≤ 600) : Calls Try.prog 105 #[v, .int .i64 page] w (CutPost (cutA L page) (cutB L page) w) := by
  rcases h with ⟨p, c, rfl, rfl⟩ | ⟨b, off, cap, rfl, h2, h3, h4, h5⟩
  · exact cut_nil p c page w
  · exact cut_some b off cap page h2 h5 hok hlen hp
end Go.Proofs.Ytejnpppejalhfaa
