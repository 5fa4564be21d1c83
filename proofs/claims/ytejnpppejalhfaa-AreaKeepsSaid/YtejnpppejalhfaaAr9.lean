/- Rows of areas that a call owns; the contract of the reference's areasOf. -/
import Derived.Test.YtejnpppejalhfaaAr8
import Derived.Deep.DeepAppendWide
import Derived.Laws.OwnMore
namespace Go.Proofs.Ytejnpppejalhfaa
open Go.RowKit Go.Sort

def flat (L : List Ar) : List Value := L.flatMap arC
theorem flat_len (L : List Ar) : (flat L).length = L.length * 4 := by
  induction L with
  | nil => rfl
  | cons a L ih => unfold flat at *; simp [arC, ih]; omega
theorem flat_snoc (L : List Ar) (a : Ar) : flat (L ++ [a]) = flat L ++ arC a := by simp [flat]
theorem flat_grow (L : List Ar) (a : Ar) (n : Int) : flat (L ++ [{ a with n := n }]) = (flat (L ++ [a])).set (L.length * 4 + 1) (.int .i64 n) := by
  rw [flat_snoc, flat_snoc, List.set_append_right _ _ (by rw [flat_len]; omega), flat_len, show L.length * 4 + 1 - L.length * 4 = 1 by omega]
  rfl
theorem flat_at (L : List Ar) (a : Ar) (j : Nat) (h : j < 4) : (flat (L ++ [a]))[L.length * 4 + j]? = (arC a)[j]? := by
  rw [flat_snoc, List.getElem?_append_right (by rw [flat_len]; omega), flat_len, show L.length * 4 + j - L.length * 4 = j by omega]
theorem flat_get {L : List Ar} : ∀ {i : Nat} {a : Ar}, L[i]? = some a → ∀ j : Nat, j < 4 → (flat L)[i * 4 + j]? = (arC a)[j]? := by
  induction L with
  | nil => intro i a h; simp at h
  | cons c L ih =>
    intro i a h j hj
    have e : flat (c :: L) = arC c ++ flat L := rfl
    rw [e]
    cases i with
    | zero =>
      simp at h
      subst h
      rw [List.getElem?_append_left (by simp [arC]; omega)]
      simp
    | succ i =>
      rw [List.getElem?_append_right (by simp [arC]; omega), show (i + 1) * 4 + j - (arC c).length = i * 4 + j by simp [arC]; omega]
      exact ih (by simpa using h) j hj
/-- a row of one's own is a slice of areas -/
theorem own_sl {w : World} {base : Nat} {e : TypeId} {v : Value} {L : List Ar} (h : w.ownsRow base e 4 v L.length (flat L)) : SlAr w v L := by
  rcases h.2 with ⟨rfl, hn⟩ | ⟨g, cap, cur, rfl, hb, hg, hnc, hcm, _⟩
  · exact Or.inl ⟨_, _, rfl, List.eq_nil_of_length_eq_zero hn⟩
  · have hlt := (Array.getElem?_eq_some_iff.1 hg).1
    refine Or.inr ⟨g, 0, cap, rfl, hlt, hnc, hcm, fun i a ha => ?_⟩
    obtain ⟨hi, _⟩ := List.getElem?_eq_some_iff.1 ha
    refine ⟨?_, ?_, ?_, ?_⟩
    · have := h.cellAt (i * 4 + 0) (by omega); rw [flat_get ha 0 (by decide)] at this; simpa [arC] using this
    · have := h.cellAt (i * 4 + 1) (by omega); rw [flat_get ha 1 (by decide)] at this; simpa [arC] using this
    · have := h.cellAt (i * 4 + 2) (by omega); rw [flat_get ha 2 (by decide)] at this; simpa [arC] using this
    · have := h.cellAt (i * 4 + 3) (by omega); rw [flat_get ha 3 (by decide)] at this; simpa [arC] using this
theorem own_below {w w' : World} {base : Nat} {e : TypeId} {size n : Nat} {v : Value} {xs : List Value} (h : w.ownsRow base e size v n xs) (hb : Below w.heap.size w w') : w'.ownsRow base e size v n xs := by
  refine ⟨h.1, ?_⟩
  rcases h.2 with hn | ⟨g, cap, cur, rfl, hbg, hgg, rest⟩
  · exact .inl hn
  · exact .inr ⟨g, cap, cur, rfl, hbg, by rw [hb.block g (Array.getElem?_eq_some_iff.1 hgg).1]; exact hgg, rest⟩

theorem aUpto_pos (b : Int → Int) (k : Nat) : ∀ a ∈ aUpto b k, 1 ≤ a.pg ∧ 1 ≤ a.n := by
  induction k with
  | zero => intro a h; simp [aUpto] at h
  | succ k ih =>
    unfold aUpto aStep
    split
    · exact ih
    split
    · intro a h
      rcases List.eq_nil_or_concat (aUpto b k) with e | ⟨l, c, e⟩
      · rw [e] at h; simp [growLast] at h
      · rw [e] at ih h
        simp only [List.concat_eq_append] at ih h
        rw [growLast_eq] at h
        rcases List.mem_append.1 h with h | h
        · exact ih a (List.mem_append.2 (Or.inl h))
        · have : a = { c with n := c.n + 1 } := by simpa using h
          subst this
          have := ih c (by simp)
          exact ⟨this.1, by simp only; omega⟩
    · intro a h
      rcases List.mem_append.1 h with h | h
      · exact ih a h
      · rw [List.mem_singleton] at h
        rw [h]
        exact ⟨by simp only; omega, by simp only; omega⟩
theorem aUpto_len (b : Int → Int) (k : Nat) : (aUpto b k).length ≤ k := by
  induction k with
  | zero => simp [aUpto]
  | succ k ih =>
    unfold aUpto aStep
    split
    · omega
    split
    · rcases List.eq_nil_or_concat (aUpto b k) with e | ⟨l, c, e⟩
      · rw [e]; simp [growLast]
      · rw [e] at ih ⊢
        simp only [List.concat_eq_append] at ih ⊢
        rw [growLast_eq]
        simp at ih ⊢
        omega
    · simp; omega

/-- a row of one's own, begun behind base -/
def OwnAr (base : Nat) (w : World) (v : Value) (L : List Ar) : Prop := w.ownsRow base 63 4 v L.length (flat L)
theorem own_base {w : World} {base base' : Nat} {v : Value} {L : List Ar} (h : w.ownsRow base 63 4 v L.length (flat L)) (hb : base' ≤ base) : OwnAr base' w v L := by
  refine ⟨h.1, ?_⟩
  rcases h.2 with hn | ⟨g, cap, cur, rfl, hg, rest⟩
  · exact .inl hn
  · exact .inr ⟨g, cap, cur, rfl, Nat.le_trans hb hg, rest⟩
def AreasPost (L : List Ar) (w : World) (e : Ending) (w' : World) : Prop := ∃ v, e = .returned v ∧ OwnAr w.heap.size w' v L ∧ Below w.heap.size w w'
theorem info_area : ∃ i, (Try.prog).info? 63 = some i ∧ i.zero = some (.agg #[.int .i64 0, .int .i64 0, .int .i64 0, .bool false]) ∧ i.size = 4 ∧ i.bytes = 32 := by
  have h : ((Try.prog).info? 63).map (fun i => (i.zero, i.size, i.bytes)) = some (some (.agg #[.int .i64 0, .int .i64 0, .int .i64 0, .bool false]), 4, 32) := by kernel_rfl
  cases hq : (Try.prog).info? 63 with
  | none => simp [hq] at h
  | some i =>
    simp [hq] at h
    exact ⟨i, rfl, h.1, h.2.1, h.2.2⟩
theorem cells_new (W : World) (c0 c1 c2 c3 : Value) (t : TypeId) : ∀ (j : Nat) (u : Value), [c0, c1, c2, c3][j]? = some u → (W.alloc (.cells #[c0, c1, c2, c3] t)).cell? ((⟨W.heap.size, 0, none⟩ : Addr).add j) = some u := by
  intro j u h
  rw [show (⟨W.heap.size, 0, none⟩ : Addr).add j = ⟨W.heap.size, j, none⟩ from by unfold Addr.add; split <;> simp_all]
  rw [World.cell?_alloc_mark, ← h]
  simp

theorem ms4 {k : Nat} (h : k < 255) : (256 - ((k : Int) + 1 + 1)).toNat < (256 - ((k : Int) + 1)).toNat := by omega
set_option maxRecDepth 100000 in
set_option maxHeartbeats 4000000 in
theorem areasOf_any (b : Int → Int) (hm : ∀ p, Mark (b p)) (h0 : b 0 = 0) (w : World) : Calls Try.prog 67 #[.agg (bdC b).toArray] w (AreasPost (aUpto b 255) w) := by
  obtain ⟨i0, hi0, hz0, hs0, hy0⟩ := info_area
  have HI := hid hi0
  have HZ := hid hz0
  have HSZ := hid hs0
  have HY := hid hy0
  have HA := hid (aUpto_apart b hm h0)
  have HP := hid (aUpto_pos b)
  have HN := hid (aUpto_len b)
  have HM := hid hm
  have HB := hid (bdC_at b)
  clear hi0 hz0 hs0 hy0 hm h0
  have hbw := Below.refl w.heap.size w
  obtain ⟨B, hB⟩ : ∃ B, B = bdC b := ⟨_, rfl⟩
  rw [← hB] at HB ⊢
  clear hB
  go_enter Try.func67, Try.ntmps67
  go_wp2_with (first | ((with_reducible refine at_op 1 ?_); refine wpList_box_row' rfl 107 (.tmp 0) rfl (some 1) rfl (B) rfl w.heap.size w hbw hbw.size ?_; intro g1 wn1 hL1 hB1 hbn hkn hnn; skip; clear hbw hkn hnn; have hbw := hbn; clear hbn))
  go_loopw [3, 4] (fun vo vp wr => ∃ k : Nat, k ≤ 255 ∧ vp = .int .i64 ((k : Int) + 1) ∧ Below wn1.heap.size wn1 wr ∧ wr.ownsRow wn1.heap.size 63 4 vo (aUpto b k).length (flat (aUpto b k))) (fun _ vp _ => (256 - intOf vp).toNat)
  case atStart => exact ⟨0, by omega, rfl, Below.refl _ _, World.ownsRow_nil _ _ _ _⟩
  case round =>
    obtain ⟨k, hk, rfl, hb2, hown⟩ := hrel
    by_cases hlt : k < 255
    · have h1b := hL1.grown hb2 hL1.lt
      have e0 := (h1b.cell k).trans (HB.out k (by omega))
      have e1 := (h1b.cell (k + 1)).trans (HB.out (k + 1) (by omega))
      rw [show ((k + 1 : Nat) : Int) = (k : Int) + 1 by omega] at e1
      have z1 := ltAll h1b.lt
      have HS : Hid (aUpto b (k + 1) = aStep b (aUpto b k) ((k : Int) + 1)) := hid rfl
      by_cases c1 : b ((k : Int) + 1) = 0
      · have c1' : (b ((k : Int) + 1) == 0) = true := by simpa using c1
        have HX : Hid (aUpto b (k + 1) = aUpto b k) := by refine hid ?_; rw [HS.out]; unfold aStep; rw [if_pos c1]
        clear c1
        generalize b ((k : Int) + 1) = bp at *
        have HMS := hid (ms4 hlt)
        go_wp2
        exact ⟨⟨k + 1, hlt, rfl, hb2, by rw [HX.out]; exact hown⟩, HMS.out⟩
      have c1' : (b ((k : Int) + 1) == 0) = false := by simpa using c1
      have hmk := HM.out ((k : Int) + 1)
      by_cases c2 : b k = b ((k : Int) + 1)
      · have c2' : (b k == b ((k : Int) + 1)) = true := by simpa using c2
        obtain ⟨l, a, hla, hfin⟩ := (HA.out k).2.2 (by rw [c2]; exact c1)
        have HX : Hid (aUpto b (k + 1) = l ++ [{ a with n := a.n + 1 }]) := by
          refine hid ?_
          rw [HS.out]; unfold aStep
          rw [if_neg c1, if_pos (by rw [show (k : Int) + 1 - 1 = k by omega]; exact c2), hla, growLast_eq]
        have hpg := HP.out k a (by rw [hla]; simp)
        have hfn : a.fin = a.pg + a.n := rfl
        have hw : wrap64 (a.n + 1) = a.n + 1 := by
          exact wrap64_small _ (by omega) (by omega)
        have HF := hid (flat_grow l a (a.n + 1))
        have HAT := hid (flat_at l a 1 (by decide))
        rw [hla, show (l ++ [a]).length = l.length + 1 by simp] at hown
        have hlen : l.length ≤ 255 := by have := HN.out k; rw [hla] at this; simp at this; omega
        rcases hown.2 with ⟨_, h⟩ | ⟨g, cap, cur, rfl, hbg, hgg, hnc, hcm, hrest⟩
        · omega
        have hglt := (Array.getElem?_eq_some_iff.1 hgg).1
        clear hgg hcm hrest cur
        have HMS := hid (ms4 hlt)
        clear c1 c2 hla hfin hpg hfn hmk
        generalize b ((k : Int) + 1) = bp at *
        generalize b k = bk at *
        have t0 : wr.cell? ⟨g, l.length * 4 + 1, none⟩ = some (.int .i64 a.n) := (hown.cellAt (l.length * 4 + 1) (by omega)).trans HAT.out
        have t1 := hown.frozenAt (l.length * 4 + 1)
        have zg := ltAll hglt
        go_wp2
        refine wp_region_quiet_below (by kernel_rfl) (by kernel_rfl) ?_
        repeat (first | go_big_quiet_step ((fail)) | quiet_step ((fail)))
        refine wpQuiet_nil ?_
        intro wq hw'
        obtain ⟨⟨dq, osq⟩, hw''⟩ := hw'
        have hbr := of_regrown hw''
        clear hw''
        first
          | (have hbn := bt hbq hbr; clear hcq hfq hzq hbq hbr; have hbq := hbn; clear hbn)
          | (have hbq := hbr; clear hbr)
        obtain ⟨hcq, hfq, hzq⟩ := bcell3 hbq
        have hown := own_below hown hbq
        have hb2 := bt hb2 hbq
        have HS2 := hid (hown.stored (l.length * 4 + 1) (.int .i64 (a.n + 1)))
        go_wp2
        refine ⟨⟨k + 1, hlt, rfl, hb2.setCell hbg _, ?_⟩, HMS.out⟩
        rw [HX.out, HF.out]
        simpa using HS2.out.1
      · have c2' : (b k == b ((k : Int) + 1)) = false := by simpa using c2
        have HX : Hid (aUpto b (k + 1) = aUpto b k ++ [⟨(k : Int) + 1, 1, (b ((k : Int) + 1) - 1) % 8 / 2, decide (8 ≤ b ((k : Int) + 1) - 1)⟩]) := by
          refine hid ?_
          rw [HS.out]; unfold aStep
          rw [if_neg c1, if_neg (by rw [show (k : Int) + 1 - 1 = k by omega]; exact c2)]
        have HMS := hid (ms4 hlt)
        have hlen := HN.out k
        have hmk2 : 1 ≤ b ((k : Int) + 1) ∧ b ((k : Int) + 1) ≤ 16 := by unfold Mark at hmk; omega
        obtain ⟨m1, m2⟩ := hmk2
        have hr1 : (b ((k : Int) + 1) - 1).tmod 8 = (b ((k : Int) + 1) - 1) % 8 := Int.tmod_eq_emod_of_nonneg (by omega)
        have hr2 : ((b ((k : Int) + 1) - 1) % 8).tdiv 2 = (b ((k : Int) + 1) - 1) % 8 / 2 := Int.tdiv_eq_ediv_of_nonneg (by omega)
        clear c1 c2 hmk
        generalize aUpto b k = U at *
        generalize b ((k : Int) + 1) = bp at *
        generalize b k = bk at *
        go_wp2
        refine wp_region_quiet_below (by kernel_rfl) (by kernel_rfl) ?_
        repeat (first | go_big_quiet_step ((fail)) | quiet_step ((fail)))
        refine wpQuiet_nil ?_
        intro wq hw'
        obtain ⟨⟨dq, osq⟩, hw''⟩ := hw'
        have hbr := of_regrown hw''
        clear hw''
        first
          | (have hbn := bt hbq hbr; clear hcq hfq hzq hbq hbr; have hbq := hbn; clear hbn)
          | (have hbq := hbr; clear hbr)
        obtain ⟨hcq, hfq, hzq⟩ := bcell3 hbq
        have hown := own_below hown hbq
        have hb2 := bt hb2 hbq
        go_wp2_with (first | ((with_reducible refine at_op 45 ?_); go_must (refine wpList_append_own_wide _ rfl (.tmp 36) (.tmp 44) 61 rfl wn1.heap.size 63 i0 (.agg #[.int .i64 0, .int .i64 0, .int .i64 0, .bool false]) 4 32 Try.underlying61 HI.out HZ.out HSZ.out HY.out rfl (by decide) u3 U.length (flat U) rfl (hown.alloc _) ⟨wq.heap.size, 0, none⟩ 1 1 [.int .i64 ((k : Int) + 1), .int .i64 1, .int .i64 ((bp - 1) % 8 / 2), .bool (decide (8 ≤ bp - 1))] rfl rfl (cells_new wq _ _ _ _ _) (by intro u hu; simp at hu; rcases hu with rfl | rfl | rfl | rfl <;> rfl) (by unfold maxLen; omega) (by omega) (by have := hb2.size; simp; omega) ?_); intro v3 w3 hown3 hg3 hn3))
        have hb3 := (hb2.alloc hb2.size _).grown hg3 (by have := hb2.size; simp; omega) (fun j hj => (hown.lt j hj).1)
        refine ⟨⟨k + 1, hlt, rfl, hb3, ?_⟩, HMS.out⟩
        rw [HX.out, flat_snoc, List.length_append]
        exact hown3
    · go_wp2
      go_ret
      obtain rfl : k = 255 := by omega
      exact ⟨_, rfl, own_base hown hbw.size, bt hbw hb2⟩
end Go.Proofs.Ytejnpppejalhfaa
