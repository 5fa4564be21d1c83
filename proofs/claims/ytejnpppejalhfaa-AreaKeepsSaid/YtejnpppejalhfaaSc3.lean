/- THE STEP CALCULUS, part 3: what is known of the memory: the blocks of one's own, apart from each other, over a base that stays. -/
import Derived.Test.YtejnpppejalhfaaSc2
import Derived.Laws.AppendOwn
namespace Go.Proofs.Ytejnpppejalhfaa
open Go.RowKit Go.Sort

/-- a thing of one's own: a block of which all cells are known; a slice's row; any other object -/
inductive Asr where
  | blk (g : Nat) (L : List Value)
  | row (e size : Nat) (v : Value) (rows : List (List Value))
  | obj (r : Nat) (o : Obj)
def Asr.fp : Asr → Option Nat
  | .blk g _ => some g
  | .row _ _ v _ => v.ownBlock
  | .obj r _ => some r
def isCells : Obj → Bool
  | .cells .. => true
  | _ => false
def Asr.holds (w : World) : Asr → Prop
  | .blk g L => HoldL w g L
  | .row e size v rows => w.ownsRow 0 e size v rows.length rows.flatten ∧ (∀ r ∈ rows, r.length = size) ∧ ∀ r ∈ rows, r.all (·.oneCell') = true
  | .obj r o => w.heap[r]? = some o ∧ isCells o = false
def Aprt (A B : Asr) : Prop := A.fp = none ∨ A.fp ≠ B.fp
theorem Aprt.symm {A B : Asr} (h : Aprt A B) : Aprt B A := by
  unfold Aprt at *
  rcases h with h | h
  · rw [h]; cases B.fp <;> simp
  · exact Or.inr (Ne.symm h)
def nF : Nat → Prop := fun _ => False
/-- the base w0 stays but for the blocks F; the things Γ are one's own -/
structure St (F : Nat → Prop) (w0 w : World) (Γ : List Asr) : Prop where
  os : w.os = w0.os
  tape : w.tape = w0.tape
  output : w.output = w0.output
  size : w0.heap.size ≤ w.heap.size
  base : ∀ k, k < w0.heap.size → ¬ F k → w.heap[k]? = w0.heap[k]?
  holds : ∀ A ∈ Γ, A.holds w
  own : ∀ A ∈ Γ, ∀ k, A.fp = some k → w0.heap.size ≤ k ∨ F k
  apart : Γ.Pairwise Aprt

theorem Asr.lt {w : World} {A : Asr} (h : A.holds w) {k : Nat} (hk : A.fp = some k) : k < w.heap.size := by
  cases A with
  | blk g L => simp only [Asr.fp, Option.some.injEq] at hk; subst hk; exact HoldL.lt h
  | row e s v rows => exact (h.1.lt k hk).2
  | obj r o => simp only [Asr.fp, Option.some.injEq] at hk; subst hk; exact (Array.getElem?_eq_some_iff.1 h.1).1
theorem Asr.kept {w w' : World} {A : Asr} {row : Option Nat} (h : A.holds w) (hg : w.grownBy w' row) (hne : A.fp = none ∨ A.fp ≠ row) : A.holds w' := by
  cases A with
  | blk g L =>
    have hl := HoldL.lt h
    obtain ⟨t, h⟩ := h
    exact ⟨t, by rw [hg.block g hl (by simpa [Asr.fp] using hne)]; exact h⟩
  | row e s v rows => exact ⟨h.1.kept hg hne, h.2⟩
  | obj r o => exact ⟨by rw [hg.block r (Array.getElem?_eq_some_iff.1 h.1).1 (by simpa [Asr.fp] using hne)]; exact h.1, h.2⟩

section
variable {F : Nat → Prop} {w0 w w' : World} {Γ Δ : List Asr} {A A' : Asr}
theorem St.start (w : World) : St nF w w [] := ⟨rfl, rfl, rfl, Nat.le_refl _, fun _ _ _ => rfl, by simp, by simp, List.Pairwise.nil⟩
theorem St.below (h : St nF w0 w Γ) : Below w0.heap.size w0 w := ⟨h.os, h.tape, h.output, h.size, fun k hk => h.base k hk id⟩
theorem St.of_below (h : Below w0.heap.size w0 w) : St nF w0 w [] := ⟨h.os, h.tape, h.output, h.size, fun k hk _ => h.block k hk, by simp, by simp, List.Pairwise.nil⟩
theorem grown_of_below (h : Below w.heap.size w w') : w.grownBy w' none := ⟨h.os, h.tape, h.output, h.size, fun k hk _ => h.block k hk⟩
/-- blocks have been laid; nothing else -/
theorem St.grow (h : St F w0 w Γ) (hg : w.grownBy w' none) : St F w0 w' Γ where
  os := hg.os.trans h.os
  tape := hg.tape.trans h.tape
  output := hg.output.trans h.output
  size := Nat.le_trans h.size hg.size
  base k hk hF := (hg.block k (Nat.lt_of_lt_of_le hk h.size) (by simp)).trans (h.base k hk hF)
  holds A hA := Asr.kept (h.holds A hA) hg (by cases A.fp <;> simp)
  own := h.own
  apart := h.apart
theorem St.new (h : St F w0 w Γ) (hg : w.grownBy w' none) (hA : A.holds w') (hn : ∀ k, A.fp = some k → w.heap.size ≤ k) : St F w0 w' (A :: Γ) where
  os := (h.grow hg).os
  tape := (h.grow hg).tape
  output := (h.grow hg).output
  size := (h.grow hg).size
  base := (h.grow hg).base
  holds B hB := by
    rcases List.mem_cons.1 hB with rfl | hB
    · exact hA
    · exact (h.grow hg).holds B hB
  own B hB k hk := by
    rcases List.mem_cons.1 hB with rfl | hB
    · exact Or.inl (Nat.le_trans h.size (hn k hk))
    · exact h.own B hB k hk
  apart := by
    refine List.Pairwise.cons (fun B hB => ?_) h.apart
    cases e : A.fp with
    | none => exact Or.inl e
    | some k =>
      right
      intro e2
      have h1 := hn k e
      have h2 := Asr.lt (h.holds B hB) (e2 ▸ e)
      omega
theorem St.perm (h : St F w0 w Γ) (hp : Γ.Perm Δ) : St F w0 w Δ :=
  ⟨h.os, h.tape, h.output, h.size, h.base, fun A hA => h.holds A (hp.mem_iff.2 hA), fun A hA => h.own A (hp.mem_iff.2 hA), hp.pairwise h.apart (fun hab => hab.symm)⟩
theorem St.drop (h : St F w0 w (A :: Γ)) : St F w0 w Γ :=
  ⟨h.os, h.tape, h.output, h.size, h.base, fun B hB => h.holds B (List.mem_cons_of_mem _ hB), fun B hB => h.own B (List.mem_cons_of_mem _ hB), (List.pairwise_cons.1 h.apart).2⟩
theorem St.sub (h : St F w0 w Γ) (hs : Δ.Sublist Γ) : St F w0 w Δ :=
  ⟨h.os, h.tape, h.output, h.size, h.base, fun B hB => h.holds B (hs.subset hB), fun B hB => h.own B (hs.subset hB), h.apart.sublist hs⟩
theorem St.at_ (h : St F w0 w Γ) {i : Nat} (hi : Γ[i]? = some A) : A.holds w := h.holds A (List.mem_of_getElem? hi)
theorem apart_at (h : Γ.Pairwise Aprt) {i j : Nat} {B : Asr} (hi : Γ[i]? = some A) (hj : Γ[j]? = some B) (hne : i ≠ j) : Aprt A B := by
  obtain ⟨hi1, rfl⟩ := List.getElem?_eq_some_iff.1 hi
  obtain ⟨hj1, rfl⟩ := List.getElem?_eq_some_iff.1 hj
  rcases Nat.lt_or_gt_of_ne hne with hlt | hlt
  · exact List.pairwise_iff_getElem.1 h i j hi1 hj1 hlt
  · exact (List.pairwise_iff_getElem.1 h j i hj1 hi1 hlt).symm
/-- the i-th thing has turned into another -/
theorem St.upd (h : St F w0 w Γ) {i : Nat} (hi : Γ[i]? = some A) (hg : w.grownBy w' A.fp) (hA : A'.holds w') (hn : ∀ k, A'.fp = some k → A.fp = some k ∨ w.heap.size ≤ k) : St F w0 w' (Γ.set i A') where
  os := hg.os.trans h.os
  tape := hg.tape.trans h.tape
  output := hg.output.trans h.output
  size := Nat.le_trans h.size hg.size
  base k hk hF := by
    refine (hg.block k (Nat.lt_of_lt_of_le hk h.size) (fun e => ?_)).trans (h.base k hk hF)
    rcases h.own A (List.mem_of_getElem? hi) k e.symm with h1 | h1
    · omega
    · exact hF h1
  holds B hB := by
    obtain ⟨j, hj⟩ := List.mem_iff_getElem?.1 hB
    rw [List.getElem?_set] at hj
    split at hj
    · split at hj
      · cases hj; exact hA
      · cases hj
    · rename_i hne
      refine Asr.kept (h.holds B (List.mem_of_getElem? hj)) hg ?_
      have := apart_at h.apart hj hi (fun e => hne e.symm)
      exact this
  own B hB k hk := by
    obtain ⟨j, hj⟩ := List.mem_iff_getElem?.1 hB
    rw [List.getElem?_set] at hj
    split at hj
    · split at hj
      · cases hj
        rcases hn k hk with h1 | h1
        · exact h.own A (List.mem_of_getElem? hi) k h1
        · exact Or.inl (Nat.le_trans h.size h1)
      · cases hj
    · exact h.own B (List.mem_of_getElem? hj) k hk
  apart := by
    rw [List.pairwise_iff_getElem]
    intro j k hj hk hlt
    have hjl : j < Γ.length := by simpa using hj
    have hkl : k < Γ.length := by simpa using hk
    have key : ∀ (m : Nat) (hm : m < Γ.length), m ≠ i → Aprt A' Γ[m] := fun m hm hne => by
      have hap := apart_at h.apart hi (List.getElem?_eq_getElem hm) (Ne.symm hne)
      cases e : A'.fp with
      | none => exact Or.inl e
      | some q =>
        right
        intro e2
        have h2 := Asr.lt (h.holds Γ[m] (List.getElem_mem hm)) (e2 ▸ e)
        rcases hn q e with h1 | h1
        · rcases hap with hap | hap
          · rw [hap] at h1; cases h1
          · exact hap (h1.trans (e.symm.trans e2))
        · omega
    rw [List.getElem_set, List.getElem_set]
    split
    · split
      · omega
      · exact key k hkl (by omega)
    · split
      · exact (key j hjl (by omega)).symm
      · exact List.pairwise_iff_getElem.1 h.apart j k hjl hkl hlt
/-- behind a call: what it made -/
theorem St.trans (h : St F w0 w Γ) (h2 : St nF w w' Δ) : St F w0 w' (Δ ++ Γ) where
  os := h2.os.trans h.os
  tape := h2.tape.trans h.tape
  output := h2.output.trans h.output
  size := Nat.le_trans h.size h2.size
  base k hk hF := (h2.base k (Nat.lt_of_lt_of_le hk h.size) id).trans (h.base k hk hF)
  holds A hA := by
    rcases List.mem_append.1 hA with hA | hA
    · exact h2.holds A hA
    · exact Asr.kept (h.holds A hA) (grown_of_below h2.below) (by cases A.fp <;> simp)
  own A hA k hk := by
    rcases List.mem_append.1 hA with hA | hA
    · rcases h2.own A hA k hk with h1 | h1
      · exact Or.inl (Nat.le_trans h.size h1)
      · exact h1.elim
    · exact h.own A hA k hk
  apart := by
    refine List.pairwise_append.2 ⟨h2.apart, h.apart, fun A hA B hB => ?_⟩
    cases e : A.fp with
    | none => exact Or.inl e
    | some k =>
      right
      intro e2
      have h3 := Asr.lt (h.holds B hB) (e2 ▸ e)
      rcases h2.own A hA k e with h1 | h1
      · omega
      · exact h1
def fps (Θ : List Asr) : Nat → Prop := fun k => ∃ A ∈ Θ, A.fp = some k
/-- behind a call that turned the things Θ -/
theorem St.transM {Θ : List Asr} (h : St F w0 w (Θ ++ Γ)) (h2 : St (fps Θ) w w' Δ) : St F w0 w' (Δ ++ Γ) where
  os := h2.os.trans h.os
  tape := h2.tape.trans h.tape
  output := h2.output.trans h.output
  size := Nat.le_trans h.size h2.size
  base k hk hF := by
    refine (h2.base k (Nat.lt_of_lt_of_le hk h.size) (fun ⟨A, hA, e⟩ => ?_)).trans (h.base k hk hF)
    rcases h.own A (List.mem_append_left _ hA) k e with h1 | h1
    · omega
    · exact hF h1
  holds A hA := by
    rcases List.mem_append.1 hA with hA | hA
    · exact h2.holds A hA
    · have hh := h.holds A (List.mem_append_right _ hA)
      have hnot : ∀ k, A.fp = some k → ¬ fps Θ k := fun k hk ⟨B, hB, e⟩ => by
        have := (List.pairwise_append.1 h.apart).2.2 B hB A hA
        rcases this with h1 | h1
        · rw [h1] at e; cases e
        · exact h1 (e.trans hk.symm)
      have hkeep : ∀ k, A.fp = some k → w'.heap[k]? = w.heap[k]? := fun k hk => h2.base k (Asr.lt hh hk) (hnot k hk)
      cases A with
      | blk g L =>
        obtain ⟨t, ht⟩ := hh
        exact ⟨t, by rw [hkeep g rfl]; exact ht⟩
      | row e s v rows =>
        refine ⟨⟨hh.1.1, ?_⟩, hh.2⟩
        rcases hh.1.2 with hn | ⟨g, cap, cur, rfl, hb, hgg, rest⟩
        · exact .inl hn
        · exact .inr ⟨g, cap, cur, rfl, hb, by rw [hkeep g rfl]; exact hgg, rest⟩
      | obj r o => exact ⟨by rw [hkeep r rfl]; exact hh.1, hh.2⟩
  own A hA k hk := by
    rcases List.mem_append.1 hA with hA | hA
    · rcases h2.own A hA k hk with h1 | ⟨B, hB, e⟩
      · exact Or.inl (Nat.le_trans h.size h1)
      · exact h.own B (List.mem_append_left _ hB) k e
    · exact h.own A (List.mem_append_right _ hA) k hk
  apart := by
    refine List.pairwise_append.2 ⟨h2.apart, (List.pairwise_append.1 h.apart).2.1, fun A hA B hB => ?_⟩
    cases e : A.fp with
    | none => exact Or.inl e
    | some k =>
      right
      intro e2
      have h3 := Asr.lt (h.holds B (List.mem_append_right _ hB)) (e2 ▸ e)
      rcases h2.own A hA k e with h1 | ⟨C, hC, e3⟩
      · omega
      · have := (List.pairwise_append.1 h.apart).2.2 C hC B hB
        rcases this with h1 | h1
        · rw [h1] at e3; cases e3
        · exact h1 (e3.trans (e.symm.trans e2))
/-- a callee's base is all that the caller has: what it turns are things of the caller's -/
theorem St.startM (h : St F w0 w (Δ ++ Γ)) : St (fps Δ) w w Δ :=
  ⟨rfl, rfl, rfl, Nat.le_refl _, fun _ _ _ => rfl, fun A hA => h.holds A (List.mem_append_left _ hA), fun A hA _ hk => Or.inr ⟨A, hA, hk⟩, (List.pairwise_append.1 h.apart).1⟩

/-! cells -/
theorem St.blkC (h : St F w0 w Γ) (i : Nat) {g k : Nat} {L : List Value} {v : Value} (hi : Γ[i]? = some (.blk g L)) (hk : L[k]? = some v) : w.cell? ⟨g, k, none⟩ = some v := by
  rw [HoldL.cell (h.at_ hi)]; exact hk
theorem rows_at {rows : List (List Value)} {size : Nat} (hs : ∀ r ∈ rows, r.length = size) : ∀ {i j : Nat} {r : List Value}, rows[i]? = some r → j < size → rows.flatten[i * size + j]? = r[j]? := by
  induction rows with
  | nil => intro i j r h; simp at h
  | cons x rest ih =>
    intro i j r h hj
    have hx : x.length = size := hs x List.mem_cons_self
    cases i with
    | zero =>
      simp at h
      subst h
      rw [List.flatten_cons, List.getElem?_append_left (by omega)]
      simp
    | succ i =>
      rw [List.flatten_cons, List.getElem?_append_right (by rw [hx, Nat.succ_mul]; omega)]
      rw [show (i + 1) * size + j - x.length = i * size + j from by rw [hx, Nat.succ_mul]; omega]
      exact ih (fun r hr => hs r (List.mem_cons_of_mem _ hr)) (by simpa using h) hj
theorem rows_len {rows : List (List Value)} {size : Nat} (hs : ∀ r ∈ rows, r.length = size) : rows.flatten.length = rows.length * size := by
  induction rows with
  | nil => simp
  | cons x rest ih =>
    rw [List.flatten_cons, List.length_append, hs x List.mem_cons_self, ih (fun r hr => hs r (List.mem_cons_of_mem _ hr)), List.length_cons, Nat.succ_mul]
    omega
theorem lt_of_getE {α : Type} {l : List α} {i : Nat} {x : α} (h : l[i]? = some x) : i < l.length := (List.getElem?_eq_some_iff.1 h).1
theorem St.rowC (h : St F w0 w Γ) (i : Nat) {e size g n cap k j : Nat} {rows : List (List Value)} {r : List Value} {u : Value} (hi : Γ[i]? = some (.row e size (.slice (some ⟨g, 0, none⟩) n cap) rows)) (hk : rows[k]? = some r) (hj : r[j]? = some u) : w.cell? ⟨g, k * size + j, none⟩ = some u := by
  obtain ⟨ho, hs, _⟩ := h.at_ hi
  have hjl := lt_of_getE hj
  rw [hs r (List.mem_of_getElem? hk)] at hjl
  have hc := ho.cells (g := g) rfl (k * size + j) u (by rw [rows_at hs hk hjl]; exact hj)
  rwa [show (⟨g, 0, none⟩ : Addr).add (k * size + j) = ⟨g, k * size + j, none⟩ from by unfold Addr.add; split <;> simp_all] at hc
end
end Go.Proofs.Ytejnpppejalhfaa
