/- Texts that the proof stands on, one behind the other: PlEy, PlEy2, Im18, Im19, LawImg, Op1, OpU, OpI. -/
import Derived.Deep.Slices
import Derived.OpenShut
import Derived.WideShapes
import Derived.ProofKit
import Derived.Test.YtejnpppejalhfaaRows
import Derived.Test.YtejnpppejalhfaaPImageWrites6
/- The reference's eye, in plain Lean: the bytes that are left, and whether they were bad. -/
namespace Go.Proofs.Ytejnpppejalhfaa
open Go.RowKit Go.Sort

abbrev Ey := Bs8 × Bool
def eyNum (e : Ey) : Int × Ey := if e.2 = true ∨ e.1.length < 8 then (0, (e.1, true)) else (wrap64 (numB (e.1.take 8)), (e.1.drop 8, false))
def eyCnt (e : Ey) : Int × Ey := if (eyNum e).2.2 = true ∨ (eyNum e).1 < 0 ∨ ((eyNum e).2.1.length : Int) < (eyNum e).1 then (0, ((eyNum e).2.1, true)) else eyNum e
def eyText (e : Ey) : Bs8 × Ey := if (eyCnt e).2.2 = true then ([], (eyCnt e).2) else ((eyCnt e).2.1.take (eyCnt e).1.toNat, ((eyCnt e).2.1.drop (eyCnt e).1.toNat, false))
def eyTruth (e : Ey) : Bool × Ey := (decide ((eyNum e).1 = 1), ((eyNum e).2.1, if (eyNum e).1 ≠ 0 ∧ (eyNum e).1 ≠ 1 then true else (eyNum e).2.2))
def eB {α β : Type} (f : Ey → α × Ey) (g : α → Ey → β × Ey) : Ey → β × Ey := fun e => g (f e).1 (f e).2
def eP {α : Type} (x : α) : Ey → α × Ey := fun e => (x, e)
/-- the eye reads what the reader reads -/
structure EyS {α : Type} (f : Ey → α × Ey) (rd : Bs8 → Option (α × Bs8)) : Prop where
  good : ∀ l x r, rd l = some (x, r) → f (l, false) = (x, (r, false))
  bad : ∀ l, rd l = none → (f (l, false)).2.2 = true
  stay : ∀ l, (f (l, true)).2.2 = true
theorem EyS.bind {α β : Type} {f : Ey → α × Ey} {g : α → Ey → β × Ey} {rd : Bs8 → Option (α × Bs8)} {rd2 : α → Bs8 → Option (β × Bs8)} (hf : EyS f rd) (hg : ∀ a, EyS (g a) (rd2 a)) : EyS (eB f g) (fun l => (rd l).bind fun p => rd2 p.1 p.2) := by
  refine ⟨fun l x r h => ?_, fun l h => ?_, fun l => ?_⟩
  · obtain ⟨p, h1, h2⟩ := Option.bind_eq_some_iff.1 h
    unfold eB
    rw [hf.good l p.1 p.2 h1]
    exact (hg p.1).good _ _ _ h2
  · unfold eB
    cases h1 : rd l with
    | none =>
      have := hf.bad l h1
      generalize f (l, false) = q at this ⊢
      obtain ⟨a, l2, b⟩ := q
      simp only at this
      subst this
      exact (hg a).stay l2
    | some p =>
      rw [hf.good l p.1 p.2 h1]
      rw [h1, Option.bind_some] at h
      exact (hg p.1).bad _ h
  · unfold eB
    have := hf.stay l
    generalize f (l, true) = q at this ⊢
    obtain ⟨a, l2, b⟩ := q
    simp only at this
    subst this
    exact (hg a).stay l2
theorem EyS.pure {α : Type} (x : α) : EyS (eP x) (fun l => some (x, l)) := ⟨fun l y r h => (by cases h; rfl), fun l h => (by cases h), fun l => rfl⟩
theorem eyNum_ok : EyS eyNum rdNum := by
  refine ⟨fun l x r h => ?_, fun l h => ?_, fun l => ?_⟩
  · obtain ⟨h1, rfl, rfl⟩ := rdNum_some h
    unfold eyNum
    rw [if_neg (by simp; omega)]
  · unfold rdNum at h
    split at h
    · cases h
    · unfold eyNum; rw [if_pos (by simp; omega)]
  · unfold eyNum; rw [if_pos (by simp)]
theorem eyCnt_ok : EyS eyCnt rdCnt := by
  refine ⟨fun l x r h => ?_, fun l h => ?_, fun l => ?_⟩
  · unfold rdCnt at h
    obtain ⟨p, h1, h2⟩ := Option.bind_eq_some_iff.1 h
    split at h2
    · cases h2
      unfold eyCnt
      rw [eyNum_ok.good l _ _ h1, if_neg (by simp; omega)]
    · cases h2
  · unfold rdCnt at h
    unfold eyCnt
    cases h1 : rdNum l with
    | none => rw [if_pos (Or.inl (eyNum_ok.bad l h1))]
    | some p =>
      rw [h1, Option.bind_some] at h
      rw [eyNum_ok.good l p.1 p.2 h1]
      split at h
      · cases h
      · rw [if_pos (by simp; omega)]
  · unfold eyCnt; rw [if_pos (Or.inl (eyNum_ok.stay l))]
theorem eyText_ok : EyS eyText rdText := by
  refine ⟨fun l x r h => ?_, fun l h => ?_, fun l => ?_⟩
  · obtain ⟨n, r1, h1, h2⟩ := rdText_some h
    obtain ⟨h3, rfl, rfl⟩ := rdTake_some h2
    have hc : rdCnt l = some (n, r1) := by unfold rdCnt; rw [h1, Option.bind_some, if_pos h3]
    unfold eyText
    rw [eyCnt_ok.good l _ _ hc]
    simp
  · unfold eyText
    cases h1 : rdCnt l with
    | none => have := eyCnt_ok.bad l h1; rw [if_pos this]; exact this
    | some p =>
      exfalso
      unfold rdCnt at h1
      obtain ⟨q, h2, h3⟩ := Option.bind_eq_some_iff.1 h1
      split at h3
      · cases h3
        unfold rdText at h
        rw [h2, Option.bind_some] at h
        unfold rdTake at h
        rw [if_pos (by assumption)] at h
        cases h
      · cases h3
  · unfold eyText; have := eyCnt_ok.stay l; rw [if_pos this]; exact this
theorem eyTruth_ok : EyS eyTruth rdTruth := by
  refine ⟨fun l x r h => ?_, fun l h => ?_, fun l => ?_⟩
  · obtain ⟨n, h1, h2, rfl⟩ := rdTruth_some h
    unfold eyTruth
    rw [eyNum_ok.good l _ _ h1]
    rw [if_neg (by simp; omega)]
  · unfold rdTruth at h
    unfold eyTruth
    cases h1 : rdNum l with
    | none =>
      have := eyNum_ok.bad l h1
      simp only [this, ite_self]
    | some p =>
      rw [h1, Option.bind_some] at h
      rw [eyNum_ok.good l p.1 p.2 h1]
      split at h
      · cases h
      · rename_i h2
        simp only [not_or] at h2
        simp only [ne_eq, h2, not_false_eq_true, and_self, if_true]
  · unfold eyTruth
    have := eyNum_ok.stay l
    simp only [this, ite_self]
def eySg : Ey → Sg × Ey := eB eyNum fun a => eB eyNum fun b => eB eyText fun c => eB eyTruth fun d => eB eyTruth fun e => eP ⟨a, b, c, d, e⟩
def eySy : Ey → Sy × Ey := eB eyText fun a => eB eyNum fun b => eP ⟨a, b⟩
def eyRl : Ey → Rl × Ey := eB eyNum fun a => eB eyText fun b => eB eyNum fun c => eP ⟨a, b, c⟩
theorem eySg_ok : EyS eySg rdSg := eyNum_ok.bind fun _ => eyNum_ok.bind fun _ => eyText_ok.bind fun _ => eyTruth_ok.bind fun _ => eyTruth_ok.bind fun _ => EyS.pure _
theorem eySy_ok : EyS eySy rdSy := eyText_ok.bind fun _ => eyNum_ok.bind fun _ => EyS.pure _
theorem eyRl_ok : EyS eyRl rdRl := eyNum_ok.bind fun _ => eyText_ok.bind fun _ => eyNum_ok.bind fun _ => EyS.pure _
/-- sizes -/
theorem eyNum_len (e : Ey) : (eyNum e).2.1.length ≤ e.1.length := by
  unfold eyNum; split
  · exact Nat.le_refl _
  · simp
theorem eyCnt_len (e : Ey) : (eyCnt e).2.1.length ≤ e.1.length := by
  have := eyNum_len e
  unfold eyCnt; split
  · exact this
  · exact this
theorem eyText_len (e : Ey) : (eyText e).2.1.length ≤ e.1.length := by
  have := eyCnt_len e
  unfold eyText; split
  · exact this
  · simp only [List.length_drop]; omega
theorem eyTruth_len (e : Ey) : (eyTruth e).2.1.length ≤ e.1.length := eyNum_len e
theorem eyCnt_in (e : Ey) (h : (eyCnt e).2.2 = false) : 0 ≤ (eyCnt e).1 ∧ (eyCnt e).1 ≤ (eyCnt e).2.1.length := by
  unfold eyCnt at h ⊢
  split at h
  · cases h
  · rename_i h2
    rw [if_neg h2]
    omega
/-- THE READING OF A LIST, so far: k things of N are read, and the eye is good; or it is bad, and nothing comes of it all -/
def Sofar {α : Type} (one : Bs8 → Option (α × Bs8)) (l1 : Bs8) (N : Int) (xs : List α) (e : Ey) : Prop := (e.2 = false ∧ rdMany one xs.length l1 = some (xs, e.1)) ∨ (e.2 = true ∧ rdMany one N.toNat l1 = none)
theorem Sofar.next {α : Type} {one : Bs8 → Option (α × Bs8)} {f : Ey → α × Ey} (hf : EyS f one) {l1 r : Bs8} {N : Int} {xs : List α} (h : rdMany one xs.length l1 = some (xs, r)) (hlt : (xs.length : Int) < N) : Sofar one l1 N (xs ++ [(f (r, false)).1]) (f (r, false)).2 := by
  cases h1 : one r with
  | none => exact Or.inr ⟨hf.bad r h1, rdMany_none h h1 (by omega)⟩
  | some p =>
    rw [hf.good r p.1 p.2 h1]
    exact Or.inl ⟨rfl, by rw [List.length_append]; exact rdMany_snoc h h1⟩
end Go.Proofs.Ytejnpppejalhfaa
/- The reference's reading of lists, in plain Lean. -/
namespace Go.Proofs.Ytejnpppejalhfaa
open Go.RowKit Go.Sort

/-- the eye is good, and what was read leaves what Pre tells; or it is bad, and all is lost -/
def Gd (Pre : Bs8 → Prop) (dead : Prop) (e : Ey) : Prop := (e.2 = false ∧ Pre e.1) ∨ (e.2 = true ∧ dead)
def LoopI {α : Type} (Pre : Bs8 → Prop) (dead : Prop) (one : Bs8 → Option (α × Bs8)) (N : Int) (l1 : Bs8) (xs : List α) (e : Ey) : Prop :=
  (e.2 = false ∧ ∃ r, Pre r ∧ rdCnt r = some (N, l1) ∧ rdMany one xs.length l1 = some (xs, e.1)) ∨ (e.2 = true ∧ dead)
section
variable {α : Type} {Pre : Bs8 → Prop} {dead : Prop} {one : Bs8 → Option (α × Bs8)}
theorem Gd.step {β : Type} {rd : Bs8 → Option (β × Bs8)} {f : Ey → β × Ey} (hf : EyS f rd) {e : Ey} (h : Gd Pre dead e) (hd : ∀ r, Pre r → rd r = none → dead) : Gd (fun r' => ∃ r, Pre r ∧ rd r = some ((f e).1, r')) dead (f e).2 := by
  obtain ⟨l, b⟩ := e
  rcases h with ⟨hb, hp⟩ | ⟨hb, hp⟩
  · simp only at hb hp
    subst hb
    cases h1 : rd l with
    | none => exact Or.inr ⟨hf.bad l h1, hd l hp h1⟩
    | some p => rw [hf.good l p.1 p.2 h1]; exact Or.inl ⟨rfl, l, hp, h1⟩
  · simp only at hb
    subst hb
    exact Or.inr ⟨hf.stay l, hp⟩
theorem LoopI.start {e : Ey} (h : Gd Pre dead e) (hd : ∀ r, Pre r → rdList one r = none → dead) : LoopI Pre dead one (eyCnt e).1 (eyCnt e).2.1 [] (eyCnt e).2 := by
  have := h.step eyCnt_ok (fun r hr h1 => hd r hr (by unfold rdList; rw [h1]; rfl))
  rcases this with ⟨hb, r, hp, h1⟩ | ⟨hb, hp⟩
  · exact Or.inl ⟨hb, r, hp, h1, rfl⟩
  · exact Or.inr ⟨hb, hp⟩
theorem rdList_at {r l1 : Bs8} {N : Int} (h : rdCnt r = some (N, l1)) : rdList one r = rdMany one N.toNat l1 := by unfold rdList; rw [h]; rfl
theorem LoopI.next {f : Ey → α × Ey} (hf : EyS f one) {N : Int} {l1 l : Bs8} {xs : List α} (h : LoopI Pre dead one N l1 xs (l, false)) (hd : ∀ r, Pre r → rdList one r = none → dead) (hlt : (xs.length : Int) < N) : LoopI Pre dead one N l1 (xs ++ [(f (l, false)).1]) (f (l, false)).2 := by
  rcases h with ⟨_, r, hp, hc, hx⟩ | ⟨hb, _⟩
  · rcases Sofar.next hf hx hlt with ⟨h1, h2⟩ | ⟨h1, h2⟩
    · exact Or.inl ⟨h1, r, hp, hc, h2⟩
    · exact Or.inr ⟨h1, hd r hp (by rw [rdList_at hc]; exact h2)⟩
  · cases hb
theorem LoopI.done {N : Int} {l1 : Bs8} {xs : List α} {e : Ey} (h : LoopI Pre dead one N l1 xs e) (hN : e.2 = true ∨ (xs.length : Int) = N) : Gd (fun r' => ∃ r, Pre r ∧ rdList one r = some (xs, r')) dead e := by
  rcases h with ⟨hb, r, hp, hc, hx⟩ | ⟨hb, hp⟩
  · rcases hN with hN | hN
    · rw [hb] at hN; cases hN
    · exact Or.inl ⟨hb, r, hp, by rw [rdList_at hc, ← hN]; simpa using hx⟩
  · exact Or.inr ⟨hb, hp⟩
end
theorem eyCnt_le (e : Ey) : 0 ≤ (eyCnt e).1 ∧ (eyCnt e).1 ≤ (e.1.length : Int) := by
  have h1 := eyNum_len e
  unfold eyCnt
  split
  · exact ⟨Int.le_refl _, by simp⟩
  · rename_i h
    simp only [not_or] at h
    constructor <;> omega
theorem eySg_len (e : Ey) : (eySg e).2.1.length ≤ e.1.length := by
  unfold eySg eB eP
  have h1 := eyNum_len e
  have h2 := eyNum_len (eyNum e).2
  have h3 := eyText_len (eyNum (eyNum e).2).2
  have h4 := eyTruth_len (eyText (eyNum (eyNum e).2).2).2
  have h5 := eyTruth_len (eyTruth (eyText (eyNum (eyNum e).2).2).2).2
  simp only
  omega
theorem eySy_len (e : Ey) : (eySy e).2.1.length ≤ e.1.length := by
  unfold eySy eB eP
  have h1 := eyText_len e
  have h2 := eyNum_len (eyText e).2
  simp only
  omega
theorem eyRl_len (e : Ey) : (eyRl e).2.1.length ≤ e.1.length := by
  unfold eyRl eB eP
  have h1 := eyNum_len e
  have h2 := eyText_len (eyNum e).2
  have h3 := eyNum_len (eyText (eyNum e).2).2
  simp only
  omega
/-! what is read, step by step -/
def Pr1 (s nm : Bs8) : Bs8 → Prop := fun r => rdText s = some (nm, r)
def Pr2 (s nm : Bs8) (ns : List Bs8) : Bs8 → Prop := fun r' => ∃ r, Pr1 s nm r ∧ rdList rdText r = some (ns, r')
def Pr3 (s nm : Bs8) (ns : List Bs8) (ss : List Sg) : Bs8 → Prop := fun r' => ∃ r, Pr2 s nm ns r ∧ rdList rdSg r = some (ss, r')
def Pr4 (s nm : Bs8) (ns : List Bs8) (ss : List Sg) (ys : List Sy) : Bs8 → Prop := fun r' => ∃ r, Pr3 s nm ns ss r ∧ rdList rdSy r = some (ys, r')
def Pr5 (s nm : Bs8) (ns : List Bs8) (ss : List Sg) (ys : List Sy) (rs : List Rl) : Bs8 → Prop := fun r' => ∃ r, Pr4 s nm ns ss ys r ∧ rdList rdRl r = some (rs, r')
section
variable {s nm : Bs8} {ns : List Bs8} {ss : List Sg} {ys : List Sy} {rs : List Rl} {r r' : Bs8} {en : Int}
theorem Pr1.dead (h : Pr1 s nm r) (h2 : rdList rdText r = none) : rdIm s = none := by unfold Pr1 at h; unfold rdIm; simp only [Option.bind_some, Option.bind_none, *]
theorem Pr2.dead (h : Pr2 s nm ns r) (h2 : rdList rdSg r = none) : rdIm s = none := by
  obtain ⟨r1, h1, k1⟩ := h
  unfold Pr1 at h1
  unfold rdIm; simp only [Option.bind_some, Option.bind_none, *]
theorem Pr3.dead (h : Pr3 s nm ns ss r) (h2 : rdList rdSy r = none) : rdIm s = none := by
  obtain ⟨r2, ⟨r1, h1, k1⟩, k2⟩ := h
  unfold Pr1 at h1
  unfold rdIm; simp only [Option.bind_some, Option.bind_none, *]
theorem Pr4.dead (h : Pr4 s nm ns ss ys r) (h2 : rdList rdRl r = none) : rdIm s = none := by
  obtain ⟨r3, ⟨r2, ⟨r1, h1, k1⟩, k2⟩, k3⟩ := h
  unfold Pr1 at h1
  unfold rdIm; simp only [Option.bind_some, Option.bind_none, *]
theorem Pr5.dead (h : Pr5 s nm ns ss ys rs r) (h2 : rdNum r = none) : rdIm s = none := by
  obtain ⟨r4, ⟨r3, ⟨r2, ⟨r1, h1, k1⟩, k2⟩, k3⟩, k4⟩ := h
  unfold Pr1 at h1
  unfold rdIm; simp only [Option.bind_some, Option.bind_none, *]
theorem Pr5.all (h : Pr5 s nm ns ss ys rs r) (h2 : rdNum r = some (en, r')) : rdIm s = some (⟨nm, ns, ss, ys, rs, en⟩, r') := by
  obtain ⟨r4, ⟨r3, ⟨r2, ⟨r1, h1, k1⟩, k2⟩, k3⟩, k4⟩ := h
  unfold Pr1 at h1
  unfold rdIm; simp only [Option.bind_some, *]
end
end Go.Proofs.Ytejnpppejalhfaa
/- The reference's eye. -/
namespace Go.Proofs.Ytejnpppejalhfaa
open Go.RowKit Go.Sort
abbrev EyA (g : Nat) (e : Ey) : Asr := .blk g [.string ⟨e.1.toArray⟩, .bool e.2]
def EyOk (w : World) (g : Nat) (e : Ey) (v0 : Value) (e' : Ey) : Value → World → Prop := fun v w' => v = v0 ∧ St (fps [EyA g e]) w w' [EyA g e']
theorem eyeNum_fn {F : Nat → Prop} {w0 w : World} {Γ : List Asr} {g : Nat} {e : Ey} (hS0 : St F w0 w (EyA g e :: Γ)) (hl : e.1.length ≤ 1048576) : Fn Try.prog 102 [.pointer (some ⟨g, 0, none⟩)] w (EyOk w g e (.int .i64 (eyNum e).1) (eyNum e).2) := by
  obtain ⟨l, b⟩ := e
  simp only at hl
  refine fn_enter (fn := Try.f102) ⟨Try.func102, by kernel_rfl, by kernel_rfl⟩ (by exact rfl) Try.ntmps102 (by exact rfl) ?_
  have hS := hS0.startM1
  simp only [EyA] at hS
  cases b with
  | true =>
    repeat' (first | (first | ((with_reducible apply l_pure tabOk); exact rfl; exact rfl) | ((with_reducible apply l_load); exact rfl; (((with_reducible apply Loads.sc tabOk); exact rfl; ((exact hS.blkC 0 rfl rfl)))); exact rfl) | (((with_reducible apply l_store hS tabOk (i := 0)); exact rfl; exact rfl; exact rfl; exact rfl; exact rfl; exact rfl; exact rfl; exact rfl; ((exact (rfl : _ = [_, _]))); intro w' hS'; simp only [List.set] at hS'; clear hS; have hS := hS'; clear hS')) | (first | ((with_reducible apply l_no); exact rfl; exact rfl; exact rfl; exact rfl; ((exact rfl)); exact rfl) | ((with_reducible apply l_pick1); exact rfl; ((exact rfl)); exact rfl; exact rfl))) | (first | (with_reducible apply c_seq) | (with_reducible apply c_region) | (with_reducible apply l_nil) | (with_reducible apply q_then) | (with_reducible apply c_ret) | (with_reducible apply q_then_ret)) | (((with_reducible apply c_ift); exact rfl; (exact rfl))))
    (apply q_ret1); (repeat (first | exact ResL.nil | (apply ResL.tmp; exact rfl)))
    exact ⟨rfl, hS⟩
  | false =>
    by_cases h : (l.length : Int) < 8
    · have hd : decide ((l.length : Int) < 8) = true := decide_eq_true h
      repeat' (first | (first | ((with_reducible apply l_pure tabOk); exact rfl; exact rfl) | ((with_reducible apply l_load); exact rfl; (((with_reducible apply Loads.sc tabOk); exact rfl; ((exact hS.blkC 0 rfl rfl)))); exact rfl) | (((with_reducible apply l_store hS tabOk (i := 0)); exact rfl; exact rfl; exact rfl; exact rfl; exact rfl; exact rfl; exact rfl; exact rfl; ((exact (rfl : _ = [_, _]))); intro w' hS'; simp only [List.set] at hS'; clear hS; have hS := hS'; clear hS')) | (first | ((with_reducible apply l_yes); exact rfl; exact rfl; exact rfl; exact rfl; (exact rfl)) | ((with_reducible apply l_pick2); exact rfl; ((exact rfl)); exact rfl; exact rfl))) | (first | (with_reducible apply c_seq) | (with_reducible apply c_region) | (with_reducible apply l_nil) | (with_reducible apply q_then) | (with_reducible apply c_ret) | (with_reducible apply q_then_ret)) | (((with_reducible apply c_ift); exact rfl; (assumption))))
      (apply q_ret1); (repeat (first | exact ResL.nil | (apply ResL.tmp; exact rfl)))
      have e1 : eyNum (l, false) = (0, (l, true)) := by unfold eyNum; rw [if_pos (by simp; omega)]
      rw [e1]
      exact ⟨rfl, hS⟩
    · have hd : decide ((l.length : Int) < 8) = false := decide_eq_false h
      have hn := fun w => Number_fn (l.take 8) w (by rw [List.length_take]; omega)
      have e1 : eyNum (l, false) = (wrap64 (numB (l.take 8)), (l.drop 8, false)) := by unfold eyNum; rw [if_neg (by simp; omega)]
      repeat' (first | (first | ((with_reducible apply l_pure tabOk); exact rfl; exact rfl) | ((with_reducible apply l_load); exact rfl; (((with_reducible apply Loads.sc tabOk); exact rfl; ((exact hS.blkC 0 rfl rfl)))); exact rfl) | (((with_reducible apply l_store hS tabOk (i := 0)); exact rfl; exact rfl; exact rfl; exact rfl; exact rfl; exact rfl; exact rfl; exact rfl; ((exact (rfl : _ = [_, _]))); intro w' hS'; simp only [List.set] at hS'; clear hS; have hS := hS'; clear hS')) | (first | ((with_reducible apply l_yes); exact rfl; exact rfl; exact rfl; exact rfl; (exact rfl)) | ((with_reducible apply l_pick2); exact rfl; ((exact rfl)); exact rfl; exact rfl))) | (first | (with_reducible apply c_seq) | (with_reducible apply c_region) | (with_reducible apply l_nil) | (with_reducible apply q_then) | (with_reducible apply c_skip) | (with_reducible apply c_ret)) | (((with_reducible apply c_iff); exact rfl; (assumption))) | ((with_reducible apply l_strTo tabOk); exact rfl; exact rfl; exact rfl; decide; omega; exact rfl) | ((with_reducible apply l_strFrom tabOk); exact rfl; exact rfl; exact rfl; decide; omega; exact rfl) | ((with_reducible apply l_call); exact rfl; exact rfl; exact hn _; exact rfl; rintro _ w' ⟨rfl, hS'⟩; replace hS := hS.transA hS'; simp only [appA] at hS; clear hS'))
      (apply q_ret1); (repeat (first | exact ResL.nil | (apply ResL.tmp; exact rfl)))
      rw [e1]
      exact ⟨rfl, hS⟩
theorem eyeCnt_fn {F : Nat → Prop} {w0 w : World} {Γ : List Asr} {g : Nat} {e : Ey} (hS0 : St F w0 w (EyA g e :: Γ)) (hl : e.1.length ≤ 1048576) : Fn Try.prog 101 [.pointer (some ⟨g, 0, none⟩)] w (EyOk w g e (.int .i64 (eyCnt e).1) (eyCnt e).2) := by
  refine fn_enter (fn := Try.f101) ⟨Try.func101, by kernel_rfl, by kernel_rfl⟩ (by exact rfl) Try.ntmps101 (by exact rfl) ?_
  have hS := hS0.startM1
  have k1 := eyNum_len e
  repeat' (first | (first | ((with_reducible apply l_pure tabOk); exact rfl; exact rfl) | ((with_reducible apply l_load); exact rfl; (((with_reducible apply Loads.sc tabOk); exact rfl; ((exact hS.blkC 0 rfl rfl)))); exact rfl) | (((with_reducible apply l_store hS tabOk (i := 0)); exact rfl; exact rfl; exact rfl; exact rfl; exact rfl; exact rfl; exact rfl; exact rfl; ((exact (rfl : _ = [_, _]))); intro w' hS'; simp only [List.set] at hS'; clear hS; have hS := hS'; clear hS')) | (first | ((with_reducible apply l_yes); exact rfl; exact rfl; exact rfl; exact rfl; (assumption)) | ((with_reducible apply l_no); exact rfl; exact rfl; exact rfl; exact rfl; ((assumption)); exact rfl) | ((with_reducible apply l_partd); exact rfl; exact rfl; exact rfl; all_goals (intro hb hp; try (exfalso; omega))) | ((with_reducible apply l_pick1); exact rfl; ((assumption)); exact rfl; exact rfl) | ((with_reducible apply l_pick2); exact rfl; ((assumption)); exact rfl; exact rfl))) | (first | (with_reducible apply c_seq) | (with_reducible apply c_region) | (with_reducible apply l_nil) | (with_reducible apply q_then) | (with_reducible apply c_skip) | (with_reducible apply c_ret) | (with_reducible apply q_then_ret)) | (first | ((with_reducible apply c_ift); exact rfl; (exact rfl)) | ((with_reducible apply c_ifd); exact rfl; all_goals (intro hb hp; try (exfalso; omega))) | ((with_reducible apply c_ifp); exact rfl; all_goals (intro hb hp; try (exfalso; omega)))) | ((with_reducible apply l_call); exact rfl; exact rfl; exact eyeNum_fn hS hl; exact rfl; rintro _ w' ⟨rfl, hS'⟩; replace hS := hS.transM1 hS'; simp only [appA] at hS; clear hS'))
  all_goals unfold eyCnt
  all_goals generalize eyNum e = q at *
  all_goals obtain ⟨n, l2, b2⟩ := q
  all_goals simp only [EyA] at *
  all_goals ((apply q_ret1); (repeat (first | exact ResL.nil | (apply ResL.tmp; exact rfl))))
  · rw [if_pos (Or.inr (Or.inl (by assumption)))]; exact ⟨rfl, hS⟩
  · rw [if_pos (Or.inr (Or.inr (by assumption)))]; exact ⟨rfl, hS⟩
  · subst hb; rw [if_pos (Or.inl rfl)]; exact ⟨rfl, hS⟩
  · subst hb; rw [if_neg (by simp; omega)]; exact ⟨rfl, hS⟩
theorem eyeText_fn {F : Nat → Prop} {w0 w : World} {Γ : List Asr} {g : Nat} {e : Ey} (hS0 : St F w0 w (EyA g e :: Γ)) (hl : e.1.length ≤ 1048576) : Fn Try.prog 100 [.pointer (some ⟨g, 0, none⟩)] w (EyOk w g e (.string ⟨(eyText e).1.toArray⟩) (eyText e).2) := by
  refine fn_enter (fn := Try.f100) ⟨Try.func100, by kernel_rfl, by kernel_rfl⟩ (by exact rfl) Try.ntmps100 (by exact rfl) ?_
  have hS := hS0.startM1
  have k1 := eyCnt_len e
  have k2 := eyCnt_in e
  simp only [EyA] at hS
  unfold eyText
  repeat' (first | (first | ((with_reducible apply l_pure tabOk); exact rfl; exact rfl) | ((with_reducible apply l_load); exact rfl; (((with_reducible apply Loads.sc tabOk); exact rfl; ((exact hS.blkC 0 rfl rfl)))); exact rfl) | (((with_reducible apply l_store hS tabOk (i := 0)); exact rfl; exact rfl; exact rfl; exact rfl; exact rfl; exact rfl; exact rfl; exact rfl; ((exact (rfl : _ = [_, _]))); intro w' hS'; simp only [List.set] at hS'; clear hS; have hS := hS'; clear hS'))) | (first | (with_reducible apply c_seq) | (with_reducible apply c_region) | (with_reducible apply l_nil) | (with_reducible apply q_then) | (with_reducible apply c_skip) | (with_reducible apply c_ret)) | (first | ((with_reducible apply c_ift); exact rfl; (exact rfl)) | ((with_reducible apply c_iff); exact rfl; (exact rfl))) | (((with_reducible apply l_call); exact rfl; exact rfl; exact eyeCnt_fn hS hl; exact rfl; rintro _ w' ⟨rfl, hS'⟩; replace hS := hS.transM1 hS'; simp only [appA] at hS; clear hS'); (generalize eyCnt e = q at *); obtain ⟨n, l2, b2⟩ := q; cases b2 <;> dsimp only [EyA] at *) | ((with_reducible apply l_strTo tabOk); exact rfl; exact rfl; exact rfl; exact (k2 rfl).1; exact (k2 rfl).2; exact rfl) | ((with_reducible apply l_strFrom tabOk); exact rfl; exact rfl; exact rfl; exact (k2 rfl).1; exact (k2 rfl).2; exact rfl))
  all_goals ((apply q_ret1); (repeat (first | exact ResL.nil | (apply ResL.tmp; exact rfl))))
  all_goals (exact ⟨rfl, hS⟩)
theorem eyeTruth_fn {F : Nat → Prop} {w0 w : World} {Γ : List Asr} {g : Nat} {e : Ey} (hS0 : St F w0 w (EyA g e :: Γ)) (hl : e.1.length ≤ 1048576) : Fn Try.prog 103 [.pointer (some ⟨g, 0, none⟩)] w (EyOk w g e (.bool (eyTruth e).1) (eyTruth e).2) := by
  refine fn_enter (fn := Try.f103) ⟨Try.func103, by kernel_rfl, by kernel_rfl⟩ (by exact rfl) Try.ntmps103 (by exact rfl) ?_
  have hS := hS0.startM1
  simp only [EyA] at hS
  unfold eyTruth
  repeat' (first | (first | ((with_reducible apply l_pure tabOk); exact rfl; exact rfl) | (((with_reducible apply l_store hS tabOk (i := 0)); exact rfl; exact rfl; exact rfl; exact rfl; exact rfl; exact rfl; exact rfl; exact rfl; ((exact (rfl : _ = [_, _]))); intro w' hS'; simp only [List.set] at hS'; clear hS; have hS := hS'; clear hS')) | (first | ((with_reducible apply l_yes); exact rfl; exact rfl; exact rfl; exact rfl; (assumption)) | ((with_reducible apply l_no); exact rfl; exact rfl; exact rfl; exact rfl; ((assumption)); exact rfl) | ((with_reducible apply l_partn); exact rfl; exact rfl; exact rfl; all_goals (intro hb hp; try (exfalso; omega))) | ((with_reducible apply l_pick1); exact rfl; ((assumption)); exact rfl; exact rfl) | ((with_reducible apply l_pick2); exact rfl; ((assumption)); exact rfl; exact rfl))) | (first | (with_reducible apply c_seq) | (with_reducible apply c_region) | (with_reducible apply l_nil) | (with_reducible apply q_then) | (with_reducible apply c_skip) | (with_reducible apply c_ret)) | (first | ((with_reducible apply c_iff); exact rfl; (exact rfl)) | ((with_reducible apply c_ifn); exact rfl; all_goals (intro hb hp; try (exfalso; omega)))) | (((with_reducible apply l_call); exact rfl; exact rfl; exact eyeNum_fn hS hl; exact rfl; rintro _ w' ⟨rfl, hS'⟩; replace hS := hS.transM1 hS'; simp only [appA] at hS; clear hS'); (generalize eyNum e = q at *); obtain ⟨n, l2, b2⟩ := q; dsimp only [EyA] at *))
  all_goals ((apply q_ret1); (repeat (first | exact ResL.nil | (apply ResL.tmp; exact rfl))))
  · rw [if_pos ⟨by assumption, by assumption⟩]; exact ⟨rfl, hS⟩
  · rw [if_neg (by omega)]; exact ⟨rfl, hS⟩
  · rw [if_neg (by omega)]; exact ⟨rfl, hS⟩
end Go.Proofs.Ytejnpppejalhfaa
/- The reference's ImageFrom. -/
namespace Go.Proofs.Ytejnpppejalhfaa
open Go.RowKit Go.Sort
theorem Pr5.bounds {s nm : Bs8} {ns : List Bs8} {ss : List Sg} {ys : List Sy} {rs : List Rl} {r : Bs8} (h : Pr5 s nm ns ss ys rs r) : ns.length ≤ s.length ∧ ss.length ≤ s.length ∧ ys.length ≤ s.length ∧ rs.length ≤ s.length ∧ ∀ x ∈ ss, x.data.length ≤ s.length := by
  obtain ⟨r4, ⟨r3, ⟨r2, ⟨r1, h1, k1⟩, k2⟩, k3⟩, k4⟩ := h
  have l1 := rdText_len h1
  have l2 := rdList_len eats_text k1
  have l3 := rdList_len eats_sg k2
  have l4 := rdList_len eats_sy k3
  have l5 := rdList_len eats_rl k4
  refine ⟨by omega, by omega, by omega, by omega, fun x hx => ?_⟩
  have := rdList_data k2 x hx
  omega
def FromPost (s : Bs8) (w : World) : Value → World → Prop := fun v w' =>
  (∃ I pn cn ps cs py cy pr cr, imFrom s = some I ∧ v = .tuple #[imA I (.slice pn I.needs.length cn) (.slice ps I.segs.length cs) (.slice py I.syms.length cy) (.slice pr I.rels.length cr), .bool true] ∧
    St nF w w' [.row 9 1 (.slice pn I.needs.length cn) (I.needs.map stC), .row 122 5 (.slice ps I.segs.length cs) (I.segs.map sgC), .row 125 2 (.slice py I.syms.length cy) (I.syms.map syC), .row 127 3 (.slice pr I.rels.length cr) (I.rels.map rlC)]) ∨
  (imFrom s = none ∧ v = .tuple #[.agg zI.toArray, .bool false] ∧ St nF w w' [])
set_option maxRecDepth 100000 in
set_option maxHeartbeats 8000000 in
theorem ImageFrom_fn (s : Bs8) (w : World) (hs : s.length ≤ 1048576) : Fn Try.prog 54 [.string ⟨s.toArray⟩] w (FromPost s w) := by
  refine fn_enter (fn := Try.f54) ⟨Try.func54, by kernel_rfl, by kernel_rfl⟩ (by exact rfl) Try.ntmps54 (by exact rfl) ?_
  have hS := St.start w
  repeat' (first | (first | ((with_reducible apply l_pure tabOk); exact rfl; exact rfl) | ((with_reducible apply l_build tabOk); exact rfl; exact rfl; ((exact (rfl : _ = some [_, _]))); exact rfl) | ((with_reducible apply l_box hS); exact rfl; exact rfl; exact rfl; intro g w' hS'; clear hS; have hS := hS'; clear hS') | ((with_reducible apply l_alloc hS tabOk); exact rfl; exact rfl; exact rfl; intro g w' hS'; clear hS; have hS := hS'; clear hS')) | (first | (with_reducible apply c_seq) | (with_reducible apply c_region) | (with_reducible apply l_nil) | (with_reducible apply q_then)))
  rename_i gR _
  rename Nat => ge
  replace hS : St nF w _ [EyA ge (s, false), .blk gR zI] := hS
  have hd0 : Gd (fun r => r = s) (rdIm s = none) (s, false) := Or.inl ⟨rfl, rfl⟩
  have hd1' := hd0.step eyText_ok (fun r hr h => by subst hr; unfold rdIm; rw [h]; rfl)
  have hl1 := eyText_len (s, false)
  generalize hnm : eyText (s, false) = q at hd1' hl1
  obtain ⟨nm, e1⟩ := q
  dsimp only at hd1' hl1
  have hd1 : Gd (Pr1 s nm) (rdIm s = none) e1 := hd1'.imp (fun h => ⟨h.1, by obtain ⟨r, rfl, h2⟩ := h.2; exact h2⟩) id
  clear hd1' hd0
  repeat' (first | (first | ((with_reducible apply l_pure tabOk); exact rfl; exact rfl) | ((with_reducible apply l_build tabOk); exact rfl; exact rfl; ((exact (rfl : _ = some [_, _, _, _, _, _]))); exact rfl) | ((with_reducible apply l_alloc hS tabOk); exact rfl; exact rfl; exact rfl; intro g w' hS'; clear hS; have hS := hS'; clear hS') | (((with_reducible apply l_store hS tabOk (i := 0)); exact rfl; exact rfl; exact rfl; exact rfl; exact rfl; exact rfl; exact rfl; exact rfl; ((exact (rfl : _ = [_, _, _, _, _, _]))); intro w' hS'; simp only [List.set] at hS'; clear hS; have hS := hS'; clear hS'))) | (first | (with_reducible apply c_seq) | (with_reducible apply c_region) | (with_reducible apply l_nil) | (with_reducible apply q_then)) | (((with_reducible apply l_call); exact rfl; exact rfl; exact eyeText_fn hS hs; exact rfl; rintro _ w' ⟨rfl, hS'⟩; replace hS := hS.transM1 hS'; simp only [appA] at hS; clear hS'); rw [hnm] at hS ⊢; dsimp only at hS ⊢))
  rename Nat => gi
  replace hS : St nF w _ [.blk gi [.string ⟨nm.toArray⟩, .slice none 0 0, .slice none 0 0, .slice none 0 0, .slice none 0 0, .int .i64 0], EyA ge e1, .blk gR zI] := hS
  replace hS := hS.addNil 9 1
  replace hS := St.reorder [2, 1, 0, 3] hS (by decide) rfl
  have hI := LoopI.start hd1 (fun r => Pr1.dead)
  have hN := eyCnt_le e1
  have hl2 := eyCnt_len e1
  generalize hct : eyCnt e1 = q at hI hN hl2
  obtain ⟨N, e2⟩ := q
  dsimp only at hI hN hl2
  generalize hl1' : e2.1 = l1 at hI
  repeat' (first | (((with_reducible apply l_pure tabOk); exact rfl; exact rfl)) | (first | (with_reducible apply l_nil) | (with_reducible apply q_then) | (with_reducible apply c_block)) | (((with_reducible apply l_call); exact rfl; exact rfl; exact eyeCnt_fn hS (by omega); exact rfl; rintro _ w' ⟨rfl, hS'⟩; replace hS := hS.transM1 hS'; simp only [appA] at hS; clear hS'); rw [hct] at hS ⊢; dsimp only at hS ⊢))
  refine c_loopK (X := List Bs8 × Ey × Option Addr × Nat) (fun x => [(6, .int .i64 (N - x.1.length))]) [5, 4, 2] rfl (fun x => [EyA ge x.2.1, .blk gi ((LfN (.string ⟨nm.toArray⟩) (.slice none 0 0) (.slice none 0 0) (.slice none 0 0) (.int .i64 0)) (.slice x.2.2.1 x.1.length x.2.2.2)), .row 9 1 (.slice x.2.2.1 x.1.length x.2.2.2) (x.1.map stC)]) (fun x => ((x.1.length : Int) ≤ N ∧ x.2.1.1.length ≤ 1048576) ∧ LoopI (Pr1 s nm) (rdIm s = none) rdText N l1 x.1 x.2.1) (fun x => N.toNat - x.1.length) ([], e2, none, 0) (by simp only [List.length_nil, Int.natCast_zero, Int.sub_zero]; repeat (first | exact Fr.sub_nil _ | (apply Fr.sub_cons; exact rfl))) ⟨⟨by simp; omega, by dsimp only; omega⟩, hI⟩ hS ?_
  clear hS
  rintro ⟨xs, ⟨l2, b2⟩, p, c⟩ w1 ⟨⟨hx1, hx2⟩, hx3⟩ hS
  dsimp only [LfN, LfS, LfY, LfR, List.cons_append, List.nil_append] at hx1 hx2 hx3 hS ⊢
  with_reducible apply c_seq
  with_reducible apply c_seq
  refine c_var (X := Unit) (fun _ => .bool (decide ((xs.length : Int) < N ∧ b2 = false))) 27 (fun _ => True) hS ?_ ?_
  · have e1 : decide ((xs.length : Int) < N ∧ b2 = false) = (decide (0 < N - (xs.length : Int)) && !b2) := by cases b2 <;> simp [Int.sub_pos]
    rw [e1]
    repeat' (first | (first | ((with_reducible apply l_pure tabOk); exact rfl; exact rfl) | ((with_reducible apply l_load); exact rfl; (((with_reducible apply Loads.sc tabOk); exact rfl; ((exact hS.blkC 0 rfl rfl)))); exact rfl) | (first | ((with_reducible apply l_yes); exact rfl; exact rfl; exact rfl; exact rfl; (assumption)) | ((with_reducible apply l_no); exact rfl; exact rfl; exact rfl; exact rfl; ((assumption)); exact rfl) | ((with_reducible apply l_partd); exact rfl; exact rfl; exact rfl; all_goals (intro hb hp; try (exfalso; omega))) | ((with_reducible apply l_pick1); exact rfl; ((assumption)); exact rfl; exact rfl) | ((with_reducible apply l_pick2); exact rfl; ((assumption)); exact rfl; exact rfl))) | (first | (with_reducible apply c_region) | (with_reducible apply l_nil)))
    · have hb' : decide (0 < N - (xs.length : Int)) = true := by simpa using hb
      exact q_var () (by rw [hb', Bool.true_and]; repeat (first | exact Fr.sub_nil _ | (apply Fr.sub_cons; exact rfl))) trivial hS
    · have hb' : decide (0 < N - (xs.length : Int)) = false := by simpa using hb
      exact q_var () (by rw [hb', Bool.false_and]; repeat (first | exact Fr.sub_nil _ | (apply Fr.sub_cons; exact rfl))) trivial hS
  rintro _ w2 ⟨_, hS'⟩
  clear hS; have hS := hS'; clear hS'
  repeat' (first | (((with_reducible apply l_pure tabOk); exact rfl; exact rfl)) | (first | (with_reducible apply c_seq) | (with_reducible apply c_region) | (with_reducible apply q_then) | (with_reducible apply c_skip) | (with_reducible apply c_block) | (with_reducible apply c_exit) | (with_reducible apply q_then_exit) | (with_reducible apply q_block_exit)) | (((with_reducible apply c_ifd); exact rfl; all_goals (intro hb hp; try (exfalso; omega)))))
  · obtain ⟨hlt, rfl⟩ := hp
    repeat' (fail)
    refine c_till (fun w' => (Asr.blk gi [.string ⟨nm.toArray⟩, .slice p xs.length c, .slice none 0 0, .slice none 0 0, .slice none 0 0, .int .i64 0]).holds w') 5 8 rfl hS (by kernel_rfl) ?_
    clear hS
    intro w2 hS
    ((with_reducible apply t_pure 0 tabOk); exact rfl; kernel_rfl; kernel_rfl; kernel_rfl; exact rfl; exact (fun _ _ _ h => h); exact Or.inr (hS.at_ (i := 1) rfl); exact rfl; exact rfl)
    ((with_reducible apply t_pure 2 tabOk); exact rfl; kernel_rfl; kernel_rfl; kernel_rfl; exact rfl; exact (fun _ _ _ h => h); exact Or.inr (hS.at_ (i := 1) rfl); exact rfl; exact rfl)
    ((with_reducible apply t_takeL 1); exact rfl; kernel_rfl; kernel_rfl; kernel_rfl; kernel_rfl; exact rfl; exact rfl; exact (fun _ _ _ h => h); exact hS.at_ (i := 1) rfl; exact rfl; (intro w2 hw2; (with_reducible apply Loads.sl tabOk); exact rfl; exact holdC hw2 rfl); exact rfl)
    refine t_one (i := 3) (by kernel_rfl) ?_
    refine p_gets rfl (g_call (first := []) (caps := []) rfl rfl (eyeText_fn hS hx2)) rfl ?_
    rintro _ w' ⟨rfl, hS'⟩
    replace hS := hS.transM1 hS'
    simp only [appA] at hS
    clear hS'
    refine ⟨Or.inr (Or.inr (hS.at_ (i := 1) rfl)), ?_⟩
    refine t_one (i := 4) (by kernel_rfl) ?_
    refine p_gets rfl (g_bslice hS tabOk rfl rfl rfl rfl rfl rfl) rfl ?_
    rintro _ w' ⟨g9, rfl, hS'⟩
    clear hS; have hS := hS'; clear hS'
    refine ⟨Or.inr (Or.inr (hS.at_ (i := 2) rfl)), ?_⟩
    refine t_one (i := 5) (by kernel_rfl) ?_
    refine p_gets rfl (g_append hS tabOk (i := 3) rfl rfl rfl rfl (hS.rowRo 0 rfl) rfl (by simp only [List.length_map]; omega)) rfl ?_
    rintro _ w' ⟨p', c', rfl, hS'⟩
    simp only [List.set] at hS'
    clear hS; have hS := hS'; clear hS'
    refine ⟨Or.inl rfl, ?_⟩
    ((with_reducible apply t_pure 6 tabOk); exact rfl; kernel_rfl; kernel_rfl; kernel_rfl; exact rfl; exact (fun _ _ _ h => h); exact Or.inl rfl; exact rfl; exact rfl)
    refine t_one (i := 7) (by kernel_rfl) ?_
    refine p_gets0 (Φ := fun _ w' => St _ _ w' _) rfl (g_store hS tabOk (i := 2) rfl rfl rfl rfl rfl (Nat.le_of_ble_eq_true rfl) (by intro u hu; simp [Value.cells] at hu; subst hu; rfl)) ?_
    intro _ w' hS'
    simp only [List.set] at hS'
    clear hS; have hS := hS'; clear hS'
    refine ⟨Or.inr (Or.inl rfl), ?_⟩
    refine t_done (by kernel_rfl) ?_
    replace hS := St.reorder [1, 2, 3, 4] hS (by decide) rfl
    repeat' (first | (first | ((with_reducible apply l_sub); exact rfl; exact rfl; omega; omega; exact rfl) | ((with_reducible apply l_pure tabOk); exact rfl; exact rfl)) | (first | (with_reducible apply c_region) | (with_reducible apply l_nil) | (with_reducible apply q_then) | (with_reducible apply q_block)))
    have hx4 := LoopI.next eyText_ok hx3 (fun r => Pr1.dead) hlt
    have hx5 := eyText_len (l2, false)
    generalize eyText (l2, false) = q at hx4 hx5 hS
    obtain ⟨x, e3⟩ := q
    refine q_loopK (xs ++ [x], e3, p', c') (by rw [show N - ((xs ++ [x]).length : Int) = N - xs.length - 1 by rw [List.length_append]; simp; omega]; repeat (first | exact Fr.sub_nil _ | (apply Fr.sub_cons; exact rfl))) ⟨⟨by rw [List.length_append]; simp; omega, by dsimp only at *; omega⟩, hx4⟩ ?_ (by simp only [List.length_append, List.length_cons, List.length_nil]; omega)
    simp only [List.length_append, List.length_cons, List.length_nil, List.map_append, List.map_cons, List.map_nil]
    rw [List.length_map] at hS
    exact hS
  have hd2 := LoopI.done hx3 (by by_cases hb2 : b2 = true; exact Or.inl hb2; exact Or.inr (by simp only [Bool.not_eq_true] at hb2; simp only [hb2, and_true] at hp; omega))
  clear hx3 hI hct hl1' hb hp hN hl2
  rename List Bs8 => ns
  rename Bs8 => la
  rename Bool => ba
  rename Option Addr => pn
  rename Nat => cn
  clear hx1
  generalize hea : ((la, ba) : Ey) = ea at hS hd2
  have hla : ea.1.length ≤ 1048576 := by subst hea; exact hx2
  clear hx2 hea
  replace hd2 : Gd (Pr2 s nm ns) (rdIm s = none) ea := hd2
  replace hS := hS.addNil 122 5
  replace hS := St.reorder [1, 2, 0, 4, 3] hS (by decide) rfl
  have hI := LoopI.start hd2 (fun r => Pr2.dead)
  have hN := eyCnt_le ea
  have hl2 := eyCnt_len ea
  generalize hct : eyCnt ea = q at hI hN hl2
  obtain ⟨N, e2⟩ := q
  dsimp only at hI hN hl2
  generalize hl1' : e2.1 = l1 at hI
  repeat' (first | (((with_reducible apply l_pure tabOk); exact rfl; exact rfl)) | (first | (with_reducible apply l_nil) | (with_reducible apply q_then) | (with_reducible apply c_block)) | (((with_reducible apply l_call); exact rfl; exact rfl; exact eyeCnt_fn hS (by omega); exact rfl; rintro _ w' ⟨rfl, hS'⟩; replace hS := hS.transM1 hS'; simp only [appA] at hS; clear hS'); rw [hct] at hS ⊢; dsimp only at hS ⊢))
  refine c_loopK (X := List Sg × Ey × Option Addr × Nat) (fun x => [(7, .int .i64 (N - x.1.length))]) [5, 4, 2] rfl (fun x => [EyA ge x.2.1, .blk gi ((LfS (.string ⟨nm.toArray⟩) (.slice pn ns.length cn) (.slice none 0 0) (.slice none 0 0) (.int .i64 0)) (.slice x.2.2.1 x.1.length x.2.2.2)), .row 122 5 (.slice x.2.2.1 x.1.length x.2.2.2) (x.1.map sgC)]) (fun x => ((x.1.length : Int) ≤ N ∧ x.2.1.1.length ≤ 1048576) ∧ LoopI (Pr2 s nm ns) (rdIm s = none) rdSg N l1 x.1 x.2.1) (fun x => N.toNat - x.1.length) ([], e2, none, 0) (by simp only [List.length_nil, Int.natCast_zero, Int.sub_zero]; repeat (first | exact Fr.sub_nil _ | (apply Fr.sub_cons; exact rfl))) ⟨⟨by simp; omega, by dsimp only; omega⟩, hI⟩ hS ?_
  clear hS
  rintro ⟨xs, ⟨l2, b2⟩, p, c⟩ w1 ⟨⟨hx1, hx2⟩, hx3⟩ hS
  dsimp only [LfN, LfS, LfY, LfR, List.cons_append, List.nil_append] at hx1 hx2 hx3 hS ⊢
  with_reducible apply c_seq
  with_reducible apply c_seq
  refine c_var (X := Unit) (fun _ => .bool (decide ((xs.length : Int) < N ∧ b2 = false))) 47 (fun _ => True) hS ?_ ?_
  · have e1 : decide ((xs.length : Int) < N ∧ b2 = false) = (decide (0 < N - (xs.length : Int)) && !b2) := by cases b2 <;> simp [Int.sub_pos]
    rw [e1]
    repeat' (first | (first | ((with_reducible apply l_pure tabOk); exact rfl; exact rfl) | ((with_reducible apply l_load); exact rfl; (((with_reducible apply Loads.sc tabOk); exact rfl; ((exact hS.blkC 0 rfl rfl)))); exact rfl) | (first | ((with_reducible apply l_yes); exact rfl; exact rfl; exact rfl; exact rfl; (assumption)) | ((with_reducible apply l_no); exact rfl; exact rfl; exact rfl; exact rfl; ((assumption)); exact rfl) | ((with_reducible apply l_partd); exact rfl; exact rfl; exact rfl; all_goals (intro hb hp; try (exfalso; omega))) | ((with_reducible apply l_pick1); exact rfl; ((assumption)); exact rfl; exact rfl) | ((with_reducible apply l_pick2); exact rfl; ((assumption)); exact rfl; exact rfl))) | (first | (with_reducible apply c_region) | (with_reducible apply l_nil)))
    · have hb' : decide (0 < N - (xs.length : Int)) = true := by simpa using hb
      exact q_var () (by rw [hb', Bool.true_and]; repeat (first | exact Fr.sub_nil _ | (apply Fr.sub_cons; exact rfl))) trivial hS
    · have hb' : decide (0 < N - (xs.length : Int)) = false := by simpa using hb
      exact q_var () (by rw [hb', Bool.false_and]; repeat (first | exact Fr.sub_nil _ | (apply Fr.sub_cons; exact rfl))) trivial hS
  rintro _ w2 ⟨_, hS'⟩
  clear hS; have hS := hS'; clear hS'
  repeat' (first | (((with_reducible apply l_pure tabOk); exact rfl; exact rfl)) | (first | (with_reducible apply c_seq) | (with_reducible apply c_region) | (with_reducible apply q_then) | (with_reducible apply c_skip) | (with_reducible apply c_block) | (with_reducible apply c_exit) | (with_reducible apply q_then_exit) | (with_reducible apply q_block_exit)) | (((with_reducible apply c_ifd); exact rfl; all_goals (intro hb hp; try (exfalso; omega)))))
  · obtain ⟨hlt, rfl⟩ := hp
    have k1 := eyNum_len (l2, false)
    have k2 := eyNum_len (eyNum (l2, false)).2
    have k3 := eyText_len (eyNum (eyNum (l2, false)).2).2
    have k4 := eyTruth_len (eyText (eyNum (eyNum (l2, false)).2).2).2
    dsimp only at k1
    repeat' (first | (first | ((with_reducible apply l_pure tabOk); exact rfl; exact rfl) | ((with_reducible apply l_build tabOk); exact rfl; exact rfl; ((exact (rfl : _ = some [_, _, _, _, _]))); exact rfl) | ((with_reducible apply l_alloc hS tabOk); exact rfl; exact rfl; exact rfl; intro g w' hS'; clear hS; have hS := hS'; clear hS') | (((with_reducible apply l_store hS tabOk (i := 0)); exact rfl; exact rfl; exact rfl; exact rfl; exact rfl; exact rfl; exact rfl; exact rfl; ((exact (rfl : _ = [_, _, _, _, _]))); intro w' hS'; simp only [List.set] at hS'; clear hS; have hS := hS'; clear hS'))) | (first | (with_reducible apply c_seq) | (with_reducible apply c_region) | (with_reducible apply l_nil) | (with_reducible apply q_then)) | ((with_reducible apply l_call); exact rfl; exact rfl; exact eyeNum_fn (e := (l2, false)) hS (by dsimp only; omega); exact rfl; rintro _ w' ⟨rfl, hS'⟩; replace hS := hS.transM1 hS'; simp only [appA] at hS; clear hS') | ((with_reducible apply l_call); exact rfl; exact rfl; exact eyeNum_fn (e := (eyNum (l2, false)).2) hS (by omega); exact rfl; rintro _ w' ⟨rfl, hS'⟩; replace hS := hS.transM1 hS'; simp only [appA] at hS; clear hS') | ((with_reducible apply l_call); exact rfl; exact rfl; exact eyeText_fn hS (by omega); exact rfl; rintro _ w' ⟨rfl, hS'⟩; replace hS := hS.transM1 hS'; simp only [appA] at hS; clear hS'))
    rename Nat => gx
    replace hS := St.reorder [1, 0, 2, 3, 4, 5] hS (by decide) rfl
    repeat' (first | (first | ((with_reducible apply l_pure tabOk); exact rfl; exact rfl) | ((with_reducible apply l_load); exact rfl; (first | ((with_reducible apply Loads.sl tabOk); exact rfl; ((exact hS.blkC 2 rfl rfl))) | ((with_reducible apply Loads.st tabOk); exact rfl; ((exact hS.blkR 1 rfl)); exact rfl)); exact rfl) | (((with_reducible apply l_store hS tabOk (i := 1)); exact rfl; exact rfl; exact rfl; exact rfl; exact rfl; exact rfl; exact rfl; exact rfl; ((exact (rfl : _ = [_, _, _, _, _]))); intro w' hS'; simp only [List.set] at hS'; clear hS; have hS := hS'; clear hS')) | ((with_reducible apply l_bslice hS tabOk); exact rfl; exact rfl; exact rfl; exact rfl; exact rfl; exact rfl; exact rfl; intro g w' hS'; clear hS; have hS := hS'; clear hS')) | (first | (with_reducible apply c_seq) | (with_reducible apply c_region) | (with_reducible apply l_nil) | (with_reducible apply q_then)) | ((with_reducible apply l_call); exact rfl; exact rfl; exact eyeTruth_fn (e := (eyText (eyNum (eyNum (l2, false)).2).2).2) hS (by omega); exact rfl; rintro _ w' ⟨rfl, hS'⟩; replace hS := hS.transM1 hS'; simp only [appA] at hS; clear hS') | ((with_reducible apply l_call); exact rfl; exact rfl; exact eyeTruth_fn (e := (eyTruth (eyText (eyNum (eyNum (l2, false)).2).2).2).2) hS (by omega); exact rfl; rintro _ w' ⟨rfl, hS'⟩; replace hS := hS.transM1 hS'; simp only [appA] at hS; clear hS'))
    repeat' (first | (first | ((with_reducible apply l_sub); exact rfl; exact rfl; omega; omega; exact rfl) | ((with_reducible apply l_pure tabOk); exact rfl; exact rfl) | (((with_reducible apply l_store hS tabOk (i := 3)); exact rfl; exact rfl; exact rfl; exact rfl; exact rfl; exact rfl; exact rfl; exact rfl; ((exact (rfl : _ = [_, _, _, _, _, _]))); intro w' hS'; simp only [List.set] at hS'; clear hS; have hS := hS'; clear hS'))) | (first | (with_reducible apply c_region) | (with_reducible apply l_nil) | (with_reducible apply q_then) | (with_reducible apply q_block)) | ((with_reducible apply l_append hS tabOk 4); exact rfl; exact rfl; exact rfl; exact rfl; exact hS.rowRo 0 rfl; exact rfl; (simp only [List.length_map]; omega); exact rfl; intro p' cap' w' hS'; simp only [List.set] at hS'; clear hS; have hS := hS'; clear hS'))
    rename Option Addr => p'
    rename Nat => c'
    replace hS := St.reorder [1, 3, 4, 5, 6] hS (by decide) rfl
    replace hS : St nF w _ [EyA ge (eySg (l2, false)).2, .blk gi [.string ⟨nm.toArray⟩, .slice pn ns.length cn, .slice p' ((xs.map sgC).length + 1) c', .slice none 0 0, .slice none 0 0, .int .i64 0], .row 122 5 (.slice p' ((xs.map sgC).length + 1) c') (xs.map sgC ++ [sgC (eySg (l2, false)).1]), .blk gR zI, .row 9 1 (.slice pn ns.length cn) (ns.map stC)] := hS
    have hx4 := LoopI.next eySg_ok hx3 (fun r => Pr2.dead) hlt
    have hx5 := eySg_len (l2, false)
    generalize eySg (l2, false) = q at hx4 hx5 hS
    obtain ⟨x, e3⟩ := q
    refine q_loopK (xs ++ [x], e3, p', c') (by rw [show N - ((xs ++ [x]).length : Int) = N - xs.length - 1 by rw [List.length_append]; simp; omega]; repeat (first | exact Fr.sub_nil _ | (apply Fr.sub_cons; exact rfl))) ⟨⟨by rw [List.length_append]; simp; omega, by dsimp only at *; omega⟩, hx4⟩ ?_ (by simp only [List.length_append, List.length_cons, List.length_nil]; omega)
    simp only [List.length_append, List.length_cons, List.length_nil, List.map_append, List.map_cons, List.map_nil]
    rw [List.length_map] at hS
    exact hS
  have hd3 := LoopI.done hx3 (by by_cases hb2 : b2 = true; exact Or.inl hb2; exact Or.inr (by simp only [Bool.not_eq_true] at hb2; simp only [hb2, and_true] at hp; omega))
  clear hx3 hI hct hl1' hb hp hN hl2
  rename List Sg => ss
  rename Bs8 => la
  rename Bool => ba
  rename Option Addr => ps
  rename Nat => cs
  clear hx1
  generalize hea : ((la, ba) : Ey) = ea at hS hd3
  have hla : ea.1.length ≤ 1048576 := by subst hea; exact hx2
  clear hx2 hea
  replace hd3 : Gd (Pr3 s nm ns ss) (rdIm s = none) ea := hd3
  replace hS := hS.addNil 125 2
  replace hS := St.reorder [1, 2, 0, 4, 5, 3] hS (by decide) rfl
  have hI := LoopI.start hd3 (fun r => Pr3.dead)
  have hN := eyCnt_le ea
  have hl2 := eyCnt_len ea
  generalize hct : eyCnt ea = q at hI hN hl2
  obtain ⟨N, e2⟩ := q
  dsimp only at hI hN hl2
  generalize hl1' : e2.1 = l1 at hI
  repeat' (first | (((with_reducible apply l_pure tabOk); exact rfl; exact rfl)) | (first | (with_reducible apply l_nil) | (with_reducible apply q_then) | (with_reducible apply c_block)) | (((with_reducible apply l_call); exact rfl; exact rfl; exact eyeCnt_fn hS (by omega); exact rfl; rintro _ w' ⟨rfl, hS'⟩; replace hS := hS.transM1 hS'; simp only [appA] at hS; clear hS'); rw [hct] at hS ⊢; dsimp only at hS ⊢))
  refine c_loopK (X := List Sy × Ey × Option Addr × Nat) (fun x => [(9, .int .i64 (N - x.1.length))]) [5, 4, 2] rfl (fun x => [EyA ge x.2.1, .blk gi ((LfY (.string ⟨nm.toArray⟩) (.slice pn ns.length cn) (.slice ps ss.length cs) (.slice none 0 0) (.int .i64 0)) (.slice x.2.2.1 x.1.length x.2.2.2)), .row 125 2 (.slice x.2.2.1 x.1.length x.2.2.2) (x.1.map syC)]) (fun x => ((x.1.length : Int) ≤ N ∧ x.2.1.1.length ≤ 1048576) ∧ LoopI (Pr3 s nm ns ss) (rdIm s = none) rdSy N l1 x.1 x.2.1) (fun x => N.toNat - x.1.length) ([], e2, none, 0) (by simp only [List.length_nil, Int.natCast_zero, Int.sub_zero]; repeat (first | exact Fr.sub_nil _ | (apply Fr.sub_cons; exact rfl))) ⟨⟨by simp; omega, by dsimp only; omega⟩, hI⟩ hS ?_
  clear hS
  rintro ⟨xs, ⟨l2, b2⟩, p, c⟩ w1 ⟨⟨hx1, hx2⟩, hx3⟩ hS
  dsimp only [LfN, LfS, LfY, LfR, List.cons_append, List.nil_append] at hx1 hx2 hx3 hS ⊢
  with_reducible apply c_seq
  with_reducible apply c_seq
  refine c_var (X := Unit) (fun _ => .bool (decide ((xs.length : Int) < N ∧ b2 = false))) 79 (fun _ => True) hS ?_ ?_
  · have e1 : decide ((xs.length : Int) < N ∧ b2 = false) = (decide (0 < N - (xs.length : Int)) && !b2) := by cases b2 <;> simp [Int.sub_pos]
    rw [e1]
    repeat' (first | (first | ((with_reducible apply l_pure tabOk); exact rfl; exact rfl) | ((with_reducible apply l_load); exact rfl; (((with_reducible apply Loads.sc tabOk); exact rfl; ((exact hS.blkC 0 rfl rfl)))); exact rfl) | (first | ((with_reducible apply l_yes); exact rfl; exact rfl; exact rfl; exact rfl; (assumption)) | ((with_reducible apply l_no); exact rfl; exact rfl; exact rfl; exact rfl; ((assumption)); exact rfl) | ((with_reducible apply l_partd); exact rfl; exact rfl; exact rfl; all_goals (intro hb hp; try (exfalso; omega))) | ((with_reducible apply l_pick1); exact rfl; ((assumption)); exact rfl; exact rfl) | ((with_reducible apply l_pick2); exact rfl; ((assumption)); exact rfl; exact rfl))) | (first | (with_reducible apply c_region) | (with_reducible apply l_nil)))
    · have hb' : decide (0 < N - (xs.length : Int)) = true := by simpa using hb
      exact q_var () (by rw [hb', Bool.true_and]; repeat (first | exact Fr.sub_nil _ | (apply Fr.sub_cons; exact rfl))) trivial hS
    · have hb' : decide (0 < N - (xs.length : Int)) = false := by simpa using hb
      exact q_var () (by rw [hb', Bool.false_and]; repeat (first | exact Fr.sub_nil _ | (apply Fr.sub_cons; exact rfl))) trivial hS
  rintro _ w2 ⟨_, hS'⟩
  clear hS; have hS := hS'; clear hS'
  repeat' (first | (((with_reducible apply l_pure tabOk); exact rfl; exact rfl)) | (first | (with_reducible apply c_seq) | (with_reducible apply c_region) | (with_reducible apply q_then) | (with_reducible apply c_skip) | (with_reducible apply c_block) | (with_reducible apply c_exit) | (with_reducible apply q_then_exit) | (with_reducible apply q_block_exit)) | (((with_reducible apply c_ifd); exact rfl; all_goals (intro hb hp; try (exfalso; omega)))))
  · obtain ⟨hlt, rfl⟩ := hp
    have k1 := eyText_len (l2, false)
    dsimp only at k1
    repeat' (fail)
    refine c_till (fun w' => (Asr.blk gi [.string ⟨nm.toArray⟩, .slice pn ns.length cn, .slice ps ss.length cs, .slice p xs.length c, .slice none 0 0, .int .i64 0]).holds w') 8 11 rfl hS (by kernel_rfl) ?_
    clear hS
    intro w2 hS
    ((with_reducible apply t_pure 0 tabOk); exact rfl; kernel_rfl; kernel_rfl; kernel_rfl; exact rfl; exact (fun _ _ _ h => h); exact Or.inr (hS.at_ (i := 1) rfl); exact rfl; exact rfl)
    ((with_reducible apply t_pure 2 tabOk); exact rfl; kernel_rfl; kernel_rfl; kernel_rfl; exact rfl; exact (fun _ _ _ h => h); exact Or.inr (hS.at_ (i := 1) rfl); exact rfl; exact rfl)
    ((with_reducible apply t_pure 4 tabOk); exact rfl; kernel_rfl; kernel_rfl; kernel_rfl; exact rfl; exact (fun _ _ _ h => h); exact Or.inr (hS.at_ (i := 1) rfl); exact rfl; exact rfl)
    ((with_reducible apply t_takeL 1); exact rfl; kernel_rfl; kernel_rfl; kernel_rfl; kernel_rfl; exact rfl; exact rfl; exact (fun _ _ _ h => h); exact hS.at_ (i := 1) rfl; exact rfl; (intro w2 hw2; (with_reducible apply Loads.sl tabOk); exact rfl; exact holdC hw2 rfl); exact rfl)
    refine t_one (i := 3) (by kernel_rfl) ?_
    refine p_gets rfl (g_call (first := []) (caps := []) rfl rfl (eyeText_fn hS hx2)) rfl ?_
    rintro _ w' ⟨rfl, hS'⟩
    replace hS := hS.transM1 hS'
    simp only [appA] at hS
    clear hS'
    refine ⟨Or.inr (Or.inr (hS.at_ (i := 1) rfl)), ?_⟩
    refine t_one (i := 5) (by kernel_rfl) ?_
    refine p_gets rfl (g_call (first := []) (caps := []) rfl rfl (eyeNum_fn hS (by omega))) rfl ?_
    rintro _ w' ⟨rfl, hS'⟩
    replace hS := hS.transM1 hS'
    simp only [appA] at hS
    clear hS'
    refine ⟨Or.inr (Or.inr (hS.at_ (i := 1) rfl)), ?_⟩
    refine t_one (i := 6) (by kernel_rfl) ?_
    ((with_reducible apply p_build tabOk); exact rfl; exact rfl; exact rfl; ((exact (rfl : _ = some [_, _]))); exact rfl)
    refine ⟨Or.inr (Or.inr (hS.at_ (i := 1) rfl)), ?_⟩
    refine t_one (i := 7) (by kernel_rfl) ?_
    refine p_gets rfl (g_bslice hS tabOk rfl rfl rfl rfl rfl rfl) rfl ?_
    rintro _ w' ⟨g9, rfl, hS'⟩
    clear hS; have hS := hS'; clear hS'
    refine ⟨Or.inr (Or.inr (hS.at_ (i := 2) rfl)), ?_⟩
    refine t_one (i := 8) (by kernel_rfl) ?_
    refine p_gets rfl (g_append hS tabOk (i := 3) rfl rfl rfl rfl (hS.rowRo 0 rfl) rfl (by simp only [List.length_map]; omega)) rfl ?_
    rintro _ w' ⟨p', c', rfl, hS'⟩
    simp only [List.set] at hS'
    clear hS; have hS := hS'; clear hS'
    refine ⟨Or.inl rfl, ?_⟩
    ((with_reducible apply t_pure 9 tabOk); exact rfl; kernel_rfl; kernel_rfl; kernel_rfl; exact rfl; exact (fun _ _ _ h => h); exact Or.inl rfl; exact rfl; exact rfl)
    refine t_one (i := 10) (by kernel_rfl) ?_
    refine p_gets0 (Φ := fun _ w' => St _ _ w' _) rfl (g_store hS tabOk (i := 2) rfl rfl rfl rfl rfl (Nat.le_of_ble_eq_true rfl) (by intro u hu; simp [Value.cells] at hu; subst hu; rfl)) ?_
    intro _ w' hS'
    simp only [List.set] at hS'
    clear hS; have hS := hS'; clear hS'
    refine ⟨Or.inr (Or.inl rfl), ?_⟩
    refine t_done (by kernel_rfl) ?_
    replace hS := St.reorder [1, 2, 3, 4, 5, 6] hS (by decide) rfl
    repeat' (first | (first | ((with_reducible apply l_sub); exact rfl; exact rfl; omega; omega; exact rfl) | ((with_reducible apply l_pure tabOk); exact rfl; exact rfl)) | (first | (with_reducible apply c_region) | (with_reducible apply l_nil) | (with_reducible apply q_then) | (with_reducible apply q_block)))
    replace hS : St nF w _ [EyA ge (eySy (l2, false)).2, .blk gi [.string ⟨nm.toArray⟩, .slice pn ns.length cn, .slice ps ss.length cs, .slice p' ((xs.map syC).length + 1) c', .slice none 0 0, .int .i64 0], .row 125 2 (.slice p' ((xs.map syC).length + 1) c') (xs.map syC ++ [syC (eySy (l2, false)).1]), .blk gR zI, .row 9 1 (.slice pn ns.length cn) (ns.map stC), .row 122 5 (.slice ps ss.length cs) (ss.map sgC)] := hS
    have hx4 := LoopI.next eySy_ok hx3 (fun r => Pr3.dead) hlt
    have hx5 := eySy_len (l2, false)
    generalize eySy (l2, false) = q at hx4 hx5 hS
    obtain ⟨x, e3⟩ := q
    refine q_loopK (xs ++ [x], e3, p', c') (by rw [show N - ((xs ++ [x]).length : Int) = N - xs.length - 1 by rw [List.length_append]; simp; omega]; repeat (first | exact Fr.sub_nil _ | (apply Fr.sub_cons; exact rfl))) ⟨⟨by rw [List.length_append]; simp; omega, by dsimp only at *; omega⟩, hx4⟩ ?_ (by simp only [List.length_append, List.length_cons, List.length_nil]; omega)
    simp only [List.length_append, List.length_cons, List.length_nil, List.map_append, List.map_cons, List.map_nil]
    rw [List.length_map] at hS
    exact hS
  have hd4 := LoopI.done hx3 (by by_cases hb2 : b2 = true; exact Or.inl hb2; exact Or.inr (by simp only [Bool.not_eq_true] at hb2; simp only [hb2, and_true] at hp; omega))
  clear hx3 hI hct hl1' hb hp hN hl2
  rename List Sy => ys
  rename Bs8 => la
  rename Bool => ba
  rename Option Addr => py
  rename Nat => cy
  clear hx1
  generalize hea : ((la, ba) : Ey) = ea at hS hd4
  have hla : ea.1.length ≤ 1048576 := by subst hea; exact hx2
  clear hx2 hea
  replace hd4 : Gd (Pr4 s nm ns ss ys) (rdIm s = none) ea := hd4
  replace hS := hS.addNil 127 3
  replace hS := St.reorder [1, 2, 0, 4, 5, 6, 3] hS (by decide) rfl
  have hI := LoopI.start hd4 (fun r => Pr4.dead)
  have hN := eyCnt_le ea
  have hl2 := eyCnt_len ea
  generalize hct : eyCnt ea = q at hI hN hl2
  obtain ⟨N, e2⟩ := q
  dsimp only at hI hN hl2
  generalize hl1' : e2.1 = l1 at hI
  repeat' (first | (((with_reducible apply l_pure tabOk); exact rfl; exact rfl)) | (first | (with_reducible apply l_nil) | (with_reducible apply q_then) | (with_reducible apply c_block)) | (((with_reducible apply l_call); exact rfl; exact rfl; exact eyeCnt_fn hS (by omega); exact rfl; rintro _ w' ⟨rfl, hS'⟩; replace hS := hS.transM1 hS'; simp only [appA] at hS; clear hS'); rw [hct] at hS ⊢; dsimp only at hS ⊢))
  refine c_loopK (X := List Rl × Ey × Option Addr × Nat) (fun x => [(10, .int .i64 (N - x.1.length))]) [5, 4, 2] rfl (fun x => [EyA ge x.2.1, .blk gi ((LfR (.string ⟨nm.toArray⟩) (.slice pn ns.length cn) (.slice ps ss.length cs) (.slice py ys.length cy) (.int .i64 0)) (.slice x.2.2.1 x.1.length x.2.2.2)), .row 127 3 (.slice x.2.2.1 x.1.length x.2.2.2) (x.1.map rlC)]) (fun x => ((x.1.length : Int) ≤ N ∧ x.2.1.1.length ≤ 1048576) ∧ LoopI (Pr4 s nm ns ss ys) (rdIm s = none) rdRl N l1 x.1 x.2.1) (fun x => N.toNat - x.1.length) ([], e2, none, 0) (by simp only [List.length_nil, Int.natCast_zero, Int.sub_zero]; repeat (first | exact Fr.sub_nil _ | (apply Fr.sub_cons; exact rfl))) ⟨⟨by simp; omega, by dsimp only; omega⟩, hI⟩ hS ?_
  clear hS
  rintro ⟨xs, ⟨l2, b2⟩, p, c⟩ w1 ⟨⟨hx1, hx2⟩, hx3⟩ hS
  dsimp only [LfN, LfS, LfY, LfR, List.cons_append, List.nil_append] at hx1 hx2 hx3 hS ⊢
  with_reducible apply c_seq
  with_reducible apply c_seq
  refine c_var (X := Unit) (fun _ => .bool (decide ((xs.length : Int) < N ∧ b2 = false))) 102 (fun _ => True) hS ?_ ?_
  · have e1 : decide ((xs.length : Int) < N ∧ b2 = false) = (decide (0 < N - (xs.length : Int)) && !b2) := by cases b2 <;> simp [Int.sub_pos]
    rw [e1]
    repeat' (first | (first | ((with_reducible apply l_pure tabOk); exact rfl; exact rfl) | ((with_reducible apply l_load); exact rfl; (((with_reducible apply Loads.sc tabOk); exact rfl; ((exact hS.blkC 0 rfl rfl)))); exact rfl) | (first | ((with_reducible apply l_yes); exact rfl; exact rfl; exact rfl; exact rfl; (assumption)) | ((with_reducible apply l_no); exact rfl; exact rfl; exact rfl; exact rfl; ((assumption)); exact rfl) | ((with_reducible apply l_partd); exact rfl; exact rfl; exact rfl; all_goals (intro hb hp; try (exfalso; omega))) | ((with_reducible apply l_pick1); exact rfl; ((assumption)); exact rfl; exact rfl) | ((with_reducible apply l_pick2); exact rfl; ((assumption)); exact rfl; exact rfl))) | (first | (with_reducible apply c_region) | (with_reducible apply l_nil)))
    · have hb' : decide (0 < N - (xs.length : Int)) = true := by simpa using hb
      exact q_var () (by rw [hb', Bool.true_and]; repeat (first | exact Fr.sub_nil _ | (apply Fr.sub_cons; exact rfl))) trivial hS
    · have hb' : decide (0 < N - (xs.length : Int)) = false := by simpa using hb
      exact q_var () (by rw [hb', Bool.false_and]; repeat (first | exact Fr.sub_nil _ | (apply Fr.sub_cons; exact rfl))) trivial hS
  rintro _ w2 ⟨_, hS'⟩
  clear hS; have hS := hS'; clear hS'
  repeat' (first | (((with_reducible apply l_pure tabOk); exact rfl; exact rfl)) | (first | (with_reducible apply c_seq) | (with_reducible apply c_region) | (with_reducible apply q_then) | (with_reducible apply c_skip) | (with_reducible apply c_block) | (with_reducible apply c_exit) | (with_reducible apply q_then_exit) | (with_reducible apply q_block_exit)) | (((with_reducible apply c_ifd); exact rfl; all_goals (intro hb hp; try (exfalso; omega)))))
  · obtain ⟨hlt, rfl⟩ := hp
    have k1 := eyNum_len (l2, false)
    have k2 := eyText_len (eyNum (l2, false)).2
    dsimp only at k1
    repeat' (fail)
    refine c_till (fun w' => (Asr.blk gi [.string ⟨nm.toArray⟩, .slice pn ns.length cn, .slice ps ss.length cs, .slice py ys.length cy, .slice p xs.length c, .int .i64 0]).holds w') 10 13 rfl hS (by kernel_rfl) ?_
    clear hS
    intro w2 hS
    ((with_reducible apply t_pure 0 tabOk); exact rfl; kernel_rfl; kernel_rfl; kernel_rfl; exact rfl; exact (fun _ _ _ h => h); exact Or.inr (hS.at_ (i := 1) rfl); exact rfl; exact rfl)
    ((with_reducible apply t_pure 2 tabOk); exact rfl; kernel_rfl; kernel_rfl; kernel_rfl; exact rfl; exact (fun _ _ _ h => h); exact Or.inr (hS.at_ (i := 1) rfl); exact rfl; exact rfl)
    ((with_reducible apply t_pure 4 tabOk); exact rfl; kernel_rfl; kernel_rfl; kernel_rfl; exact rfl; exact (fun _ _ _ h => h); exact Or.inr (hS.at_ (i := 1) rfl); exact rfl; exact rfl)
    ((with_reducible apply t_pure 6 tabOk); exact rfl; kernel_rfl; kernel_rfl; kernel_rfl; exact rfl; exact (fun _ _ _ h => h); exact Or.inr (hS.at_ (i := 1) rfl); exact rfl; exact rfl)
    ((with_reducible apply t_takeL 1); exact rfl; kernel_rfl; kernel_rfl; kernel_rfl; kernel_rfl; exact rfl; exact rfl; exact (fun _ _ _ h => h); exact hS.at_ (i := 1) rfl; exact rfl; (intro w2 hw2; (with_reducible apply Loads.sl tabOk); exact rfl; exact holdC hw2 rfl); exact rfl)
    refine t_one (i := 3) (by kernel_rfl) ?_
    refine p_gets rfl (g_call (first := []) (caps := []) rfl rfl (eyeNum_fn hS hx2)) rfl ?_
    rintro _ w' ⟨rfl, hS'⟩
    replace hS := hS.transM1 hS'
    simp only [appA] at hS
    clear hS'
    refine ⟨Or.inr (Or.inr (hS.at_ (i := 1) rfl)), ?_⟩
    refine t_one (i := 5) (by kernel_rfl) ?_
    refine p_gets rfl (g_call (first := []) (caps := []) rfl rfl (eyeText_fn hS (by omega))) rfl ?_
    rintro _ w' ⟨rfl, hS'⟩
    replace hS := hS.transM1 hS'
    simp only [appA] at hS
    clear hS'
    refine ⟨Or.inr (Or.inr (hS.at_ (i := 1) rfl)), ?_⟩
    refine t_one (i := 7) (by kernel_rfl) ?_
    refine p_gets rfl (g_call (first := []) (caps := []) rfl rfl (eyeNum_fn hS (by omega))) rfl ?_
    rintro _ w' ⟨rfl, hS'⟩
    replace hS := hS.transM1 hS'
    simp only [appA] at hS
    clear hS'
    refine ⟨Or.inr (Or.inr (hS.at_ (i := 1) rfl)), ?_⟩
    refine t_one (i := 8) (by kernel_rfl) ?_
    ((with_reducible apply p_build tabOk); exact rfl; exact rfl; exact rfl; ((exact (rfl : _ = some [_, _, _]))); exact rfl)
    refine ⟨Or.inr (Or.inr (hS.at_ (i := 1) rfl)), ?_⟩
    refine t_one (i := 9) (by kernel_rfl) ?_
    refine p_gets rfl (g_bslice hS tabOk rfl rfl rfl rfl rfl rfl) rfl ?_
    rintro _ w' ⟨g9, rfl, hS'⟩
    clear hS; have hS := hS'; clear hS'
    refine ⟨Or.inr (Or.inr (hS.at_ (i := 2) rfl)), ?_⟩
    refine t_one (i := 10) (by kernel_rfl) ?_
    refine p_gets rfl (g_append hS tabOk (i := 3) rfl rfl rfl rfl (hS.rowRo 0 rfl) rfl (by simp only [List.length_map]; omega)) rfl ?_
    rintro _ w' ⟨p', c', rfl, hS'⟩
    simp only [List.set] at hS'
    clear hS; have hS := hS'; clear hS'
    refine ⟨Or.inl rfl, ?_⟩
    ((with_reducible apply t_pure 11 tabOk); exact rfl; kernel_rfl; kernel_rfl; kernel_rfl; exact rfl; exact (fun _ _ _ h => h); exact Or.inl rfl; exact rfl; exact rfl)
    refine t_one (i := 12) (by kernel_rfl) ?_
    refine p_gets0 (Φ := fun _ w' => St _ _ w' _) rfl (g_store hS tabOk (i := 2) rfl rfl rfl rfl rfl (Nat.le_of_ble_eq_true rfl) (by intro u hu; simp [Value.cells] at hu; subst hu; rfl)) ?_
    intro _ w' hS'
    simp only [List.set] at hS'
    clear hS; have hS := hS'; clear hS'
    refine ⟨Or.inr (Or.inl rfl), ?_⟩
    refine t_done (by kernel_rfl) ?_
    replace hS := St.reorder [1, 2, 3, 4, 5, 6, 7] hS (by decide) rfl
    repeat' (first | (first | ((with_reducible apply l_sub); exact rfl; exact rfl; omega; omega; exact rfl) | ((with_reducible apply l_pure tabOk); exact rfl; exact rfl)) | (first | (with_reducible apply c_region) | (with_reducible apply l_nil) | (with_reducible apply q_then) | (with_reducible apply q_block)))
    replace hS : St nF w _ [EyA ge (eyRl (l2, false)).2, .blk gi [.string ⟨nm.toArray⟩, .slice pn ns.length cn, .slice ps ss.length cs, .slice py ys.length cy, .slice p' ((xs.map rlC).length + 1) c', .int .i64 0], .row 127 3 (.slice p' ((xs.map rlC).length + 1) c') (xs.map rlC ++ [rlC (eyRl (l2, false)).1]), .blk gR zI, .row 9 1 (.slice pn ns.length cn) (ns.map stC), .row 122 5 (.slice ps ss.length cs) (ss.map sgC), .row 125 2 (.slice py ys.length cy) (ys.map syC)] := hS
    have hx4 := LoopI.next eyRl_ok hx3 (fun r => Pr4.dead) hlt
    have hx5 := eyRl_len (l2, false)
    generalize eyRl (l2, false) = q at hx4 hx5 hS
    obtain ⟨x, e3⟩ := q
    refine q_loopK (xs ++ [x], e3, p', c') (by rw [show N - ((xs ++ [x]).length : Int) = N - xs.length - 1 by rw [List.length_append]; simp; omega]; repeat (first | exact Fr.sub_nil _ | (apply Fr.sub_cons; exact rfl))) ⟨⟨by rw [List.length_append]; simp; omega, by dsimp only at *; omega⟩, hx4⟩ ?_ (by simp only [List.length_append, List.length_cons, List.length_nil]; omega)
    simp only [List.length_append, List.length_cons, List.length_nil, List.map_append, List.map_cons, List.map_nil]
    rw [List.length_map] at hS
    exact hS
  have hd5 := LoopI.done hx3 (by by_cases hb2 : b2 = true; exact Or.inl hb2; exact Or.inr (by simp only [Bool.not_eq_true] at hb2; simp only [hb2, and_true] at hp; omega))
  clear hx3 hI hct hl1' hb hp hN hl2
  rename List Rl => rs
  rename Bs8 => la
  rename Bool => ba
  rename Option Addr => pr
  rename Nat => cr
  clear hx1
  generalize hea : ((la, ba) : Ey) = ea at hS hd5
  have hla : ea.1.length ≤ 1048576 := by subst hea; exact hx2
  clear hx2 hea
  replace hd5 : Gd (Pr5 s nm ns ss ys rs) (rdIm s = none) ea := hd5
  have hd6 := hd5.step eyNum_ok (fun r => Pr5.dead)
  generalize hq : eyNum ea = q at hd6
  obtain ⟨en, l6, b6⟩ := q
  dsimp only at hd6
  repeat' (first | (first | ((with_reducible apply l_pure tabOk); exact rfl; exact rfl) | ((with_reducible apply l_load); exact rfl; (first | ((with_reducible apply Loads.sc tabOk); exact rfl; ((exact hS.blkC 0 rfl rfl))) | ((with_reducible apply Loads.st tabOk); exact rfl; ((exact hS.blkR 1 rfl)); exact rfl)); exact rfl) | ((with_reducible apply l_build tabOk); exact rfl; exact rfl; ((exact (rfl : _ = some [_, _, _, _, _, _]))); exact rfl) | (first | ((with_reducible apply l_store hS tabOk (i := 1)); exact rfl; exact rfl; exact rfl; exact rfl; exact rfl; exact rfl; exact rfl; exact rfl; ((exact (rfl : _ = [_, _, _, _, _, _]))); intro w' hS'; simp only [List.set] at hS'; clear hS; have hS := hS'; clear hS') | ((with_reducible apply l_store hS tabOk (i := 3)); exact rfl; exact rfl; exact rfl; exact rfl; exact rfl; exact rfl; exact rfl; exact rfl; ((exact (rfl : _ = [_, _, _, _, _, _]))); intro w' hS'; simp only [List.set] at hS'; clear hS; have hS := hS'; clear hS')) | (first | ((with_reducible apply l_yes); exact rfl; exact rfl; exact rfl; exact rfl; first | exact rfl | assumption) | ((with_reducible apply l_no); exact rfl; exact rfl; exact rfl; exact rfl; (first | exact rfl | assumption); exact rfl) | ((with_reducible apply l_partn); exact rfl; exact rfl; exact rfl; all_goals (intro hb hp; try (exfalso; omega))) | ((with_reducible apply l_pick1); exact rfl; (first | exact rfl | assumption); exact rfl; exact rfl) | ((with_reducible apply l_pick2); exact rfl; ((exact rfl)); exact rfl; exact rfl))) | (first | (with_reducible apply c_seq) | (with_reducible apply c_region) | (with_reducible apply l_nil) | (with_reducible apply q_then) | (with_reducible apply c_ret) | (with_reducible apply q_then_ret)) | (((with_reducible apply c_ift); exact rfl; (exact rfl))) | (((with_reducible apply l_call); exact rfl; exact rfl; exact eyeNum_fn hS hla; exact rfl; rintro _ w' ⟨rfl, hS'⟩; replace hS := hS.transM1 hS'; simp only [appA] at hS; clear hS'); rw [hq] at hS ⊢; dsimp only at hS ⊢; (cases b6)))
  · rcases hd6 with ⟨_, r5, hr5, hr6⟩ | ⟨hb, _⟩
    rotate_left
    · cases hb
    have hIm := hr5.all hr6
    refine q_ret (vs := [.agg zI.toArray, .bool false]) rfl ?_ rfl (Or.inr ⟨(imFrom_more hIm hp), rfl, hS.sub (List.nil_sublist _)⟩)
    refine ResL.cell rfl ?_ (ResL.tmp rfl ResL.nil)
    ((with_reducible apply Loads.st tabOk); exact rfl; ((exact hS.blkR 3 rfl)); exact rfl)
  · rcases hd6 with ⟨_, r5, hr5, hr6⟩ | ⟨hb, _⟩
    rotate_left
    · cases hb
    have hIm := hr5.all hr6
    obtain ⟨n1, n2, n3, n4, n5⟩ := hr5.bounds
    dsimp only at hp hIm
    subst hp
    have hV : ImV _ ⟨nm, ns, ss, ys, rs, en⟩ (.slice pn ns.length cn) (.slice ps ss.length cs) (.slice py ys.length cy) (.slice pr rs.length cr) := ⟨hS.rowSl 4 rfl, hS.rowSl 5 rfl, hS.rowSl 6 rfl, hS.rowSl 2 rfl⟩
    have hB : ImB ⟨nm, ns, ss, ys, rs, en⟩ := ⟨by show ns.length ≤ _; omega, by show ss.length ≤ _; omega, by show ys.length ≤ _; omega, by show rs.length ≤ _; omega⟩
    have hD : ImD ⟨nm, ns, ss, ys, rs, en⟩ := fun x hx => by have := n5 x hx; omega
    by_cases hc : checkIm ⟨nm, ns, ss, ys, rs, en⟩ = 0
    · have hc' : (!decide (checkIm ⟨nm, ns, ss, ys, rs, en⟩ = 0)) = false := by rw [decide_eq_true hc]; rfl
      repeat' (first | (first | ((with_reducible apply l_pure tabOk); exact rfl; exact rfl) | ((with_reducible apply l_load); exact rfl; (((with_reducible apply Loads.st tabOk); exact rfl; ((exact hS.blkR 1 rfl)); exact rfl)); exact rfl) | (((with_reducible apply l_store hS tabOk (i := 3)); exact rfl; exact rfl; exact rfl; exact rfl; exact rfl; exact rfl; exact rfl; exact rfl; ((exact (rfl : _ = [_, _, _, _, _, _]))); intro w' hS'; simp only [List.set] at hS'; clear hS; have hS := hS'; clear hS')) | (first | ((with_reducible apply l_yes); exact rfl; exact rfl; exact rfl; exact rfl; (exact rfl)) | ((with_reducible apply l_pick2); exact rfl; ((exact rfl)); exact rfl; exact rfl))) | (first | (with_reducible apply c_seq) | (with_reducible apply c_region) | (with_reducible apply l_nil) | (with_reducible apply q_then) | (with_reducible apply c_skip) | (with_reducible apply c_ret)) | (((with_reducible apply c_iff); exact rfl; (assumption))) | ((with_reducible apply l_call); exact rfl; exact rfl; exact CheckImage_fn hV hB hD; exact rfl; rintro _ w' ⟨rfl, hS'⟩; replace hS := hS.transA hS'; simp only [appA] at hS; clear hS'))
      refine q_ret (vs := [imA ⟨nm, ns, ss, ys, rs, en⟩ (.slice pn ns.length cn) (.slice ps ss.length cs) (.slice py ys.length cy) (.slice pr rs.length cr), .bool true]) rfl ?_ rfl (Or.inl ⟨⟨nm, ns, ss, ys, rs, en⟩, pn, cn, ps, cs, py, cy, pr, cr, by rw [imFrom_at hIm, if_pos hc], rfl, hS.reorder [4, 5, 6, 2] (by decide) rfl⟩)
      refine ResL.cell rfl ?_ (ResL.tmp rfl ResL.nil)
      unfold imA
      ((with_reducible apply Loads.st tabOk); exact rfl; ((exact hS.blkR 3 rfl)); exact rfl)
    · have hc' : (!decide (checkIm ⟨nm, ns, ss, ys, rs, en⟩ = 0)) = true := by rw [decide_eq_false hc]; rfl
      repeat' (first | (first | ((with_reducible apply l_pure tabOk); exact rfl; exact rfl) | ((with_reducible apply l_build tabOk); exact rfl; exact rfl; ((exact (rfl : _ = some [_, _, _, _, _, _]))); exact rfl) | (((with_reducible apply l_store hS tabOk (i := 3)); exact rfl; exact rfl; exact rfl; exact rfl; exact rfl; exact rfl; exact rfl; exact rfl; ((exact (rfl : _ = [_, _, _, _, _, _]))); intro w' hS'; simp only [List.set] at hS'; clear hS; have hS := hS'; clear hS')) | (first | ((with_reducible apply l_yes); exact rfl; exact rfl; exact rfl; exact rfl; (exact rfl)) | ((with_reducible apply l_pick2); exact rfl; ((exact rfl)); exact rfl; exact rfl))) | (first | (with_reducible apply c_seq) | (with_reducible apply c_region) | (with_reducible apply l_nil) | (with_reducible apply q_then) | (with_reducible apply c_ret) | (with_reducible apply q_then_ret)) | (((with_reducible apply c_ift); exact rfl; (assumption))) | ((with_reducible apply l_call); exact rfl; exact rfl; exact CheckImage_fn hV hB hD; exact rfl; rintro _ w' ⟨rfl, hS'⟩; replace hS := hS.transA hS'; simp only [appA] at hS; clear hS'))
      refine q_ret (vs := [.agg zI.toArray, .bool false]) rfl ?_ rfl (Or.inr ⟨(by rw [imFrom_at hIm, if_neg hc]), rfl, hS.sub (List.nil_sublist _)⟩)
      refine ResL.cell rfl ?_ (ResL.tmp rfl ResL.nil)
      ((with_reducible apply Loads.st tabOk); exact rfl; ((exact hS.blkR 3 rfl)); exact rfl)
  · rcases hd6 with ⟨hb, _⟩ | ⟨_, hdead⟩
    · cases hb
    refine q_ret (vs := [.agg zI.toArray, .bool false]) rfl ?_ rfl (Or.inr ⟨(imFrom_none hdead), rfl, hS.sub (List.nil_sublist _)⟩)
    refine ResL.cell rfl ?_ (ResL.tmp rfl ResL.nil)
    ((with_reducible apply Loads.st tabOk); exact rfl; ((exact hS.blkR 3 rfl)); exact rfl)
end Go.Proofs.Ytejnpppejalhfaa
/- The laws ImageWrites, ImageReads: their walks. -/
namespace Go.Proofs.Ytejnpppejalhfaa
open Go.RowKit Go.Sort
set_option maxRecDepth 100000 in
set_option maxHeartbeats 4000000 in
theorem ImageWrites_fn {I : Im} {w : World} {vn vs vy vr : Value} (hI : ImV w I vn vs vy vr) (hB : ImB I) (hD : ImD I) : Fn Try.prog 12 [imA I vn vs vy vr] w (RBf (.bool true) w) := by
  have hw := fun w (h : ImV w I vn vs vy vr) => Write_fn h hB hD
  have hcc := fun w (h : ImV w I vn vs vy vr) => Check_fn h hB hD
  have hci := fun w (h : ImV w I vn vs vy vr) => CheckImage_fn h hB hD
  have q1 : decide (checkIm I = checkIm I) = true := by simp
  by_cases hc : checkIm I = 0
  · have hL := ImL.of hc
    have hib := fun w (h : ImV w I vn vs vy vr) => ImageBytes_fn h hL
    simp only [hc, if_true] at hw hcc hci
    have q2 : decide (imB I = imB I) = true := by simp
    have q3 : decide ((0 : Int) = 0) = true := rfl
    refine fn_enter (fn := Try.f12) ⟨Try.func12, by kernel_rfl, by kernel_rfl⟩ (by exact rfl) Try.ntmps12 (by exact rfl) ?_
    have hS := St.start w
    repeat' (first | (first | ((with_reducible apply l_pure tabOk); exact rfl; exact rfl) | ((with_reducible apply l_load); exact rfl; (((with_reducible apply Loads.st tabOk); exact rfl; ((exact hS.blkR 0 rfl)); exact rfl)); exact rfl) | ((with_reducible apply l_box hS); exact rfl; exact rfl; exact rfl; intro g w' hS'; clear hS; have hS := hS'; clear hS') | (first | ((with_reducible apply l_yes); exact rfl; exact rfl; exact rfl; exact rfl; (exact rfl)) | ((with_reducible apply l_pick1); exact rfl; ((exact rfl)); exact rfl; exact rfl))) | (first | (with_reducible apply c_seq) | (with_reducible apply c_region) | (with_reducible apply l_nil) | (with_reducible apply q_then) | (with_reducible apply c_ret)) | (((with_reducible apply c_ift); exact rfl; (exact rfl))) | ((with_reducible apply l_call); exact rfl; exact rfl; exact hw _ (hI.now hS); exact rfl; rintro _ w' ⟨rfl, hS'⟩; replace hS := hS.transA hS'; simp only [appA] at hS; clear hS') | ((with_reducible apply l_call); exact rfl; exact rfl; exact hcc _ (hI.now hS); exact rfl; rintro _ w' ⟨rfl, hS'⟩; replace hS := hS.transA hS'; simp only [appA] at hS; clear hS') | ((with_reducible apply l_call); exact rfl; exact rfl; exact hci _ (hI.now hS); exact rfl; rintro _ w' ⟨rfl, hS'⟩; replace hS := hS.transA hS'; simp only [appA] at hS; clear hS') | ((with_reducible apply l_call); exact rfl; exact rfl; exact hib _ (hI.now hS); exact rfl; rintro _ w' ⟨rfl, hS'⟩; replace hS := hS.transA hS'; simp only [appA] at hS; clear hS') | ((with_reducible apply l_call); exact rfl; exact rfl; exact imageBegun_fn _; exact rfl; rintro _ w' ⟨rfl, hS'⟩; replace hS := hS.transA hS'; simp only [appA] at hS; clear hS'))
    (apply q_ret1); (repeat (first | exact ResL.nil | (apply ResL.tmp; exact rfl)))
    exact ⟨by rw [q2], hS.sub (List.nil_sublist _)⟩
  · simp only [hc, if_false] at hw
    have q2 : decide (([] : List UInt8) = []) = true := by simp
    have q3 : decide (checkIm I = 0) = false := by simpa using hc
    refine fn_enter (fn := Try.f12) ⟨Try.func12, by kernel_rfl, by kernel_rfl⟩ (by exact rfl) Try.ntmps12 (by exact rfl) ?_
    have hS := St.start w
    repeat' (first | (first | ((with_reducible apply l_pure tabOk); exact rfl; exact rfl) | ((with_reducible apply l_load); exact rfl; (((with_reducible apply Loads.st tabOk); exact rfl; ((exact hS.blkR 0 rfl)); exact rfl)); exact rfl) | ((with_reducible apply l_box hS); exact rfl; exact rfl; exact rfl; intro g w' hS'; clear hS; have hS := hS'; clear hS') | (first | ((with_reducible apply l_yes); exact rfl; exact rfl; exact rfl; exact rfl; first | exact rfl | assumption) | ((with_reducible apply l_pick1); exact rfl; (first | exact rfl | assumption); exact rfl; exact rfl))) | (first | (with_reducible apply c_seq) | (with_reducible apply c_region) | (with_reducible apply l_nil) | (with_reducible apply q_then) | (with_reducible apply c_skip) | (with_reducible apply c_ret)) | (((with_reducible apply c_iff); exact rfl; (assumption))) | ((with_reducible apply l_call); exact rfl; exact rfl; exact hw _ (hI.now hS); exact rfl; rintro _ w' ⟨rfl, hS'⟩; replace hS := hS.transA hS'; simp only [appA] at hS; clear hS') | ((with_reducible apply l_call); exact rfl; exact rfl; exact hcc _ (hI.now hS); exact rfl; rintro _ w' ⟨rfl, hS'⟩; replace hS := hS.transA hS'; simp only [appA] at hS; clear hS') | ((with_reducible apply l_call); exact rfl; exact rfl; exact hci _ (hI.now hS); exact rfl; rintro _ w' ⟨rfl, hS'⟩; replace hS := hS.transA hS'; simp only [appA] at hS; clear hS') | ((with_reducible apply l_call); exact rfl; exact rfl; exact imageBegun_fn _; exact rfl; rintro _ w' ⟨rfl, hS'⟩; replace hS := hS.transA hS'; simp only [appA] at hS; clear hS'))
    (apply q_ret1); (repeat (first | exact ResL.nil | (apply ResL.tmp; exact rfl)))
    exact ⟨by rw [q2], hS.sub (List.nil_sublist _)⟩
def RowsOf (I : Im) (pn : Option Addr) (cn : Nat) (ps : Option Addr) (cs : Nat) (py : Option Addr) (cy : Nat) (pr : Option Addr) (cr : Nat) : List Asr := [.row 9 1 (.slice pn I.needs.length cn) (I.needs.map stC), .row 122 5 (.slice ps I.segs.length cs) (I.segs.map sgC), .row 125 2 (.slice py I.syms.length cy) (I.syms.map syC), .row 127 3 (.slice pr I.rels.length cr) (I.rels.map rlC)]
theorem Read_some {s : Bs8} {I : Im} (w : World) (hs : s.length ≤ 1048576) (h : imFrom s = some I) : Fn Try.prog 53 [.string ⟨s.toArray⟩] w (fun v w' => ∃ pn cn ps cs py cy pr cr, v = .tuple #[imA I (.slice pn I.needs.length cn) (.slice ps I.segs.length cs) (.slice py I.syms.length cy) (.slice pr I.rels.length cr), .int .i64 0] ∧ St nF w w' (RowsOf I pn cn ps cs py cy pr cr)) :=
  (Read_fn s w hs).mono fun v w' hp => by
    rcases hp with ⟨J, pn, cn, ps, cs, py, cy, pr, cr, h1, rfl, h2⟩ | ⟨h1, _⟩
    · rw [h] at h1
      cases h1
      exact ⟨pn, cn, ps, cs, py, cy, pr, cr, rfl, h2⟩
    · rw [h] at h1
      cases h1
theorem Read_none {s : Bs8} (w : World) (hs : s.length ≤ 1048576) (h : imFrom s = none) : Fn Try.prog 53 [.string ⟨s.toArray⟩] w (RBf (.tuple #[.agg zI.toArray, .int .i64 1]) w) :=
  (Read_fn s w hs).mono fun v w' hp => by
    rcases hp with ⟨J, pn, cn, ps, cs, py, cy, pr, cr, h1, _⟩ | ⟨_, rfl, h2⟩
    · rw [h] at h1
      cases h1
    · exact ⟨rfl, h2⟩
theorem From_some {s : Bs8} {I : Im} (w : World) (hs : s.length ≤ 1048576) (h : imFrom s = some I) : Fn Try.prog 54 [.string ⟨s.toArray⟩] w (fun v w' => ∃ pn cn ps cs py cy pr cr, v = .tuple #[imA I (.slice pn I.needs.length cn) (.slice ps I.segs.length cs) (.slice py I.syms.length cy) (.slice pr I.rels.length cr), .bool true] ∧ St nF w w' (RowsOf I pn cn ps cs py cy pr cr)) :=
  (ImageFrom_fn s w hs).mono fun v w' hp => by
    rcases hp with ⟨J, pn, cn, ps, cs, py, cy, pr, cr, h1, rfl, h2⟩ | ⟨h1, _⟩
    · rw [h] at h1
      cases h1
      exact ⟨pn, cn, ps, cs, py, cy, pr, cr, rfl, h2⟩
    · rw [h] at h1
      cases h1
theorem From_none {s : Bs8} (w : World) (hs : s.length ≤ 1048576) (h : imFrom s = none) : Fn Try.prog 54 [.string ⟨s.toArray⟩] w (RBf (.tuple #[.agg zI.toArray, .bool false]) w) :=
  (ImageFrom_fn s w hs).mono fun v w' hp => by
    rcases hp with ⟨J, pn, cn, ps, cs, py, cy, pr, cr, h1, _⟩ | ⟨_, rfl, h2⟩
    · rw [h] at h1
      cases h1
    · exact ⟨rfl, h2⟩
set_option maxRecDepth 100000 in
set_option maxHeartbeats 4000000 in
theorem ImageReads_fn (s : Bs8) (w : World) (hs : s.length ≤ 1048576) : Fn Try.prog 13 [.string ⟨s.toArray⟩] w (RBf (.bool true) w) := by
  cases h : imFrom s with
  | none =>
    have q1 : decide (Im0 = Im0) = true := by simp
    refine fn_enter (fn := Try.f13) ⟨Try.func13, by kernel_rfl, by kernel_rfl⟩ (by exact rfl) Try.ntmps13 (by exact rfl) ?_
    have hS := St.start w
    repeat' (first | (first | ((with_reducible apply l_pure tabOk); exact rfl; exact rfl) | ((with_reducible apply l_load); exact rfl; (((with_reducible apply Loads.st tabOk); exact rfl; ((exact hS.blkR 1 rfl)); exact rfl)); exact rfl) | ((with_reducible apply l_build tabOk); exact rfl; exact rfl; ((exact (rfl : _ = some [_, _, _, _, _, _]))); exact rfl) | ((with_reducible apply l_alloc hS tabOk); exact rfl; exact rfl; exact rfl; intro g w' hS'; clear hS; have hS := hS'; clear hS') | (((with_reducible apply l_store hS tabOk (i := 0)); exact rfl; exact rfl; exact rfl; exact rfl; exact rfl; exact rfl; exact rfl; exact rfl; ((exact (rfl : _ = [_, _, _, _, _, _]))); intro w' hS'; simp only [List.set] at hS'; clear hS; have hS := hS'; clear hS')) | (first | ((with_reducible apply l_yes); exact rfl; exact rfl; exact rfl; exact rfl; (exact rfl)) | ((with_reducible apply l_pick1); exact rfl; ((exact rfl)); exact rfl; exact rfl))) | (first | (with_reducible apply c_seq) | (with_reducible apply c_region) | (with_reducible apply l_nil) | (with_reducible apply q_then) | (with_reducible apply c_ret) | (with_reducible apply q_then_ret)) | (((with_reducible apply c_ift); exact rfl; (exact rfl))) | ((with_reducible apply l_call); exact rfl; exact rfl; exact Read_none _ hs h; exact rfl; rintro _ w' ⟨rfl, hS'⟩; replace hS := hS.transA hS'; simp only [appA] at hS; clear hS') | ((with_reducible apply l_call); exact rfl; exact rfl; exact From_none _ hs h; exact rfl; rintro _ w' ⟨rfl, hS'⟩; replace hS := hS.transA hS'; simp only [appA] at hS; clear hS') | ((with_reducible apply l_call); exact rfl; exact rfl; exact imageBegun_fn _; exact rfl; rintro _ w' ⟨rfl, hS'⟩; replace hS := hS.transA hS'; simp only [appA] at hS; clear hS') | ((with_reducible apply l_call); exact rfl; exact rfl; exact SameImages_fn (zero_V _) (zero_V _); exact rfl; rintro _ w' ⟨rfl, hS'⟩; replace hS := hS.transA hS'; simp only [appA] at hS; clear hS'))
    (apply q_ret1); (repeat (first | exact ResL.nil | (apply ResL.tmp; exact rfl)))
    exact ⟨by rw [q1], hS.sub (List.nil_sublist _)⟩
  | some I =>
    have q1 : decide (I = I) = true := by simp
    refine fn_enter (fn := Try.f13) ⟨Try.func13, by kernel_rfl, by kernel_rfl⟩ (by exact rfl) Try.ntmps13 (by exact rfl) ?_
    have hS := St.start w
    repeat' (first | (first | ((with_reducible apply l_pure tabOk); exact rfl; exact rfl) | ((with_reducible apply l_load); exact rfl; (((with_reducible apply Loads.st tabOk); exact rfl; (first | exact hS.blkR 0 rfl | exact hS.blkR 5 rfl); exact rfl)); exact rfl) | ((with_reducible apply l_alloc hS tabOk); exact rfl; exact rfl; exact rfl; intro g w' hS'; clear hS; have hS := hS'; clear hS') | (((with_reducible apply l_store hS tabOk (i := 0)); exact rfl; exact rfl; exact rfl; exact rfl; exact rfl; exact rfl; exact rfl; exact rfl; ((exact (rfl : _ = [_, _, _, _, _, _]))); intro w' hS'; simp only [List.set] at hS'; clear hS; have hS := hS'; clear hS')) | (first | ((with_reducible apply l_yes); exact rfl; exact rfl; exact rfl; exact rfl; (exact rfl)) | ((with_reducible apply l_pick1); exact rfl; ((exact rfl)); exact rfl; exact rfl))) | (first | (with_reducible apply c_seq) | (with_reducible apply c_region) | (with_reducible apply l_nil) | (with_reducible apply q_then) | (with_reducible apply c_skip) | (with_reducible apply c_ret)) | (((with_reducible apply c_iff); exact rfl; (exact rfl))) | ((with_reducible apply l_call); exact rfl; exact rfl; exact Read_some _ hs h; exact rfl; rintro _ w' ⟨pn, cn, ps, cs, py, cy, pr, cr, rfl, hS'⟩; replace hS := hS.transA hS'; simp only [RowsOf, appA] at hS; clear hS') | ((with_reducible apply l_call); exact rfl; exact rfl; exact From_some _ hs h; exact rfl; rintro _ w' ⟨qn, dn, qs, dcs, qy, dy, qr, dr, rfl, hS'⟩; replace hS := hS.transA hS'; simp only [RowsOf, appA] at hS; clear hS') | ((with_reducible apply l_call); exact rfl; exact rfl; exact imageBegun_fn _; exact rfl; rintro _ w' ⟨rfl, hS'⟩; replace hS := hS.transA hS'; simp only [appA] at hS; clear hS') | ((with_reducible apply l_call); exact rfl; exact rfl; exact SameImages_fn (I := I) (J := I) ⟨hS.rowSl 6 rfl, hS.rowSl 7 rfl, hS.rowSl 8 rfl, hS.rowSl 9 rfl⟩ ⟨hS.rowSl 1 rfl, hS.rowSl 2 rfl, hS.rowSl 3 rfl, hS.rowSl 4 rfl⟩; exact rfl; rintro _ w' ⟨rfl, hS'⟩; replace hS := hS.transA hS'; simp only [appA] at hS; clear hS'))
    (apply q_ret1); (repeat (first | exact ResL.nil | (apply ResL.tmp; exact rfl)))
    exact ⟨by rw [q1], hS.sub (List.nil_sublist _)⟩
end Go.Proofs.Ytejnpppejalhfaa
/- Arguments that are slices, opened: what their elements' cells are. -/
namespace Go.Proofs.Ytejnpppejalhfaa
open Go.ChangeShapes Go.WideShapes Go.ChangeAt Go.RowKit Go.Deep

/-- these rows are what these things' cells are -/
def RowsAre {α : Type} (R : α → List Value → Prop) (xs : List α) (rows : List (List Value)) : Prop := rows.length = xs.length ∧ ∀ (i : Nat) (x : α) (r : List Value), xs[i]? = some x → rows[i]? = some r → R x r

section
variable {H : Type} {enc : TypeId × Value → H} {P : Program} {w : World} {base : Nat} {spare : Nat → Bool} {held : Bool}
theorem open_sl {α : Type} [Inhabited α] {t e : TypeId} {fuel sz : Nat} {cs : List Value} {y : DataW H × List MemPlace} (ht : P.underlying t = some (.slice e)) (hsz : P.cellsOf e = sz) (hpos : 0 < sz) (R : α → List Value → Prop) (hR1 : ∀ x r, R x r → r.all (·.oneCell') = true)
    (hR : ∀ (n : Nat) (cs' : List Value) (z : DataW H × List MemPlace), cs'.length = sz → DataW.trod enc P w base spare held n e cs' = some z → ∃ x : α, R x cs') (h : DataW.trod enc P w base spare held fuel t cs = some y) :
    ∃ v xs rows, cs = [v] ∧ Sl nF w sz v rows ∧ RowsAre R xs rows ∧ v.oneCell' = true := by
  rcases open_slice ht h with ⟨rfl, _⟩ | ⟨a, len, cap, m, n, D, Pl, rfl, hb, hl, hm, hmm, _, hx⟩
  · exact ⟨_, [], [], rfl, Or.inl ⟨_, _, rfl, rfl⟩, ⟨rfl, fun i x r h => by simp at h⟩, rfl⟩
  · have hlm : len ≤ m := by rw [hmm]; split <;> omega
    rw [hsz] at hx
    have key : ∀ i, ∃ r x, i < len → w.cells? base (a.add (i * sz)) sz = some r ∧ R x r ∧ r.length = sz := fun i => by
      by_cases hi : i < len
      · obtain ⟨cs', h1, h2⟩ := hx i (by omega)
        have hl := (World.cells?_some h1).2.1
        obtain ⟨x, hr⟩ := hR n cs' _ hl h2
        exact ⟨cs', x, fun _ => ⟨h1, hr, hl⟩⟩
      · exact ⟨[], default, fun h => (hi h).elim⟩
    obtain ⟨r, hr⟩ := Classical.axiomOfChoice key
    obtain ⟨x, hr⟩ := Classical.axiomOfChoice hr
    refine ⟨_, (List.range len).map x, (List.range len).map r, rfl, ?_, ⟨by simp, fun i y r' h1 h2 => ?_⟩, rfl⟩
    · by_cases h0 : len = 0
      · subst h0; exact Or.inl ⟨_, _, rfl, rfl⟩
      · obtain ⟨b, off, spot⟩ := a
        have hcell : ∀ i, i < len → ∀ j, j < sz → w.cell? (((⟨b, off, spot⟩ : Addr).add (i * sz)).add j) = (r i)[j]? := fun i hi j hj => (World.cells?_some (hr i hi).1).2.2 j hj
        have h00 := hcell 0 (by omega) 0 hpos
        obtain ⟨u0, hu0⟩ : ∃ u, (r 0)[0]? = some u := ⟨(r 0)[0]'(by rw [(hr 0 (by omega)).2.2]; exact hpos), by simp⟩
        rw [hu0] at h00
        simp only [Nat.zero_mul, Addr.add, if_true] at h00
        have hspot : spot = none := by
          cases spot with
          | none => rfl
          | some s => simp [World.cell?] at h00; split at h00 <;> simp at h00
        subst hspot
        have hbl := World.block_lt_of_cell? w _ h00
        refine Or.inr ⟨b, off, cap, by simp, by simpa using hl, hm, ⟨hbl, id, fun r' hr' => ?_, fun r' hr' => ?_, fun k r' hk j u hj => ?_⟩⟩
        · obtain ⟨i, hi, rfl⟩ := List.mem_map.1 hr'
          exact (hr i (by simpa using hi)).2.2
        · obtain ⟨i, hi, rfl⟩ := List.mem_map.1 hr'
          exact hR1 _ _ (hr i (by simpa using hi)).2.1
        · have hk' : k < len := by have := lt_of_getE hk; simpa using this
          simp [hk'] at hk
          subst hk
          have hjl : j < sz := by have := lt_of_getE hj; rwa [(hr k hk').2.2] at this
          have := hcell k hk' j hjl
          rw [hj] at this
          rwa [Addr.add_mid, Addr.add_mid] at this
    · have hi : i < len := by have := lt_of_getE h1; simpa using this
      simp [hi] at h1 h2
      subst h1 h2
      exact (hr i hi).2.1
end
end Go.Proofs.Ytejnpppejalhfaa
/- Arguments opened, with the bounds of the second form. -/
namespace Go.Proofs.Ytejnpppejalhfaa
open Go.ChangeShapes Go.WideShapes Go.ChangeAt Go.RowKit Go.Deep

section bulk
variable {H : Type}
theorem bk_one (d : DataW H) : 1 ≤ Rows.uptoBulk d := by
  cases d with
  | lit l => cases l <;> simp [Rows.uptoBulk]
  | nil => simp [Rows.uptoBulk]
  | ptr d => simp [Rows.uptoBulk]
  | slice elems spare => simp [Rows.uptoBulk]
  | agg parts => simp [Rows.uptoBulk]
  | iface t d => simp [Rows.uptoBulk]
  | map entries => simp [Rows.uptoBulk]
  | held h => simp [Rows.uptoBulk]
theorem bk_mem {d : DataW H} {l : List (DataW H)} (h : d ∈ l) : Rows.uptoBulk d ≤ Rows.uptoBulkAll l := by
  induction l with
  | nil => cases h
  | cons x r ih =>
    simp only [Rows.uptoBulkAll]
    rcases List.mem_cons.1 h with rfl | e
    · omega
    · have := ih e; omega
theorem bk_len (l : List (DataW H)) : l.length ≤ Rows.uptoBulkAll l := by
  induction l with
  | nil => simp [Rows.uptoBulkAll]
  | cons x r ih => have := bk_one x; simp only [Rows.uptoBulkAll, List.length_cons]; omega
theorem bk_slice (l s : List (DataW H)) : Rows.uptoBulkAll l + 1 ≤ Rows.uptoBulk (.slice l s) := by
  simp only [Rows.uptoBulk]; omega
theorem bk_agg {d : DataW H} {l : List (DataW H)} (h : d ∈ l) : Rows.uptoBulk d + 1 ≤ Rows.uptoBulk (.agg l) := by
  have := bk_mem h
  simp only [Rows.uptoBulk]; omega
theorem bk_str (b : List UInt8) : Rows.uptoBulk (DataW.lit (H := H) (.string b)) = b.length + 1 := by simp [Rows.uptoBulk]
theorem bk_bound {l : List (DataW H)} (hk : Rows.uptoSmall H l = true) : Rows.uptoBulkAll l ≤ 1048576 := of_decide_eq_true hk
end bulk
section
variable {H : Type} {enc : TypeId × Value → H} {P : Program} {w : World} {base : Nat} {spare : Nat → Bool} {held : Bool}
/-- a slice, opened; of each element, and of what it holds: sz, bounded by the bulk -/
theorem open_slB {α : Type} [Inhabited α] {t e : TypeId} {fuel sz : Nat} {cs : List Value} {y : DataW H × List MemPlace} (ht : P.underlying t = some (.slice e)) (hsz : P.cellsOf e = sz) (hpos : 0 < sz) (R : α → List Value → Prop) (B : α → Nat) (hR1 : ∀ x r, R x r → r.all (·.oneCell') = true)
    (hR : ∀ (n : Nat) (cs' : List Value) (z : DataW H × List MemPlace), cs'.length = sz → DataW.trod enc P w base spare held n e cs' = some z → ∃ x : α, R x cs' ∧ B x ≤ Rows.uptoBulk z.1) (h : DataW.trod enc P w base spare held fuel t cs = some y) :
    ∃ v xs rows, cs = [v] ∧ Sl nF w sz v rows ∧ RowsAre R xs rows ∧ v.oneCell' = true ∧ xs.length + 1 ≤ Rows.uptoBulk y.1 ∧ ∀ x ∈ xs, B x + 1 ≤ Rows.uptoBulk y.1 := by
  rcases open_slice ht h with ⟨rfl, rfl⟩ | ⟨a, len, cap, m, n, D, Pl, rfl, hb, hl, hm, hmm, rfl, hx⟩
  · exact ⟨_, [], [], rfl, Or.inl ⟨_, _, rfl, rfl⟩, ⟨rfl, fun i x r h => by simp at h⟩, rfl, by simp [Rows.uptoBulk], by simp⟩
  · have hlm : len ≤ m := by rw [hmm]; split <;> omega
    rw [hsz] at hx
    have key : ∀ i, ∃ r x, i < len → w.cells? base (a.add (i * sz)) sz = some r ∧ R x r ∧ r.length = sz ∧ B x ≤ Rows.uptoBulk (D i) := fun i => by
      by_cases hi : i < len
      · obtain ⟨cs', h1, h2⟩ := hx i (by omega)
        have hl := (World.cells?_some h1).2.1
        obtain ⟨x, hr, hb⟩ := hR n cs' _ hl h2
        exact ⟨cs', x, fun _ => ⟨h1, hr, hl, hb⟩⟩
      · exact ⟨[], default, fun h => (hi h).elim⟩
    obtain ⟨r, hr⟩ := Classical.axiomOfChoice key
    obtain ⟨x, hr⟩ := Classical.axiomOfChoice hr
    refine ⟨_, (List.range len).map x, (List.range len).map r, rfl, ?_, ⟨by simp, fun i y r' h1 h2 => ?_⟩, rfl, ?_, fun y hy => ?_⟩
    · by_cases h0 : len = 0
      · subst h0; exact Or.inl ⟨_, _, rfl, rfl⟩
      · obtain ⟨b, off, spot⟩ := a
        have hcell : ∀ i, i < len → ∀ j, j < sz → w.cell? (((⟨b, off, spot⟩ : Addr).add (i * sz)).add j) = (r i)[j]? := fun i hi j hj => (World.cells?_some (hr i hi).1).2.2 j hj
        have h00 := hcell 0 (by omega) 0 hpos
        obtain ⟨u0, hu0⟩ : ∃ u, (r 0)[0]? = some u := ⟨(r 0)[0]'(by rw [(hr 0 (by omega)).2.2.1]; exact hpos), by simp⟩
        rw [hu0] at h00
        simp only [Nat.zero_mul, Addr.add, if_true] at h00
        have hspot : spot = none := by
          cases spot with
          | none => rfl
          | some s => simp [World.cell?] at h00; split at h00 <;> simp at h00
        subst hspot
        have hbl := World.block_lt_of_cell? w _ h00
        refine Or.inr ⟨b, off, cap, by simp, by simpa using hl, hm, ⟨hbl, id, fun r' hr' => ?_, fun r' hr' => ?_, fun k r' hk j u hj => ?_⟩⟩
        · obtain ⟨i, hi, rfl⟩ := List.mem_map.1 hr'
          exact (hr i (by simpa using hi)).2.2.1
        · obtain ⟨i, hi, rfl⟩ := List.mem_map.1 hr'
          exact hR1 _ _ (hr i (by simpa using hi)).2.1
        · have hk' : k < len := by have := lt_of_getE hk; simpa using this
          simp [hk'] at hk
          subst hk
          have hjl : j < sz := by have := lt_of_getE hj; rwa [(hr k hk').2.2.1] at this
          have := hcell k hk' j hjl
          rw [hj] at this
          rwa [Addr.add_mid, Addr.add_mid] at this
    · have hi : i < len := by have := lt_of_getE h1; simpa using this
      simp [hi] at h1 h2
      subst h1 h2
      exact (hr i hi).2.1
    · have h1 := bk_slice ((List.range len).map D) ((List.range (m - len)).map fun j => D (len + j))
      have h2 := bk_len ((List.range len).map D)
      simp only [List.length_map, List.length_range] at h2 ⊢
      omega
    · obtain ⟨i, hi, rfl⟩ := List.mem_map.1 hy
      have h1 := bk_slice ((List.range len).map D) ((List.range (m - len)).map fun j => D (len + j))
      have h2 : Rows.uptoBulk (D i) ≤ Rows.uptoBulkAll ((List.range len).map D) := bk_mem (List.mem_map.2 ⟨i, hi, rfl⟩)
      have h3 := (hr i (by simpa using hi)).2.2.2
      show B (x i) + 1 ≤ Rows.uptoBulk (DataW.slice ((List.range len).map D) ((List.range (m - len)).map fun j => D (len + j)))
      omega
/-- rows that are equal to cells -/
theorem rows_map {α : Type} {f : α → List Value} {xs : List α} {rows : List (List Value)} (h : RowsAre (fun a r => r = f a) xs rows) : rows = xs.map f := by
  obtain ⟨h1, h2⟩ := h
  apply List.ext_getElem?
  intro i
  rw [List.getElem?_map]
  by_cases hi : i < xs.length
  · rw [List.getElem?_eq_getElem hi, List.getElem?_eq_getElem (by omega)]
    simp only [Option.map_some, Option.some.injEq]
    exact h2 i _ _ (List.getElem?_eq_getElem hi) (List.getElem?_eq_getElem (by omega))
  · rw [List.getElem?_eq_none (by omega), List.getElem?_eq_none (by omega)]; rfl
end
section
variable {H : Type} {enc : TypeId × Value → H} {W : World} {base b0 : Nat} {sp : Nat → Bool} {held : Bool}
theorem uI {n : Nat} {t : TypeId} {c : Value} {o : Option (DataW H × List MemPlace)} (ht : (Try.prog).underlying t = some (.int .i64)) (h : DataW.trod enc Try.prog W base sp held n t [c] = o) (ho : o.isSome = true) : ∃ k : Int, c = .int .i64 k ∧ (Lit.int .i64 k).wf = true := by
  obtain ⟨x, hx⟩ := Option.isSome_iff_exists.1 ho
  obtain ⟨k, hk, _, hw⟩ := DataW.trod_int ht (h.trans hx)
  simp only [List.cons.injEq, and_true] at hk
  exact ⟨k, hk, hw⟩
theorem uB {n : Nat} {t : TypeId} {c : Value} {o : Option (DataW H × List MemPlace)} (ht : (Try.prog).underlying t = some .bool) (h : DataW.trod enc Try.prog W base sp held n t [c] = o) (ho : o.isSome = true) : ∃ b : Bool, c = .bool b := by
  obtain ⟨x, hx⟩ := Option.isSome_iff_exists.1 ho
  obtain ⟨b, hb, _⟩ := DataW.trod_bool ht (h.trans hx)
  simp only [List.cons.injEq, and_true] at hb
  exact ⟨b, hb⟩
theorem uS {n : Nat} {t : TypeId} {c : Value} {x : DataW H × List MemPlace} (ht : (Try.prog).underlying t = some .string) (h : DataW.trod enc Try.prog W base sp held n t [c] = some x) : ∃ l : List UInt8, c = .string ⟨l.toArray⟩ ∧ l.length ≤ maxLen ∧ l.length + 1 ≤ Rows.uptoBulk x.1 := by
  obtain ⟨s, hs, rfl, hl⟩ := DataW.trod_string ht h
  simp only [List.cons.injEq, and_true] at hs
  obtain ⟨⟨l⟩⟩ := s
  exact ⟨l, hs, by simpa [ByteArray.size] using hl, by rw [bk_str]; exact Nat.le_refl _⟩
theorem gE {α : Type} {l : List α} {i : Nat} (h : i < l.length) : ∃ x, l[i]? = some x := ⟨l[i], by simp⟩
theorem uc_int : (Try.prog).cellsOf 3 = 1 := by kernel_rfl
theorem uc_bool : (Try.prog).cellsOf 4 = 1 := by kernel_rfl
theorem uc_string : (Try.prog).cellsOf 9 = 1 := by kernel_rfl
/-- part i of a struct's reading -/
theorem bk_part {xs : List (DataW H × List MemPlace)} {i : Nat} {x : DataW H × List MemPlace} (h : xs[i]? = some x) : Rows.uptoBulk x.1 + 1 ≤ Rows.uptoBulk (DataW.agg (xs.map (·.1))) := bk_agg (List.mem_map.2 ⟨x, List.mem_of_getElem? h, rfl⟩)
end
end Go.Proofs.Ytejnpppejalhfaa
/- An image that came in. -/
namespace Go.Proofs.Ytejnpppejalhfaa
open Go.ChangeShapes Go.WideShapes Go.ChangeAt Go.RowKit

section
variable {H : Type} {enc : TypeId × Value → H} {W : World} {base b0 : Nat} {sp : Nat → Bool} {held : Bool}
instance : Inhabited Sg := ⟨zeroSg⟩
instance : Inhabited Sy := ⟨⟨[], 0⟩⟩
instance : Inhabited Rl := ⟨⟨0, [], 0⟩⟩
theorem uc_seg : (Try.prog).cellsOf 122 = 5 := by kernel_rfl
theorem uc_sym : (Try.prog).cellsOf 125 = 2 := by kernel_rfl
theorem uc_rel : (Try.prog).cellsOf 127 = 3 := by kernel_rfl
theorem uc_needs : (Try.prog).cellsOf 75 = 1 := by kernel_rfl
theorem uc_segs : (Try.prog).cellsOf 76 = 1 := by kernel_rfl
theorem uc_syms : (Try.prog).cellsOf 77 = 1 := by kernel_rfl
theorem uc_rels : (Try.prog).cellsOf 78 = 1 := by kernel_rfl
/-- a number that an int holds -/
def InI (n : Int) : Prop := -9223372036854775808 ≤ n ∧ n ≤ 9223372036854775807
theorem InI.of {n : Int} (h : (Lit.int .i64 n).wf = true) : InI n := by
  unfold InI
  simpa [Lit.wf, IntKind.min, IntKind.max, IntKind.signed, IntKind.bits] using h
structure SgI (s : Sg) : Prop where
  pg : InI s.pg
  n : InI s.n
set_option maxRecDepth 100000 in
theorem open_seg {n : Nat} {cs : List Value} {z : DataW H × List MemPlace} (hl : cs.length = 5) (h : DataW.trod enc Try.prog W base sp held n 122 cs = some z) : ∃ a : Sg, (cs = sgC a ∧ SgI a) ∧ a.data.length ≤ Rows.uptoBulk z.1 := by
  match cs, hl with
  | [c0, c1, c2, c3, c4], _ =>
    obtain ⟨xs, n, _, rfl, _, hl, hf⟩ := DataW.trod_struct Try.underlying122 h
    have f0 := hf 0 _ rfl
    have f1 := hf 1 _ rfl
    have f2 := hf 2 _ rfl
    have f3 := hf 3 _ rfl
    have f4 := hf 4 _ rfl
    simp only [List.getElem_toArray, List.getElem_cons_zero, List.getElem_cons_succ, uc_int, uc_bool, uc_string, List.drop_succ_cons, List.drop_zero, List.take_succ_cons, List.take_zero] at f0 f1 f2 f3 f4
    have hl : xs.length = 5 := hl
    obtain ⟨y2, e2⟩ := gE (l := xs) (i := 2) (by omega)
    rw [e2] at f2
    obtain ⟨k0, rfl, i0⟩ := uI Try.underlying3 f0 (by obtain ⟨y, e⟩ := gE (l := xs) (i := 0) (by omega); rw [e]; rfl)
    obtain ⟨k1, rfl, i1⟩ := uI Try.underlying3 f1 (by obtain ⟨y, e⟩ := gE (l := xs) (i := 1) (by omega); rw [e]; rfl)
    obtain ⟨l2, rfl, _, b2⟩ := uS Try.underlying9 f2
    obtain ⟨k3, rfl⟩ := uB Try.underlying4 f3 (by obtain ⟨y, e⟩ := gE (l := xs) (i := 3) (by omega); rw [e]; rfl)
    obtain ⟨k4, rfl⟩ := uB Try.underlying4 f4 (by obtain ⟨y, e⟩ := gE (l := xs) (i := 4) (by omega); rw [e]; rfl)
    have := bk_part e2
    exact ⟨⟨k0, k1, l2, k3, k4⟩, ⟨rfl, ⟨InI.of i0, InI.of i1⟩⟩, by show l2.length ≤ Rows.uptoBulk (DataW.agg _); omega⟩
set_option maxRecDepth 100000 in
theorem open_sym {n : Nat} {cs : List Value} {z : DataW H × List MemPlace} (hl : cs.length = 2) (h : DataW.trod enc Try.prog W base sp held n 125 cs = some z) : ∃ a : Sy, (cs = syC a ∧ InI a.at_) ∧ a.name.length ≤ Rows.uptoBulk z.1 := by
  match cs, hl with
  | [c0, c1], _ =>
    obtain ⟨xs, n, _, rfl, _, hl, hf⟩ := DataW.trod_struct Try.underlying125 h
    have f0 := hf 0 _ rfl
    have f1 := hf 1 _ rfl
    simp only [List.getElem_toArray, List.getElem_cons_zero, List.getElem_cons_succ, uc_int, uc_string, List.drop_succ_cons, List.drop_zero, List.take_succ_cons, List.take_zero] at f0 f1
    have hl : xs.length = 2 := hl
    obtain ⟨y0, e0⟩ := gE (l := xs) (i := 0) (by omega)
    rw [e0] at f0
    obtain ⟨l0, rfl, _, b0⟩ := uS Try.underlying9 f0
    obtain ⟨k1, rfl, i1⟩ := uI Try.underlying3 f1 (by obtain ⟨y, e⟩ := gE (l := xs) (i := 1) (by omega); rw [e]; rfl)
    have := bk_part e0
    exact ⟨⟨l0, k1⟩, ⟨rfl, InI.of i1⟩, by show l0.length ≤ Rows.uptoBulk (DataW.agg _); omega⟩
set_option maxRecDepth 100000 in
theorem open_rel {n : Nat} {cs : List Value} {z : DataW H × List MemPlace} (hl : cs.length = 3) (h : DataW.trod enc Try.prog W base sp held n 127 cs = some z) : ∃ a : Rl, (cs = rlC a ∧ InI a.at_ ∧ InI a.add) ∧ a.name.length ≤ Rows.uptoBulk z.1 := by
  match cs, hl with
  | [c0, c1, c2], _ =>
    obtain ⟨xs, n, _, rfl, _, hl, hf⟩ := DataW.trod_struct Try.underlying127 h
    have f0 := hf 0 _ rfl
    have f1 := hf 1 _ rfl
    have f2 := hf 2 _ rfl
    simp only [List.getElem_toArray, List.getElem_cons_zero, List.getElem_cons_succ, uc_int, uc_string, List.drop_succ_cons, List.drop_zero, List.take_succ_cons, List.take_zero] at f0 f1 f2
    have hl : xs.length = 3 := hl
    obtain ⟨y1, e1⟩ := gE (l := xs) (i := 1) (by omega)
    rw [e1] at f1
    obtain ⟨k0, rfl, i0⟩ := uI Try.underlying3 f0 (by obtain ⟨y, e⟩ := gE (l := xs) (i := 0) (by omega); rw [e]; rfl)
    obtain ⟨l1, rfl, _, b1⟩ := uS Try.underlying9 f1
    obtain ⟨k2, rfl, i2⟩ := uI Try.underlying3 f2 (by obtain ⟨y, e⟩ := gE (l := xs) (i := 2) (by omega); rw [e]; rfl)
    have := bk_part e1
    exact ⟨⟨k0, l1, k2⟩, ⟨rfl, InI.of i0, InI.of i2⟩, by show l1.length ≤ Rows.uptoBulk (DataW.agg _); omega⟩
theorem open_str1 {n : Nat} {cs : List Value} {z : DataW H × List MemPlace} (hl : cs.length = 1) (h : DataW.trod enc Try.prog W base sp held n 9 cs = some z) : ∃ l : List UInt8, cs = stC l ∧ l.length ≤ Rows.uptoBulk z.1 := by
  match cs, hl with
  | [c0], _ =>
    obtain ⟨l, rfl, _, hb⟩ := uS Try.underlying9 h
    exact ⟨l, rfl, by omega⟩
theorem rows_map2 {α : Type} {f : α → List Value} {G : α → Prop} {xs : List α} {rows : List (List Value)} (h : RowsAre (fun a r => r = f a ∧ G a) xs rows) : rows = xs.map f ∧ ∀ x ∈ xs, G x := by
  refine ⟨rows_map ⟨h.1, fun i x r h1 h2 => (h.2 i x r h1 h2).1⟩, fun x hx => ?_⟩
  obtain ⟨i, hi⟩ := List.mem_iff_getElem?.1 hx
  have hl := lt_of_getE hi
  exact (h.2 i x _ hi (List.getElem?_eq_getElem (by rw [h.1]; exact hl))).2
/-- all numbers of an image are numbers that an int holds -/
structure ImI (I : Im) : Prop where
  segs : ∀ s ∈ I.segs, SgI s
  syms : ∀ s ∈ I.syms, InI s.at_
  rels : ∀ r ∈ I.rels, InI r.at_ ∧ InI r.add
  entry : InI I.entry
structure ImBd (I : Im) (N : Nat) : Prop where
  name : I.name.length ≤ N
  needs : I.needs.length ≤ N
  segs : I.segs.length ≤ N
  syms : I.syms.length ≤ N
  rels : I.rels.length ≤ N
  need1 : ∀ s ∈ I.needs, s.length ≤ N
  seg1 : ∀ s ∈ I.segs, s.data.length ≤ N
  sym1 : ∀ s ∈ I.syms, s.name.length ≤ N
  rel1 : ∀ s ∈ I.rels, s.name.length ≤ N
set_option maxRecDepth 100000 in
theorem open_imgC {n : Nat} {cs : List Value} {z : DataW H × List MemPlace} (hl : cs.length = 6) (h : DataW.trod enc Try.prog W base sp held n 80 cs = some z) :
    ∃ I vn vs vy vr, .agg cs.toArray = imA I vn vs vy vr ∧ ImV W I vn vs vy vr ∧ ImI I ∧ ImBd I (Rows.uptoBulk z.1) ∧ cs.all (·.oneCell') = true := by
  match cs, hl with
  | [c0, c1, c2, c3, c4, c5], _ =>
    obtain ⟨xs, n, _, rfl, _, hl, hf⟩ := DataW.trod_struct Try.underlying80 h
    have f0 := hf 0 _ rfl
    have f1 := hf 1 _ rfl
    have f2 := hf 2 _ rfl
    have f3 := hf 3 _ rfl
    have f4 := hf 4 _ rfl
    have f5 := hf 5 _ rfl
    simp only [List.getElem_toArray, List.getElem_cons_zero, List.getElem_cons_succ, uc_int, uc_string, uc_needs, uc_segs, uc_syms, uc_rels, List.drop_succ_cons, List.drop_zero, List.take_succ_cons, List.take_zero] at f0 f1 f2 f3 f4 f5
    have hl : xs.length = 6 := hl
    obtain ⟨y0, e0⟩ := gE (l := xs) (i := 0) (by omega)
    obtain ⟨y1, e1⟩ := gE (l := xs) (i := 1) (by omega)
    obtain ⟨y2, e2⟩ := gE (l := xs) (i := 2) (by omega)
    obtain ⟨y3, e3⟩ := gE (l := xs) (i := 3) (by omega)
    obtain ⟨y4, e4⟩ := gE (l := xs) (i := 4) (by omega)
    obtain ⟨y5, e5⟩ := gE (l := xs) (i := 5) (by omega)
    rw [e0] at f0
    rw [e1] at f1
    rw [e2] at f2
    rw [e3] at f3
    rw [e4] at f4
    obtain ⟨l0, rfl, _, b0⟩ := uS Try.underlying9 f0
    obtain ⟨v1, x1, r1, hv1, s1, ra1, o1, n1, m1⟩ := open_slB Try.underlying75 uc_string (by decide) (fun a r => r = stC a) (fun a => a.length) (fun x r h => by subst h; rfl) (fun _ _ _ hl hz => open_str1 hl hz) f1
    obtain ⟨v2, x2, r2, hv2, s2, ra2, o2, n2, m2⟩ := open_slB Try.underlying76 uc_seg (by decide) (fun a r => r = sgC a ∧ SgI a) (fun a => a.data.length) (fun x r h => by obtain ⟨rfl, _⟩ := h; rfl) (fun _ _ _ hl hz => open_seg hl hz) f2
    obtain ⟨v3, x3, r3, hv3, s3, ra3, o3, n3, m3⟩ := open_slB Try.underlying77 uc_sym (by decide) (fun a r => r = syC a ∧ InI a.at_) (fun a => a.name.length) (fun x r h => by obtain ⟨rfl, _⟩ := h; rfl) (fun _ _ _ hl hz => open_sym hl hz) f3
    obtain ⟨v4, x4, r4, hv4, s4, ra4, o4, n4, m4⟩ := open_slB Try.underlying78 uc_rel (by decide) (fun a r => r = rlC a ∧ InI a.at_ ∧ InI a.add) (fun a => a.name.length) (fun x r h => by obtain ⟨rfl, _⟩ := h; rfl) (fun _ _ _ hl hz => open_rel hl hz) f4
    obtain ⟨k5, rfl, i5⟩ := uI Try.underlying3 f5 (by rw [e5]; rfl)
    simp only [List.cons.injEq, and_true] at hv1 hv2 hv3 hv4
    subst hv1 hv2 hv3 hv4
    obtain rfl := rows_map ra1
    obtain ⟨rfl, g2⟩ := rows_map2 ra2
    obtain ⟨rfl, g3⟩ := rows_map2 ra3
    obtain ⟨rfl, g4⟩ := rows_map2 ra4
    have p0 := bk_part e0
    have p1 := bk_part e1
    have p2 := bk_part e2
    have p3 := bk_part e3
    have p4 := bk_part e4
    refine ⟨⟨l0, x1, x2, x3, x4, k5⟩, c1, c2, c3, c4, rfl, ⟨s1, s2, s3, s4⟩, ⟨g2, g3, g4, InI.of i5⟩, ?_, ?_⟩
    · generalize Rows.uptoBulk (DataW.agg (xs.map (·.1))) = N at *
      refine ⟨by show l0.length ≤ N; omega, by show x1.length ≤ N; omega, by show x2.length ≤ N; omega, by show x3.length ≤ N; omega, by show x4.length ≤ N; omega, fun s hs => ?_, fun s hs => ?_, fun s hs => ?_, fun s hs => ?_⟩
      · have := m1 s hs; omega
      · have := m2 s hs; omega
      · have := m3 s hs; omega
      · have := m4 s hs; omega
    · simp only [List.all_cons, List.all_nil, Bool.and_true, o1, o2, o3, o4]
      rfl
theorem uc_image : (Try.prog).cellsOf 80 = 6 := by kernel_rfl
set_option maxRecDepth 100000 in
theorem open_image {v : Value} {d : DataW H} {ps : List MemPlace} (hval : Value.okWide Try.prog W .any b0 80 v) (h : DataW.Trod enc Try.prog W base sp held 80 v d ps) :
    ∃ I vn vs vy vr, v = imA I vn vs vy vr ∧ ImV W I vn vs vy vr ∧ ImI I ∧ ImBd I (Rows.uptoBulk d) := by
  obtain ⟨cs, rfl, hsz⟩ := okWide_struct Try.underlying80 hval
  obtain ⟨fuel, hf⟩ := h
  have hc : (Value.agg cs).cells = cs := rfl
  rw [hc] at hf
  have hlen : cs.toList.length = 6 := by rw [Array.length_toList, hsz, uc_image]
  obtain ⟨I, vn, vs, vy, vr, h1, h2, h3, h4, _⟩ := open_imgC hlen hf
  rw [Array.toArray_toList] at h1
  exact ⟨I, vn, vs, vy, vr, h1, h2, h3, h4⟩
end
end Go.Proofs.Ytejnpppejalhfaa
