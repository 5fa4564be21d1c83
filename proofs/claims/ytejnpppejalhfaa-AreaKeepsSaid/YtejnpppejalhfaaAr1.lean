/- Areas in memory; the contracts of span, end, one. -/
import Derived.Test.YtejnpppejalhfaaProg
import Derived.Test.YtejnpppejalhfaaHold
import Derived.Test.YtejnpppejalhfaaPlArea2
import Derived.Lib.QuietBelow
import Derived.BigQuiet
import Derived.Deep.QuietTactic
import Derived.WalkSpells
namespace Go.Proofs.Ytejnpppejalhfaa
open Go.RowKit Go.Sort

def arC (a : Ar) : List Value := [.int .i64 a.pg, .int .i64 a.n, .int .i64 a.prot, .bool a.z]
/-- the cells of an area's place -/
def CellsAr (w : World) (b o : Nat) (a : Ar) : Prop :=
  w.cell? ⟨b, o, none⟩ = some (.int .i64 a.pg) ∧ w.cell? ⟨b, o + 1, none⟩ = some (.int .i64 a.n) ∧ w.cell? ⟨b, o + 2, none⟩ = some (.int .i64 a.prot) ∧ w.cell? ⟨b, o + 3, none⟩ = some (.bool a.z)
/-- the slice v holds these areas -/
def SlAr (w : World) (v : Value) (L : List Ar) : Prop :=
  (∃ p c, v = .slice p 0 c ∧ L = []) ∨ ∃ b off cap, v = .slice (some ⟨b, off, none⟩) L.length cap ∧ b < w.heap.size ∧ L.length ≤ cap ∧ cap ≤ maxLen ∧ ∀ i a, L[i]? = some a → CellsAr w b (off + i * 4) a

theorem CellsAr.grown {w w' : World} {B b o : Nat} {a : Ar} (h : CellsAr w b o a) (hb : Below B w w') (hB : b < B) : CellsAr w' b o a := by
  obtain ⟨h0, h1, h2, h3⟩ := h
  exact ⟨by rw [hb.cell (p := ⟨b, o, none⟩) hB]; exact h0, by rw [hb.cell (p := ⟨b, o + 1, none⟩) hB]; exact h1, by rw [hb.cell (p := ⟨b, o + 2, none⟩) hB]; exact h2, by rw [hb.cell (p := ⟨b, o + 3, none⟩) hB]; exact h3⟩
theorem SlAr.grown {w w' : World} {v : Value} {L : List Ar} (h : SlAr w v L) (hb : Below w.heap.size w w') : SlAr w' v L := by
  rcases h with h | ⟨b, off, cap, h1, h2, h3, h4, h5⟩
  · exact Or.inl h
  · exact Or.inr ⟨b, off, cap, h1, Nat.lt_of_lt_of_le h2 hb.size, h3, h4, fun i a ha => (h5 i a ha).grown hb h2⟩

def spanB (page pages prot : Int) : Bool := decide (1 ≤ page ∧ page ≤ 255 ∧ 1 ≤ pages ∧ pages ≤ 256 - page ∧ 0 ≤ prot ∧ prot ≤ 3)
theorem spanB_ok (a : Ar) : spanB a.pg a.n a.prot = decide a.ok := rfl

set_option maxRecDepth 100000 in
set_option maxHeartbeats 1000000 in
theorem span_any (page pages prot : Int) (w : World) : Calls Try.prog 68 #[.int .i64 page, .int .i64 pages, .int .i64 prot] w fun e w' => e = .returned (.bool (spanB page pages prot)) ∧ w = w' := by
  have hs := hid (show spanB page pages prot = decide (1 ≤ page ∧ page ≤ 255 ∧ 1 ≤ pages ∧ pages ≤ 256 - page ∧ 0 ≤ prot ∧ prot ≤ 3) from rfl)
  generalize spanB page pages prot = r at *
  go_enter Try.func68, Try.ntmps68
  go_wp2
  all_goals
    go_ret
    refine ⟨ret_bool ?_, rfl⟩
    rw [hs.out, Bool.eq_iff_iff]
    simp
    try omega

set_option maxRecDepth 100000 in
set_option maxHeartbeats 1000000 in
theorem end_any (a : Ar) (w : World) : Calls Try.prog 65 #[.agg (arC a).toArray] w (RB (.int .i64 (wrap64 a.fin)) w) := by
  unfold arC Ar.fin
  go_enter Try.func65, Try.ntmps65
  go_wp2
  go_ret
  exact ⟨rfl, (by repeat (first | (with_reducible exact Below.refl _ _) | (with_reducible assumption) | (with_reducible refine Below.alloc ?_ (by first | omega | (simp; done) | (simp; omega)) _) | (with_reducible refine Below.setCell ?_ (by first | omega | (simp; done) | (simp; omega)) _) | (with_reducible refine Below.drew ?_) | (with_reducible refine bt ?_ (below_regrown _ _ _)) | (refine bt ?_ (by with_reducible assumption))))⟩

set_option maxRecDepth 100000 in
set_option maxHeartbeats 1000000 in
theorem one_any (a b : Ar) (w : World) (ha : wrap64 a.fin = a.fin) : Calls Try.prog 69 #[.agg (arC a).toArray, .agg (arC b).toArray] w (RB (.bool (decide (a.alike b))) w) := by
  have HE := hid (fun w => end_any a w)
  rw [ha] at HE
  clear ha
  have HS := hid (show decide (a.alike b) = decide (a.fin = b.pg ∧ a.prot = b.prot ∧ a.z = b.z) from rfl)
  generalize decide (a.alike b) = r at *
  generalize a.fin = f at *
  unfold arC at *
  have key : ∀ r1 r2 r3 : Bool, (f == b.pg) = r1 → (a.prot == b.prot) = r2 → (a.z == b.z) = r3 → Calls Try.prog 69 #[.agg [.int .i64 a.pg, .int .i64 a.n, .int .i64 a.prot, .bool a.z].toArray, .agg [.int .i64 b.pg, .int .i64 b.n, .int .i64 b.prot, .bool b.z].toArray] w (RB (.bool (r1 && r2 && r3)) w) := by
    intro r1 r2 r3 h1 h2 h3
    cases r1
    · clear h2 h3
      go_enter Try.func69, Try.ntmps69
      go_wp2
      refine wp_region_quiet_below (by kernel_rfl) (by kernel_rfl) ?_
      repeat (first | go_big_quiet_step ((go_at_call 65; exact Calls.regrown_of (HE.out _))) | quiet_step ((go_at_call 65; exact Calls.regrown_of (HE.out _))))
      refine wpQuiet_nil ?_
      intro wq hw'
      obtain ⟨⟨dq, osq⟩, hw''⟩ := hw'
      have hbr := of_regrown hw''
      clear hw''
      first
        | (have hbn := bt hbq hbr; clear hcq hfq hzq hbq hbr; have hbq := hbn; clear hbn)
        | (have hbq := hbr; clear hbr)
      obtain ⟨hcq, hfq, hzq⟩ := bcell3 hbq
      go_wp2
      go_ret
      exact ⟨rfl, (by repeat (first | (with_reducible exact Below.refl _ _) | (with_reducible assumption) | (with_reducible refine Below.alloc ?_ (by first | omega | (simp; done) | (simp; omega)) _) | (with_reducible refine Below.setCell ?_ (by first | omega | (simp; done) | (simp; omega)) _) | (with_reducible refine Below.drew ?_) | (with_reducible refine bt ?_ (below_regrown _ _ _)) | (refine bt ?_ (by with_reducible assumption))))⟩
    cases r2
    · clear h3
      go_enter Try.func69, Try.ntmps69
      go_wp2
      refine wp_region_quiet_below (by kernel_rfl) (by kernel_rfl) ?_
      repeat (first | go_big_quiet_step ((go_at_call 65; exact Calls.regrown_of (HE.out _))) | quiet_step ((go_at_call 65; exact Calls.regrown_of (HE.out _))))
      refine wpQuiet_nil ?_
      intro wq hw'
      obtain ⟨⟨dq, osq⟩, hw''⟩ := hw'
      have hbr := of_regrown hw''
      clear hw''
      first
        | (have hbn := bt hbq hbr; clear hcq hfq hzq hbq hbr; have hbq := hbn; clear hbn)
        | (have hbq := hbr; clear hbr)
      obtain ⟨hcq, hfq, hzq⟩ := bcell3 hbq
      go_wp2
      go_ret
      exact ⟨rfl, (by repeat (first | (with_reducible exact Below.refl _ _) | (with_reducible assumption) | (with_reducible refine Below.alloc ?_ (by first | omega | (simp; done) | (simp; omega)) _) | (with_reducible refine Below.setCell ?_ (by first | omega | (simp; done) | (simp; omega)) _) | (with_reducible refine Below.drew ?_) | (with_reducible refine bt ?_ (below_regrown _ _ _)) | (refine bt ?_ (by with_reducible assumption))))⟩
    · go_enter Try.func69, Try.ntmps69
      go_wp2
      refine wp_region_quiet_below (by kernel_rfl) (by kernel_rfl) ?_
      repeat (first | go_big_quiet_step ((go_at_call 65; exact Calls.regrown_of (HE.out _))) | quiet_step ((go_at_call 65; exact Calls.regrown_of (HE.out _))))
      refine wpQuiet_nil ?_
      intro wq hw'
      obtain ⟨⟨dq, osq⟩, hw''⟩ := hw'
      have hbr := of_regrown hw''
      clear hw''
      first
        | (have hbn := bt hbq hbr; clear hcq hfq hzq hbq hbr; have hbq := hbn; clear hbn)
        | (have hbq := hbr; clear hbr)
      obtain ⟨hcq, hfq, hzq⟩ := bcell3 hbq
      go_wp2
      go_ret
      exact ⟨ret_bool (by simp), (by repeat (first | (with_reducible exact Below.refl _ _) | (with_reducible assumption) | (with_reducible refine Below.alloc ?_ (by first | omega | (simp; done) | (simp; omega)) _) | (with_reducible refine Below.setCell ?_ (by first | omega | (simp; done) | (simp; omega)) _) | (with_reducible refine Below.drew ?_) | (with_reducible refine bt ?_ (below_regrown _ _ _)) | (refine bt ?_ (by with_reducible assumption))))⟩
  have := key _ _ _ rfl rfl rfl
  rwa [show (f == b.pg && a.prot == b.prot && a.z == b.z) = r from by rw [HS.out, Bool.eq_iff_iff]; simp [and_assoc]] at this
end Go.Proofs.Ytejnpppejalhfaa
