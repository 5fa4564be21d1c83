/- slices.Concat of three rows of areas: the walk. -/
import Derived.Test.YtejnpppejalhfaaAr22
namespace Go.Proofs.Ytejnpppejalhfaa
open Go.RowKit Go.Sort

def cat (F : Nat → List Ar) (i : Nat) : List Ar := (List.range i).flatMap F
theorem cat_succ (F : Nat → List Ar) (i : Nat) : cat F (i + 1) = cat F i ++ F i := by simp [cat, List.range_succ]
theorem cat_len {F : Nat → List Ar} {n : Nat} (h : ∀ i, i < n → (F i).length ≤ 1000) : ∀ i, i ≤ n → (cat F i).length ≤ i * 1000 := by
  intro i
  induction i with
  | zero => intro _; simp [cat]
  | succ i ih =>
    intro hi
    have := ih (by omega)
    have := h i (by omega)
    rw [cat_succ, List.length_append]
    omega
theorem sl_form {w : World} {v : Value} {L : List Ar} (h : SlAr w v L) : ∃ base cap, v = .slice base L.length cap := by
  rcases h with ⟨p, c, rfl, rfl⟩ | ⟨b, off, cap, rfl, _⟩
  · exact ⟨p, c, rfl⟩
  · exact ⟨_, _, rfl⟩
theorem SlAr.below {w w' : World} {v : Value} {L : List Ar} (h : SlAr w v L) (hb : Below w.heap.size w w') : SlAr w' v L := by
  rcases h with h | ⟨b, off, cap, rfl, h2, h3, h4, h5⟩
  · exact Or.inl h
  · exact Or.inr ⟨b, off, cap, rfl, Nat.lt_of_lt_of_le h2 hb.size, h3, h4, fun i a ha => (h5 i a ha).grown hb h2⟩
theorem ms3 {i : Nat} (h : i < 3) : 3 - ((i : Int) + 1).toNat < 3 - (i : Int).toNat := by omega
set_option maxRecDepth 100000 in
set_option maxHeartbeats 8000000 in
theorem concat_three {w : World} (c : Nat) (V : Nat → Value) (F : Nat → List Ar) (hcl : c < w.heap.size) (hc : ∀ i, i < 3 → w.cell? ⟨c, i, none⟩ = some (V i)) (hs : ∀ i, i < 3 → SlAr w (V i) (F i)) (hlen : ∀ i, i < 3 → (F i).length ≤ 1000) :
    Calls Try.prog 107 #[.slice (some ⟨c, 0, none⟩) 3 3] w (AreasPost (cat F 3) w) := by
  have HCL := hid (cat_len hlen)
  have HL := hid hlen
  have HS := hid hs
  have HC := hid hc
  clear hlen hs hc
  go_enter Try.func107, Try.ntmps107
  go_wp2
  go_loopw [3, 11] (fun vs vi wr => ∃ i : Nat, i ≤ 3 ∧ vi = .int .i64 i ∧ vs = .int .i64 (cat F i).length ∧ wr = w) (fun _ vi _ => 3 - (intOf vi).toNat)
  case atStart => exact ⟨0, by omega, rfl, rfl, rfl⟩
  case round =>
    obtain ⟨i, hi, rfl, rfl, rfl⟩ := hrel
    by_cases hlt : i < 3
    · obtain ⟨base, cp, hv⟩ := sl_form (HS.out i hlt)
      have hci := HC.out i hlt
      rw [hv] at hci
      have h1 := HL.out i hlt
      have h2 := HCL.out i hi
      have hsum : wrap64 (((cat F i).length : Int) + (F i).length) = (cat F i).length + (F i).length := wrap64_small _ (by omega) (by omega)
      have hnn : ¬ (((cat F i).length : Int) + (F i).length < 0) := by omega
      have hws : wrap64 ((i : Int) + 1) = (i : Int) + 1 := wrap64_small _ (by omega) (by omega)
      have HMS := hid (ms3 hlt)
      have HX := hid (cat_succ F i)
      clear hv h1 h2
      go_wp2
      refine ⟨⟨i + 1, hlt, rfl, ?_, by trivial⟩, HMS.out⟩
      rw [HX.out, List.length_append, hsum, Int.natCast_add]
    · obtain rfl : i = 3 := by omega
      have HG := hid (grow_nil (cat F 3).length (Nat.le_trans (HCL.out 3 (Nat.le_refl _)) (by decide)) wr)
      go_upto_region 11 with (go_at_call 114; refine HG.out.mono ?_; rintro e wz ⟨vz, rfl, hoz, hbz⟩)
      have hzz := hbz.size
      go_loopw [6, 27] (fun vo vi w2 => ∃ i : Nat, i ≤ 3 ∧ vi = .int .i64 i ∧ Below wr.heap.size wr w2 ∧ w2.ownsRow wr.heap.size 63 4 vo (cat F i).length (flat (cat F i))) (fun _ vi _ => 3 - (intOf vi).toNat)
      case atStart => exact ⟨0, by omega, rfl, hbz, hoz⟩
      case round =>
        rename_i w2 _
        obtain ⟨i, hi, rfl, hb2, hown⟩ := hrel
        by_cases hlt : i < 3
        · have hsl := (HS.out i hlt).below hb2
          have hci := (hb2.cell (p := ⟨c, i, none⟩) hcl).trans (HC.out i hlt)
          have h1 := HL.out i hlt
          have h2 := HCL.out i hi
          have hws : wrap64 ((i : Int) + 1) = (i : Int) + 1 := wrap64_small _ (by omega) (by omega)
          have HMS := hid (ms3 hlt)
          have HX := hid (cat_succ F i)
          obtain ⟨v3, w3, hr, ho3, hg3⟩ := append_sl hown hsl (by omega) hb2.size
          have HO3 := hid ho3
          have HG3 := hid hg3
          have HOW := hid hown
          clear h1 h2 hsl ho3 hg3 hown
          go_wp2_with (at_builtin; refine Lib.wpList_append_run _ rfl _ _ _ _ rfl _ _ rfl rfl _ _ hr ?_)
          have hown := HOW.out
          have hb3 := hb2.grown HG3.out hb2.size (fun j hj => (hown.lt j hj).1)
          refine ⟨⟨i + 1, hlt, rfl, hb3, ?_⟩, HMS.out⟩
          rw [HX.out]
          exact HO3.out
        · obtain rfl : i = 3 := by omega
          go_wp2
          go_ret
          exact ⟨_, rfl, own_base hown (Nat.le_refl _), hb2⟩
end Go.Proofs.Ytejnpppejalhfaa
