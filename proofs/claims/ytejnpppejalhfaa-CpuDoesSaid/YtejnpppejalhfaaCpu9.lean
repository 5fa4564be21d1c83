/- cpuBegun. -/
import Derived.Test.YtejnpppejalhfaaCpu6
import Derived.Deep.RegionWith
import Derived.Deep.DeepCutAuto
namespace Go.Proofs.Ytejnpppejalhfaa
open Go.RowKit Go.Sort

def bs1 : List UInt8 := [8, 1, 2, 0, 253, 255, 255, 255]
def bs2 : List UInt8 := [9, 1, 2, 4, 1, 0, 0, 0]
theorem bg_enc1 : encB 8 1 2 0 (-3) = bs1 := by decide
theorem bg_enc2 : encB 9 1 2 4 1 = bs2 := by decide
theorem bg_dec1 (w : World) : Calls Try.prog 24 #[.string ⟨bs1.toArray⟩] w (RB (.tuple #[insV 8 1 2 0 (-3), .int .i64 0]) w) := by
  have := decode_yes 8 1 2 0 253 255 255 255 w
  unfold decV at this
  rwa [show wrap32 (numB [253, 255, 255, 255]) = -3 from by unfold wrap32; decide] at this
theorem bg_dec2 (w : World) : Calls Try.prog 24 #[.string ⟨bs2.toArray⟩] w (RB (.tuple #[insV 9 1 2 4 1, .int .i64 0]) w) := by
  have := decode_yes 9 1 2 4 1 0 0 0 w
  unfold decV at this
  rwa [show wrap32 (numB [1, 0, 0, 0]) = 1 from by unfold wrap32; decide] at this
def bgP : Pr := ⟨[0, 0, 5, 0, 0, 0, 0, 0], 8, 0, 0, 0, 0⟩
def bgQ : Pr := ⟨[0, 2, 5, 0, 0, 0, 0, 0], 16, 0, 0, 0, 0⟩
theorem bg_done1 : doneP bgP 8 1 2 0 (-3) 0 = bgQ := by
  unfold doneP
  rw [if_pos (by decide)]
  simp [jumpI, workI, bgP, bgQ, Pr.reg, wrap64]
theorem bg_ask1 : askL bgQ 9 1 2 4 1 = i5 1 6 4 0 0 := by
  unfold askL
  rw [if_pos rfl]
  simp [i5, bgQ, Pr.reg, wrap64]
theorem bg_done (w : World) : Calls Try.prog 30 #[bgP.v, .string ⟨bs1.toArray⟩, .int .i64 0] w (RB (.tuple #[bgQ.v, .int .i64 0]) w) := by
  have := done_yes bgP rfl ⟨bs1.toArray⟩ 8 (-3) 0 1 2 0 w bg_dec1 (by unfold badI useA useB useC; omega)
  rwa [bg_done1] at this
theorem bg_ask (w : World) : Calls Try.prog 29 #[bgQ.v, .string ⟨bs2.toArray⟩] w (RB (.tuple #[.agg (i5 1 6 4 0 0).toArray, .int .i64 0]) w) := by
  have := ask_yes bgQ rfl ⟨bs2.toArray⟩ 9 1 1 2 4 w bg_dec2 (by unfold badI useA useB useC; omega)
  rwa [bg_ask1] at this
theorem bg_enc (w : World) : Calls Try.prog 23 #[insV 8 1 2 0 (-3)] w (RB (.tuple #[.string ⟨bs1.toArray⟩, .int .i64 0]) w) := by
  have := encode_yes 8 1 2 0 (-3) w (by unfold encBad outB; omega)
  rwa [bg_enc1] at this
theorem bg_bytes (w : World) : Calls Try.prog 26 #[insV 9 1 2 4 1] w (RB (.string ⟨bs2.toArray⟩) w) := by
  have := instrBytes 9 1 2 4 1 w
  rwa [bg_enc2] at this

theorem have_lt {a b : Nat} {P : Prop} (h : a < b) (k : (a < b ∧ a ≤ b ∧ ∀ k, a < b + k) → P) : P := k (ltAll h)
def BgCut (w : World) (b2 b3 : Nat) (v7 v8 : Value) (wx : World) : Prop :=
  ∃ g, v7 = .pointer (some ⟨g, 0, none⟩) ∧ v8 = .int .i64 0 ∧ Below w.heap.size w wx ∧ wx.cell? ⟨g, 0, none⟩ = some (.int .i64 1) ∧ wx.cell? ⟨g, 1, none⟩ = some (.int .i64 6) ∧ wx.cell? ⟨g, 2, none⟩ = some (.int .i64 4) ∧ wx.cell? ⟨g, 3, none⟩ = some (.int .i64 0) ∧ wx.cell? ⟨g, 4, none⟩ = some (.int .i64 0) ∧
    wx.cell? ⟨b2, 4, none⟩ = some (.int .i64 (-3)) ∧ wx.cell? ⟨b3, 1, none⟩ = some (.int .i64 2) ∧ wx.cell? ⟨b3, 8, none⟩ = some (.int .i64 16)

set_option maxRecDepth 100000 in
set_option maxHeartbeats 4000000 in
theorem cpuBegun_any (w : World) : Calls Try.prog 28 #[] w (RB (.bool true) w) := by
  have HE := hid bg_enc
  have HD := hid bg_dec1
  have HN := hid (show ∀ w, Calls Try.prog 30 #[.agg #[.int .i64 0, .int .i64 0, .int .i64 5, .int .i64 0, .int .i64 0, .int .i64 0, .int .i64 0, .int .i64 0, .int .i64 8, .int .i64 0, .int .i64 0, .int .i64 0, .int .i64 0], .string ⟨bs1.toArray⟩, .int .i64 0] w (RB (.tuple #[.agg #[.int .i64 0, .int .i64 2, .int .i64 5, .int .i64 0, .int .i64 0, .int .i64 0, .int .i64 0, .int .i64 0, .int .i64 16, .int .i64 0, .int .i64 0, .int .i64 0, .int .i64 0], .int .i64 0]) w) from bg_done)
  have HY := hid bg_bytes
  have HA := hid (show ∀ w, Calls Try.prog 29 #[.agg #[.int .i64 0, .int .i64 2, .int .i64 5, .int .i64 0, .int .i64 0, .int .i64 0, .int .i64 0, .int .i64 0, .int .i64 16, .int .i64 0, .int .i64 0, .int .i64 0, .int .i64 0], .string ⟨bs2.toArray⟩] w (RB (.tuple #[.agg #[.int .i64 1, .int .i64 6, .int .i64 4, .int .i64 0, .int .i64 0], .int .i64 0]) w) from bg_ask)
  unfold insV at HE HD HY
  go_enter Try.func28, Try.ntmps28
  go_upto_region 4 with (first | (go_at_call 23; refine (HE.out _).mono ?_; rintro e w1 ⟨rfl, hb1⟩) | (go_at_call 24; refine (HD.out _).mono ?_; rintro e w2 ⟨rfl, hb2⟩) | ((go_at_call 30; refine (HN.out _).mono ?_; rintro e w3 ⟨rfl, hb3⟩); obtain ⟨hc3, hf3⟩ := bcell hb3; have zi : w2.heap.size < w3.heap.size := (by have := hb3.size; simp at this; omega); have zi := ltAll zi))
  go_cut [7, 8] (fun v7 v8 wx => BgCut w w2.heap.size w3.heap.size v7 v8 wx)
  case first =>
    have s1 := hb1.size
    have s2 := hb2.size
    have s3 := hb3.size
    try simp at s2
    try simp at s3
    go_region_with (first | ((go_at_call 26; refine (HY.out _).mono ?_; rintro e wy ⟨rfl, hby⟩); obtain ⟨hcy, hfy, hzy⟩ := bcell3 hby; have k2 := ltAll (hzy w2.heap.size (by first | (simp; done) | (simp; omega))).1; have k3 := ltAll (hzy w3.heap.size (by first | (simp; done) | (simp; omega))).1; first | (refine have_lt (a := w3.heap.size + 1) (b := wy.heap.size) ?_ ?_; (focus (have := hby.size; simp at this; omega)); intro k4) | skip) | ((go_at_call 29; refine (HA.out _).mono ?_; rintro e wa ⟨rfl, hba⟩); obtain ⟨hca, hfa, hza⟩ := bcell3 hba; have j2 := ltAll (hza w2.heap.size (by first | (simp [k2]; done) | (simp; omega))).1; have j3 := ltAll (hza w3.heap.size (by first | (simp [k3]; done) | (simp; omega))).1; first | (refine have_lt (a := w3.heap.size + 1) (b := wa.heap.size) ?_ ?_; (focus (have := hba.size; have := hby.size; simp at *; omega)); intro j4) | skip; first | (refine have_lt (a := wy.heap.size) (b := wa.heap.size) ?_ ?_; (focus (have := hba.size; simp at this; omega)); intro j5) | skip))
    all_goals
      go_wp2_with fail
      go_meet
      refine ⟨_, rfl, rfl, (by repeat (first | (with_reducible exact Below.refl _ _) | (with_reducible assumption) | (with_reducible refine Below.alloc ?_ (by first | omega | (simp; done) | (simp; omega)) _) | (with_reducible refine Below.setCell ?_ (by first | omega | (simp; done) | (simp; omega)) _) | (with_reducible refine Below.drew ?_) | (with_reducible refine bt ?_ (below_regrown _ _ _)) | (refine bt ?_ (by with_reducible assumption)))), ?_, ?_, ?_, ?_, ?_, ?_, ?_, ?_⟩
      all_goals (simp [go_sem, *]; done)
  case rest =>
    obtain ⟨g, rfl, rfl, hb, c0, c1, c2, c3, c4, d4, p1, p8⟩ := hcut
    go_wp2
    go_ret
    exact ⟨rfl, hb⟩
end Go.Proofs.Ytejnpppejalhfaa
