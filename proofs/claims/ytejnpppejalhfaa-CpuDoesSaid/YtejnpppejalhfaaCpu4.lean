/- The contracts of work, and of the reference's uses, IsBad, reckon. -/
import Derived.Test.YtejnpppejalhfaaCpu3
namespace Go.Proofs.Ytejnpppejalhfaa
open Go.RowKit Go.Sort

def shrI (x y : Int) : Int := wrap64 (IntKind.u64.wrap x / 2 ^ (y % 64).toNat)
/-- what comes of two registers -/
def reckI (op x y : Int) : Int :=
  if op = 2 then wrap64 (x + y) else if op = 3 then wrap64 (x - y) else if op = 4 then wrap64 (x * y) else if op = 5 then bits .and .i64 x y else if op = 6 then bits .xor .i64 x y else shrI x y
def workI (p : Pr) (op b c imm value : Int) : Int :=
  if op = 1 then imm else if op = 11 then wrap64 (p.pc + imm) else if op = 9 then value else if op = 8 then wrap64 (p.reg b.toNat + imm) else reckI op (p.reg b.toNat) (p.reg c.toNat)
def Works (op : Int) : Prop := op = 1 ∨ op = 11 ∨ op = 9 ∨ op = 8 ∨ op = 2 ∨ op = 3 ∨ op = 4 ∨ op = 5 ∨ op = 6 ∨ op = 7

theorem shr_mod (y : Int) : (IntKind.u64.wrap y).tmod 64 = y % 64 := by rw [IntKind.wrap_u64, Int.tmod_eq_emod_of_nonneg (by omega)]; omega
theorem ret_tup2 {x y : Int} (h : x = y) : Ending.returned (.tuple #[.int .i64 x, .bool true]) = .returned (.tuple #[.int .i64 y, .bool true]) := by rw [h]

set_option maxRecDepth 100000 in
set_option maxHeartbeats 4000000 in
theorem work_no (g : Nat) (op a b c imm value : Int) (w : World) (h : ¬ Works op) :
    Calls Try.prog 60 #[.pointer (some ⟨g, 0, none⟩), insV op a b c imm, .int .i64 value] w (RB (.tuple #[.int .i64 0, .bool false]) w) := by
  unfold insV
  unfold Works at h
  simp only [not_or] at h
  obtain ⟨h1, h2, h3, h4, h5, h6, h7, h8, h9, h10⟩ := h
  go_enter Try.func60, Try.ntmps60
  go_wp2_with fail
  try
    refine wp_region_quiet_below (by kernel_rfl) (by kernel_rfl) ?_
    repeat (first | go_big_quiet_step ((fail)) | quiet_step ((fail)))
    refine wpQuiet_nil ?_
    intro wq hw'
    obtain ⟨⟨dq, osq⟩, hw''⟩ := hw'
    have hbr := of_regrown hw''
    clear hw''
    first
      | (have hbn := bt hbq hbr; clear hcq hfq hzq hbq hbr; have hbq := hbn; clear hbn)
      | (have hbq := hbr; clear hbr)
    obtain ⟨hcq, hfq, hzq⟩ := bcell3 hbq
    go_wp2_with fail
  go_ret2
  exact ⟨rfl,
    (by repeat (first | (with_reducible exact Below.refl _ _) | (with_reducible assumption) | (with_reducible refine Below.alloc ?_ (by first | omega | (simp; done) | (simp; omega)) _) | (with_reducible refine Below.setCell ?_ (by first | omega | (simp; done) | (simp; omega)) _) | (with_reducible refine Below.drew ?_) | (with_reducible refine bt ?_ (below_regrown _ _ _)) | (refine bt ?_ (by with_reducible assumption))))
    ⟩

set_option maxRecDepth 100000 in
set_option maxHeartbeats 4000000 in
theorem work_yes (g : Nat) (p : Pr) (hp : p.r.length = 8) (op a b c imm value : Int) (w : World) (hat : PrAt w g p) (hb : 0 ≤ b) (hc : 0 ≤ c) (hb8 : 2 ≤ op ∧ op ≤ 8 → b < 8) (hc8 : 2 ≤ op ∧ op ≤ 7 → c < 8) (h : Works op) :
    Calls Try.prog 60 #[.pointer (some ⟨g, 0, none⟩), insV op a b c imm, .int .i64 value] w (RB (.tuple #[.int .i64 (workI p op b c imm value), .bool true]) w) := by
  unfold insV
  have hpc := hat.pc hp
  have hlt := ltAll (World.block_lt_of_cell? w _ hpc)
  obtain ⟨b, rfl⟩ := Int.eq_ofNat_of_zero_le hb
  obtain ⟨c, rfl⟩ := Int.eq_ofNat_of_zero_le hc
  rcases h with h | h | h | h | h
  · subst h
    clear hb hc hb8 hc8 hat
    go_enter Try.func60, Try.ntmps60
    go_wp2_with fail
    try
      refine wp_region_quiet_below (by kernel_rfl) (by kernel_rfl) ?_
      repeat (first | go_big_quiet_step ((fail)) | quiet_step ((fail)))
      refine wpQuiet_nil ?_
      intro wq hw'
      obtain ⟨⟨dq, osq⟩, hw''⟩ := hw'
      have hbr := of_regrown hw''
      clear hw''
      first
        | (have hbn := bt hbq hbr; clear hcq hfq hzq hbq hbr; have hbq := hbn; clear hbn)
        | (have hbq := hbr; clear hbr)
      obtain ⟨hcq, hfq, hzq⟩ := bcell3 hbq
      go_wp2_with fail
    go_ret2
    refine ⟨?_,
      (by repeat (first | (with_reducible exact Below.refl _ _) | (with_reducible assumption) | (with_reducible refine Below.alloc ?_ (by first | omega | (simp; done) | (simp; omega)) _) | (with_reducible refine Below.setCell ?_ (by first | omega | (simp; done) | (simp; omega)) _) | (with_reducible refine Below.drew ?_) | (with_reducible refine bt ?_ (below_regrown _ _ _)) | (refine bt ?_ (by with_reducible assumption))))
      ⟩
    exact ret_tup2 (by simp [workI])
  · subst h
    clear hb hc hb8 hc8 hat
    go_enter Try.func60, Try.ntmps60
    go_wp2_with fail
    try
      refine wp_region_quiet_below (by kernel_rfl) (by kernel_rfl) ?_
      repeat (first | go_big_quiet_step ((fail)) | quiet_step ((fail)))
      refine wpQuiet_nil ?_
      intro wq hw'
      obtain ⟨⟨dq, osq⟩, hw''⟩ := hw'
      have hbr := of_regrown hw''
      clear hw''
      first
        | (have hbn := bt hbq hbr; clear hcq hfq hzq hbq hbr; have hbq := hbn; clear hbn)
        | (have hbq := hbr; clear hbr)
      obtain ⟨hcq, hfq, hzq⟩ := bcell3 hbq
      go_wp2_with fail
    go_ret2
    refine ⟨?_,
      (by repeat (first | (with_reducible exact Below.refl _ _) | (with_reducible assumption) | (with_reducible refine Below.alloc ?_ (by first | omega | (simp; done) | (simp; omega)) _) | (with_reducible refine Below.setCell ?_ (by first | omega | (simp; done) | (simp; omega)) _) | (with_reducible refine Below.drew ?_) | (with_reducible refine bt ?_ (below_regrown _ _ _)) | (refine bt ?_ (by with_reducible assumption))))
      ⟩
    exact ret_tup2 (by simp [workI])
  · subst h
    clear hb hc hb8 hc8 hat
    go_enter Try.func60, Try.ntmps60
    go_wp2_with fail
    try
      refine wp_region_quiet_below (by kernel_rfl) (by kernel_rfl) ?_
      repeat (first | go_big_quiet_step ((fail)) | quiet_step ((fail)))
      refine wpQuiet_nil ?_
      intro wq hw'
      obtain ⟨⟨dq, osq⟩, hw''⟩ := hw'
      have hbr := of_regrown hw''
      clear hw''
      first
        | (have hbn := bt hbq hbr; clear hcq hfq hzq hbq hbr; have hbq := hbn; clear hbn)
        | (have hbq := hbr; clear hbr)
      obtain ⟨hcq, hfq, hzq⟩ := bcell3 hbq
      go_wp2_with fail
    go_ret2
    refine ⟨?_,
      (by repeat (first | (with_reducible exact Below.refl _ _) | (with_reducible assumption) | (with_reducible refine Below.alloc ?_ (by first | omega | (simp; done) | (simp; omega)) _) | (with_reducible refine Below.setCell ?_ (by first | omega | (simp; done) | (simp; omega)) _) | (with_reducible refine Below.drew ?_) | (with_reducible refine bt ?_ (below_regrown _ _ _)) | (refine bt ?_ (by with_reducible assumption))))
      ⟩
    exact ret_tup2 (by simp [workI])
  · subst h
    have rb := hat.reg hp b (by omega)
    have kb : (b : Int) < 8 := by omega
    have HW := hid (show workI p 8 b c imm value = wrap64 (p.reg b + imm) by simp [workI])
    clear hb hc hb8 hc8 hat
    generalize p.reg b = x at *
    go_enter Try.func60, Try.ntmps60
    go_wp2_with fail
    try
      refine wp_region_quiet_below (by kernel_rfl) (by kernel_rfl) ?_
      repeat (first | go_big_quiet_step ((fail)) | quiet_step ((fail)))
      refine wpQuiet_nil ?_
      intro wq hw'
      obtain ⟨⟨dq, osq⟩, hw''⟩ := hw'
      have hbr := of_regrown hw''
      clear hw''
      first
        | (have hbn := bt hbq hbr; clear hcq hfq hzq hbq hbr; have hbq := hbn; clear hbn)
        | (have hbq := hbr; clear hbr)
      obtain ⟨hcq, hfq, hzq⟩ := bcell3 hbq
      go_wp2_with fail
    go_ret2
    refine ⟨?_,
      (by repeat (first | (with_reducible exact Below.refl _ _) | (with_reducible assumption) | (with_reducible refine Below.alloc ?_ (by first | omega | (simp; done) | (simp; omega)) _) | (with_reducible refine Below.setCell ?_ (by first | omega | (simp; done) | (simp; omega)) _) | (with_reducible refine Below.drew ?_) | (with_reducible refine bt ?_ (below_regrown _ _ _)) | (refine bt ?_ (by with_reducible assumption))))
      ⟩
    exact ret_tup2 HW.out.symm
  have rb := hat.reg hp b (by omega)
  have kb : (b : Int) < 8 := by omega
  have rc := hat.reg hp c (by omega)
  have kc : (c : Int) < 8 := by omega
  have HW := hid (show ∀ o : Int, 2 ≤ o → o ≤ 7 → workI p o b c imm value = reckI o (p.reg b) (p.reg c) from fun o h2 h7 => by
    unfold workI; rw [if_neg (by omega), if_neg (by omega), if_neg (by omega), if_neg (by omega)]; rfl)
  clear hb hc hb8 hc8 hat
  generalize p.reg b = x at *
  generalize p.reg c = y at *
  rcases h with h | h | h | h | h | h
  · subst h
    go_enter Try.func60, Try.ntmps60
    go_wp2_with fail
    try
      refine wp_region_quiet_below (by kernel_rfl) (by kernel_rfl) ?_
      repeat (first | go_big_quiet_step ((fail)) | quiet_step ((fail)))
      refine wpQuiet_nil ?_
      intro wq hw'
      obtain ⟨⟨dq, osq⟩, hw''⟩ := hw'
      have hbr := of_regrown hw''
      clear hw''
      first
        | (have hbn := bt hbq hbr; clear hcq hfq hzq hbq hbr; have hbq := hbn; clear hbn)
        | (have hbq := hbr; clear hbr)
      obtain ⟨hcq, hfq, hzq⟩ := bcell3 hbq
      go_wp2_with fail
    go_ret2
    refine ⟨?_,
      (by repeat (first | (with_reducible exact Below.refl _ _) | (with_reducible assumption) | (with_reducible refine Below.alloc ?_ (by first | omega | (simp; done) | (simp; omega)) _) | (with_reducible refine Below.setCell ?_ (by first | omega | (simp; done) | (simp; omega)) _) | (with_reducible refine Below.drew ?_) | (with_reducible refine bt ?_ (below_regrown _ _ _)) | (refine bt ?_ (by with_reducible assumption))))
      ⟩
    exact ret_tup2 (by rw [HW.out _ (by decide) (by decide)]; rfl)
  · subst h
    go_enter Try.func60, Try.ntmps60
    go_wp2_with fail
    try
      refine wp_region_quiet_below (by kernel_rfl) (by kernel_rfl) ?_
      repeat (first | go_big_quiet_step ((fail)) | quiet_step ((fail)))
      refine wpQuiet_nil ?_
      intro wq hw'
      obtain ⟨⟨dq, osq⟩, hw''⟩ := hw'
      have hbr := of_regrown hw''
      clear hw''
      first
        | (have hbn := bt hbq hbr; clear hcq hfq hzq hbq hbr; have hbq := hbn; clear hbn)
        | (have hbq := hbr; clear hbr)
      obtain ⟨hcq, hfq, hzq⟩ := bcell3 hbq
      go_wp2_with fail
    go_ret2
    refine ⟨?_,
      (by repeat (first | (with_reducible exact Below.refl _ _) | (with_reducible assumption) | (with_reducible refine Below.alloc ?_ (by first | omega | (simp; done) | (simp; omega)) _) | (with_reducible refine Below.setCell ?_ (by first | omega | (simp; done) | (simp; omega)) _) | (with_reducible refine Below.drew ?_) | (with_reducible refine bt ?_ (below_regrown _ _ _)) | (refine bt ?_ (by with_reducible assumption))))
      ⟩
    exact ret_tup2 (by rw [HW.out _ (by decide) (by decide)]; rfl)
  · subst h
    go_enter Try.func60, Try.ntmps60
    go_wp2_with fail
    try
      refine wp_region_quiet_below (by kernel_rfl) (by kernel_rfl) ?_
      repeat (first | go_big_quiet_step ((fail)) | quiet_step ((fail)))
      refine wpQuiet_nil ?_
      intro wq hw'
      obtain ⟨⟨dq, osq⟩, hw''⟩ := hw'
      have hbr := of_regrown hw''
      clear hw''
      first
        | (have hbn := bt hbq hbr; clear hcq hfq hzq hbq hbr; have hbq := hbn; clear hbn)
        | (have hbq := hbr; clear hbr)
      obtain ⟨hcq, hfq, hzq⟩ := bcell3 hbq
      go_wp2_with fail
    go_ret2
    refine ⟨?_,
      (by repeat (first | (with_reducible exact Below.refl _ _) | (with_reducible assumption) | (with_reducible refine Below.alloc ?_ (by first | omega | (simp; done) | (simp; omega)) _) | (with_reducible refine Below.setCell ?_ (by first | omega | (simp; done) | (simp; omega)) _) | (with_reducible refine Below.drew ?_) | (with_reducible refine bt ?_ (below_regrown _ _ _)) | (refine bt ?_ (by with_reducible assumption))))
      ⟩
    exact ret_tup2 (by rw [HW.out _ (by decide) (by decide)]; rfl)
  · subst h
    go_enter Try.func60, Try.ntmps60
    go_wp2_with fail
    try
      refine wp_region_quiet_below (by kernel_rfl) (by kernel_rfl) ?_
      repeat (first | go_big_quiet_step ((fail)) | quiet_step ((fail)))
      refine wpQuiet_nil ?_
      intro wq hw'
      obtain ⟨⟨dq, osq⟩, hw''⟩ := hw'
      have hbr := of_regrown hw''
      clear hw''
      first
        | (have hbn := bt hbq hbr; clear hcq hfq hzq hbq hbr; have hbq := hbn; clear hbn)
        | (have hbq := hbr; clear hbr)
      obtain ⟨hcq, hfq, hzq⟩ := bcell3 hbq
      go_wp2_with fail
    go_ret2
    refine ⟨?_,
      (by repeat (first | (with_reducible exact Below.refl _ _) | (with_reducible assumption) | (with_reducible refine Below.alloc ?_ (by first | omega | (simp; done) | (simp; omega)) _) | (with_reducible refine Below.setCell ?_ (by first | omega | (simp; done) | (simp; omega)) _) | (with_reducible refine Below.drew ?_) | (with_reducible refine bt ?_ (below_regrown _ _ _)) | (refine bt ?_ (by with_reducible assumption))))
      ⟩
    exact ret_tup2 (by rw [HW.out _ (by decide) (by decide)]; rfl)
  · subst h
    go_enter Try.func60, Try.ntmps60
    go_wp2_with fail
    try
      refine wp_region_quiet_below (by kernel_rfl) (by kernel_rfl) ?_
      repeat (first | go_big_quiet_step ((fail)) | quiet_step ((fail)))
      refine wpQuiet_nil ?_
      intro wq hw'
      obtain ⟨⟨dq, osq⟩, hw''⟩ := hw'
      have hbr := of_regrown hw''
      clear hw''
      first
        | (have hbn := bt hbq hbr; clear hcq hfq hzq hbq hbr; have hbq := hbn; clear hbn)
        | (have hbq := hbr; clear hbr)
      obtain ⟨hcq, hfq, hzq⟩ := bcell3 hbq
      go_wp2_with fail
    go_ret2
    refine ⟨?_,
      (by repeat (first | (with_reducible exact Below.refl _ _) | (with_reducible assumption) | (with_reducible refine Below.alloc ?_ (by first | omega | (simp; done) | (simp; omega)) _) | (with_reducible refine Below.setCell ?_ (by first | omega | (simp; done) | (simp; omega)) _) | (with_reducible refine Below.drew ?_) | (with_reducible refine bt ?_ (below_regrown _ _ _)) | (refine bt ?_ (by with_reducible assumption))))
      ⟩
    exact ret_tup2 (by rw [HW.out _ (by decide) (by decide)]; rfl)
  · subst h
    have hs := shr_mod y
    have hs0 : 0 ≤ y % 64 := by omega
    have hs1 : y % 64 ≤ 64 := by omega
    go_enter Try.func60, Try.ntmps60
    go_wp2_with fail
    try
      refine wp_region_quiet_below (by kernel_rfl) (by kernel_rfl) ?_
      repeat (first | go_big_quiet_step ((fail)) | quiet_step ((fail)))
      refine wpQuiet_nil ?_
      intro wq hw'
      obtain ⟨⟨dq, osq⟩, hw''⟩ := hw'
      have hbr := of_regrown hw''
      clear hw''
      first
        | (have hbn := bt hbq hbr; clear hcq hfq hzq hbq hbr; have hbq := hbn; clear hbn)
        | (have hbq := hbr; clear hbr)
      obtain ⟨hcq, hfq, hzq⟩ := bcell3 hbq
      go_wp2_with fail
    go_ret2
    refine ⟨?_,
      (by repeat (first | (with_reducible exact Below.refl _ _) | (with_reducible assumption) | (with_reducible refine Below.alloc ?_ (by first | omega | (simp; done) | (simp; omega)) _) | (with_reducible refine Below.setCell ?_ (by first | omega | (simp; done) | (simp; omega)) _) | (with_reducible refine Below.drew ?_) | (with_reducible refine bt ?_ (below_regrown _ _ _)) | (refine bt ?_ (by with_reducible assumption))))
      ⟩
    exact ret_tup2 (by rw [HW.out _ (by decide) (by decide)]; rfl)
end Go.Proofs.Ytejnpppejalhfaa
