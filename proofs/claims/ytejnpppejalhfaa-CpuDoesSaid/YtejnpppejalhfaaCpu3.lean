/- The contracts of jump and work, and of the reference's uses, reckon. -/
import Derived.Test.YtejnpppejalhfaaCpu
namespace Go.Proofs.Ytejnpppejalhfaa
open Go.RowKit Go.Sort

/-- a process: its eight registers, then Pc, State, Code, Fault -/
structure Pr where
  r : List Int
  pc : Int
  st : Int
  code : Int
  fk : Int
  fa : Int
def Pr.cells (p : Pr) : List Value := p.r.map (Value.int .i64) ++ [.int .i64 p.pc, .int .i64 p.st, .int .i64 p.code, .int .i64 p.fk, .int .i64 p.fa]
def Pr.v (p : Pr) : Value := .agg p.cells.toArray
/-- where a process lies in memory -/
def PrAt (w : World) (g : Nat) (p : Pr) : Prop := ∀ j, j < 13 → w.cell? ⟨g, j, none⟩ = p.cells[j]?

def Pr.reg (p : Pr) (k : Nat) : Int := p.r.getD k 0
theorem PrAt.reg {w : World} {g : Nat} {p : Pr} (h : PrAt w g p) (hp : p.r.length = 8) (k : Nat) (hk : k < 8) : w.cell? ⟨g, k, none⟩ = some (.int .i64 (p.reg k)) := by
  rw [h k (by omega)]
  simp [Pr.cells, Pr.reg, hp, hk, List.getElem?_append_left]
theorem PrAt.pc {w : World} {g : Nat} {p : Pr} (h : PrAt w g p) (hp : p.r.length = 8) : w.cell? ⟨g, 8, none⟩ = some (.int .i64 p.pc) := by
  rw [h 8 (by decide)]; simp [Pr.cells, hp]

/-- what behind is: jump, by the operation -/
def jumpI (p : Pr) (op a b imm : Int) : Int :=
  if op = 12 ∨ (op = 13 ∧ p.reg a.toNat = p.reg b.toNat) ∨ (op = 14 ∧ p.reg a.toNat < p.reg b.toNat) then wrap64 (p.pc + imm)
  else if op = 15 then p.reg a.toNat else wrap64 (p.pc + 8)

set_option maxRecDepth 100000 in
set_option maxHeartbeats 4000000 in
theorem jump_any (g : Nat) (p : Pr) (hp : p.r.length = 8) (op a b c imm : Int) (w : World) (hat : PrAt w g p) (ha : 0 ≤ a) (hb : 0 ≤ b) (ha8 : op = 13 ∨ op = 14 ∨ op = 15 → a < 8) (hb8 : op = 13 ∨ op = 14 → b < 8) :
    Calls Try.prog 59 #[.pointer (some ⟨g, 0, none⟩), insV op a b c imm] w (RB (.int .i64 (jumpI p op a b imm)) w) := by
  unfold insV
  have hpc := hat.pc hp
  have hlt := ltAll (World.block_lt_of_cell? w _ hpc)
  obtain ⟨a, rfl⟩ := Int.eq_ofNat_of_zero_le ha
  obtain ⟨b, rfl⟩ := Int.eq_ofNat_of_zero_le hb
  by_cases h12 : op = 12
  · subst h12
    clear ha8 hb8 ha hb hat hp
    go_enter Try.func59, Try.ntmps59
    go_wp2_with fail
    iterate 4
      all_goals
        try
          refine wp_region_quiet_below (by kernel_rfl) (by kernel_rfl) ?_
          repeat (first | go_big_quiet_step ((fail)) | quiet_step ((fail)))
          refine wpQuiet_nil ?_
          intro wq hw'
          obtain ⟨⟨dq, osq⟩, hw''⟩ := hw'
          have hbr := of_regrown hw''
          clear hw''
          first
            | (have hbn := bt hbq hbr; clear hcq hfq hzq hbq hbr; have hbq := hbn; clear hbn)
            | (have hbq := hbr; clear hbr)
          obtain ⟨hcq, hfq, hzq⟩ := bcell3 hbq
          go_wp2_with fail
    all_goals
      go_ret
      refine ⟨ret_int ?_,
        (by repeat (first | (with_reducible exact Below.refl _ _) | (with_reducible assumption) | (with_reducible refine Below.alloc ?_ (by first | omega | (simp; done) | (simp; omega)) _) | (with_reducible refine Below.setCell ?_ (by first | omega | (simp; done) | (simp; omega)) _) | (with_reducible refine Below.drew ?_) | (with_reducible refine bt ?_ (below_regrown _ _ _)) | (refine bt ?_ (by with_reducible assumption))))
        ⟩
    simp [jumpI]
  by_cases h13 : op = 13
  · subst h13
    have ra := hat.reg hp a (by omega)
    have rb := hat.reg hp b (by omega)
    have ka : (a : Int) < 8 := by omega
    have kb : (b : Int) < 8 := by omega
    clear ha8 hb8 ha hb hat hp h12
    by_cases he : p.reg a = p.reg b
    · have HJ := hid (show jumpI p 13 a b imm = wrap64 (p.pc + imm) by simp [jumpI, he])
      have hee : (p.reg a == p.reg b) = true := by simp [he]
      clear he
      generalize p.reg a = x at *
      generalize p.reg b = y at *
      go_enter Try.func59, Try.ntmps59
      go_wp2_with fail
      iterate 4
        all_goals
          try
            refine wp_region_quiet_below (by kernel_rfl) (by kernel_rfl) ?_
            repeat (first | go_big_quiet_step ((fail)) | quiet_step ((fail)))
            refine wpQuiet_nil ?_
            intro wq hw'
            obtain ⟨⟨dq, osq⟩, hw''⟩ := hw'
            have hbr := of_regrown hw''
            clear hw''
            first
              | (have hbn := bt hbq hbr; clear hcq hfq hzq hbq hbr; have hbq := hbn; clear hbn)
              | (have hbq := hbr; clear hbr)
            obtain ⟨hcq, hfq, hzq⟩ := bcell3 hbq
            go_wp2_with fail
      all_goals
        go_ret
        refine ⟨ret_int ?_,
          (by repeat (first | (with_reducible exact Below.refl _ _) | (with_reducible assumption) | (with_reducible refine Below.alloc ?_ (by first | omega | (simp; done) | (simp; omega)) _) | (with_reducible refine Below.setCell ?_ (by first | omega | (simp; done) | (simp; omega)) _) | (with_reducible refine Below.drew ?_) | (with_reducible refine bt ?_ (below_regrown _ _ _)) | (refine bt ?_ (by with_reducible assumption))))
          ⟩
      exact HJ.out.symm
    · have HJ := hid (show jumpI p 13 a b imm = wrap64 (p.pc + 8) by simp [jumpI, he])
      have hee : (p.reg a == p.reg b) = false := by simp [he]
      clear he
      generalize p.reg a = x at *
      generalize p.reg b = y at *
      go_enter Try.func59, Try.ntmps59
      go_wp2_with fail
      iterate 4
        all_goals
          try
            refine wp_region_quiet_below (by kernel_rfl) (by kernel_rfl) ?_
            repeat (first | go_big_quiet_step ((fail)) | quiet_step ((fail)))
            refine wpQuiet_nil ?_
            intro wq hw'
            obtain ⟨⟨dq, osq⟩, hw''⟩ := hw'
            have hbr := of_regrown hw''
            clear hw''
            first
              | (have hbn := bt hbq hbr; clear hcq hfq hzq hbq hbr; have hbq := hbn; clear hbn)
              | (have hbq := hbr; clear hbr)
            obtain ⟨hcq, hfq, hzq⟩ := bcell3 hbq
            go_wp2_with fail
      all_goals
        go_ret
        refine ⟨ret_int ?_,
          (by repeat (first | (with_reducible exact Below.refl _ _) | (with_reducible assumption) | (with_reducible refine Below.alloc ?_ (by first | omega | (simp; done) | (simp; omega)) _) | (with_reducible refine Below.setCell ?_ (by first | omega | (simp; done) | (simp; omega)) _) | (with_reducible refine Below.drew ?_) | (with_reducible refine bt ?_ (below_regrown _ _ _)) | (refine bt ?_ (by with_reducible assumption))))
          ⟩
      exact HJ.out.symm
  by_cases h14 : op = 14
  · subst h14
    have ra := hat.reg hp a (by omega)
    have rb := hat.reg hp b (by omega)
    have ka : (a : Int) < 8 := by omega
    have kb : (b : Int) < 8 := by omega
    clear ha8 hb8 ha hb hat hp h12 h13
    by_cases he : p.reg a < p.reg b
    · have HJ := hid (show jumpI p 14 a b imm = wrap64 (p.pc + imm) by simp [jumpI, he])
      have hee : decide (p.reg a < p.reg b) = true := by simp [he]
      clear he
      generalize p.reg a = x at *
      generalize p.reg b = y at *
      go_enter Try.func59, Try.ntmps59
      go_wp2_with fail
      iterate 4
        all_goals
          try
            refine wp_region_quiet_below (by kernel_rfl) (by kernel_rfl) ?_
            repeat (first | go_big_quiet_step ((fail)) | quiet_step ((fail)))
            refine wpQuiet_nil ?_
            intro wq hw'
            obtain ⟨⟨dq, osq⟩, hw''⟩ := hw'
            have hbr := of_regrown hw''
            clear hw''
            first
              | (have hbn := bt hbq hbr; clear hcq hfq hzq hbq hbr; have hbq := hbn; clear hbn)
              | (have hbq := hbr; clear hbr)
            obtain ⟨hcq, hfq, hzq⟩ := bcell3 hbq
            go_wp2_with fail
      all_goals
        go_ret
        refine ⟨ret_int ?_,
          (by repeat (first | (with_reducible exact Below.refl _ _) | (with_reducible assumption) | (with_reducible refine Below.alloc ?_ (by first | omega | (simp; done) | (simp; omega)) _) | (with_reducible refine Below.setCell ?_ (by first | omega | (simp; done) | (simp; omega)) _) | (with_reducible refine Below.drew ?_) | (with_reducible refine bt ?_ (below_regrown _ _ _)) | (refine bt ?_ (by with_reducible assumption))))
          ⟩
      exact HJ.out.symm
    · have HJ := hid (show jumpI p 14 a b imm = wrap64 (p.pc + 8) by simp [jumpI, he])
      have hee : decide (p.reg a < p.reg b) = false := by simp [he]
      clear he
      generalize p.reg a = x at *
      generalize p.reg b = y at *
      go_enter Try.func59, Try.ntmps59
      go_wp2_with fail
      iterate 4
        all_goals
          try
            refine wp_region_quiet_below (by kernel_rfl) (by kernel_rfl) ?_
            repeat (first | go_big_quiet_step ((fail)) | quiet_step ((fail)))
            refine wpQuiet_nil ?_
            intro wq hw'
            obtain ⟨⟨dq, osq⟩, hw''⟩ := hw'
            have hbr := of_regrown hw''
            clear hw''
            first
              | (have hbn := bt hbq hbr; clear hcq hfq hzq hbq hbr; have hbq := hbn; clear hbn)
              | (have hbq := hbr; clear hbr)
            obtain ⟨hcq, hfq, hzq⟩ := bcell3 hbq
            go_wp2_with fail
      all_goals
        go_ret
        refine ⟨ret_int ?_,
          (by repeat (first | (with_reducible exact Below.refl _ _) | (with_reducible assumption) | (with_reducible refine Below.alloc ?_ (by first | omega | (simp; done) | (simp; omega)) _) | (with_reducible refine Below.setCell ?_ (by first | omega | (simp; done) | (simp; omega)) _) | (with_reducible refine Below.drew ?_) | (with_reducible refine bt ?_ (below_regrown _ _ _)) | (refine bt ?_ (by with_reducible assumption))))
          ⟩
      exact HJ.out.symm
  by_cases h15 : op = 15
  · subst h15
    have ra := hat.reg hp a (by omega)
    have ka : (a : Int) < 8 := by omega
    clear ha8 hb8 ha hb hat hp h12 h13 h14
    have HJ := hid (show jumpI p 15 a b imm = p.reg a by simp [jumpI])
    generalize p.reg a = x at *
    generalize p.reg b = y at *
    go_enter Try.func59, Try.ntmps59
    go_wp2_with fail
    iterate 4
      all_goals
        try
          refine wp_region_quiet_below (by kernel_rfl) (by kernel_rfl) ?_
          repeat (first | go_big_quiet_step ((fail)) | quiet_step ((fail)))
          refine wpQuiet_nil ?_
          intro wq hw'
          obtain ⟨⟨dq, osq⟩, hw''⟩ := hw'
          have hbr := of_regrown hw''
          clear hw''
          first
            | (have hbn := bt hbq hbr; clear hcq hfq hzq hbq hbr; have hbq := hbn; clear hbn)
            | (have hbq := hbr; clear hbr)
          obtain ⟨hcq, hfq, hzq⟩ := bcell3 hbq
          go_wp2_with fail
    all_goals
      go_ret
      refine ⟨ret_int ?_,
        (by repeat (first | (with_reducible exact Below.refl _ _) | (with_reducible assumption) | (with_reducible refine Below.alloc ?_ (by first | omega | (simp; done) | (simp; omega)) _) | (with_reducible refine Below.setCell ?_ (by first | omega | (simp; done) | (simp; omega)) _) | (with_reducible refine Below.drew ?_) | (with_reducible refine bt ?_ (below_regrown _ _ _)) | (refine bt ?_ (by with_reducible assumption))))
        ⟩
    exact HJ.out.symm
  have HJ := hid (show jumpI p op a b imm = wrap64 (p.pc + 8) by simp [jumpI, h12, h13, h14, h15])
  have e12 : (op == 12) = false := by simp [h12]
  have e13 : (op == 13) = false := by simp [h13]
  have e14 : (op == 14) = false := by simp [h14]
  have e15 : (op == 15) = false := by simp [h15]
  clear ha8 hb8 ha hb hat hp h12 h13 h14 h15
  go_enter Try.func59, Try.ntmps59
  go_wp2_with fail
  iterate 4
    all_goals
      try
        refine wp_region_quiet_below (by kernel_rfl) (by kernel_rfl) ?_
        repeat (first | go_big_quiet_step ((fail)) | quiet_step ((fail)))
        refine wpQuiet_nil ?_
        intro wq hw'
        obtain ⟨⟨dq, osq⟩, hw''⟩ := hw'
        have hbr := of_regrown hw''
        clear hw''
        first
          | (have hbn := bt hbq hbr; clear hcq hfq hzq hbq hbr; have hbq := hbn; clear hbn)
          | (have hbq := hbr; clear hbr)
        obtain ⟨hcq, hfq, hzq⟩ := bcell3 hbq
        go_wp2_with fail
  all_goals
    go_ret
    refine ⟨ret_int ?_,
      (by repeat (first | (with_reducible exact Below.refl _ _) | (with_reducible assumption) | (with_reducible refine Below.alloc ?_ (by first | omega | (simp; done) | (simp; omega)) _) | (with_reducible refine Below.setCell ?_ (by first | omega | (simp; done) | (simp; omega)) _) | (with_reducible refine Below.drew ?_) | (with_reducible refine bt ?_ (below_regrown _ _ _)) | (refine bt ?_ (by with_reducible assumption))))
      ⟩
  exact HJ.out.symm
end Go.Proofs.Ytejnpppejalhfaa
