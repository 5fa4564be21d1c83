/- Texts that the proof stands on, one behind the other: OpI, PlBack, LawBack. -/
import Derived.Test.YtejnpppejalhfabPImageBack6
/- An image that came in. -/
namespace Go.Proofs.Ytejnpppejalhfab
open Go.ChangeShapes Go.WideShapes Go.ChangeAt Go.RowKit

section
variable {H : Type} {enc : TypeId × Value → H} {W : World} {base b0 : Nat} {sp : Nat → Bool} {held : Bool}
instance : Inhabited Sg := ⟨zeroSg⟩
instance : Inhabited Sy := ⟨⟨[], 0⟩⟩
instance : Inhabited Rl := ⟨⟨0, [], 0⟩⟩
theorem uc_seg : (Try.prog).cellsOf 82 = 5 := by kernel_rfl
theorem uc_sym : (Try.prog).cellsOf 85 = 2 := by kernel_rfl
theorem uc_rel : (Try.prog).cellsOf 87 = 3 := by kernel_rfl
theorem uc_needs : (Try.prog).cellsOf 22 = 1 := by kernel_rfl
theorem uc_segs : (Try.prog).cellsOf 23 = 1 := by kernel_rfl
theorem uc_syms : (Try.prog).cellsOf 24 = 1 := by kernel_rfl
theorem uc_rels : (Try.prog).cellsOf 25 = 1 := by kernel_rfl
/-- a number that an int holds -/
def InI (n : Int) : Prop := -9223372036854775808 ≤ n ∧ n ≤ 9223372036854775807
theorem InI.of {n : Int} (h : (Lit.int .i64 n).wf = true) : InI n := by
  unfold InI
  simpa [Lit.wf, IntKind.min, IntKind.max, IntKind.signed, IntKind.bits] using h
structure SgI (s : Sg) : Prop where
  pg : InI s.pg
  n : InI s.n
set_option maxRecDepth 100000 in
theorem open_seg {n : Nat} {cs : List Value} {z : DataW H × List MemPlace} (hl : cs.length = 5) (h : DataW.trod enc Try.prog W base sp held n 82 cs = some z) : ∃ a : Sg, (cs = sgC a ∧ SgI a) ∧ a.data.length ≤ Rows.uptoBulk z.1 := by
  match cs, hl with
  | [c0, c1, c2, c3, c4], _ =>
    obtain ⟨xs, n, _, rfl, _, hl, hf⟩ := DataW.trod_struct Try.underlying82 h
    have f0 := hf 0 _ rfl
    have f1 := hf 1 _ rfl
    have f2 := hf 2 _ rfl
    have f3 := hf 3 _ rfl
    have f4 := hf 4 _ rfl
    simp only [List.getElem_toArray, List.getElem_cons_zero, List.getElem_cons_succ, uc_int, uc_bool, uc_string, List.drop_succ_cons, List.drop_zero, List.take_succ_cons, List.take_zero] at f0 f1 f2 f3 f4
    have hl : xs.length = 5 := hl
    obtain ⟨y2, e2⟩ := gE (l := xs) (i := 2) (by omega)
    rw [e2] at f2
    obtain ⟨k0, rfl, i0⟩ := uI Try.underlying3 f0 (by obtain ⟨y, e⟩ := gE (l := xs) (i := 0) (by omega); rw [e]; rfl)
    obtain ⟨k1, rfl, i1⟩ := uI Try.underlying3 f1 (by obtain ⟨y, e⟩ := gE (l := xs) (i := 1) (by omega); rw [e]; rfl)
    obtain ⟨l2, rfl, _, b2⟩ := uS Try.underlying9 f2
    obtain ⟨k3, rfl⟩ := uB Try.underlying4 f3 (by obtain ⟨y, e⟩ := gE (l := xs) (i := 3) (by omega); rw [e]; rfl)
    obtain ⟨k4, rfl⟩ := uB Try.underlying4 f4 (by obtain ⟨y, e⟩ := gE (l := xs) (i := 4) (by omega); rw [e]; rfl)
    have := bk_part e2
    exact ⟨⟨k0, k1, l2, k3, k4⟩, ⟨rfl, ⟨InI.of i0, InI.of i1⟩⟩, by show l2.length ≤ Rows.uptoBulk (DataW.agg _); omega⟩
set_option maxRecDepth 100000 in
theorem open_sym {n : Nat} {cs : List Value} {z : DataW H × List MemPlace} (hl : cs.length = 2) (h : DataW.trod enc Try.prog W base sp held n 85 cs = some z) : ∃ a : Sy, (cs = syC a ∧ InI a.at_) ∧ a.name.length ≤ Rows.uptoBulk z.1 := by
  match cs, hl with
  | [c0, c1], _ =>
    obtain ⟨xs, n, _, rfl, _, hl, hf⟩ := DataW.trod_struct Try.underlying85 h
    have f0 := hf 0 _ rfl
    have f1 := hf 1 _ rfl
    simp only [List.getElem_toArray, List.getElem_cons_zero, List.getElem_cons_succ, uc_int, uc_string, List.drop_succ_cons, List.drop_zero, List.take_succ_cons, List.take_zero] at f0 f1
    have hl : xs.length = 2 := hl
    obtain ⟨y0, e0⟩ := gE (l := xs) (i := 0) (by omega)
    rw [e0] at f0
    obtain ⟨l0, rfl, _, b0⟩ := uS Try.underlying9 f0
    obtain ⟨k1, rfl, i1⟩ := uI Try.underlying3 f1 (by obtain ⟨y, e⟩ := gE (l := xs) (i := 1) (by omega); rw [e]; rfl)
    have := bk_part e0
    exact ⟨⟨l0, k1⟩, ⟨rfl, InI.of i1⟩, by show l0.length ≤ Rows.uptoBulk (DataW.agg _); omega⟩
set_option maxRecDepth 100000 in
theorem open_rel {n : Nat} {cs : List Value} {z : DataW H × List MemPlace} (hl : cs.length = 3) (h : DataW.trod enc Try.prog W base sp held n 87 cs = some z) : ∃ a : Rl, (cs = rlC a ∧ InI a.at_ ∧ InI a.add) ∧ a.name.length ≤ Rows.uptoBulk z.1 := by
  match cs, hl with
  | [c0, c1, c2], _ =>
    obtain ⟨xs, n, _, rfl, _, hl, hf⟩ := DataW.trod_struct Try.underlying87 h
    have f0 := hf 0 _ rfl
    have f1 := hf 1 _ rfl
    have f2 := hf 2 _ rfl
    simp only [List.getElem_toArray, List.getElem_cons_zero, List.getElem_cons_succ, uc_int, uc_string, List.drop_succ_cons, List.drop_zero, List.take_succ_cons, List.take_zero] at f0 f1 f2
    have hl : xs.length = 3 := hl
    obtain ⟨y1, e1⟩ := gE (l := xs) (i := 1) (by omega)
    rw [e1] at f1
    obtain ⟨k0, rfl, i0⟩ := uI Try.underlying3 f0 (by obtain ⟨y, e⟩ := gE (l := xs) (i := 0) (by omega); rw [e]; rfl)
    obtain ⟨l1, rfl, _, b1⟩ := uS Try.underlying9 f1
    obtain ⟨k2, rfl, i2⟩ := uI Try.underlying3 f2 (by obtain ⟨y, e⟩ := gE (l := xs) (i := 2) (by omega); rw [e]; rfl)
    have := bk_part e1
    exact ⟨⟨k0, l1, k2⟩, ⟨rfl, InI.of i0, InI.of i2⟩, by show l1.length ≤ Rows.uptoBulk (DataW.agg _); omega⟩
theorem open_str1 {n : Nat} {cs : List Value} {z : DataW H × List MemPlace} (hl : cs.length = 1) (h : DataW.trod enc Try.prog W base sp held n 9 cs = some z) : ∃ l : List UInt8, cs = stC l ∧ l.length ≤ Rows.uptoBulk z.1 := by
  match cs, hl with
  | [c0], _ =>
    obtain ⟨l, rfl, _, hb⟩ := uS Try.underlying9 h
    exact ⟨l, rfl, by omega⟩
theorem rows_map2 {α : Type} {f : α → List Value} {G : α → Prop} {xs : List α} {rows : List (List Value)} (h : RowsAre (fun a r => r = f a ∧ G a) xs rows) : rows = xs.map f ∧ ∀ x ∈ xs, G x := by
  refine ⟨rows_map ⟨h.1, fun i x r h1 h2 => (h.2 i x r h1 h2).1⟩, fun x hx => ?_⟩
  obtain ⟨i, hi⟩ := List.mem_iff_getElem?.1 hx
  have hl := lt_of_getE hi
  exact (h.2 i x _ hi (List.getElem?_eq_getElem (by rw [h.1]; exact hl))).2
/-- all numbers of an image are numbers that an int holds -/
structure ImI (I : Im) : Prop where
  segs : ∀ s ∈ I.segs, SgI s
  syms : ∀ s ∈ I.syms, InI s.at_
  rels : ∀ r ∈ I.rels, InI r.at_ ∧ InI r.add
  entry : InI I.entry
structure ImBd (I : Im) (N : Nat) : Prop where
  name : I.name.length ≤ N
  needs : I.needs.length ≤ N
  segs : I.segs.length ≤ N
  syms : I.syms.length ≤ N
  rels : I.rels.length ≤ N
  need1 : ∀ s ∈ I.needs, s.length ≤ N
  seg1 : ∀ s ∈ I.segs, s.data.length ≤ N
  sym1 : ∀ s ∈ I.syms, s.name.length ≤ N
  rel1 : ∀ s ∈ I.rels, s.name.length ≤ N
set_option maxRecDepth 100000 in
theorem open_imgC {n : Nat} {cs : List Value} {z : DataW H × List MemPlace} (hl : cs.length = 6) (h : DataW.trod enc Try.prog W base sp held n 27 cs = some z) :
    ∃ I vn vs vy vr, .agg cs.toArray = imA I vn vs vy vr ∧ ImV W I vn vs vy vr ∧ ImI I ∧ ImBd I (Rows.uptoBulk z.1) ∧ cs.all (·.oneCell') = true := by
  match cs, hl with
  | [c0, c1, c2, c3, c4, c5], _ =>
    obtain ⟨xs, n, _, rfl, _, hl, hf⟩ := DataW.trod_struct Try.underlying27 h
    have f0 := hf 0 _ rfl
    have f1 := hf 1 _ rfl
    have f2 := hf 2 _ rfl
    have f3 := hf 3 _ rfl
    have f4 := hf 4 _ rfl
    have f5 := hf 5 _ rfl
    simp only [List.getElem_toArray, List.getElem_cons_zero, List.getElem_cons_succ, uc_int, uc_string, uc_needs, uc_segs, uc_syms, uc_rels, List.drop_succ_cons, List.drop_zero, List.take_succ_cons, List.take_zero] at f0 f1 f2 f3 f4 f5
    have hl : xs.length = 6 := hl
    obtain ⟨y0, e0⟩ := gE (l := xs) (i := 0) (by omega)
    obtain ⟨y1, e1⟩ := gE (l := xs) (i := 1) (by omega)
    obtain ⟨y2, e2⟩ := gE (l := xs) (i := 2) (by omega)
    obtain ⟨y3, e3⟩ := gE (l := xs) (i := 3) (by omega)
    obtain ⟨y4, e4⟩ := gE (l := xs) (i := 4) (by omega)
    obtain ⟨y5, e5⟩ := gE (l := xs) (i := 5) (by omega)
    rw [e0] at f0
    rw [e1] at f1
    rw [e2] at f2
    rw [e3] at f3
    rw [e4] at f4
    obtain ⟨l0, rfl, _, b0⟩ := uS Try.underlying9 f0
    obtain ⟨v1, x1, r1, hv1, s1, ra1, o1, n1, m1⟩ := open_slB Try.underlying22 uc_string (by decide) (fun a r => r = stC a) (fun a => a.length) (fun x r h => by subst h; rfl) (fun _ _ _ hl hz => open_str1 hl hz) f1
    obtain ⟨v2, x2, r2, hv2, s2, ra2, o2, n2, m2⟩ := open_slB Try.underlying23 uc_seg (by decide) (fun a r => r = sgC a ∧ SgI a) (fun a => a.data.length) (fun x r h => by obtain ⟨rfl, _⟩ := h; rfl) (fun _ _ _ hl hz => open_seg hl hz) f2
    obtain ⟨v3, x3, r3, hv3, s3, ra3, o3, n3, m3⟩ := open_slB Try.underlying24 uc_sym (by decide) (fun a r => r = syC a ∧ InI a.at_) (fun a => a.name.length) (fun x r h => by obtain ⟨rfl, _⟩ := h; rfl) (fun _ _ _ hl hz => open_sym hl hz) f3
    obtain ⟨v4, x4, r4, hv4, s4, ra4, o4, n4, m4⟩ := open_slB Try.underlying25 uc_rel (by decide) (fun a r => r = rlC a ∧ InI a.at_ ∧ InI a.add) (fun a => a.name.length) (fun x r h => by obtain ⟨rfl, _⟩ := h; rfl) (fun _ _ _ hl hz => open_rel hl hz) f4
    obtain ⟨k5, rfl, i5⟩ := uI Try.underlying3 f5 (by rw [e5]; rfl)
    simp only [List.cons.injEq, and_true] at hv1 hv2 hv3 hv4
    subst hv1 hv2 hv3 hv4
    obtain rfl := rows_map ra1
    obtain ⟨rfl, g2⟩ := rows_map2 ra2
    obtain ⟨rfl, g3⟩ := rows_map2 ra3
    obtain ⟨rfl, g4⟩ := rows_map2 ra4
    have p0 := bk_part e0
    have p1 := bk_part e1
    have p2 := bk_part e2
    have p3 := bk_part e3
    have p4 := bk_part e4
    refine ⟨⟨l0, x1, x2, x3, x4, k5⟩, c1, c2, c3, c4, rfl, ⟨s1, s2, s3, s4⟩, ⟨g2, g3, g4, InI.of i5⟩, ?_, ?_⟩
    · generalize Rows.uptoBulk (DataW.agg (xs.map (·.1))) = N at *
      refine ⟨by show l0.length ≤ N; omega, by show x1.length ≤ N; omega, by show x2.length ≤ N; omega, by show x3.length ≤ N; omega, by show x4.length ≤ N; omega, fun s hs => ?_, fun s hs => ?_, fun s hs => ?_, fun s hs => ?_⟩
      · have := m1 s hs; omega
      · have := m2 s hs; omega
      · have := m3 s hs; omega
      · have := m4 s hs; omega
    · simp only [List.all_cons, List.all_nil, Bool.and_true, o1, o2, o3, o4]
      rfl
theorem uc_image : (Try.prog).cellsOf 27 = 6 := by kernel_rfl
set_option maxRecDepth 100000 in
theorem open_image {v : Value} {d : DataW H} {ps : List MemPlace} (hval : Value.okWide Try.prog W .any b0 27 v) (h : DataW.Trod enc Try.prog W base sp held 27 v d ps) :
    ∃ I vn vs vy vr, v = imA I vn vs vy vr ∧ ImV W I vn vs vy vr ∧ ImI I ∧ ImBd I (Rows.uptoBulk d) := by
  obtain ⟨cs, rfl, hsz⟩ := okWide_struct Try.underlying27 hval
  obtain ⟨fuel, hf⟩ := h
  have hc : (Value.agg cs).cells = cs := rfl
  rw [hc] at hf
  have hlen : cs.toList.length = 6 := by rw [Array.length_toList, hsz, uc_image]
  obtain ⟨I, vn, vs, vy, vr, h1, h2, h3, h4, _⟩ := open_imgC hlen hf
  rw [Array.toArray_toList] at h1
  exact ⟨I, vn, vs, vy, vr, h1, h2, h3, h4⟩
end
end Go.Proofs.Ytejnpppejalhfab
/- WHAT IS WRITTEN IS READ AS IT WAS, AND NOTHING ELSE IS: in plain Lean. -/
namespace Go.Proofs.Ytejnpppejalhfab
open Go.RowKit Go.Sort

theorem ImBd.mono {I : Im} {N M : Nat} (h : ImBd I N) (hle : N ≤ M) : ImBd I M := ⟨Nat.le_trans h.name hle, Nat.le_trans h.needs hle, Nat.le_trans h.segs hle, Nat.le_trans h.syms hle, Nat.le_trans h.rels hle, fun s hs => Nat.le_trans (h.need1 s hs) hle, fun s hs => Nat.le_trans (h.seg1 s hs) hle, fun s hs => Nat.le_trans (h.sym1 s hs) hle, fun s hs => Nat.le_trans (h.rel1 s hs) hle⟩
/-- the reader takes what the writer laid -/
def Takes {α : Type} (rd : Bs8 → Option (α × Bs8)) (x : α) (b : Bs8) : Prop := ∀ r, rd (b ++ r) = some (x, r)
theorem take_num {n : Int} (h : InI n) : Takes rdNum n (leB n 8) := fun r => by
  unfold rdNum
  rw [if_pos (by rw [List.length_append, leB_length]; omega)]
  rw [List.take_append_of_le_length (by rw [leB_length]; exact Nat.le_refl _), List.take_of_length_le (by rw [leB_length]; exact Nat.le_refl _), get_put n h.1 h.2]
  rw [List.drop_append_of_le_length (by rw [leB_length]; exact Nat.le_refl _), List.drop_of_length_le (by rw [leB_length]; exact Nat.le_refl _), List.nil_append]
theorem Takes.bind {α β : Type} {rd : Bs8 → Option (α × Bs8)} {rd2 : α → Bs8 → Option (β × Bs8)} {x : α} {y : β} {b c : Bs8} (h : Takes rd x b) (h2 : Takes (rd2 x) y c) : Takes (fun l => (rd l).bind fun p => rd2 p.1 p.2) y (b ++ c) := fun r => by
  simp only [List.append_assoc, h (c ++ r), Option.bind_some, h2 r]
theorem take_text {t : Bs8} (h : t.length ≤ 1048576) : Takes rdText t (txB t) := by
  unfold txB
  refine Takes.bind (rd2 := rdTake) (take_num ⟨by omega, by omega⟩) fun r => ?_
  unfold rdTake
  rw [if_pos (by rw [List.length_append]; omega)]
  simp
theorem take_truth (b : Bool) : Takes rdTruth b (leB (trB b) 8) := fun r => by
  unfold rdTruth
  have : InI (trB b) := by cases b <;> exact ⟨by decide, by decide⟩
  rw [take_num this r, Option.bind_some]
  cases b <;> rfl
theorem Takes.map {α β : Type} {rd : Bs8 → Option (α × Bs8)} {x : α} {b : Bs8} (f : α → β) (h : Takes rd x b) : Takes (fun l => (rd l).bind fun p => some (f p.1, p.2)) (f x) b := fun r => by
  simp only [h r, Option.bind_some]
theorem take_sg {s : Sg} (hI : SgI s) (h : s.data.length ≤ 1048576) : Takes rdSg s (sgB s) := by
  intro r
  have e : sgB s ++ r = leB s.pg 8 ++ (leB s.n 8 ++ (txB s.data ++ (leB (trB s.wr) 8 ++ (leB (trB s.ex) 8 ++ r)))) := by unfold sgB; simp only [List.append_assoc]
  rw [e]
  unfold rdSg
  rw [show rdNum _ = _ from take_num hI.pg _, Option.bind_some]
  dsimp only
  rw [show rdNum _ = _ from take_num hI.n _, Option.bind_some]
  dsimp only
  rw [show rdText _ = _ from take_text h _, Option.bind_some]
  dsimp only
  rw [show rdTruth _ = _ from take_truth s.wr _, Option.bind_some]
  dsimp only
  rw [show rdTruth _ = _ from take_truth s.ex _, Option.bind_some]
theorem take_sy {s : Sy} (hI : InI s.at_) (h : s.name.length ≤ 1048576) : Takes rdSy s (syB s) := by
  intro r
  have e : syB s ++ r = txB s.name ++ (leB s.at_ 8 ++ r) := by unfold syB; simp only [List.append_assoc]
  rw [e]
  unfold rdSy
  rw [show rdText _ = _ from take_text h _, Option.bind_some]
  dsimp only
  rw [show rdNum _ = _ from take_num hI _, Option.bind_some]
theorem take_rl {s : Rl} (hI : InI s.at_) (hA : InI s.add) (h : s.name.length ≤ 1048576) : Takes rdRl s (rlB s) := by
  intro r
  have e : rlB s ++ r = leB s.at_ 8 ++ (txB s.name ++ (leB s.add 8 ++ r)) := by unfold rlB; simp only [List.append_assoc]
  rw [e]
  unfold rdRl
  rw [show rdNum _ = _ from take_num hI _, Option.bind_some]
  dsimp only
  rw [show rdText _ = _ from take_text h _, Option.bind_some]
  dsimp only
  rw [show rdNum _ = _ from take_num hA _, Option.bind_some]
theorem take_many {α : Type} {one : Bs8 → Option (α × Bs8)} {f : α → Bs8} : ∀ (xs : List α), (∀ x ∈ xs, Takes one x (f x)) → Takes (rdMany one xs.length) xs (xs.flatMap f) := by
  intro xs
  induction xs with
  | nil => intro _ r; rfl
  | cons x xs ih =>
    intro h r
    simp only [List.length_cons, rdMany, List.flatMap_cons, List.append_assoc, h x List.mem_cons_self _, Option.bind_some, ih (fun y hy => h y (List.mem_cons_of_mem _ hy)) r]
theorem take_list {α : Type} {one : Bs8 → Option (α × Bs8)} {f : α → Bs8} (xs : List α) (h : ∀ x ∈ xs, Takes one x (f x)) (hn : xs.length ≤ 1048576) (h8 : ∀ x ∈ xs, 8 ≤ (f x).length) : Takes (rdList one) xs (leB xs.length 8 ++ xs.flatMap f) := fun r => by
  unfold rdList rdCnt
  have hl : xs.length ≤ (xs.flatMap f).length := by
    clear h hn
    induction xs with
    | nil => simp
    | cons x xs ih =>
      have := ih (fun y hy => h8 y (List.mem_cons_of_mem _ hy))
      have := h8 x List.mem_cons_self
      simp only [List.length_cons, List.flatMap_cons, List.length_append]
      omega
  rw [List.append_assoc, take_num ⟨by omega, by omega⟩ _, Option.bind_some, if_pos (by rw [List.length_append]; omega), Option.bind_some]
  simp only [Int.toNat_natCast]
  exact take_many xs h r
theorem txB_8 (t : Bs8) : 8 ≤ (txB t).length := by rw [txB_len]; omega
theorem rd_im {I : Im} (hI : ImI I) (hB : ImBd I 1048576) : Takes rdIm I (imB I) := fun r => by
  unfold rdIm imB b8 b6 b4 b2
  have k1 := take_text hB.name
  have k2 := take_list (one := rdText) (f := txB) I.needs (fun x hx => take_text (hB.need1 x hx)) hB.needs (fun x _ => txB_8 x)
  have k3 := take_list (one := rdSg) (f := sgB) I.segs (fun x hx => take_sg (hI.segs x hx) (hB.seg1 x hx)) hB.segs (fun x _ => by unfold sgB; simp only [List.length_append, leB_length]; omega)
  have k4 := take_list (one := rdSy) (f := syB) I.syms (fun x hx => take_sy (hI.syms x hx) (hB.sym1 x hx)) hB.syms (fun x _ => by unfold syB; simp only [List.length_append, leB_length]; omega)
  have k5 := take_list (one := rdRl) (f := rlB) I.rels (fun x hx => take_rl (hI.rels x hx).1 (hI.rels x hx).2 (hB.rel1 x hx)) hB.rels (fun x _ => by unfold rlB; simp only [List.length_append, leB_length]; omega)
  have k6 := take_num hI.entry
  have e : ∀ X, txB I.name ++ leB I.needs.length 8 ++ I.needs.flatMap txB ++ leB I.segs.length 8 ++ I.segs.flatMap sgB ++ leB I.syms.length 8 ++ I.syms.flatMap syB ++ leB I.rels.length 8 ++ I.rels.flatMap rlB ++ leB I.entry 8 ++ X = txB I.name ++ ((leB I.needs.length 8 ++ I.needs.flatMap txB) ++ ((leB I.segs.length 8 ++ I.segs.flatMap sgB) ++ ((leB I.syms.length 8 ++ I.syms.flatMap syB) ++ ((leB I.rels.length 8 ++ I.rels.flatMap rlB) ++ (leB I.entry 8 ++ X))))) := fun X => by simp only [List.append_assoc]
  rw [e, show rdText _ = _ from k1 _, Option.bind_some]
  dsimp only
  rw [show rdList rdText _ = _ from k2 _, Option.bind_some]
  dsimp only
  rw [show rdList rdSg _ = _ from k3 _, Option.bind_some]
  dsimp only
  rw [show rdList rdSy _ = _ from k4 _, Option.bind_some]
  dsimp only
  rw [show rdList rdRl _ = _ from k5 _, Option.bind_some]
  dsimp only
  rw [show rdNum _ = _ from k6 _, Option.bind_some]
theorem imFrom_of {s : Bs8} {I : Im} (h : rdIm s = some (I, [])) (hc : checkIm I = 0) : imFrom s = some I := by
  unfold imFrom
  simp only [h, hc, if_true]
theorem from_bytes {I : Im} (hc : checkIm I = 0) (hI : ImI I) (hB : ImBd I 1048576) : imFrom (imB I) = some I := by
  have := rd_im hI hB []
  rw [List.append_nil] at this
  exact imFrom_of this hc
/-! and nothing else is -/
theorem putb_num {l r : Bs8} {n : Int} (h : rdNum l = some (n, r)) : l = leB n 8 ++ r := by
  obtain ⟨h1, rfl, rfl⟩ := rdNum_some h
  have := put_get (l.take 8) (by rw [List.length_take]; omega)
  rw [List.length_take, Nat.min_eq_left h1] at this
  rw [this, List.take_append_drop]
theorem putb_text {l r t : Bs8} (h : rdText l = some (t, r)) : l = txB t ++ r := by
  obtain ⟨n, r1, h1, h2⟩ := rdText_some h
  obtain ⟨h3, rfl, rfl⟩ := rdTake_some h2
  have e := putb_num h1
  unfold txB
  rw [List.length_take, show ((min n.toNat r1.length : Nat) : Int) = n by omega, List.append_assoc, List.take_append_drop]
  exact e
theorem putb_truth {l r : Bs8} {b : Bool} (h : rdTruth l = some (b, r)) : l = leB (trB b) 8 ++ r := by
  obtain ⟨n, h1, h2, rfl⟩ := rdTruth_some h
  have e := putb_num h1
  rcases h2 with rfl | rfl
  · rw [show decide ((0 : Int) = 1) = false by decide]; exact e
  · rw [show decide ((1 : Int) = 1) = true by decide]; exact e
theorem putb_sg {l r : Bs8} {x : Sg} (h : rdSg l = some (x, r)) : l = sgB x ++ r := by
  unfold rdSg at h
  obtain ⟨a, k1, h⟩ := Option.bind_eq_some_iff.1 h
  obtain ⟨b, k2, h⟩ := Option.bind_eq_some_iff.1 h
  obtain ⟨c, k3, h⟩ := Option.bind_eq_some_iff.1 h
  obtain ⟨d, k4, h⟩ := Option.bind_eq_some_iff.1 h
  obtain ⟨e, k5, h⟩ := Option.bind_eq_some_iff.1 h
  cases h
  rw [putb_num k1, putb_num k2, putb_text k3, putb_truth k4, putb_truth k5]
  unfold sgB
  simp only [List.append_assoc]
theorem putb_sy {l r : Bs8} {x : Sy} (h : rdSy l = some (x, r)) : l = syB x ++ r := by
  unfold rdSy at h
  obtain ⟨a, k1, h⟩ := Option.bind_eq_some_iff.1 h
  obtain ⟨b, k2, h⟩ := Option.bind_eq_some_iff.1 h
  cases h
  rw [putb_text k1, putb_num k2]
  unfold syB
  simp only [List.append_assoc]
theorem putb_rl {l r : Bs8} {x : Rl} (h : rdRl l = some (x, r)) : l = rlB x ++ r := by
  unfold rdRl at h
  obtain ⟨a, k1, h⟩ := Option.bind_eq_some_iff.1 h
  obtain ⟨b, k2, h⟩ := Option.bind_eq_some_iff.1 h
  obtain ⟨c, k3, h⟩ := Option.bind_eq_some_iff.1 h
  cases h
  rw [putb_num k1, putb_text k2, putb_num k3]
  unfold rlB
  simp only [List.append_assoc]
theorem putb_many {α : Type} {one : Bs8 → Option (α × Bs8)} {f : α → Bs8} (h1 : ∀ l x r, one l = some (x, r) → l = f x ++ r) : ∀ {n : Nat} {l r : Bs8} {xs : List α}, rdMany one n l = some (xs, r) → l = xs.flatMap f ++ r ∧ xs.length = n := by
  intro n
  induction n with
  | zero => intro l r xs h; simp only [rdMany, Option.some.injEq, Prod.mk.injEq] at h; obtain ⟨rfl, rfl⟩ := h; exact ⟨rfl, rfl⟩
  | succ n ih =>
    intro l r xs h
    simp only [rdMany] at h
    obtain ⟨p, k1, h⟩ := Option.bind_eq_some_iff.1 h
    obtain ⟨q, k2, h⟩ := Option.bind_eq_some_iff.1 h
    cases h
    obtain ⟨e1, e2⟩ := ih k2
    refine ⟨?_, by simp [e2]⟩
    rw [h1 _ _ _ k1, e1, List.flatMap_cons, List.append_assoc]
theorem putb_list {α : Type} {one : Bs8 → Option (α × Bs8)} {f : α → Bs8} (h1 : ∀ l x r, one l = some (x, r) → l = f x ++ r) {l r : Bs8} {xs : List α} (h : rdList one l = some (xs, r)) : l = leB xs.length 8 ++ xs.flatMap f ++ r := by
  unfold rdList rdCnt at h
  obtain ⟨p, k1, h⟩ := Option.bind_eq_some_iff.1 h
  obtain ⟨q, k2, k3⟩ := Option.bind_eq_some_iff.1 k1
  split at k3
  · cases k3
    obtain ⟨e1, e2⟩ := putb_many h1 h
    rw [putb_num k2, e2, Int.toNat_of_nonneg (by omega), List.append_assoc, ← e1]
  · cases k3
theorem bytes_from {s : Bs8} {I : Im} (h : imFrom s = some I) : imB I = s ∧ checkIm I = 0 ∧ rdIm s = some (I, []) := by
  unfold imFrom at h
  split at h
  · rename_i J hJ
    split at h
    · rename_i hc
      cases h
      refine ⟨?_, hc, hJ⟩
      unfold rdIm at hJ
      obtain ⟨a, k1, h⟩ := Option.bind_eq_some_iff.1 hJ
      obtain ⟨b, k2, h⟩ := Option.bind_eq_some_iff.1 h
      obtain ⟨c, k3, h⟩ := Option.bind_eq_some_iff.1 h
      obtain ⟨d, k4, h⟩ := Option.bind_eq_some_iff.1 h
      obtain ⟨e, k5, h⟩ := Option.bind_eq_some_iff.1 h
      obtain ⟨f, k6, h⟩ := Option.bind_eq_some_iff.1 h
      simp only [Option.some.injEq, Prod.mk.injEq] at h
      obtain ⟨rfl, h6⟩ := h
      rw [putb_text k1, putb_list (f := txB) (fun _ _ _ h => putb_text h) k2, putb_list (f := sgB) (fun _ _ _ h => putb_sg h) k3, putb_list (f := syB) (fun _ _ _ h => putb_sy h) k4, putb_list (f := rlB) (fun _ _ _ h => putb_rl h) k5, putb_num k6, h6]
      unfold imB b8 b6 b4 b2
      simp only [List.append_assoc, List.append_nil]
    · cases h
  · cases h
end Go.Proofs.Ytejnpppejalhfab
/- The law ImageBack: its walk. -/
namespace Go.Proofs.Ytejnpppejalhfab
open Go.RowKit Go.Sort
theorem Write_zero {I : Im} {w : World} {vn vs vy vr : Value} (h : ImV w I vn vs vy vr) (hB : ImB I) (hD : ImD I) (hc : checkIm I = 0) : Fn Try.prog 9 [imA I vn vs vy vr] w (RBf (.tuple #[.string ⟨(imB I).toArray⟩, .int .i64 0]) w) := by
  have := Write_fn h hB hD
  rwa [if_pos hc, hc] at this
theorem Write_from {s : Bs8} {J : Im} {w : World} {vn vs vy vr : Value} (h : ImV w J vn vs vy vr) (hB : ImB J) (hD : ImD J) (hf : imFrom s = some J) : Fn Try.prog 9 [imA J vn vs vy vr] w (RBf (.tuple #[.string ⟨s.toArray⟩, .int .i64 0]) w) := by
  obtain ⟨e1, c2, _⟩ := bytes_from hf
  have := Write_zero h hB hD c2
  rwa [e1] at this
theorem Write_bad {I : Im} {w : World} {vn vs vy vr : Value} (h : ImV w I vn vs vy vr) (hB : ImB I) (hD : ImD I) (hc : ¬ checkIm I = 0) : Fn Try.prog 9 [imA I vn vs vy vr] w (RBf (.tuple #[.string ⟨([] : List UInt8).toArray⟩, .int .i64 (checkIm I)]) w) := by
  have := Write_fn h hB hD
  rwa [if_neg hc] at this
theorem imB_le {I : Im} (hL : ImL I) (hc : checkIm I = 0) : (imB I).length ≤ 1048576 := by
  have n1 := hL.n1
  have n2 := hL.n2
  have n3 := hL.n3
  have n4 := hL.n4
  have n0 := hL.name
  have k1 := flat_len I.needs I.needs.length hL.needs
  have k2 := flat_len I.segs I.segs.length hL.segs
  have k3 := flat_len I.syms I.syms.length hL.syms
  have k4 := flat_len I.rels I.rels.length hL.rels
  rw [List.take_length] at k1 k2 k3 k4
  unfold imB b8 b6 b4 b2
  simp only [List.length_append, leB_len, txB_len]
  omega
set_option maxRecDepth 100000 in
set_option maxHeartbeats 8000000 in
theorem ImageBack_fn {I : Im} {w : World} {vn vs vy vr : Value} (s : Bs8) (hI : ImV w I vn vs vy vr) (hB : ImB I) (hD : ImD I) (hII : ImI I) (hBd : ImBd I 1048576) (hs : s.length ≤ 1048576) : Fn Try.prog 3 [imA I vn vs vy vr, .string ⟨s.toArray⟩] w (RBf (.bool true) w) := by
  have q0 : decide ((0 : Int) = 0) = true := rfl
  have q1 : (!decide (I = I)) = false := by simp
  have q2 : decide (s = s) = true := by simp
  cases h : imFrom s with
  | none =>
    by_cases hc : checkIm I = 0
    · have hf := from_bytes hc hII hBd
      have hl := imB_le (ImL.of hc) hc
      have hw := fun w (h : ImV w I vn vs vy vr) => Write_zero h hB hD hc
      generalize imB I = bI at hf hl hw
      refine fn_enter (fn := Try.f3) ⟨Try.func3, by kernel_rfl, by kernel_rfl⟩ (by exact rfl) Try.ntmps3 (by exact rfl) ?_
      have hS := St.start w
      repeat' (first | (first | ((with_reducible apply l_pure tabOk); exact rfl; exact rfl) | ((with_reducible apply l_load); exact rfl; (((with_reducible apply Loads.st tabOk); exact rfl; (first | exact hS.blkR 0 rfl | exact hS.blkR 5 rfl); exact rfl)); exact rfl) | ((with_reducible apply l_box hS); exact rfl; exact rfl; exact rfl; intro g w' hS'; clear hS; have hS := hS'; clear hS') | ((with_reducible apply l_alloc hS tabOk); exact rfl; exact rfl; exact rfl; intro g w' hS'; clear hS; have hS := hS'; clear hS') | (((with_reducible apply l_store hS tabOk (i := 0)); exact rfl; exact rfl; exact rfl; exact rfl; exact rfl; exact rfl; exact rfl; exact rfl; ((exact (rfl : _ = [_, _, _, _, _, _]))); intro w' hS'; simp only [List.set] at hS'; clear hS; have hS := hS'; clear hS')) | (first | ((with_reducible apply l_yes); exact rfl; exact rfl; exact rfl; exact rfl; (exact rfl)) | ((with_reducible apply l_pick2); exact rfl; ((exact rfl)); exact rfl; exact rfl))) | (first | (with_reducible apply c_seq) | (with_reducible apply c_region) | (with_reducible apply l_nil) | (with_reducible apply q_then) | (with_reducible apply c_skip) | (with_reducible apply c_ret) | (with_reducible apply q_then_ret)) | (first | ((with_reducible apply c_ift); exact rfl; (exact rfl)) | ((with_reducible apply c_iff); exact rfl; (assumption))) | ((with_reducible apply l_call); exact rfl; exact rfl; exact hw _ (hI.now hS); exact rfl; rintro _ w' ⟨rfl, hS'⟩; replace hS := hS.transA hS'; simp only [appA] at hS; clear hS') | ((with_reducible apply l_call); exact rfl; exact rfl; exact Read_none _ hs h; exact rfl; rintro _ w' ⟨rfl, hS'⟩; replace hS := hS.transA hS'; simp only [appA] at hS; clear hS') | ((with_reducible apply l_call); exact rfl; exact rfl; exact Read_some _ hl hf; exact rfl; rintro _ w' ⟨pn, cn, ps, cs, py, cy, pr, cr, rfl, hS'⟩; replace hS := hS.transA hS'; simp only [RowsOf, appA] at hS; clear hS') | ((with_reducible apply l_call); exact rfl; exact rfl; exact imageBegun_fn _; exact rfl; rintro _ w' ⟨rfl, hS'⟩; replace hS := hS.transA hS'; simp only [appA] at hS; clear hS') | ((with_reducible apply l_call); exact rfl; exact rfl; exact SameImages_fn (I := I) (J := I) ⟨hS.rowSl 1 rfl, hS.rowSl 2 rfl, hS.rowSl 3 rfl, hS.rowSl 4 rfl⟩ (hI.now hS); exact rfl; rintro _ w' ⟨rfl, hS'⟩; replace hS := hS.transA hS'; simp only [appA] at hS; clear hS'))
      (apply q_ret1); (repeat (first | exact ResL.nil | (apply ResL.tmp; exact rfl)))
      exact ⟨rfl, hS.sub (List.nil_sublist _)⟩
    · have q3 : decide (checkIm I = 0) = false := by simpa using hc
      refine fn_enter (fn := Try.f3) ⟨Try.func3, by kernel_rfl, by kernel_rfl⟩ (by exact rfl) Try.ntmps3 (by exact rfl) ?_
      have hS := St.start w
      repeat' (first | (first | ((with_reducible apply l_pure tabOk); exact rfl; exact rfl) | ((with_reducible apply l_load); exact rfl; (((with_reducible apply Loads.st tabOk); exact rfl; ((exact hS.blkR 0 rfl)); exact rfl)); exact rfl) | ((with_reducible apply l_box hS); exact rfl; exact rfl; exact rfl; intro g w' hS'; clear hS; have hS := hS'; clear hS') | ((with_reducible apply l_alloc hS tabOk); exact rfl; exact rfl; exact rfl; intro g w' hS'; clear hS; have hS := hS'; clear hS') | (((with_reducible apply l_store hS tabOk (i := 0)); exact rfl; exact rfl; exact rfl; exact rfl; exact rfl; exact rfl; exact rfl; exact rfl; ((exact (rfl : _ = [_, _, _, _, _, _]))); intro w' hS'; simp only [List.set] at hS'; clear hS; have hS := hS'; clear hS'))) | (first | (with_reducible apply c_seq) | (with_reducible apply c_region) | (with_reducible apply l_nil) | (with_reducible apply q_then) | (with_reducible apply c_skip) | (with_reducible apply c_ret) | (with_reducible apply q_then_ret)) | (first | ((with_reducible apply c_ift); exact rfl; (exact rfl)) | ((with_reducible apply c_iff); exact rfl; (assumption))) | ((with_reducible apply l_call); exact rfl; exact rfl; exact Write_bad (hI.now hS) hB hD hc; exact rfl; rintro _ w' ⟨rfl, hS'⟩; replace hS := hS.transA hS'; simp only [appA] at hS; clear hS') | ((with_reducible apply l_call); exact rfl; exact rfl; exact Read_none _ hs h; exact rfl; rintro _ w' ⟨rfl, hS'⟩; replace hS := hS.transA hS'; simp only [appA] at hS; clear hS') | ((with_reducible apply l_call); exact rfl; exact rfl; exact imageBegun_fn _; exact rfl; rintro _ w' ⟨rfl, hS'⟩; replace hS := hS.transA hS'; simp only [appA] at hS; clear hS'))
      (apply q_ret1); (repeat (first | exact ResL.nil | (apply ResL.tmp; exact rfl)))
      exact ⟨rfl, hS.sub (List.nil_sublist _)⟩
  | some J =>
    obtain ⟨e1, c2, hr⟩ := bytes_from h
    obtain ⟨b1, b2, b3, b4, b5⟩ := rdIm_bounds hr
    have hB2 : ImB J := ⟨by omega, by omega, by omega, by omega⟩
    have hD2 : ImD J := fun x hx => by have := b5 x hx; omega
    by_cases hc : checkIm I = 0
    · have hf := from_bytes hc hII hBd
      have hl := imB_le (ImL.of hc) hc
      have hw := fun w (h : ImV w I vn vs vy vr) => Write_zero h hB hD hc
      generalize imB I = bI at hf hl hw
      refine fn_enter (fn := Try.f3) ⟨Try.func3, by kernel_rfl, by kernel_rfl⟩ (by exact rfl) Try.ntmps3 (by exact rfl) ?_
      have hS := St.start w
      repeat' (first | (first | ((with_reducible apply l_pure tabOk); exact rfl; exact rfl) | ((with_reducible apply l_load); exact rfl; (((with_reducible apply Loads.st tabOk); exact rfl; (first | exact hS.blkR 0 rfl | exact hS.blkR 5 rfl); exact rfl)); exact rfl) | ((with_reducible apply l_box hS); exact rfl; exact rfl; exact rfl; intro g w' hS'; clear hS; have hS := hS'; clear hS') | ((with_reducible apply l_alloc hS tabOk); exact rfl; exact rfl; exact rfl; intro g w' hS'; clear hS; have hS := hS'; clear hS') | (((with_reducible apply l_store hS tabOk (i := 0)); exact rfl; exact rfl; exact rfl; exact rfl; exact rfl; exact rfl; exact rfl; exact rfl; ((exact (rfl : _ = [_, _, _, _, _, _]))); intro w' hS'; simp only [List.set] at hS'; clear hS; have hS := hS'; clear hS')) | (first | ((with_reducible apply l_yes); exact rfl; exact rfl; exact rfl; exact rfl; (exact rfl)) | ((with_reducible apply l_pick1); exact rfl; ((exact rfl)); exact rfl; exact rfl) | ((with_reducible apply l_pick2); exact rfl; ((exact rfl)); exact rfl; exact rfl))) | (first | (with_reducible apply c_seq) | (with_reducible apply c_region) | (with_reducible apply l_nil) | (with_reducible apply q_then) | (with_reducible apply c_skip) | (with_reducible apply c_ret)) | (first | ((with_reducible apply c_ift); exact rfl; (exact rfl)) | ((with_reducible apply c_iff); exact rfl; first | exact rfl | assumption)) | ((with_reducible apply l_call); exact rfl; exact rfl; exact hw _ (hI.now hS); exact rfl; rintro _ w' ⟨rfl, hS'⟩; replace hS := hS.transA hS'; simp only [appA] at hS; clear hS') | ((with_reducible apply l_call); exact rfl; exact rfl; exact Read_some _ hl hf; exact rfl; rintro _ w' ⟨pn, cn, ps, cs, py, cy, pr, cr, rfl, hS'⟩; replace hS := hS.transA hS'; simp only [RowsOf, appA] at hS; clear hS') | ((with_reducible apply l_call); exact rfl; exact rfl; exact SameImages_fn (I := I) (J := I) ⟨hS.rowSl 1 rfl, hS.rowSl 2 rfl, hS.rowSl 3 rfl, hS.rowSl 4 rfl⟩ (hI.now hS); exact rfl; rintro _ w' ⟨rfl, hS'⟩; replace hS := hS.transA hS'; simp only [appA] at hS; clear hS') | ((with_reducible apply l_call); exact rfl; exact rfl; exact Read_some _ hs h; exact rfl; rintro _ w' ⟨pn, cn, ps, cs, py, cy, pr, cr, rfl, hS'⟩; replace hS := hS.transA hS'; simp only [RowsOf, appA] at hS; clear hS') | ((with_reducible apply l_call); exact rfl; exact rfl; exact Write_from (J := J) ⟨hS.rowSl 1 rfl, hS.rowSl 2 rfl, hS.rowSl 3 rfl, hS.rowSl 4 rfl⟩ hB2 hD2 h; exact rfl; rintro _ w' ⟨rfl, hS'⟩; replace hS := hS.transA hS'; simp only [appA] at hS; clear hS') | ((with_reducible apply l_call); exact rfl; exact rfl; exact imageBegun_fn _; exact rfl; rintro _ w' ⟨rfl, hS'⟩; replace hS := hS.transA hS'; simp only [appA] at hS; clear hS'))
      (apply q_ret1); (repeat (first | exact ResL.nil | (apply ResL.tmp; exact rfl)))
      exact ⟨by rw [q2], hS.sub (List.nil_sublist _)⟩
    · have q3 : decide (checkIm I = 0) = false := by simpa using hc
      refine fn_enter (fn := Try.f3) ⟨Try.func3, by kernel_rfl, by kernel_rfl⟩ (by exact rfl) Try.ntmps3 (by exact rfl) ?_
      have hS := St.start w
      repeat' (first | (first | ((with_reducible apply l_pure tabOk); exact rfl; exact rfl) | ((with_reducible apply l_load); exact rfl; (((with_reducible apply Loads.st tabOk); exact rfl; ((exact hS.blkR 0 rfl)); exact rfl)); exact rfl) | ((with_reducible apply l_box hS); exact rfl; exact rfl; exact rfl; intro g w' hS'; clear hS; have hS := hS'; clear hS') | ((with_reducible apply l_alloc hS tabOk); exact rfl; exact rfl; exact rfl; intro g w' hS'; clear hS; have hS := hS'; clear hS') | (((with_reducible apply l_store hS tabOk (i := 0)); exact rfl; exact rfl; exact rfl; exact rfl; exact rfl; exact rfl; exact rfl; exact rfl; ((exact (rfl : _ = [_, _, _, _, _, _]))); intro w' hS'; simp only [List.set] at hS'; clear hS; have hS := hS'; clear hS')) | (first | ((with_reducible apply l_yes); exact rfl; exact rfl; exact rfl; exact rfl; (exact rfl)) | ((with_reducible apply l_pick1); exact rfl; ((exact rfl)); exact rfl; exact rfl))) | (first | (with_reducible apply c_seq) | (with_reducible apply c_region) | (with_reducible apply l_nil) | (with_reducible apply q_then) | (with_reducible apply c_skip) | (with_reducible apply c_ret)) | (((with_reducible apply c_iff); exact rfl; first | exact rfl | assumption)) | ((with_reducible apply l_call); exact rfl; exact rfl; exact Write_bad (hI.now hS) hB hD hc; exact rfl; rintro _ w' ⟨rfl, hS'⟩; replace hS := hS.transA hS'; simp only [appA] at hS; clear hS') | ((with_reducible apply l_call); exact rfl; exact rfl; exact Read_some _ hs h; exact rfl; rintro _ w' ⟨pn, cn, ps, cs, py, cy, pr, cr, rfl, hS'⟩; replace hS := hS.transA hS'; simp only [RowsOf, appA] at hS; clear hS') | ((with_reducible apply l_call); exact rfl; exact rfl; exact Write_from (J := J) ⟨hS.rowSl 1 rfl, hS.rowSl 2 rfl, hS.rowSl 3 rfl, hS.rowSl 4 rfl⟩ hB2 hD2 h; exact rfl; rintro _ w' ⟨rfl, hS'⟩; replace hS := hS.transA hS'; simp only [appA] at hS; clear hS') | ((with_reducible apply l_call); exact rfl; exact rfl; exact imageBegun_fn _; exact rfl; rintro _ w' ⟨rfl, hS'⟩; replace hS := hS.transA hS'; simp only [appA] at hS; clear hS'))
      (apply q_ret1); (repeat (first | exact ResL.nil | (apply ResL.tmp; exact rfl)))
      exact ⟨by rw [q2], hS.sub (List.nil_sublist _)⟩
end Go.Proofs.Ytejnpppejalhfab
