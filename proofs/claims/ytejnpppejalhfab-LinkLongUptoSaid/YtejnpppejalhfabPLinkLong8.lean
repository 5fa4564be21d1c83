/- Texts that the proof stands on, one behind the other: Lk18, Lk19, LawLkL, PlLong, PlRight, Lk20, LawLkG, Op1, OpU, OpI, OpL. -/
import Derived.Deep.Slices
import Derived.OpenShut
import Derived.WideShapes
import Derived.ProofKit
import Derived.Test.YtejnpppejalhfabRows
import Derived.Test.YtejnpppejalhfabPLinkLong7
/- The reference's LinkedOf. -/
namespace Go.Proofs.Ytejnpppejalhfab
open Go.RowKit Go.Sort
section
variable {P : Program} {n : Nat} {ds : List Deferred} {E : Fr} {w : World} {dst : Option Nat} {ty : TypeId} {pos : String} {after : Array Edge} {F : Nat → Prop} {w0 : World} {Γ : List Asr} {T : Tab}
/-- 'string(b)', b a row of bytes of one's own that was made, empty or not -/
theorem g_convT (hS : St F w0 w Γ) (hT : TabOk P T) {t u e i sz2 g m cap : Nat} {z2 : Value} {x : Operand} {l : List UInt8} (ht : T.get t = some (.sl e 1 1 false [.int .u8 0])) (he : T.get e = some (.sc (.int .u8) 1 (.int .u8 0))) (hu2 : T.get u = some (.sc .string sz2 z2)) (hx : E.ev x = some (.slice (some ⟨g, 0, none⟩) m cap)) (hm : m = l.length) (hi : Γ[i]? = some (.row e 1 (.slice (some ⟨g, 0, none⟩) m cap) (bR l))) :
    Gets P ⟨dst, .convert t u x, ty, pos, after, none⟩ n ds E w (fun v' w' => v' = .string ⟨l.toArray⟩ ∧ w' = w) := by
  refine Gets.of_at fun a ha => ?_
  obtain ⟨ji, zv, hu, hinfo, _⟩ := hT.sl ht
  obtain ⟨_, hus, _⟩ := hT.sc hu2
  obtain ⟨_, hue, _⟩ := hT.sc he
  subst hm
  have hrun := run_convert_bytes_back (P := P) w t u e ⟨g, 0, none⟩ cap l hu hue hus (fun j hj => by
      rw [add_zero_at]
      have := hS.rowC i hi (k := j) (j := 0) (r := [.int .u8 l[j].toNat]) (u := .int .u8 l[j].toNat) (by unfold bR; simp [hj]) rfl
      simpa using this)
  simp only [execOp, ha.ev hx, Sem.run_bind, hrun, Result.andThen_ok, Sem.run_pure]
end
section
variable {P : Program} {n : Nat} {ds : List Deferred} {E : Fr} {w : World} {Q : Exit → Act → World → Prop} {ops : Array Oper} {S : World → Prop} {q fuel : Nat} {li : Array Bool} {d : Nat} {op : Op} {ty : TypeId} {pos : String} {after : Array Edge} {T : Tab}
end
section
variable {P : Program} {n : Nat} {ds : List Deferred} {E E' : Fr} {w : World} {F : Nat → Prop} {w0 : World} {Γ : List Asr}
end
end Go.Proofs.Ytejnpppejalhfab
/- The reference's SameSheets and SameLinked, of what is the same. -/
namespace Go.Proofs.Ytejnpppejalhfab
open Go.RowKit Go.Sort
theorem neS {α : Type} [DecidableEq α] (x : α) : (!decide (x = x)) = false := by simp
end Go.Proofs.Ytejnpppejalhfab
/- The law LinkLinks: its walk. -/
namespace Go.Proofs.Ytejnpppejalhfab
open Go.RowKit Go.Sort
theorem Link_bad {w : World} {M : Ob} {Lb : List Ob} {vl : Value} (hM : ObV w M) (hL : Sl nF w 6 vl (Lb.map imR)) (hLo : ∀ o ∈ Lb, ObV w o) (hB : ∀ o ∈ M :: Lb, ImB o.im ∧ ImD o.im) (h : linkC M Lb ≠ 0) : Fn Try.prog 13 [imgV M, vl] w (RBf (.tuple #[.agg [.slice none 0 0, .slice none 0 0, .int .i64 0].toArray, .int .i64 (linkC M Lb)]) w) :=
  (Link_fn hM hL hLo hB).mono fun v w' hv => by
    rcases hv with ⟨-, h1, h2⟩ | ⟨h1, -⟩
    · exact ⟨h1, h2⟩
    · exact absurd h1 h
theorem Link_good {w : World} {M : Ob} {Lb : List Ob} {vl : Value} (hM : ObV w M) (hL : Sl nF w 6 vl (Lb.map imR)) (hLo : ∀ o ∈ Lb, ObV w o) (hB : ∀ o ∈ M :: Lb, ImB o.im ∧ ImD o.im) (h : linkC M Lb = 0) : Fn Try.prog 13 [imgV M, vl] w (fun v w' => ∃ (s : List Ob × Int) (pa : Option Addr) (ca : Nat) (ps : Option Addr) (cs : Nat) (N : List (Sh × Value)), allP (M :: Lb) 8 0 (plStep ([], 1) M) = some s ∧ N.map (·.1) = linkSh (obP s.1) s.1 ∧ v = .tuple #[.agg [.slice pa (linkAr s.1).length ca, .slice ps N.length cs, .int .i64 (16 + M.im.entry)].toArray, .int .i64 0] ∧ St nF w w' (.row 131 4 (.slice pa (linkAr s.1).length ca) ((linkAr s.1).map arC) :: .row 49 3 (.slice ps N.length cs) (N.map fun p => shC p.1 p.2) :: N.map fxRow)) :=
  (Link_fn hM hL hLo hB).mono fun v w' hv => by
    rcases hv with ⟨h1, -⟩ | ⟨-, s, va, vs, N, h1, h2, h3, h4⟩
    · exact absurd h h1
    · obtain ⟨pa, ca, rfl⟩ := h4.rowSlice 0 rfl
      obtain ⟨ps, cs, rfl⟩ := h4.rowSlice 1 rfl
      rw [List.length_map] at h3 h4
      rw [List.length_map] at h3 h4
      exact ⟨s, pa, ca, ps, cs, N, h1, h2, h3, h4⟩
theorem St.memSl {F : Nat → Prop} {w0 w : World} {Γ : List Asr} {e sz : Nat} {v : Value} {rows : List (List Value)} (hS : St F w0 w Γ) (h : Asr.row e sz v rows ∈ Γ) : Sl nF w sz v rows := by
  obtain ⟨j, hj⟩ := List.mem_iff_getElem?.1 h
  exact hS.rowSl j hj
/-- sheets that came, with their fixes, in a world -/
theorem St.shsV {F : Nat → Prop} {w0 w : World} {Γ : List Asr} {N : List (Sh × Value)} {v : Value} (hS : St F w0 w Γ) (hi : .row 49 3 v (N.map fun p => shC p.1 p.2) ∈ Γ) (hN : ∀ p ∈ N, fxRow p ∈ Γ) : ShsV w N v :=
  ⟨hS.memSl hi, fun p hp => hS.memSl (hN p hp)⟩
end Go.Proofs.Ytejnpppejalhfab
/- The long text of a link, page by page, in plain Lean. -/
namespace Go.Proofs.Ytejnpppejalhfab
open Go.RowKit Go.Sort

def pageOf (L : List UInt8) (p : Int) : List UInt8 := (L.drop (p.toNat * 16)).take 16
theorem pageOf_get {L : List UInt8} {p : Int} {j : Nat} (hj : j < 16) : (pageOf L p)[j]? = L[p.toNat * 16 + j]? := by
  unfold pageOf
  rw [List.getElem?_take, if_pos hj, List.getElem?_drop]
theorem pageOf_len {L : List UInt8} {p : Int} (h : (p.toNat + 1) * 16 ≤ L.length) : (pageOf L p).length = 16 := by
  unfold pageOf
  rw [List.length_take, List.length_drop]
  omega
theorem splice_eq (s t : List UInt8) (off : Nat) : splice s off t = s.take off ++ (t ++ s.drop (off + t.length)) := by
  unfold splice
  (rfl)
theorem splice_get {s t : List UInt8} {off : Nat} (h : off + t.length ≤ s.length) (i : Nat) : (splice s off t)[i]? = if off ≤ i ∧ i < off + t.length then t[i - off]? else s[i]? := by
  rw [splice_eq]
  have hl : (s.take off).length = off := by rw [List.length_take]; omega
  by_cases h1 : i < off
  · rw [if_neg (by omega), List.getElem?_append_left (by omega), List.getElem?_take, if_pos h1]
  · rw [List.getElem?_append_right (by omega), hl]
    by_cases h2 : i < off + t.length
    · rw [if_pos (by omega), List.getElem?_append_left (by omega)]
    · rw [if_neg (by omega), List.getElem?_append_right (by omega), List.getElem?_drop]
      congr 1
      omega
theorem page_piece {L s : List UInt8} {a : Nat} {p : Int} (ha : a + s.length ≤ L.length) (hp0 : 0 ≤ p) (hp : (p.toNat + 1) * 16 ≤ L.length) : pageOf (splice L a s) p = fillF (pageOf L p) (fxOf a s p) := by
  have hl := splice_len ha
  have h16 := pageOf_len hp
  apply List.ext_getElem?
  intro j
  by_cases hj : j < 16
  rotate_left
  · have hlen : (fillF (pageOf L p) (fxOf a s p)).length = 16 := by
      unfold fxOf
      dsimp only []
      split
      · rename_i hlt
        show (splice _ (max ((a : Int) - 16 * p) 0).toNat _).length = 16
        rw [splice_len]
        · exact h16
        · rw [h16, List.length_take, List.length_drop]
          omega
      · exact h16
    rw [List.getElem?_eq_none (by rw [pageOf_len (by rw [hl]; exact hp)]; omega), List.getElem?_eq_none (by omega)]
  · rw [pageOf_get hj, splice_get ha]
    unfold fxOf
    dsimp only []
    split
    · rename_i h1
      have hcond : max ((a : Int) - 16 * p) 0 < min ((a : Int) - 16 * p + s.length) 16 := by omega
      rw [if_pos hcond]
      show _ = (splice _ (max ((a : Int) - 16 * p) 0).toNat _)[j]?
      rw [splice_get (by rw [h16, List.length_take, List.length_drop]; omega), if_pos (by rw [List.length_take, List.length_drop]; omega), List.getElem?_take, if_pos (by omega), List.getElem?_drop]
      congr 1
      omega
    · rename_i h1
      split
      · rename_i hcond
        show _ = (splice _ (max ((a : Int) - 16 * p) 0).toNat _)[j]?
        rw [splice_get (by rw [h16, List.length_take, List.length_drop]; omega), if_neg (by rw [List.length_take, List.length_drop]; omega), pageOf_get hj]
      · exact (pageOf_get hj).symm
def layPcs (L : List UInt8) (l : List (Nat × List UInt8)) : List UInt8 := l.foldl (fun L q => splice L q.1 q.2) L
theorem layPcs_len {l : List (Nat × List UInt8)} : ∀ {L : List UInt8}, (∀ q ∈ l, q.1 + q.2.length ≤ L.length) → (layPcs L l).length = L.length := by
  induction l with
  | nil => intro L _; rfl
  | cons q l ih =>
    intro L h
    have h1 := splice_len (h q List.mem_cons_self)
    show (layPcs (splice L q.1 q.2) l).length = _
    rw [ih (fun r hr => by rw [h1]; exact h r (List.mem_cons_of_mem _ hr)), h1]
theorem page_pcs {l : List (Nat × List UInt8)} {p : Int} (hp0 : 0 ≤ p) : ∀ {L : List UInt8}, (∀ q ∈ l, q.1 + q.2.length ≤ L.length) → (p.toNat + 1) * 16 ≤ L.length → pageOf (layPcs L l) p = fillF (pageOf L p) (l.flatMap fun q => fxOf q.1 q.2 p) := by
  induction l with
  | nil => intro L _ _; rfl
  | cons q l ih =>
    intro L h hp
    have hq := h q List.mem_cons_self
    have h1 := splice_len hq
    show pageOf (layPcs (splice L q.1 q.2) l) p = _
    rw [ih (fun r hr => by rw [h1]; exact h r (List.mem_cons_of_mem _ hr)) (by rw [h1]; exact hp), page_piece hq hp0 hp]
    unfold fillF
    rw [List.flatMap_cons, List.foldl_append]
theorem fxOf_out {a p : Int} {s : List UInt8} (h : a + s.length ≤ 16 * p ∨ 16 * (p + 1) ≤ a) : fxOf a s p = [] := by
  unfold fxOf
  dsimp only []
  rw [if_neg (by omega)]
/-- the segments, each with where its object lies -/
def sgs (os : List Ob) : List (Int × Sg) := os.flatMap fun o => o.im.segs.map fun s => (o.at_ / 16, s)
theorem rawsO_sgs (os : List Ob) : rawsO os = (sgs os).map fun x => rawA x.1 x.2 := by
  unfold rawsO sgs
  rw [List.map_flatMap]
  congr 1
  funext o
  rw [List.map_map]
  rfl
def segPc (x : Int × Sg) : Nat × List UInt8 := (((x.1 + x.2.pg) * 16).toNat, x.2.data)
def relPc (os : List (Im × Int)) (at_ : Int) (r : Rl) : Nat × List UInt8 := ((at_ + r.at_).toNat, bytesT os at_ r)
def relPcs (os : List (Im × Int)) (l : List Ob) : List (Nat × List UInt8) := l.flatMap fun o => o.im.rels.map (relPc os o.at_)
def longS (os : List Ob) : List UInt8 := layPcs (layPcs (List.replicate 4096 0) ((sgs os).map segPc)) (relPcs (obP os) os)
theorem rise_pair {l : List Ar} : ∀ {e : Int} {i j : Nat} {a b : Ar}, RiseF e l → i < j → l[i]? = some a → l[j]? = some b → a.fin ≤ b.pg := by
  induction l with
  | nil => intro e i j a b _ _ h; simp at h
  | cons x l ih =>
    intro e i j a b hr hij ha hb
    have key : ∀ {l : List Ar} {e : Int} {k : Nat} {b : Ar}, RiseF e l → l[k]? = some b → e ≤ b.pg := by
      intro l
      induction l with
      | nil => intro e k b _ h; simp at h
      | cons y l ih2 =>
        intro e k b hr hk
        cases k with
        | zero => simp at hk; subst hk; exact hr.2.1
        | succ k =>
          have := ih2 hr.2.2 (by simpa using hk)
          have h1 := hr.1
          have h2 := hr.2.1
          unfold Ar.fin Ar.ok at *
          omega
    cases j with
    | zero => omega
    | succ j =>
      cases i with
      | zero => simp at ha; subst ha; exact key hr.2.2 (by simpa using hb)
      | succ i => exact ih (i := i) (j := j) hr.2.2 (by omega) (by simpa using ha) (by simpa using hb)
theorem rise_at {l : List Ar} : ∀ {e : Int} {i : Nat} {a : Ar}, RiseF e l → l[i]? = some a → a.ok := by
  induction l with
  | nil => intro e i a _ h; simp at h
  | cons x l ih =>
    intro e i a hr ha
    cases i with
    | zero => simp at ha; subst ha; exact hr.1
    | succ i => exact ih hr.2.2 (by simpa using ha)
/-- what is known of the objects of a link -/
structure OsL (os : List Ob) : Prop where
  rise : RiseF 1 (rawsO os)
  k : ∀ o ∈ os, checkIm o.im = 0
  p : ∃ nx, PkI (os, nx) ∧ nx ≤ 256
  y : symsAll (obP os) os = true
theorem OsL.at_ {os : List Ob} (h : OsL os) {i : Nat} {o : Ob} (ho : os[i]? = some o) : o.at_ = (1 + endsN (os.take i)) * 16 ∧ 0 ≤ endsN (os.take i) ∧ 1 + endsN (os.take (i + 1)) ≤ 256 ∧ endsN (os.take (i + 1)) = endsN (os.take i) + lastEnd o.im := by
  obtain ⟨nx, hP, hx⟩ := h.p
  have hpos : ∀ l : List Ob, (∀ o ∈ l, o ∈ os) → 0 ≤ endsN l := fun l hl => (ends_le fun o ho => (check_zeroL (h.k o (hl o ho))).1).1
  have q1 := hpos (os.take i) fun o ho => List.mem_of_mem_take ho
  have q2 := hpos (os.drop (i + 1)) fun o ho => List.mem_of_mem_drop ho
  have hnx : nx = 1 + endsN os := hP.nx
  have hall : endsN os = endsN (os.take (i + 1)) + endsN (os.drop (i + 1)) := by rw [← endsN_app, List.take_append_drop]
  refine ⟨hP.at_ i o ho, q1, by omega, ?_⟩
  rw [List.take_add_one, ho]
  simp only [Option.toList_some, endsN_app, endsN]
  omega
theorem take_ends {os : List Ob} (h : OsL os) {i j : Nat} (hij : i ≤ j) : endsN (os.take i) ≤ endsN (os.take j) := by
  have e : os.take j = os.take i ++ (os.take j).drop i := by
    rw [List.drop_take]
    conv => lhs; rw [← List.take_append_drop i (os.take j), List.take_take, Nat.min_eq_left hij, List.drop_take]
  rw [e, endsN_app]
  have := (ends_le (l := (os.take j).drop i) fun o ho => (check_zeroL (h.k o (List.mem_of_mem_take (List.mem_of_mem_drop ho)))).1).1
  omega
theorem seg_in {I : Im} (h : checkIm I = 0) {s : Sg} (hs : s ∈ I.segs) : 0 ≤ s.pg ∧ 1 ≤ s.n ∧ s.pg + s.n ≤ lastEnd I ∧ (s.data.length : Int) ≤ s.n * 16 := by
  obtain ⟨z1, -, z3, -⟩ := check_zeroL h
  have hso := List.all_eq_true.1 z1.s2 s hs
  unfold sgOk at hso
  have hso := of_decide_eq_true hso
  refine ⟨by omega, by omega, ?_, by omega⟩
  obtain ⟨sl, hsl, hle⟩ := seg_last z1
  rw [hle]
  obtain ⟨i, hi⟩ := List.mem_iff_getElem?.1 hs
  have hmono : ∀ (d i : Nat) (a b : Sg), I.segs[i]? = some a → I.segs[i + d]? = some b → a.pg + a.n ≤ b.pg + b.n := by
    intro d
    induction d with
    | zero => intro i a b ha hb; rw [Nat.add_zero, ha] at hb; cases hb; omega
    | succ d ih =>
      intro i a b ha hb
      have hil := lt_of_getE hb
      obtain ⟨c, hc⟩ := lt_get (l := I.segs) (i := i + 1) (by omega)
      have h1 := z3 i a c ha hc
      have h2 := ih (i + 1) c b hc (by rw [show i + 1 + d = i + (d + 1) by omega]; exact hb)
      have hco := List.all_eq_true.1 z1.s2 c (List.mem_of_getElem? hc)
      unfold sgOk at hco
      have hco := of_decide_eq_true hco
      omega
  rw [List.getLast?_eq_getElem?] at hsl
  have hil := lt_of_getE hi
  exact hmono (I.segs.length - 1 - i) i s sl hi (by rw [show i + (I.segs.length - 1 - i) = I.segs.length - 1 by omega]; exact hsl)
theorem own_in {I : Im} (h : checkIm I = 0) {x : Int} (hx : (own I.segs x).isSome = true) : 0 ≤ x ∧ x < lastEnd I * 16 := by
  obtain ⟨s, hs⟩ := Option.isSome_iff_exists.1 hx
  unfold own at hs
  have hm := List.mem_of_find?_eq_some hs
  have hin := List.find?_some hs
  unfold inSg at hin
  have hin := of_decide_eq_true hin
  have := seg_in h hm
  omega
theorem bytesT_len (os : List (Im × Int)) (at_ : Int) (r : Rl) (h : (bytesOf os at_ r).isSome = true) : (bytesT os at_ r).length = 8 := by
  rw [bytesOf_adr] at h
  unfold bytesT
  rw [bytesOf_adr]
  cases hq : adrT os at_ r with
  | none => rw [hq] at h; cases h
  | some n => exact leB_length n 8
theorem rel_range {os : List Ob} (h : OsL os) {i : Nat} {o : Ob} (ho : os[i]? = some o) {r : Rl} (hr : r ∈ o.im.rels) : o.at_ ≤ o.at_ + r.at_ ∧ o.at_ + r.at_ + 8 ≤ (1 + endsN (os.take (i + 1))) * 16 ∧ (bytesT (obP os) o.at_ r).length = 8 := by
  have hom := List.mem_of_getElem? ho
  obtain ⟨z1, z2, z3, z4⟩ := check_zeroL (h.k o hom)
  obtain ⟨k, hk⟩ := List.mem_iff_getElem?.1 hr
  obtain ⟨q1, q2⟩ := z4.rels k r hk
  have q3 := own_in (h.k o hom) (q2 7 (by omega) (by omega))
  obtain ⟨a1, a2, a3, a4⟩ := h.at_ ho
  have hs := List.all_eq_true.1 (List.all_eq_true.1 h.y o hom) r hr
  exact ⟨by omega, by omega, bytesT_len _ _ _ hs⟩
theorem segs_range {os : List Ob} (h : OsL os) : ∀ q ∈ (sgs os).map segPc, q.1 + q.2.length ≤ 4096 := by
  intro q hq
  obtain ⟨x, hx, rfl⟩ := List.mem_map.1 hq
  unfold sgs at hx
  obtain ⟨o, ho, hx⟩ := List.mem_flatMap.1 hx
  obtain ⟨s, hs, rfl⟩ := List.mem_map.1 hx
  obtain ⟨i, hi⟩ := List.mem_iff_getElem?.1 ho
  have h1 := seg_in (h.k o ho) hs
  obtain ⟨a1, a2, a3, a4⟩ := h.at_ hi
  unfold segPc
  dsimp only
  omega
theorem rels_range {os : List Ob} (h : OsL os) : ∀ q ∈ relPcs (obP os) os, q.1 + q.2.length ≤ 4096 := by
  intro q hq
  unfold relPcs at hq
  obtain ⟨o, ho, hq⟩ := List.mem_flatMap.1 hq
  obtain ⟨r, hr, rfl⟩ := List.mem_map.1 hq
  obtain ⟨i, hi⟩ := List.mem_iff_getElem?.1 ho
  obtain ⟨h1, h2, h3⟩ := rel_range h hi hr
  obtain ⟨a1, a2, a3, a4⟩ := h.at_ hi
  unfold relPc
  dsimp only
  rw [h3]
  omega
theorem flat_congr {α β : Type} {l : List α} {f g : α → List β} (h : ∀ x ∈ l, f x = g x) : l.flatMap f = l.flatMap g := by
  induction l with
  | nil => rfl
  | cons a l ih => rw [List.flatMap_cons, List.flatMap_cons, h a List.mem_cons_self, ih fun x hx => h x (List.mem_cons_of_mem _ hx)]
theorem flat_only {α β : Type} {l : List α} {i : Nat} {x : α} {f : α → List β} (hx : l[i]? = some x) (h : ∀ (j : Nat) (y : α), l[j]? = some y → j ≠ i → f y = []) : l.flatMap f = f x := by
  have e : l = l.take i ++ x :: l.drop (i + 1) := by
    conv => lhs; rw [← List.take_append_drop i l, drop_at hx]
  rw [e, List.flatMap_append, List.flatMap_cons]
  have h1 : (l.take i).flatMap f = [] := List.flatMap_eq_nil_iff.2 fun y hy => by
    obtain ⟨j, hj⟩ := List.mem_iff_getElem?.1 hy
    rw [List.getElem?_take] at hj
    split at hj
    · exact h j y hj (by omega)
    · cases hj
  have h2 : (l.drop (i + 1)).flatMap f = [] := List.flatMap_eq_nil_iff.2 fun y hy => by
    obtain ⟨j, hj⟩ := List.mem_iff_getElem?.1 hy
    rw [List.getElem?_drop] at hj
    exact h (i + 1 + j) y hj (by omega)
  rw [h1, h2, List.nil_append, List.append_nil]
theorem zeros_data (d : List UInt8) {p0 : Int} {n : Nat} (h0 : 0 ≤ p0) : fillF (List.replicate 16 0) (fxOf (((p0 * 16).toNat : Nat) : Int) d (p0 + n)) = dataAt d n := by
  unfold fxOf dataAt
  dsimp only []
  have e1 : (((p0 * 16).toNat : Nat) : Int) - 16 * (p0 + n) = - (16 * (n : Int)) := by omega
  rw [e1]
  by_cases h : max (-(16 * (n : Int))) 0 < min (-(16 * (n : Int)) + (d.length : Int)) 16
  · rw [if_pos h]
    have e2 : max (-(16 * (n : Int))) 0 = 0 := by omega
    rw [e2]
    show splice (List.replicate 16 0) (Int.toNat 0) _ = _
    have e3 : ((0 : Int) - -(16 * (n : Int))).toNat = n * 16 := by omega
    have e4 : (d.drop (n * 16)).take (min (-(16 * (n : Int)) + (d.length : Int)) 16 - 0).toNat = (d.drop (n * 16)).take 16 := by
      rw [List.take_eq_take_iff, List.length_drop]
      omega
    rw [e3, e4]
    unfold splice
    simp only [Int.toNat_zero, List.take_zero, List.nil_append, Nat.zero_add, List.drop_replicate]
  · rw [if_neg h]
    have e2 : d.drop (n * 16) = [] := List.drop_of_length_le (by omega)
    rw [e2]
    rfl
theorem long_page {os : List Ob} (h : OsL os) {i k n : Nat} {o : Ob} {s : Sg} (ho : os[i]? = some o) (hs : o.im.segs[k]? = some s) (hn : n < s.n.toNat) : pageOf (longS os) (o.at_ / 16 + s.pg + n) = fillF (dataAt s.data n) (fxAll (obP os) o.at_ o.im.rels (o.at_ / 16 + s.pg + n)) := by
  have hom := List.mem_of_getElem? ho
  have hsm := List.mem_of_getElem? hs
  obtain ⟨a1, a2, a3, a4⟩ := h.at_ ho
  have hsi := seg_in (h.k o hom) hsm
  have hb : o.at_ / 16 = 1 + endsN (os.take i) := by omega
  rw [hb]
  have hp0 : 0 ≤ 1 + endsN (os.take i) + s.pg + n := by omega
  unfold longS
  have hl1 : (layPcs (List.replicate 4096 0) ((sgs os).map segPc)).length = 4096 := by
    rw [layPcs_len (fun q hq => by rw [List.length_replicate]; exact segs_range h q hq), List.length_replicate]
  rw [page_pcs hp0 (fun q hq => by rw [hl1]; exact rels_range h q hq) (by rw [hl1]; omega), page_pcs hp0 (fun q hq => by rw [List.length_replicate]; exact segs_range h q hq) (by rw [List.length_replicate]; omega)]
  congr 1
  · have ez : pageOf (List.replicate 4096 0) (1 + endsN (os.take i) + s.pg + n) = List.replicate 16 0 := by
      unfold pageOf
      rw [List.drop_replicate, List.take_replicate]
      congr 1
      omega
    rw [ez, List.flatMap_map]
    obtain ⟨m, hm⟩ : ∃ m, (sgs os)[m]? = some (o.at_ / 16, s) := List.mem_iff_getElem?.1 (by
      unfold sgs
      exact List.mem_flatMap.2 ⟨o, hom, List.mem_map.2 ⟨s, hsm, rfl⟩⟩)
    have hraw := h.rise
    rw [rawsO_sgs] at hraw
    rw [flat_only hm (fun j y hy hj => ?_)]
    · have := zeros_data s.data (p0 := 1 + endsN (os.take i) + s.pg) (n := n) (by omega)
      unfold segPc
      dsimp only
      rw [hb]
      exact this
    · have hyo := rise_at hraw (map_get (f := fun x : Int × Sg => rawA x.1 x.2) hy)
      have hyd : (y.2.data.length : Int) ≤ y.2.n * 16 := by
        have hym := List.mem_of_getElem? hy
        unfold sgs at hym
        obtain ⟨o', ho', hx⟩ := List.mem_flatMap.1 hym
        obtain ⟨s', hs', rfl⟩ := List.mem_map.1 hx
        exact (seg_in (h.k o' ho') hs').2.2.2
      have hy1 : 1 ≤ y.1 + y.2.pg := hyo.1
      have e1 : ((((y.1 + y.2.pg) * 16).toNat : Nat) : Int) = (y.1 + y.2.pg) * 16 := by omega
      have hx1 := map_get (f := fun x : Int × Sg => rawA x.1 x.2) hm
      have hx2 := map_get (f := fun x : Int × Sg => rawA x.1 x.2) hy
      apply fxOf_out
      unfold segPc
      dsimp only
      rw [e1]
      rcases Nat.lt_or_gt_of_ne hj with hlt | hlt
      · have : (rawA y.1 y.2).fin ≤ (rawA (o.at_ / 16) s).pg := rise_pair hraw hlt hx2 hx1
        have : y.1 + y.2.pg + y.2.n ≤ o.at_ / 16 + s.pg := this
        left
        omega
      · have : (rawA (o.at_ / 16) s).fin ≤ (rawA y.1 y.2).pg := rise_pair hraw hlt hx1 hx2
        have : o.at_ / 16 + s.pg + s.n ≤ y.1 + y.2.pg := this
        right
        omega
  · unfold relPcs
    rw [List.flatMap_assoc]
    rw [flat_only ho (fun j y hy hj => ?_)]
    · unfold fxAll
      rw [List.flatMap_map]
      apply flat_congr
      intro r hr
      obtain ⟨r1, r2, r3⟩ := rel_range h ho hr
      unfold relPc
      dsimp only
      rw [show (((o.at_ + r.at_).toNat : Nat) : Int) = o.at_ + r.at_ by omega]
    · rw [List.flatMap_map]
      refine List.flatMap_eq_nil_iff.2 fun r hr => ?_
      obtain ⟨r1, r2, r3⟩ := rel_range h hy hr
      obtain ⟨b1, b2, b3, b4⟩ := h.at_ hy
      apply fxOf_out
      unfold relPc
      dsimp only
      rw [r3, show (((y.at_ + r.at_).toNat : Nat) : Int) = y.at_ + r.at_ by omega]
      rcases Nat.lt_or_gt_of_ne hj with hlt | hlt
      · have := take_ends h (i := j + 1) (j := i) hlt
        left
        omega
      · have := take_ends h (i := i + 1) (j := j) hlt
        right
        omega
end Go.Proofs.Ytejnpppejalhfab
/- What is linked is right, in plain Lean. -/
namespace Go.Proofs.Ytejnpppejalhfab
open Go.RowKit Go.Sort

theorem sumN_app (l m : List Ar) : sumN (l ++ m) = sumN l + sumN m := by
  induction l with
  | nil => simp [sumN]
  | cons a l ih => simp only [List.cons_append, sumN, ih]; omega
theorem sumN_join (out : List Ar) (a : Ar) : sumN (joinStep out a) = sumN out + a.n := by
  unfold joinStep
  split
  · rename_i b hb
    have e : out = out.dropLast ++ [b] := by
      obtain ⟨h, rfl⟩ := List.getLast?_eq_some_iff.1 hb
      simp
    split
    · rw [sumN_app]
      conv => rhs; rw [e, sumN_app]
      simp only [sumN]
      omega
    · rw [sumN_app]
      simp only [sumN]
      omega
  · rw [sumN_app]
    simp only [sumN]
    omega
theorem sumN_joined (l : List Ar) : sumN (joined l) = sumN l := by
  unfold joined
  have : ∀ (l out : List Ar), sumN (l.foldl joinStep out) = sumN out + sumN l := by
    intro l
    induction l with
    | nil => intro out; simp [sumN]
    | cons a l ih => intro out; rw [List.foldl_cons, ih, sumN_join]; simp only [sumN]; omega
  rw [this]
  simp [sumN]
theorem pgsO_sum {b0 : Int} : ∀ {l : List Sg}, (∀ s ∈ l, 0 ≤ s.n) → ((pgsO b0 l).length : Int) = sumN (l.map (rawA b0))
  | [], _ => rfl
  | s :: l, h => by
    have e : pgsO b0 (s :: l) = pgsS b0 s s.n.toNat ++ pgsO b0 l := by unfold pgsO; simp
    have h1 := pgsO_sum (b0 := b0) (l := l) fun x hx => h x (List.mem_cons_of_mem _ hx)
    have h2 := h s List.mem_cons_self
    rw [e, List.length_append, pgsS_len]
    show _ = s.n + sumN (l.map (rawA b0))
    omega
theorem linkSh_sum {os' : List (Im × Int)} : ∀ {l : List Ob}, (∀ o ∈ l, ∀ s ∈ o.im.segs, 0 ≤ s.n) → ((linkSh os' l).length : Int) = sumN (rawsO l)
  | [], _ => rfl
  | o :: l, h => by
    have h1 := linkSh_sum (os' := os') (l := l) fun x hx => h x (List.mem_cons_of_mem _ hx)
    have h2 := pgsO_sum (b0 := o.at_ / 16) (l := o.im.segs) (h o List.mem_cons_self)
    have e1 : linkSh os' (o :: l) = shO os' o.im (o.at_ / 16) ++ linkSh os' l := by unfold linkSh; rw [List.flatMap_cons]
    have e2 : rawsO (o :: l) = o.im.segs.map (rawA (o.at_ / 16)) ++ rawsO l := by unfold rawsO; rw [List.flatMap_cons]
    rw [e1, e2, List.length_append, sumN_app]
    have e3 : (shO os' o.im (o.at_ / 16)).length = (pgsO (o.at_ / 16) o.im.segs).length := by unfold shO; rw [List.length_map]
    rw [e3]
    omega
theorem paint_mem {l : List Ar} {a : Ar} {p : Int} : ∀ {e : Int}, RiseF e l → a ∈ l → a.pg ≤ p → p < a.fin → paint l p = a.mk' := by
  induction l with
  | nil => intro e _ h; cases h
  | cons x l ih =>
    intro e hr hm h1 h2
    rcases List.mem_cons.1 hm with rfl | hm
    · exact paint_cons_in ⟨h1, h2⟩
    · obtain ⟨j, hj⟩ := List.mem_iff_getElem?.1 hm
      have := rise_pair (i := 0) (j := j + 1) (a := x) (b := a) hr (by omega) rfl (by simpa using hj)
      rw [paint_cons_out (by omega)]
      exact ih hr.2.2 hm h1 h2
theorem raw_mem {os : List Ob} {o : Ob} {s : Sg} (ho : o ∈ os) (hs : s ∈ o.im.segs) : rawA (o.at_ / 16) s ∈ rawsO os := by
  unfold rawsO
  exact List.mem_flatMap.2 ⟨o, ho, List.mem_map.2 ⟨s, hs, rfl⟩⟩
theorem link_find {os : List Ob} (h : OsL os) {o : Ob} {s : Sg} {p : Int} (ho : o ∈ os) (hs : s ∈ o.im.segs) (h1 : o.at_ / 16 + s.pg ≤ p) (h2 : p < o.at_ / 16 + s.pg + s.n) : ∃ a, findA (linkAr os) p = some a ∧ a.prot = rgt s ∧ a.z = false := by
  obtain ⟨g1, g2⟩ := joined_spec h.rise
  refine find_some (L := linkAr os) g1 (rgt_in s) ?_
  show paint (joined (rawsO os)) p = _
  rw [g2, paint_mem h.rise (raw_mem ho hs) h1 h2]
  rfl
theorem fxOf_cases {at_ p : Int} {s : List UInt8} (h8 : s.length = 8) : (fxOf at_ s p = [] ∧ (16 ≤ at_ - 16 * p ∨ at_ - 16 * p + 8 ≤ 0)) ∨ (∃ f, fxOf at_ s p = [f] ∧ at_ - 16 * p < 16 ∧ f.off = max (at_ - 16 * p) 0 ∧ 0 < f.bytes.length ∧ f.off + f.bytes.length = min (at_ - 16 * p + 8) 16) := by
  unfold fxOf
  dsimp only []
  rw [h8]
  by_cases h : max (at_ - 16 * p) 0 < min (at_ - 16 * p + ((8 : Nat) : Int)) 16
  · rw [if_pos h]
    right
    refine ⟨_, rfl, by omega, rfl, ?_, ?_⟩
    · simp only [List.length_take, List.length_drop]
      omega
    · simp only [List.length_take, List.length_drop]
      omega
  · rw [if_neg h]
    left
    exact ⟨rfl, by omega⟩
theorem fxOk_all {os : List (Im × Int)} {at_ p : Int} : ∀ {l : List Rl} {free : Int}, (∀ r ∈ l, (bytesT os at_ r).length = 8) → (∀ (k : Nat) (q r : Rl), l[k]? = some q → l[k + 1]? = some r → q.at_ + 8 ≤ r.at_) → (∀ r, l[0]? = some r → free ≤ max (at_ + r.at_ - 16 * p) 0 ∨ 16 ≤ at_ + r.at_ - 16 * p) → fxOk free (fxAll os at_ l p) = true
  | [], free, _, _, _ => rfl
  | r :: l, free, h8, hs, hf => by
    have e : fxAll os at_ (r :: l) p = fxOf (at_ + r.at_) (bytesT os at_ r) p ++ fxAll os at_ l p := by unfold fxAll; rw [List.flatMap_cons]
    have hs' : ∀ (k : Nat) (q r : Rl), l[k]? = some q → l[k + 1]? = some r → q.at_ + 8 ≤ r.at_ := fun k q r' h1 h2 => hs (k + 1) q r' (by simpa using h1) (by simpa using h2)
    have h8' : ∀ r ∈ l, (bytesT os at_ r).length = 8 := fun x hx => h8 x (List.mem_cons_of_mem _ hx)
    have hn : ∀ r', l[0]? = some r' → r.at_ + 8 ≤ r'.at_ := fun r' h => hs 0 r r' rfl (by simpa using h)
    have hf0 := hf r rfl
    rw [e]
    rcases fxOf_cases (at_ := at_ + r.at_) (p := p) (h8 r List.mem_cons_self) with ⟨h1, h2⟩ | ⟨f, h1, h2, h3, h4, h5⟩
    · rw [h1, List.nil_append]
      refine fxOk_all h8' hs' fun r' hr' => ?_
      have := hn r' hr'
      omega
    · rw [h1]
      show (fxOne free f && fxOk (fxEnd f) (fxAll os at_ l p)) = true
      rw [Bool.and_eq_true]
      constructor
      · unfold fxOne
        rw [decide_eq_true_eq]
        refine ⟨by omega, by omega, ?_, by omega⟩
        intro hb
        rw [hb] at h4
        simp at h4
      · refine fxOk_all h8' hs' fun r' hr' => ?_
        have := hn r' hr'
        unfold fxEnd
        omega
theorem sheet_of {os' : List (Im × Int)} {os : List Ob} {x : Sh} (h : x ∈ linkSh os' os) : ∃ (i k n : Nat) (o : Ob) (s : Sg), os[i]? = some o ∧ o.im.segs[k]? = some s ∧ n < s.n.toNat ∧ x = shOf os' (o.at_ / 16 * 16) o.im.rels (pgK (o.at_ / 16) s n) := by
  unfold linkSh at h
  obtain ⟨o, ho, hx⟩ := List.mem_flatMap.1 h
  unfold shO at hx
  obtain ⟨kk, hk, rfl⟩ := List.mem_map.1 hx
  unfold pgsO at hk
  obtain ⟨s, hs, hk⟩ := List.mem_flatMap.1 hk
  obtain ⟨n, hn, rfl⟩ := pgsS_mem hk
  obtain ⟨i, hi⟩ := List.mem_iff_getElem?.1 ho
  obtain ⟨k, hk⟩ := List.mem_iff_getElem?.1 hs
  exact ⟨i, k, n, o, s, hi, hk, hn, rfl⟩
theorem at16 {os : List Ob} (h : OsL os) {i : Nat} {o : Ob} (ho : os[i]? = some o) : o.at_ / 16 * 16 = o.at_ := by
  have := (h.at_ ho).1
  omega
theorem sheet_right {os : List Ob} (h : OsL os) {x : Sh} (hx : x ∈ linkSh (obP os) os) : rightS x = true := by
  obtain ⟨i, k, n, o, s, ho, hs, hn, rfl⟩ := sheet_of hx
  have hom := List.mem_of_getElem? ho
  have hsi := seg_in (h.k o hom) (List.mem_of_getElem? hs)
  obtain ⟨a1, a2, a3, a4⟩ := h.at_ ho
  obtain ⟨-, -, -, z4⟩ := check_zeroL (h.k o hom)
  rw [at16 h ho]
  unfold rightS
  rw [Bool.and_eq_true]
  constructor
  · rw [decide_eq_true_eq]
    refine ⟨?_, dataAt_len _ _⟩
    show 1 ≤ o.at_ / 16 + s.pg + (n : Int) ∧ o.at_ / 16 + s.pg + (n : Int) ≤ 255
    omega
  · exact fxOk_all (fun r hr => (rel_range h ho hr).2.2) z4.step fun r hr => Or.inl (by omega)
theorem riseB_of : ∀ {l : List Sh} {last : Int}, (∀ s ∈ l, rightS s = true) → l.Pairwise (fun a b => a.page < b.page) → (∀ s, l[0]? = some s → last < s.page) → riseB last l = true
  | [], _, _, _, _ => rfl
  | s :: l, last, h1, h2, h3 => by
    rw [List.pairwise_cons] at h2
    show (rightS s && (decide (last < s.page) && riseB s.page l)) = true
    rw [h1 s List.mem_cons_self, decide_eq_true (h3 s rfl), riseB_of (fun x hx => h1 x (List.mem_cons_of_mem _ hx)) h2.2 (fun x hx => h2.1 x (List.mem_of_getElem? hx))]
    rfl
theorem sheets_pair {os : List Ob} (h : OsL os) : (linkSh (obP os) os).Pairwise fun a b => a.page < b.page := by
  unfold linkSh
  rw [List.pairwise_flatMap]
  constructor
  · intro o ho
    obtain ⟨z1, -, z3, -⟩ := check_zeroL (h.k o ho)
    unfold shO
    rw [List.pairwise_map]
    exact (pgs_rise (o.at_ / 16) z3 z1.s2).2
  · rw [List.pairwise_iff_getElem]
    intro i j hi hj hij x hx y hy
    have hoi : os[i]? = some os[i] := by simp
    have hoj : os[j]? = some os[j] := by simp
    have key : ∀ {k : Nat} {o : Ob} {x : Sh}, os[k]? = some o → x ∈ shO (obP os) o.im (o.at_ / 16) → 1 + endsN (os.take k) ≤ x.page ∧ x.page < 1 + endsN (os.take (k + 1)) := by
      intro k o x ho hx
      unfold shO pgsO at hx
      obtain ⟨kk, hk, rfl⟩ := List.mem_map.1 hx
      obtain ⟨s, hs, hk⟩ := List.mem_flatMap.1 hk
      obtain ⟨n, hn, rfl⟩ := pgsS_mem hk
      have hsi := seg_in (h.k o (List.mem_of_getElem? ho)) hs
      obtain ⟨a1, a2, a3, a4⟩ := h.at_ ho
      show _ ≤ o.at_ / 16 + s.pg + (n : Int) ∧ o.at_ / 16 + s.pg + (n : Int) < _
      omega
    have k1 := key hoi hx
    have k2 := key hoj hy
    have := take_ends h (i := i + 1) (j := j) hij
    omega
theorem link_right {os : List Ob} {o : Ob} (h : OsL os) (ho : os[0]? = some o) : checkLk (linkAr os) (linkSh (obP os) os) (16 + o.im.entry) = 0 := by
  obtain ⟨g1, g2⟩ := joined_spec h.rise
  have hom := List.mem_of_getElem? ho
  obtain ⟨a1, a2, a3, a4⟩ := h.at_ ho
  have hat : o.at_ = 16 := by rw [a1]; rfl
  have hc : checkI (linkAr os) = 0 := check_good g1
  unfold checkLk
  rw [if_pos hc]
  have hlk : lkB (linkAr os) (linkSh (obP os) os) (16 + o.im.entry) = true := by
    unfold lkB
    rw [Bool.and_eq_true, Bool.and_eq_true]
    refine ⟨?_, ?_, ?_⟩
    · rw [decide_eq_true_eq, linkAr_raws, sumN_joined]
      exact linkSh_sum fun o ho s hs => by have := seg_in (h.k o ho) hs; omega
    · rw [shsB_eq, Bool.and_eq_true]
      refine ⟨riseB_of (fun s hs => sheet_right h hs) (sheets_pair h) (fun s hs => ?_), ?_⟩
      · have := sheet_right h (List.mem_of_getElem? hs)
        have := right_page this
        omega
      · unfold arB
        rw [List.all_eq_true]
        intro x hx
        obtain ⟨i, k, n, o', s, ho', hs, hn, rfl⟩ := sheet_of hx
        obtain ⟨a, f1, -, f3⟩ := link_find h (p := o'.at_ / 16 + s.pg + n) (List.mem_of_getElem? ho') (List.mem_of_getElem? hs) (by omega) (by omega)
        unfold arOk
        show (match findA (linkAr os) (o'.at_ / 16 + s.pg + n) with
          | some a => !a.z
          | none => false) = true
        rw [f1]
        dsimp only
        rw [f3]
        rfl
    · obtain ⟨-, -, -, z4⟩ := check_zeroL (h.k o hom)
      obtain ⟨s, hs, hex⟩ := z4.entry
      have hown : (own o.im.segs o.im.entry).isSome = true := by rw [hs]; rfl
      have hin := own_in (h.k o hom) hown
      have hm := List.mem_of_find?_eq_some hs
      have hi := List.find?_some hs
      unfold inSg at hi
      have hi := of_decide_eq_true hi
      have h8 := z4.by8
      rw [Int.tmod_eq_emod_of_nonneg hin.1] at h8
      unfold entB
      rw [Bool.and_eq_true]
      constructor
      · rw [decide_eq_true_eq, Int.tmod_eq_emod_of_nonneg (by omega)]
        omega
      · rw [Int.tdiv_eq_ediv_of_nonneg (by omega)]
        obtain ⟨a, f1, f2, -⟩ := link_find h (p := (16 + o.im.entry) / 16) hom hm (by omega) (by omega)
        rw [f1]
        dsimp only
        rw [f2, decide_eq_true_eq]
        unfold rgt
        rw [hex]
        split <;> simp
  rw [if_pos hlk]
theorem fill_long {os : List Ob} (h : OsL os) {x : Sh} (hx : x ∈ linkSh (obP os) os) : fillS x = pageOf (longS os) x.page := by
  obtain ⟨i, k, n, o, s, ho, hs, hn, rfl⟩ := sheet_of hx
  rw [at16 h ho]
  have := long_page h ho hs hn
  show fillF (dataAt s.data n) (fxAll (obP os) o.at_ o.im.rels (o.at_ / 16 + s.pg + n)) = pageOf (longS os) (o.at_ / 16 + s.pg + n)
  rw [this]
end Go.Proofs.Ytejnpppejalhfab
/- The reference's Long. -/
namespace Go.Proofs.Ytejnpppejalhfab
open Go.RowKit Go.Sort
theorem layPcs_snoc (L : List UInt8) (l : List (Nat × List UInt8)) (q : Nat × List UInt8) : layPcs L (l ++ [q]) = splice (layPcs L l) q.1 q.2 := by
  unfold layPcs
  rw [List.foldl_append]
  rfl
theorem overI_fn (s t : List UInt8) (off : Int) (w : World) (hs : s.length = 4096) (h0 : 0 ≤ off) (h : off.toNat + t.length ≤ 4096) : Fn Try.prog 61 [.string ⟨s.toArray⟩, .int .i64 off, .string ⟨t.toArray⟩] w (RBf (.string ⟨(splice s off.toNat t).toArray⟩) w) := by
  have := Over_fn s t off.toNat w (by unfold maxLen; omega) (by omega)
  rwa [Int.toNat_of_nonneg h0] at this
set_option maxRecDepth 100000 in
set_option maxHeartbeats 8000000 in
theorem Long_fn {w : World} {M : Ob} {Lb : List Ob} {vl : Value} (hM : ObV w M) (hL : Sl nF w 6 vl (Lb.map imR)) (hLo : ∀ o ∈ Lb, ObV w o) (h0 : linkC M Lb = 0) : Fn Try.prog 23 [imgV M, vl] w (fun v w' => ∃ (s : List Ob × Int), allP (M :: Lb) 8 0 (plStep ([], 1) M) = some s ∧ OsL s.1 ∧ (∃ r, s.1 = { M with at_ := 16 } :: r) ∧ v = .string ⟨(longS s.1).toArray⟩ ∧ St nF w w' []) := by
  have hbl := hL.bound
  obtain ⟨pl, cl, rfl⟩ := hL.len
  have hall : ∀ o ∈ M :: Lb, ObV w o := fun o ho => by
    rcases List.mem_cons.1 ho with rfl | h
    · exact hM
    · exact hLo o h
  have hM1 := hM
  obtain ⟨I, vn, vs, vy, vr, a0⟩ := M
  replace hM1 : ImV w I vn vs vy vr := hM1
  obtain ⟨pn, cn, rfl⟩ := hM1.needs.len
  obtain ⟨ps, cs, rfl⟩ := hM1.segs.len
  obtain ⟨py, cy, rfl⟩ := hM1.syms.len
  obtain ⟨pr, cr, rfl⟩ := hM1.rels.len
  refine fn_enter (fn := Try.f23) ⟨Try.func23, by kernel_rfl, by kernel_rfl⟩ (by exact rfl) Try.ntmps23 (by exact rfl) ?_
  have hS := St.start w
  show WC _ _ _ _ _ [(0, .agg [.string ⟨I.name.toArray⟩, .slice pn I.needs.length cn, .slice ps I.segs.length cs, .slice py I.syms.length cy, .slice pr I.rels.length cr, .int .i64 I.entry].toArray), (1, .slice pl Lb.length cl)] _
  have h6 : ¬ 6 < Lb.length := fun h => by
    unfold linkC at h0
    rw [if_pos h] at h0
    cases h0
  rw [linkC_eq h6] at h0
  repeat' (first | (first | ((with_reducible apply l_pure tabOk); exact rfl; exact rfl) | ((with_reducible apply l_load); exact rfl; (((with_reducible apply Loads.st tabOk); exact rfl; ((exact hS.blkR 0 rfl)); exact rfl)); exact rfl) | ((with_reducible apply l_box hS); exact rfl; exact rfl; exact rfl; intro g w' hS'; clear hS; have hS := hS'; clear hS') | ((with_reducible apply l_bslice hS tabOk); exact rfl; exact rfl; exact rfl; exact rfl; exact rfl; exact rfl; exact rfl; intro g w' hS'; clear hS; have hS := hS'; clear hS')) | (first | (with_reducible apply c_seq) | (with_reducible apply c_region) | (with_reducible apply l_nil) | (with_reducible apply q_then)) | ((with_reducible apply l_appendSl hS tabOk 0); exact rfl; exact rfl; exact rfl; exact rfl; exact hL.now hS; ((simp only [List.length_map, List.length_cons, List.length_nil, List.length_append]; omega)); exact rfl; intro p' cap' w' hS'; simp only [List.set] at hS'; clear hS; have hS := hS'; clear hS'))
  obtain ⟨B, hBe⟩ : ∃ B, B = (⟨I, .slice pn I.needs.length cn, .slice ps I.segs.length cs, .slice py I.syms.length cy, .slice pr I.rels.length cr, a0⟩ : Ob) :: Lb := ⟨_, rfl⟩
  have hBl : B.length = Lb.length + 1 := by rw [hBe]; rfl
  generalize hm : (_ : List (List Value)).length + (Lb.map imR).length = m at hS ⊢
  obtain rfl : m = B.length := by rw [hBl, ← hm, List.length_map]; simp only [List.length_cons, List.length_nil]; omega
  have eB : [[.string ⟨I.name.toArray⟩, .slice pn I.needs.length cn, .slice ps I.segs.length cs, .slice py I.syms.length cy, .slice pr I.rels.length cr, .int .i64 I.entry]] ++ Lb.map imR = B.map imR := by rw [hBe]; rfl
  rw [eB] at hS
  have hallB : ∀ o ∈ B, ObV w o := by rw [hBe]; exact hall
  have hB0 : B[0]? = some (⟨I, .slice pn I.needs.length cn, .slice ps I.segs.length cs, .slice py I.syms.length cy, .slice pr I.rels.length cr, a0⟩ : Ob) := by rw [hBe]; rfl
  rw [← hBe] at h0 ⊢
  have hob := fun w (vl : Value) (h1 : Sl nF w 6 vl (B.map imR)) (h2 : ∀ o ∈ B, ObV w o) (h3 : ∀ o ∈ B, checkIm o.im = 0) (h4 : (B.map fun o => o.im.name).Nodup) => objects_fn h1 hB0 h2 (fun o ho => (check_zeroL (h3 o ho)).1) h4 (by omega)
  have hin := fun s (h3 : ∀ o ∈ B, checkIm o.im = 0) (h : allP B 8 0 (plStep ([], 1) _) = some s) => allP_all (List.mem_of_getElem? hB0) h3 h
  have hst : ∀ s, allP B 8 0 (plStep ([], 1) ⟨I, .slice pn I.needs.length cn, .slice ps I.segs.length cs, .slice py I.syms.length cy, .slice pr I.rels.length cr, a0⟩) = some s → Fst ⟨I, .slice pn I.needs.length cn, .slice ps I.segs.length cs, .slice py I.syms.length cy, .slice pr I.rels.length cr, a0⟩ s := fun s hs => allP_inv (Inv := Fst _) (fun s o h _ => fst_step o h) hs (fst_start _)
  dsimp only
  generalize plStep ([], 1) _ = s1 at hob hin hst h0 ⊢
  clear hBe hall hm hM hM1 hLo hL hB0
  generalize allP B 8 0 s1 = RR at hob hin hst h0 ⊢
  unfold linkB at h0
  have hfn : B.find? (fun o => !decide (checkIm o.im = 0)) = none := by
    cases hf : B.find? (fun o => !decide (checkIm o.im = 0)) with
    | none => rfl
    | some o =>
      exfalso
      rw [hf] at h0
      have h1 := List.find?_some hf
      replace h0 : checkIm o.im = 0 := h0
      simp [h0] at h1
  rw [hfn] at h0
  dsimp only at h0
  have hnd : (B.map fun o => o.im.name).Nodup := by
    refine Classical.byContradiction fun hc => ?_
    rw [if_neg hc] at h0
    cases h0
  rw [if_pos hnd] at h0
  have hckB : ∀ o ∈ B, checkIm o.im = 0 := fun o ho => by
    rw [List.find?_eq_none] at hfn
    have := hfn o ho
    simpa using this
  ((with_reducible apply l_call); exact rfl; exact rfl; exact hob _ _ (hS.rowSl 0 rfl) (fun o ho => (hallB o ho).now hS) hckB hnd; exact rfl; rintro v w' hv)
  rcases hv with ⟨rfl, rfl, hS'⟩ | ⟨s, rfl, h256, rfl, hS'⟩ | ⟨s, u, rfl, h256, rfl, hS'⟩
  · cases h0
  · dsimp only at h0
    rw [if_pos h256] at h0
    cases h0
  replace hS := hS.transA hS'; simp only [appA] at hS; clear hS'
  dsimp only at h0
  rw [if_neg (by omega)] at h0
  have hsa : symsAll (obP s.1) s.1 = true := by
    refine Classical.byContradiction fun hc => ?_
    rw [if_neg hc] at h0
    cases h0
  obtain ⟨hA, hP⟩ := hin s hckB rfl
  obtain ⟨rs, hrs⟩ := hst s rfl
  have hoi := obsI_of hallB hckB (by omega) hA hP
  clear hin hob hst h0 hfn hnd
  obtain ⟨os, nx⟩ := s
  dsimp only at hoi hS h256 hsa hrs
  have hrise := raws_rise hP hoi.k h256
  have hosl : OsL os := ⟨hrise, hoi.k, ⟨nx, hP, h256⟩, hsa⟩
  have hosn := hoi.n
  obtain ⟨pu, cu, rfl⟩ := hS.rowSlice 0 rfl
  rw [List.length_map] at hS ⊢
  replace hS := hS.reorder [0] (by decide) rfl
  repeat' (first | (((with_reducible apply l_pure tabOk); exact rfl; exact rfl)) | (first | (with_reducible apply c_seq) | (with_reducible apply c_region) | (with_reducible apply l_nil) | (with_reducible apply q_then)) | ((with_reducible apply l_make hS tabOk (m := 4096)); exact rfl; exact rfl; exact rfl; exact rfl; exact rfl; omega; omega; exact rfl; exact rfl; intro gz w' hS'; clear hS; have hS := hS'; clear hS'))
  ((with_reducible apply l_gets); exact rfl; exact g_convT hS tabOk (i := 0) (l := List.replicate 4096 0) rfl rfl rfl rfl (by rw [List.length_replicate]) (by unfold bR; rw [List.map_replicate]; rfl); rintro _ _ ⟨rfl, rfl⟩)
  replace hS := hS.drop
  repeat' (first | (((with_reducible apply l_pure tabOk); exact rfl; exact rfl)) | (first | (with_reducible apply c_seq) | (with_reducible apply c_region) | (with_reducible apply l_nil) | (with_reducible apply q_then) | (with_reducible apply c_block)))
  generalize hz : List.replicate 4096 (0 : UInt8) = Z
  have hZl : Z.length = 4096 := by rw [← hz, List.length_replicate]
  refine c_loopK (X := Nat × List UInt8) (fun x => [(8, .int .i64 (x.1 : Nat)), (7, .string ⟨x.2.toArray⟩)]) [5] rfl (fun _ => []) (fun x => x.1 ≤ os.length ∧ x.2.length = 4096 ∧ x.2 = layPcs Z ((sgs (os.take x.1)).map segPc)) (fun x => os.length - x.1) (0, Z) (by repeat (first | exact Fr.sub_nil _ | (apply Fr.sub_cons; exact rfl))) ⟨Nat.zero_le _, hZl, rfl⟩ hS ?_
  clear hS
  rintro ⟨i, L⟩ w8 ⟨hi, hLl, hLe⟩ hS
  dsimp only [List.cons_append, List.nil_append] at hi hLl hLe hS ⊢
  by_cases hlt : i < os.length
  · obtain ⟨o, ho⟩ := lt_get (l := os) (i := i) (by omega)
    have hom := List.mem_of_getElem? ho
    have hov := hoi.v o hom
    obtain ⟨b0, hb1, hb2, hb3⟩ := hoi.b o hom
    have hb16 : o.at_ / 16 = b0 := by omega
    obtain ⟨a1, a2, a3, a4⟩ := hosl.at_ ho
    have hsgi := fun (s : Sg) (hs : s ∈ o.im.segs) => seg_in (hoi.k o hom) hs
    have hsg1 : sgs (os.take (i + 1)) = sgs (os.take i) ++ o.im.segs.map fun s => (b0, s) := by
      unfold sgs
      rw [List.take_add_one, ho]
      simp [hb16]
    have hrow : (os.map rbC)[i]? = some [.string ⟨o.im.name.toArray⟩, o.vn, o.vs, o.vy, o.vr, .int .i64 o.im.entry, .int .i64 (o.at_ / 16)] := map_get (f := rbC) ho
    rw [hb16] at hrow
    obtain ⟨J, un, us, uy, ur, at_⟩ := o
    replace hov : ImV w J un us uy ur := hov
    dsimp only at hrow hb1 hsg1 hsgi a1 a4
    have hsgs := hov.segs
    have hbs := hov.segs.bound
    obtain ⟨qn, en, rfl⟩ := hov.needs.len
    obtain ⟨qs, es_, rfl⟩ := hov.segs.len
    obtain ⟨qy, ey, rfl⟩ := hov.syms.len
    obtain ⟨qr, er, rfl⟩ := hov.rels.len
    obtain ⟨gu, hgu⟩ := hS.rowSome 0 rfl (by omega)
    subst hgu
    repeat' (first | (((with_reducible apply l_pure tabOk); exact rfl; exact rfl)) | (first | (with_reducible apply c_seq) | (with_reducible apply c_region) | (with_reducible apply l_nil) | (with_reducible apply q_then) | (with_reducible apply c_skip) | (with_reducible apply c_block)) | (((with_reducible apply c_ifd); exact rfl; all_goals (intro hb hp; try (exfalso; omega)))))
    refine c_loopK (X := Nat × List UInt8) (fun x => [(9, .int .i64 (x.1 : Nat)), (7, .string ⟨x.2.toArray⟩)]) [5, 8] rfl (fun _ => []) (fun x => x.1 ≤ J.segs.length ∧ x.2.length = 4096 ∧ x.2 = layPcs Z ((sgs (os.take i) ++ (J.segs.take x.1).map fun s => (b0, s)).map segPc)) (fun x => J.segs.length - x.1) (0, L) (by repeat (first | exact Fr.sub_nil _ | (apply Fr.sub_cons; exact rfl))) ⟨Nat.zero_le _, hLl, by simpa using hLe⟩ hS ?_
    clear hS hLl hLe
    rintro ⟨k, L⟩ w9 ⟨hk, hLl, hLe⟩ hS
    dsimp only [List.cons_append, List.nil_append] at hk hLl hLe hS ⊢
    by_cases hkt : k < J.segs.length
    · obtain ⟨sg, hsg⟩ := lt_get (l := J.segs) (i := k) (by omega)
      have hsr : (J.segs.map sgC)[k]? = some [.int .i64 sg.pg, .int .i64 sg.n, .string ⟨sg.data.toArray⟩, .bool sg.wr, .bool sg.ex] := map_get (f := sgC) hsg
      obtain ⟨b2, off2, hpe2, hro2⟩ := hsgs.at_ (i := k) hkt
      subst hpe2
      obtain ⟨q1, q2, q3, q4⟩ := hsgi sg (List.mem_of_getElem? hsg)
      have hov2 := fun w => overI_fn L sg.data ((b0 + sg.pg) * 16) w hLl (by omega) (by omega)
      have hnx : splice L ((b0 + sg.pg) * 16).toNat sg.data = layPcs Z ((sgs (os.take i) ++ (J.segs.take (k + 1)).map fun s => (b0, s)).map segPc) := by
        rw [List.take_add_one, hsg]
        simp only [Option.toList_some, List.map_append, List.map_cons, List.map_nil]
        rw [← List.append_assoc, layPcs_snoc, ← List.map_append, ← hLe]
        rfl
      have hnl : (splice L ((b0 + sg.pg) * 16).toNat sg.data).length = 4096 := by rw [splice_len (by omega), hLl]
      repeat' (first | (first | ((with_reducible apply l_pure tabOk); exact rfl; exact rfl) | ((with_reducible apply l_load); exact rfl; (((with_reducible apply Loads.sl tabOk); exact rfl; ((exact hS.rowCj 0 rfl (by assumption) rfl)))); exact rfl) | ((with_reducible apply l_ix tabOk); exact rfl; exact rfl; exact rfl; ((exact rfl)); ((omega)); exact rfl)) | (first | (with_reducible apply c_seq) | (with_reducible apply c_region) | (with_reducible apply l_nil) | (with_reducible apply q_then) | (with_reducible apply c_skip) | (with_reducible apply c_block)) | (((with_reducible apply c_ifd); exact rfl; all_goals (intro hb hp; try (exfalso; omega)))))
      (focus ((with_reducible apply c_drawAll _ _ _ (by kernel_rfl) (by kernel_rfl) hS); (repeat' (first | (first | ((with_reducible apply d_add); exact rfl; exact rfl; omega; omega; exact rfl) | ((with_reducible apply d_mul); exact rfl; exact rfl; omega; omega; exact rfl) | ((with_reducible apply d_pure tabOk); exact rfl; exact rfl) | ((with_reducible apply d_load); exact rfl; (intro wd hd; replace hd : St _ _ wd _ := hd; (first | ((with_reducible apply Loads.sc tabOk); exact rfl; (first | exact hd.roC0 (by assumption) (by assumption) rfl | exact hd.roC (by assumption) (by assumption) rfl | exact hd.rowCj 0 rfl (by assumption) rfl)) | ((with_reducible apply Loads.sl tabOk); exact rfl; ((exact hd.rowCj 0 rfl (by assumption) rfl))))); exact rfl) | ((with_reducible apply d_ix tabOk); exact rfl; exact rfl; exact rfl; ((exact rfl)); ((omega)); exact rfl)) | ((with_reducible apply d_call); exact rfl; exact rfl; (intro wd hd; replace hd : St _ _ wd _ := hd; exact hov2 _); exact rfl))); all_goals ((with_reducible apply d_nil); intro w' hS'; clear hS; have hS := hS'; clear hS')))
      repeat' (first | (first | ((with_reducible apply l_add); exact rfl; exact rfl; omega; omega; exact rfl) | ((with_reducible apply l_pure tabOk); exact rfl; exact rfl)) | (first | (with_reducible apply c_region) | (with_reducible apply l_nil) | (with_reducible apply q_then) | (with_reducible apply q_block)))
      exact q_loopK (k + 1, _) (by repeat (first | exact Fr.sub_nil _ | (apply Fr.sub_cons; exact rfl))) ⟨by show k + 1 ≤ _; omega, hnl, hnx⟩ hS (by show _ - (k + 1) < _ - k; omega)
    · rw [show J.segs.take k = J.segs from List.take_of_length_le (by omega), ← hsg1] at hLe
      repeat' (first | (first | ((with_reducible apply l_add); exact rfl; exact rfl; omega; omega; exact rfl) | ((with_reducible apply l_pure tabOk); exact rfl; exact rfl) | ((with_reducible apply l_load); exact rfl; (((with_reducible apply Loads.sl tabOk); exact rfl; ((exact hS.rowCj 0 rfl (by assumption) rfl)))); exact rfl) | ((with_reducible apply l_ix tabOk); exact rfl; exact rfl; exact rfl; ((exact rfl)); ((omega)); exact rfl)) | (first | (with_reducible apply c_seq) | (with_reducible apply c_region) | (with_reducible apply l_nil) | (with_reducible apply q_then) | (with_reducible apply c_exit) | (with_reducible apply q_then_exit) | (with_reducible apply q_block) | (with_reducible apply q_block_exit)) | (((with_reducible apply c_ifd); exact rfl; all_goals (intro hb hp; try (exfalso; omega)))))
      exact q_loopK (i + 1, L) (by repeat (first | exact Fr.sub_nil _ | (apply Fr.sub_cons; exact rfl))) ⟨by show i + 1 ≤ _; omega, hLl, hLe⟩ hS (by show _ - (i + 1) < _ - i; omega)
  rw [List.take_of_length_le (by omega)] at hLe
  repeat' (first | (((with_reducible apply l_pure tabOk); exact rfl; exact rfl)) | (first | (with_reducible apply c_seq) | (with_reducible apply c_region) | (with_reducible apply l_nil) | (with_reducible apply q_then) | (with_reducible apply c_block) | (with_reducible apply c_exit) | (with_reducible apply q_then_exit) | (with_reducible apply q_block_exit)) | (((with_reducible apply c_ifd); exact rfl; all_goals (intro hb hp; try (exfalso; omega)))))
  obtain ⟨L1, hL1⟩ : ∃ L1, L1 = layPcs Z ((sgs os).map segPc) := ⟨_, rfl⟩
  rw [← hL1] at hLe
  have hL1l : L1.length = 4096 := by rw [← hLe]; exact hLl
  refine c_loopK (X := Nat × List UInt8) (fun x => [(10, .int .i64 (x.1 : Nat)), (7, .string ⟨x.2.toArray⟩)]) [5] rfl (fun _ => []) (fun x => x.1 ≤ os.length ∧ x.2.length = 4096 ∧ x.2 = layPcs L1 (relPcs (obP os) (os.take x.1))) (fun x => os.length - x.1) (0, L) (by repeat (first | exact Fr.sub_nil _ | (apply Fr.sub_cons; exact rfl))) ⟨Nat.zero_le _, hLl, hLe⟩ hS ?_
  clear hS hLl hLe
  rintro ⟨i, L⟩ w8 ⟨hi, hLl, hLe⟩ hS
  dsimp only [List.cons_append, List.nil_append] at hi hLl hLe hS ⊢
  by_cases hlt : i < os.length
  rotate_left
  · rw [show os.take i = os from List.take_of_length_le (by omega)] at hLe
    repeat' (first | (((with_reducible apply l_pure tabOk); exact rfl; exact rfl)) | (first | (with_reducible apply c_seq) | (with_reducible apply c_region) | (with_reducible apply l_nil) | (with_reducible apply q_then) | (with_reducible apply c_exit) | (with_reducible apply c_ret) | (with_reducible apply q_then_exit) | (with_reducible apply q_block_exit)) | (((with_reducible apply c_ifd); exact rfl; all_goals (intro hb hp; try (exfalso; omega)))))
    (apply q_ret1); (repeat (first | exact ResL.nil | (apply ResL.tmp; exact rfl)))
    refine ⟨(os, nx), rfl, hosl, ⟨rs, hrs⟩, ?_, hS.sub (List.nil_sublist _)⟩
    rw [hLe, hL1, ← hz]
    rfl
  obtain ⟨o, ho⟩ := lt_get (l := os) (i := i) (by omega)
  have hom := List.mem_of_getElem? ho
  have hov := hoi.v o hom
  obtain ⟨b0, hb1, hb2, hb3⟩ := hoi.b o hom
  have hb16 : o.at_ / 16 = b0 := by omega
  have hrr := fun (r : Rl) (hr : r ∈ o.im.rels) => rel_range hosl ho hr
  obtain ⟨a1, a2, a3, a4⟩ := hosl.at_ ho
  have hrp1 : relPcs (obP os) (os.take (i + 1)) = relPcs (obP os) (os.take i) ++ o.im.rels.map (relPc (obP os) o.at_) := by
    unfold relPcs
    rw [List.take_add_one, ho]
    simp
  have hadr := fun w (r : Rl) (h1 : Sl nF w 7 (.slice pu os.length cu) (os.map rbC)) (h2 : ∀ o ∈ os, ObV w o) => adrR_fn (own := o) (r := r) (bo := b0) h1 h2 (fun o ho => by obtain ⟨b, q1, q2, q3⟩ := hoi.b o ho; exact ⟨b, q1, by omega, by omega⟩) ⟨hb1, by omega, by omega⟩ hoi.y
  have hsym := List.all_eq_true.1 hsa o hom
  have hrow : (os.map rbC)[i]? = some [.string ⟨o.im.name.toArray⟩, o.vn, o.vs, o.vy, o.vr, .int .i64 o.im.entry, .int .i64 (o.at_ / 16)] := map_get (f := rbC) ho
  rw [hb16] at hrow
  obtain ⟨J, un, us, uy, ur, at_⟩ := o
  replace hov : ImV w J un us uy ur := hov
  dsimp only at hrow hb1 hb16 hrr hrp1 hadr hsym
  have hrel := hov.rels
  have hbr := hov.rels.bound
  obtain ⟨qn, en, rfl⟩ := hov.needs.len
  obtain ⟨qs, es_, rfl⟩ := hov.segs.len
  obtain ⟨qy, ey, rfl⟩ := hov.syms.len
  obtain ⟨qr, er, rfl⟩ := hov.rels.len
  obtain ⟨gu, hgu⟩ := hS.rowSome 0 rfl (by omega)
  subst hgu
  have hadr2 : ∀ (r : Rl) w, Sl nF w 7 (.slice (some ⟨gu, 0, none⟩) os.length cu) (os.map rbC) → (∀ o ∈ os, ObV w o) → Fn Try.prog 52 [.slice (some ⟨gu, 0, none⟩) os.length cu, .agg [.string ⟨J.name.toArray⟩, .slice qn J.needs.length en, .slice qs J.segs.length es_, .slice qy J.syms.length ey, .slice qr J.rels.length er, .int .i64 J.entry, .int .i64 b0].toArray, .agg [.int .i64 r.at_, .string ⟨r.name.toArray⟩, .int .i64 r.add].toArray] w (RBf (.tuple #[.int .i64 ((adrT (obP os) at_ r).getD 0), .bool (adrT (obP os) at_ r).isSome]) w) := fun r w => by rw [← hb16]; exact hadr w r
  clear hadr
  repeat' (first | (((with_reducible apply l_pure tabOk); exact rfl; exact rfl)) | (first | (with_reducible apply c_seq) | (with_reducible apply c_region) | (with_reducible apply l_nil) | (with_reducible apply q_then) | (with_reducible apply c_skip) | (with_reducible apply c_block)) | (((with_reducible apply c_ifd); exact rfl; all_goals (intro hb hp; try (exfalso; omega)))))
  refine c_loopK (X := Nat × List UInt8) (fun x => [(11, .int .i64 (x.1 : Nat)), (7, .string ⟨x.2.toArray⟩)]) [5, 10] rfl (fun _ => []) (fun x => x.1 ≤ J.rels.length ∧ x.2.length = 4096 ∧ x.2 = layPcs L1 (relPcs (obP os) (os.take i) ++ (J.rels.take x.1).map (relPc (obP os) at_))) (fun x => J.rels.length - x.1) (0, L) (by repeat (first | exact Fr.sub_nil _ | (apply Fr.sub_cons; exact rfl))) ⟨Nat.zero_le _, hLl, by simpa using hLe⟩ hS ?_
  clear hS hLl hLe
  rintro ⟨k, L⟩ w9 ⟨hk, hLl, hLe⟩ hS
  dsimp only [List.cons_append, List.nil_append] at hk hLl hLe hS ⊢
  by_cases hkt : k < J.rels.length
  rotate_left
  · rw [show J.rels.take k = J.rels from List.take_of_length_le (by omega), ← hrp1] at hLe
    repeat' (first | (first | ((with_reducible apply l_add); exact rfl; exact rfl; omega; omega; exact rfl) | ((with_reducible apply l_pure tabOk); exact rfl; exact rfl) | ((with_reducible apply l_load); exact rfl; (((with_reducible apply Loads.sl tabOk); exact rfl; ((exact hS.rowCj 0 rfl (by assumption) rfl)))); exact rfl) | ((with_reducible apply l_ix tabOk); exact rfl; exact rfl; exact rfl; ((exact rfl)); ((omega)); exact rfl)) | (first | (with_reducible apply c_seq) | (with_reducible apply c_region) | (with_reducible apply l_nil) | (with_reducible apply q_then) | (with_reducible apply c_exit) | (with_reducible apply q_then_exit) | (with_reducible apply q_block) | (with_reducible apply q_block_exit)) | (((with_reducible apply c_ifd); exact rfl; all_goals (intro hb hp; try (exfalso; omega)))))
    exact q_loopK (i + 1, L) (by repeat (first | exact Fr.sub_nil _ | (apply Fr.sub_cons; exact rfl))) ⟨by show i + 1 ≤ _; omega, hLl, hLe⟩ hS (by show _ - (i + 1) < _ - i; omega)
  obtain ⟨r, hr⟩ := lt_get (l := J.rels) (i := k) (by omega)
  have hrow2 := map_get (f := rlC) hr
  obtain ⟨b2, off2, hpe2, hro2⟩ := hrel.at_ (i := k) hkt
  subst hpe2
  obtain ⟨r1, r2, r3⟩ := hrr r (List.mem_of_getElem? hr)
  have hadr3 := hadr2 r
  have hbs := List.all_eq_true.1 hsym r (List.mem_of_getElem? hr)
  rw [← adrT_some] at hbs
  obtain ⟨t, ht⟩ := Option.isSome_iff_exists.1 hbs
  simp only [ht, Option.getD_some, Option.isSome_some] at hadr3
  have hbt : bytesT (obP os) at_ r = leB t 8 := by
    unfold bytesT
    rw [bytesOf_adr, ht]
    rfl
  have hby : ∀ w, Fn Try.prog 69 [.int .i64 t, .int .i64 8] w (RBf (.string ⟨(leB t 8).toArray⟩) w) := fun w => Bytes_fn t 8 w (by decide)
  rw [← hbt] at hby
  have hov2 := fun w => overI_fn L (bytesT (obP os) at_ r) (b0 * 16 + r.at_) w hLl (by omega) (by omega)
  have hnx : splice L (b0 * 16 + r.at_).toNat (bytesT (obP os) at_ r) = layPcs L1 (relPcs (obP os) (os.take i) ++ (J.rels.take (k + 1)).map (relPc (obP os) at_)) := by
    rw [List.take_add_one, hr]
    simp only [Option.toList_some, List.map_append, List.map_cons, List.map_nil]
    rw [← List.append_assoc, layPcs_snoc, ← hLe]
    unfold relPc
    dsimp only
    rw [← hb1]
  have hnl : (splice L (b0 * 16 + r.at_).toNat (bytesT (obP os) at_ r)).length = 4096 := by rw [splice_len (by omega), hLl]
  clear hadr2
  unfold rlC at hrow2
  repeat' (first | (first | ((with_reducible apply l_pure tabOk); exact rfl; exact rfl) | ((with_reducible apply l_load); exact rfl; (((with_reducible apply Loads.sl tabOk); exact rfl; ((exact hS.rowCj 0 rfl (by assumption) rfl)))); exact rfl) | ((with_reducible apply l_ix tabOk); exact rfl; exact rfl; exact rfl; ((exact rfl)); ((omega)); exact rfl)) | (first | (with_reducible apply c_seq) | (with_reducible apply c_region) | (with_reducible apply l_nil) | (with_reducible apply q_then) | (with_reducible apply c_skip) | (with_reducible apply c_block)) | (((with_reducible apply c_ifd); exact rfl; all_goals (intro hb hp; try (exfalso; omega)))))
  (focus ((with_reducible apply c_drawAll _ _ _ (by kernel_rfl) (by kernel_rfl) hS); (repeat' (first | (first | ((with_reducible apply d_pure tabOk); exact rfl; exact rfl) | ((with_reducible apply d_load); exact rfl; (intro wd hd; replace hd : St _ _ wd _ := hd; (first | ((with_reducible apply Loads.sl tabOk); exact rfl; ((exact hd.rowCj 0 rfl (by assumption) rfl))) | ((with_reducible apply Loads.st tabOk); exact rfl; (first | exact hd.roR (by assumption) (by assumption) | exact hd.rowR 0 rfl (by assumption)); exact rfl))); exact rfl) | ((with_reducible apply d_ix tabOk); exact rfl; exact rfl; exact rfl; ((exact rfl)); ((omega)); exact rfl)) | ((with_reducible apply d_call); exact rfl; exact rfl; (intro wd hd; replace hd : St _ _ wd _ := hd; exact hadr3 _ (hd.rowSl 0 rfl) (hoi.now hd).v); exact rfl))); all_goals ((with_reducible apply d_nil); intro w' hS'; clear hS; have hS := hS'; clear hS')))
  repeat' ((first | (with_reducible apply l_nil) | (with_reducible apply q_then)))
  (focus ((with_reducible apply c_drawAll _ _ _ (by kernel_rfl) (by kernel_rfl) hS); (repeat' (first | (first | ((with_reducible apply d_add); exact rfl; exact rfl; omega; omega; exact rfl) | ((with_reducible apply d_mul); exact rfl; exact rfl; omega; omega; exact rfl) | ((with_reducible apply d_pure tabOk); exact rfl; exact rfl) | ((with_reducible apply d_load); exact rfl; (intro wd hd; replace hd : St _ _ wd _ := hd; (first | ((with_reducible apply Loads.sc tabOk); exact rfl; (first | exact hd.roC0 (by assumption) (by assumption) rfl | exact hd.rowCj 0 rfl (by assumption) rfl)) | ((with_reducible apply Loads.sl tabOk); exact rfl; ((exact hd.rowCj 0 rfl (by assumption) rfl))))); exact rfl) | ((with_reducible apply d_ix tabOk); exact rfl; exact rfl; exact rfl; ((exact rfl)); ((omega)); exact rfl)) | ((with_reducible apply d_call); exact rfl; exact rfl; (intro wd hd; replace hd : St _ _ wd _ := hd; exact hby _); exact rfl) | ((with_reducible apply d_call); exact rfl; exact rfl; (intro wd hd; replace hd : St _ _ wd _ := hd; exact hov2 _); exact rfl))); all_goals ((with_reducible apply d_nil); intro w' hS'; clear hS; have hS := hS'; clear hS')))
  repeat' (first | (first | ((with_reducible apply l_add); exact rfl; exact rfl; omega; omega; exact rfl) | ((with_reducible apply l_pure tabOk); exact rfl; exact rfl)) | (first | (with_reducible apply c_region) | (with_reducible apply l_nil) | (with_reducible apply q_then) | (with_reducible apply q_block)))
  exact q_loopK (k + 1, _) (by repeat (first | exact Fr.sub_nil _ | (apply Fr.sub_cons; exact rfl))) ⟨by show k + 1 ≤ _; omega, hnl, hnx⟩ hS (by show _ - (k + 1) < _ - k; omega)
end Go.Proofs.Ytejnpppejalhfab
/- The law LinkLong: its walk. -/
namespace Go.Proofs.Ytejnpppejalhfab
open Go.RowKit Go.Sort
set_option maxRecDepth 100000 in
set_option maxHeartbeats 8000000 in
theorem LinkLong_fn {w : World} {M : Ob} {Lb : List Ob} {vl : Value} (hM : ObV w M) (hL : Sl nF w 6 vl (Lb.map imR)) (hLo : ∀ o ∈ Lb, ObV w o) (hB : ∀ o ∈ M :: Lb, ImB o.im ∧ ImD o.im) : Fn Try.prog 6 [imgV M, vl] w (RBf (.bool true) w) := by
  have hbad := fun w (h1 : ObV w M) (h2 : Sl nF w 6 vl (Lb.map imR)) (h3 : ∀ o ∈ Lb, ObV w o) => Link_bad h1 h2 h3 hB
  have hgood := fun w (h1 : ObV w M) (h2 : Sl nF w 6 vl (Lb.map imR)) (h3 : ∀ o ∈ Lb, ObV w o) => Link_good h1 h2 h3 hB
  have hlong := fun w (h1 : ObV w M) (h2 : Sl nF w 6 vl (Lb.map imR)) (h3 : ∀ o ∈ Lb, ObV w o) => Long_fn h1 h2 h3
  obtain ⟨pl, cl, rfl⟩ := hL.len
  have hM1 := hM
  obtain ⟨I, vn, vs, vy, vr, a0⟩ := M
  replace hM1 : ImV w I vn vs vy vr := hM1
  obtain ⟨pn, cn, rfl⟩ := hM1.needs.len
  obtain ⟨ps, cs, rfl⟩ := hM1.segs.len
  obtain ⟨py, cy, rfl⟩ := hM1.syms.len
  obtain ⟨pr, cr, rfl⟩ := hM1.rels.len
  unfold imgV imC at hbad hgood hlong ⊢
  dsimp only at hbad hgood hlong ⊢
  by_cases hc : linkC ⟨I, .slice pn I.needs.length cn, .slice ps I.segs.length cs, .slice py I.syms.length cy, .slice pr I.rels.length cr, a0⟩ Lb = 0
  rotate_left
  · have hbad2 := fun w h1 h2 h3 => hbad w h1 h2 h3 hc
    clear hgood hlong hbad
    generalize linkC _ Lb = c at hbad2 hc
    have hd : (!decide (c = 0)) = true := by rw [decide_eq_false hc]; rfl
    refine fn_enter (fn := Try.f6) ⟨Try.func6, by kernel_rfl, by kernel_rfl⟩ (by exact rfl) Try.ntmps6 (by exact rfl) ?_
    have hS := St.start w
    repeat' (first | (first | ((with_reducible apply l_pure tabOk); exact rfl; exact rfl) | ((with_reducible apply l_load); exact rfl; (((with_reducible apply Loads.st tabOk); exact rfl; ((exact hS.blkR 0 rfl)); exact rfl)); exact rfl) | ((with_reducible apply l_box hS); exact rfl; exact rfl; exact rfl; intro g w' hS'; clear hS; have hS := hS'; clear hS') | ((with_reducible apply l_alloc hS tabOk); exact rfl; exact rfl; exact rfl; intro g w' hS'; clear hS; have hS := hS'; clear hS') | (((with_reducible apply l_store hS tabOk (i := 0)); exact rfl; exact rfl; exact rfl; exact rfl; exact rfl; exact rfl; exact rfl; exact rfl; ((exact (rfl : _ = [_, _, _]))); intro w' hS'; simp only [List.set] at hS'; clear hS; have hS := hS'; clear hS'))) | (first | (with_reducible apply c_seq) | (with_reducible apply c_region) | (with_reducible apply l_nil) | (with_reducible apply q_then) | (with_reducible apply c_ret) | (with_reducible apply q_then_ret)) | (((with_reducible apply c_ift); exact rfl; (assumption))) | ((with_reducible apply l_call); exact rfl; exact rfl; exact hbad2 _ (hM.now hS) (hL.now hS) (fun o ho => (hLo o ho).now hS); exact rfl; rintro _ w' ⟨rfl, hS'⟩; replace hS := hS.transA hS'; simp only [appA] at hS; clear hS') | ((with_reducible apply l_call); exact rfl; exact rfl; exact linkBegun_fn _; exact rfl; rintro _ w' ⟨rfl, hS'⟩; replace hS := hS.transA hS'; simp only [appA] at hS; clear hS'))
    (apply q_ret1); (repeat (first | exact ResL.nil | (apply ResL.tmp; exact rfl)))
    exact ⟨rfl, hS.sub (List.nil_sublist _)⟩
  · have hgood2 := fun w h1 h2 h3 => hgood w h1 h2 h3 hc
    have hlong2 := fun w h1 h2 h3 => hlong w h1 h2 h3 hc
    clear hgood hlong hbad
    generalize allP _ 8 0 (plStep ([], 1) _) = RR at hgood2 hlong2
    refine fn_enter (fn := Try.f6) ⟨Try.func6, by kernel_rfl, by kernel_rfl⟩ (by exact rfl) Try.ntmps6 (by exact rfl) ?_
    have hS := St.start w
    repeat' (first | (first | ((with_reducible apply l_pure tabOk); exact rfl; exact rfl) | ((with_reducible apply l_load); exact rfl; (((with_reducible apply Loads.st tabOk); exact rfl; ((exact hS.blkR 0 rfl)); exact rfl)); exact rfl) | ((with_reducible apply l_box hS); exact rfl; exact rfl; exact rfl; intro g w' hS'; clear hS; have hS := hS'; clear hS')) | (first | (with_reducible apply c_seq) | (with_reducible apply c_region) | (with_reducible apply l_nil) | (with_reducible apply q_then)))
    ((with_reducible apply l_call); exact rfl; exact rfl; exact hgood2 _ (hM.now hS) (hL.now hS) (fun o ho => (hLo o ho).now hS); exact rfl; rintro _ w' ⟨s, pa, ca, ps', cs', N, hs, hN, rfl, hS'⟩)
    replace hS := (hS.trans hS').perm List.perm_append_comm
    simp only [List.cons_append, List.nil_append] at hS
    clear hS'
    repeat' (first | (first | ((with_reducible apply l_pure tabOk); exact rfl; exact rfl) | ((with_reducible apply l_load); exact rfl; (((with_reducible apply Loads.st tabOk); exact rfl; ((exact hS.blkR 1 rfl)); exact rfl)); exact rfl) | ((with_reducible apply l_alloc hS tabOk); exact rfl; exact rfl; exact rfl; intro g w' hS'; clear hS; have hS := hS'; clear hS') | (((with_reducible apply l_store hS tabOk (i := 0)); exact rfl; exact rfl; exact rfl; exact rfl; exact rfl; exact rfl; exact rfl; exact rfl; ((exact (rfl : _ = [_, _, _]))); intro w' hS'; simp only [List.set] at hS'; clear hS; have hS := hS'; clear hS'))) | (first | (with_reducible apply c_seq) | (with_reducible apply c_region) | (with_reducible apply l_nil) | (with_reducible apply q_then) | (with_reducible apply c_skip)) | (((with_reducible apply c_iff); exact rfl; (exact rfl))))
    ((with_reducible apply l_call); exact rfl; exact rfl; exact hlong2 _ (hM.now hS) (hL.now hS) (fun o ho => (hLo o ho).now hS); exact rfl; rintro _ w' ⟨s', hs', hosl, ⟨rs, hrs⟩, rfl, hS'⟩)
    obtain rfl : s = s' := Option.some.inj (hs.symm.trans hs')
    replace hS := hS.transA hS'; simp only [appA] at hS; clear hS'
    repeat' (first | (((with_reducible apply l_pure tabOk); exact rfl; exact rfl)) | (first | (with_reducible apply c_seq) | (with_reducible apply c_region) | (with_reducible apply l_nil) | (with_reducible apply q_then) | (with_reducible apply c_block)))
    have hNl := (St.memSl (e := 49) (sz := 3) (v := .slice ps' N.length cs') (rows := N.map fun p => shC p.1 p.2) hS (by simp only [List.mem_cons, true_or, or_true])).bound
    have hshv : ∀ {w1 : World} {Γ : List Asr}, St nF w w1 Γ → (∀ A, A ∈ (.row 49 3 (.slice ps' N.length cs') (N.map fun p => shC p.1 p.2) :: N.map fxRow) → A ∈ Γ) → ShsV w1 N (.slice ps' N.length cs') := fun hS hm => hS.shsV (hm _ List.mem_cons_self) (fun p hp => hm _ (List.mem_cons_of_mem _ (List.mem_map.2 ⟨p, hp, rfl⟩)))
    obtain ⟨Γ1, hΓ1⟩ : ∃ Γ1, Γ1 = (Asr.row 49 3 (.slice ps' N.length cs') (N.map fun p => shC p.1 p.2) :: N.map fxRow) := ⟨_, rfl⟩
    have hent : 0 ≤ I.entry ∧ I.entry < 4096 := by
      have h1 := check_zeroL (hosl.k _ (by rw [hrs]; exact List.mem_cons_self))
      obtain ⟨se, hse, -⟩ := h1.2.2.2.entry
      exact own_small h1.1.s2 hse
    have hLl : (longS s.1).length = 4096 := by
      unfold longS
      have hl1 : (layPcs (List.replicate 4096 0) ((sgs s.1).map segPc)).length = 4096 := by
        rw [layPcs_len (fun q hq => by rw [List.length_replicate]; exact segs_range hosl q hq), List.length_replicate]
      rw [layPcs_len (fun q hq => by rw [hl1]; exact rels_range hosl q hq), hl1]
    refine c_loopK (Γ := []) (X := Nat) (fun x => [(8, .int .i64 (x : Nat))]) [5, 7] rfl (fun _ => .blk g [.slice pa (linkAr s.1).length ca, .slice ps' N.length cs', .int .i64 (16 + I.entry)] :: .blk _ [.string ⟨I.name.toArray⟩, .slice pn I.needs.length cn, .slice ps I.segs.length cs, .slice py I.syms.length cy, .slice pr I.rels.length cr, .int .i64 I.entry] :: .row 131 4 (.slice pa (linkAr s.1).length ca) ((linkAr s.1).map arC) :: .row 49 3 (.slice ps' N.length cs') (N.map fun p => shC p.1 p.2) :: N.map fxRow) (fun x => x ≤ N.length) (fun x => N.length - x) 0 (by repeat (first | exact Fr.sub_nil _ | (apply Fr.sub_cons; exact rfl))) (Nat.zero_le _) (by simpa only [List.append_nil] using hS) ?_
    clear hS
    rintro i w8 hi hS
    simp only [List.cons_append, List.append_nil] at hi hS ⊢
    by_cases hlt : i < N.length
    rotate_left
    · have hr := link_right (o := ⟨I, .slice pn I.needs.length cn, .slice ps I.segs.length cs, .slice py I.syms.length cy, .slice pr I.rels.length cr, 16⟩) hosl (by rw [hrs]; rfl)
      have hck : ∀ w1, Sl nF w1 4 (.slice pa (linkAr s.1).length ca) ((linkAr s.1).map arC) → ShsV w1 N (.slice ps' N.length cs') → Fn Try.prog 21 [.agg [.slice pa (linkAr s.1).length ca, .slice ps' N.length cs', .int .i64 (16 + I.entry)].toArray] w1 (RBf (.int .i64 0) w1) := fun w1 h1 h2 => by
        have h3 := LkCheck_fn (en := 16 + I.entry) h1 h2 (by omega) (by omega)
        rw [show shs N = linkSh (obP s.1) s.1 from hN] at h3
        rw [show checkLk (linkAr s.1) (linkSh (obP s.1) s.1) (16 + I.entry) = 0 from hr] at h3
        exact h3
      repeat' (first | (first | ((with_reducible apply l_pure tabOk); exact rfl; exact rfl) | ((with_reducible apply l_load); exact rfl; (first | ((with_reducible apply Loads.sl tabOk); exact rfl; ((exact hS.blkC 0 rfl rfl))) | ((with_reducible apply Loads.st tabOk); exact rfl; ((exact hS.blkR 0 rfl)); exact rfl)); exact rfl) | (((with_reducible apply l_yes); exact rfl; exact rfl; exact rfl; exact rfl; (exact rfl)))) | (first | (with_reducible apply c_seq) | (with_reducible apply c_region) | (with_reducible apply l_nil) | (with_reducible apply q_then) | (with_reducible apply c_exit) | (with_reducible apply q_then_exit) | (with_reducible apply q_block_exit)) | (((with_reducible apply c_ifd); exact rfl; all_goals (intro hb hp; try (exfalso; omega)))) | ((with_reducible apply l_call); exact rfl; exact rfl; exact linkBegun_fn _; exact rfl; rintro _ w' ⟨rfl, hS'⟩; replace hS := hS.transA hS'; simp only [appA] at hS; clear hS'))
      have m1 : Sl nF w' 4 (.slice pa (linkAr s.1).length ca) ((linkAr s.1).map arC) := hS.memSl (e := 131) (by simp only [List.mem_cons, true_or, or_true])
      have m2 := hshv hS (fun A hA => List.mem_cons_of_mem _ (List.mem_cons_of_mem _ (List.mem_cons_of_mem _ hA)))
      repeat' (first | (first | ((with_reducible apply l_pure tabOk); exact rfl; exact rfl) | (first | ((with_reducible apply l_yes); exact rfl; exact rfl; exact rfl; exact rfl; (exact rfl)) | ((with_reducible apply l_pick1); exact rfl; ((exact rfl)); exact rfl; exact rfl))) | (first | (with_reducible apply l_nil) | (with_reducible apply q_then) | (with_reducible apply c_ret)) | ((with_reducible apply l_call); exact rfl; exact rfl; exact hck _ m1 m2; exact rfl; rintro _ w' ⟨rfl, hS'⟩; replace hS := hS.transA hS'; simp only [appA] at hS; clear hS'))
      (apply q_ret1); (repeat (first | exact ResL.nil | (apply ResL.tmp; exact rfl)))
      exact ⟨rfl, hS.sub (List.nil_sublist _)⟩
    obtain ⟨x, hx⟩ := lt_get (l := N) (i := i) (by omega)
    have hrow := map_get (f := fun p : Sh × Value => shC p.1 p.2) hx
    have hxm : x.1 ∈ linkSh (obP s.1) s.1 := by rw [← hN]; exact List.mem_map.2 ⟨x, List.mem_of_getElem? hx, rfl⟩
    have hR := sheet_right hosl hxm
    have hfl := fill_long hosl hxm
    have hpg := right_page hR
    have hsv := fun {w1 : World} {Γ : List Asr} (hS : St nF w w1 Γ) (hm : ∀ A, A ∈ (.row 49 3 (.slice ps' N.length cs') (N.map fun p => shC p.1 p.2) :: N.map fxRow) → A ∈ Γ) => (hshv hS hm).fx x (List.mem_of_getElem? hx)
    have hx2 := hsv hS (fun A hA => List.mem_cons_of_mem _ (List.mem_cons_of_mem _ (List.mem_cons_of_mem _ hA)))
    obtain ⟨S, u⟩ := x
    dsimp only [shC] at hrow hR hfl hpg hsv hx2
    obtain ⟨pu, cu, rfl⟩ := hx2.len
    clear hx2
    have hfi : ∀ w1, ShV w1 S (.slice pu S.fixes.length cu) → Fn Try.prog 18 [.agg [.int .i64 S.page, .string ⟨S.data.toArray⟩, .slice pu S.fixes.length cu].toArray] w1 (RBf (.tuple #[.string ⟨(pageOf (longS s.1) S.page).toArray⟩, .int .i64 0]) w1) := fun w1 h => by
      have h3 := Fill_fn h
      rw [if_pos hR, if_pos hR, hfl] at h3
      exact h3
    have hpt : ∀ w1, Fn Try.prog 24 [.string ⟨(longS s.1).toArray⟩, .int .i64 (S.page * 16), .int .i64 16] w1 (RBf (.tuple #[.string ⟨(pageOf (longS s.1) S.page).toArray⟩, .int .i64 0]) w1) := fun w1 => by
      have h3 := Part_fn (longS s.1) (S.page * 16) 16 w1 (by unfold maxLen; omega)
      have hin : inB (S.page * 16) 16 (longS s.1).length = true := by
        unfold inB
        rw [decide_eq_true_eq]
        omega
      rw [if_pos hin, if_pos hin] at h3
      unfold pageOf
      rw [show S.page.toNat * 16 = (S.page * 16).toNat by omega]
      exact h3
    have q2 := neS (pageOf (longS s.1) S.page)
    obtain ⟨gs, hgs⟩ := hS.rowSome 3 rfl (by omega)
    subst hgs
    repeat' (first | (first | ((with_reducible apply l_add); exact rfl; exact rfl; omega; omega; exact rfl) | ((with_reducible apply l_mul); exact rfl; exact rfl; omega; omega; exact rfl) | ((with_reducible apply l_pure tabOk); exact rfl; exact rfl) | ((with_reducible apply l_load); exact rfl; (first | ((with_reducible apply Loads.sc tabOk); exact rfl; ((exact hS.rowC0 3 rfl (by assumption) rfl))) | ((with_reducible apply Loads.sl tabOk); exact rfl; ((exact hS.blkC 0 rfl rfl))) | ((with_reducible apply Loads.st tabOk); exact rfl; ((exact hS.rowR 3 rfl (by assumption))); exact rfl)); exact rfl) | ((with_reducible apply l_ix tabOk); exact rfl; exact rfl; exact rfl; ((exact rfl)); ((omega)); exact rfl) | (first | ((with_reducible apply l_yes); exact rfl; exact rfl; exact rfl; exact rfl; (exact rfl)) | ((with_reducible apply l_pick2); exact rfl; ((exact rfl)); exact rfl; exact rfl))) | (first | (with_reducible apply c_seq) | (with_reducible apply c_region) | (with_reducible apply l_nil) | (with_reducible apply q_then) | (with_reducible apply c_skip) | (with_reducible apply c_block) | (with_reducible apply q_block)) | (first | ((with_reducible apply c_iff); exact rfl; (assumption)) | ((with_reducible apply c_ifd); exact rfl; all_goals (intro hb hp; try (exfalso; omega)))) | ((with_reducible apply l_call); exact rfl; exact rfl; exact hfi _ (hsv hS (fun A hA => List.mem_cons_of_mem _ (List.mem_cons_of_mem _ (List.mem_cons_of_mem _ hA)))); exact rfl; rintro _ w' ⟨rfl, hS'⟩; replace hS := hS.transA hS'; simp only [appA] at hS; clear hS') | ((with_reducible apply l_call); exact rfl; exact rfl; exact hpt _; exact rfl; rintro _ w' ⟨rfl, hS'⟩; replace hS := hS.transA hS'; simp only [appA] at hS; clear hS'))
    exact q_loopK (i + 1) (by repeat (first | exact Fr.sub_nil _ | (apply Fr.sub_cons; exact rfl))) (by show i + 1 ≤ _; omega) (by simpa only [List.append_nil] using hS) (by show _ - (i + 1) < _ - i; omega)
end Go.Proofs.Ytejnpppejalhfab
/- Arguments that are slices, opened: what their elements' cells are. -/
namespace Go.Proofs.Ytejnpppejalhfab
open Go.ChangeShapes Go.WideShapes Go.ChangeAt Go.RowKit Go.Deep

/-- these rows are what these things' cells are -/
def RowsAre {α : Type} (R : α → List Value → Prop) (xs : List α) (rows : List (List Value)) : Prop := rows.length = xs.length ∧ ∀ (i : Nat) (x : α) (r : List Value), xs[i]? = some x → rows[i]? = some r → R x r

section
variable {H : Type} {enc : TypeId × Value → H} {P : Program} {w : World} {base : Nat} {spare : Nat → Bool} {held : Bool}
end
end Go.Proofs.Ytejnpppejalhfab
/- Arguments opened, with the bounds of the second form. -/
namespace Go.Proofs.Ytejnpppejalhfab
open Go.ChangeShapes Go.WideShapes Go.ChangeAt Go.RowKit Go.Deep

section bulk
variable {H : Type}
theorem bk_one (d : DataW H) : 1 ≤ Rows.uptoBulk d := by
  cases d with
  | lit l => cases l <;> simp [Rows.uptoBulk]
  | nil => simp [Rows.uptoBulk]
  | ptr d => simp [Rows.uptoBulk]
  | slice elems spare => simp [Rows.uptoBulk]
  | agg parts => simp [Rows.uptoBulk]
  | iface t d => simp [Rows.uptoBulk]
  | map entries => simp [Rows.uptoBulk]
  | held h => simp [Rows.uptoBulk]
theorem bk_mem {d : DataW H} {l : List (DataW H)} (h : d ∈ l) : Rows.uptoBulk d ≤ Rows.uptoBulkAll l := by
  induction l with
  | nil => cases h
  | cons x r ih =>
    simp only [Rows.uptoBulkAll]
    rcases List.mem_cons.1 h with rfl | e
    · omega
    · have := ih e; omega
theorem bk_len (l : List (DataW H)) : l.length ≤ Rows.uptoBulkAll l := by
  induction l with
  | nil => simp [Rows.uptoBulkAll]
  | cons x r ih => have := bk_one x; simp only [Rows.uptoBulkAll, List.length_cons]; omega
theorem bk_slice (l s : List (DataW H)) : Rows.uptoBulkAll l + 1 ≤ Rows.uptoBulk (.slice l s) := by
  simp only [Rows.uptoBulk]; omega
theorem bk_agg {d : DataW H} {l : List (DataW H)} (h : d ∈ l) : Rows.uptoBulk d + 1 ≤ Rows.uptoBulk (.agg l) := by
  have := bk_mem h
  simp only [Rows.uptoBulk]; omega
theorem bk_str (b : List UInt8) : Rows.uptoBulk (DataW.lit (H := H) (.string b)) = b.length + 1 := by simp [Rows.uptoBulk]
theorem bk_bound {l : List (DataW H)} (hk : Rows.uptoSmall H l = true) : Rows.uptoBulkAll l ≤ 1048576 := of_decide_eq_true hk
end bulk
section
variable {H : Type} {enc : TypeId × Value → H} {P : Program} {w : World} {base : Nat} {spare : Nat → Bool} {held : Bool}
/-- a slice, opened; of each element, and of what it holds: sz, bounded by the bulk -/
theorem open_slB {α : Type} [Inhabited α] {t e : TypeId} {fuel sz : Nat} {cs : List Value} {y : DataW H × List MemPlace} (ht : P.underlying t = some (.slice e)) (hsz : P.cellsOf e = sz) (hpos : 0 < sz) (R : α → List Value → Prop) (B : α → Nat) (hR1 : ∀ x r, R x r → r.all (·.oneCell') = true)
    (hR : ∀ (n : Nat) (cs' : List Value) (z : DataW H × List MemPlace), cs'.length = sz → DataW.trod enc P w base spare held n e cs' = some z → ∃ x : α, R x cs' ∧ B x ≤ Rows.uptoBulk z.1) (h : DataW.trod enc P w base spare held fuel t cs = some y) :
    ∃ v xs rows, cs = [v] ∧ Sl nF w sz v rows ∧ RowsAre R xs rows ∧ v.oneCell' = true ∧ xs.length + 1 ≤ Rows.uptoBulk y.1 ∧ ∀ x ∈ xs, B x + 1 ≤ Rows.uptoBulk y.1 := by
  rcases open_slice ht h with ⟨rfl, rfl⟩ | ⟨a, len, cap, m, n, D, Pl, rfl, hb, hl, hm, hmm, rfl, hx⟩
  · exact ⟨_, [], [], rfl, Or.inl ⟨_, _, rfl, rfl⟩, ⟨rfl, fun i x r h => by simp at h⟩, rfl, by simp [Rows.uptoBulk], by simp⟩
  · have hlm : len ≤ m := by rw [hmm]; split <;> omega
    rw [hsz] at hx
    have key : ∀ i, ∃ r x, i < len → w.cells? base (a.add (i * sz)) sz = some r ∧ R x r ∧ r.length = sz ∧ B x ≤ Rows.uptoBulk (D i) := fun i => by
      by_cases hi : i < len
      · obtain ⟨cs', h1, h2⟩ := hx i (by omega)
        have hl := (World.cells?_some h1).2.1
        obtain ⟨x, hr, hb⟩ := hR n cs' _ hl h2
        exact ⟨cs', x, fun _ => ⟨h1, hr, hl, hb⟩⟩
      · exact ⟨[], default, fun h => (hi h).elim⟩
    obtain ⟨r, hr⟩ := Classical.axiomOfChoice key
    obtain ⟨x, hr⟩ := Classical.axiomOfChoice hr
    refine ⟨_, (List.range len).map x, (List.range len).map r, rfl, ?_, ⟨by simp, fun i y r' h1 h2 => ?_⟩, rfl, ?_, fun y hy => ?_⟩
    · by_cases h0 : len = 0
      · subst h0; exact Or.inl ⟨_, _, rfl, rfl⟩
      · obtain ⟨b, off, spot⟩ := a
        have hcell : ∀ i, i < len → ∀ j, j < sz → w.cell? (((⟨b, off, spot⟩ : Addr).add (i * sz)).add j) = (r i)[j]? := fun i hi j hj => (World.cells?_some (hr i hi).1).2.2 j hj
        have h00 := hcell 0 (by omega) 0 hpos
        obtain ⟨u0, hu0⟩ : ∃ u, (r 0)[0]? = some u := ⟨(r 0)[0]'(by rw [(hr 0 (by omega)).2.2.1]; exact hpos), by simp⟩
        rw [hu0] at h00
        simp only [Nat.zero_mul, Addr.add, if_true] at h00
        have hspot : spot = none := by
          cases spot with
          | none => rfl
          | some s => simp [World.cell?] at h00; split at h00 <;> simp at h00
        subst hspot
        have hbl := World.block_lt_of_cell? w _ h00
        refine Or.inr ⟨b, off, cap, by simp, by simpa using hl, hm, ⟨hbl, id, fun r' hr' => ?_, fun r' hr' => ?_, fun k r' hk j u hj => ?_⟩⟩
        · obtain ⟨i, hi, rfl⟩ := List.mem_map.1 hr'
          exact (hr i (by simpa using hi)).2.2.1
        · obtain ⟨i, hi, rfl⟩ := List.mem_map.1 hr'
          exact hR1 _ _ (hr i (by simpa using hi)).2.1
        · have hk' : k < len := by have := lt_of_getE hk; simpa using this
          simp [hk'] at hk
          subst hk
          have hjl : j < sz := by have := lt_of_getE hj; rwa [(hr k hk').2.2.1] at this
          have := hcell k hk' j hjl
          rw [hj] at this
          rwa [Addr.add_mid, Addr.add_mid] at this
    · have hi : i < len := by have := lt_of_getE h1; simpa using this
      simp [hi] at h1 h2
      subst h1 h2
      exact (hr i hi).2.1
    · have h1 := bk_slice ((List.range len).map D) ((List.range (m - len)).map fun j => D (len + j))
      have h2 := bk_len ((List.range len).map D)
      simp only [List.length_map, List.length_range] at h2 ⊢
      omega
    · obtain ⟨i, hi, rfl⟩ := List.mem_map.1 hy
      have h1 := bk_slice ((List.range len).map D) ((List.range (m - len)).map fun j => D (len + j))
      have h2 : Rows.uptoBulk (D i) ≤ Rows.uptoBulkAll ((List.range len).map D) := bk_mem (List.mem_map.2 ⟨i, hi, rfl⟩)
      have h3 := (hr i (by simpa using hi)).2.2.2
      show B (x i) + 1 ≤ Rows.uptoBulk (DataW.slice ((List.range len).map D) ((List.range (m - len)).map fun j => D (len + j)))
      omega
/-- rows that are equal to cells -/
theorem rows_map {α : Type} {f : α → List Value} {xs : List α} {rows : List (List Value)} (h : RowsAre (fun a r => r = f a) xs rows) : rows = xs.map f := by
  obtain ⟨h1, h2⟩ := h
  apply List.ext_getElem?
  intro i
  rw [List.getElem?_map]
  by_cases hi : i < xs.length
  · rw [List.getElem?_eq_getElem hi, List.getElem?_eq_getElem (by omega)]
    simp only [Option.map_some, Option.some.injEq]
    exact h2 i _ _ (List.getElem?_eq_getElem hi) (List.getElem?_eq_getElem (by omega))
  · rw [List.getElem?_eq_none (by omega), List.getElem?_eq_none (by omega)]; rfl
end
section
variable {H : Type} {enc : TypeId × Value → H} {W : World} {base b0 : Nat} {sp : Nat → Bool} {held : Bool}
theorem uI {n : Nat} {t : TypeId} {c : Value} {o : Option (DataW H × List MemPlace)} (ht : (Try.prog).underlying t = some (.int .i64)) (h : DataW.trod enc Try.prog W base sp held n t [c] = o) (ho : o.isSome = true) : ∃ k : Int, c = .int .i64 k ∧ (Lit.int .i64 k).wf = true := by
  obtain ⟨x, hx⟩ := Option.isSome_iff_exists.1 ho
  obtain ⟨k, hk, _, hw⟩ := DataW.trod_int ht (h.trans hx)
  simp only [List.cons.injEq, and_true] at hk
  exact ⟨k, hk, hw⟩
theorem uB {n : Nat} {t : TypeId} {c : Value} {o : Option (DataW H × List MemPlace)} (ht : (Try.prog).underlying t = some .bool) (h : DataW.trod enc Try.prog W base sp held n t [c] = o) (ho : o.isSome = true) : ∃ b : Bool, c = .bool b := by
  obtain ⟨x, hx⟩ := Option.isSome_iff_exists.1 ho
  obtain ⟨b, hb, _⟩ := DataW.trod_bool ht (h.trans hx)
  simp only [List.cons.injEq, and_true] at hb
  exact ⟨b, hb⟩
theorem uS {n : Nat} {t : TypeId} {c : Value} {x : DataW H × List MemPlace} (ht : (Try.prog).underlying t = some .string) (h : DataW.trod enc Try.prog W base sp held n t [c] = some x) : ∃ l : List UInt8, c = .string ⟨l.toArray⟩ ∧ l.length ≤ maxLen ∧ l.length + 1 ≤ Rows.uptoBulk x.1 := by
  obtain ⟨s, hs, rfl, hl⟩ := DataW.trod_string ht h
  simp only [List.cons.injEq, and_true] at hs
  obtain ⟨⟨l⟩⟩ := s
  exact ⟨l, hs, by simpa [ByteArray.size] using hl, by rw [bk_str]; exact Nat.le_refl _⟩
theorem gE {α : Type} {l : List α} {i : Nat} (h : i < l.length) : ∃ x, l[i]? = some x := ⟨l[i], by simp⟩
theorem uc_int : (Try.prog).cellsOf 3 = 1 := by kernel_rfl
theorem uc_bool : (Try.prog).cellsOf 4 = 1 := by kernel_rfl
theorem uc_string : (Try.prog).cellsOf 9 = 1 := by kernel_rfl
/-- part i of a struct's reading -/
theorem bk_part {xs : List (DataW H × List MemPlace)} {i : Nat} {x : DataW H × List MemPlace} (h : xs[i]? = some x) : Rows.uptoBulk x.1 + 1 ≤ Rows.uptoBulk (DataW.agg (xs.map (·.1))) := bk_agg (List.mem_map.2 ⟨x, List.mem_of_getElem? h, rfl⟩)
end
end Go.Proofs.Ytejnpppejalhfab
/- An image that came in. -/
namespace Go.Proofs.Ytejnpppejalhfab
open Go.ChangeShapes Go.WideShapes Go.ChangeAt Go.RowKit

section
variable {H : Type} {enc : TypeId × Value → H} {W : World} {base b0 : Nat} {sp : Nat → Bool} {held : Bool}
instance : Inhabited Sg := ⟨zeroSg⟩
instance : Inhabited Sy := ⟨⟨[], 0⟩⟩
instance : Inhabited Rl := ⟨⟨0, [], 0⟩⟩
theorem uc_seg : (Try.prog).cellsOf 82 = 5 := by kernel_rfl
theorem uc_sym : (Try.prog).cellsOf 85 = 2 := by kernel_rfl
theorem uc_rel : (Try.prog).cellsOf 87 = 3 := by kernel_rfl
theorem uc_needs : (Try.prog).cellsOf 22 = 1 := by kernel_rfl
theorem uc_segs : (Try.prog).cellsOf 23 = 1 := by kernel_rfl
theorem uc_syms : (Try.prog).cellsOf 24 = 1 := by kernel_rfl
theorem uc_rels : (Try.prog).cellsOf 25 = 1 := by kernel_rfl
/-- a number that an int holds -/
def InI (n : Int) : Prop := -9223372036854775808 ≤ n ∧ n ≤ 9223372036854775807
theorem InI.of {n : Int} (h : (Lit.int .i64 n).wf = true) : InI n := by
  unfold InI
  simpa [Lit.wf, IntKind.min, IntKind.max, IntKind.signed, IntKind.bits] using h
structure SgI (s : Sg) : Prop where
  pg : InI s.pg
  n : InI s.n
set_option maxRecDepth 100000 in
theorem open_seg {n : Nat} {cs : List Value} {z : DataW H × List MemPlace} (hl : cs.length = 5) (h : DataW.trod enc Try.prog W base sp held n 82 cs = some z) : ∃ a : Sg, (cs = sgC a ∧ SgI a) ∧ a.data.length ≤ Rows.uptoBulk z.1 := by
  match cs, hl with
  | [c0, c1, c2, c3, c4], _ =>
    obtain ⟨xs, n, _, rfl, _, hl, hf⟩ := DataW.trod_struct Try.underlying82 h
    have f0 := hf 0 _ rfl
    have f1 := hf 1 _ rfl
    have f2 := hf 2 _ rfl
    have f3 := hf 3 _ rfl
    have f4 := hf 4 _ rfl
    simp only [List.getElem_toArray, List.getElem_cons_zero, List.getElem_cons_succ, uc_int, uc_bool, uc_string, List.drop_succ_cons, List.drop_zero, List.take_succ_cons, List.take_zero] at f0 f1 f2 f3 f4
    have hl : xs.length = 5 := hl
    obtain ⟨y2, e2⟩ := gE (l := xs) (i := 2) (by omega)
    rw [e2] at f2
    obtain ⟨k0, rfl, i0⟩ := uI Try.underlying3 f0 (by obtain ⟨y, e⟩ := gE (l := xs) (i := 0) (by omega); rw [e]; rfl)
    obtain ⟨k1, rfl, i1⟩ := uI Try.underlying3 f1 (by obtain ⟨y, e⟩ := gE (l := xs) (i := 1) (by omega); rw [e]; rfl)
    obtain ⟨l2, rfl, _, b2⟩ := uS Try.underlying9 f2
    obtain ⟨k3, rfl⟩ := uB Try.underlying4 f3 (by obtain ⟨y, e⟩ := gE (l := xs) (i := 3) (by omega); rw [e]; rfl)
    obtain ⟨k4, rfl⟩ := uB Try.underlying4 f4 (by obtain ⟨y, e⟩ := gE (l := xs) (i := 4) (by omega); rw [e]; rfl)
    have := bk_part e2
    exact ⟨⟨k0, k1, l2, k3, k4⟩, ⟨rfl, ⟨InI.of i0, InI.of i1⟩⟩, by show l2.length ≤ Rows.uptoBulk (DataW.agg _); omega⟩
set_option maxRecDepth 100000 in
theorem open_sym {n : Nat} {cs : List Value} {z : DataW H × List MemPlace} (hl : cs.length = 2) (h : DataW.trod enc Try.prog W base sp held n 85 cs = some z) : ∃ a : Sy, (cs = syC a ∧ InI a.at_) ∧ a.name.length ≤ Rows.uptoBulk z.1 := by
  match cs, hl with
  | [c0, c1], _ =>
    obtain ⟨xs, n, _, rfl, _, hl, hf⟩ := DataW.trod_struct Try.underlying85 h
    have f0 := hf 0 _ rfl
    have f1 := hf 1 _ rfl
    simp only [List.getElem_toArray, List.getElem_cons_zero, List.getElem_cons_succ, uc_int, uc_string, List.drop_succ_cons, List.drop_zero, List.take_succ_cons, List.take_zero] at f0 f1
    have hl : xs.length = 2 := hl
    obtain ⟨y0, e0⟩ := gE (l := xs) (i := 0) (by omega)
    rw [e0] at f0
    obtain ⟨l0, rfl, _, b0⟩ := uS Try.underlying9 f0
    obtain ⟨k1, rfl, i1⟩ := uI Try.underlying3 f1 (by obtain ⟨y, e⟩ := gE (l := xs) (i := 1) (by omega); rw [e]; rfl)
    have := bk_part e0
    exact ⟨⟨l0, k1⟩, ⟨rfl, InI.of i1⟩, by show l0.length ≤ Rows.uptoBulk (DataW.agg _); omega⟩
set_option maxRecDepth 100000 in
theorem open_rel {n : Nat} {cs : List Value} {z : DataW H × List MemPlace} (hl : cs.length = 3) (h : DataW.trod enc Try.prog W base sp held n 87 cs = some z) : ∃ a : Rl, (cs = rlC a ∧ InI a.at_ ∧ InI a.add) ∧ a.name.length ≤ Rows.uptoBulk z.1 := by
  match cs, hl with
  | [c0, c1, c2], _ =>
    obtain ⟨xs, n, _, rfl, _, hl, hf⟩ := DataW.trod_struct Try.underlying87 h
    have f0 := hf 0 _ rfl
    have f1 := hf 1 _ rfl
    have f2 := hf 2 _ rfl
    simp only [List.getElem_toArray, List.getElem_cons_zero, List.getElem_cons_succ, uc_int, uc_string, List.drop_succ_cons, List.drop_zero, List.take_succ_cons, List.take_zero] at f0 f1 f2
    have hl : xs.length = 3 := hl
    obtain ⟨y1, e1⟩ := gE (l := xs) (i := 1) (by omega)
    rw [e1] at f1
    obtain ⟨k0, rfl, i0⟩ := uI Try.underlying3 f0 (by obtain ⟨y, e⟩ := gE (l := xs) (i := 0) (by omega); rw [e]; rfl)
    obtain ⟨l1, rfl, _, b1⟩ := uS Try.underlying9 f1
    obtain ⟨k2, rfl, i2⟩ := uI Try.underlying3 f2 (by obtain ⟨y, e⟩ := gE (l := xs) (i := 2) (by omega); rw [e]; rfl)
    have := bk_part e1
    exact ⟨⟨k0, l1, k2⟩, ⟨rfl, InI.of i0, InI.of i2⟩, by show l1.length ≤ Rows.uptoBulk (DataW.agg _); omega⟩
theorem open_str1 {n : Nat} {cs : List Value} {z : DataW H × List MemPlace} (hl : cs.length = 1) (h : DataW.trod enc Try.prog W base sp held n 9 cs = some z) : ∃ l : List UInt8, cs = stC l ∧ l.length ≤ Rows.uptoBulk z.1 := by
  match cs, hl with
  | [c0], _ =>
    obtain ⟨l, rfl, _, hb⟩ := uS Try.underlying9 h
    exact ⟨l, rfl, by omega⟩
theorem rows_map2 {α : Type} {f : α → List Value} {G : α → Prop} {xs : List α} {rows : List (List Value)} (h : RowsAre (fun a r => r = f a ∧ G a) xs rows) : rows = xs.map f ∧ ∀ x ∈ xs, G x := by
  refine ⟨rows_map ⟨h.1, fun i x r h1 h2 => (h.2 i x r h1 h2).1⟩, fun x hx => ?_⟩
  obtain ⟨i, hi⟩ := List.mem_iff_getElem?.1 hx
  have hl := lt_of_getE hi
  exact (h.2 i x _ hi (List.getElem?_eq_getElem (by rw [h.1]; exact hl))).2
/-- all numbers of an image are numbers that an int holds -/
structure ImI (I : Im) : Prop where
  segs : ∀ s ∈ I.segs, SgI s
  syms : ∀ s ∈ I.syms, InI s.at_
  rels : ∀ r ∈ I.rels, InI r.at_ ∧ InI r.add
  entry : InI I.entry
structure ImBd (I : Im) (N : Nat) : Prop where
  name : I.name.length ≤ N
  needs : I.needs.length ≤ N
  segs : I.segs.length ≤ N
  syms : I.syms.length ≤ N
  rels : I.rels.length ≤ N
  need1 : ∀ s ∈ I.needs, s.length ≤ N
  seg1 : ∀ s ∈ I.segs, s.data.length ≤ N
  sym1 : ∀ s ∈ I.syms, s.name.length ≤ N
  rel1 : ∀ s ∈ I.rels, s.name.length ≤ N
set_option maxRecDepth 100000 in
theorem open_imgC {n : Nat} {cs : List Value} {z : DataW H × List MemPlace} (hl : cs.length = 6) (h : DataW.trod enc Try.prog W base sp held n 27 cs = some z) :
    ∃ I vn vs vy vr, .agg cs.toArray = imA I vn vs vy vr ∧ ImV W I vn vs vy vr ∧ ImI I ∧ ImBd I (Rows.uptoBulk z.1) ∧ cs.all (·.oneCell') = true := by
  match cs, hl with
  | [c0, c1, c2, c3, c4, c5], _ =>
    obtain ⟨xs, n, _, rfl, _, hl, hf⟩ := DataW.trod_struct Try.underlying27 h
    have f0 := hf 0 _ rfl
    have f1 := hf 1 _ rfl
    have f2 := hf 2 _ rfl
    have f3 := hf 3 _ rfl
    have f4 := hf 4 _ rfl
    have f5 := hf 5 _ rfl
    simp only [List.getElem_toArray, List.getElem_cons_zero, List.getElem_cons_succ, uc_int, uc_string, uc_needs, uc_segs, uc_syms, uc_rels, List.drop_succ_cons, List.drop_zero, List.take_succ_cons, List.take_zero] at f0 f1 f2 f3 f4 f5
    have hl : xs.length = 6 := hl
    obtain ⟨y0, e0⟩ := gE (l := xs) (i := 0) (by omega)
    obtain ⟨y1, e1⟩ := gE (l := xs) (i := 1) (by omega)
    obtain ⟨y2, e2⟩ := gE (l := xs) (i := 2) (by omega)
    obtain ⟨y3, e3⟩ := gE (l := xs) (i := 3) (by omega)
    obtain ⟨y4, e4⟩ := gE (l := xs) (i := 4) (by omega)
    obtain ⟨y5, e5⟩ := gE (l := xs) (i := 5) (by omega)
    rw [e0] at f0
    rw [e1] at f1
    rw [e2] at f2
    rw [e3] at f3
    rw [e4] at f4
    obtain ⟨l0, rfl, _, b0⟩ := uS Try.underlying9 f0
    obtain ⟨v1, x1, r1, hv1, s1, ra1, o1, n1, m1⟩ := open_slB Try.underlying22 uc_string (by decide) (fun a r => r = stC a) (fun a => a.length) (fun x r h => by subst h; rfl) (fun _ _ _ hl hz => open_str1 hl hz) f1
    obtain ⟨v2, x2, r2, hv2, s2, ra2, o2, n2, m2⟩ := open_slB Try.underlying23 uc_seg (by decide) (fun a r => r = sgC a ∧ SgI a) (fun a => a.data.length) (fun x r h => by obtain ⟨rfl, _⟩ := h; rfl) (fun _ _ _ hl hz => open_seg hl hz) f2
    obtain ⟨v3, x3, r3, hv3, s3, ra3, o3, n3, m3⟩ := open_slB Try.underlying24 uc_sym (by decide) (fun a r => r = syC a ∧ InI a.at_) (fun a => a.name.length) (fun x r h => by obtain ⟨rfl, _⟩ := h; rfl) (fun _ _ _ hl hz => open_sym hl hz) f3
    obtain ⟨v4, x4, r4, hv4, s4, ra4, o4, n4, m4⟩ := open_slB Try.underlying25 uc_rel (by decide) (fun a r => r = rlC a ∧ InI a.at_ ∧ InI a.add) (fun a => a.name.length) (fun x r h => by obtain ⟨rfl, _⟩ := h; rfl) (fun _ _ _ hl hz => open_rel hl hz) f4
    obtain ⟨k5, rfl, i5⟩ := uI Try.underlying3 f5 (by rw [e5]; rfl)
    simp only [List.cons.injEq, and_true] at hv1 hv2 hv3 hv4
    subst hv1 hv2 hv3 hv4
    obtain rfl := rows_map ra1
    obtain ⟨rfl, g2⟩ := rows_map2 ra2
    obtain ⟨rfl, g3⟩ := rows_map2 ra3
    obtain ⟨rfl, g4⟩ := rows_map2 ra4
    have p0 := bk_part e0
    have p1 := bk_part e1
    have p2 := bk_part e2
    have p3 := bk_part e3
    have p4 := bk_part e4
    refine ⟨⟨l0, x1, x2, x3, x4, k5⟩, c1, c2, c3, c4, rfl, ⟨s1, s2, s3, s4⟩, ⟨g2, g3, g4, InI.of i5⟩, ?_, ?_⟩
    · generalize Rows.uptoBulk (DataW.agg (xs.map (·.1))) = N at *
      refine ⟨by show l0.length ≤ N; omega, by show x1.length ≤ N; omega, by show x2.length ≤ N; omega, by show x3.length ≤ N; omega, by show x4.length ≤ N; omega, fun s hs => ?_, fun s hs => ?_, fun s hs => ?_, fun s hs => ?_⟩
      · have := m1 s hs; omega
      · have := m2 s hs; omega
      · have := m3 s hs; omega
      · have := m4 s hs; omega
    · simp only [List.all_cons, List.all_nil, Bool.and_true, o1, o2, o3, o4]
      rfl
theorem uc_image : (Try.prog).cellsOf 27 = 6 := by kernel_rfl
set_option maxRecDepth 100000 in
theorem open_image {v : Value} {d : DataW H} {ps : List MemPlace} (hval : Value.okWide Try.prog W .any b0 27 v) (h : DataW.Trod enc Try.prog W base sp held 27 v d ps) :
    ∃ I vn vs vy vr, v = imA I vn vs vy vr ∧ ImV W I vn vs vy vr ∧ ImI I ∧ ImBd I (Rows.uptoBulk d) := by
  obtain ⟨cs, rfl, hsz⟩ := okWide_struct Try.underlying27 hval
  obtain ⟨fuel, hf⟩ := h
  have hc : (Value.agg cs).cells = cs := rfl
  rw [hc] at hf
  have hlen : cs.toList.length = 6 := by rw [Array.length_toList, hsz, uc_image]
  obtain ⟨I, vn, vs, vy, vr, h1, h2, h3, h4, _⟩ := open_imgC hlen hf
  rw [Array.toArray_toList] at h1
  exact ⟨I, vn, vs, vy, vr, h1, h2, h3, h4⟩
end
end Go.Proofs.Ytejnpppejalhfab
/- A slice of images that came in. -/
namespace Go.Proofs.Ytejnpppejalhfab
open Go.ChangeShapes Go.WideShapes Go.ChangeAt Go.RowKit

section
variable {H : Type} {enc : TypeId × Value → H} {W : World} {base b0 : Nat} {sp : Nat → Bool} {held : Bool}
instance : Inhabited Ob := ⟨⟨⟨[], [], [], [], [], 0⟩, .slice none 0 0, .slice none 0 0, .slice none 0 0, .slice none 0 0, 0⟩⟩
theorem ImBd.mono2 {I : Im} {N M : Nat} (h : ImBd I N) (hle : N ≤ M) : ImBd I M := ⟨Nat.le_trans h.name hle, Nat.le_trans h.needs hle, Nat.le_trans h.segs hle, Nat.le_trans h.syms hle, Nat.le_trans h.rels hle, fun s hs => Nat.le_trans (h.need1 s hs) hle, fun s hs => Nat.le_trans (h.seg1 s hs) hle, fun s hs => Nat.le_trans (h.sym1 s hs) hle, fun s hs => Nat.le_trans (h.rel1 s hs) hle⟩
set_option maxRecDepth 100000 in
theorem open_images {v : Value} {d : DataW H} {ps : List MemPlace} (hval : Value.okWide Try.prog W .any b0 36 v) (h : DataW.Trod enc Try.prog W base sp held 36 v d ps) :
    ∃ L : List Ob, Sl nF W 6 v (L.map imR) ∧ (∀ o ∈ L, ObV W o ∧ ImI o.im ∧ ImBd o.im (Rows.uptoBulk d)) := by
  obtain ⟨a, len, cap, rfl⟩ := okWide_slice Try.underlying36 hval
  obtain ⟨fuel, hf⟩ := h
  obtain ⟨v, xs, rows, hv, hsl, hra, _, _, hb⟩ := open_slB (α := Ob × Nat) Try.underlying36 uc_image (by decide) (fun x r => r = imR x.1 ∧ (ObV W x.1 ∧ ImI x.1.im ∧ ImBd x.1.im x.2 ∧ r.all (·.oneCell') = true)) (fun x => x.2) (fun x r h => h.2.2.2.2) (fun n cs' z hl hz => by
    obtain ⟨I, vn, vs, vy, vr, h1, h2, h3, h4, h5⟩ := open_imgC hl hz
    have h6 : cs' = imC I vn vs vy vr := by
      have : cs'.toArray = (imC I vn vs vy vr).toArray := Value.agg.inj h1
      have := congrArg Array.toList this
      simpa using this
    exact ⟨(⟨I, vn, vs, vy, vr, 0⟩, _), ⟨h6, h2, h3, h4, h5⟩, Nat.le_refl _⟩) hf
  have hv : (Value.slice a len cap) = v := by simpa [Value.cells] using hv
  subst hv
  have hrows : rows = (xs.map (·.1)).map imR := by
    rw [List.map_map]
    apply List.ext_getElem?
    intro i
    rw [List.getElem?_map]
    by_cases hi : i < xs.length
    · rw [List.getElem?_eq_getElem hi, List.getElem?_eq_getElem (by have := hra.1; omega)]
      simp only [Option.map_some, Option.some.injEq]
      exact (hra.2 i _ _ (List.getElem?_eq_getElem hi) (List.getElem?_eq_getElem (by have := hra.1; omega))).1
    · rw [List.getElem?_eq_none (by have := hra.1; omega), List.getElem?_eq_none (by omega)]; rfl
  refine ⟨xs.map (·.1), by rwa [hrows] at hsl, fun o ho => ?_⟩
  obtain ⟨x, hx, rfl⟩ := List.mem_map.1 ho
  obtain ⟨i, hi⟩ := List.mem_iff_getElem?.1 hx
  have hl := lt_of_getE hi
  have h1 := (hra.2 i x _ hi (List.getElem?_eq_getElem (by rw [hra.1]; exact hl))).2
  have h2 := hb x hx
  exact ⟨h1.1, h1.2.1, h1.2.2.1.mono2 (by show x.2 ≤ Rows.uptoBulk d; have h3 : x.2 + 1 ≤ Rows.uptoBulk d := h2; omega)⟩
end
end Go.Proofs.Ytejnpppejalhfab
