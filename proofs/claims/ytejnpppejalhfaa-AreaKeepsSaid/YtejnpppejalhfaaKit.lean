/- Small laws over whatever program: conversions, worlds, frames. -/
import Derived.Handy
import Derived.Laws.BytesArg
import Derived.Laws.IdiomStrings
import Derived.Deep.Draws
import Derived.Laws.CopyOwn
namespace Go.Proofs.Ytejnpppejalhfaa
open Go.RowKit

/-- A GUARD: the next operation writes slot d. -/
theorem at_op (d : Tmp) {P : Program} {ops : Array Oper} {Q : Exit → Act → World → Prop} {op : Op} {ty : TypeId} {pos : String} {after : Array Edge} {g : Option (Nat × Bool)} {rest : List Oper} {a : Act} {w : World}
    (h : wpList P ops Q (⟨some d, op, ty, pos, after, g⟩ :: rest) a w) : wpList P ops Q (⟨some d, op, ty, pos, after, g⟩ :: rest) a w := h

theorem run_str_of_one {P : Program} (src e dst : TypeId) (hs : P.underlying src = some (.slice e)) (he : P.underlying e = some (.int .u8)) (hd : P.underlying dst = some .string) (x : Int) (W : World) (g : Nat) (hg : g = W.heap.size) :
    (convert src dst (.slice (some ⟨g, 0, none⟩) 1 1)).run P (W.alloc (.cells #[.int .u8 x] e)) = .ok (.string ⟨[UInt8.ofNat x.toNat].toArray⟩) (W.alloc (.cells #[.int .u8 x] e)) := by
  subst hg
  have h := run_convert_bytes_arg (P := P) (W.alloc (.cells #[.int .u8 x] e)) src e hs he W.heap.size 0 1 1 [x] rfl (fun i hi => by
    obtain rfl : i = 0 := by omega
    exact World.cell?_alloc_mark W #[.int .u8 x] e (0, 0) 0) dst hd
  exact h

theorem ba_append (a b : List UInt8) : (⟨a.toArray⟩ : ByteArray) ++ ⟨b.toArray⟩ = ⟨(a ++ b).toArray⟩ := by
  apply ByteArray.ext
  simp

theorem ba_extract (s : List UInt8) (a b : Nat) : (⟨s.toArray⟩ : ByteArray).extract a b = ⟨((s.drop a).take (b - a)).toArray⟩ := by
  apply ByteArray.ext
  simp [ByteArray.data_extract]

attribute [go_sem] ba_extract ba_append
@[go_sem] theorem take_drop_end (l : List UInt8) (a : Nat) : (l.drop a).take (l.length - a) = l.drop a := List.take_of_length_le (by simp)

theorem drewN_any {w : World} {n : Nat} : ∃ k, w.drewN n = w.drewN k := ⟨n, rfl⟩
theorem drewN_zero_any {w : World} : ∃ k, w = w.drewN k := ⟨0, rfl⟩
theorem below_drewN {B : Nat} {a w : World} (h : Below B a w) (n : Nat) : Below B a (w.drewN n) := ⟨h.os, h.tape, h.output, h.size, h.block⟩

theorem hid {p : Prop} (h : p) : Hid p := h

/-- it returns v, and nothing that was there has turned -/
def RB (v : Value) (w : World) (e : Ending) (w' : World) : Prop := e = .returned v ∧ Below w.heap.size w w'
theorem rb_same {P : Program} {f : FuncId} {args : Array Value} {w : World} {v : Value} (h : Calls P f args w fun e w' => e = .returned v ∧ w = w') : Calls P f args w (RB v w) :=
  h.mono fun _ _ ⟨h1, h2⟩ => ⟨h1, h2 ▸ Below.refl _ _⟩
theorem rb_below {P : Program} {f : FuncId} {args : Array Value} {w : World} {v : Value} (h : Calls P f args w fun e w' => e = .returned v ∧ Below w.heap.size w w') : Calls P f args w (RB v w) := h
theorem rb_drew {P : Program} {f : FuncId} {args : Array Value} {w : World} {v : Value} (h : Calls P f args w fun e w' => e = .returned v ∧ ∃ n, w' = w.drewN n) : Calls P f args w (RB v w) :=
  h.mono fun _ _ ⟨h1, n, h2⟩ => ⟨h1, h2 ▸ below_drewN (Below.refl _ _) n⟩

/-- what the walk takes of a Below: all old cells and marks read as before -/
theorem bcell {W w1 : World} (hb : Below W.heap.size W w1) :
    (∀ p : Addr, p.block < W.heap.size → w1.cell? p = W.cell? p) ∧ (∀ p : Addr, p.block < W.heap.size → w1.frozen? p = W.frozen? p) :=
  ⟨fun _ h => hb.cell h, fun _ h => hb.frozen h⟩

theorem bt {a b c : World} (h : Below a.heap.size a b) (k : Below b.heap.size b c) : Below a.heap.size a c := h.trans (k.mono h.size)

theorem ret_bool {a b : Bool} (h : a = b) : Ending.returned (.bool a) = .returned (.bool b) := by rw [h]
theorem ret_int {k : IntKind} {a b : Int} (h : a = b) : Ending.returned (.int k a) = .returned (.int k b) := by rw [h]
theorem ret_str {a b : List UInt8} (h : a = b) : Ending.returned (.string ⟨a.toArray⟩) = .returned (.string ⟨b.toArray⟩) := by rw [h]
theorem val_int {k : IntKind} {a b : Int} (h : a = b) : Value.int k a = .int k b := by rw [h]
theorem val_str {a b : List UInt8} (h : a = b) : Value.string ⟨a.toArray⟩ = .string ⟨b.toArray⟩ := by rw [h]

/-- block g begins with the bytes l, none of them frozen -/
def BytesAt (w : World) (g : Nat) (l : List UInt8) : Prop := ∀ j (hj : j < l.length), w.cell? ⟨g, j, none⟩ = some (.int .u8 (l[j].toNat : Int)) ∧ w.frozen? ⟨g, j, none⟩ = false

theorem BytesAt.below {B : Nat} {w w' : World} {g : Nat} {l : List UInt8} (h : BytesAt w g l) (hb : Below B w w') (hg : g < B) : BytesAt w' g l :=
  fun j hj => ⟨(hb.cell (p := ⟨g, j, none⟩) hg).trans (h j hj).1, (hb.frozen (p := ⟨g, j, none⟩) hg).trans (h j hj).2⟩

theorem bytesAt_row (w : World) (l : List UInt8) (cap : Nat) (e : TypeId) :
    BytesAt (w.drew.alloc (.cells (bytesRow ⟨l.toArray⟩ cap) e ((bytesRow ⟨l.toArray⟩ cap).size, (bytesRow ⟨l.toArray⟩ cap).size + 1))) w.heap.size l := by
  intro j hj
  refine ⟨?_, ?_⟩
  · have h := World.cell?_alloc_mark w.drew (bytesRow ⟨l.toArray⟩ cap) e ((bytesRow ⟨l.toArray⟩ cap).size, (bytesRow ⟨l.toArray⟩ cap).size + 1) j
    rw [bytesRow_at _ _ _ (by simpa using hj)] at h
    simpa using h
  · have h := World.frozen?_alloc_mark w.drew (bytesRow ⟨l.toArray⟩ cap) e (bytesRow ⟨l.toArray⟩ cap).size ((bytesRow ⟨l.toArray⟩ cap).size + 1) j
    refine h.trans ?_
    have : l.length ≤ (bytesRow ⟨l.toArray⟩ cap).size := by simp [bytesRow]
    simp; omega

/-- '[]byte(s)' -/
theorem wpList_conv_bytes {P : Program} {w : World} {ops : Array Oper} {rest : List Oper} {o : Oper} {a : Act} {Q : Exit → Act → World → Prop} (hgd : o.guard = none) (x : Operand) (src dst e : TypeId)
    (ho : o.op = .convert src dst x) (hs : P.underlying src = some .string) (hd : P.underlying dst = some (.slice e)) (he : P.underlying e = some (.int .u8)) (l : List UInt8) (hx : a.eval x = .string ⟨l.toArray⟩)
    (B : Nat) (w0 : World) (hb : Below B w0 w) (hB : B ≤ w.heap.size)
    (h : ∀ cap w', l.length ≤ cap → Below B w0 w' → BytesAt w' w.heap.size l → w.heap.size < w'.heap.size → wpList P ops Q rest (a.put o.dst (.slice (some ⟨w.heap.size, 0, none⟩) l.length cap)) w') :
    wpList P ops Q (o :: rest) a w := by
  refine wpList_plain hgd fun K hK => ?_
  have hrun := run_bytes_of_string (P := P) w src dst e ⟨l.toArray⟩ hs hd he
  unfold Oper.wp
  simp only [execOp, ho, hx, Sem.run_bind, hrun, Result.andThen_ok, Sem.run_pure, Oper.upon_value]
  refine hK _ _ ?_
  exact h _ _ (grownCap_ge w _ 0 e) ((hb.drew).alloc hB _) (bytesAt_row w l _ e) (by show w.heap.size < (World.alloc _ _).heap.size; simp)

theorem below_setCells {B : Nat} {w0 w : World} (hb : Below B w0 w) {b : Nat} (hB : B ≤ b) (o : Nat) (vs : List Value) : Below B w0 (w.setCells b o vs) := by
  induction vs generalizing w o with
  | nil => exact hb
  | cons v r ih => exact ih (hb.setCell (p := ⟨b, o, none⟩) hB v) _
theorem size_setCells (w : World) (b o : Nat) (vs : List Value) : (w.setCells b o vs).heap.size = w.heap.size := by
  induction vs generalizing w o with
  | nil => rfl
  | cons v r ih => exact (ih _ _).trans (by simp [World.setCell])

/-- 'copy(b[off:], t)', t a string, b a row of bytes of the call's own -/
theorem wpList_copy_str {P : Program} {w : World} {ops : Array Oper} {rest : List Oper} {o : Oper} {a : Act} {Q : Exit → Act → World → Prop} (hgd : o.guard = none) (d s : Operand) (dT sT : TypeId)
    (ho : o.op = .call { callee := .builtin .copy, args := #[d, s], argTypes := #[dT, sT] }) (elem : TypeId) (hu : P.underlying dT = some (.slice elem)) (hsz : (P.info? elem).map (·.size) = some 1)
    (dp : Option Addr) (dLen dCap : Nat) (hd : a.eval d = .slice dp dLen dCap) (l : List UInt8) (hs : a.eval s = .string ⟨l.toArray⟩)
    (g off : Nat) (old : List UInt8) (hold : BytesAt w g old) (hfit : off + (l.take dLen).length ≤ old.length) (hdp : 0 < (l.take dLen).length → dp = some ⟨g, off, none⟩)
    (B : Nat) (w0 : World) (hb : Below B w0 w) (hBg : B ≤ g)
    (h : ∀ w', Below B w0 w' → w'.heap.size = w.heap.size → BytesAt w' g (splice old off (l.take dLen)) → wpList P ops Q rest (a.put o.dst (goInt (l.take dLen).length)) w') :
    wpList P ops Q (o :: rest) a w := by
  refine wpList_plain hgd fun K hK => ?_
  obtain ⟨m, hm⟩ : ∃ m, m = l.take dLen := ⟨_, rfl⟩
  rw [← hm] at hfit hdp h
  have hml : m.length = Nat.min l.length dLen := by rw [hm, List.length_take, Nat.min_comm]
  have htk : l.take dLen = l.take (Nat.min l.length dLen) := by rw [List.take_eq_take_iff]; show min dLen l.length = min (min l.length dLen) l.length; omega
  have hcs : ((ByteArray.extract ⟨l.toArray⟩ 0 (Nat.min l.length dLen)).data.map fun b => Value.int .u8 (b.toNat : Int)).toList = m.map fun b => Value.int .u8 (b.toNat : Int) := by
    rw [ba_extract, hm, show l.take dLen = l.take (Nat.min l.length dLen) from htk]
    simp
  cases hq : P.info? elem with
  | none => simp [hq] at hsz
  | some i =>
    have hi : i.size = 1 := by simpa [hq] using hsz
    have hrun : ∃ w', (Builtin.copy_ #[dT, sT] o.type #[.slice dp dLen dCap, .string ⟨l.toArray⟩]).run P w = .ok (goInt m.length) w' ∧ Below B w0 w' ∧ w'.heap.size = w.heap.size ∧ BytesAt w' g (splice old off m) := by
      by_cases h0 : m = []
      · refine ⟨w, ?_, hb, rfl, ?_⟩
        · rw [h0] at hcs hml
          simp only [List.length_nil] at hml
          cases dp with
          | none => simp [Builtin.copy_, run_underlying hu, Builtin.lenOf, Builtin.firstCells, sizeOf, typeInfo, hq, ByteArray.size, h0, ← hml]
          | some ad =>
            simp [Builtin.copy_, run_underlying hu, Builtin.lenOf, Builtin.firstCells, sizeOf, typeInfo, hq, ByteArray.size, h0, ← hml, storeCells]
        · have : splice old off m = old := by simp [splice, h0]
          rw [this]; exact hold
      · have hpos : 0 < m.length := List.length_pos_iff.2 h0
        obtain rfl := hdp hpos
        have hin : ∀ j, j < (m.map fun b => Value.int .u8 (b.toNat : Int)).length → (w.cell? ⟨g, off + j, none⟩).isSome = true := fun j hj => by
          rw [(hold (off + j) (by simp at hj; omega)).1]; rfl
        have hst := run_storeCells_cells (P := P) g off (m.map fun b => Value.int .u8 (b.toNat : Int)) 0 w
          (by simpa using hin) (fun j hj => by simpa using (hold (off + j) (by simp at hj; omega)).2) (by simp [Value.oneCell'])
        refine ⟨w.setCells g off (m.map fun b => Value.int .u8 (b.toNat : Int)), ?_, ?_, ?_, ?_⟩
        · simp [Builtin.copy_, run_underlying hu, Builtin.lenOf, Builtin.firstCells, sizeOf, typeInfo, hq, ByteArray.size]
          have e : List.take (Nat.min l.length dLen) (l.map fun b => Value.int .u8 (b.toNat : Int)) = m.map fun b => Value.int .u8 (b.toNat : Int) := by rw [← List.map_take, hm, htk]
          rw [e, ← hml, hst]; rfl
        · exact below_setCells hb hBg _ _
        · exact size_setCells _ _ _ _
        · intro j hj
          have hlen : (splice old off m).length = old.length := length_splice _ _ _ hfit
          rw [hlen] at hj
          have hz := (hold j hj).2
          refine ⟨?_, by rw [World.frozen?_setCells]; exact hz⟩
          by_cases h1 : off ≤ j ∧ j < off + m.length
          · have := World.cell?_setCells_in g (m.map fun b => Value.int .u8 (b.toNat : Int)) off w hin (j - off) (by simp; omega)
            rw [show off + (j - off) = j from by omega] at this
            rw [this]
            have e : (splice old off m)[j]? = some m[j - off] := by
              unfold splice
              rw [List.getElem?_append_right (by simp; omega), List.getElem?_append_left (by simp; omega)]
              simp [show min off old.length = off from by omega]
            obtain ⟨_, e⟩ := List.getElem?_eq_some_iff.1 e
            simp [e]
          · rw [World.cell?_setCells_out g _ off w ⟨g, j, none⟩ (fun _ _ => by simp; omega), (hold j hj).1]
            have e : (splice old off m)[j]? = some old[j] := by
              unfold splice
              by_cases h2 : j < off
              · rw [List.getElem?_append_left (by simp; omega)]
                simp [h2]
              · rw [List.getElem?_append_right (by simp; omega), List.getElem?_append_right (by simp; omega)]
                simp [show min off old.length = off from by omega, show off + m.length + (j - off - m.length) = j from by omega]
            obtain ⟨_, e⟩ := List.getElem?_eq_some_iff.1 e
            rw [e]
    obtain ⟨w', hr, h1, h2, h3⟩ := hrun
    unfold Oper.wp
    simp [execOp, ho, resolve, invoke, builtin, hd, hs, hr, Result.andThen]
    exact hK _ _ (h w' h1 h2 h3)

/-- 'string(b)', b a row of bytes of the call's own -/
theorem wpList_conv_str {P : Program} {w : World} {ops : Array Oper} {rest : List Oper} {o : Oper} {a : Act} {Q : Exit → Act → World → Prop} (hgd : o.guard = none) (x : Operand) (src dst e : TypeId)
    (ho : o.op = .convert src dst x) (hs : P.underlying src = some (.slice e)) (he : P.underlying e = some (.int .u8)) (hd : P.underlying dst = some .string) (l : List UInt8) (g n cap : Nat) (hx : a.eval x = .slice (some ⟨g, 0, none⟩) n cap)
    (hn : l.length = n) (hl : BytesAt w g l) (h : wpList P ops Q rest (a.put o.dst (.string ⟨l.toArray⟩)) w) : wpList P ops Q (o :: rest) a w := by
  refine wpList_plain hgd fun K hK => ?_
  subst hn
  have hrun := run_convert_bytes_back (P := P) w src dst e ⟨g, 0, none⟩ cap l hs he hd (fun j hj => by
    rw [show (⟨g, 0, none⟩ : Addr).add j = ⟨g, j, none⟩ from by unfold Addr.add; split <;> simp_all]
    exact (hl j hj).1)
  unfold Oper.wp
  simp only [execOp, ho, hx, Sem.run_bind, hrun, Result.andThen_ok, Sem.run_pure, Oper.upon_value]
  exact hK _ _ h

theorem BytesAt.set {w : World} {g : Nat} {l : List UInt8} (h : BytesAt w g l) (k : Nat) (hk : k < l.length) (b : UInt8) (v : Value) (hv : v = .int .u8 (b.toNat : Int)) : BytesAt (w.setCell ⟨g, k, none⟩ v) g (l.set k b) := by
  intro j hj
  rw [List.length_set] at hj
  subst hv
  refine ⟨?_, by rw [World.frozen?_setCell]; exact (h j hj).2⟩
  by_cases e : j = k
  · subst e
    rw [World.cell?_setCell_same w _ _ (h j (by simpa using hj)).1]
    simp
  · rw [World.cell?_setCell_other w _ _ _ (fun x => by injection x with _ x2 _; omega), (h j (by simpa using hj)).1]
    simp [show ¬ k = j from fun x => e x.symm]

/-- 'make([]byte, n)' -/
theorem wpList_make_bytes {P : Program} {w : World} {ops : Array Oper} {rest : List Oper} {o : Oper} {a : Act} {Q : Exit → Act → World → Prop} (hgd : o.guard = none) (x y : Operand) (t e : TypeId)
    (ho : o.op = .makeSlice t x y) (ht : P.underlying t = some (.slice e)) (he : (P.info? e).map (fun i => (i.zero, i.size, i.bytes)) = some (some (.int .u8 0), 1, 1)) (n : Nat) (hn : n ≤ 140737488355328)
    (hx : a.eval x = .int .i64 n) (hy : a.eval y = .int .i64 n)
    (B : Nat) (w0 : World) (hb : Below B w0 w) (hB : B ≤ w.heap.size)
    (h : ∀ w', Below B w0 w' → BytesAt w' w.heap.size (List.replicate n 0) → w.heap.size < w'.heap.size → wpList P ops Q rest (a.put o.dst (.slice (some ⟨w.heap.size, 0, none⟩) n n)) w') :
    wpList P ops Q (o :: rest) a w := by
  refine wpList_plain hgd fun K hK => ?_
  cases hq : P.info? e with
  | none => simp [hq] at he
  | some i =>
    simp [hq] at he
    obtain ⟨hz, hs, hb1⟩ := he
    have hrun := run_make (P := P) w t e i (.int .u8 0) ht hq hz .i64 .i64 n n (by omega) (by omega) (by rw [hb1]; omega) (by omega)
    simp only [Int.toNat_natCast] at hrun
    unfold Oper.wp
    simp only [execOp, ho, hx, hy, Sem.run_bind, hrun, Result.andThen_ok, Sem.run_pure, Oper.upon_value]
    refine hK _ _ (h _ (hb.alloc hB _) ?_ (by simp))
    intro j hj
    simp only [List.length_replicate] at hj
    refine ⟨?_, ?_⟩
    · rw [World.cell?_alloc_mark, ← Array.getElem?_toList, show Value.cells (.int .u8 0) = #[.int .u8 0] from rfl, toList_madeCells_one, hs]
      simp [hj]
    · rw [World.frozen?_alloc_mark]; simp

end Go.Proofs.Ytejnpppejalhfaa
