/- Maps that the call itself made: what they hold, as a list of keys and values; over whatever program. -/
import Derived.Test.YtejnpppejalhfaaKit
import Derived.MapKept
namespace Go.Proofs.Ytejnpppejalhfaa
open Go.RowKit Go.MapKept

/-- the map r holds just these, each key once -/
structure MapAt (d : TypeDesc) (w : World) (r : Nat) (L : List (Value × Value)) : Prop where
  held : ∃ es c, w.heap[r]? = some (.map es c) ∧ es.toList.map (fun e => (e.key, e.val)) = L
  keys : ∀ p ∈ L, IsKey d p.1
  once : (L.map (·.1)).Nodup

section
variable {P : Program} {d : TypeDesc} {w w' : World} {r : Nat} {L : List (Value × Value)} {T K E : TypeId} {k v : Value}

theorem MapAt.lt (h : MapAt d w r L) : r < w.heap.size := by
  obtain ⟨es, c, hb, _⟩ := h.held
  exact (Array.getElem?_eq_some_iff.1 hb).1

theorem MapAt.keep (h : MapAt d w r L) (hk : w'.heap[r]? = w.heap[r]?) : MapAt d w' r L := by
  obtain ⟨es, c, hb, hl⟩ := h.held
  exact ⟨⟨es, c, hk.trans hb, hl⟩, h.keys, h.once⟩
theorem MapAt.below {B : Nat} (h : MapAt d w r L) (hb : Below B w w') (hr : r < B) : MapAt d w' r L := h.keep (hb.block r hr)
theorem MapAt.grown (h : MapAt d w r L) (hb : Below w.heap.size w w') : MapAt d w' r L := h.below hb h.lt

theorem MapAt.made (d : TypeDesc) (w : World) : MapAt d (w.alloc (.map #[] 0)) w.heap.size [] :=
  ⟨⟨#[], 0, (heap_alloc w _).1, rfl⟩, by simp, by simp⟩

theorem findNow_hit (hk : IsKey d k) : ∀ (l : List MapEntry) (i : Nat), (∀ e ∈ l, IsKey d e.key) → ((l.map (·.key)).Nodup) → (∃ e ∈ l, e.key = k ∧ e.val = v) → ∃ j, j < l.length ∧ Instr.findNow d k l i = some (some (i + j, v)) ∧ ((l[j]?).map (·.key)) = some k := by
  intro l i hl hn ⟨e, he, hek, hev⟩
  rcases findNow_spec hk l i hl with ⟨_, h2⟩ | ⟨j, e', h1, h2, h3⟩
  · exact (h2 e he hek).elim
  · have hj : j < l.length := (List.getElem?_eq_some_iff.1 h2).1
    have e' : e' = e := by
      obtain ⟨j2, hj2, hje⟩ := List.getElem_of_mem he
      have a1 : l[j] = e' := (List.getElem?_eq_some_iff.1 h2).2
      have : j = j2 := by
        have hnd := List.pairwise_iff_getElem.1 hn
        rcases Nat.lt_trichotomy j j2 with hlt | heq | hgt
        · exact (hnd j j2 (by simpa using hj) (by simpa using hj2) hlt (by simp [a1, hje, h3, hek])).elim
        · exact heq
        · exact (hnd j2 j (by simpa using hj2) (by simpa using hj) hgt (by simp [a1, hje, h3, hek])).elim
      subst this
      rw [← a1, hje]
    subst e'
    exact ⟨j, hj, by rw [h1, hev], by rw [h2]; simp [h3]⟩

theorem findNow_miss (hk : IsKey d k) (l : List MapEntry) (i : Nat) (hl : ∀ e ∈ l, IsKey d e.key) (hno : ∀ e ∈ l, e.key ≠ k) : Instr.findNow d k l i = some none := by
  rcases findNow_spec hk l i hl with ⟨h1, _⟩ | ⟨j, e, _, h2, h3⟩
  · exact h1
  · exact (hno e (List.mem_of_getElem? h2) h3).elim

theorem run_lookup_hit (ht : P.underlying T = some (.map K E)) (hd : P.underlying K = some d) (h : MapAt d w r L) (hk : IsKey d k) (hm : (k, v) ∈ L) (ok : Bool) :
    (Instr.lookup T (.map (some r)) k ok).run P w = .ok (if ok then .tuple #[v, .bool true] else v) w := by
  obtain ⟨es, c, hb, rfl⟩ := h.held
  obtain ⟨e, he, hee⟩ := List.mem_map.1 hm
  simp only [Prod.mk.injEq] at hee
  have hkeys : ∀ e ∈ es.toList, IsKey d e.key := fun e he => h.keys (e.key, e.val) (List.mem_map.2 ⟨e, he, rfl⟩)
  have hnd : (es.toList.map (·.key)).Nodup := by have := h.once; simpa [List.map_map, Function.comp_def] using this
  obtain ⟨j, _, hf, _⟩ := findNow_hit (v := v) hk es.toList 0 hkeys hnd ⟨e, he, hee.1, hee.2⟩
  have h1 := run_checkKey (P := P) (w := w) hd hk es.isEmpty 9999
  have h2 := run_findKey (P := P) (w := w) hd hf
  cases ok <;> simp [Instr.lookup, run_underlying ht, Go.MapKept.run_getObj_map hb, h1, h2, Result.andThen]

theorem run_lookup_miss (ht : P.underlying T = some (.map K E)) (hd : P.underlying K = some d) (h : MapAt d w r L) (hk : IsKey d k) (hm : ∀ v, (k, v) ∉ L) {z : Value} (hz : (zeroValue E).run P w = .ok z w) (ok : Bool) :
    (Instr.lookup T (.map (some r)) k ok).run P w = .ok (if ok then .tuple #[z, .bool false] else z) w := by
  obtain ⟨es, c, hb, rfl⟩ := h.held
  have hkeys : ∀ e ∈ es.toList, IsKey d e.key := fun e he => h.keys (e.key, e.val) (List.mem_map.2 ⟨e, he, rfl⟩)
  have hf := findNow_miss hk es.toList 0 hkeys (fun e he hek => hm e.val (List.mem_map.2 ⟨e, he, by rw [← hek]⟩))
  have h1 := run_checkKey (P := P) (w := w) hd hk es.isEmpty 9999
  have h2 := run_findKey (P := P) (w := w) hd hf
  cases ok <;> simp [Instr.lookup, run_underlying ht, Go.MapKept.run_getObj_map hb, h1, h2, hz, Result.andThen]

theorem run_update_new (ht : P.underlying T = some (.map K E)) (hd : P.underlying K = some d) (h : MapAt d w r L) (hk : IsKey d k) (hm : ∀ v, (k, v) ∉ L) :
    ∃ w', (Instr.mapUpdate T (.map (some r)) k v).run P w = .ok () w' ∧ MapAt d w' r (L ++ [(k, v)]) ∧ (∀ B w0, Below B w0 w → B ≤ r → Below B w0 w') ∧ w'.heap.size = w.heap.size ∧ (∀ g, g ≠ r → w'.heap[g]? = w.heap[g]?) := by
  obtain ⟨es, c, hb, rfl⟩ := h.held
  have hkeys : ∀ e ∈ es.toList, IsKey d e.key := fun e he => h.keys (e.key, e.val) (List.mem_map.2 ⟨e, he, rfl⟩)
  have hno : ∀ e ∈ es.toList, e.key ≠ k := fun e he hek => hm e.val (List.mem_map.2 ⟨e, he, by rw [← hek]⟩)
  have hf := findNow_miss hk es.toList 0 hkeys hno
  have h1 := run_checkKey (P := P) (w := w) hd hk false 9999
  have h2 := run_findKey (P := P) (w := w) hd hf
  have hset := heap_set (o' := Obj.map (es.push { key := k, val := v, born := c }) (c + 1)) hb
  refine ⟨{ w with heap := w.heap.setIfInBounds r (.map (es.push { key := k, val := v, born := c }) (c + 1)) }, ?_, ⟨⟨_, _, hset.1, by simp⟩, ?_, ?_⟩, ?_, by simp, fun g hg => hset.2 g hg⟩
  · simp [Instr.mapUpdate, run_underlying ht, Go.MapKept.run_getObj_map hb, h1, h2, Result.andThen, run_setObj_map _ hb]
  · intro p hp
    rcases List.mem_append.1 hp with hp | hp
    · exact h.keys p hp
    · have : p = (k, v) := by simpa using hp
      subst this; exact hk
  · rw [List.map_append, List.nodup_append]
    refine ⟨h.once, by simp, fun a ha b hb' => ?_⟩
    have : b = k := by simpa using hb'
    subst this
    rintro rfl
    obtain ⟨p, hp, hpk⟩ := List.mem_map.1 ha
    exact hm p.2 (by rw [← hpk]; exact hp)
  · intro B w0 hB hBr
    exact hB.trans ⟨rfl, rfl, rfl, by simp, fun g hg => hset.2 g (by omega)⟩

theorem wpList_makeMap {ops : Array Oper} {Q : Exit → Act → World → Prop} {t : Tmp} {ty : TypeId} {pos : String} {after : Array Edge} {rest : List Oper} {a : Act} (d : TypeDesc) (B : Nat) (w0 : World) (hb : Below B w0 w) (hB : B ≤ w.heap.size)
    (next : ∀ w', MapAt d w' w.heap.size [] → Below B w0 w' → w'.heap.size = w.heap.size + 1 → (∀ g, g < w.heap.size → w'.heap[g]? = w.heap[g]?) → wpList P ops Q rest (a.put (some t) (.map (some w.heap.size))) w') : wpList P ops Q (⟨some t, .makeMap T none, ty, pos, after, none⟩ :: rest) a w := by
  refine wpList_plain rfl fun Kt hK => ?_
  unfold Oper.wp
  simp only [execOp, Option.map_none, run_makeMap, Sem.run_bind, Result.andThen_ok, Sem.run_pure, Oper.upon_value]
  exact hK _ _ (next _ (MapAt.made d w) (hb.alloc hB _) (by simp) (fun g hg => Below.heap_alloc w _ g hg))

/-- A GUARD: the next operation lays an entry of a map literal -/
theorem at_insert {ops : Array Oper} {Q : Exit → Act → World → Prop} {T : TypeId} {m k v : Operand} {ty : TypeId} {pos : String} {after : Array Edge} {g : Option (Nat × Bool)} {rest : List Oper} {a : Act} {w : World}
    (h : wpList P ops Q (⟨none, .insert T m k v, ty, pos, after, g⟩ :: rest) a w) : wpList P ops Q (⟨none, .insert T m k v, ty, pos, after, g⟩ :: rest) a w := h
theorem at_insert_int (n : Int) {ops : Array Oper} {Q : Exit → Act → World → Prop} {T : TypeId} {m v : Operand} {ty : TypeId} {pos : String} {after : Array Edge} {g : Option (Nat × Bool)} {rest : List Oper} {a : Act} {w : World}
    (h : wpList P ops Q (⟨none, .insert T m (.const (.int .i64 n)) v, ty, pos, after, g⟩ :: rest) a w) : wpList P ops Q (⟨none, .insert T m (.const (.int .i64 n)) v, ty, pos, after, g⟩ :: rest) a w := h
theorem at_update {ops : Array Oper} {Q : Exit → Act → World → Prop} {T : TypeId} {m k v : Operand} {ty : TypeId} {pos : String} {after : Array Edge} {g : Option (Nat × Bool)} {rest : List Oper} {a : Act} {w : World}
    (h : wpList P ops Q (⟨none, .mapUpdate T m k v, ty, pos, after, g⟩ :: rest) a w) : wpList P ops Q (⟨none, .mapUpdate T m k v, ty, pos, after, g⟩ :: rest) a w := h

theorem wpList_insert {ops : Array Oper} {Q : Exit → Act → World → Prop} {m kx vx : Operand} {ty : TypeId} {pos : String} {after : Array Edge} {rest : List Oper} {a : Act} (ht : P.underlying T = some (.map K E)) (hd : P.underlying K = some d)
    (r : Nat) (k v : Value) (L : List (Value × Value)) (hmv : a.eval m = .map (some r)) (hkv : a.eval kx = k) (hvv : a.eval vx = v) (h : MapAt d w r L) (hk : IsKey d k) (hm : ∀ v, (k, v) ∉ L) (B : Nat) (w0 : World) (hb : Below B w0 w) (hBr : B ≤ r)
    (next : ∀ w', MapAt d w' r (L ++ [(k, v)]) → Below B w0 w' → w'.heap.size = w.heap.size → (∀ g, g ≠ r → w'.heap[g]? = w.heap[g]?) → wpList P ops Q rest a w') : wpList P ops Q (⟨none, .insert T m kx vx, ty, pos, after, none⟩ :: rest) a w := by
  obtain ⟨w', hr, h1, h2, h3, h4⟩ := run_update_new (v := v) ht hd h hk hm
  refine wpList_plain rfl fun Kt hK => ?_
  unfold Oper.wp
  simp only [execOp, hmv, hkv, hvv, Sem.run_bind, hr, Result.andThen_ok, Sem.run_pure, Oper.upon_skip]
  exact hK _ _ (next w' h1 (h2 B w0 hb hBr) h3 h4)

theorem wpList_update_new {ops : Array Oper} {Q : Exit → Act → World → Prop} {m kx vx : Operand} {ty : TypeId} {pos : String} {after : Array Edge} {rest : List Oper} {a : Act} (ht : P.underlying T = some (.map K E)) (hd : P.underlying K = some d)
    (r : Nat) (k v : Value) (L : List (Value × Value)) (hmv : a.eval m = .map (some r)) (hkv : a.eval kx = k) (hvv : a.eval vx = v) (h : MapAt d w r L) (hk : IsKey d k) (hm : ∀ v, (k, v) ∉ L) (B : Nat) (w0 : World) (hb : Below B w0 w) (hBr : B ≤ r)
    (next : ∀ w', MapAt d w' r (L ++ [(k, v)]) → Below B w0 w' → w'.heap.size = w.heap.size → (∀ g, g ≠ r → w'.heap[g]? = w.heap[g]?) → wpList P ops Q rest a w') : wpList P ops Q (⟨none, .mapUpdate T m kx vx, ty, pos, after, none⟩ :: rest) a w := by
  obtain ⟨w', hr, h1, h2, h3, h4⟩ := run_update_new (v := v) ht hd h hk hm
  refine wpList_plain rfl fun Kt hK => ?_
  unfold Oper.wp
  simp only [execOp, hmv, hkv, hvv, Sem.run_bind, hr, Result.andThen_ok, Sem.run_pure, Oper.upon_skip]
  exact hK _ _ (next w' h1 (h2 B w0 hb hBr) h3 h4)
end
end Go.Proofs.Ytejnpppejalhfaa
