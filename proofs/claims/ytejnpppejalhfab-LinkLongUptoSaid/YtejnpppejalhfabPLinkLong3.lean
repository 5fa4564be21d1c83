/- Texts that the proof stands on, one behind the other: Sc20, Tab, Choose, Im1, Lk4, Lk5, PlLnk4, Lk6, PlLnk, Hold, PlArea, PlArea2, Ar1, Ar2, Ar3, Ar4, Ar7, Ar8, Ar9, Ar10, Ar17, As1, As2, Ar19. -/
import Derived.Test.YtejnpppejalhfabProg
import Derived.Lib.QuietBelow
import Derived.Handy
import Derived.BigQuiet
import Derived.Deep.QuietTactic
import Derived.WalkSpells
import Derived.Deep.DeepAppendWide
import Derived.Laws.OwnMore
import Derived.Laws.Cover2
import Derived.Maps.AppendAt
import Derived.Test.YtejnpppejalhfabPLinkLong2
/- THE STEP CALCULUS, part 20: maps of one's own, whatever their keys and values. -/
namespace Go.Proofs.Ytejnpppejalhfab
open Go.RowKit Go.Sort Go.MapKept

structure MapG (D : TypeDesc) (es : Array MapEntry) (L : List (Value × Value)) : Prop where
  held : es.toList.map (fun e => (e.key, e.val)) = L
  keys : ∀ p ∈ L, IsKey D p.1
  once : (L.map (·.1)).Nodup
theorem MapG.nil (D : TypeDesc) : MapG D #[] [] := ⟨rfl, by simp, by simp⟩
theorem MapG.at_ {D : TypeDesc} {w : World} {r c : Nat} {es : Array MapEntry} {L : List (Value × Value)} (h : MapG D es L) (hr : w.heap[r]? = some (.map es c)) : MapAt D w r L := ⟨⟨es, c, hr, h.held⟩, h.keys, h.once⟩
theorem MapG.size {D : TypeDesc} {es : Array MapEntry} {L : List (Value × Value)} (h : MapG D es L) : es.size = L.length := by
  have := congrArg List.length h.held
  simpa using this
section
variable {P : Program} {n : Nat} {ds : List Deferred} {E : Fr} {w : World} {Q : Exit → Act → World → Prop} {ops : Array Oper} {rest : List Oper} {d : Nat} {dst : Option Nat} {ty : TypeId} {pos : String} {after : Array Edge} {F : Nat → Prop} {w0 : World} {Γ : List Asr} {T : Tab} {D : TypeDesc}
theorem g_look (hS : St F w0 w Γ) {t Kt Et : TypeId} {m x : Operand} {r c i : Nat} {es : Array MapEntry} {L : List (Value × Value)} {k v : Value} (ht : P.underlying t = some (.map Kt Et)) (hK : P.underlying Kt = some D) (hm : E.ev m = some (.map (some r))) (hx : E.ev x = some k) (hi : Γ[i]? = some (.obj r (.map es c))) (hL : MapG D es L) (hk : IsKey D k) (hv : (k, v) ∈ L) (ok : Bool) :
    Gets P ⟨dst, .lookup t m x ok, ty, pos, after, none⟩ n ds E w (fun v' w' => v' = (if ok then .tuple #[v, .bool true] else v) ∧ w' = w) := Gets.of_at fun a ha => by
  have hat := hL.at_ (hS.at_ hi).1
  have hrun := run_lookup_hit ht hK hat hk hv ok
  simp only [execOp, ha.ev hm, ha.ev hx, Sem.run_bind, hrun, Result.andThen_ok, Sem.run_pure]
theorem g_lookN (hS : St F w0 w Γ) {t Kt Et : TypeId} {m x : Operand} {r c i : Nat} {es : Array MapEntry} {L : List (Value × Value)} {k z : Value} (ht : P.underlying t = some (.map Kt Et)) (hK : P.underlying Kt = some D) (hz : (P.info? Et).bind (·.zero) = some z) (hm : E.ev m = some (.map (some r))) (hx : E.ev x = some k) (hi : Γ[i]? = some (.obj r (.map es c))) (hL : MapG D es L) (hk : IsKey D k) (hv : ∀ v, (k, v) ∉ L) (ok : Bool) :
    Gets P ⟨dst, .lookup t m x ok, ty, pos, after, none⟩ n ds E w (fun v' w' => v' = (if ok then .tuple #[z, .bool false] else z) ∧ w' = w) := Gets.of_at fun a ha => by
  have hat := hL.at_ (hS.at_ hi).1
  obtain ⟨zi, hzi, hz2⟩ := Option.bind_eq_some_iff.1 hz
  have hz' : (zeroValue Et).run P w = .ok z w := by simp [zeroValue, typeInfo, hzi, hz2]
  have hrun := run_lookup_miss ht hK hat hk hv hz' ok
  simp only [execOp, ha.ev hm, ha.ev hx, Sem.run_bind, hrun, Result.andThen_ok, Sem.run_pure]
theorem updG_old {t Kt Et : TypeId} {r c : Nat} {es : Array MapEntry} {L : List (Value × Value)} {k u v : Value} (ht : P.underlying t = some (.map Kt Et)) (hK : P.underlying Kt = some D) (hr : w.heap[r]? = some (.map es c)) (hL : MapG D es L) (hk : IsKey D k) (hm : (k, u) ∈ L) :
    ∃ es' j, (Instr.mapUpdate t (.map (some r)) k v).run P w = .ok () { w with heap := w.heap.setIfInBounds r (.map es' c) } ∧ (∃ u', L[j]? = some (k, u')) ∧ MapG D es' (L.set j (k, v)) := by
  have hat := hL.at_ hr
  have hkeys : ∀ e ∈ es.toList, IsKey D e.key := fun e he => hat.keys (e.key, e.val) (by rw [← hL.held]; exact List.mem_map.2 ⟨e, he, rfl⟩)
  have hnd : (es.toList.map (·.key)).Nodup := by
    have := hat.once
    rw [← hL.held, List.map_map] at this
    exact this
  have hmem : ∃ e ∈ es.toList, e.key = k ∧ e.val = u := by
    have : ((k, u) : Value × Value) ∈ es.toList.map (fun e => (e.key, e.val)) := by rw [hL.held]; exact hm
    obtain ⟨e, he, h2⟩ := List.mem_map.1 this
    simp only [Prod.mk.injEq] at h2
    exact ⟨e, he, h2⟩
  obtain ⟨j, hj, hf, hkj⟩ := findNow_hit (v := u) hk es.toList 0 hkeys hnd hmem
  rw [Nat.zero_add] at hf
  have h1 := run_checkKey (P := P) (w := w) hK hk false 9999
  have h2 := run_findKey (P := P) (w := w) hK hf
  have hjs : j < es.size := by simpa using hj
  have hkj' : (es[j]?.map (·.key)).getD k = k := by
    rw [show es[j]? = es.toList[j]? by simp, hkj]; rfl
  have h3 := run_keyThatStays (P := P) (w := w) hk
  have hLj : ∃ u', L[j]? = some (k, u') := by
    have h4 := congrArg (fun l => l[j]?) hL.held
    simp only [List.getElem?_map] at h4
    have h5 : es.toList[j]? = some es[j] := by simp [hjs]
    rw [h5] at h4 hkj
    simp only [Option.map_some, Option.some.injEq] at h4 hkj
    exact ⟨es[j].val, by rw [← h4, hkj]⟩
  refine ⟨es.modify j fun e => { e with key := k, val := v }, j, ?_, hLj, ⟨?_, ?_, ?_⟩⟩
  · simp only [Instr.mapUpdate, run_underlying ht, Go.MapKept.run_getObj_map hr, h1, h2, Result.andThen_ok, Sem.run_bind, hkj', h3, run_setObj_map _ hr]
  · refine List.ext_getElem? fun m => ?_
    rw [← hL.held, Array.toList_modify, List.getElem?_map, List.getElem?_modify, List.getElem?_set, List.getElem?_map, List.length_map]
    by_cases e : j = m
    · subst e
      have : es.toList[j]? = some es[j] := by simp [hjs]
      rw [this, if_pos rfl, if_pos hj]
      simp
    · simp [e]
  · intro p hp
    rcases List.mem_or_eq_of_mem_set hp with h | h
    · exact hL.keys p h
    · rw [h]; exact hk
  · obtain ⟨u', hq⟩ := hLj
    rw [List.map_set]
    have : (L.map (·.1)).set j k = L.map (·.1) := by
      refine List.ext_getElem? fun m => ?_
      rw [List.getElem?_set]
      split
      · rename_i e
        subst e
        simp only [List.length_map, List.getElem?_map, hq, Option.map_some]
        rw [if_pos (lt_of_getE hq)]
      · rfl
    rw [show (k, v).1 = k from rfl, this]
    exact hL.once
theorem updG_new {t Kt Et : TypeId} {r c : Nat} {es : Array MapEntry} {L : List (Value × Value)} {k v : Value} (ht : P.underlying t = some (.map Kt Et)) (hK : P.underlying Kt = some D) (hr : w.heap[r]? = some (.map es c)) (hL : MapG D es L) (hk : IsKey D k) (hm : ∀ v, (k, v) ∉ L) :
    ∃ es' c', (Instr.mapUpdate t (.map (some r)) k v).run P w = .ok () { w with heap := w.heap.setIfInBounds r (.map es' c') } ∧ MapG D es' (L ++ [(k, v)]) := by
  have hat := hL.at_ hr
  have hkeys : ∀ e ∈ es.toList, IsKey D e.key := fun e he => hat.keys (e.key, e.val) (by rw [← hL.held]; exact List.mem_map.2 ⟨e, he, rfl⟩)
  have hno : ∀ e ∈ es.toList, e.key ≠ k := fun e he hek => by
    have : (e.key, e.val) ∈ L := by rw [← hL.held]; exact List.mem_map.2 ⟨e, he, rfl⟩
    exact hm e.val (by rw [← hek]; exact this)
  have hf := findNow_miss hk es.toList 0 hkeys hno
  have h1 := run_checkKey (P := P) (w := w) hK hk false 9999
  have h2 := run_findKey (P := P) (w := w) hK hf
  refine ⟨es.push { key := k, val := v, born := c }, c + 1, ?_, ⟨by simp [hL.held], fun p hp => ?_, ?_⟩⟩
  · simp only [Instr.mapUpdate, run_underlying ht, Go.MapKept.run_getObj_map hr, h1, h2, Result.andThen_ok, Sem.run_bind, run_setObj_map _ hr]
  · rcases List.mem_append.1 hp with h | h
    · exact hL.keys p h
    · have : p = (k, v) := by simpa using h
      rw [this]; exact hk
  · rw [List.map_append, List.nodup_append]
    refine ⟨hL.once, by simp, fun a ha b hb' => ?_⟩
    have : b = k := by simpa using hb'
    subst this
    rintro rfl
    obtain ⟨p, hp, hpk⟩ := List.mem_map.1 ha
    exact hm p.2 (by rw [← hpk]; exact hp)
theorem St.updMap (hS : St F w0 w Γ) {r c i : Nat} {es : Array MapEntry} (hi : Γ[i]? = some (.obj r (.map es c))) (es' : Array MapEntry) (c' : Nat) : St F w0 { w with heap := w.heap.setIfInBounds r (.map es' c') } (Γ.set i (.obj r (.map es' c'))) := by
  have hr := (hS.at_ hi).1
  have hset := heap_set (o' := Obj.map es' c') hr
  exact hS.upd hi ⟨rfl, rfl, rfl, by simp, fun g _ hg => hset.2 g (fun e => hg (by simp [Asr.fp, e]))⟩ ⟨hset.1, rfl⟩ (fun q hq => Or.inl hq)
theorem g_updN (hS : St F w0 w Γ) {t Kt Et : TypeId} {m x y : Operand} {r c i : Nat} {es : Array MapEntry} {L : List (Value × Value)} {k v : Value} (ht : P.underlying t = some (.map Kt Et)) (hK : P.underlying Kt = some D) (hm : E.ev m = some (.map (some r))) (hx : E.ev x = some k) (hy : E.ev y = some v) (hi : Γ[i]? = some (.obj r (.map es c))) (hL : MapG D es L) (hk : IsKey D k) (hn : ∀ v, (k, v) ∉ L) :
    Gets P ⟨dst, .mapUpdate t m x y, ty, pos, after, none⟩ n ds E w (fun _ w' => ∃ es' c', MapG D es' (L ++ [(k, v)]) ∧ St F w0 w' (Γ.set i (.obj r (.map es' c')))) := fun a ha K Q kk => by
  obtain ⟨es', c', hrun, h1⟩ := updG_new (v := v) ht hK (hS.at_ hi).1 hL hk hn
  have hex : (execOp a.eval ⟨dst, .mapUpdate t m x y, ty, pos, after, none⟩).run P w = .ok .skip { w with heap := w.heap.setIfInBounds r (.map es' c') } := by
    simp only [execOp, ha.ev hm, ha.ev hx, ha.ev hy, Sem.run_bind, hrun, Result.andThen_ok, Sem.run_pure]
  unfold Oper.wp
  rw [hex]
  exact kk undef _ ⟨es', c', h1, hS.updMap hi es' c'⟩
theorem g_updO (hS : St F w0 w Γ) {t Kt Et : TypeId} {m x y : Operand} {r c i : Nat} {es : Array MapEntry} {L : List (Value × Value)} {k u v : Value} (ht : P.underlying t = some (.map Kt Et)) (hK : P.underlying Kt = some D) (hm : E.ev m = some (.map (some r))) (hx : E.ev x = some k) (hy : E.ev y = some v) (hi : Γ[i]? = some (.obj r (.map es c))) (hL : MapG D es L) (hk : IsKey D k) (hu : (k, u) ∈ L) :
    Gets P ⟨dst, .mapUpdate t m x y, ty, pos, after, none⟩ n ds E w (fun _ w' => ∃ es' c' j u', L[j]? = some (k, u') ∧ MapG D es' (L.set j (k, v)) ∧ St F w0 w' (Γ.set i (.obj r (.map es' c')))) := fun a ha K Q kk => by
  obtain ⟨es', j, hrun, ⟨u', h1⟩, h2⟩ := updG_old (v := v) ht hK (hS.at_ hi).1 hL hk hu
  have hex : (execOp a.eval ⟨dst, .mapUpdate t m x y, ty, pos, after, none⟩).run P w = .ok .skip { w with heap := w.heap.setIfInBounds r (.map es' c) } := by
    simp only [execOp, ha.ev hm, ha.ev hx, ha.ev hy, Sem.run_bind, hrun, Result.andThen_ok, Sem.run_pure]
  unfold Oper.wp
  rw [hex]
  exact kk undef _ ⟨es', c, j, u', h1, h2, hS.updMap hi es' c⟩
theorem d_look {K : Act → Prop} {t : TypeId} {m x : Operand} {r : Nat} {k v : Value} {ok : Bool} (hm : E.ev m = some (.map (some r))) (hx : E.ev x = some k) (h : ∀ w, St F w0 w Γ → (Instr.lookup t (.map (some r)) k ok).run P w = .ok v w) (hd : Nat.blt d n = true) (kk : WD P ops (fun w' => St F w0 w' Γ) K rest n ds ((d, v) :: E)) : WD P ops (fun w' => St F w0 w' Γ) K (⟨some d, .lookup t m x ok, ty, pos, after, none⟩ :: rest) n ds E := fun a ha =>
  wq_plain (v := v) rfl (fun w hw => by
    unfold Oper.quietAt
    simp only [execOp, ha.ev hm, ha.ev hx, Sem.run_bind, h w hw, Result.andThen_ok, Sem.run_pure]
    exact ⟨rfl, rfl⟩) (kk _ (ha.put d v hd))
theorem look_hit {t Kt Et : TypeId} {r c : Nat} (i : Nat) {es : Array MapEntry} {L : List (Value × Value)} {k v : Value} (ht : P.underlying t = some (.map Kt Et)) (hK : P.underlying Kt = some D) (hi : Γ[i]? = some (.obj r (.map es c))) (hL : MapG D es L) (hk : IsKey D k) (hv : (k, v) ∈ L) (ok : Bool) : ∀ w, St F w0 w Γ → (Instr.lookup t (.map (some r)) k ok).run P w = .ok (if ok then .tuple #[v, .bool true] else v) w := fun w hS =>
  run_lookup_hit ht hK (hL.at_ (hS.at_ hi).1) hk hv ok
theorem look_miss {t Kt Et : TypeId} {r c : Nat} (i : Nat) {es : Array MapEntry} {L : List (Value × Value)} {k z : Value} (ht : P.underlying t = some (.map Kt Et)) (hK : P.underlying Kt = some D) (hz : (P.info? Et).bind (·.zero) = some z) (hi : Γ[i]? = some (.obj r (.map es c))) (hL : MapG D es L) (hk : IsKey D k) (hv : ∀ v, (k, v) ∉ L) (ok : Bool) : ∀ w, St F w0 w Γ → (Instr.lookup t (.map (some r)) k ok).run P w = .ok (if ok then .tuple #[z, .bool false] else z) w := fun w hS => by
  obtain ⟨zi, hzi, hz2⟩ := Option.bind_eq_some_iff.1 hz
  have hz' : (zeroValue Et).run P w = .ok z w := by simp [zeroValue, typeInfo, hzi, hz2]
  exact run_lookup_miss ht hK (hL.at_ (hS.at_ hi).1) hk hv hz' ok
/-- 'make(map..)' -/
theorem g_makeMap (hS : St F w0 w Γ) {t : TypeId} : Gets P ⟨dst, .makeMap t none, ty, pos, after, none⟩ n ds E w (fun v w' => ∃ r, v = .map (some r) ∧ St F w0 w' (.obj r (.map #[] 0) :: Γ)) := fun a ha K Q k => by
  have hex : (execOp a.eval ⟨dst, .makeMap t none, ty, pos, after, none⟩).run P w = .ok (.value (.map (some w.heap.size))) (w.alloc (.map #[] 0)) := by
    simp only [execOp]
    rfl
  unfold Oper.wp
  rw [hex]
  exact k _ _ ⟨_, rfl, hS.new (World.grownBy_alloc w _ none) ⟨(heap_alloc w _).1, rfl⟩ (by simp [Asr.fp])⟩
end
end Go.Proofs.Ytejnpppejalhfab
/- The types of this program that the step calculus meets (printed by tab.py). -/
namespace Go.Proofs.Ytejnpppejalhfab
open Go.RowKit Go.Sort

def tab : Tab := [
  (3, .sc (.int .i64) 1 (.int .i64 0)),
  (27, .st 6 [(0, 1, false), (1, 1, false), (2, 1, false), (3, 1, false), (4, 1, false), (5, 1, false)] [.string ⟨#[]⟩, .slice none 0 0, .slice none 0 0, .slice none 0 0, .slice none 0 0, .int .i64 0]),
  (9, .sc .string 1 (.string ⟨#[]⟩)),
  (61, .st 5 [(0, 1, false), (1, 1, false), (2, 1, false), (3, 1, false), (4, 1, false)] [.slice none 0 0, .slice none 0 0, .slice none 0 0, .slice none 0 0, .int .i64 0]),
  (131, .st 4 [(0, 1, false), (1, 1, false), (2, 1, false), (3, 1, false)] [.int .i64 0, .int .i64 0, .int .i64 0, .bool false]),
  (82, .st 5 [(0, 1, false), (1, 1, false), (2, 1, false), (3, 1, false), (4, 1, false)] [.int .i64 0, .int .i64 0, .string ⟨#[]⟩, .bool false, .bool false]),
  (37, .sl 131 4 32 true [.int .i64 0, .int .i64 0, .int .i64 0, .bool false]),
  (40, .st 3 [(0, 1, false), (1, 1, false), (2, 1, false)] [.slice none 0 0, .slice none 0 0, .int .i64 0]),
  (158, .sl 177 3 24 true [.int .i64 0, .int .i64 0, .int .i64 0]),
  (23, .sl 82 5 40 true [.int .i64 0, .int .i64 0, .string ⟨#[]⟩, .bool false, .bool false]),
  (49, .st 3 [(0, 1, false), (1, 1, false), (2, 1, false)] [.int .i64 0, .string ⟨#[]⟩, .slice none 0 0]),
  (38, .sl 49 3 48 true [.int .i64 0, .string ⟨#[]⟩, .slice none 0 0]),
  (177, .st 3 [(0, 1, false), (1, 1, false), (2, 1, false)] [.int .i64 0, .int .i64 0, .int .i64 0]),
  (63, .st 2 [(0, 1, false), (1, 1, false)] [.int .i64 0, .int .i64 0]),
  (22, .sl 9 1 16 false [.string ⟨#[]⟩]),
  (25, .sl 87 3 32 true [.int .i64 0, .string ⟨#[]⟩, .int .i64 0]),
  (24, .sl 85 2 24 true [.string ⟨#[]⟩, .int .i64 0]),
  (144, .sl 3 1 8 false [.int .i64 0]),
  (87, .st 3 [(0, 1, false), (1, 1, false), (2, 1, false)] [.int .i64 0, .string ⟨#[]⟩, .int .i64 0]),
  (57, .sl 142 4 32 true [.string ⟨#[]⟩, .int .i64 0, .bool false, .bool false]),
  (146, .st 7 [(0, 5, true), (5, 1, false), (6, 1, false)] [.slice none 0 0, .slice none 0 0, .slice none 0 0, .slice none 0 0, .int .i64 0, .int .i64 0, .slice none 0 0]),
  (36, .sl 27 6 120 true [.string ⟨#[]⟩, .slice none 0 0, .slice none 0 0, .slice none 0 0, .slice none 0 0, .int .i64 0]),
  (59, .sl 160 3 56 true [.bool false, .slice none 0 0, .slice none 0 0]),
  (88, .sc (.pointer 90) 1 (.pointer none)),
  (47, .sl 124 2 24 true [.int .i64 0, .string ⟨#[]⟩]),
  (142, .st 4 [(0, 1, false), (1, 1, false), (2, 1, false), (3, 1, false)] [.string ⟨#[]⟩, .int .i64 0, .bool false, .bool false]),
  (113, .st 7 [(0, 6, true), (6, 1, false)] [.string ⟨#[]⟩, .slice none 0 0, .slice none 0 0, .slice none 0 0, .slice none 0 0, .int .i64 0, .int .i64 0]),
  (160, .st 3 [(0, 1, false), (1, 1, false), (2, 1, false)] [.bool false, .slice none 0 0, .slice none 0 0]),
  (4, .sc .bool 1 (.bool false)),
  (85, .st 2 [(0, 1, false), (1, 1, false)] [.string ⟨#[]⟩, .int .i64 0]),
  (76, .sl 5 1 1 false [.int .u8 0]),
  (109, .sl 113 7 128 true [.string ⟨#[]⟩, .slice none 0 0, .slice none 0 0, .slice none 0 0, .slice none 0 0, .int .i64 0, .int .i64 0]),
  (58, .sl 165 2 24 true [.string ⟨#[]⟩, .int .i64 0]),
  (124, .st 2 [(0, 1, false), (1, 1, false)] [.int .i64 0, .string ⟨#[]⟩]),
  (163, .sl 209 7 56 true [.int .i64 0, .int .i64 0, .int .i64 0, .int .i64 0, .int .i64 0, .int .i64 0, .bool false]),
  (136, .sc (.pointer 146) 1 (.pointer none)),
  (105, .st 7 [(0, 6, true), (6, 1, false)] [.string ⟨#[]⟩, .slice none 0 0, .slice none 0 0, .slice none 0 0, .slice none 0 0, .int .i64 0, .int .i64 0]),
  (165, .st 2 [(0, 1, false), (1, 1, false)] [.string ⟨#[]⟩, .int .i64 0]),
  (117, .ar 256 256 1 false [.int .i64 0, .int .i64 0, .int .i64 0, .int .i64 0, .int .i64 0, .int .i64 0, .int .i64 0, .int .i64 0, .int .i64 0, .int .i64 0, .int .i64 0, .int .i64 0, .int .i64 0, .int .i64 0, .int .i64 0, .int .i64 0, .int .i64 0, .int .i64 0, .int .i64 0, .int .i64 0, .int .i64 0, .int .i64 0, .int .i64 0, .int .i64 0, .int .i64 0, .int .i64 0, .int .i64 0, .int .i64 0, .int .i64 0, .int .i64 0, .int .i64 0, .int .i64 0, .int .i64 0, .int .i64 0, .int .i64 0, .int .i64 0, .int .i64 0, .int .i64 0, .int .i64 0, .int .i64 0, .int .i64 0, .int .i64 0, .int .i64 0, .int .i64 0, .int .i64 0, .int .i64 0, .int .i64 0, .int .i64 0, .int .i64 0, .int .i64 0, .int .i64 0, .int .i64 0, .int .i64 0, .int .i64 0, .int .i64 0, .int .i64 0, .int .i64 0, .int .i64 0, .int .i64 0, .int .i64 0, .int .i64 0, .int .i64 0, .int .i64 0, .int .i64 0, .int .i64 0, .int .i64 0, .int .i64 0, .int .i64 0, .int .i64 0, .int .i64 0, .int .i64 0, .int .i64 0, .int .i64 0, .int .i64 0, .int .i64 0, .int .i64 0, .int .i64 0, .int .i64 0, .int .i64 0, .int .i64 0, .int .i64 0, .int .i64 0, .int .i64 0, .int .i64 0, .int .i64 0, .int .i64 0, .int .i64 0, .int .i64 0, .int .i64 0, .int .i64 0, .int .i64 0, .int .i64 0, .int .i64 0, .int .i64 0, .int .i64 0, .int .i64 0, .int .i64 0, .int .i64 0, .int .i64 0, .int .i64 0, .int .i64 0, .int .i64 0, .int .i64 0, .int .i64 0, .int .i64 0, .int .i64 0, .int .i64 0, .int .i64 0, .int .i64 0, .int .i64 0, .int .i64 0, .int .i64 0, .int .i64 0, .int .i64 0, .int .i64 0, .int .i64 0, .int .i64 0, .int .i64 0, .int .i64 0, .int .i64 0, .int .i64 0, .int .i64 0, .int .i64 0, .int .i64 0, .int .i64 0, .int .i64 0, .int .i64 0, .int .i64 0, .int .i64 0, .int .i64 0, .int .i64 0, .int .i64 0, .int .i64 0, .int .i64 0, .int .i64 0, .int .i64 0, .int .i64 0, .int .i64 0, .int .i64 0, .int .i64 0, .int .i64 0, .int .i64 0, .int .i64 0, .int .i64 0, .int .i64 0, .int .i64 0, .int .i64 0, .int .i64 0, .int .i64 0, .int .i64 0, .int .i64 0, .int .i64 0, .int .i64 0, .int .i64 0, .int .i64 0, .int .i64 0, .int .i64 0, .int .i64 0, .int .i64 0, .int .i64 0, .int .i64 0, .int .i64 0, .int .i64 0, .int .i64 0, .int .i64 0, .int .i64 0, .int .i64 0, .int .i64 0, .int .i64 0, .int .i64 0, .int .i64 0, .int .i64 0, .int .i64 0, .int .i64 0, .int .i64 0, .int .i64 0, .int .i64 0, .int .i64 0, .int .i64 0, .int .i64 0, .int .i64 0, .int .i64 0, .int .i64 0, .int .i64 0, .int .i64 0, .int .i64 0, .int .i64 0, .int .i64 0, .int .i64 0, .int .i64 0, .int .i64 0, .int .i64 0, .int .i64 0, .int .i64 0, .int .i64 0, .int .i64 0, .int .i64 0, .int .i64 0, .int .i64 0, .int .i64 0, .int .i64 0, .int .i64 0, .int .i64 0, .int .i64 0, .int .i64 0, .int .i64 0, .int .i64 0, .int .i64 0, .int .i64 0, .int .i64 0, .int .i64 0, .int .i64 0, .int .i64 0, .int .i64 0, .int .i64 0, .int .i64 0, .int .i64 0, .int .i64 0, .int .i64 0, .int .i64 0, .int .i64 0, .int .i64 0, .int .i64 0, .int .i64 0, .int .i64 0, .int .i64 0, .int .i64 0, .int .i64 0, .int .i64 0, .int .i64 0, .int .i64 0, .int .i64 0, .int .i64 0, .int .i64 0, .int .i64 0, .int .i64 0, .int .i64 0, .int .i64 0, .int .i64 0, .int .i64 0, .int .i64 0, .int .i64 0, .int .i64 0, .int .i64 0, .int .i64 0, .int .i64 0, .int .i64 0, .int .i64 0, .int .i64 0, .int .i64 0, .int .i64 0, .int .i64 0, .int .i64 0, .int .i64 0, .int .i64 0, .int .i64 0]),
  (102, .st 4 [(0, 1, false), (1, 1, false), (2, 1, false), (3, 1, false)] [.map none, .map none, .slice none 0 0, .int .i64 0]),
  (100, .sl 105 7 128 true [.string ⟨#[]⟩, .slice none 0 0, .slice none 0 0, .slice none 0 0, .slice none 0 0, .int .i64 0, .int .i64 0]),
  (75, .sc (.pointer 78) 1 (.pointer none)),
  (185, .st 5 [(0, 1, false), (1, 1, false), (2, 1, false), (3, 1, false), (4, 1, false)] [.int .i64 0, .int .i64 0, .int .i64 0, .int .i64 0, .int .i64 0]),
  (154, .sl 163 1 24 false [.slice none 0 0]),
  (156, .st 4 [(0, 1, false), (1, 1, false), (2, 1, false), (3, 1, false)] [.pointer none, .slice none 0 0, .slice none 0 0, .int .i64 0]),
  (209, .st 7 [(0, 3, true), (3, 4, true)] [.int .i64 0, .int .i64 0, .int .i64 0, .int .i64 0, .int .i64 0, .int .i64 0, .bool false]),
  (99, .sc (.map 9 3) 1 (.map none)),
  (152, .sc (.pointer 156) 1 (.pointer none)),
  (95, .st 0 [] []),
  (78, .st 1 [(0, 1, false)] [.slice none 0 0]),
  (90, .st 1 [(0, 1, false)] [.string ⟨#[]⟩]),
  (98, .sc (.map 9 27) 1 (.map none)),
  (186, .sl 36 1 24 false [.slice none 0 0]),
  (153, .sc (.pointer 61) 1 (.pointer none)),
  (203, .sc (.int .u64) 1 (.int .u64 0)),
  (189, .sc (.map 3 194) 1 (.map none)),
  (5, .sc (.int .u8) 1 (.int .u8 0)),
  (97, .sc (.pointer 102) 1 (.pointer none)),
  (219, .sc (.int .u64) 1 (.int .u64 0)),
  (1, .sc (.func #[] #[] false) 1 (.nilFunc)),
  (28, .sc (.int .i64) 1 (.int .i64 0)),
  (178, .sl 74 1 8 false [.nilFunc]),
  (229, .sc (.func #[21] #[4] false) 1 (.nilFunc)),
  (143, .sc (.func #[140, 3, 3] #[] false) 1 (.nilFunc)),
  (161, .sc (.func #[160] #[4] false) 1 (.nilFunc)),
  (211, .sc (.func #[209] #[4] false) 1 (.nilFunc)),
  (213, .sc (.func #[177, 3] #[3] false) 1 (.nilFunc)),
  (244, .sc (.func #[177] #[4] false) 1 (.nilFunc)),
  (74, .sc (.func #[27] #[28] false) 1 (.nilFunc)),
  (107, .sc (.pointer 40) 1 (.pointer none)),
  (200, .sc (.func #[131, 3] #[3] false) 1 (.nilFunc)),
  (140, .sc (.pointer 142) 1 (.pointer none)),
  (215, .sc (.func #[49, 3] #[3] false) 1 (.nilFunc)),
  (233, .sc (.func #[142] #[4] false) 1 (.nilFunc)),
  (242, .sc (.func #[165] #[4] false) 1 (.nilFunc)),
  (21, .sc (.int .i32) 1 (.int .i32 0))]
set_option maxRecDepth 100000 in
theorem tabOk : TabOk Try.prog tab := by
  unfold tab
  repeat (first | exact TabOk.nil _ | refine TabOk.cons (by kernel_rfl) (by rfl) ?_)
end Go.Proofs.Ytejnpppejalhfab
/- foliantlaw.choose: a number out of n, whatever it is handed. -/
namespace Go.Proofs.Ytejnpppejalhfab
open Go.RowKit Go.Sort

end Go.Proofs.Ytejnpppejalhfab
/- Names. -/
namespace Go.Proofs.Ytejnpppejalhfab
open Go.RowKit Go.Sort

theorem lt_get {α : Type} {l : List α} {i : Nat} (h : (i : Int) < l.length) : ∃ x, l[i]? = some x := ⟨l[i]'(by omega), by simp⟩
/-! the program's -/
theorem name1_fn (r : Int) (w : World) : Fn Try.prog 137 [.int .i32 r] w (RBf (.bool (!decide ((97 ≤ r ∧ r ≤ 122) ∨ (48 ≤ r ∧ r ≤ 57) ∨ r = 95))) w) := by
  refine fn_enter (fn := Try.f137) ⟨Try.func137, by kernel_rfl, by kernel_rfl⟩ (by exact rfl) Try.ntmps137 (by exact rfl) ?_
  have hS := St.start w
  repeat' (first | (first | ((with_reducible apply l_pure tabOk); exact rfl; exact rfl) | (first | ((with_reducible apply l_yes); exact rfl; exact rfl; exact rfl; exact rfl; first | exact rfl | assumption) | ((with_reducible apply l_no); exact rfl; exact rfl; exact rfl; exact rfl; (first | exact rfl | assumption); exact rfl) | ((with_reducible apply l_undef); exact rfl; exact rfl; exact rfl; exact rfl; exact rfl) | ((with_reducible apply l_partd); exact rfl; exact rfl; exact rfl; all_goals (intro hb hp; try (exfalso; omega))) | ((with_reducible apply l_pick1); exact rfl; (first | exact rfl | assumption); exact rfl; exact rfl) | ((with_reducible apply l_pick2); exact rfl; (first | exact rfl | assumption); exact rfl; exact rfl))) | (first | (with_reducible apply c_seq) | (with_reducible apply c_region) | (with_reducible apply l_nil) | (with_reducible apply q_then) | (with_reducible apply c_ret)))
  all_goals
    (apply q_ret1); (repeat (first | exact ResL.nil | (apply ResL.tmp; exact rfl)))
    refine ⟨?_, hS⟩
    simp only [Value.bool.injEq]
    first | (congr 1; rw [decide_eq_decide]; omega) | (simp only [Bool.false_eq, Bool.not_eq_false', decide_eq_true_eq]; omega)
def NmF : Value := .func (.func 137) #[] #[]
theorem indexFunc_fn (l : List UInt8) (w : World) : Fn Try.prog 152 [.string ⟨l.toArray⟩, NmF, .bool true] w (fun v w' => ∃ k : Int, v = .int .i64 k ∧ (0 ≤ k ↔ l.all okB = false) ∧ St nF w w' []) := by
  refine fn_enter (fn := Try.f152) ⟨Try.func152, by kernel_rfl, by kernel_rfl⟩ (by exact rfl) Try.ntmps152 (by exact rfl) ?_
  have hS := St.start w
  repeat' (first | (((with_reducible apply l_pure tabOk); exact rfl; exact rfl)) | (first | (with_reducible apply c_seq) | (with_reducible apply c_region) | (with_reducible apply l_nil) | (with_reducible apply q_then) | (with_reducible apply c_block)) | ((with_reducible apply l_range hS tabOk); exact rfl; exact rfl; exact rfl; intro r w' hS'; clear hS; have hS := hS'; clear hS'))
  refine c_loop (X := Nat) 0 (fun k => [(0, .string ⟨l.toArray⟩), (1, NmF), (2, .bool true), (10, .pointer (some ⟨r, 0, none⟩))]) (fun k w' => k ≤ l.length ∧ (l.take k).all okB = true ∧ St nF w w' [.obj r (.stringIter ⟨l.toArray⟩ k)]) (fun k => l.length - k) ?_ ⟨by omega, rfl, hS⟩ ?_
  · repeat (first | exact Fr.sub_nil _ | (apply Fr.sub_cons; exact rfl))
  rintro k w1 ⟨hi, hall, hS'⟩
  clear hS
  have hS := hS'
  clear hS'
  by_cases hk : k < l.length
  · obtain ⟨b, hb'⟩ := lt_get (l := l) (i := k) (by omega)
    repeat' (first | (first | ((with_reducible apply l_pure tabOk); exact rfl; exact rfl) | ((with_reducible apply l_eqb tabOk); exact rfl; exact rfl; exact rfl; exact rfl)) | (first | (with_reducible apply c_seq) | (with_reducible apply c_region) | (with_reducible apply l_nil) | (with_reducible apply q_then) | (with_reducible apply c_skip) | (with_reducible apply c_block) | (with_reducible apply c_ret) | (with_reducible apply q_then_ret) | (with_reducible apply q_block) | (with_reducible apply q_block_ret)) | (first | ((with_reducible apply c_ift); exact rfl; (exact rfl)) | ((with_reducible apply c_ifd); exact rfl; all_goals (intro hb hp; try (exfalso; omega)))) | ((with_reducible apply l_nextb hS (i := 0) (hb := hb')); exact rfl; exact rfl; exact rfl; intro w' c wd hlow hhigh hS'; simp only [List.set] at hS'; clear hS; have hS := hS'; clear hS') | ((with_reducible apply l_call); exact rfl; exact rfl; exact name1_fn _ _; exact rfl; rintro _ w' ⟨rfl, hS'⟩; replace hS := hS.transA hS'; simp only [appA] at hS; clear hS'))
    · (apply q_ret1); (repeat (first | exact ResL.nil | (apply ResL.tmp; exact rfl)))
      refine ⟨_, rfl, ⟨fun _ => all_no hb' ?_, fun _ => by omega⟩, hS.sub (List.nil_sublist _)⟩
      simp only [Bool.not_eq_true', decide_eq_false_iff_not] at hp
      unfold okB
      rw [decide_eq_false_iff_not]
      by_cases hlt : b.toNat < 128
      · have := (hlow hlt).1
        omega
      · omega
    · simp only [Bool.not_eq_true', decide_eq_false_iff_not, Decidable.not_not] at hp
      have hlt : b.toNat < 128 := by
        by_cases hlt : b.toNat < 128
        · exact hlt
        · have := hhigh hlt; omega
      obtain ⟨rfl, rfl⟩ := hlow hlt
      refine q_round (k + 1) (by repeat (first | exact Fr.sub_nil _ | (apply Fr.sub_cons; exact rfl))) ⟨by omega, all_take_succ hall hb' (by unfold okB; simp only [decide_eq_true_eq]; omega), hS⟩ (by omega)
  · have hge : l.length ≤ k := by omega
    repeat' (first | (((with_reducible apply l_pure tabOk); exact rfl; exact rfl)) | (first | (with_reducible apply c_seq) | (with_reducible apply c_region) | (with_reducible apply l_nil) | (with_reducible apply q_then) | (with_reducible apply c_exit) | (with_reducible apply c_ret) | (with_reducible apply q_then_exit) | (with_reducible apply q_block_exit)) | (((with_reducible apply c_iff); exact rfl; (exact rfl))) | ((with_reducible apply l_nexte hS (i := 0) (hb := hge)); exact rfl; exact rfl; exact rfl))
    (apply q_ret1); (repeat (first | exact ResL.nil | (apply ResL.tmp; exact rfl)))
    refine ⟨_, rfl, ⟨fun h => absurd h (by decide), fun h => ?_⟩, hS.sub (List.nil_sublist _)⟩
    rw [all_take_all hall (by omega)] at h
    cases h
theorem IndexFunc_fn (l : List UInt8) (w : World) : Fn Try.prog 144 [.string ⟨l.toArray⟩, NmF] w (fun v w' => ∃ k : Int, v = .int .i64 k ∧ (0 ≤ k ↔ l.all okB = false) ∧ St nF w w' []) := by
  refine fn_enter (fn := Try.f144) ⟨Try.func144, by kernel_rfl, by kernel_rfl⟩ (by exact rfl) Try.ntmps144 (by exact rfl) ?_
  have hS := St.start w
  repeat' (first | (((with_reducible apply l_pure tabOk); exact rfl; exact rfl)) | (first | (with_reducible apply c_seq) | (with_reducible apply c_region) | (with_reducible apply l_nil) | (with_reducible apply q_then) | (with_reducible apply c_ret)) | ((with_reducible apply l_call); exact rfl; exact rfl; exact indexFunc_fn l _; exact rfl; rintro _ w' ⟨k, rfl, hk, hS'⟩; replace hS := hS.transA hS'; simp only [appA] at hS; clear hS'))
  (apply q_ret1); (repeat (first | exact ResL.nil | (apply ResL.tmp; exact rfl)))
  exact ⟨k, rfl, hk, hS⟩
theorem ContainsFunc_fn (l : List UInt8) (w : World) : Fn Try.prog 136 [.string ⟨l.toArray⟩, NmF] w (RBf (.bool (!l.all okB)) w) := by
  refine fn_enter (fn := Try.f136) ⟨Try.func136, by kernel_rfl, by kernel_rfl⟩ (by exact rfl) Try.ntmps136 (by exact rfl) ?_
  have hS := St.start w
  repeat' (first | (((with_reducible apply l_pure tabOk); exact rfl; exact rfl)) | (first | (with_reducible apply c_seq) | (with_reducible apply c_region) | (with_reducible apply l_nil) | (with_reducible apply q_then) | (with_reducible apply c_ret)) | ((with_reducible apply l_call); exact rfl; exact rfl; exact IndexFunc_fn l _; exact rfl; rintro _ w' ⟨k, rfl, hk, hS'⟩; replace hS := hS.transA hS'; simp only [appA] at hS; clear hS'))
  (apply q_ret1); (repeat (first | exact ResL.nil | (apply ResL.tmp; exact rfl)))
  refine ⟨?_, hS⟩
  congr 1
  cases h : l.all okB with
  | true => rw [h] at hk; simp at hk ⊢; omega
  | false => rw [h] at hk; simp at hk ⊢; omega
theorem name_fn (l : List UInt8) (w : World) : Fn Try.prog 123 [.string ⟨l.toArray⟩] w (RBf (.bool (nmB l)) w) := by
  refine fn_enter (fn := Try.f123) ⟨Try.func123, by kernel_rfl, by kernel_rfl⟩ (by exact rfl) Try.ntmps123 (by exact rfl) ?_
  have hS := St.start w
  repeat' (first | (first | ((with_reducible apply l_pure tabOk); exact rfl; exact rfl) | (first | ((with_reducible apply l_yes); exact rfl; exact rfl; exact rfl; exact rfl; (assumption)) | ((with_reducible apply l_no); exact rfl; exact rfl; exact rfl; exact rfl; ((assumption)); exact rfl) | ((with_reducible apply l_partd); exact rfl; exact rfl; exact rfl; all_goals (intro hb hp; try (exfalso; omega))) | ((with_reducible apply l_pick1); exact rfl; ((assumption)); exact rfl; exact rfl) | ((with_reducible apply l_pick2); exact rfl; ((assumption)); exact rfl; exact rfl))) | (first | (with_reducible apply c_seq) | (with_reducible apply c_region) | (with_reducible apply l_nil) | (with_reducible apply q_then) | (with_reducible apply c_skip) | (with_reducible apply c_ret) | (with_reducible apply q_then_ret)) | (first | ((with_reducible apply c_ift); exact rfl; (exact rfl)) | ((with_reducible apply c_ifd); exact rfl; all_goals (intro hb hp; try (exfalso; omega)))) | ((with_reducible apply l_call); exact rfl; exact rfl; exact ContainsFunc_fn l _; exact rfl; rintro _ w' ⟨rfl, hS'⟩; replace hS := hS.transA hS'; simp only [appA] at hS; clear hS'))
  all_goals (apply q_ret1); (repeat (first | exact ResL.nil | (apply ResL.tmp; exact rfl)))
  all_goals refine ⟨?_, hS⟩
  · rw [nm_len (by omega)]
  · rw [nm_len (by omega)]
  · rw [nm_all (by omega), Bool.not_not]
end Go.Proofs.Ytejnpppejalhfab
/- The linker's rights and address. -/
namespace Go.Proofs.Ytejnpppejalhfab
open Go.RowKit Go.Sort
def rgt (s : Sg) : Int := (if s.wr then 1 else 0) + (if s.ex then 2 else 0)
theorem rights_fn (s : Sg) (w : World) : Fn Try.prog 102 [.agg (sgC s).toArray] w (RBf (.int .i64 (rgt s)) w) := by
  have o1 : ∀ a b : Int, bits .or .i64 0 1 = 1 := fun _ _ => by decide
  have o2 : bits .or .i64 0 2 = 2 := by decide
  have o3 : bits .or .i64 1 2 = 3 := by decide
  obtain ⟨pg, n, d, wr, ex⟩ := s
  refine fn_enter (fn := Try.f102) ⟨Try.func102, by kernel_rfl, by kernel_rfl⟩ (by exact rfl) Try.ntmps102 (by exact rfl) ?_
  have hS := St.start w
  unfold sgC
  cases wr <;> cases ex
  all_goals (repeat' (first | (first | ((with_reducible apply l_pure tabOk); exact rfl; exact rfl) | ((with_reducible apply l_load); exact rfl; (((with_reducible apply Loads.sc tabOk); exact rfl; ((exact hS.blkC 0 rfl rfl)))); exact rfl) | ((with_reducible apply l_box hS); exact rfl; exact rfl; exact rfl; intro g w' hS'; clear hS; have hS := hS'; clear hS')) | (first | (with_reducible apply c_seq) | (with_reducible apply c_region) | (with_reducible apply l_nil) | (with_reducible apply q_then) | (with_reducible apply c_skip) | (with_reducible apply c_ret)) | (first | ((with_reducible apply c_ift); exact rfl; (exact rfl)) | ((with_reducible apply c_iff); exact rfl; (exact rfl))) | ((with_reducible apply l_or); exact rfl; exact rfl; (first | exact o1 0 0 | exact o2 | exact o3); exact rfl)))
  all_goals ((apply q_ret1); (repeat (first | exact ResL.nil | (apply ResL.tmp; exact rfl))))
  all_goals exact ⟨rfl, hS.sub (List.nil_sublist _)⟩
set_option maxRecDepth 100000 in
set_option maxHeartbeats 8000000 in
theorem address_fn {os : List Ob} {w : World} {gw : Nat} {lv : Value} (nm : List UInt8) (hc : Bs nF w ⟨gw, 2, none⟩ lv) (hl : Sl nF w 7 lv (os.map obC)) (hO : ∀ o ∈ os, ObV w o) (hr : ∀ o ∈ os, ∀ s ∈ o.im.syms, -9223372036854775808 ≤ o.at_ + s.at_ ∧ o.at_ + s.at_ ≤ 9223372036854775807) : Fn Try.prog 100 [.pointer (some ⟨gw, 0, none⟩), .string ⟨nm.toArray⟩] w (RBf (AdrV (adr (obP os) nm)) w) := by
  have bnd := hl.bound
  obtain ⟨p, c, rfl⟩ := hl.len
  refine fn_enter (fn := Try.f100) ⟨Try.func100, by kernel_rfl, by kernel_rfl⟩ (by exact rfl) Try.ntmps100 (by exact rfl) ?_
  have hS := St.start w
  have hc0 : Bs nF w ⟨gw, 0 + 2, none⟩ _ := hc
  repeat' (first | (first | ((with_reducible apply l_pure tabOk); exact rfl; exact rfl) | ((with_reducible apply l_load); exact rfl; (((with_reducible apply Loads.sl tabOk); exact rfl; ((exact hS.bs (by assumption))))); exact rfl)) | (first | (with_reducible apply c_seq) | (with_reducible apply c_region) | (with_reducible apply l_nil) | (with_reducible apply q_then) | (with_reducible apply c_block)))
  refine c_loopK (X := Nat) (fun x => [(15, .int .i64 (x : Nat))]) [0, 1, 13, 14] rfl (fun _ => []) (fun x => x ≤ os.length ∧ adr (obP os) nm = adr ((obP os).drop x) nm) (fun x => os.length - x) 0 (by repeat (first | exact Fr.sub_nil _ | (apply Fr.sub_cons; exact rfl))) (by simp) hS ?_
  clear hS
  intro i w1 hI hS
  obtain ⟨hi, had⟩ := hI
  dsimp only [List.cons_append, List.nil_append] at hi had hS ⊢
  by_cases hlt : i < os.length
  rotate_left
  · rw [List.drop_of_length_le (by rw [obP_len]; omega)] at had
    repeat' (first | (((with_reducible apply l_pure tabOk); exact rfl; exact rfl)) | (first | (with_reducible apply c_seq) | (with_reducible apply c_region) | (with_reducible apply l_nil) | (with_reducible apply q_then) | (with_reducible apply c_exit) | (with_reducible apply c_ret) | (with_reducible apply q_then_exit) | (with_reducible apply q_block_exit)) | (((with_reducible apply c_ifd); exact rfl; all_goals (intro hb hp; try (exfalso; omega)))))
    (apply q_ret2); (repeat (first | exact ResL.nil | (apply ResL.tmp; exact rfl)))
    exact ⟨by rw [had]; rfl, hS.sub (List.nil_sublist _)⟩
  obtain ⟨o, ho⟩ := lt_get (l := os) (i := i) (by omega)
  have hrow := map_get (f := obC) ho
  obtain ⟨b, off, rfl, hro⟩ := hl.at_ (i := i) hlt
  have hst := adr_step (nm := nm) (obP_at ho)
  have hov := hO o (List.mem_of_getElem? ho)
  have hor := hr o (List.mem_of_getElem? ho)
  rw [hst] at had
  obtain ⟨I, vn, vs, vy, vr, at_⟩ := o
  dsimp only at had hor
  replace hov : ImV w I vn vs vy vr := hov
  have by_ := hov.syms.bound
  have hsy := hov.syms
  obtain ⟨pn, cn, rfl⟩ := hov.needs.len
  obtain ⟨ps, cs, rfl⟩ := hov.segs.len
  obtain ⟨py, cy, rfl⟩ := hov.syms.len
  obtain ⟨pr, cr, rfl⟩ := hov.rels.len
  unfold obC at hrow
  repeat' (first | (first | ((with_reducible apply l_pure tabOk); exact rfl; exact rfl) | ((with_reducible apply l_load); exact rfl; (first | ((with_reducible apply Loads.sl tabOk); exact rfl; ((exact hS.blkC 0 rfl rfl))) | ((with_reducible apply Loads.st tabOk); exact rfl; ((exact hS.roR (by assumption) (by assumption))); exact rfl)); exact rfl) | ((with_reducible apply l_ix tabOk); exact rfl; exact rfl; exact rfl; ((exact rfl)); ((omega)); exact rfl) | ((with_reducible apply l_alloc hS tabOk); exact rfl; exact rfl; exact rfl; intro g w' hS'; clear hS; have hS := hS'; clear hS') | (((with_reducible apply l_store hS tabOk (i := 0)); exact rfl; exact rfl; exact rfl; exact rfl; exact rfl; exact rfl; exact rfl; exact rfl; ((exact rfl)); intro w' hS'; simp only [List.set] at hS'; clear hS; have hS := hS'; clear hS'))) | (first | (with_reducible apply c_seq) | (with_reducible apply c_region) | (with_reducible apply l_nil) | (with_reducible apply q_then) | (with_reducible apply c_skip) | (with_reducible apply c_block)) | (((with_reducible apply c_ifd); exact rfl; all_goals (intro hb hp; try (exfalso; omega)))))
  rename Nat => g7
  refine c_loopK (X := Nat) (fun x => [(23, .int .i64 (x : Nat))]) [0, 1, 13, 14, 15, 7, 21, 22] rfl (fun _ => []) (fun x => x ≤ I.syms.length ∧ (I.syms.take x).all (fun s => !decide (s.name = nm)) = true) (fun x => I.syms.length - x) 0 (by repeat (first | exact Fr.sub_nil _ | (apply Fr.sub_cons; exact rfl))) (by simp) hS ?_
  clear hS
  intro k w2 hK hS
  obtain ⟨hk, hall⟩ := hK
  dsimp only [List.cons_append, List.nil_append] at hk hall hS ⊢
  by_cases hkt : k < I.syms.length
  · obtain ⟨y, hy⟩ := lt_get (l := I.syms) (i := k) (by omega)
    have hrow2 := map_get (f := syC) hy
    obtain ⟨b2, off2, rfl, hro2⟩ := hsy.at_ (i := k) hkt
    have hyr := hor y (List.mem_of_getElem? hy)
    by_cases hn : y.name = nm
    · have hd : decide (y.name = nm) = true := decide_eq_true hn
      rw [symAt_hit hall hy hn] at had
      repeat' (first | (first | ((with_reducible apply l_add); exact rfl; exact rfl; omega; omega; exact rfl) | ((with_reducible apply l_pure tabOk); exact rfl; exact rfl) | ((with_reducible apply l_load); exact rfl; (first | ((with_reducible apply Loads.sc tabOk); exact rfl; (first | exact hS.blkC 0 rfl rfl | exact hS.blkC 1 rfl rfl)) | ((with_reducible apply Loads.st tabOk); exact rfl; ((exact hS.roR (by assumption) (by assumption))); exact rfl)); exact rfl) | ((with_reducible apply l_ix tabOk); exact rfl; exact rfl; exact rfl; ((exact rfl)); ((omega)); exact rfl) | ((with_reducible apply l_alloc hS tabOk); exact rfl; exact rfl; exact rfl; intro g w' hS'; clear hS; have hS := hS'; clear hS') | (((with_reducible apply l_store hS tabOk (i := 0)); exact rfl; exact rfl; exact rfl; exact rfl; exact rfl; exact rfl; exact rfl; exact rfl; ((exact (rfl : _ = [_, _]))); intro w' hS'; simp only [List.set] at hS'; clear hS; have hS := hS'; clear hS'))) | (first | (with_reducible apply c_seq) | (with_reducible apply c_region) | (with_reducible apply l_nil) | (with_reducible apply q_then) | (with_reducible apply c_skip) | (with_reducible apply c_block) | (with_reducible apply c_ret) | (with_reducible apply q_then_ret) | (with_reducible apply q_block_ret)) | (first | ((with_reducible apply c_ift); exact rfl; (assumption)) | ((with_reducible apply c_ifd); exact rfl; all_goals (intro hb hp; try (exfalso; omega)))))
      (apply q_ret2); (repeat (first | exact ResL.nil | (apply ResL.tmp; exact rfl)))
      exact ⟨by rw [had]; rfl, hS.sub (List.nil_sublist _)⟩
    · have hd : decide (y.name = nm) = false := decide_eq_false hn
      repeat' (first | (first | ((with_reducible apply l_add); exact rfl; exact rfl; omega; omega; exact rfl) | ((with_reducible apply l_pure tabOk); exact rfl; exact rfl) | ((with_reducible apply l_load); exact rfl; (first | ((with_reducible apply Loads.sc tabOk); exact rfl; ((exact hS.blkC 0 rfl rfl))) | ((with_reducible apply Loads.st tabOk); exact rfl; ((exact hS.roR (by assumption) (by assumption))); exact rfl)); exact rfl) | ((with_reducible apply l_ix tabOk); exact rfl; exact rfl; exact rfl; ((exact rfl)); ((omega)); exact rfl) | ((with_reducible apply l_alloc hS tabOk); exact rfl; exact rfl; exact rfl; intro g w' hS'; clear hS; have hS := hS'; clear hS') | (((with_reducible apply l_store hS tabOk (i := 0)); exact rfl; exact rfl; exact rfl; exact rfl; exact rfl; exact rfl; exact rfl; exact rfl; ((exact (rfl : _ = [_, _]))); intro w' hS'; simp only [List.set] at hS'; clear hS; have hS := hS'; clear hS'))) | (first | (with_reducible apply c_seq) | (with_reducible apply c_region) | (with_reducible apply l_nil) | (with_reducible apply q_then) | (with_reducible apply c_skip) | (with_reducible apply c_block) | (with_reducible apply q_block)) | (first | ((with_reducible apply c_iff); exact rfl; (assumption)) | ((with_reducible apply c_ifd); exact rfl; all_goals (intro hb hp; try (exfalso; omega)))))
      exact q_loopK (k + 1) (by repeat (first | exact Fr.sub_nil _ | (apply Fr.sub_cons; exact rfl))) ⟨by show k + 1 ≤ I.syms.length; omega, all_take_succ hall hy (by simp [hn])⟩ hS.drop (by show I.syms.length - (k + 1) < I.syms.length - k; omega)
  · rw [symAt_miss hall (by omega)] at had
    repeat' (first | (first | ((with_reducible apply l_add); exact rfl; exact rfl; omega; omega; exact rfl) | ((with_reducible apply l_pure tabOk); exact rfl; exact rfl)) | (first | (with_reducible apply c_seq) | (with_reducible apply c_region) | (with_reducible apply l_nil) | (with_reducible apply q_then) | (with_reducible apply c_exit) | (with_reducible apply q_then_exit) | (with_reducible apply q_block) | (with_reducible apply q_block_exit)) | (((with_reducible apply c_ifd); exact rfl; all_goals (intro hb hp; try (exfalso; omega)))))
    exact q_loopK (i + 1) (by repeat (first | exact Fr.sub_nil _ | (apply Fr.sub_cons; exact rfl))) ⟨by show i + 1 ≤ os.length; omega, had⟩ hS.drop (by show os.length - (i + 1) < os.length - i; omega)
end Go.Proofs.Ytejnpppejalhfab
/- The linker places an image. -/
namespace Go.Proofs.Ytejnpppejalhfab
open Go.RowKit Go.Sort
def stK (l : List UInt8) : Value := .string ⟨l.toArray⟩
/-- which are placed -/
def PlI (es : Array MapEntry) (os : List Ob) : Prop := ∃ L, MapG .string es L ∧ L.map (·.1) = os.map fun o => stK o.im.name
abbrev LkS (gw rb rp : Nat) (p : Option Addr) (c : Nat) (next : Int) (es : Array MapEntry) (cc : Nat) (os : List Ob) : List Asr :=
  [.blk gw [.map (some rb), .map (some rp), .slice p os.length c, .int .i64 next], .obj rp (.map es cc), .row 105 7 (.slice p os.length c) (os.map obC)]
theorem PlI.mem {es : Array MapEntry} {os : List Ob} {L : List (Value × Value)} (h : L.map (·.1) = os.map fun o => stK o.im.name) (nm : List UInt8) : (∃ v, (stK nm, v) ∈ L) ↔ ∃ o ∈ os, o.im.name = nm := by
  constructor
  · rintro ⟨v, hv⟩
    have : stK nm ∈ L.map (·.1) := List.mem_map.2 ⟨_, hv, rfl⟩
    rw [h] at this
    obtain ⟨o, ho, e⟩ := List.mem_map.1 this
    unfold stK at e
    exact ⟨o, ho, by simpa using e⟩
  · rintro ⟨o, ho, rfl⟩
    have : stK o.im.name ∈ L.map (·.1) := by rw [h]; exact List.mem_map.2 ⟨o, ho, rfl⟩
    obtain ⟨p, hp, e⟩ := List.mem_map.1 this
    exact ⟨p.2, by rw [← e]; exact hp⟩
theorem Sl.atF {F : Nat → Prop} {w : World} {sz : Nat} {α : Type} {f : α → List Value} {l : List α} {p : Option Addr} {n c i : Nat} (h : Sl F w sz (.slice p n c) (l.map f)) (hi : i < l.length) : ∃ b off, p = some ⟨b, off, none⟩ ∧ RoAt F w b off sz (l.map f) := by
  rcases h.parts.2 with h2 | ⟨b, off, rfl, _, _, hro⟩
  · have := congrArg List.length h2
    rw [List.length_map, List.length_nil] at this
    omega
  · exact ⟨b, off, rfl, hro⟩
def isPl (os : List Ob) (nm : List UInt8) : Bool := os.any fun o => decide (o.im.name = nm)
theorem isPl_iff {os : List Ob} {nm : List UInt8} : isPl os nm = true ↔ ∃ o ∈ os, o.im.name = nm := by unfold isPl; simp
def lastEnd (I : Im) : Int := match I.segs.getLast? with
  | some s => s.pg + s.n
  | none => 0
def plOs (os : List Ob) (next : Int) (I : Im) (vn vs vy vr : Value) : List Ob := if isPl os I.name = true then os else os ++ [⟨I, vn, vs, vy, vr, next * 16⟩]
def plNext (os : List Ob) (next : Int) (I : Im) : Int := if isPl os I.name = true then next else next + lastEnd I
theorem mt_placed : (Try.prog).underlying 99 = some (.map 9 3) := by kernel_rfl
theorem ut_string : (Try.prog).underlying 9 = some .string := by kernel_rfl
theorem zt_int : ((Try.prog).info? 3).bind (·.zero) = some (.int .i64 0) := by kernel_rfl
set_option maxRecDepth 100000 in
set_option maxHeartbeats 8000000 in
theorem place_fn {F : Nat → Prop} {w0 w : World} {Γ : List Asr} {gw rb rp c cc : Nat} {p : Option Addr} {next : Int} {es : Array MapEntry} {os : List Ob} {I : Im} {vn vs vy vr : Value} (hS0 : St F w0 w (LkS gw rb rp p c next es cc os ++ Γ)) (hP : PlI es os) (hI : ImV w I vn vs vy vr) (hIs : Sl (fps (LkS gw rb rp p c next es cc os)) w 5 vs (I.segs.map sgC)) (hs1 : 1 ≤ I.segs.length) (hs2 : I.segs.all sgOk = true) (hs3 : I.segs.length ≤ 6) (hn0 : 0 ≤ next) (hn1 : next ≤ 100000) (hol : os.length ≤ 1000) :
    Fn Try.prog 98 [.pointer (some ⟨gw, 0, none⟩), imA I vn vs vy vr] w (fun v w' => v = .int .i64 0 ∧ ∃ p' c' es' cc', PlI es' (plOs os next I vn vs vy vr) ∧ St (fps (LkS gw rb rp p c next es cc os)) w w' (LkS gw rb rp p' c' (plNext os next I) es' cc' (plOs os next I vn vs vy vr))) := by
  obtain ⟨L, hL, hLk⟩ := hP
  have hmem := PlI.mem (es := es) hLk I.name
  unfold plOs plNext
  obtain ⟨pn, cn, rfl⟩ := hI.needs.len
  obtain ⟨ps, cs, rfl⟩ := hI.segs.len
  obtain ⟨py, cy, rfl⟩ := hI.syms.len
  obtain ⟨pr, cr, rfl⟩ := hI.rels.len
  refine fn_enter (fn := Try.f98) ⟨Try.func98, by kernel_rfl, by kernel_rfl⟩ (by exact rfl) Try.ntmps98 (by exact rfl) ?_
  have hS := St.startM hS0
  simp only [LkS] at hS
  by_cases hpl : isPl os I.name = true
  · obtain ⟨v, hv⟩ := hmem.2 (isPl_iff.1 hpl)
    rw [if_pos hpl, if_pos hpl]
    repeat' (first | (first | ((with_reducible apply l_pure tabOk); exact rfl; exact rfl) | ((with_reducible apply l_box hS); exact rfl; exact rfl; exact rfl; intro g w' hS'; clear hS; have hS := hS'; clear hS')) | (first | (with_reducible apply c_seq) | (with_reducible apply c_region) | (with_reducible apply l_nil) | (with_reducible apply q_then)))
    (focus ((with_reducible apply c_drawAll _ _ _ (by kernel_rfl) (by kernel_rfl) hS); (repeat' (first | (first | ((with_reducible apply d_pure tabOk); exact rfl; exact rfl) | ((with_reducible apply d_load); exact rfl; (intro wd hd; replace hd : St _ _ wd _ := hd; (((with_reducible apply Loads.sc tabOk); exact rfl; (first | exact hd.blkC 0 rfl rfl | exact hd.blkC 1 rfl rfl)))); exact rfl)) | ((with_reducible apply d_look); exact rfl; exact rfl; exact look_hit 2 mt_placed ut_string rfl hL (k := stK I.name) trivial hv true; exact rfl))); all_goals ((with_reducible apply d_nil); intro w' hS'; clear hS; have hS := hS'; clear hS')))
    repeat' (first | (((with_reducible apply l_pure tabOk); exact rfl; exact rfl)) | (first | (with_reducible apply c_seq) | (with_reducible apply c_region) | (with_reducible apply l_nil) | (with_reducible apply q_then) | (with_reducible apply c_ret) | (with_reducible apply q_then_ret)) | (((with_reducible apply c_ift); exact rfl; (exact rfl))))
    (apply q_ret1); (repeat (first | exact ResL.nil | (apply ResL.tmp; exact rfl)))
    exact ⟨rfl, p, c, es, cc, ⟨L, hL, hLk⟩, hS.drop⟩
  · rw [if_neg hpl, if_neg hpl]
    have hno : ∀ v, (stK I.name, v) ∉ L := fun v hv => hpl (isPl_iff.2 (hmem.1 ⟨v, hv⟩))
    repeat' (first | (first | ((with_reducible apply l_pure tabOk); exact rfl; exact rfl) | ((with_reducible apply l_box hS); exact rfl; exact rfl; exact rfl; intro g w' hS'; clear hS; have hS := hS'; clear hS')) | (first | (with_reducible apply c_seq) | (with_reducible apply c_region) | (with_reducible apply l_nil) | (with_reducible apply q_then)))
    rename Nat => g3
    (focus ((with_reducible apply c_drawAll _ _ _ (by kernel_rfl) (by kernel_rfl) hS); (repeat' (first | (first | ((with_reducible apply d_pure tabOk); exact rfl; exact rfl) | ((with_reducible apply d_load); exact rfl; (intro wd hd; replace hd : St _ _ wd _ := hd; (((with_reducible apply Loads.sc tabOk); exact rfl; (first | exact hd.blkC 0 rfl rfl | exact hd.blkC 1 rfl rfl)))); exact rfl)) | ((with_reducible apply d_look); exact rfl; exact rfl; exact look_miss 2 mt_placed ut_string zt_int rfl hL (k := stK I.name) trivial hno true; exact rfl))); all_goals ((with_reducible apply d_nil); intro w' hS'; clear hS; have hS := hS'; clear hS')))
    obtain ⟨k, hk⟩ : ∃ k, I.segs.length = k + 1 := ⟨I.segs.length - 1, by omega⟩
    have hix : ((k : Nat) : Int) = (I.segs.length : Int) - 1 := by omega
    have hlt : k < I.segs.length := by omega
    obtain ⟨y, hy⟩ := lt_get (l := I.segs) (i := k) (by omega)
    have hrow : (I.segs.map sgC)[k]? = some [.int .i64 y.pg, .int .i64 y.n, .string ⟨y.data.toArray⟩, .bool y.wr, .bool y.ex] := map_get (f := sgC) hy
    obtain ⟨b, off, rfl, hro⟩ := hIs.atF (i := k) hlt
    have hle : lastEnd I = y.pg + y.n := by
      unfold lastEnd
      rw [List.getLast?_eq_getElem?, show I.segs.length - 1 = k by omega, hy]
    have hyo := List.all_eq_true.1 hs2 y (List.mem_of_getElem? hy)
    unfold sgOk at hyo
    replace hyo := of_decide_eq_true hyo
    obtain ⟨y1, y2, y3, y4, -⟩ := hyo
    rw [hle]
    repeat' (first | (first | ((with_reducible apply l_sub); exact rfl; exact rfl; omega; omega; exact rfl) | ((with_reducible apply l_pure tabOk); exact rfl; exact rfl) | ((with_reducible apply l_load); exact rfl; (first | ((with_reducible apply Loads.sl tabOk); exact rfl; ((exact hS.blkC 0 rfl rfl))) | ((with_reducible apply Loads.st tabOk); exact rfl; ((exact hS.roR (by assumption) (by assumption))); exact rfl)); exact rfl) | ((with_reducible apply l_ix tabOk); exact rfl; exact rfl; exact rfl; ((assumption)); ((omega)); exact rfl) | ((with_reducible apply l_alloc hS tabOk); exact rfl; exact rfl; exact rfl; intro g w' hS'; clear hS; have hS := hS'; clear hS') | (((with_reducible apply l_store hS tabOk (i := 0)); exact rfl; exact rfl; exact rfl; exact rfl; exact rfl; exact rfl; exact rfl; exact rfl; ((exact (rfl : _ = [_, _, _, _, _]))); intro w' hS'; simp only [List.set] at hS'; clear hS; have hS := hS'; clear hS'))) | (first | (with_reducible apply c_seq) | (with_reducible apply c_region) | (with_reducible apply l_nil) | (with_reducible apply q_then) | (with_reducible apply c_skip)) | (((with_reducible apply c_iff); exact rfl; (exact rfl))))
    (focus ((with_reducible apply c_draw _ _ _ 11 (by kernel_rfl) (by kernel_rfl) hS); (simp only [List.take_succ_cons, List.take_zero, List.drop_succ_cons, List.drop_zero]); (repeat' ((first | ((with_reducible apply d_pure tabOk); exact rfl; exact rfl) | ((with_reducible apply d_load); exact rfl; (intro wd hd; replace hd : St _ _ wd _ := hd; (first | ((with_reducible apply Loads.sc tabOk); exact rfl; (first | exact hd.blkC 1 rfl rfl | exact hd.blkC 2 rfl rfl)) | ((with_reducible apply Loads.sl tabOk); exact rfl; ((exact hd.blkC 2 rfl rfl))))); exact rfl)))); all_goals ((with_reducible apply d_nil); intro w' hS'; clear hS; have hS := hS'; clear hS')))
    refine l_gets0 (g_updN hS (i := 3) mt_placed ut_string rfl rfl rfl rfl hL (k := stK I.name) trivial hno) ?_
    rintro - w9 ⟨es', cc', hL', hS'⟩
    simp only [List.set] at hS'
    clear hS; have hS := hS'; clear hS'
    repeat' ((first | (with_reducible apply c_seq) | (with_reducible apply l_nil) | (with_reducible apply q_then)))
    refine c_till (fun w' => (Asr.blk gw [.map (some rb), .map (some rp), .slice p os.length c, .int .i64 next]).holds w' ∧ (Asr.blk g3 [.string ⟨I.name.toArray⟩, .slice pn I.needs.length cn, .slice (some ⟨b, off, none⟩) I.segs.length cs, .slice py I.syms.length cy, .slice pr I.rels.length cr, .int .i64 I.entry]).holds w') 16 17 rfl hS (by kernel_rfl) ?_
    intro w10 hS'
    clear hS; have hS := hS'; clear hS'
    have hH := And.intro (hS.at_ (i := 2) rfl) (hS.at_ (i := 1) rfl)
    ((with_reducible apply t_pure 0 tabOk); exact rfl; kernel_rfl; kernel_rfl; kernel_rfl; exact rfl; exact (fun _ _ _ h => h); exact Or.inr hH; exact rfl; exact rfl)
    ((with_reducible apply t_pure 1 tabOk); exact rfl; kernel_rfl; kernel_rfl; kernel_rfl; exact rfl; exact (fun _ _ _ h => h); exact Or.inr hH; exact rfl; exact rfl)
    ((with_reducible apply t_pure 2 tabOk); exact rfl; kernel_rfl; kernel_rfl; kernel_rfl; exact rfl; exact (fun _ _ _ h => h); exact Or.inr hH; exact rfl; exact rfl)
    ((with_reducible apply t_pure 3 tabOk); exact rfl; kernel_rfl; kernel_rfl; kernel_rfl; exact rfl; exact (fun _ _ _ h => h); exact Or.inr hH; exact rfl; exact rfl)
    ((with_reducible apply t_takeL 4); exact rfl; kernel_rfl; kernel_rfl; kernel_rfl; kernel_rfl; exact rfl; exact rfl; exact (fun _ _ _ h => h); exact hH; exact rfl; (intro w2 hw2; ((with_reducible apply Loads.sl tabOk); exact rfl; exact holdC hw2.1 rfl)); exact rfl)
    ((with_reducible apply t_takeL 5); exact rfl; kernel_rfl; kernel_rfl; kernel_rfl; kernel_rfl; exact rfl; exact rfl; exact (fun _ _ _ h => h); exact hH; exact rfl; (intro w2 hw2; ((with_reducible apply Loads.st tabOk); exact rfl; (exact fun j v hj => by rw [Nat.zero_add]; exact holdC hw2.2 hj); exact rfl)); exact rfl)
    ((with_reducible apply t_pure 6 tabOk); exact rfl; kernel_rfl; kernel_rfl; kernel_rfl; exact rfl; exact (fun _ _ _ h => h); exact Or.inr hH; exact rfl; exact rfl)
    ((with_reducible apply t_pure 7 tabOk); exact rfl; kernel_rfl; kernel_rfl; kernel_rfl; exact rfl; exact (fun _ _ _ h => h); exact Or.inr hH; exact rfl; exact rfl)
    ((with_reducible apply t_pure 8 tabOk); exact rfl; kernel_rfl; kernel_rfl; kernel_rfl; exact rfl; exact (fun _ _ _ h => h); exact Or.inr hH; exact rfl; exact rfl)
    ((with_reducible apply t_takeL 9); exact rfl; kernel_rfl; kernel_rfl; kernel_rfl; kernel_rfl; exact rfl; exact rfl; exact (fun _ _ _ h => h); exact hH; exact rfl; (intro w2 hw2; ((with_reducible apply Loads.sc tabOk); exact rfl; exact holdC hw2.1 rfl)); exact rfl)
    refine t_one (i := 10) (by kernel_rfl) ?_
    refine p_gets rfl (Gets.of_runs fun a ha => r_mul rfl rfl (by omega) (by omega) a ha _) rfl ?_
    rintro _ _ ⟨rfl, rfl⟩
    refine ⟨Or.inr (Or.inr hH), ?_⟩
    refine t_one (i := 11) (by kernel_rfl) ?_
    ((with_reducible apply p_build tabOk); exact rfl; exact rfl; exact rfl; ((exact rfl)); exact rfl)
    refine ⟨Or.inr (Or.inr hH), ?_⟩
    refine t_one (i := 12) (by kernel_rfl) ?_
    refine p_gets rfl (g_bslice hS tabOk rfl rfl rfl rfl rfl rfl) rfl ?_
    rintro _ w' ⟨g9, rfl, hS'⟩
    clear hS; have hS := hS'; clear hS'
    refine ⟨Or.inr (Or.inr ⟨hS.at_ (i := 3) rfl, hS.at_ (i := 2) rfl⟩), ?_⟩
    refine t_one (i := 13) (by kernel_rfl) ?_
    refine p_gets rfl (g_append hS tabOk (i := 5) rfl rfl rfl rfl (hS.rowRo 0 rfl) rfl (by simp only [List.length_map]; omega)) rfl ?_
    rintro _ w' ⟨p', c', rfl, hS'⟩
    simp only [List.set] at hS'
    clear hS; have hS := hS'; clear hS'
    have hH := And.intro (hS.at_ (i := 3) rfl) (hS.at_ (i := 2) rfl)
    refine ⟨Or.inr (Or.inr hH), ?_⟩
    ((with_reducible apply t_pure 14 tabOk); exact rfl; kernel_rfl; kernel_rfl; kernel_rfl; exact rfl; exact (fun _ _ _ h => h); exact Or.inr hH; exact rfl; exact rfl)
    ((with_reducible apply t_pure 15 tabOk); exact rfl; kernel_rfl; kernel_rfl; kernel_rfl; exact rfl; exact (fun _ _ _ h => h); exact Or.inr hH; exact rfl; exact rfl)
    refine t_one (i := 16) (by kernel_rfl) ?_
    refine p_gets0 (Φ := fun _ w' => St _ _ w' _) rfl (g_store hS tabOk (i := 3) rfl rfl rfl rfl rfl (Nat.le_of_ble_eq_true rfl) (by intro u hu; simp [Value.cells] at hu; subst hu; rfl)) ?_
    intro _ w' hS'
    simp only [List.set] at hS'
    clear hS; have hS := hS'; clear hS'
    refine ⟨Or.inl rfl, ?_⟩
    refine t_done (by kernel_rfl) ?_
    repeat' ((first | (with_reducible apply c_seq) | (with_reducible apply q_then)))
    (focus ((with_reducible apply c_draw _ _ _ 12 (by kernel_rfl) (by kernel_rfl) hS); (simp only [List.take_succ_cons, List.take_zero, List.drop_succ_cons, List.drop_zero]); (repeat' ((first | ((with_reducible apply d_add); exact rfl; exact rfl; omega; omega; exact rfl) | ((with_reducible apply d_pure tabOk); exact rfl; exact rfl) | ((with_reducible apply d_load); exact rfl; (intro wd hd; replace hd : St _ _ wd _ := hd; (((with_reducible apply Loads.sc tabOk); exact rfl; (first | exact hd.blkC 1 rfl rfl | exact hd.blkC 3 rfl rfl)))); exact rfl)))); all_goals ((with_reducible apply d_nil); intro w' hS'; clear hS; have hS := hS'; clear hS')))
    repeat' (first | (first | ((with_reducible apply l_pure tabOk); exact rfl; exact rfl) | (((with_reducible apply l_store hS tabOk (i := 3)); exact rfl; exact rfl; exact rfl; exact rfl; exact rfl; exact rfl; exact rfl; exact rfl; ((exact (rfl : _ = [_, _, _, _]))); intro w' hS'; simp only [List.set] at hS'; clear hS; have hS := hS'; clear hS'))) | (first | (with_reducible apply c_seq) | (with_reducible apply c_region) | (with_reducible apply l_nil) | (with_reducible apply q_then) | (with_reducible apply c_ret)))
    (apply q_ret1); (repeat (first | exact ResL.nil | (apply ResL.tmp; exact rfl)))
    have hS2 := hS.drop.drop.drop
    clear hS
    refine ⟨rfl, p', c', es', cc', ⟨_, hL', ?_⟩, ?_⟩
    · rw [List.map_append, hLk, List.map_append]
      rfl
    · unfold LkS
      rw [List.length_append, List.map_append]
      rw [List.length_map] at hS2
      exact hS2
end Go.Proofs.Ytejnpppejalhfab
/- Which images a link places, in plain Lean. -/
namespace Go.Proofs.Ytejnpppejalhfab
open Go.RowKit Go.Sort

structure ImF (F : Nat → Prop) (w : World) (o : Ob) : Prop where
  needs : Sl F w 1 o.vn (o.im.needs.map stC)
  segs : Sl F w 5 o.vs (o.im.segs.map sgC)
  syms : Sl F w 2 o.vy (o.im.syms.map syC)
  rels : Sl F w 3 o.vr (o.im.rels.map rlC)
theorem ImF.now {F : Nat → Prop} {w w' : World} {Γ : List Asr} {o : Ob} (h : ImF F w o) (hS : St F w w' Γ) : ObV w' o := ⟨h.needs.now hS, h.segs.now hS, h.syms.now hS, h.rels.now hS⟩
def imgV (o : Ob) : Value := .agg (imC o.im o.vn o.vs o.vy o.vr).toArray
/-- the fields of o are those of one of B -/
def OfB (B : List Ob) (o : Ob) : Prop := ∃ a : Int, { o with at_ := a } ∈ B
/-- what a link may count on of an image -/
structure ImOk (I : Im) : Prop where
  s1 : 1 ≤ I.segs.length
  s2 : I.segs.all sgOk = true
  s3 : I.segs.length ≤ 6
def plStep (s : List Ob × Int) (o : Ob) : List Ob × Int := (plOs s.1 s.2 o.im o.vn o.vs o.vy o.vr, plNext s.1 s.2 o.im)
def lookB (B : List Ob) (nm : List UInt8) : Option Ob := B.find? fun o => decide (o.im.name = nm)
def needsP (B : List Ob) : List (List UInt8) → List Ob × Int → Option (List Ob × Int)
  | [], s => some s
  | nm :: r, s => match lookB B nm with
    | none => none
    | some o => needsP B r (plStep s o)
def allP (B : List Ob) : Nat → Nat → List Ob × Int → Option (List Ob × Int)
  | 0, _, s => some s
  | f + 1, n, s => match s.1[n]? with
    | none => some s
    | some o => match needsP B o.im.needs s with
      | none => none
      | some s' => allP B f (n + 1) s'
structure AllI (B : List Ob) (s : List Ob × Int) : Prop where
  sub : ∀ o ∈ s.1, OfB B o
  nd : (s.1.map fun o => o.im.name).Nodup
  lo : 1 ≤ s.2
  hi : s.2 ≤ 1 + 255 * s.1.length
theorem nodup_len {α : Type} [DecidableEq α] : ∀ {l m : List α}, l.Nodup → (∀ x ∈ l, x ∈ m) → l.length ≤ m.length
  | [], _, _, _ => by simp
  | a :: l, m, h, hs => by
    rw [List.nodup_cons] at h
    have ha := hs a (by simp)
    have := nodup_len (l := l) (m := m.erase a) h.2 fun x hx => by
      refine (List.mem_erase_of_ne ?_).2 (hs x (List.mem_cons_of_mem _ hx))
      rintro rfl
      exact h.1 hx
    rw [List.length_erase_of_mem ha] at this
    have hm : 0 < m.length := List.length_pos_of_mem ha
    rw [List.length_cons]
    omega
theorem AllI.len {B : List Ob} {s : List Ob × Int} (h : AllI B s) : s.1.length ≤ B.length := by
  have := nodup_len (m := B.map fun o => o.im.name) h.nd fun x hx => by
    obtain ⟨o, ho, rfl⟩ := List.mem_map.1 hx
    obtain ⟨a, ha⟩ := h.sub o ho
    exact List.mem_map.2 ⟨_, ha, rfl⟩
  simpa using this
theorem lastEnd_le {I : Im} (h : ImOk I) : 0 ≤ lastEnd I ∧ lastEnd I ≤ 255 := by
  unfold lastEnd
  split
  · rename_i s hs
    have := List.all_eq_true.1 h.s2 s (List.mem_of_getLast? hs)
    unfold sgOk at this
    have := of_decide_eq_true this
    omega
  · omega
theorem AllI.step {B : List Ob} {s : List Ob × Int} {o : Ob} (h : AllI B s) (ho : o ∈ B) (hI : ImOk o.im) : AllI B (plStep s o) := by
  unfold plStep plOs plNext
  by_cases hp : isPl s.1 o.im.name = true
  · rw [if_pos hp, if_pos hp]; exact h
  · rw [if_neg hp, if_neg hp]
    have hl := lastEnd_le hI
    refine ⟨fun x hx => ?_, ?_, ?_, ?_⟩
    · rcases List.mem_append.1 hx with h1 | h1
      · exact h.sub x h1
      · have : x = ⟨o.im, o.vn, o.vs, o.vy, o.vr, s.2 * 16⟩ := by simpa using h1
        exact ⟨o.at_, by rw [this]; exact ho⟩
    · rw [List.map_append, List.nodup_append]
      refine ⟨h.nd, by simp, fun a ha b hb => ?_⟩
      have : b = o.im.name := by simpa using hb
      subst this
      rintro rfl
      obtain ⟨x, hx, e⟩ := List.mem_map.1 ha
      exact hp (isPl_iff.2 ⟨x, hx, e⟩)
    · have := h.lo
      show 1 ≤ s.2 + lastEnd o.im
      omega
    · have := h.hi
      show s.2 + lastEnd o.im ≤ 1 + 255 * ((s.1 ++ [_]).length : Int)
      rw [List.length_append]
      simp only [List.length_cons, List.length_nil]
      omega
theorem lookB_mem {B : List Ob} {nm : List UInt8} {o : Ob} (h : lookB B nm = some o) : o ∈ B ∧ o.im.name = nm := by
  unfold lookB at h
  exact ⟨List.mem_of_find?_eq_some h, by simpa using List.find?_some h⟩
theorem lookB_none {B : List Ob} {nm : List UInt8} (h : lookB B nm = none) : ∀ o ∈ B, o.im.name ≠ nm := by
  unfold lookB at h
  rw [List.find?_eq_none] at h
  exact fun o ho => by simpa using h o ho
theorem needsP_step {B : List Ob} {l : List (List UInt8)} {k : Nat} {nm : List UInt8} {s : List Ob × Int} (h : l[k]? = some nm) : needsP B (l.drop k) s = match lookB B nm with
    | none => none
    | some o => needsP B (l.drop (k + 1)) (plStep s o) := by
  have : l.drop k = nm :: l.drop (k + 1) := by
    obtain ⟨h1, rfl⟩ := List.getElem?_eq_some_iff.1 h
    exact List.drop_eq_getElem_cons h1
  rw [this]; rfl
end Go.Proofs.Ytejnpppejalhfab
/- The linker places all that is wanted. -/
namespace Go.Proofs.Ytejnpppejalhfab
open Go.RowKit Go.Sort
theorem mt_byName : (Try.prog).underlying 98 = some (.map 9 27) := by kernel_rfl
theorem zt_image : ((Try.prog).info? 27).bind (·.zero) = some (.agg [.string ⟨[].toArray⟩, .slice none 0 0, .slice none 0 0, .slice none 0 0, .slice none 0 0, .int .i64 0].toArray) := by kernel_rfl
theorem plStep_len (s : List Ob × Int) (o : Ob) : s.1.length ≤ (plStep s o).1.length := by
  unfold plStep plOs
  split
  · exact Nat.le_refl _
  · simp
abbrev LkM (gw rb rp : Nat) (p : Option Addr) (c : Nat) (es : Array MapEntry) (cc : Nat) (s : List Ob × Int) : List Asr := LkS gw rb rp p c s.2 es cc s.1
def allV (r : Option (List Ob × Int)) : Int := match r with
  | none => 6
  | some s => if s.2 > 256 then 3 else 0
set_option maxRecDepth 100000 in
set_option maxHeartbeats 8000000 in
theorem all_fn {F : Nat → Prop} {w0 w : World} {Γ : List Asr} {gw rb rp c cc cb : Nat} {p : Option Addr} {es esb : Array MapEntry} {B : List Ob} {M : Ob} (hS0 : St F w0 w ((LkM gw rb rp p c es cc ([], 1) ++ [.obj rb (.map esb cb)]) ++ Γ)) (hP : PlI es []) (hB : MapG .string esb (B.map fun o => (stK o.im.name, imgV o))) (hF : ∀ o ∈ B, ImF (fps (LkM gw rb rp p c es cc ([], 1) ++ [.obj rb (.map esb cb)])) w o) (hok : ∀ o ∈ B, ImOk o.im) (hM : M ∈ B) (hl : B.length ≤ 7) :
    Fn Try.prog 47 [.pointer (some ⟨gw, 0, none⟩), imgV M] w (fun v w' => v = .int .i64 (allV (allP B 8 0 (plStep ([], 1) M))) ∧ ∃ p' c' es' cc' s, PlI es' s.1 ∧ AllI B s ∧ (∀ s', allP B 8 0 (plStep ([], 1) M) = some s' → s = s') ∧ St (fps (LkM gw rb rp p c es cc ([], 1) ++ [.obj rb (.map esb cb)])) w w' (LkM gw rb rp p' c' es' cc' s ++ [.obj rb (.map esb cb)])) := by
  have hMF := hF M hM
  have hMo := hok M hM
  have hA0 : AllI B ([], 1) := ⟨by simp, by simp, by simp, by simp⟩
  have hA1 := hA0.step hM hMo
  generalize hR : allP B 8 0 (plStep ([], 1) M) = R
  have hMv := hMF.now (St.startM hS0)
  have hMs := hMF.segs.nowM (Θ := LkM gw rb rp p c es cc ([], 1)) (St.startM hS0)
  refine fn_enter (fn := Try.f47) ⟨Try.func47, by kernel_rfl, by kernel_rfl⟩ (by exact rfl) Try.ntmps47 (by exact rfl) ?_
  have hS := St.startM hS0
  generalize hG : fps (LkM gw rb rp p c es cc ([], 1) ++ [.obj rb (.map esb cb)]) = G at hS hF ⊢
  obtain ⟨I, vn, vs, vy, vr, a0⟩ := M
  replace hMv : ImV w I vn vs vy vr := hMv
  replace hMo : ImOk I := hMo
  replace hMs : Sl (fps (LkM gw rb rp p c es cc ([], 1))) w 5 vs (I.segs.map sgC) := hMs
  obtain ⟨pn, cn, rfl⟩ := hMv.needs.len
  obtain ⟨ps, cs, rfl⟩ := hMv.segs.len
  obtain ⟨py, cy, rfl⟩ := hMv.syms.len
  obtain ⟨pr, cr, rfl⟩ := hMv.rels.len
  simp only [LkM, LkS, List.cons_append, List.nil_append] at hS
  unfold imgV imC
  repeat' (first | (first | ((with_reducible apply l_pure tabOk); exact rfl; exact rfl) | ((with_reducible apply l_load); exact rfl; (((with_reducible apply Loads.st tabOk); exact rfl; ((exact hS.blkR 0 rfl)); exact rfl)); exact rfl) | ((with_reducible apply l_box hS); exact rfl; exact rfl; exact rfl; intro g w' hS'; clear hS; have hS := hS'; clear hS')) | (first | (with_reducible apply c_seq) | (with_reducible apply c_region) | (with_reducible apply l_nil) | (with_reducible apply q_then)))
  replace hS := St.reorder [1, 2, 3, 4] hS (by decide) rfl
  have hMs1 := (hF _ hM).segs.nowM (Θ := LkM gw rb rp p c es cc ([], 1)) hS
  have hMv1 := (hF _ hM).now hS
  ((with_reducible apply l_call); exact rfl; exact rfl; exact place_fn (p := p) (c := c) (es := es) (cc := cc) (os := []) (next := 1) hS hP hMv1 hMs1 hMo.s1 hMo.s2 hMo.s3 (by omega) (by omega) (by simp); exact rfl; rintro _ w' ⟨rfl, p1, c1, es1, cc1, hP1, hS'⟩)
  replace hS := St.transM (Θ := LkM gw rb rp p c es cc ([], 1)) hS hS'
  clear hS' hMs1 hMv1 hMs hMv
  repeat' (first | (((with_reducible apply l_pure tabOk); exact rfl; exact rfl)) | (first | (with_reducible apply c_seq) | (with_reducible apply c_region) | (with_reducible apply l_nil) | (with_reducible apply q_then) | (with_reducible apply c_block)))
  replace hS : St G w w' (LkM gw rb rp p1 c1 es1 cc1 (plStep ([], 1) _) ++ [.obj rb (.map esb cb)]) := hS
  replace hP1 : PlI es1 (plStep ([], 1) _).1 := hP1
  generalize plStep ([], 1) _ = s1 at hS hP1 hA1 hR
  clear hMF hMo hM hP
  refine c_loopK (X := Nat × (List Ob × Int) × (Option Addr × Nat) × (Array MapEntry × Nat)) (fun x => [(5, .int .i64 (x.1 : Nat))]) [0] rfl (fun x => LkM gw rb rp x.2.2.1.1 x.2.2.1.2 x.2.2.2.1 x.2.2.2.2 x.2.1) (fun x => PlI x.2.2.2.1 x.2.1.1 ∧ AllI B x.2.1 ∧ R = allP B (8 - x.1) x.1 x.2.1 ∧ x.1 ≤ x.2.1.1.length) (fun x => 8 - x.1) (0, s1, (p1, c1), (es1, cc1)) (by repeat (first | exact Fr.sub_nil _ | (apply Fr.sub_cons; exact rfl))) ⟨hP1, hA1, hR.symm, Nat.zero_le _⟩ hS ?_
  clear hS hP1 hA1 hR
  rintro ⟨n, s, ⟨p2, c2⟩, ⟨es2, cc2⟩⟩ w2 ⟨hP2, hA2, hR2, hn⟩ hS
  dsimp only [LkM, LkS, List.cons_append, List.nil_append] at hP2 hA2 hR2 hn hS ⊢
  have hlen := hA2.len
  have hnx := hA2.hi
  have hnl := hA2.lo
  by_cases hlt : n < s.1.length
  rotate_left
  · have hd : s.1[n]? = none := List.getElem?_eq_none (by omega)
    have hR3 : R = some s := by
      rw [hR2]
      cases 8 - n with
      | zero => rfl
      | succ k => unfold allP; rw [hd]
    repeat' (first | (first | ((with_reducible apply l_pure tabOk); exact rfl; exact rfl) | ((with_reducible apply l_load); exact rfl; (first | ((with_reducible apply Loads.sc tabOk); exact rfl; ((exact hS.blkC 0 rfl rfl))) | ((with_reducible apply Loads.sl tabOk); exact rfl; ((exact hS.blkC 0 rfl rfl)))); exact rfl)) | (first | (with_reducible apply c_seq) | (with_reducible apply c_region) | (with_reducible apply l_nil) | (with_reducible apply q_then) | (with_reducible apply c_skip) | (with_reducible apply c_exit) | (with_reducible apply c_ret) | (with_reducible apply q_then_exit) | (with_reducible apply q_then_ret) | (with_reducible apply q_block_exit)) | (((with_reducible apply c_ifd); exact rfl; all_goals (intro hb hp; try (exfalso; omega)))))
    · (apply q_ret1); (repeat (first | exact ResL.nil | (apply ResL.tmp; exact rfl)))
      refine ⟨?_, p2, c2, es2, cc2, s, hP2, hA2, fun s' hs' => ?_, hS⟩
      · rw [hR3]
        show _ = Value.int .i64 (if s.2 > 256 then 3 else 0)
        rw [if_pos (by omega)]
      · rw [hR3] at hs'; exact Option.some.inj hs'
    · (apply q_ret1); (repeat (first | exact ResL.nil | (apply ResL.tmp; exact rfl)))
      refine ⟨?_, p2, c2, es2, cc2, s, hP2, hA2, fun s' hs' => ?_, hS⟩
      · rw [hR3]
        show _ = Value.int .i64 (if s.2 > 256 then 3 else 0)
        rw [if_neg (by omega)]
      · rw [hR3] at hs'; exact Option.some.inj hs'
  obtain ⟨o, ho⟩ := lt_get (l := s.1) (i := n) (by omega)
  obtain ⟨a1, hob⟩ := hA2.sub o (List.mem_of_getElem? ho)
  have hoF := hF _ hob
  have hrow := map_get (f := obC) ho
  have hR3 : R = match needsP B o.im.needs s with
      | none => none
      | some s' => allP B (8 - (n + 1)) (n + 1) s' := by
    rw [hR2, show 8 - n = (8 - (n + 1)) + 1 by omega]
    show (match s.1[n]? with
      | none => some s
      | some o => match needsP B o.im.needs s with
        | none => none
        | some s' => allP B (8 - (n + 1)) (n + 1) s') = _
    rw [ho]
  clear hR2
  obtain ⟨J, un, us, uy, ur, at_⟩ := o
  have hnd : Sl G w 1 un (J.needs.map stC) := hoF.needs
  obtain ⟨qn, dn, rfl⟩ := (hnd.now hS).len
  have hbn := (hnd.now hS).bound
  unfold obC at hrow
  rcases hS.rowForm 2 rfl with ⟨h1, h2⟩ | ⟨b, cap, h1, h2, h3⟩
  · exfalso
    simp only [Value.slice.injEq] at h1
    omega
  simp only [Value.slice.injEq] at h1
  obtain ⟨rfl, -, rfl⟩ := h1
  dsimp only at hR3 hrow
  clear hob hoF h2 h3
  repeat' (first | (first | ((with_reducible apply l_pure tabOk); exact rfl; exact rfl) | ((with_reducible apply l_load); exact rfl; (((with_reducible apply Loads.sl tabOk); exact rfl; (first | exact hS.blkC 0 rfl rfl | exact hS.rowCj 2 rfl (by assumption) rfl))); exact rfl) | ((with_reducible apply l_ix tabOk); exact rfl; exact rfl; exact rfl; ((exact rfl)); ((omega)); exact rfl)) | (first | (with_reducible apply c_seq) | (with_reducible apply c_region) | (with_reducible apply l_nil) | (with_reducible apply q_then) | (with_reducible apply c_skip) | (with_reducible apply c_block)) | (((with_reducible apply c_ifd); exact rfl; all_goals (intro hb hp; try (exfalso; omega)))))
  refine c_loopK (X := Nat × (List Ob × Int) × (Option Addr × Nat) × (Array MapEntry × Nat)) (fun x => [(32, .int .i64 (x.1 : Nat))]) [0, 5, 30, 31] rfl (fun x => LkM gw rb rp x.2.2.1.1 x.2.2.1.2 x.2.2.2.1 x.2.2.2.2 x.2.1) (fun x => PlI x.2.2.2.1 x.2.1.1 ∧ AllI B x.2.1 ∧ needsP B J.needs s = needsP B (J.needs.drop x.1) x.2.1 ∧ n < x.2.1.1.length ∧ x.1 ≤ J.needs.length) (fun x => J.needs.length - x.1) (0, s, (some ⟨b, 0, none⟩, c2), (es2, cc2)) (by repeat (first | exact Fr.sub_nil _ | (apply Fr.sub_cons; exact rfl))) ⟨hP2, hA2, rfl, hlt, Nat.zero_le _⟩ hS ?_
  clear hS hP2 hrow
  rintro ⟨k, s3, ⟨p3, c3⟩, ⟨es3, cc3⟩⟩ w3 ⟨hP3, hA3, hN3, hn3, hk3⟩ hS
  dsimp only [LkM, LkS, List.cons_append, List.nil_append] at hP3 hA3 hN3 hn3 hk3 hS ⊢
  have hlen3 := hA3.len
  have hnx3 := hA3.hi
  have hnl3 := hA3.lo
  by_cases hkt : k < J.needs.length
  rotate_left
  · rw [List.drop_of_length_le (by omega)] at hN3
    rw [hN3] at hR3
    replace hR3 : R = allP B (8 - (n + 1)) (n + 1) s3 := hR3
    repeat' (first | (first | ((with_reducible apply l_add); exact rfl; exact rfl; omega; omega; exact rfl) | ((with_reducible apply l_pure tabOk); exact rfl; exact rfl)) | (first | (with_reducible apply c_seq) | (with_reducible apply c_region) | (with_reducible apply l_nil) | (with_reducible apply q_then) | (with_reducible apply c_exit) | (with_reducible apply q_then_exit) | (with_reducible apply q_block) | (with_reducible apply q_block_exit)) | (((with_reducible apply c_ifd); exact rfl; all_goals (intro hb hp; try (exfalso; omega)))))
    exact q_loopK (n + 1, s3, (p3, c3), (es3, cc3)) (by repeat (first | exact Fr.sub_nil _ | (apply Fr.sub_cons; exact rfl))) ⟨hP3, hA3, hR3, by show n + 1 ≤ s3.1.length; omega⟩ hS (by show 8 - (n + 1) < 8 - n; omega)
  obtain ⟨nm, hnm⟩ := lt_get (l := J.needs) (i := k) (by omega)
  have hrow := map_get (f := stC) hnm
  obtain ⟨b2, off2, rfl, hro⟩ := hnd.atF (i := k) hkt
  rw [needsP_step hnm] at hN3
  unfold stC at hrow
  cases hlk : lookB B nm with
  | none =>
    rw [hlk] at hN3
    replace hN3 : needsP B J.needs s = none := hN3
    rw [hN3] at hR3
    replace hR3 : R = none := hR3
    have hno : ∀ v, (stK nm, v) ∉ (B.map fun o => (stK o.im.name, imgV o)) := fun v hv => by
      obtain ⟨x, hx, e⟩ := List.mem_map.1 hv
      have e1 := congrArg Prod.fst e
      unfold stK at e1
      exact lookB_none hlk x hx (by simpa using e1)
    repeat' (first | (first | ((with_reducible apply l_pure tabOk); exact rfl; exact rfl) | ((with_reducible apply l_load); exact rfl; (((with_reducible apply Loads.sc tabOk); exact rfl; (first | exact hS.blkC 0 rfl rfl | exact hS.roC0 (by assumption) (by assumption) rfl))); exact rfl) | ((with_reducible apply l_ix tabOk); exact rfl; exact rfl; exact rfl; ((exact rfl)); ((omega)); exact rfl) | ((with_reducible apply l_alloc hS tabOk); exact rfl; exact rfl; exact rfl; intro g w' hS'; clear hS; have hS := hS'; clear hS') | (((with_reducible apply l_store hS tabOk (i := 0)); exact rfl; exact rfl; exact rfl; exact rfl; exact rfl; exact rfl; exact rfl; exact rfl; ((exact (rfl : _ = [_, _, _, _, _, _]))); intro w' hS'; simp only [List.set] at hS'; clear hS; have hS := hS'; clear hS'))) | (first | (with_reducible apply c_seq) | (with_reducible apply c_region) | (with_reducible apply l_nil) | (with_reducible apply q_then) | (with_reducible apply c_skip) | (with_reducible apply c_block) | (with_reducible apply c_ret) | (with_reducible apply q_then_ret) | (with_reducible apply q_block_ret)) | (first | ((with_reducible apply c_ift); exact rfl; (exact rfl)) | ((with_reducible apply c_ifd); exact rfl; all_goals (intro hb hp; try (exfalso; omega)))) | ((with_reducible apply l_gets); exact rfl; exact g_lookN hS (i := 3) mt_byName ut_string zt_image rfl rfl rfl hB (k := stK nm) trivial hno true; rintro _ _ ⟨rfl, rfl⟩))
    (apply q_ret1); (repeat (first | exact ResL.nil | (apply ResL.tmp; exact rfl)))
    refine ⟨by rw [hR3]; rfl, p3, c3, es3, cc3, s3, hP3, hA3, fun s' hs' => (by rw [hR3] at hs'; cases hs'), ?_⟩
    exact hS.drop
  | some y =>
    rw [hlk] at hN3
    replace hN3 : needsP B J.needs s = needsP B (J.needs.drop (k + 1)) (plStep s3 y) := hN3
    obtain ⟨hy, hyn⟩ := lookB_mem hlk
    have hv : (stK nm, imgV y) ∈ (B.map fun o => (stK o.im.name, imgV o)) := List.mem_map.2 ⟨y, hy, by rw [hyn]⟩
    have hyF := hF _ hy
    have hyo := hok _ hy
    have hA4 := hA3.step hy hyo
    have hpl := plStep_len s3 y
    obtain ⟨Y, wn, ws, wy, wr, b0⟩ := y
    have hyv : ImV w3 Y wn ws wy wr := hyF.now hS
    obtain ⟨rn, en, rfl⟩ := hyv.needs.len
    obtain ⟨rs, es_, rfl⟩ := hyv.segs.len
    obtain ⟨ry, ey, rfl⟩ := hyv.syms.len
    obtain ⟨rr, er, rfl⟩ := hyv.rels.len
    unfold imgV imC at hv
    repeat' (first | (first | ((with_reducible apply l_pure tabOk); exact rfl; exact rfl) | ((with_reducible apply l_load); exact rfl; (first | ((with_reducible apply Loads.sc tabOk); exact rfl; (first | exact hS.blkC 0 rfl rfl | exact hS.roC0 (by assumption) (by assumption) rfl)) | ((with_reducible apply Loads.st tabOk); exact rfl; ((exact hS.blkR 0 rfl)); exact rfl)); exact rfl) | ((with_reducible apply l_ix tabOk); exact rfl; exact rfl; exact rfl; ((exact rfl)); ((omega)); exact rfl) | ((with_reducible apply l_alloc hS tabOk); exact rfl; exact rfl; exact rfl; intro g w' hS'; clear hS; have hS := hS'; clear hS') | (((with_reducible apply l_store hS tabOk (i := 0)); exact rfl; exact rfl; exact rfl; exact rfl; exact rfl; exact rfl; exact rfl; exact rfl; ((exact (rfl : _ = [_, _, _, _, _, _]))); intro w' hS'; simp only [List.set] at hS'; clear hS; have hS := hS'; clear hS'))) | (first | (with_reducible apply c_seq) | (with_reducible apply c_region) | (with_reducible apply l_nil) | (with_reducible apply q_then) | (with_reducible apply c_skip) | (with_reducible apply c_block)) | (first | ((with_reducible apply c_iff); exact rfl; (exact rfl)) | ((with_reducible apply c_ifd); exact rfl; all_goals (intro hb hp; try (exfalso; omega)))) | ((with_reducible apply l_gets); exact rfl; exact g_look hS (i := 3) mt_byName ut_string rfl rfl rfl hB (k := stK nm) trivial hv true; rintro _ _ ⟨rfl, rfl⟩))
    repeat' (fail)
    replace hS := St.reorder [1, 2, 3, 4] hS (by decide) rfl
    have hMs1 := hyF.segs.nowM (Θ := LkM gw rb rp p3 c3 es3 cc3 s3) hS
    have hMv1 := hyF.now hS
    ((with_reducible apply l_call); exact rfl; exact rfl; exact place_fn (p := p3) (c := c3) (es := es3) (cc := cc3) (os := s3.1) (next := s3.2) hS hP3 hMv1 hMs1 hyo.s1 hyo.s2 hyo.s3 (by omega) (by omega) (by omega); exact rfl; rintro _ w' ⟨rfl, p4, c4, es4, cc4, hP4, hS'⟩)
    replace hS := St.transM (Θ := LkM gw rb rp p3 c3 es3 cc3 s3) hS hS'
    clear hS' hMs1 hMv1
    obtain ⟨s4, hs4⟩ : ∃ s4, s4 = plStep s3 ⟨Y, .slice rn Y.needs.length en, .slice rs Y.segs.length es_, .slice ry Y.syms.length ey, .slice rr Y.rels.length er, b0⟩ := ⟨_, rfl⟩
    rw [← hs4] at hA4 hN3 hpl
    replace hP4 : PlI es4 s4.1 := by rw [hs4]; exact hP4
    replace hS : St G w w' (LkM gw rb rp p4 c4 es4 cc4 s4 ++ [.obj rb (.map esb cb)]) := by rw [hs4]; exact hS
    clear hs4
    simp only [LkM, LkS, List.cons_append, List.nil_append] at hS
    repeat' (first | (first | ((with_reducible apply l_add); exact rfl; exact rfl; omega; omega; exact rfl) | ((with_reducible apply l_pure tabOk); exact rfl; exact rfl)) | (first | (with_reducible apply c_region) | (with_reducible apply l_nil) | (with_reducible apply q_then) | (with_reducible apply q_block)))
    exact q_loopK (k + 1, s4, (p4, c4), (es4, cc4)) (by repeat (first | exact Fr.sub_nil _ | (apply Fr.sub_cons; exact rfl))) ⟨hP4, hA4, hN3, Nat.lt_of_lt_of_le hn3 hpl, by show k + 1 ≤ _; omega⟩ hS (by show _ - (k + 1) < _ - k; omega)
end Go.Proofs.Ytejnpppejalhfab
/- Sheets and what is linked, in plain Lean. -/
namespace Go.Proofs.Ytejnpppejalhfab
open Go.RowKit Go.Sort

structure Fx where
  off : Int
  bytes : List UInt8
  deriving DecidableEq
structure Sh where
  page : Int
  data : List UInt8
  fixes : List Fx
  deriving DecidableEq
def fxC (f : Fx) : List Value := [.int .i64 f.off, .string ⟨f.bytes.toArray⟩]
def shC (s : Sh) (u : Value) : List Value := [.int .i64 s.page, .string ⟨s.data.toArray⟩, u]
/-- a sheet's slice of fixes in memory -/
abbrev ShV (w : World) (s : Sh) (u : Value) : Prop := Sl nF w 2 u (s.fixes.map fxC)
def fxOne (free : Int) (f : Fx) : Bool := decide (free ≤ f.off ∧ f.off ≤ 16 ∧ f.bytes ≠ [] ∧ (f.bytes.length : Int) ≤ 16 - f.off)
def fxEnd (f : Fx) : Int := f.off + f.bytes.length
def fxOk : Int → List Fx → Bool
  | _, [] => true
  | free, f :: r => fxOne free f && fxOk (fxEnd f) r
def rightS (s : Sh) : Bool := decide ((1 ≤ s.page ∧ s.page ≤ 255) ∧ s.data.length = 16) && fxOk 0 s.fixes
theorem drop_at {α : Type} {l : List α} {i : Nat} {x : α} (h : l[i]? = some x) : l.drop i = x :: l.drop (i + 1) := by
  obtain ⟨h1, rfl⟩ := List.getElem?_eq_some_iff.1 h
  exact List.drop_eq_getElem_cons h1
theorem fxOk_step {l : List Fx} {i : Nat} {f : Fx} {free : Int} (h : l[i]? = some f) : fxOk free (l.drop i) = (fxOne free f && fxOk (fxEnd f) (l.drop (i + 1))) := by
  rw [drop_at h]; rfl
/-- a page, filled -/
def fillF (d : List UInt8) (l : List Fx) : List UInt8 := l.foldl (fun d f => splice d f.off.toNat f.bytes) d
def fillS (s : Sh) : List UInt8 := fillF s.data s.fixes
theorem splice_len {s t : List UInt8} {off : Nat} (h : off + t.length ≤ s.length) : (splice s off t).length = s.length := by
  unfold splice
  simp only [List.length_append, List.length_take, List.length_drop]
  omega
end Go.Proofs.Ytejnpppejalhfab
/- Laws on new blocks, each under a name of its own. -/
namespace Go.Proofs.Ytejnpppejalhfab
open Go.RowKit Go.Sort
section
variable {P : Program} {w : World} {ops : Array Oper} {rest : List Oper} {o : Oper} {a : Act} {Q : Exit → Act → World → Prop}
/-- the same, the new block under a name of its own -/
theorem wpList_new_row' (hgd : o.guard = none) (dst : Option Tmp) (hdst : o.dst = dst) (L : List Value) (t : TypeId)
    (hrun : (execOp a.eval o).run P w = .ok (.value (.pointer (some ⟨w.heap.size, 0, none⟩))) (w.alloc (.cells L.toArray t))) (B : Nat) (w0 : World) (hb : Below B w0 w) (hB : B ≤ w.heap.size)
    (next : ∀ g w', HoldL w' g L → B ≤ g → Below B w0 w' → (∀ k, k < w.heap.size → w'.heap[k]? = w.heap[k]?) → (∀ k, k < w.heap.size → k ≠ g) → wpList P ops Q rest (a.put dst (.pointer (some ⟨g, 0, none⟩))) w') :
    wpList P ops Q (o :: rest) a w :=
  wpList_new_row hgd dst hdst L t hrun B w0 hb hB fun w' h1 h2 _ h4 => next _ w' h1 hB h2 h4 fun _ h => Nat.ne_of_lt h
end
end Go.Proofs.Ytejnpppejalhfab
/- Plain laws on areas and boards, with no program in sight. -/
namespace Go.Proofs.Ytejnpppejalhfab

/-- an area: its first page, how many, its Prot, is it Zero -/
structure Ar where
  pg : Int
  n : Int
  prot : Int
  z : Bool
deriving DecidableEq

namespace Ar
def fin (a : Ar) : Int := a.pg + a.n
def mk' (a : Ar) : Int := 1 + 2 * a.prot + (if a.z then 8 else 0)
def ok (a : Ar) : Prop := 1 ≤ a.pg ∧ a.pg ≤ 255 ∧ 1 ≤ a.n ∧ a.n ≤ 256 - a.pg ∧ 0 ≤ a.prot ∧ a.prot ≤ 3
def alike (a b : Ar) : Prop := a.fin = b.pg ∧ a.prot = b.prot ∧ a.z = b.z
end Ar
instance (a b : Ar) : Decidable (a.alike b) := by unfold Ar.alike; infer_instance
instance (a : Ar) : Decidable a.ok := by unfold Ar.ok; infer_instance

/-- areas that rise from the page e on -/
def RiseF : Int → List Ar → Prop
  | _, [] => True
  | e, a :: l => a.ok ∧ e ≤ a.pg ∧ RiseF a.fin l
/-- no two neighbours are alike -/
def Apart : List Ar → Prop
  | [] => True
  | [_] => True
  | a :: b :: l => ¬ a.alike b ∧ Apart (b :: l)
def Good (l : List Ar) : Prop := RiseF 1 l ∧ Apart l

/-- the mark of a page -/
def paint : List Ar → Int → Int
  | [], _ => 0
  | a :: l, p => if a.pg ≤ p ∧ p < a.fin then a.mk' else paint l p

theorem mk_prot {a : Ar} (h : a.ok) : (a.mk' - 1) % 8 / 2 = a.prot := by
  unfold Ar.ok at h; unfold Ar.mk'; split <;> omega
theorem mk_z {a : Ar} (h : a.ok) : decide (8 ≤ a.mk' - 1) = a.z := by
  unfold Ar.ok at h; unfold Ar.mk'; cases a.z <;> simp <;> omega
theorem mk_inj {a b : Ar} (ha : a.ok) (hb : b.ok) (h : a.mk' = b.mk') : a.prot = b.prot ∧ a.z = b.z := by
  refine ⟨?_, ?_⟩
  · rw [← mk_prot ha, ← mk_prot hb, h]
  · rw [← mk_z ha, ← mk_z hb, h]

theorem paint_cons_in {a : Ar} {l : List Ar} {p : Int} (h : a.pg ≤ p ∧ p < a.fin) : paint (a :: l) p = a.mk' := by
  simp only [paint]; rw [if_pos h]
theorem paint_cons_out {a : Ar} {l : List Ar} {p : Int} (h : ¬ (a.pg ≤ p ∧ p < a.fin)) : paint (a :: l) p = paint l p := by
  simp only [paint]; rw [if_neg h]

/-! THE TEST OF AREAS, by index. -/
/-- the area at i may be, behind the one ahead of it -/
def OkAt (l : List Ar) (i : Nat) : Prop := ∃ a, l[i]? = some a ∧ a.ok ∧ ∀ j b, i = j + 1 → l[j]? = some b → b.fin ≤ a.pg ∧ ¬ b.alike a

theorem okAt_cons {a b : Ar} {l : List Ar} {i : Nat} : OkAt (a :: b :: l) (i + 2) ↔ OkAt (b :: l) (i + 1) := by
  unfold OkAt
  constructor
  · rintro ⟨c, h1, h2, h3⟩
    exact ⟨c, h1, h2, fun j d hj hd => h3 (j + 1) d (by omega) (by simpa using hd)⟩
  · rintro ⟨c, h1, h2, h3⟩
    refine ⟨c, h1, h2, fun j d hj hd => ?_⟩
    cases j with
    | zero => omega
    | succ j => exact h3 j d (by omega) (by simpa using hd)

theorem riseF_mono {l : List Ar} {e e' : Int} (h : RiseF e l) (he : e' ≤ e) : RiseF e' l := by
  cases l with
  | nil => trivial
  | cons a l => exact ⟨h.1, by have := h.2.1; omega, h.2.2⟩

theorem good_iff (l : List Ar) : Good l ↔ ∀ i, i < l.length → OkAt l i := by
  unfold Good
  induction l with
  | nil => exact ⟨fun _ i hi => by simp at hi, fun _ => ⟨trivial, trivial⟩⟩
  | cons a l ih =>
    cases l with
    | nil =>
      constructor
      · rintro ⟨⟨h1, h2, _⟩, _⟩ i hi
        have : i = 0 := by simpa using hi
        subst this
        exact ⟨a, rfl, h1, fun j b hj => by omega⟩
      · intro h
        obtain ⟨c, hc, h1, _⟩ := h 0 (by simp)
        simp at hc
        subst hc
        exact ⟨⟨h1, by unfold Ar.ok at h1; omega, trivial⟩, trivial⟩
    | cons b l =>
      constructor
      · rintro ⟨⟨h1, h2, h3⟩, h4, h5⟩ i hi
        have hb : Good (b :: l) := ⟨riseF_mono h3 (by unfold Ar.fin; unfold Ar.ok at h1; omega), h5⟩
        match i with
        | 0 => exact ⟨a, rfl, h1, fun j b hj => by omega⟩
        | 1 =>
          obtain ⟨c, hc, g1, _⟩ := ih.1 hb 0 (by simp)
          simp at hc
          subst hc
          refine ⟨b, rfl, g1, fun j d hj hd => ?_⟩
          obtain rfl : j = 0 := by omega
          simp at hd
          subst hd
          exact ⟨h3.2.1, h4⟩
        | i + 2 => exact okAt_cons.2 (ih.1 hb (i + 1) (by simpa using hi))
      · intro h
        have hb : RiseF 1 (b :: l) ∧ Apart (b :: l) := ih.2 fun i hi => by
          cases i with
          | zero =>
            obtain ⟨c, hc, g1, _⟩ := h 1 (by simp)
            exact ⟨c, by simpa using hc, g1, fun j d hj => by omega⟩
          | succ i => exact okAt_cons.1 (h (i + 2) (by simpa using hi))
        obtain ⟨c, hc, g1, _⟩ := h 0 (by simp)
        simp at hc
        subst hc
        obtain ⟨d, hd, g2, g3⟩ := h 1 (by simp)
        simp at hd
        subst hd
        obtain ⟨g4, g5⟩ := g3 0 a rfl rfl
        exact ⟨⟨g1, by unfold Ar.ok at g1; omega, ⟨hb.1.1, g4, hb.1.2.2⟩⟩, g5, hb.2⟩

instance (l : List Ar) : Decidable (Good l) := decidable_of_iff (∀ i : Fin l.length, l[i].ok ∧ ∀ h : 0 < i.1, l[i.1 - 1].fin ≤ l[i].pg ∧ ¬ l[i.1 - 1].alike l[i]) (by
  rw [good_iff]
  constructor
  · intro h i hi
    obtain ⟨h1, h2⟩ := h ⟨i, hi⟩
    refine ⟨l[i], by simp [hi], h1, fun j b hj hb => ?_⟩
    subst hj
    obtain ⟨_, rfl⟩ := List.getElem?_eq_some_iff.1 hb
    exact h2 (by simp)
  · intro h i
    obtain ⟨a, ha, h1, h2⟩ := h i.1 i.2
    obtain ⟨_, rfl⟩ := List.getElem?_eq_some_iff.1 ha
    refine ⟨h1, fun h0 => ?_⟩
    exact h2 (i.1 - 1) _ (by omega) (List.getElem?_eq_some_iff.2 ⟨by omega, rfl⟩))
/-- what Check answers: 0 OK, 1 ErrForm, 2 ErrMany -/
def checkI (l : List Ar) : Int := if 255 < l.length then 2 else if Good l then 0 else 1

/-! BOARDS -/
theorem apart_snoc {l : List Ar} {a : Ar} (h : Apart l) (hl : ∀ b, l.getLast? = some b → ¬ b.alike a) : Apart (l ++ [a]) := by
  induction l with
  | nil => trivial
  | cons c l ih =>
    cases l with
    | nil => exact ⟨hl c rfl, trivial⟩
    | cons d l => exact ⟨h.1, ih h.2 (fun b hb => hl b (by simpa using hb))⟩
theorem apart_last {l : List Ar} {a a' : Ar} (h : Apart (l ++ [a])) (h1 : a'.pg = a.pg) (h2 : a'.prot = a.prot) (h3 : a'.z = a.z) : Apart (l ++ [a']) := by
  induction l with
  | nil => trivial
  | cons c l ih =>
    cases l with
    | nil =>
      refine ⟨fun hc => h.1 ?_, trivial⟩
      unfold Ar.alike at *
      rw [h1, h2, h3] at hc
      exact hc
    | cons d l => exact ⟨h.1, ih h.2⟩
end Go.Proofs.Ytejnpppejalhfab
/- Plain laws on areas: cut, joined, turned. -/
namespace Go.Proofs.Ytejnpppejalhfab

def endOf : Int → List Ar → Int
  | e, [] => e
  | _, a :: l => endOf a.fin l
theorem riseF_append {o x : List Ar} : ∀ {e : Int}, RiseF e (o ++ x) ↔ RiseF e o ∧ RiseF (endOf e o) x := by
  induction o with
  | nil => intro e; simp [RiseF, endOf]
  | cons a o ih => intro e; simp only [List.cons_append, RiseF, endOf, ih]; exact ⟨fun ⟨a, b, c, d⟩ => ⟨⟨a, b, c⟩, d⟩, fun ⟨⟨a, b, c⟩, d⟩ => ⟨a, b, c, d⟩⟩
theorem endOf_ge {o : List Ar} : ∀ {e : Int}, RiseF e o → e ≤ endOf e o := by
  induction o with
  | nil => intro e _; exact Int.le_refl _
  | cons a o ih =>
    intro e h
    have := ih h.2.2
    have h1 := h.1
    have h2 := h.2.1
    unfold Ar.ok at h1
    unfold endOf
    unfold Ar.fin at *
    omega
theorem paint_prefix {x y : List Ar} {p : Int} (h : paint x p = paint y p) (o : List Ar) : paint (o ++ x) p = paint (o ++ y) p := by
  induction o with
  | nil => exact h
  | cons a o ih => simp only [List.cons_append, paint]; rw [ih]

/-- two alike neighbours as one -/
theorem merge {a b : Ar} {l : List Ar} {e : Int} (h : RiseF e (b :: a :: l)) (hal : b.alike a) :
    RiseF e ({ b with n := b.n + a.n } :: l) ∧ ∀ p, paint ({ b with n := b.n + a.n } :: l) p = paint (b :: a :: l) p := by
  obtain ⟨h1, h2, h3, h4, h5⟩ := h
  obtain ⟨q1, q2, q3⟩ := hal
  have k1 := h1
  have k3 := h3
  unfold Ar.ok at k1 k3
  have hf : ({ b with n := b.n + a.n } : Ar).fin = a.fin := by unfold Ar.fin at *; simp only; omega
  refine ⟨⟨?_, h2, by rw [hf]; exact h5⟩, fun p => ?_⟩
  · unfold Ar.ok; simp only; unfold Ar.fin at *; omega
  · have hm : ({ b with n := b.n + a.n } : Ar).mk' = b.mk' := rfl
    have hm2 : a.mk' = b.mk' := by unfold Ar.mk'; rw [q2, q3]
    simp only [paint]
    rw [hf, hm, hm2]
    by_cases c1 : b.pg ≤ p ∧ p < b.fin
    · rw [if_pos c1, if_pos (by unfold Ar.fin at *; omega)]
    · rw [if_neg c1]
      by_cases c2 : a.pg ≤ p ∧ p < a.fin
      · rw [if_pos c2, if_pos (by unfold Ar.fin at *; omega)]
      · rw [if_neg c2, if_neg (by unfold Ar.fin at *; omega)]

def joinStep (out : List Ar) (a : Ar) : List Ar :=
  match out.getLast? with
  | some b => if b.alike a then out.dropLast ++ [{ b with n := b.n + a.n }] else out ++ [a]
  | none => out ++ [a]
def joined (l : List Ar) : List Ar := l.foldl joinStep []

theorem join_inv (l : List Ar) : ∀ out, RiseF 1 (out ++ l) → Apart out → Good (l.foldl joinStep out) ∧ ∀ p, paint (l.foldl joinStep out) p = paint (out ++ l) p := by
  induction l with
  | nil => intro out h ha; rw [List.append_nil] at *; exact ⟨⟨h, ha⟩, fun _ => rfl⟩
  | cons a l ih =>
    intro out h ha
    rw [List.foldl_cons]
    have plain : (∀ b, out.getLast? = some b → ¬ b.alike a) → Good (l.foldl joinStep (out ++ [a])) ∧ ∀ p, paint (l.foldl joinStep (out ++ [a])) p = paint (out ++ a :: l) p := fun hb => by
      have := ih (out ++ [a]) (by simpa using h) (apart_snoc ha hb)
      simpa using this
    cases hg : out.getLast? with
    | none =>
      have e : joinStep out a = out ++ [a] := by unfold joinStep; rw [hg]
      rw [e]
      exact plain (by rw [hg]; intro b hb; cases hb)
    | some b =>
      by_cases hal : b.alike a
      · have e : joinStep out a = out.dropLast ++ [{ b with n := b.n + a.n }] := by unfold joinStep; rw [hg]; simp only; rw [if_pos hal]
        rw [e]
        obtain ⟨o, rfl⟩ := List.getLast?_eq_some_iff.1 hg
        rw [List.dropLast_concat]
        have h' : RiseF 1 (o ++ (b :: a :: l)) := by simpa using h
        obtain ⟨g1, g2⟩ := riseF_append.1 h'
        obtain ⟨m1, m2⟩ := merge g2 hal
        have key := ih (o ++ [{ b with n := b.n + a.n }]) (by simpa using riseF_append.2 ⟨g1, m1⟩) (apart_last ha rfl rfl rfl)
        refine ⟨key.1, fun p => ?_⟩
        rw [key.2 p]
        simpa using paint_prefix (m2 p) o
      · have e : joinStep out a = out ++ [a] := by unfold joinStep; rw [hg]; simp only; rw [if_neg hal]
        rw [e]
        exact plain (by rw [hg]; intro c hc; cases hc; exact hal)
/-- JOINED: good areas, with the same marks -/
theorem joined_spec {l : List Ar} (h : RiseF 1 l) : Good (joined l) ∧ ∀ p, paint (joined l) p = paint l p := join_inv l [] h trivial

/-! CUT -/
/-! TURNED -/
def sumN : List Ar → Int
  | [] => 0
  | a :: l => a.n + sumN l
end Go.Proofs.Ytejnpppejalhfab
/- Areas in memory; the contracts of span, end, one. -/
namespace Go.Proofs.Ytejnpppejalhfab
open Go.RowKit Go.Sort

def arC (a : Ar) : List Value := [.int .i64 a.pg, .int .i64 a.n, .int .i64 a.prot, .bool a.z]
/-- the cells of an area's place -/
def CellsAr (w : World) (b o : Nat) (a : Ar) : Prop :=
  w.cell? ⟨b, o, none⟩ = some (.int .i64 a.pg) ∧ w.cell? ⟨b, o + 1, none⟩ = some (.int .i64 a.n) ∧ w.cell? ⟨b, o + 2, none⟩ = some (.int .i64 a.prot) ∧ w.cell? ⟨b, o + 3, none⟩ = some (.bool a.z)
/-- the slice v holds these areas -/
def SlAr (w : World) (v : Value) (L : List Ar) : Prop :=
  (∃ p c, v = .slice p 0 c ∧ L = []) ∨ ∃ b off cap, v = .slice (some ⟨b, off, none⟩) L.length cap ∧ b < w.heap.size ∧ L.length ≤ cap ∧ cap ≤ maxLen ∧ ∀ i a, L[i]? = some a → CellsAr w b (off + i * 4) a

theorem CellsAr.grown {w w' : World} {B b o : Nat} {a : Ar} (h : CellsAr w b o a) (hb : Below B w w') (hB : b < B) : CellsAr w' b o a := by
  obtain ⟨h0, h1, h2, h3⟩ := h
  exact ⟨by rw [hb.cell (p := ⟨b, o, none⟩) hB]; exact h0, by rw [hb.cell (p := ⟨b, o + 1, none⟩) hB]; exact h1, by rw [hb.cell (p := ⟨b, o + 2, none⟩) hB]; exact h2, by rw [hb.cell (p := ⟨b, o + 3, none⟩) hB]; exact h3⟩
theorem SlAr.grown {w w' : World} {v : Value} {L : List Ar} (h : SlAr w v L) (hb : Below w.heap.size w w') : SlAr w' v L := by
  rcases h with h | ⟨b, off, cap, h1, h2, h3, h4, h5⟩
  · exact Or.inl h
  · exact Or.inr ⟨b, off, cap, h1, Nat.lt_of_lt_of_le h2 hb.size, h3, h4, fun i a ha => (h5 i a ha).grown hb h2⟩

def spanB (page pages prot : Int) : Bool := decide (1 ≤ page ∧ page ≤ 255 ∧ 1 ≤ pages ∧ pages ≤ 256 - page ∧ 0 ≤ prot ∧ prot ≤ 3)
set_option maxRecDepth 100000 in
set_option maxHeartbeats 1000000 in
theorem span_any (page pages prot : Int) (w : World) : Calls Try.prog 106 #[.int .i64 page, .int .i64 pages, .int .i64 prot] w fun e w' => e = .returned (.bool (spanB page pages prot)) ∧ w = w' := by
  have hs := hid (show spanB page pages prot = decide (1 ≤ page ∧ page ≤ 255 ∧ 1 ≤ pages ∧ pages ≤ 256 - page ∧ 0 ≤ prot ∧ prot ≤ 3) from rfl)
  generalize spanB page pages prot = r at *
  go_enter Try.func106, Try.ntmps106
  go_wp2
  all_goals
    go_ret
    refine ⟨ret_bool ?_, rfl⟩
    rw [hs.out, Bool.eq_iff_iff]
    simp
    try omega

set_option maxRecDepth 100000 in
set_option maxHeartbeats 1000000 in
theorem end_any (a : Ar) (w : World) : Calls Try.prog 107 #[.agg (arC a).toArray] w (RB (.int .i64 (wrap64 a.fin)) w) := by
  unfold arC Ar.fin
  go_enter Try.func107, Try.ntmps107
  go_wp2
  go_ret
  exact ⟨rfl, (by repeat (first | (with_reducible exact Below.refl _ _) | (with_reducible refine Below.alloc ?_ (by (omega)) _)))⟩

set_option maxRecDepth 100000 in
set_option maxHeartbeats 1000000 in
theorem one_any (a b : Ar) (w : World) (ha : wrap64 a.fin = a.fin) : Calls Try.prog 108 #[.agg (arC a).toArray, .agg (arC b).toArray] w (RB (.bool (decide (a.alike b))) w) := by
  have HE := hid (fun w => end_any a w)
  rw [ha] at HE
  clear ha
  have HS := hid (show decide (a.alike b) = decide (a.fin = b.pg ∧ a.prot = b.prot ∧ a.z = b.z) from rfl)
  generalize decide (a.alike b) = r at *
  generalize a.fin = f at *
  unfold arC at *
  have key : ∀ r1 r2 r3 : Bool, (f == b.pg) = r1 → (a.prot == b.prot) = r2 → (a.z == b.z) = r3 → Calls Try.prog 108 #[.agg [.int .i64 a.pg, .int .i64 a.n, .int .i64 a.prot, .bool a.z].toArray, .agg [.int .i64 b.pg, .int .i64 b.n, .int .i64 b.prot, .bool b.z].toArray] w (RB (.bool (r1 && r2 && r3)) w) := by
    intro r1 r2 r3 h1 h2 h3
    cases r1
    · clear h2 h3
      go_enter Try.func108, Try.ntmps108
      go_wp2
      refine wp_region_quiet_below (by kernel_rfl) (by kernel_rfl) ?_
      repeat ((go_big_quiet_step ((go_at_call 107; exact Calls.regrown_of (HE.out _)))))
      refine wpQuiet_nil ?_
      intro wq hw'
      obtain ⟨⟨dq, osq⟩, hw''⟩ := hw'
      have hbr := of_regrown hw''
      clear hw''
      first
        | (have hbn := bt hbq hbr; clear hcq hfq hzq hbq hbr; have hbq := hbn; clear hbn)
        | (have hbq := hbr; clear hbr)
      obtain ⟨hcq, hfq, hzq⟩ := bcell3 hbq
      go_wp2
      go_ret
      exact ⟨rfl, (by repeat (first | (with_reducible exact Below.refl _ _) | (with_reducible refine Below.alloc ?_ (by first | omega | (simp; done)) _) | (refine bt ?_ (by with_reducible assumption))))⟩
    cases r2
    · clear h3
      go_enter Try.func108, Try.ntmps108
      go_wp2
      refine wp_region_quiet_below (by kernel_rfl) (by kernel_rfl) ?_
      repeat ((go_big_quiet_step ((go_at_call 107; exact Calls.regrown_of (HE.out _)))))
      refine wpQuiet_nil ?_
      intro wq hw'
      obtain ⟨⟨dq, osq⟩, hw''⟩ := hw'
      have hbr := of_regrown hw''
      clear hw''
      first
        | (have hbn := bt hbq hbr; clear hcq hfq hzq hbq hbr; have hbq := hbn; clear hbn)
        | (have hbq := hbr; clear hbr)
      obtain ⟨hcq, hfq, hzq⟩ := bcell3 hbq
      go_wp2
      go_ret
      exact ⟨rfl, (by repeat (first | (with_reducible exact Below.refl _ _) | (with_reducible refine Below.alloc ?_ (by first | omega | (simp; done)) _) | (refine bt ?_ (by with_reducible assumption))))⟩
    · go_enter Try.func108, Try.ntmps108
      go_wp2
      refine wp_region_quiet_below (by kernel_rfl) (by kernel_rfl) ?_
      repeat ((go_big_quiet_step ((go_at_call 107; exact Calls.regrown_of (HE.out _)))))
      refine wpQuiet_nil ?_
      intro wq hw'
      obtain ⟨⟨dq, osq⟩, hw''⟩ := hw'
      have hbr := of_regrown hw''
      clear hw''
      first
        | (have hbn := bt hbq hbr; clear hcq hfq hzq hbq hbr; have hbq := hbn; clear hbn)
        | (have hbq := hbr; clear hbr)
      obtain ⟨hcq, hfq, hzq⟩ := bcell3 hbq
      go_wp2
      go_ret
      exact ⟨ret_bool (by simp), (by repeat (first | (with_reducible exact Below.refl _ _) | (with_reducible refine Below.alloc ?_ (by first | omega | (simp; done)) _) | (refine bt ?_ (by with_reducible assumption))))⟩
  have := key _ _ _ rfl rfl rfl
  rwa [show (f == b.pg && a.prot == b.prot && a.z == b.z) = r from by rw [HS.out, Bool.eq_iff_iff]; simp [and_assoc]] at this
end Go.Proofs.Ytejnpppejalhfab
/- The contract of area.Check. -/
namespace Go.Proofs.Ytejnpppejalhfab
open Go.RowKit Go.Sort

theorem wrap64_small (n : Int) (h1 : -1000000000000 ≤ n) (h2 : n ≤ 1000000000000) : wrap64 n = n := by unfold wrap64; omega
theorem fin_wrap {a : Ar} (h : a.ok) : wrap64 a.fin = a.fin := by unfold Ar.ok at h; unfold Ar.fin; exact wrap64_small _ (by omega) (by omega)
theorem checkI_many {L : List Ar} (h : 255 < L.length) : checkI L = 2 := by unfold checkI; rw [if_pos h]
theorem checkI_good {L : List Ar} (h : ¬ 255 < L.length) (hg : ∀ i, i < L.length → OkAt L i) : checkI L = 0 := by unfold checkI; rw [if_neg h, if_pos ((good_iff L).2 hg)]
theorem checkI_bad {L : List Ar} (h : ¬ 255 < L.length) {i : Nat} (hi : i < L.length) (hg : ¬ OkAt L i) : checkI L = 1 := by
  unfold checkI; rw [if_neg h, if_neg fun g => hg ((good_iff L).1 g i hi)]

set_option maxRecDepth 100000 in
set_option maxHeartbeats 4000000 in
theorem check_nil (p : Option Addr) (c : Nat) (w : World) : Calls Try.prog 62 #[.slice p 0 c] w (RB (.int .i64 0) w) := by
  go_enter Try.func62, Try.ntmps62
  go_wp2
  go_loopw [10] (fun vi wr => vi = .int .i64 0 ∧ wr = w) (fun _ _ => 0)
  case atStart => exact ⟨rfl, rfl⟩
  case round =>
    obtain ⟨rfl, rfl⟩ := hrel
    go_wp2
    go_ret
    exact ⟨rfl, (by repeat ((with_reducible exact Below.refl _ _)))⟩

theorem okAt_zero {L : List Ar} {a : Ar} (ha : L[0]? = some a) (h : a.ok) : OkAt L 0 := ⟨a, ha, h, fun j b hj => by omega⟩
theorem okAt_not {L : List Ar} {i : Nat} {a : Ar} (ha : L[i]? = some a) (h : ¬ a.ok) : ¬ OkAt L i := by
  rintro ⟨c, hc, h1, _⟩
  rw [ha] at hc; cases hc; exact h h1
theorem okAt_succ {L : List Ar} {k : Nat} {a b : Ar} (ha : L[k + 1]? = some a) (hb : L[k]? = some b) : OkAt L (k + 1) ↔ a.ok ∧ b.fin ≤ a.pg ∧ ¬ b.alike a := by
  constructor
  · rintro ⟨c, hc, h1, h2⟩
    rw [ha] at hc; cases hc
    exact ⟨h1, h2 k b rfl hb⟩
  · rintro ⟨h1, h2, h3⟩
    refine ⟨a, ha, h1, fun j d hj hd => ?_⟩
    obtain rfl : j = k := by omega
    rw [hb] at hd; cases hd
    exact ⟨h2, h3⟩
theorem okAt_ok {L : List Ar} {k : Nat} {b : Ar} (hb : L[k]? = some b) (h : OkAt L k) : b.ok := by
  obtain ⟨c, hc, h1, _⟩ := h
  rw [hb] at hc; cases hc; exact h1

set_option maxRecDepth 100000 in
set_option maxHeartbeats 4000000 in
theorem check_any (b off cap : Nat) (L : List Ar) (w : World) (hbl : b < w.heap.size) (hcap : L.length ≤ cap) (hmax : cap ≤ maxLen) (hcells : ∀ i a, L[i]? = some a → CellsAr w b (off + i * 4) a) :
    Calls Try.prog 62 #[.slice (some ⟨b, off, none⟩) L.length cap] w (RB (.int .i64 (checkI L)) w) := by
  unfold maxLen at hmax
  by_cases hm : 255 < L.length
  · have HC := hid (checkI_many hm)
    generalize checkI L = r at *
    go_enter Try.func62, Try.ntmps62
    go_wp2
    go_ret
    exact ⟨ret_int HC.out.symm, (by repeat ((with_reducible exact Below.refl _ _)))⟩
  have HC := hid hcells
  clear hcells
  obtain ⟨r, hr⟩ : ∃ r, r = checkI L := ⟨_, rfl⟩
  rw [← hr]
  have HR := hid hr; clear hr
  go_enter Try.func62, Try.ntmps62
  go_wp2
  go_loopw [10] (fun vi wr => ∃ i : Nat, i ≤ L.length ∧ vi = .int .i64 i ∧ Below w.heap.size w wr ∧ Hid (∀ j, j < i → OkAt L j)) (fun vi _ => L.length - (intOf vi).toNat)
  case atStart => exact ⟨0, by omega, rfl, Below.refl _ _, fun j hj => by omega⟩
  case round =>
    obtain ⟨i, hi, rfl, hb, HO⟩ := hrel
    by_cases hlt : i < L.length
    · obtain ⟨a, ha⟩ : ∃ a, L[i]? = some a := ⟨L[i], by simp [hlt]⟩
      obtain ⟨c0, c1, c2, c3⟩ := (HC.out i a ha).grown hb hbl
      have hbr := ltAll (Nat.lt_of_lt_of_le hbl hb.size)
      have hsz := hb.size
      have HE : Hid True := hid trivial
      have HN : Hid True := hid trivial
      obtain ⟨s, hs⟩ : ∃ s, s = decide a.ok := ⟨_, rfl⟩
      have HS : Hid (∀ w, Calls Try.prog 106 #[.int .i64 a.pg, .int .i64 a.n, .int .i64 a.prot] w (RB (.bool s) w)) := fun w => by rw [hs]; exact rb_same (span_any a.pg a.n a.prot w)
      cases s
      · have HX := hid (okAt_not ha (by simpa using hs.symm))
        clear hs
        go_wp2
        refine wp_region_quiet_below (by kernel_rfl) (by kernel_rfl) ?_
        repeat ((go_big_quiet_step (((go_at_call 106; exact Calls.regrown_of (HS.out _))))))
        refine wpQuiet_nil ?_
        intro wq hw'
        obtain ⟨⟨dq, osq⟩, hw''⟩ := hw'
        have hbr := of_regrown hw''
        clear hw''
        first
          | (have hbn := bt hbq hbr; clear hcq hfq hzq hbq hbr; have hbq := hbn; clear hbn)
          | (have hbq := hbr; clear hbr)
        obtain ⟨hcq, hfq, hzq⟩ := bcell3 hbq
        go_wp2
        go_ret
        exact ⟨ret_int (by rw [HR.out, checkI_bad hm hlt HX.out]), (by repeat (first | (with_reducible assumption) | (with_reducible refine Below.alloc ?_ (by (omega)) _) | (refine bt ?_ (by with_reducible assumption))))⟩
      have hok : a.ok := by simpa using hs.symm
      clear hs
      match i with
      | 0 =>
        have HX := hid (okAt_zero ha hok)
        clear hok
        simp only [Nat.zero_mul, Nat.add_zero] at c0 c1 c2 c3
        go_wp2
        refine wp_region_quiet_below (by kernel_rfl) (by kernel_rfl) ?_
        repeat ((go_big_quiet_step (((go_at_call 106; exact Calls.regrown_of (HS.out _))))))
        refine wpQuiet_nil ?_
        intro wq hw'
        obtain ⟨⟨dq, osq⟩, hw''⟩ := hw'
        have hbr := of_regrown hw''
        clear hw''
        first
          | (have hbn := bt hbq hbr; clear hcq hfq hzq hbq hbr; have hbq := hbn; clear hbn)
          | (have hbq := hbr; clear hbr)
        obtain ⟨hcq, hfq, hzq⟩ := bcell3 hbq
        go_wp2
        go_roundw
        case rel =>
          refine ⟨0 + 1, by omega, by go_num, (by repeat (first | (with_reducible assumption) | (with_reducible refine Below.alloc ?_ (by (omega)) _) | (refine bt ?_ (by with_reducible assumption)))), fun j hj => ?_⟩
          rcases Nat.lt_succ_iff_lt_or_eq.1 hj with h | h
          · exact HO.out j h
          · subst h; exact HX.out
        case measure => simp [intOf]; omega
      | k + 1 =>
        obtain ⟨q, hq⟩ : ∃ q, L[k]? = some q := ⟨L[k], by simp⟩
        have hqo := okAt_ok hq (HO.out k (by omega))
        obtain ⟨d0, d1, d2, d3⟩ := (HC.out k q hq).grown hb hbl
        have HA := hid (okAt_succ ha hq)
        have HE := hid (fun w => end_any q w)
        rw [fin_wrap hqo] at HE
        obtain ⟨o, ho⟩ : ∃ o, o = decide (q.alike a) := ⟨_, rfl⟩
        have HN := hid (fun w => one_any q a w (fin_wrap hqo))
        rw [← ho] at HN
        unfold arC at HE HN
        have HF := hid (show q.fin = q.fin from rfl)
        by_cases hl : a.pg < q.fin
        · have HX : Hid (¬ OkAt L (k + 1)) := fun h => by have := (HA.out.1 h).2.1; omega
          have hl' : decide (a.pg < q.fin) = true := by simpa using hl
          clear hl hok hqo ho
          generalize q.fin = f at *
          go_wp2
          refine wp_region_quiet_below (by kernel_rfl) (by kernel_rfl) ?_
          repeat ((go_big_quiet_step ((first | (go_at_call 106; exact Calls.regrown_of (HS.out _)) | (go_at_call 107; exact Calls.regrown_of (HE.out _))))))
          refine wpQuiet_nil ?_
          intro wq hw'
          obtain ⟨⟨dq, osq⟩, hw''⟩ := hw'
          have hbr := of_regrown hw''
          clear hw''
          first
            | (have hbn := bt hbq hbr; clear hcq hfq hzq hbq hbr; have hbq := hbn; clear hbn)
            | (have hbq := hbr; clear hbr)
          obtain ⟨hcq, hfq, hzq⟩ := bcell3 hbq
          go_wp2
          go_ret
          exact ⟨ret_int (by rw [HR.out, checkI_bad hm hlt HX.out]), (by repeat (first | (with_reducible assumption) | (with_reducible refine Below.alloc ?_ (by (omega)) _) | (refine bt ?_ (by with_reducible assumption))))⟩
        have hl' : decide (a.pg < q.fin) = false := by simpa using hl
        cases o
        · have HX : Hid (OkAt L (k + 1)) := HA.out.2 ⟨hok, by omega, by simpa using ho.symm⟩
          clear hl hok hqo ho
          generalize q.fin = f at *
          go_wp2
          refine wp_region_quiet_below (by kernel_rfl) (by kernel_rfl) ?_
          repeat ((go_big_quiet_step ((first | (go_at_call 106; exact Calls.regrown_of (HS.out _)) | (go_at_call 107; exact Calls.regrown_of (HE.out _)) | (go_at_call 108; exact Calls.regrown_of (HN.out _))))))
          refine wpQuiet_nil ?_
          intro wq hw'
          obtain ⟨⟨dq, osq⟩, hw''⟩ := hw'
          have hbr := of_regrown hw''
          clear hw''
          first
            | (have hbn := bt hbq hbr; clear hcq hfq hzq hbq hbr; have hbq := hbn; clear hbn)
            | (have hbq := hbr; clear hbr)
          obtain ⟨hcq, hfq, hzq⟩ := bcell3 hbq
          go_wp2
          go_roundw
          case rel =>
            refine ⟨(k + 1) + 1, by omega, by go_num, (by repeat (first | (with_reducible assumption) | (with_reducible refine Below.alloc ?_ (by (omega)) _) | (refine bt ?_ (by with_reducible assumption)))), fun j hj => ?_⟩
            rcases Nat.lt_succ_iff_lt_or_eq.1 hj with h | h
            · exact HO.out j h
            · subst h; exact HX.out
          case measure => simp [intOf]; omega
        · have HX : Hid (¬ OkAt L (k + 1)) := fun h => (HA.out.1 h).2.2 (by simpa using ho.symm)
          clear hl hok hqo ho
          generalize q.fin = f at *
          go_wp2
          refine wp_region_quiet_below (by kernel_rfl) (by kernel_rfl) ?_
          repeat ((go_big_quiet_step ((first | (go_at_call 106; exact Calls.regrown_of (HS.out _)) | (go_at_call 107; exact Calls.regrown_of (HE.out _)) | (go_at_call 108; exact Calls.regrown_of (HN.out _))))))
          refine wpQuiet_nil ?_
          intro wq hw'
          obtain ⟨⟨dq, osq⟩, hw''⟩ := hw'
          have hbr := of_regrown hw''
          clear hw''
          first
            | (have hbn := bt hbq hbr; clear hcq hfq hzq hbq hbr; have hbq := hbn; clear hbn)
            | (have hbq := hbr; clear hbr)
          obtain ⟨hcq, hfq, hzq⟩ := bcell3 hbq
          go_wp2
          go_ret
          exact ⟨ret_int (by rw [HR.out, checkI_bad hm hlt HX.out]), (by repeat (first | (with_reducible assumption) | (with_reducible refine Below.alloc ?_ (by (omega)) _) | (refine bt ?_ (by with_reducible assumption))))⟩
    · go_wp2
      go_ret
      have : i = L.length := by omega
      subst this
      refine ⟨ret_int ?_, hb⟩
      rw [HR.out, checkI_good hm HO.out]
end Go.Proofs.Ytejnpppejalhfab
/- The contracts of area.Total, Find, and of the reference's Pages, AreaAt. -/
namespace Go.Proofs.Ytejnpppejalhfab
open Go.RowKit Go.Sort

theorem check_sl {v : Value} {L : List Ar} {w : World} (h : SlAr w v L) : Calls Try.prog 62 #[v] w (RB (.int .i64 (checkI L)) w) := by
  rcases h with ⟨p, c, rfl, rfl⟩ | ⟨b, off, cap, rfl, h2, h3, h4, h5⟩
  · exact check_nil p c w
  · exact check_any b off cap L w h2 h3 h4 h5

theorem sumN_take {L : List Ar} : ∀ {i : Nat} {a : Ar}, L[i]? = some a → sumN (L.take (i + 1)) = sumN (L.take i) + a.n := by
  induction L with
  | nil => intro i a h; simp at h
  | cons c L ih =>
    intro i a h
    cases i with
    | zero => simp at h; subst h; simp [sumN]
    | succ i => simp only [List.take_succ_cons, sumN]; rw [ih (by simpa using h)]; omega
theorem sumN_bound {L : List Ar} (h : ∀ (i : Nat) (a : Ar), L[i]? = some a → a.ok) : ∀ i : Nat, i ≤ L.length → 0 ≤ sumN (L.take i) ∧ sumN (L.take i) ≤ 255 * (i : Int) := by
  intro i
  induction i with
  | zero => intro _; simp [sumN]
  | succ i ih =>
    intro hi
    obtain ⟨h1, h2⟩ := ih (by omega)
    have ha := h i L[i] (by simp [hi])
    rw [sumN_take (a := L[i]) (by simp [hi])]
    unfold Ar.ok at ha
    omega
theorem good_ok {L : List Ar} (h : Good L) : ∀ (i : Nat) (a : Ar), L[i]? = some a → a.ok := fun i a ha => okAt_ok ha ((good_iff L).1 h i (by
  obtain ⟨hi, _⟩ := List.getElem?_eq_some_iff.1 ha; exact hi))
theorem checkI_zero {L : List Ar} : checkI L = 0 ↔ L.length ≤ 255 ∧ Good L := by
  unfold checkI
  split
  · exact ⟨fun h => by omega, fun h => by omega⟩
  · split
    · exact ⟨fun _ => ⟨by omega, by assumption⟩, fun _ => rfl⟩
    · exact ⟨fun h => by omega, fun h => absurd h.2 (by assumption)⟩

set_option maxRecDepth 100000 in
set_option maxHeartbeats 4000000 in
theorem total_bad {v : Value} {L : List Ar} {w : World} (h : SlAr w v L) (hc : checkI L ≠ 0) : Calls Try.prog 63 #[v] w (RB (.int .i64 0) w) := by
  have HC := hid (check_sl h)
  have hn : (checkI L == 0) = false := by rw [beq_eq_false_iff_ne]; exact hc
  clear h hc
  generalize checkI L = r at *
  go_enter Try.func63, Try.ntmps63
  go_wp2_with (first | (go_at_call 62; (with_reducible refine (HC.out).mono ?_); rintro e w1 ⟨rfl, hb1⟩))
  go_ret
  exact ⟨rfl, (by repeat ((with_reducible assumption)))⟩

set_option maxRecDepth 100000 in
set_option maxHeartbeats 4000000 in
theorem total_good {v : Value} {L : List Ar} {w : World} (h : SlAr w v L) (hc : checkI L = 0) : Calls Try.prog 63 #[v] w (RB (.int .i64 (sumN L)) w) := by
  have HC := hid (check_sl h)
  rw [hc] at HC
  obtain ⟨hlen, hg⟩ := checkI_zero.1 hc
  have hok := good_ok hg
  have HB := hid (sumN_bound hok)
  clear hc hg
  rcases h with ⟨p, c, rfl, rfl⟩ | ⟨b, off, cap, rfl, hbl, hcap, hmax, hcells⟩
  · go_enter Try.func63, Try.ntmps63
    go_wp2_with (first | (go_at_call 62; (with_reducible refine (HC.out).mono ?_); rintro e w1 ⟨rfl, hb1⟩))
    go_loopw [3, 11] (fun vn vi wr => vn = .int .i64 0 ∧ vi = .int .i64 0 ∧ wr = w1) (fun _ _ _ => 0)
    case atStart => exact ⟨rfl, rfl, rfl⟩
    case round =>
      obtain ⟨rfl, rfl, rfl⟩ := hrel
      go_wp2
      go_ret
      exact ⟨rfl, (by repeat ((with_reducible assumption)))⟩
  · unfold maxLen at hmax
    have HL := hid hcells
    have HO := hid hok
    clear hcells hok
    go_enter Try.func63, Try.ntmps63
    go_wp2_with (first | (go_at_call 62; (with_reducible refine (HC.out).mono ?_); rintro e w1 ⟨rfl, hb1⟩))
    go_loopw [3, 11] (fun vn vi wr => ∃ i : Nat, i ≤ L.length ∧ vi = .int .i64 i ∧ vn = .int .i64 (sumN (L.take i)) ∧ Below w.heap.size w wr) (fun _ vi _ => L.length - (intOf vi).toNat)
    case atStart => exact ⟨0, by omega, rfl, by simp [sumN], hb1⟩
    case round =>
      obtain ⟨i, hi, rfl, rfl, hb⟩ := hrel
      by_cases hlt : i < L.length
      · obtain ⟨a, ha⟩ : ∃ a, L[i]? = some a := ⟨L[i], by simp [hlt]⟩
        obtain ⟨c0, c1, c2, c3⟩ := (HL.out i a ha).grown hb hbl
        have hbr := ltAll (Nat.lt_of_lt_of_le hbl hb.size)
        have hsz := hb.size
        have hs := sumN_take ha
        have hn := HB.out i hi
        have hn2 := HO.out i a ha
        unfold Ar.ok at hn2
        have hw : wrap64 (sumN (L.take i) + a.n) = sumN (L.take i) + a.n := wrap64_small _ (by omega) (by omega)
        have HS := hid hs
        clear hs hn hn2
        generalize sumN (L.take i) = q at *
        go_wp2
        go_roundw
        case rel => exact ⟨i + 1, by omega, by go_num, by rw [HS.out, hw], (by repeat (first | (with_reducible assumption) | (with_reducible refine Below.alloc ?_ (by (omega)) _)))⟩
        case measure => simp [intOf]; omega
      · go_wp2
        go_ret
        have : i = L.length := by omega
        subst this
        exact ⟨ret_int (by simp), hb⟩
end Go.Proofs.Ytejnpppejalhfab
/- The contracts of the reference's Pages, AreaAt. -/
namespace Go.Proofs.Ytejnpppejalhfab
open Go.RowKit Go.Sort

def zeroAr : Ar := ⟨0, 0, 0, false⟩
def holdsB (page : Int) (a : Ar) : Bool := decide (a.pg ≤ page ∧ page < a.fin)
def findA (L : List Ar) (page : Int) : Option Ar := L.find? (holdsB page)
theorem findA_some {L : List Ar} {page : Int} : ∀ {i : Nat} {a : Ar}, (∀ (j : Nat) (b : Ar), j < i → L[j]? = some b → holdsB page b = false) → L[i]? = some a → holdsB page a = true → findA L page = some a := by
  unfold findA
  induction L with
  | nil => intro i a _ h; simp at h
  | cons c L ih =>
    intro i a h1 h2 h3
    cases i with
    | zero => simp at h2; subst h2; rw [List.find?_cons, h3]
    | succ i =>
      have hc := h1 0 c (by omega) rfl
      rw [List.find?_cons, hc]
      exact ih (i := i) (fun j b hj hb => h1 (j + 1) b (by omega) (by simpa using hb)) (by simpa using h2) h3
theorem findA_none {L : List Ar} {page : Int} (h : ∀ (j : Nat) (b : Ar), j < L.length → L[j]? = some b → holdsB page b = false) : findA L page = none := by
  unfold findA
  rw [List.find?_eq_none]
  intro x hx
  obtain ⟨j, hj, rfl⟩ := List.getElem_of_mem hx
  have := h j L[j] hj (by simp)
  simp [this]
def zl4 : List Value := [.int .i64 0, .int .i64 0, .int .i64 0, .bool false]
def FindV (o : Option Ar) : Value := .tuple #[.agg (arC (o.getD zeroAr)).toArray, .bool o.isSome]

end Go.Proofs.Ytejnpppejalhfab
/- The contracts of the reference's mark and boardOf. -/
namespace Go.Proofs.Ytejnpppejalhfab
open Go.RowKit Go.Sort

instance riseDec : (e : Int) → (l : List Ar) → Decidable (RiseF e l)
  | _, [] => isTrue trivial
  | e, a :: l => by
    unfold RiseF
    have := riseDec a.fin l
    infer_instance
end Go.Proofs.Ytejnpppejalhfab
/- The contract of the reference's boardOf. -/
namespace Go.Proofs.Ytejnpppejalhfab
open Go.RowKit Go.Sort

end Go.Proofs.Ytejnpppejalhfab
/- Rows of areas that a call owns; the contract of the reference's areasOf. -/
namespace Go.Proofs.Ytejnpppejalhfab
open Go.RowKit Go.Sort

end Go.Proofs.Ytejnpppejalhfab
/- The contract of the reference's SameAreas. -/
namespace Go.Proofs.Ytejnpppejalhfab
open Go.RowKit Go.Sort

end Go.Proofs.Ytejnpppejalhfab
/- joined: the plain side. -/
namespace Go.Proofs.Ytejnpppejalhfab
open Go.RowKit Go.Sort

theorem joinStep_len (J : List Ar) (a : Ar) : (joinStep J a).length ≤ J.length + 1 := by
  unfold joinStep
  split
  · split <;> simp
  · simp
end Go.Proofs.Ytejnpppejalhfab
/- area.end, area.one, by the step calculus. -/
namespace Go.Proofs.Ytejnpppejalhfab
open Go.RowKit Go.Sort
end Go.Proofs.Ytejnpppejalhfab
/- area.joined, by the step calculus. -/
namespace Go.Proofs.Ytejnpppejalhfab
open Go.RowKit Go.Sort
theorem rise_ok {L : List Ar} : ∀ {e : Int}, RiseF e L → ∀ (i : Nat) (a : Ar), L[i]? = some a → a.ok := by
  induction L with
  | nil => intro e _ i a h; simp at h
  | cons b L ih =>
    intro e h i a ha
    cases i with
    | zero => simp at ha; subst ha; exact h.1
    | succ i => exact ih h.2.2 i a (by simpa using ha)
end Go.Proofs.Ytejnpppejalhfab
/- The contract of area.cut. -/
namespace Go.Proofs.Ytejnpppejalhfab
open Go.RowKit Go.Sort

/-- two rows of one's own lie apart -/
def RowsApart (v u : Value) : Prop := v.ownBlock = none ∨ v.ownBlock ≠ u.ownBlock
theorem RowsApart.symm {v u : Value} (h : RowsApart v u) : RowsApart u v := by
  unfold RowsApart at *
  cases hv : v.ownBlock <;> cases hu : u.ownBlock <;> simp_all
  omega
end Go.Proofs.Ytejnpppejalhfab
