/- The contracts of the reference's Pages, AreaAt. -/
import Derived.Test.YtejnpppejalhfaaAr3
namespace Go.Proofs.Ytejnpppejalhfaa
open Go.RowKit Go.Sort

set_option maxRecDepth 100000 in
set_option maxHeartbeats 4000000 in
theorem pages_good {v : Value} {L : List Ar} {w : World} (h : SlAr w v L) (hc : checkI L = 0) : Calls Try.prog 40 #[v] w (RB (.int .i64 (sumN L)) w) := by
  obtain ⟨hlen, hg⟩ := checkI_zero.1 hc
  have hok := good_ok hg
  have HB := hid (sumN_bound hok)
  clear hc hg
  rcases h with ⟨p, c, rfl, rfl⟩ | ⟨b, off, cap, rfl, hbl, hcap, hmax, hcells⟩
  · go_enter Try.func40, Try.ntmps40
    go_wp2
    go_loopw [3, 4] (fun vn vi wr => vn = .int .i64 0 ∧ vi = .int .i64 0 ∧ wr = w) (fun _ _ _ => 0)
    case atStart => exact ⟨rfl, rfl, rfl⟩
    case round =>
      obtain ⟨rfl, rfl, rfl⟩ := hrel
      go_wp2
      go_ret
      exact ⟨rfl, (by repeat (first | (with_reducible exact Below.refl _ _) | (with_reducible assumption) | (with_reducible refine Below.alloc ?_ (by first | omega | (simp; done) | (simp; omega)) _) | (with_reducible refine Below.setCell ?_ (by first | omega | (simp; done) | (simp; omega)) _) | (with_reducible refine Below.drew ?_) | (with_reducible refine bt ?_ (below_regrown _ _ _)) | (refine bt ?_ (by with_reducible assumption))))⟩
  · unfold maxLen at hmax
    have HL := hid hcells
    have HO := hid hok
    clear hcells hok
    go_enter Try.func40, Try.ntmps40
    go_wp2
    go_loopw [3, 4] (fun vn vi wr => ∃ i : Nat, i ≤ L.length ∧ vi = .int .i64 i ∧ vn = .int .i64 (sumN (L.take i)) ∧ Below w.heap.size w wr) (fun _ vi _ => L.length - (intOf vi).toNat)
    case atStart => exact ⟨0, by omega, rfl, by simp [sumN], Below.refl _ _⟩
    case round =>
      obtain ⟨i, hi, rfl, rfl, hb⟩ := hrel
      by_cases hlt : i < L.length
      · obtain ⟨a, ha⟩ : ∃ a, L[i]? = some a := ⟨L[i], by simp [hlt]⟩
        obtain ⟨c0, c1, c2, c3⟩ := (HL.out i a ha).grown hb hbl
        have hbr := ltAll (Nat.lt_of_lt_of_le hbl hb.size)
        have hsz := hb.size
        have hs := sumN_take ha
        have hn := HB.out i hi
        have hn2 := HO.out i a ha
        unfold Ar.ok at hn2
        have hw : wrap64 (sumN (L.take i) + a.n) = sumN (L.take i) + a.n := wrap64_small _ (by omega) (by omega)
        have HS := hid hs
        clear hs hn hn2
        generalize sumN (L.take i) = q at *
        go_wp2
        go_roundw
        case rel => exact ⟨i + 1, by omega, by go_num, by rw [HS.out, hw], (by repeat (first | (with_reducible exact Below.refl _ _) | (with_reducible assumption) | (with_reducible refine Below.alloc ?_ (by first | omega | (simp; done) | (simp; omega)) _) | (with_reducible refine Below.setCell ?_ (by first | omega | (simp; done) | (simp; omega)) _) | (with_reducible refine Below.drew ?_) | (with_reducible refine bt ?_ (below_regrown _ _ _)) | (refine bt ?_ (by with_reducible assumption))))⟩
        case measure => simp [intOf]; omega
      · go_wp2
        go_ret
        have : i = L.length := by omega
        subst this
        exact ⟨ret_int (by simp), hb⟩

def zeroAr : Ar := ⟨0, 0, 0, false⟩
def holdsB (page : Int) (a : Ar) : Bool := decide (a.pg ≤ page ∧ page < a.fin)
def findA (L : List Ar) (page : Int) : Option Ar := L.find? (holdsB page)
theorem findA_some {L : List Ar} {page : Int} : ∀ {i : Nat} {a : Ar}, (∀ (j : Nat) (b : Ar), j < i → L[j]? = some b → holdsB page b = false) → L[i]? = some a → holdsB page a = true → findA L page = some a := by
  unfold findA
  induction L with
  | nil => intro i a _ h; simp at h
  | cons c L ih =>
    intro i a h1 h2 h3
    cases i with
    | zero => simp at h2; subst h2; rw [List.find?_cons, h3]
    | succ i =>
      have hc := h1 0 c (by omega) rfl
      rw [List.find?_cons, hc]
      exact ih (i := i) (fun j b hj hb => h1 (j + 1) b (by omega) (by simpa using hb)) (by simpa using h2) h3
theorem findA_none {L : List Ar} {page : Int} (h : ∀ (j : Nat) (b : Ar), j < L.length → L[j]? = some b → holdsB page b = false) : findA L page = none := by
  unfold findA
  rw [List.find?_eq_none]
  intro x hx
  obtain ⟨j, hj, rfl⟩ := List.getElem_of_mem hx
  have := h j L[j] hj (by simp)
  simp [this]
def zl4 : List Value := [.int .i64 0, .int .i64 0, .int .i64 0, .bool false]
def FindV (o : Option Ar) : Value := .tuple #[.agg (arC (o.getD zeroAr)).toArray, .bool o.isSome]

set_option maxRecDepth 100000 in
set_option maxHeartbeats 4000000 in
theorem areaAt_any {v : Value} {L : List Ar} {w : World} (page : Int) (h : SlAr w v L) (hok : ∀ (i : Nat) (a : Ar), L[i]? = some a → a.ok) : Calls Try.prog 39 #[v, .int .i64 page] w (RB (FindV (findA L page)) w) := by
  have hsz : (Try.prog.info? 63).map (·.size) = some 4 := by kernel_rfl
  have Hsz := hid hsz; clear hsz
  have hbw := Below.refl w.heap.size w
  rcases h with ⟨p, c, rfl, rfl⟩ | ⟨b, off, cap, rfl, hbl, hcap, hmax, hcells⟩
  · go_enter Try.func39, Try.ntmps39
    go_wp2_with (first | ((with_reducible refine at_op 4 ?_); refine wpList_new_row' rfl (some 4) rfl (zl4) 63 (by kernel_rfl) w.heap.size w hbw hbw.size ?_; intro g4 wn4 hL4 hB4 hbn hkn hnn; skip; clear hbw hkn hnn; have hbw := hbn; clear hbn))
    go_loopw [6] (fun vi wr => vi = .int .i64 0 ∧ wr = wn4) (fun _ _ => 0)
    case atStart => exact ⟨rfl, rfl⟩
    case round =>
      obtain ⟨rfl, rfl⟩ := hrel
      go_wp2_with (first | ((with_reducible refine at_store 4 ?_); refine wpList_put_row rfl 63 (.tmp 4) (.tmp 39) rfl rfl g4 (zl4) (zl4) rfl rfl hL4 Hsz.out rfl rfl w.heap.size w hbw hB4 ?_; intro wp4 hLn hbn hon; skip; clear hL4 hbw hon; have hL4 := hLn; have hbw := hbn; clear hLn hbn))
      refine bodyPost_ret (v := .tuple #[.agg (zl4).toArray, .bool false]) (results_hold2 rfl _ g4 (zl4) (.bool false) _ rfl rfl hL4 Try.underlying63 rfl Hsz.out) rfl ⟨by rw [(show findA [] page = none from rfl)]; rfl, hbw⟩
  · unfold maxLen at hmax
    have HL := hid hcells
    have HO := hid hok
    clear hcells hok
    go_enter Try.func39, Try.ntmps39
    go_wp2_with (first | ((with_reducible refine at_op 4 ?_); refine wpList_new_row' rfl (some 4) rfl (zl4) 63 (by kernel_rfl) w.heap.size w hbw hbw.size ?_; intro g4 wn4 hL4 hB4 hbn hkn hnn; skip; clear hbw hkn hnn; have hbw := hbn; clear hbn))
    go_loopw [6] (fun vi wr => ∃ i : Nat, i ≤ L.length ∧ vi = .int .i64 i ∧ Below w.heap.size w wr ∧ HoldL wr g4 zl4 ∧ Hid (∀ (j : Nat) (b : Ar), j < i → L[j]? = some b → holdsB page b = false)) (fun vi _ => L.length - (intOf vi).toNat)
    case atStart => exact ⟨0, by omega, rfl, hbw, hL4, fun j b hj => by omega⟩
    case round =>
      clear hbw hL4
      obtain ⟨i, hi, rfl, hbw, hL4, HN⟩ := hrel
      by_cases hlt : i < L.length
      · obtain ⟨a, ha⟩ : ∃ a, L[i]? = some a := ⟨L[i], by simp [hlt]⟩
        obtain ⟨c0, c1, c2, c3⟩ := (HL.out i a ha).grown hbw hbl
        have hao := HO.out i a ha
        have hfw := fin_wrap hao
        have hbr := ltAll (Nat.lt_of_lt_of_le hbl hbw.size)
        have hsz := hbw.size
        have HF : Hid (holdsB page a = decide (a.pg ≤ page ∧ page < a.fin)) := hid rfl
        have hdef : a.fin = a.pg + a.n := rfl
        rw [hdef] at hfw
        have HD := hid hdef
        clear hdef hao
        by_cases h1 : a.pg ≤ page
        · by_cases h2 : page < a.fin
          · have HX : Hid (findA L page = some a) := findA_some HN.out ha (by rw [HF.out]; simp [h1, h2])
            have h1' : decide (a.pg ≤ page) = true := by simpa using h1
            have h2' : decide (page < a.pg + a.n) = true := by simpa [← HD.out] using h2
            clear h1 h2
            go_wp2
            refine wp_region_quiet_below (by kernel_rfl) (by kernel_rfl) ?_
            repeat (first | go_big_quiet_step ((fail)) | quiet_step ((fail)))
            refine wpQuiet_nil ?_
            intro wq hw'
            obtain ⟨⟨dq, osq⟩, hw''⟩ := hw'
            have hbr := of_regrown hw''
            clear hw''
            first
              | (have hbn := bt hbq hbr; clear hcq hfq hzq hbq hbr; have hbq := hbn; clear hbn)
              | (have hbq := hbr; clear hbr)
            obtain ⟨hcq, hfq, hzq⟩ := bcell3 hbq
            have hL4 := hL4.grown hbq hL4.lt
            have hbw := bt hbw hbq
            go_wp2_with (first | ((with_reducible refine at_store 4 ?_); refine wpList_put_row rfl 63 (.tmp 4) (.tmp 38) rfl rfl g4 ([.int .i64 a.pg, .int .i64 a.n, .int .i64 a.prot, .bool a.z]) (zl4) rfl rfl hL4 Hsz.out rfl rfl w.heap.size w hbw hB4 ?_; intro wp4 hLn hbn hon; skip; clear hL4 hbw hon; have hL4 := hLn; have hbw := hbn; clear hLn hbn))
            refine bodyPost_ret (v := .tuple #[.agg ([.int .i64 a.pg, .int .i64 a.n, .int .i64 a.prot, .bool a.z]).toArray, .bool true]) (results_hold2 rfl _ g4 ([.int .i64 a.pg, .int .i64 a.n, .int .i64 a.prot, .bool a.z]) (.bool true) _ rfl rfl hL4 Try.underlying63 rfl Hsz.out) rfl ⟨by rw [HX.out]; rfl, hbw⟩
          · have HX : Hid (holdsB page a = false) := by refine hid ?_; rw [HF.out]; simp [h2]
            have h1' : decide (a.pg ≤ page) = true := by simpa using h1
            have h2' : decide (page < a.pg + a.n) = false := by simpa [← HD.out] using h2
            clear h1 h2
            go_wp2
            refine wp_region_quiet_below (by kernel_rfl) (by kernel_rfl) ?_
            repeat (first | go_big_quiet_step ((fail)) | quiet_step ((fail)))
            refine wpQuiet_nil ?_
            intro wq hw'
            obtain ⟨⟨dq, osq⟩, hw''⟩ := hw'
            have hbr := of_regrown hw''
            clear hw''
            first
              | (have hbn := bt hbq hbr; clear hcq hfq hzq hbq hbr; have hbq := hbn; clear hbn)
              | (have hbq := hbr; clear hbr)
            obtain ⟨hcq, hfq, hzq⟩ := bcell3 hbq
            have hL4 := hL4.grown hbq hL4.lt
            have hbw := bt hbw hbq
            go_wp2
            go_roundw
            case rel =>
              refine ⟨i + 1, by omega, by go_num, hbw, hL4, fun j b hj hb => ?_⟩
              rcases Nat.lt_succ_iff_lt_or_eq.1 hj with h | h
              · exact HN.out j b h hb
              · subst h; rw [ha] at hb; cases hb; exact HX.out
            case measure => simp [intOf]; omega
        · have HX : Hid (holdsB page a = false) := by refine hid ?_; rw [HF.out]; simp [h1]
          have h1' : decide (a.pg ≤ page) = false := by simpa using h1
          clear h1
          go_wp2
          refine wp_region_quiet_below (by kernel_rfl) (by kernel_rfl) ?_
          repeat (first | go_big_quiet_step ((fail)) | quiet_step ((fail)))
          refine wpQuiet_nil ?_
          intro wq hw'
          obtain ⟨⟨dq, osq⟩, hw''⟩ := hw'
          have hbr := of_regrown hw''
          clear hw''
          first
            | (have hbn := bt hbq hbr; clear hcq hfq hzq hbq hbr; have hbq := hbn; clear hbn)
            | (have hbq := hbr; clear hbr)
          obtain ⟨hcq, hfq, hzq⟩ := bcell3 hbq
          have hL4 := hL4.grown hbq hL4.lt
          have hbw := bt hbw hbq
          go_wp2
          go_roundw
          case rel =>
            refine ⟨i + 1, by omega, by go_num, hbw, hL4, fun j b hj hb => ?_⟩
            rcases Nat.lt_succ_iff_lt_or_eq.1 hj with h | h
            · exact HN.out j b h hb
            · subst h; rw [ha] at hb; cases hb; exact HX.out
          case measure => simp [intOf]; omega
      · have : i = L.length := by omega
        subst this
        have HX := hid (findA_none HN.out)
        go_wp2_with (first | ((with_reducible refine at_store 4 ?_); refine wpList_put_row rfl 63 (.tmp 4) (.tmp 39) rfl rfl g4 (zl4) (zl4) rfl rfl hL4 Hsz.out rfl rfl w.heap.size w hbw hB4 ?_; intro wp4 hLn hbn hon; skip; clear hL4 hbw hon; have hL4 := hLn; have hbw := hbn; clear hLn hbn))
        refine bodyPost_ret (v := .tuple #[.agg (zl4).toArray, .bool false]) (results_hold2 rfl _ g4 (zl4) (.bool false) _ rfl rfl hL4 Try.underlying63 rfl Hsz.out) rfl ⟨by rw [HX.out]; rfl, hbw⟩
end Go.Proofs.Ytejnpppejalhfaa
