/- THE STEP CALCULUS, part 2: what an operation that touches no memory yields. -/
import Derived.Test.YtejnpppejalhfaaSc1
import Derived.Deep.Quiet
namespace Go.Proofs.Ytejnpppejalhfaa
open Go.RowKit Go.Sort

def Runs (P : Program) (o : Oper) (a : Act) (v : Value) : Prop := ∀ w, (execOp a.eval o).run P w = .ok (.value v) w

def kb : IntKind → IntKind → Bool
  | .i8, .i8 | .i16, .i16 | .i32, .i32 | .i64, .i64 | .u8, .u8 | .u16, .u16 | .u32, .u32 | .u64, .u64 => true
  | _, _ => false
theorem kb_eq {k k' : IntKind} (h : kb k k' = true) : k = k' := by cases k <;> cases k' <;> first | rfl | cases h

def binV : BinOp → Value → Value → Option Value
  | .add, .int k m, .int k' n => bif kb k k' then some (.int k (k.wrap (m + n))) else none
  | .sub, .int k m, .int k' n => bif kb k k' then some (.int k (k.wrap (m - n))) else none
  | .mul, .int k m, .int k' n => bif kb k k' then some (.int k (k.wrap (m * n))) else none
  | .lss, .int k m, .int k' n => bif kb k k' then some (.bool (decide (m < n))) else none
  | .leq, .int k m, .int k' n => bif kb k k' then some (.bool (decide (m ≤ n))) else none
  | .gtr, .int k m, .int k' n => bif kb k k' then some (.bool (decide (n < m))) else none
  | .geq, .int k m, .int k' n => bif kb k k' then some (.bool (decide (n ≤ m))) else none
  | .eql, .int k m, .int k' n => bif kb k k' then some (.bool (decide (m = n))) else none
  | .neq, .int k m, .int k' n => bif kb k k' then some (.bool (!decide (m = n))) else none
  | .eql, .string ⟨⟨l⟩⟩, .string ⟨⟨l'⟩⟩ => some (.bool (decide (l = l')))
  | .neq, .string ⟨⟨l⟩⟩, .string ⟨⟨l'⟩⟩ => some (.bool (!decide (l = l')))
  | _, _, _ => none

theorem decide_list (l l' : List UInt8) : (l == l') = decide (l = l') := by
  rw [Bool.eq_iff_iff]
  simp

theorem decide_int (m n : Int) : (m == n) = decide (m = n) := rfl
theorem binV_run {P : Program} {op : BinOp} {x y v : Value} {t : TypeId} (h : binV op x y = some v) (w : World) : (binOp op t x y).run P w = .ok v w := by
  unfold binV at h
  split at h <;> (try cases h)
  all_goals (try (rename_i k m k' n; by_cases e : kb k k' = true; rotate_left; (rw [show kb k k' = false from by simpa using e] at h; cases h); (rw [e] at h; obtain rfl := kb_eq e; simp only [cond_true, Option.some.injEq] at h; subst h)))
  all_goals (try (simp [binOp, Op.intArith, Op.intCmp, Op.stringOp, decide_list, decide_int, bne]; done))
  all_goals rfl

/-- what an operation that touches no memory yields, of what its operands hold -/
def pureOp (T : Tab) (F : Fr) : Op → Option Value
  | .move x => F.ev x
  | .assign x => F.ev x
  | .nilCheck x => match F.ev x with
    | some (.pointer (some p)) => some (.pointer (some p))
    | _ => none
  | .fieldAddr s x f => match T.get s, F.ev x with
    | some (.st _ fs _), some (.pointer (some ⟨g, k, none⟩)) => match fs[f]? with
      | some (o, _, _) => bif Nat.beq o 0 then some (.pointer (some ⟨g, k, none⟩)) else some (.pointer (some ⟨g, k + o, none⟩))
      | none => none
    | _, _ => none
  | .extract x i => match F.ev x with
    | some (.tuple vs) => vs.toList[i]?
    | _ => none
  | .unOp .not _ x => match F.ev x with
    | some (.bool b) => some (.bool (!b))
    | _ => none
  | .binOp op _ x y _ => match F.ev x, F.ev y with
    | some u, some v => binV op u v
    | _, _ => none
  | .makeFunc fn first caps => match F.evs first.toList, F.evs caps.toList with
    | some us, some vs => some (.func fn us.toArray vs.toArray)
    | _, _ => none
  | .convert src dst x => match T.get src, T.get dst, F.ev x with
    | some _, some (.sc (.int k) _ _), some (.int _ n) => some (.int k (k.wrap n))
    | some _, some (.sc .string _ _), some (.string s) => some (.string s)
    | _, _, _ => none
  | .call { callee := .builtin .len, args, argTypes } => match args.toList, argTypes.toList with
    | [x], [t] => match T.get t, F.ev x with
      | some (.sl _ _ _ _ _), some (.slice _ n _) => some (.int .i64 n)
      | some (.sc .string _ _), some (.string ⟨⟨l⟩⟩) => some (.int .i64 l.length)
      | _, _ => none
    | _, _ => none
  | .field s x f => match T.get s, F.ev x with
    | some (.st _ fs _), some (.agg c) => match fs[f]? with
      | some (o, n, true) => some (.agg ((c.toList.drop o).take n).toArray)
      | some (o, _, false) => c.toList[o]?
      | none => none
    | _, _ => none
  | _ => none

theorem fieldPlace_run {P : Program} {f : Field} {j : TypeInfo} (hj : P.info? f.type = some j) (h0 : j.size ≠ 0) (p : Addr) (w : World) : (fieldPlace p f).run P w = .ok (p.add f.offset) w := by
  simp [fieldPlace, sizeOf, typeInfo, hj, h0]

theorem TabOk.und {P : Program} {T : Tab} (hT : TabOk P T) {t : Nat} {i : TI} (h : T.get t = some i) : ∃ d, P.underlying t = some d := by
  cases i with
  | sc d s z => obtain ⟨_, hu, _⟩ := hT.sc h; exact ⟨_, hu⟩
  | st s fs z => obtain ⟨_, _, hu, _⟩ := hT.st h; exact ⟨_, hu⟩
  | ar s n e g z => obtain ⟨_, _, _, hu, _⟩ := hT.ar h; exact ⟨_, hu⟩
  | sl e z b g ez => obtain ⟨_, _, hu, _⟩ := hT.sl h; exact ⟨_, hu⟩
theorem isAgg_run {P : Program} {t : TypeId} {g : Bool} (hu : ∃ d, P.underlying t = some d ∧ isAggD d = g) (w : World) : (isAgg t).run P w = .ok g w := by
  obtain ⟨d, hd, h⟩ := hu
  subst h
  simp only [isAgg, underlying, Sem.run_bind, run_program, Result.andThen_ok, hd]
  cases d <;> rfl
theorem pureOp_runs {P : Program} {T : Tab} (hT : TabOk P T) {n : Nat} {ds : List Deferred} {a : Act} {F : Fr} (hF : Has n ds a F) {o : Oper} {v : Value} (h : pureOp T F o.op = some v) : Runs P o a v := by
  intro w
  unfold pureOp at h
  split at h
  case h_1 x ho => simp only [execOp, ho, hF.ev h]; rfl
  case h_2 x ho => simp only [execOp, ho, hF.ev h]; rfl
  case h_3 x ho =>
    split at h
    · rename_i p hx
      cases h
      simp only [execOp, ho, hF.ev hx]; rfl
    · cases h
  case h_4 s x f ho =>
    split at h
    · rename_i fs z sz g k hs hx
      split at h
      · rename_i o' sz' ag hf
        obtain ⟨fields, i, hu, hfs, hi, _, _, _, hne⟩ := hT.st hs
        obtain ⟨fl, j, hfl, hj, h1, h2, _⟩ := mkFs_at hfs hf
        have hj0 : j.size ≠ 0 := by rw [h2]; exact hne _ (List.mem_of_getElem? hf)
        have hfl' : fields[f]? = some fl := by simpa using hfl
        have hv : v = .pointer (some ((⟨g, k, none⟩ : Addr).add o')) := by
          by_cases e : o' = 0
          · subst e; simp at h; subst h; simp [Addr.add]
          · rw [beqF e] at h; simp at h; subst h; simp [Addr.add, e]
        have hfp := fieldPlace_run (P := P) hj hj0 ⟨g, k, none⟩ w
        rw [show fl.offset = o' from h1] at hfp
        simp [execOp, ho, hF.ev hx, Instr.fieldAt, underlying, hu, hfl', Instr.sureAddr, hfp, Result.andThen, hv]
      · cases h
    · cases h
  case h_5 x i ho =>
    split at h
    · rename_i vs hx
      have : vs[i]? = some v := by simpa using h
      simp [execOp, ho, hF.ev hx, Instr.extract, this]
    · cases h
  case h_6 t x ho =>
    split at h
    · rename_i b hx
      cases h
      simp [execOp, ho, hF.ev hx, Op.unary]
    · cases h
  case h_7 op t x y yt ho =>
    split at h
    · rename_i u u' hx hy
      have hr := binV_run (P := P) (t := t) h w
      have hg : (eqGuard op t x y u u').run P w = .ok () w := by
        unfold eqGuard
        unfold binV at h
        split at h <;> first | (cases h; done) | rfl | (simp; done) | (simp; split <;> rfl)
      simp [execOp, ho, hF.ev hx, hF.ev hy, hr, hg, Result.andThen]
    · cases h
  case h_8 fn first caps ho =>
    split at h
    · rename_i us vs h1 h2
      cases h
      have e1 : first.map a.eval = us.toArray := by rw [← hF.evs h1, ← Array.toList_map, Array.toArray_toList]
      have e2 : caps.map a.eval = vs.toArray := by rw [← hF.evs h2, ← Array.toList_map, Array.toArray_toList]
      simp [execOp, ho, Instr.makeFunc, e1, e2]
    · cases h
  case h_9 src dst x ho =>
    split at h
    · rename_i s0 k _ _ _ m hs0 hs hx
      cases h
      obtain ⟨i, hu, _⟩ := hT.sc hs
      obtain ⟨d, hd⟩ := hT.und hs0
      simp [execOp, ho, hF.ev hx, convert, underlying, hd, hu, Conv.intToInt]
    · rename_i s0 _ _ s hs0 hs hx
      cases h
      obtain ⟨i, hu, _⟩ := hT.sc hs
      obtain ⟨d, hd⟩ := hT.und hs0
      simp [execOp, ho, hF.ev hx, convert, underlying, hd, hu]
    · cases h
  case h_10 args ats ho =>
    split at h
    · rename_i x t h1 h2
      have e1 : args = #[x] := by cases args; simp_all
      have e2 : ats = #[t] := by cases ats; simp_all
      subst e1 e2
      split at h
      · rename_i _ _ _ _ _ p m c hs hx
        cases h
        obtain ⟨j, zv, hu, _⟩ := hT.sl hs
        simp [execOp, ho, resolve, invoke, builtin, hF.ev hx, Builtin.len_, underlying, hu, goInt]
      · rename_i _ _ l hs hx
        cases h
        obtain ⟨i, hu, _⟩ := hT.sc hs
        simp [execOp, ho, resolve, invoke, builtin, hF.ev hx, Builtin.len_, underlying, hu]
        rfl
      · cases h
    · cases h
  case h_11 s x f ho =>
    split at h
    · rename_i _ fs z c hs hx
      obtain ⟨fields, i, hu, hfs, hi, _, _, _, hne⟩ := hT.st hs
      split at h
      · rename_i o' sz hf
        obtain ⟨fl, j, hfl, hj, h1, h2, h3⟩ := mkFs_at hfs hf
        have hfl' : fields[f]? = some fl := by simpa using hfl
        cases h
        have hag := isAgg_run h3 w
        have h1' : fl.offset = o' := h1
        have h2' : j.size = sz := h2
        simp [execOp, ho, hF.ev hx, Instr.field, underlying, hu, hfl', asAgg, part, hag, Result.andThen, sizeOf, typeInfo, hj, h1', h2']
        apply Array.ext'
        simp [List.extract]
      · rename_i o' sz hf
        obtain ⟨fl, j, hfl, hj, h1, h2, h3⟩ := mkFs_at hfs hf
        have hfl' : fields[f]? = some fl := by simpa using hfl
        have hag := isAgg_run h3 w
        have h1' : fl.offset = o' := h1
        have hc : c[o']? = some v := by simpa using h
        simp [execOp, ho, hF.ev hx, Instr.field, underlying, hu, hfl', asAgg, part, hag, Result.andThen, h1', hc]
      · cases h
    · cases h
  case h_12 => cases h
end Go.Proofs.Ytejnpppejalhfaa
