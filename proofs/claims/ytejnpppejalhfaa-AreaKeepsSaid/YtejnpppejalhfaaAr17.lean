/- joined: the plain side. -/
import Derived.Test.YtejnpppejalhfaaAr9
import Derived.Test.YtejnpppejalhfaaAr10
namespace Go.Proofs.Ytejnpppejalhfaa
open Go.RowKit Go.Sort

def jn (L : List Ar) (i : Nat) : List Ar := (L.take i).foldl joinStep []
theorem jn_succ {L : List Ar} {i : Nat} {a : Ar} (ha : L[i]? = some a) : jn L (i + 1) = joinStep (jn L i) a := by
  unfold jn; rw [take_snoc ha, List.foldl_append]; rfl
theorem jn_all (L : List Ar) : jn L L.length = joined L := by unfold jn joined; rw [List.take_length]
theorem jn_good {L : List Ar} (h : RiseF 1 L) (i : Nat) : Good (jn L i) := (joined_spec (rise_take h i)).1
theorem joinStep_len (J : List Ar) (a : Ar) : (joinStep J a).length ≤ J.length + 1 := by
  unfold joinStep
  split
  · split <;> simp
  · simp
theorem jn_len (L : List Ar) (i : Nat) (hi : i ≤ L.length) : (jn L i).length ≤ i := by
  induction i with
  | zero => simp [jn]
  | succ i ih =>
    have ha : L[i]? = some (L[i]'(by omega)) := by simp
    rw [jn_succ ha]
    have := joinStep_len (jn L i) (L[i]'(by omega))
    have := ih (by omega)
    omega
theorem join_no {J : List Ar} {a : Ar} (h : ∀ b, J.getLast? = some b → ¬ b.alike a) : joinStep J a = J ++ [a] := by
  unfold joinStep
  cases hg : J.getLast? with
  | none => rfl
  | some b => simp only; rw [if_neg (h b hg)]
theorem join_yes {o : List Ar} {a b : Ar} (h : b.alike a) : joinStep (o ++ [b]) a = o ++ [{ b with n := b.n + a.n }] := by
  unfold joinStep
  rw [List.getLast?_append]
  simp [h]

end Go.Proofs.Ytejnpppejalhfaa
