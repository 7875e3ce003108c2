/- Plain lemmas on maps. -/
import Derived.Test.YtcnchjlomcafeaaPlain
set_option linter.unusedVariables false
set_option linter.unusedSimpArgs false
namespace Go.Proofs.Ytcnchjlomcafeaa.B
open Go Go.RowKit
section
variable {β : Type}
theorem aget_nil (k : Int) : aget ([] : List (Int × β)) k = none := rfl
theorem aget_cons (p : Int × β) (r : List (Int × β)) (k : Int) : aget (p :: r) k = if k = p.1 then some p.2 else aget r k := by
  unfold aget
  simp only [aidx]
  split
  · rfl
  · cases aidx r k <;> rfl
theorem aset_nil (k : Int) (v : β) : aset ([] : List (Int × β)) k v = [(k, v)] := rfl
theorem aset_cons (p : Int × β) (r : List (Int × β)) (k : Int) (v : β) : aset (p :: r) k v = if k = p.1 then (k, v) :: r else p :: aset r k v := by
  by_cases h : k = p.1
  · simp [aset, aidx, h]
  · cases h2 : aidx r k with
    | none => simp [aset, aidx, h, h2]
    | some q => simp [aset, aidx, h, h2]
theorem aget_aset (m : List (Int × β)) (k k' : Int) (v : β) : aget (aset m k v) k' = if k' = k then some v else aget m k' := by
  induction m with
  | nil => rw [aset_nil, aget_cons, aget_nil]
  | cons p r ih =>
    rw [aset_cons]
    split
    · rename_i h
      subst h
      rw [aget_cons, aget_cons]
      simp only []
      split <;> rfl
    · rename_i h
      rw [aget_cons, aget_cons, ih]
      split
      · rename_i h2
        subst h2
        rw [if_neg (fun e => h e.symm)]
      · rfl
end
end Go.Proofs.Ytcnchjlomcafeaa.B
