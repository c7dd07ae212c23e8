/- The statement CycleRestored, over plain numbers and lists. -/
import Derived.Test.YtmaochcdjmnffaaT5A1
import Derived.Test.YtmaochcdjmnffaaT5B1
import Derived.Test.YtmaochcdjmnffaaT5Px9
import Derived.Test.YtmaochcdjmnffaaT5GRead
namespace Go.Proofs.Ytmaochcdjmnffaa.B
open Go.RowKit Go.Proofs.Ytmaochcdjmnffaa.P Go.Proofs.YtmaochcdjmnffaaW.PrintWords Go.Proofs.YtmaochcdjmnffaaW.PrintLast Go.Proofs.YtmaochcdjmnffaaW.PrintMore
set_option linter.unusedVariables false
/-- The words of a cycle's block. -/
def wordsOf (c r z q f x y : Int) (h : Bool) : List S80 := [⟨71, if h = true then 98000 else 99000⟩, ⟨71, c⟩, ⟨88, x⟩, ⟨89, y⟩, ⟨82, r⟩, ⟨90, z⟩] ++ (if c = 83000 then [⟨81, q⟩] else []) ++ [⟨70, f⟩]
theorem block_eq (k : Nat) (c r z q f i : Int) (h : Bool) (x y : Int) : cycle_Block.f (k + 2) c r z q f i h x y = some (if vE c r z q f i = 0 then (if far x = true ∨ far y = true then (false, [], ⟨#[]⟩, 11) else (false, wordsOf c r z q f x y h, ⟨#[]⟩, 0)) else (false, [], ⟨#[]⟩, vE c r z q f i)) := by
  unfold cycle_Block.f
  rw [valid_eq]
  simp only [Option.bind_some]
  by_cases he : vE c r z q f i = 0
  · rw [if_pos he, if_pos he, far_eq, far_eq]
    simp only [Option.bind_some]
    by_cases fx : far x = true
    · rw [if_pos fx, if_pos (.inl fx), cycle_Block.j0, if_pos rfl]
    · rw [if_neg fx]
      by_cases fy : far y = true
      · rw [if_pos (.inr fy), fy, cycle_Block.j0, if_pos rfl]
      · rw [if_neg (by simp [fx, fy]), show far y = false by simpa using fy, cycle_Block.j0, if_neg (by decide)]
        cases h <;> by_cases hc : c = 83000 <;> simp [hc, wordsOf]
  · rw [if_neg he, if_neg he]
/-- The error does not hang on the step where the code is another. -/
theorem vE_q {c r z q q' f i : Int} (hc : ¬ c = 83000) : vE c r z q f i = vE c r z q' f i := by
  unfold vE bad1 bad2
  simp [hc]
theorem read_own (k : Nat) (c r z q f i : Int) (h : Bool) (x y o1 o2 o3 ofr : Int) (b0 b4 b5 : Int) (b6 : Bool) (he : vE c r z q f i = 0) :
    cycle_Read.f (k + 2) false (wordsOf c r z q f x y h) ⟨#[]⟩ c ofr i h b0 o1 o2 o3 b4 b5 b6 = some (c, r, z, (if c = 83000 then q else o3), f, i, h, 0) := by
  have e1 : valW (wordsOf c r z q f x y h) 82 o1 = r := by simp [valW, wordsOf, findW]
  have e2 : valW (wordsOf c r z q f x y h) 90 o2 = z := by simp [valW, wordsOf, findW]
  have e3 : valW (wordsOf c r z q f x y h) 81 o3 = (if c = 83000 then q else o3) := by
    by_cases hc : c = 83000 <;> simp [valW, wordsOf, findW, hc]
  have e4 : valW (wordsOf c r z q f x y h) 70 ofr = f := by
    by_cases hc : c = 83000 <;> simp [valW, wordsOf, findW, hc]
  unfold cycle_Read.f
  rw [e1, e2, e3, e4, valid_eq]
  have : vE c r z (if c = 83000 then q else o3) f i = 0 := by
    by_cases hc : c = 83000
    · rw [if_pos hc]; exact he
    · rw [if_neg hc, vE_q hc (q' := q)]; exact he
  rw [this]
  rfl
end Go.Proofs.Ytmaochcdjmnffaa.B
