/- What is proved: the plain statement behind InodeMasks: for every list of bools and every two ints the law's printed function answers true. No condition. -/
import Derived.Test.YtnkopggkapdceaaInox25
import Derived.Test.YtnkopggkapdceaaPlainD
namespace Go.Proofs.Ytnkopggkapdceaa.Pure
open Go.RowKit Go.Proofs.Ytnkopggkapdceaa.Ino Go.Proofs.YtnkopggkapdceaaW.PrintWords Go.Proofs.YtnkopggkapdceaaW.PrintLast Go.Proofs.Ytnkopggkapdceaa.Plain Go.Proofs.Ytnkopggkapdceaa.Hand

theorem InodeMasks (l : List Bool) (m n : Int) : estoverslaw27_InodeMasks.f 201 l m n = some true := by
  unfold estoverslaw27_InodeMasks.f
  rw [awake_all 201 (by decide), Option.bind_some, if_pos rfl]
  by_cases h : (l.length : Int) > 100
  · rw [decide_eq_true h]
    simp only [estoverslaw27_InodeMasks.j0]
    rw [if_pos trivial, awake_all 200 (by decide)]
    rfl
  · rw [decide_eq_false h]
    simp only [estoverslaw27_InodeMasks.j0]
    rw [if_neg (by decide), mask_all 200 (by decide), refMask_all 200 (by decide), backed_all 200 (by decide), refBacked_all 200 (by decide), Option.bind_some, Option.bind_some, Option.bind_some, Option.bind_some, if_pos rfl, if_pos rfl, if_pos rfl, sameB_f _ (by have := backf_len m n; omega) 200 (by decide)]
    rfl

end Go.Proofs.Ytnkopggkapdceaa.Pure
