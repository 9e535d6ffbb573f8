/- What is proved: the plain statement behind InodeLays: for every list of ints and every int the law's printed function answers true. No condition beside the ints' own range. -/
import Derived.Test.YtnkopggkapdceaaInox17
import Derived.Test.YtnkopggkapdceaaPlainC
import Derived.OpenShut
namespace Go.Proofs.Ytnkopggkapdceaa.Pure
open Go.RowKit Go.Proofs.Ytnkopggkapdceaa.Ino Go.Proofs.YtnkopggkapdceaaW.PrintWords Go.Proofs.YtnkopggkapdceaaW.PrintLast Go.Proofs.Ytnkopggkapdceaa.Plain Go.Proofs.Ytnkopggkapdceaa.Hand

theorem InodeLays : estoverslaw27_InodeLays.Pure := by
  intro l s _ _ _ hs
  have hs' := bounds_i64 hs
  refine ⟨200, ?_⟩
  unfold estoverslaw27_InodeLays.f
  rw [awake_all 200 (by decide)]
  simp only [Option.bind_some, if_true, estoverslaw27_InodeLays.j0]
  by_cases h : (l.length : Int) > 100
  · rw [decide_eq_true h, if_pos rfl, awake_all 199 (by decide)]
    rfl
  · rw [decide_eq_false h, if_neg (by decide), layout_f 199 (by decide) l s (by omega) (by omega), refLayout_f 199 (by decide) l s (by omega) (by omega)]
    simp only [Option.bind_some, if_true]
    rw [sameI_f _ (by have := layf_len l s; omega) 199 (by decide)]
    rfl

end Go.Proofs.Ytnkopggkapdceaa.Pure
