/- What is proved: the plain statement behind InodeDecodes: for every list of bytes the law's printed function answers true. No condition beside the bytes' own range. -/
import Derived.Test.YtnkopggkapdceaaInox14
import Derived.Test.YtnkopggkapdceaaPlainB
import Derived.OpenShut
namespace Go.Proofs.Ytnkopggkapdceaa.Pure
open Go.RowKit Go.Proofs.Ytnkopggkapdceaa.Ino Go.Proofs.YtnkopggkapdceaaW.PrintWords Go.Proofs.YtnkopggkapdceaaW.PrintLast Go.Proofs.Ytnkopggkapdceaa.Plain Go.Proofs.Ytnkopggkapdceaa.Hand

theorem InodeDecodes : estoverslaw27_InodeDecodes.Pure := by
  intro l _ _ hb
  have hb' : Bytes l := fun x hx => bounds_u8 (hb x hx)
  refine ⟨200, ?_⟩
  unfold estoverslaw27_InodeDecodes.f
  rw [awake_all 200 (by decide)]
  simp only [Option.bind_some, if_true, estoverslaw27_InodeDecodes.j0]
  by_cases h : (l.length : Int) > 100
  · rw [decide_eq_true h, if_pos rfl, awake_all 199 (by decide)]
    rfl
  · rw [decide_eq_false h, if_neg (by decide), decode_f l hb', refDecode_f 199 (by decide) l hb']
    simp

end Go.Proofs.Ytnkopggkapdceaa.Pure
