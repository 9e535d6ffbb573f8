/- What is proved: the plain statement behind InodeEncodes: for every pair of ints the law's printed function answers true. No condition beside the ints' own range. -/
import Derived.Test.YtnkopggkapdceaaInox12
import Derived.Test.YtnkopggkapdceaaPlainA
namespace Go.Proofs.Ytnkopggkapdceaa.Pure
open Go.RowKit Go.Proofs.Ytnkopggkapdceaa.Ino Go.Proofs.YtnkopggkapdceaaW.PrintWords Go.Proofs.YtnkopggkapdceaaW.PrintLast Go.Proofs.Ytnkopggkapdceaa.Plain Go.Proofs.Ytnkopggkapdceaa.Hand

theorem awake_f : estoverslaw27_awake.f 200 = some true := by decide +kernel

theorem InodeEncodes : estoverslaw27_InodeEncodes.Pure := by
  intro n m _ _
  refine ⟨200, ?_⟩
  unfold estoverslaw27_InodeEncodes.f
  rw [awake_f]
  simp only [Option.bind_some, if_true]
  rw [refEncode_f 200 n m (by decide)]
  unfold inode_Encode.f
  simp only [Option.bind_some, if_true]
  rw [same_f _ (by have := encf_len n m; omega) 200 (by decide)]
  rfl

end Go.Proofs.Ytnkopggkapdceaa.Pure
