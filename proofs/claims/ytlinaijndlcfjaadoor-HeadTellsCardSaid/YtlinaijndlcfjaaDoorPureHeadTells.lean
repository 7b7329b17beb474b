/- Any head's bytes, or that it can't be, is as the document says. -/
import Derived.Test.YtlinaijndlcfjaaDoorAx8
import Derived.Test.YtlinaijndlcfjaaDoorEnc
import Derived.Test.YtlinaijndlcfjaaDoorAwake
import Derived.Test.YtlinaijndlcfjaaDoorSame
set_option linter.unusedVariables false
set_option linter.unusedSimpArgs false
namespace Go.Proofs.YtlinaijndlcfjaaDoor.Pure
open Go.RowKit Go.Proofs.YtlinaijndlcfjaaDoor.All Go.Proofs.YtlinaijndlcfjaaDoor.Given Go.Proofs.YtlinaijndlcfjaaDoor.Sums Go.Proofs.YtlinaijndlcfjaaDoor.Enc Go.Proofs.YtlinaijndlcfjaaDoor.Chips Go.Proofs.YtlinaijndlcfjaaDoor.Same Go.Proofs.YtlinaijndlcfjaaDoorW.PrintWords Go.Proofs.YtlinaijndlcfjaaDoorW.PrintLast

theorem HeadTells : keepsakelaw04_HeadTells.Pure := by
  intro a b c n s m _ _ _ _ hs hm
  obtain ⟨s0, s1⟩ := u64_bd hs
  have hm : 0 ≤ m ∧ m < 4294967296 := by
    simp [Lit.wf, IntKind.min, IntKind.max, IntKind.signed, IntKind.bits] at hm
    omega
  refine ⟨300 + 39700, ?_⟩
  unfold keepsakelaw04_HeadTells.f
  rw [awake, Option.bind_some]
  cases h : canB a b c n
  · rw [encode_no h, encode_doc_no h, Option.bind_some, Option.bind_some, if_pos rfl, if_pos rfl, same_f _ _ (by decide) _ (by decide), Option.bind_some]
    simp
  · rw [encode_ok h _ (by omega), encode_doc h s0 (by omega) hm.1 hm.2 _ (by omega), Option.bind_some, Option.bind_some, if_pos rfl, if_pos rfl, same_f _ _ (by rw [enc_len]; decide) _ (by rw [enc_len]; decide), Option.bind_some]
    simp

end Go.Proofs.YtlinaijndlcfjaaDoor.Pure
