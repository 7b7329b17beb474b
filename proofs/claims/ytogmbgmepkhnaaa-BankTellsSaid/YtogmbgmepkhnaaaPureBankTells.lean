/- Where any address lies, by any banks, of any cartridge, and whether that can be, is as the document says. -/
import Derived.Test.YtogmbgmepkhnaaaAx6
import Derived.Test.YtogmbgmepkhnaaaPlain
set_option linter.unusedVariables false
set_option linter.unusedSimpArgs false
namespace Go.Proofs.Ytogmbgmepkhnaaa.Pure
open Go.RowKit Go.Proofs.Ytogmbgmepkhnaaa.All Go.Proofs.Ytogmbgmepkhnaaa.Plain Go.Proofs.YtogmbgmepkhnaaaW.PrintWords Go.Proofs.YtogmbgmepkhnaaaW.PrintLast

theorem BankTells : keepsakelaw20_BankTells.Pure := by
  intro a0 a1 a2 a3 a4 b0 b1 a _ _ _ _ _ hb0 hb1 ha
  obtain ⟨b0l, b0h⟩ := u8 hb0
  obtain ⟨b1l, b1h⟩ := u8 hb1
  obtain ⟨al, ah⟩ := u16 ha
  refine ⟨0 + 8, ?_⟩
  unfold keepsakelaw20_BankTells.f
  rw [awake, Option.bind_some, if_pos rfl, right_bank, right_doc, Option.bind_some, Option.bind_some, if_pos (by simp)]
  cases h : okB a0 a1 a2 a3 a4
  · rw [long_no h, long_doc_no h, Option.bind_some, Option.bind_some, if_pos rfl, where_no h, where_doc_no h]
    rfl
  · have h := okB_ok h
    rw [long_ok h, long_doc h, Option.bind_some, Option.bind_some, if_pos rfl, where_ok h _ _ _ _ b0l b0h b1l b1h al ah, where_doc h _ _ _ _ b0l b0h b1l b1h al ah, Option.bind_some, Option.bind_some]
    simp

end Go.Proofs.Ytogmbgmepkhnaaa.Pure
