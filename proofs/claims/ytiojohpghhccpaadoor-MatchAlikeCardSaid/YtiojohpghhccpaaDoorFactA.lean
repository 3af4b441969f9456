/-
  MatchAlike: its closed facts. (Written by a program of ours: gen_row.py.)
-/
import Derived.Test.YtiojohpghhccpaaDoorLaw
import Derived.Test.YtiojohpghhccpaaDoorRow1
import Derived.Test.YtiojohpghhccpaaDoorRow2
import Derived.Test.YtiojohpghhccpaaDoorRow3
set_option linter.all false
namespace Go.Proofs.YtiojohpghhccpaaDoor
open Go Go.Pe.Tryd
theorem matchAlike_9 : (Rows.matchAlikeRow.inPlace == Tryd.prog.inPlace 5) = true := by kernel_rfl
theorem matchAlike_10 : (Rows.matchAlikeRow.unfollowed == Tryd.prog.unfollowed 5) = true := by kernel_rfl
theorem matchAlike_11 : (Rows.matchAlikeRow.recurses == Tryd.prog.recurses 5) = true := by kernel_rfl
theorem matchAlike_12 : (Rows.matchAlikeRow.named == Tryd.prog.varsNamed 5) = true := by kernel_rfl
set_option maxRecDepth 100000 in
theorem matchAlike_facts : joinedFacts Tryd.pinned.checked.prog 5 Tryd.f5 Rows.matchAlikeSpec Rows.matchAlikeRow = true := by
  unfold joinedFacts
  simp only [Bool.and_eq_true]
  exact ⟨⟨⟨⟨⟨⟨⟨⟨⟨⟨⟨⟨⟨⟨⟨⟨⟨⟨⟨⟨⟨⟨⟨⟨⟨⟨⟨⟨⟨⟨⟨(by as_aux_lemma => kernel_rfl), p1⟩, p2⟩, (by as_aux_lemma => kernel_rfl)⟩, (by as_aux_lemma => kernel_rfl)⟩, (by as_aux_lemma => kernel_rfl)⟩, (by as_aux_lemma => kernel_rfl)⟩, (by as_aux_lemma => kernel_rfl)⟩, (by as_aux_lemma => kernel_rfl)⟩, matchAlike_9⟩, matchAlike_10⟩, matchAlike_11⟩, matchAlike_12⟩, (by as_aux_lemma => kernel_rfl)⟩, (by as_aux_lemma => kernel_rfl)⟩, (by as_aux_lemma => kernel_rfl)⟩, (by as_aux_lemma => kernel_rfl)⟩, (by as_aux_lemma => kernel_rfl)⟩, (by as_aux_lemma => kernel_rfl)⟩, (by as_aux_lemma => kernel_rfl)⟩, (by as_aux_lemma => kernel_rfl)⟩, (by as_aux_lemma => kernel_rfl)⟩, p22⟩, (by as_aux_lemma => kernel_rfl)⟩, p24⟩, p25⟩, p26⟩, p27⟩, (by as_aux_lemma => kernel_rfl)⟩, (by as_aux_lemma => kernel_rfl)⟩, (by as_aux_lemma => kernel_rfl)⟩, (by as_aux_lemma => kernel_rfl)⟩
end Go.Proofs.YtiojohpghhccpaaDoor
