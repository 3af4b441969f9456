/-
  A closed call, evaluated piece by piece: part 10. (Written by a program of ours: gen_pieces.py.)
-/
import Derived.Test.YtiojohpghhccpaaDoorSeat
import Derived.Test.YtiojohpghhccpaaDoorKnowA0
import Derived.Test.YtiojohpghhccpaaDoorKnowA4
import Derived.Test.YtiojohpghhccpaaDoorKnowA8
import Derived.Test.YtiojohpghhccpaaDoorKnowA9
set_option linter.all false
namespace Go.Pe.Kn16
open Go.Pe.Tryd (D dry)
/-- joinery/joinerylaw16.knows -/
def a151 : List V := []
def v151 : V := (.bool true)
def T151 : BT (List (List V × V)) := (.nd 89 (.nd 49 (.nd 40 (.lf 31 [(a78, v78), (a115, v115)]) (.lf 40 [(a127, v127)])) (.nd 51 (.lf 49 [(a136, v136)]) (.nd 87 (.lf 51 [(a146, v146)]) (.lf 87 [(a124, v124)])))) (.nd 125 (.nd 90 (.lf 89 [(a122, v122)]) (.nd 114 (.lf 90 [(a125, v125)]) (.lf 114 [(a2, v2)]))) (.nd 134 (.lf 125 [(a116, v116)]) (.nd 152 (.lf 134 [(a7, v7), (a15, v15)]) (.lf 152 [(a3, v3), (a11, v11)])))))
theorem k151 : TabOk D T151 := by
  intro f l h e he
  simp only [T151, BT.toList, List.cons_append, List.nil_append, List.mem_cons, List.not_mem_nil, or_false, Prod.mk.injEq] at h
  rcases h with ⟨rfl, rfl⟩ | ⟨rfl, rfl⟩ | ⟨rfl, rfl⟩ | ⟨rfl, rfl⟩ | ⟨rfl, rfl⟩ | ⟨rfl, rfl⟩ | ⟨rfl, rfl⟩ | ⟨rfl, rfl⟩ | ⟨rfl, rfl⟩ | ⟨rfl, rfl⟩ | ⟨rfl, rfl⟩
  · simp only [List.mem_cons, List.not_mem_nil, or_false] at he
    rcases he with rfl | rfl <;> first | exact e78 | exact e115
  · simp only [List.mem_cons, List.not_mem_nil, or_false] at he
    subst he; exact e127
  · simp only [List.mem_cons, List.not_mem_nil, or_false] at he
    subst he; exact e136
  · simp only [List.mem_cons, List.not_mem_nil, or_false] at he
    subst he; exact e146
  · simp only [List.mem_cons, List.not_mem_nil, or_false] at he
    subst he; exact e124
  · simp only [List.mem_cons, List.not_mem_nil, or_false] at he
    subst he; exact e122
  · simp only [List.mem_cons, List.not_mem_nil, or_false] at he
    subst he; exact e125
  · simp only [List.mem_cons, List.not_mem_nil, or_false] at he
    subst he; exact e2
  · simp only [List.mem_cons, List.not_mem_nil, or_false] at he
    subst he; exact e116
  · simp only [List.mem_cons, List.not_mem_nil, or_false] at he
    rcases he with rfl | rfl <;> first | exact e7 | exact e15
  · simp only [List.mem_cons, List.not_mem_nil, or_false] at he
    rcases he with rfl | rfl <;> first | exact e3 | exact e11
theorem e151 : ∀ s, EvF D 21 a151 s v151 s := piece dry (tabO_ok k151) (by kernel_rfl)
end Go.Pe.Kn16
