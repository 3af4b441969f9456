/-
  A closed call, evaluated piece by piece: part 8. (Written by a program of ours: gen_pieces.py.)
-/
import Derived.Test.YtiojohpghhccpaaDoorSeat
import Derived.Test.YtiojohpghhccpaaDoorKnowA0
import Derived.Test.YtiojohpghhccpaaDoorKnowA5
import Derived.Test.YtiojohpghhccpaaDoorKnowA6
import Derived.Test.YtiojohpghhccpaaDoorKnowA7
set_option linter.all false
namespace Go.Pe.Kn16
open Go.Pe.Tryd (D dry)
/-- joinery/norm.Of -/
def a115 : List V := [(.st false 1 [(.int .i64 18), (.int .i64 0), (.int .i64 1), (.int .i64 0), (.int .i64 0), (.int .i64 0)])]
def v115 : V := (.tup [(.agg [(.int .i64 0), (.st false 1 [(.int .i64 18), (.int .i64 0), (.st false 1 [(.int .i64 4), (.int .i64 0)]), .sn]), (.st false 1 [(.int .i64 0), (.st false 1 [(.int .i64 1), (.int .i64 1)])])]), (.int .i64 0)])
def T115 : BT (List (List V × V)) := (.nd 68 (.nd 66 (.lf 63 [(a80, v80)]) (.nd 67 (.lf 66 [(a110, v110)]) (.lf 67 [(a109, v109)]))) (.nd 72 (.lf 68 [(a24, v24)]) (.nd 107 (.lf 72 [(a111, v111)]) (.lf 107 [(a82, v82)]))))
theorem k115 : TabOk D T115 := by
  intro f l h e he
  simp only [T115, BT.toList, List.cons_append, List.nil_append, List.mem_cons, List.not_mem_nil, or_false, Prod.mk.injEq] at h
  rcases h with ⟨rfl, rfl⟩ | ⟨rfl, rfl⟩ | ⟨rfl, rfl⟩ | ⟨rfl, rfl⟩ | ⟨rfl, rfl⟩ | ⟨rfl, rfl⟩
  · simp only [List.mem_cons, List.not_mem_nil, or_false] at he
    subst he; exact e80
  · simp only [List.mem_cons, List.not_mem_nil, or_false] at he
    subst he; exact e110
  · simp only [List.mem_cons, List.not_mem_nil, or_false] at he
    subst he; exact e109
  · simp only [List.mem_cons, List.not_mem_nil, or_false] at he
    subst he; exact e24
  · simp only [List.mem_cons, List.not_mem_nil, or_false] at he
    subst he; exact e111
  · simp only [List.mem_cons, List.not_mem_nil, or_false] at he
    subst he; exact e82
theorem e115 : ∀ s, EvF D 31 a115 s v115 s := piece dry (tabO_ok k115) (by kernel_rfl)
end Go.Pe.Kn16
