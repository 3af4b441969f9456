/-
  A closed call, evaluated piece by piece: part 4. (Written by a program of ours: gen_pieces.py.)
-/
import Derived.Test.YtiojohpghhccpaaDoorSeat
import Derived.Test.YtiojohpghhccpaaDoorKnowA0
import Derived.Test.YtiojohpghhccpaaDoorKnowA2
import Derived.Test.YtiojohpghhccpaaDoorKnowA3
set_option linter.all false
namespace Go.Pe.Kn16
open Go.Pe.Tryd (D dry)
/-- joinery/norm.Of -/
def a78 : List V := [(.st false 1 [(.int .i64 18), (.int .i64 0), (.int .i64 0), (.int .i64 0), (.int .i64 0), (.int .i64 0)])]
def v78 : V := (.tup [(.agg [(.int .i64 0), (.st false 1 [(.int .i64 18), (.int .i64 0), (.st false 1 [(.int .i64 4), (.int .i64 0)]), .sn]), (.st false 1 [(.int .i64 0), (.st false 1 [(.int .i64 1), (.int .i64 0)])])]), (.int .i64 0)])
def T78 : BT (List (List V × V)) := (.nd 68 (.nd 66 (.lf 63 [(a18, v18)]) (.nd 67 (.lf 66 [(a73, v73)]) (.lf 67 [(a72, v72)]))) (.nd 72 (.lf 68 [(a24, v24)]) (.nd 107 (.lf 72 [(a74, v74)]) (.lf 107 [(a21, v21)]))))
theorem k78 : TabOk D T78 := by
  intro f l h e he
  simp only [T78, BT.toList, List.cons_append, List.nil_append, List.mem_cons, List.not_mem_nil, or_false, Prod.mk.injEq] at h
  rcases h with ⟨rfl, rfl⟩ | ⟨rfl, rfl⟩ | ⟨rfl, rfl⟩ | ⟨rfl, rfl⟩ | ⟨rfl, rfl⟩ | ⟨rfl, rfl⟩
  · simp only [List.mem_cons, List.not_mem_nil, or_false] at he
    subst he; exact e18
  · simp only [List.mem_cons, List.not_mem_nil, or_false] at he
    subst he; exact e73
  · simp only [List.mem_cons, List.not_mem_nil, or_false] at he
    subst he; exact e72
  · simp only [List.mem_cons, List.not_mem_nil, or_false] at he
    subst he; exact e24
  · simp only [List.mem_cons, List.not_mem_nil, or_false] at he
    subst he; exact e74
  · simp only [List.mem_cons, List.not_mem_nil, or_false] at he
    subst he; exact e21
theorem e78 : ∀ s, EvF D 31 a78 s v78 s := piece dry (tabO_ok k78) (by kernel_rfl)
end Go.Pe.Kn16
