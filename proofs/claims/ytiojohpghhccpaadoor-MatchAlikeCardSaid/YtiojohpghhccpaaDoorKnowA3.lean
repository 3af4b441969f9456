/-
  A closed call, evaluated piece by piece: part 3. (Written by a program of ours: gen_pieces.py.)
-/
import Derived.Test.YtiojohpghhccpaaDoorSeat
import Derived.Test.YtiojohpghhccpaaDoorKnowA0
set_option linter.all false
namespace Go.Pe.Kn16
open Go.Pe.Tryd (D dry)
/-- joinery/ins.Uses -/
def a74 : List V := [(.agg [(.int .i64 18), (.int .i64 0), (.int .i64 0), (.int .i64 0), (.int .i64 0), (.int .i64 0)])]
def v74 : V := (.st false 1 [(.int .i64 0)])
def T74 : BT (List (List V × V)) := (.nd 114 (.lf 99 [(a20, v20)]) (.lf 114 [(a2, v2)]))
theorem k74 : TabOk D T74 := by
  intro f l h e he
  simp only [T74, BT.toList, List.cons_append, List.nil_append, List.mem_cons, List.not_mem_nil, or_false, Prod.mk.injEq] at h
  rcases h with ⟨rfl, rfl⟩ | ⟨rfl, rfl⟩
  · simp only [List.mem_cons, List.not_mem_nil, or_false] at he
    subst he; exact e20
  · simp only [List.mem_cons, List.not_mem_nil, or_false] at he
    subst he; exact e2
theorem e74 : ∀ s, EvF D 72 a74 s v74 s := piece dry (tabO_ok k74) (by kernel_rfl)
end Go.Pe.Kn16
