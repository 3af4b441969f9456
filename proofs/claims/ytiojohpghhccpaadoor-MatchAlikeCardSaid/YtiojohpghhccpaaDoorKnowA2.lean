/-
  A closed call, evaluated piece by piece: part 2. (Written by a program of ours: gen_pieces.py.)
-/
import Derived.Test.YtiojohpghhccpaaDoorSeat
import Derived.Test.YtiojohpghhccpaaDoorKnowA0
set_option linter.all false
namespace Go.Pe.Kn16
open Go.Pe.Tryd (D dry)
/-- joinery/value.Facts -/
def a73 : List V := [(.st false 1 [(.int .i64 18), (.int .i64 0), (.int .i64 0), (.int .i64 0), (.int .i64 0), (.int .i64 0)]), (.agg [(.int .i64 0), (.iface 232 (.agg [(.int .i64 0)])), (.iface 232 (.agg [(.int .i64 1)])), (.iface 232 (.agg [(.int .i64 2)])), (.iface 232 (.agg [(.int .i64 3)])), (.iface 232 (.agg [(.int .i64 4)])), (.iface 232 (.agg [(.int .i64 5)])), (.iface 232 (.agg [(.int .i64 6)])), (.iface 232 (.agg [(.int .i64 7)])), (.iface 232 (.agg [(.int .i64 8)])), (.iface 232 (.agg [(.int .i64 9)])), (.iface 232 (.agg [(.int .i64 10)])), (.iface 232 (.agg [(.int .i64 11)])), (.iface 232 (.agg [(.int .i64 12)])), (.iface 232 (.agg [(.int .i64 13)])), (.iface 232 (.agg [(.int .i64 14)])), (.iface 232 (.agg [(.int .i64 15)])), (.iface 232 (.agg [(.int .i64 16)])), (.iface 232 (.agg [(.int .i64 17)])), (.iface 232 (.agg [(.int .i64 18)])), (.iface 232 (.agg [(.int .i64 19)])), (.iface 232 (.agg [(.int .i64 20)])), (.iface 232 (.agg [(.int .i64 21)])), (.iface 232 (.agg [(.int .i64 22)])), (.iface 232 (.agg [(.int .i64 23)])), (.st false 1 [(.int .i64 0), .sn])])]
def v73 : V := (.st false 1 [(.st false 24 [(.int .i64 4), (.int .i64 0), (.int .i64 4), (.int .i64 1), (.int .i64 4), (.int .i64 2), (.int .i64 4), (.int .i64 3), (.int .i64 4), (.int .i64 4), (.int .i64 4), (.int .i64 5), (.int .i64 4), (.int .i64 6), (.int .i64 4), (.int .i64 7), (.int .i64 0), (.int .i64 0), (.int .i64 0), (.int .i64 0), (.int .i64 0), (.int .i64 0), (.int .i64 0), (.int .i64 0), (.int .i64 0), (.int .i64 0), (.int .i64 0), (.int .i64 0), (.int .i64 0), (.int .i64 0), (.int .i64 0), (.int .i64 0), (.int .i64 0), (.int .i64 0), (.int .i64 0), (.int .i64 0), (.int .i64 0), (.int .i64 0), (.int .i64 0), (.int .i64 0), (.int .i64 0), (.int .i64 0), (.int .i64 0), (.int .i64 0), (.int .i64 0), (.int .i64 0), (.int .i64 0), (.int .i64 0)])])
def T73 : BT (List (List V × V)) := (.nd 68 (.lf 67 [(a72, v72)]) (.nd 109 (.lf 68 [(a24, v24)]) (.lf 109 [(a23, v23)])))
theorem k73 : TabOk D T73 := by
  intro f l h e he
  simp only [T73, BT.toList, List.cons_append, List.nil_append, List.mem_cons, List.not_mem_nil, or_false, Prod.mk.injEq] at h
  rcases h with ⟨rfl, rfl⟩ | ⟨rfl, rfl⟩ | ⟨rfl, rfl⟩
  · simp only [List.mem_cons, List.not_mem_nil, or_false] at he
    subst he; exact e72
  · simp only [List.mem_cons, List.not_mem_nil, or_false] at he
    subst he; exact e24
  · simp only [List.mem_cons, List.not_mem_nil, or_false] at he
    subst he; exact e23
theorem e73 : ∀ s, EvF D 66 a73 s v73 s := piece dry (tabO_ok k73) (by kernel_rfl)
end Go.Pe.Kn16
