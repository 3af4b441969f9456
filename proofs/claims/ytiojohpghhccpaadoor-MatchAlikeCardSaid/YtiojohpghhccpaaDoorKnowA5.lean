/-
  A closed call, evaluated piece by piece: part 5. (Written by a program of ours: gen_pieces.py.)
-/
import Derived.Test.YtiojohpghhccpaaDoorSeat
import Derived.Test.YtiojohpghhccpaaDoorKnowA0
set_option linter.all false
namespace Go.Pe.Kn16
open Go.Pe.Tryd (D dry)
/-- joinery/asm.Right -/
def a80 : List V := [(.st false 1 [(.int .i64 18), (.int .i64 0), (.int .i64 1), (.int .i64 0), (.int .i64 0), (.int .i64 0)])]
def v80 : V := (.bool true)
def T80 : BT (List (List V × V)) := (.lf 134 [(a15, v15)])
theorem k80 : TabOk D T80 := by
  intro f l h e he
  simp only [T80, BT.toList, List.cons_append, List.nil_append, List.mem_cons, List.not_mem_nil, or_false, Prod.mk.injEq] at h
  obtain ⟨rfl, rfl⟩ := h
  · simp only [List.mem_cons, List.not_mem_nil, or_false] at he
    subst he; exact e15
theorem e80 : ∀ s, EvF D 63 a80 s v80 s := piece dry (tabO_ok k80) (by kernel_rfl)
/-- joinery/ins.Moves -/
def a81 : List V := [(.agg [(.int .i64 18), (.int .i64 0), (.int .i64 1), (.int .i64 0), (.int .i64 0), (.int .i64 0)])]
def v81 : V := (.bool false)
theorem e81 : ∀ s, EvF D 99 a81 s v81 s := piece dry noOrc_ok (by kernel_rfl)
/-- joinery/path.From -/
def a82 : List V := [(.st false 1 [(.int .i64 18), (.int .i64 0), (.int .i64 1), (.int .i64 0), (.int .i64 0), (.int .i64 0)]), (.int .i64 0)]
def v82 : V := (.tup [(.agg [(.int .i64 0), (.iface 232 (.agg [(.int .i64 0)])), (.iface 232 (.agg [(.int .i64 1)])), (.iface 232 (.agg [(.int .i64 2)])), (.iface 232 (.agg [(.int .i64 3)])), (.iface 232 (.agg [(.int .i64 4)])), (.iface 232 (.agg [(.int .i64 5)])), (.iface 232 (.agg [(.int .i64 6)])), (.iface 232 (.agg [(.int .i64 7)])), (.iface 232 (.agg [(.int .i64 8)])), (.iface 232 (.agg [(.int .i64 9)])), (.iface 232 (.agg [(.int .i64 10)])), (.iface 232 (.agg [(.int .i64 11)])), (.iface 232 (.agg [(.int .i64 12)])), (.iface 232 (.agg [(.int .i64 13)])), (.iface 232 (.agg [(.int .i64 14)])), (.iface 232 (.agg [(.int .i64 15)])), (.iface 232 (.agg [(.int .i64 16)])), (.iface 232 (.agg [(.int .i64 17)])), (.iface 232 (.agg [(.int .i64 18)])), (.iface 232 (.agg [(.int .i64 19)])), (.iface 232 (.agg [(.int .i64 20)])), (.iface 232 (.agg [(.int .i64 21)])), (.iface 232 (.agg [(.int .i64 22)])), (.iface 232 (.agg [(.int .i64 23)])), (.int .i64 0)]), (.int .i64 0)])
def T82 : BT (List (List V × V)) := (.nd 99 (.lf 63 [(a80, v80)]) (.nd 135 (.lf 99 [(a81, v81)]) (.lf 135 [(a19, v19)])))
theorem k82 : TabOk D T82 := by
  intro f l h e he
  simp only [T82, BT.toList, List.cons_append, List.nil_append, List.mem_cons, List.not_mem_nil, or_false, Prod.mk.injEq] at h
  rcases h with ⟨rfl, rfl⟩ | ⟨rfl, rfl⟩ | ⟨rfl, rfl⟩
  · simp only [List.mem_cons, List.not_mem_nil, or_false] at he
    subst he; exact e80
  · simp only [List.mem_cons, List.not_mem_nil, or_false] at he
    subst he; exact e81
  · simp only [List.mem_cons, List.not_mem_nil, or_false] at he
    subst he; exact e19
theorem e82 : ∀ s, EvF D 107 a82 s v82 s := piece dry (tabO_ok k82) (by kernel_rfl)
/-- joinery/value.built -/
def a84 : List V := [(.st false 1 [(.int .i64 18), (.int .i64 0), (.int .i64 1), (.int .i64 0), (.int .i64 0), (.int .i64 0)]), (.agg [(.int .i64 0), (.iface 232 (.agg [(.int .i64 0)])), (.iface 232 (.agg [(.int .i64 1)])), (.iface 232 (.agg [(.int .i64 2)])), (.iface 232 (.agg [(.int .i64 3)])), (.iface 232 (.agg [(.int .i64 4)])), (.iface 232 (.agg [(.int .i64 5)])), (.iface 232 (.agg [(.int .i64 6)])), (.iface 232 (.agg [(.int .i64 7)])), (.iface 232 (.agg [(.int .i64 8)])), (.iface 232 (.agg [(.int .i64 9)])), (.iface 232 (.agg [(.int .i64 10)])), (.iface 232 (.agg [(.int .i64 11)])), (.iface 232 (.agg [(.int .i64 12)])), (.iface 232 (.agg [(.int .i64 13)])), (.iface 232 (.agg [(.int .i64 14)])), (.iface 232 (.agg [(.int .i64 15)])), (.iface 232 (.agg [(.int .i64 16)])), (.iface 232 (.agg [(.int .i64 17)])), (.iface 232 (.agg [(.int .i64 18)])), (.iface 232 (.agg [(.int .i64 19)])), (.iface 232 (.agg [(.int .i64 20)])), (.iface 232 (.agg [(.int .i64 21)])), (.iface 232 (.agg [(.int .i64 22)])), (.iface 232 (.agg [(.int .i64 23)])), (.st false 1 [(.int .i64 0), .sn])])]
def v84 : V := (.bool true)
def T84 : BT (List (List V × V)) := (.nd 107 (.lf 63 [(a80, v80)]) (.lf 107 [(a82, v82)]))
theorem k84 : TabOk D T84 := by
  intro f l h e he
  simp only [T84, BT.toList, List.cons_append, List.nil_append, List.mem_cons, List.not_mem_nil, or_false, Prod.mk.injEq] at h
  rcases h with ⟨rfl, rfl⟩ | ⟨rfl, rfl⟩
  · simp only [List.mem_cons, List.not_mem_nil, or_false] at he
    subst he; exact e80
  · simp only [List.mem_cons, List.not_mem_nil, or_false] at he
    subst he; exact e82
theorem e84 : ∀ s, EvF D 109 a84 s v84 s := piece dry (tabO_ok k84) (by kernel_rfl)
/-- joinery/value.All -/
def a109 : List V := [(.st false 1 [(.int .i64 18), (.int .i64 0), (.int .i64 1), (.int .i64 0), (.int .i64 0), (.int .i64 0)]), (.agg [(.int .i64 0), (.iface 232 (.agg [(.int .i64 0)])), (.iface 232 (.agg [(.int .i64 1)])), (.iface 232 (.agg [(.int .i64 2)])), (.iface 232 (.agg [(.int .i64 3)])), (.iface 232 (.agg [(.int .i64 4)])), (.iface 232 (.agg [(.int .i64 5)])), (.iface 232 (.agg [(.int .i64 6)])), (.iface 232 (.agg [(.int .i64 7)])), (.iface 232 (.agg [(.int .i64 8)])), (.iface 232 (.agg [(.int .i64 9)])), (.iface 232 (.agg [(.int .i64 10)])), (.iface 232 (.agg [(.int .i64 11)])), (.iface 232 (.agg [(.int .i64 12)])), (.iface 232 (.agg [(.int .i64 13)])), (.iface 232 (.agg [(.int .i64 14)])), (.iface 232 (.agg [(.int .i64 15)])), (.iface 232 (.agg [(.int .i64 16)])), (.iface 232 (.agg [(.int .i64 17)])), (.iface 232 (.agg [(.int .i64 18)])), (.iface 232 (.agg [(.int .i64 19)])), (.iface 232 (.agg [(.int .i64 20)])), (.iface 232 (.agg [(.int .i64 21)])), (.iface 232 (.agg [(.int .i64 22)])), (.iface 232 (.agg [(.int .i64 23)])), (.st false 1 [(.int .i64 0), .sn])])]
def v109 : V := (.st false 1 [(.st false 1 [(.st false 24 [(.int .i64 1), (.int .i64 0), (.int .i64 1), (.int .i64 1), (.int .i64 1), (.int .i64 2), (.int .i64 1), (.int .i64 3), (.int .i64 1), (.int .i64 4), (.int .i64 1), (.int .i64 5), (.int .i64 1), (.int .i64 6), (.int .i64 1), (.int .i64 7), (.int .i64 0), (.int .i64 0), (.int .i64 0), (.int .i64 0), (.int .i64 0), (.int .i64 0), (.int .i64 0), (.int .i64 0), (.int .i64 0), (.int .i64 0), (.int .i64 0), (.int .i64 0), (.int .i64 0), (.int .i64 0), (.int .i64 0), (.int .i64 0), (.int .i64 0), (.int .i64 0), (.int .i64 0), (.int .i64 0), (.int .i64 0), (.int .i64 0), (.int .i64 0), (.int .i64 0), (.int .i64 0), (.int .i64 0), (.int .i64 0), (.int .i64 0), (.int .i64 0), (.int .i64 0), (.int .i64 0), (.int .i64 0)])])])
def T109 : BT (List (List V × V)) := (.nd 109 (.lf 68 [(a24, v24)]) (.nd 138 (.lf 109 [(a84, v84)]) (.lf 138 [(a25, v25)])))
theorem k109 : TabOk D T109 := by
  intro f l h e he
  simp only [T109, BT.toList, List.cons_append, List.nil_append, List.mem_cons, List.not_mem_nil, or_false, Prod.mk.injEq] at h
  rcases h with ⟨rfl, rfl⟩ | ⟨rfl, rfl⟩ | ⟨rfl, rfl⟩
  · simp only [List.mem_cons, List.not_mem_nil, or_false] at he
    subst he; exact e24
  · simp only [List.mem_cons, List.not_mem_nil, or_false] at he
    subst he; exact e84
  · simp only [List.mem_cons, List.not_mem_nil, or_false] at he
    subst he; exact e25
theorem e109 : ∀ s, EvF D 67 a109 s v109 s := piece dry (tabO_ok k109) (by kernel_rfl)
end Go.Pe.Kn16
