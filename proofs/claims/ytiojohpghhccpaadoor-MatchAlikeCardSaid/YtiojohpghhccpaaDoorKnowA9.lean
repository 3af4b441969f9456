/-
  A closed call, evaluated piece by piece: part 9. (Written by a program of ours: gen_pieces.py.)
-/
import Derived.Test.YtiojohpghhccpaaDoorSeat
set_option linter.all false
namespace Go.Pe.Kn16
open Go.Pe.Tryd (D dry)
/-- joinery/shape.of -/
def a116 : List V := [(.int .i64 18)]
def v116 : V := (.tup [(.agg [(.str [114, 101, 116]), (.int .i64 1), (.int .i64 0), (.bool false)]), (.bool true)])
theorem e116 : ∀ s, EvF D 125 a116 s v116 s := piece dry noOrc_ok (by kernel_rfl)
/-- joinery/num.Text -/
def a122 : List V := [(.int .i64 0)]
def v122 : V := (.str [48])
theorem e122 : ∀ s, EvF D 89 a122 s v122 s := piece dry noOrc_ok (by kernel_rfl)
/-- joinery/shape.line -/
def a124 : List V := [(.st true 2 [(.str [101, 110, 116, 114, 121]), (.str [48])])]
def v124 : V := (.str [101, 110, 116, 114, 121, 32, 48, 10])
theorem e124 : ∀ s, EvF D 87 a124 s v124 s := piece dry noOrc_ok (by kernel_rfl)
/-- joinery/shape.source -/
def a125 : List V := [(.agg [(.int .i64 4), (.int .i64 0)])]
def v125 : V := (.str [118, 48])
def T125 : BT (List (List V × V)) := (.lf 89 [(a122, v122)])
theorem k125 : TabOk D T125 := by
  intro f l h e he
  simp only [T125, BT.toList, List.cons_append, List.nil_append, List.mem_cons, List.not_mem_nil, or_false, Prod.mk.injEq] at h
  obtain ⟨rfl, rfl⟩ := h
  · simp only [List.mem_cons, List.not_mem_nil, or_false] at he
    subst he; exact e122
theorem e125 : ∀ s, EvF D 90 a125 s v125 s := piece dry (tabO_ok k125) (by kernel_rfl)
/-- joinery/shape.Print -/
def a127 : List V := [(.agg [(.int .i64 0), (.st false 1 [(.int .i64 18), (.int .i64 0), (.st false 1 [(.int .i64 4), (.int .i64 0)]), .sn]), (.st false 1 [(.int .i64 0), (.st false 1 [(.int .i64 1), (.int .i64 0)])])])]
def v127 : V := (.tup [(.str [101, 110, 116, 114, 121, 32, 48, 10, 114, 101, 116, 32, 118, 48, 10, 118, 97, 108, 117, 101, 32, 48, 32, 114, 48, 10]), (.int .i64 0)])
def T127 : BT (List (List V × V)) := (.nd 90 (.nd 89 (.lf 87 [(a124, v124)]) (.lf 89 [(a122, v122)])) (.nd 125 (.lf 90 [(a125, v125)]) (.lf 125 [(a116, v116)])))
theorem k127 : TabOk D T127 := by
  intro f l h e he
  simp only [T127, BT.toList, List.cons_append, List.nil_append, List.mem_cons, List.not_mem_nil, or_false, Prod.mk.injEq] at h
  rcases h with ⟨rfl, rfl⟩ | ⟨rfl, rfl⟩ | ⟨rfl, rfl⟩ | ⟨rfl, rfl⟩
  · simp only [List.mem_cons, List.not_mem_nil, or_false] at he
    subst he; exact e124
  · simp only [List.mem_cons, List.not_mem_nil, or_false] at he
    subst he; exact e122
  · simp only [List.mem_cons, List.not_mem_nil, or_false] at he
    subst he; exact e125
  · simp only [List.mem_cons, List.not_mem_nil, or_false] at he
    subst he; exact e116
theorem e127 : ∀ s, EvF D 40 a127 s v127 s := piece dry (tabO_ok k127) (by kernel_rfl)
/-- joinery/match.lines -/
def a136 : List V := [(.str [101, 110, 116, 114, 121, 32, 48, 10, 114, 101, 116, 32, 118, 48, 10, 118, 97, 108, 117, 101, 32, 48, 32, 114, 48, 10])]
def v136 : V := (.st false 3 [(.str [101, 110, 116, 114, 121, 32, 48]), (.str [114, 101, 116, 32, 118, 48]), (.str [118, 97, 108, 117, 101, 32, 48, 32, 114, 48])])
theorem e136 : ∀ s, EvF D 49 a136 s v136 s := piece dry noOrc_ok (by kernel_rfl)
/-- joinery/match.sources -/
def a146 : List V := [(.st false 1 [(.int .i64 4), (.int .i64 0)]), (.st false 1 [(.int .i64 4), (.int .i64 0)])]
def v146 : V := (.bool true)
theorem e146 : ∀ s, EvF D 51 a146 s v146 s := piece dry noOrc_ok (by kernel_rfl)
end Go.Pe.Kn16
