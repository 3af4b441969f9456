/-
  A closed call, evaluated piece by piece: part 0. (Written by a program of ours: gen_pieces.py.)
-/
import Derived.Test.YtiojohpghhccpaaDoorSeat
set_option linter.all false
namespace Go.Pe.Kn16
open Go.Pe.Tryd (D dry)
/-- joinery/ins.of -/
def a2 : List V := [(.int .i64 18)]
def v2 : V := (.tup [(.agg [(.str [114, 101, 116]), (.str [65])]), (.bool true)])
theorem e2 : ∀ s, EvF D 114 a2 s v2 s := piece dry noOrc_ok (by kernel_rfl)
/-- joinery/ins.rest -/
def a3 : List V := [(.agg [(.int .i64 18), (.int .i64 0), (.int .i64 0), (.int .i64 0), (.int .i64 0), (.int .i64 0)]), (.agg [(.str [114, 101, 116]), (.str [65])])]
def v3 : V := (.agg [(.int .i64 0), (.int .i64 0), (.int .i64 0), (.int .i64 0), (.int .i64 0), (.int .i64 0)])
theorem e3 : ∀ s, EvF D 152 a3 s v3 s := piece dry noOrc_ok (by kernel_rfl)
/-- joinery/ins.Check -/
def a7 : List V := [(.agg [(.int .i64 18), (.int .i64 0), (.int .i64 0), (.int .i64 0), (.int .i64 0), (.int .i64 0)]), (.int .i64 1)]
def v7 : V := (.int .i64 0)
def T7 : BT (List (List V × V)) := (.nd 152 (.lf 114 [(a2, v2)]) (.lf 152 [(a3, v3)]))
theorem k7 : TabOk D T7 := by
  intro f l h e he
  simp only [T7, BT.toList, List.cons_append, List.nil_append, List.mem_cons, List.not_mem_nil, or_false, Prod.mk.injEq] at h
  rcases h with ⟨rfl, rfl⟩ | ⟨rfl, rfl⟩
  · simp only [List.mem_cons, List.not_mem_nil, or_false] at he
    subst he; exact e2
  · simp only [List.mem_cons, List.not_mem_nil, or_false] at he
    subst he; exact e3
theorem e7 : ∀ s, EvF D 134 a7 s v7 s := piece dry (tabO_ok k7) (by kernel_rfl)
/-- joinery/ins.rest -/
def a11 : List V := [(.agg [(.int .i64 18), (.int .i64 0), (.int .i64 1), (.int .i64 0), (.int .i64 0), (.int .i64 0)]), (.agg [(.str [114, 101, 116]), (.str [65])])]
def v11 : V := (.agg [(.int .i64 0), (.int .i64 0), (.int .i64 0), (.int .i64 0), (.int .i64 0), (.int .i64 0)])
theorem e11 : ∀ s, EvF D 152 a11 s v11 s := piece dry noOrc_ok (by kernel_rfl)
/-- joinery/ins.Check -/
def a15 : List V := [(.agg [(.int .i64 18), (.int .i64 0), (.int .i64 1), (.int .i64 0), (.int .i64 0), (.int .i64 0)]), (.int .i64 1)]
def v15 : V := (.int .i64 0)
def T15 : BT (List (List V × V)) := (.nd 152 (.lf 114 [(a2, v2)]) (.lf 152 [(a11, v11)]))
theorem k15 : TabOk D T15 := by
  intro f l h e he
  simp only [T15, BT.toList, List.cons_append, List.nil_append, List.mem_cons, List.not_mem_nil, or_false, Prod.mk.injEq] at h
  rcases h with ⟨rfl, rfl⟩ | ⟨rfl, rfl⟩
  · simp only [List.mem_cons, List.not_mem_nil, or_false] at he
    subst he; exact e2
  · simp only [List.mem_cons, List.not_mem_nil, or_false] at he
    subst he; exact e11
theorem e15 : ∀ s, EvF D 134 a15 s v15 s := piece dry (tabO_ok k15) (by kernel_rfl)
/-- joinery/asm.Right -/
def a18 : List V := [(.st false 1 [(.int .i64 18), (.int .i64 0), (.int .i64 0), (.int .i64 0), (.int .i64 0), (.int .i64 0)])]
def v18 : V := (.bool true)
def T18 : BT (List (List V × V)) := (.lf 134 [(a7, v7)])
theorem k18 : TabOk D T18 := by
  intro f l h e he
  simp only [T18, BT.toList, List.cons_append, List.nil_append, List.mem_cons, List.not_mem_nil, or_false, Prod.mk.injEq] at h
  obtain ⟨rfl, rfl⟩ := h
  · simp only [List.mem_cons, List.not_mem_nil, or_false] at he
    subst he; exact e7
theorem e18 : ∀ s, EvF D 63 a18 s v18 s := piece dry (tabO_ok k18) (by kernel_rfl)
/-- joinery/env.New -/
def a19 : List V := []
def v19 : V := (.agg [(.iface 232 (.agg [(.int .i64 0)])), (.iface 232 (.agg [(.int .i64 1)])), (.iface 232 (.agg [(.int .i64 2)])), (.iface 232 (.agg [(.int .i64 3)])), (.iface 232 (.agg [(.int .i64 4)])), (.iface 232 (.agg [(.int .i64 5)])), (.iface 232 (.agg [(.int .i64 6)])), (.iface 232 (.agg [(.int .i64 7)])), (.iface 232 (.agg [(.int .i64 8)])), (.iface 232 (.agg [(.int .i64 9)])), (.iface 232 (.agg [(.int .i64 10)])), (.iface 232 (.agg [(.int .i64 11)])), (.iface 232 (.agg [(.int .i64 12)])), (.iface 232 (.agg [(.int .i64 13)])), (.iface 232 (.agg [(.int .i64 14)])), (.iface 232 (.agg [(.int .i64 15)])), (.iface 232 (.agg [(.int .i64 16)])), (.iface 232 (.agg [(.int .i64 17)])), (.iface 232 (.agg [(.int .i64 18)])), (.iface 232 (.agg [(.int .i64 19)])), (.iface 232 (.agg [(.int .i64 20)])), (.iface 232 (.agg [(.int .i64 21)])), (.iface 232 (.agg [(.int .i64 22)])), (.iface 232 (.agg [(.int .i64 23)]))])
theorem e19 : ∀ s, EvF D 135 a19 s v19 s := piece dry noOrc_ok (by kernel_rfl)
/-- joinery/ins.Moves -/
def a20 : List V := [(.agg [(.int .i64 18), (.int .i64 0), (.int .i64 0), (.int .i64 0), (.int .i64 0), (.int .i64 0)])]
def v20 : V := (.bool false)
theorem e20 : ∀ s, EvF D 99 a20 s v20 s := piece dry noOrc_ok (by kernel_rfl)
/-- joinery/path.From -/
def a21 : List V := [(.st false 1 [(.int .i64 18), (.int .i64 0), (.int .i64 0), (.int .i64 0), (.int .i64 0), (.int .i64 0)]), (.int .i64 0)]
def v21 : V := (.tup [(.agg [(.int .i64 0), (.iface 232 (.agg [(.int .i64 0)])), (.iface 232 (.agg [(.int .i64 1)])), (.iface 232 (.agg [(.int .i64 2)])), (.iface 232 (.agg [(.int .i64 3)])), (.iface 232 (.agg [(.int .i64 4)])), (.iface 232 (.agg [(.int .i64 5)])), (.iface 232 (.agg [(.int .i64 6)])), (.iface 232 (.agg [(.int .i64 7)])), (.iface 232 (.agg [(.int .i64 8)])), (.iface 232 (.agg [(.int .i64 9)])), (.iface 232 (.agg [(.int .i64 10)])), (.iface 232 (.agg [(.int .i64 11)])), (.iface 232 (.agg [(.int .i64 12)])), (.iface 232 (.agg [(.int .i64 13)])), (.iface 232 (.agg [(.int .i64 14)])), (.iface 232 (.agg [(.int .i64 15)])), (.iface 232 (.agg [(.int .i64 16)])), (.iface 232 (.agg [(.int .i64 17)])), (.iface 232 (.agg [(.int .i64 18)])), (.iface 232 (.agg [(.int .i64 19)])), (.iface 232 (.agg [(.int .i64 20)])), (.iface 232 (.agg [(.int .i64 21)])), (.iface 232 (.agg [(.int .i64 22)])), (.iface 232 (.agg [(.int .i64 23)])), (.int .i64 0)]), (.int .i64 0)])
def T21 : BT (List (List V × V)) := (.nd 99 (.lf 63 [(a18, v18)]) (.nd 135 (.lf 99 [(a20, v20)]) (.lf 135 [(a19, v19)])))
theorem k21 : TabOk D T21 := by
  intro f l h e he
  simp only [T21, BT.toList, List.cons_append, List.nil_append, List.mem_cons, List.not_mem_nil, or_false, Prod.mk.injEq] at h
  rcases h with ⟨rfl, rfl⟩ | ⟨rfl, rfl⟩ | ⟨rfl, rfl⟩
  · simp only [List.mem_cons, List.not_mem_nil, or_false] at he
    subst he; exact e18
  · simp only [List.mem_cons, List.not_mem_nil, or_false] at he
    subst he; exact e20
  · simp only [List.mem_cons, List.not_mem_nil, or_false] at he
    subst he; exact e19
theorem e21 : ∀ s, EvF D 107 a21 s v21 s := piece dry (tabO_ok k21) (by kernel_rfl)
/-- joinery/value.built -/
def a23 : List V := [(.st false 1 [(.int .i64 18), (.int .i64 0), (.int .i64 0), (.int .i64 0), (.int .i64 0), (.int .i64 0)]), (.agg [(.int .i64 0), (.iface 232 (.agg [(.int .i64 0)])), (.iface 232 (.agg [(.int .i64 1)])), (.iface 232 (.agg [(.int .i64 2)])), (.iface 232 (.agg [(.int .i64 3)])), (.iface 232 (.agg [(.int .i64 4)])), (.iface 232 (.agg [(.int .i64 5)])), (.iface 232 (.agg [(.int .i64 6)])), (.iface 232 (.agg [(.int .i64 7)])), (.iface 232 (.agg [(.int .i64 8)])), (.iface 232 (.agg [(.int .i64 9)])), (.iface 232 (.agg [(.int .i64 10)])), (.iface 232 (.agg [(.int .i64 11)])), (.iface 232 (.agg [(.int .i64 12)])), (.iface 232 (.agg [(.int .i64 13)])), (.iface 232 (.agg [(.int .i64 14)])), (.iface 232 (.agg [(.int .i64 15)])), (.iface 232 (.agg [(.int .i64 16)])), (.iface 232 (.agg [(.int .i64 17)])), (.iface 232 (.agg [(.int .i64 18)])), (.iface 232 (.agg [(.int .i64 19)])), (.iface 232 (.agg [(.int .i64 20)])), (.iface 232 (.agg [(.int .i64 21)])), (.iface 232 (.agg [(.int .i64 22)])), (.iface 232 (.agg [(.int .i64 23)])), (.st false 1 [(.int .i64 0), .sn])])]
def v23 : V := (.bool true)
def T23 : BT (List (List V × V)) := (.nd 107 (.lf 63 [(a18, v18)]) (.lf 107 [(a21, v21)]))
theorem k23 : TabOk D T23 := by
  intro f l h e he
  simp only [T23, BT.toList, List.cons_append, List.nil_append, List.mem_cons, List.not_mem_nil, or_false, Prod.mk.injEq] at h
  rcases h with ⟨rfl, rfl⟩ | ⟨rfl, rfl⟩
  · simp only [List.mem_cons, List.not_mem_nil, or_false] at he
    subst he; exact e18
  · simp only [List.mem_cons, List.not_mem_nil, or_false] at he
    subst he; exact e21
theorem e23 : ∀ s, EvF D 109 a23 s v23 s := piece dry (tabO_ok k23) (by kernel_rfl)
/-- joinery/skel.Ways -/
def a24 : List V := [(.agg [(.int .i64 0), (.iface 232 (.agg [(.int .i64 0)])), (.iface 232 (.agg [(.int .i64 1)])), (.iface 232 (.agg [(.int .i64 2)])), (.iface 232 (.agg [(.int .i64 3)])), (.iface 232 (.agg [(.int .i64 4)])), (.iface 232 (.agg [(.int .i64 5)])), (.iface 232 (.agg [(.int .i64 6)])), (.iface 232 (.agg [(.int .i64 7)])), (.iface 232 (.agg [(.int .i64 8)])), (.iface 232 (.agg [(.int .i64 9)])), (.iface 232 (.agg [(.int .i64 10)])), (.iface 232 (.agg [(.int .i64 11)])), (.iface 232 (.agg [(.int .i64 12)])), (.iface 232 (.agg [(.int .i64 13)])), (.iface 232 (.agg [(.int .i64 14)])), (.iface 232 (.agg [(.int .i64 15)])), (.iface 232 (.agg [(.int .i64 16)])), (.iface 232 (.agg [(.int .i64 17)])), (.iface 232 (.agg [(.int .i64 18)])), (.iface 232 (.agg [(.int .i64 19)])), (.iface 232 (.agg [(.int .i64 20)])), (.iface 232 (.agg [(.int .i64 21)])), (.iface 232 (.agg [(.int .i64 22)])), (.iface 232 (.agg [(.int .i64 23)])), (.st false 1 [(.int .i64 0), .sn])])]
def v24 : V := (.st false 1 [(.st false 1 [(.int .i64 (-1)), (.int .i64 0)])])
theorem e24 : ∀ s, EvF D 68 a24 s v24 s := piece dry noOrc_ok (by kernel_rfl)
/-- joinery/value.out -/
def a25 : List V := [(.agg [(.int .i64 0), (.iface 232 (.agg [(.int .i64 0)])), (.iface 232 (.agg [(.int .i64 1)])), (.iface 232 (.agg [(.int .i64 2)])), (.iface 232 (.agg [(.int .i64 3)])), (.iface 232 (.agg [(.int .i64 4)])), (.iface 232 (.agg [(.int .i64 5)])), (.iface 232 (.agg [(.int .i64 6)])), (.iface 232 (.agg [(.int .i64 7)])), (.iface 232 (.agg [(.int .i64 8)])), (.iface 232 (.agg [(.int .i64 9)])), (.iface 232 (.agg [(.int .i64 10)])), (.iface 232 (.agg [(.int .i64 11)])), (.iface 232 (.agg [(.int .i64 12)])), (.iface 232 (.agg [(.int .i64 13)])), (.iface 232 (.agg [(.int .i64 14)])), (.iface 232 (.agg [(.int .i64 15)])), (.iface 232 (.agg [(.int .i64 16)])), (.iface 232 (.agg [(.int .i64 17)])), (.iface 232 (.agg [(.int .i64 18)])), (.iface 232 (.agg [(.int .i64 19)])), (.iface 232 (.agg [(.int .i64 20)])), (.iface 232 (.agg [(.int .i64 21)])), (.iface 232 (.agg [(.int .i64 22)])), (.iface 232 (.agg [(.int .i64 23)])), (.st false 1 [(.int .i64 0), .sn])]), (.agg [(.int .i64 (-1)), (.int .i64 0)])]
def v25 : V := (.tup [(.agg [(.int .i64 0), (.iface 232 (.agg [(.int .i64 0)])), (.iface 232 (.agg [(.int .i64 1)])), (.iface 232 (.agg [(.int .i64 2)])), (.iface 232 (.agg [(.int .i64 3)])), (.iface 232 (.agg [(.int .i64 4)])), (.iface 232 (.agg [(.int .i64 5)])), (.iface 232 (.agg [(.int .i64 6)])), (.iface 232 (.agg [(.int .i64 7)])), (.iface 232 (.agg [(.int .i64 8)])), (.iface 232 (.agg [(.int .i64 9)])), (.iface 232 (.agg [(.int .i64 10)])), (.iface 232 (.agg [(.int .i64 11)])), (.iface 232 (.agg [(.int .i64 12)])), (.iface 232 (.agg [(.int .i64 13)])), (.iface 232 (.agg [(.int .i64 14)])), (.iface 232 (.agg [(.int .i64 15)])), (.iface 232 (.agg [(.int .i64 16)])), (.iface 232 (.agg [(.int .i64 17)])), (.iface 232 (.agg [(.int .i64 18)])), (.iface 232 (.agg [(.int .i64 19)])), (.iface 232 (.agg [(.int .i64 20)])), (.iface 232 (.agg [(.int .i64 21)])), (.iface 232 (.agg [(.int .i64 22)])), (.iface 232 (.agg [(.int .i64 23)]))]), (.bool true)])
theorem e25 : ∀ s, EvF D 138 a25 s v25 s := piece dry noOrc_ok (by kernel_rfl)
end Go.Pe.Kn16

namespace Go.Pe.Kn16
open Go.Pe.Tryd (D dry)
/-- joinery/value.All -/
def a72 : List V := [(.st false 1 [(.int .i64 18), (.int .i64 0), (.int .i64 0), (.int .i64 0), (.int .i64 0), (.int .i64 0)]), (.agg [(.int .i64 0), (.iface 232 (.agg [(.int .i64 0)])), (.iface 232 (.agg [(.int .i64 1)])), (.iface 232 (.agg [(.int .i64 2)])), (.iface 232 (.agg [(.int .i64 3)])), (.iface 232 (.agg [(.int .i64 4)])), (.iface 232 (.agg [(.int .i64 5)])), (.iface 232 (.agg [(.int .i64 6)])), (.iface 232 (.agg [(.int .i64 7)])), (.iface 232 (.agg [(.int .i64 8)])), (.iface 232 (.agg [(.int .i64 9)])), (.iface 232 (.agg [(.int .i64 10)])), (.iface 232 (.agg [(.int .i64 11)])), (.iface 232 (.agg [(.int .i64 12)])), (.iface 232 (.agg [(.int .i64 13)])), (.iface 232 (.agg [(.int .i64 14)])), (.iface 232 (.agg [(.int .i64 15)])), (.iface 232 (.agg [(.int .i64 16)])), (.iface 232 (.agg [(.int .i64 17)])), (.iface 232 (.agg [(.int .i64 18)])), (.iface 232 (.agg [(.int .i64 19)])), (.iface 232 (.agg [(.int .i64 20)])), (.iface 232 (.agg [(.int .i64 21)])), (.iface 232 (.agg [(.int .i64 22)])), (.iface 232 (.agg [(.int .i64 23)])), (.st false 1 [(.int .i64 0), .sn])])]
def v72 : V := (.st false 1 [(.st false 1 [(.st false 24 [(.int .i64 1), (.int .i64 0), (.int .i64 1), (.int .i64 1), (.int .i64 1), (.int .i64 2), (.int .i64 1), (.int .i64 3), (.int .i64 1), (.int .i64 4), (.int .i64 1), (.int .i64 5), (.int .i64 1), (.int .i64 6), (.int .i64 1), (.int .i64 7), (.int .i64 0), (.int .i64 0), (.int .i64 0), (.int .i64 0), (.int .i64 0), (.int .i64 0), (.int .i64 0), (.int .i64 0), (.int .i64 0), (.int .i64 0), (.int .i64 0), (.int .i64 0), (.int .i64 0), (.int .i64 0), (.int .i64 0), (.int .i64 0), (.int .i64 0), (.int .i64 0), (.int .i64 0), (.int .i64 0), (.int .i64 0), (.int .i64 0), (.int .i64 0), (.int .i64 0), (.int .i64 0), (.int .i64 0), (.int .i64 0), (.int .i64 0), (.int .i64 0), (.int .i64 0), (.int .i64 0), (.int .i64 0)])])])
def T72 : BT (List (List V × V)) := (.nd 109 (.lf 68 [(a24, v24)]) (.nd 138 (.lf 109 [(a23, v23)]) (.lf 138 [(a25, v25)])))
theorem k72 : TabOk D T72 := by
  intro f l h e he
  simp only [T72, BT.toList, List.cons_append, List.nil_append, List.mem_cons, List.not_mem_nil, or_false, Prod.mk.injEq] at h
  rcases h with ⟨rfl, rfl⟩ | ⟨rfl, rfl⟩ | ⟨rfl, rfl⟩
  · simp only [List.mem_cons, List.not_mem_nil, or_false] at he
    subst he; exact e24
  · simp only [List.mem_cons, List.not_mem_nil, or_false] at he
    subst he; exact e23
  · simp only [List.mem_cons, List.not_mem_nil, or_false] at he
    subst he; exact e25
theorem e72 : ∀ s, EvF D 67 a72 s v72 s := piece dry (tabO_ok k72) (by kernel_rfl)
end Go.Pe.Kn16
