/-
  The seat's arguments and tables, read.
-/
import Derived.Test.YtiojohpghhccpaaDoorDat
import Derived.Test.YtiojohpghhccpaaDoorFacts
import Derived.Test.YtiojohpghhccpaaDoorRows
import Derived.LaidMore
set_option linter.all false
namespace Go.Pe.Tryd
open Go.Proofs
section
variable {H : Type} {enc : TypeId × Value → H} {w : World} {sp : Nat → Bool} {held : Bool}

theorem rdI (t : TypeId) (h : Tryd.prog.underlying t = some (.int .i64)) : Rd enc Tryd.prog w sp held t eI 1 (fun a _ => I64 a) := (rd_int h).mono fun _ _ h => h.2
theorem rd3 : Rd enc Tryd.prog w sp held 3 eI 1 (fun a _ => I64 a) := rdI 3 Tryd.underlying3
theorem rd2 : Rd enc Tryd.prog w sp held 2 eI 1 (fun a _ => I64 a) := rdI 2 Tryd.underlying2
theorem rd96 : Rd enc Tryd.prog w sp held 96 eSrc 2 (fun a _ => a.Fit) :=
  (rd_struct2 Tryd.underlying96 (by kernel_rfl) rfl rfl (by kernel_rfl) (by kernel_rfl) rd3 rd2).map (fun p => ⟨p.1, p.2⟩) (fun _ => rfl) (fun _ _ ⟨_, _, _, h1, h2⟩ => ⟨h1, h2⟩)
theorem rd75 : Rd enc Tryd.prog w sp held 75 (fun x : Sl Src => [x.v eSrc]) 1 (fun x _ => x.l.length ≤ 9223372036854775807 ∧ ∀ a ∈ x.l, a.Fit) := by
  refine Rd.mono (rd_slice (z := 2) (e := eSrc) Tryd.underlying75 (by kernel_rfl) (by decide) (fun _ => rfl) rd96) fun _ _ h => ?_
  exact ⟨h.1, fun a ha => let ⟨_, h3⟩ := h.2 a ha; h3⟩
theorem rd76 : Rd enc Tryd.prog w sp held 76 (fun x : Sl Int => [x.v eI]) 1 (fun x _ => x.l.length ≤ 9223372036854775807 ∧ ∀ a ∈ x.l, I64 a) := by
  refine Rd.mono (rd_slice (z := 1) (e := eI) Tryd.underlying76 (by kernel_rfl) (by decide) (fun _ => rfl) rd3) fun _ _ h => ?_
  exact ⟨h.1, fun a ha => let ⟨_, h3⟩ := h.2 a ha; h3⟩
theorem rd78 : Rd enc Tryd.prog w sp held 78 eNode 4 (fun a _ => a.Fit) :=
  (rd_struct4 Tryd.underlying78 (by kernel_rfl) rfl rfl rfl rfl (by kernel_rfl) (by kernel_rfl) (by kernel_rfl) (by kernel_rfl) rd3 rd2 rd75 rd76).map (fun p => ⟨p.1, p.2.1, p.2.2.1, p.2.2.2⟩) (fun _ => rfl)
    (fun _ _ ⟨_, _, _, _, _, h1, h2, h3, h4⟩ => ⟨h1, h2, h3.1, h3.2, h4.1, h4.2⟩)
theorem rd22 : Rd enc Tryd.prog w sp held 22 (fun x : Sl Node => [x.v eNode]) 1 (fun x _ => x.l.length ≤ 9223372036854775807 ∧ ∀ a ∈ x.l, a.Fit) := by
  refine Rd.mono (rd_slice (z := 4) (e := eNode) Tryd.underlying22 (by kernel_rfl) (by decide) (fun _ => rfl) rd78) fun _ _ h => ?_
  exact ⟨h.1, fun a ha => let ⟨_, h3⟩ := h.2 a ha; h3⟩
theorem rd87 : Rd enc Tryd.prog w sp held 87 eVal 2 (fun a _ => a.Fit) :=
  (rd_struct2 Tryd.underlying87 (by kernel_rfl) rfl rfl (by kernel_rfl) (by kernel_rfl) rd3 rd75).map (fun p => ⟨p.1, p.2⟩) (fun _ => rfl) (fun _ _ ⟨_, _, _, h1, h2⟩ => ⟨h1, h2.1, h2.2⟩)
theorem rd23 : Rd enc Tryd.prog w sp held 23 (fun x : Sl Val => [x.v eVal]) 1 (fun x _ => x.l.length ≤ 9223372036854775807 ∧ ∀ a ∈ x.l, a.Fit) := by
  refine Rd.mono (rd_slice (z := 2) (e := eVal) Tryd.underlying23 (by kernel_rfl) (by decide) (fun _ => rfl) rd87) fun _ _ h => ?_
  exact ⟨h.1, fun a ha => let ⟨_, h3⟩ := h.2 a ha; h3⟩
theorem rd25 : Rd enc Tryd.prog w sp held 25 eForm 3 (fun a _ => a.Fit) :=
  (rd_struct3 Tryd.underlying25 (by kernel_rfl) rfl rfl rfl (by kernel_rfl) (by kernel_rfl) (by kernel_rfl) rd3 rd22 rd23).map (fun p => ⟨p.1, p.2.1, p.2.2⟩) (fun _ => rfl)
    (fun _ _ ⟨_, _, _, _, h1, h2, h3⟩ => ⟨h1, h2.1, h3.1, h2.2, h3.2⟩)
end
end Go.Pe.Tryd

namespace Go.Pe.Tryd
open Go.Proofs
def lit0 : List (List UInt8 × Int × Int × Bool) := [([99, 117, 116], 0, 0, false), ([], 0, 0, false), ([], 0, 0, false), ([], 0, 0, false), ([97, 100, 100], 2, 1, true), ([115, 117, 98], 2, 1, true), ([109, 117, 108], 2, 1, true), ([100, 105, 118], 2, 1, true), ([97, 110, 100], 2, 1, true), ([111, 114], 2, 1, true), ([120, 111, 114], 2, 1, true), ([108, 101, 115, 115], 2, 1, true), ([115, 97, 109, 101], 2, 1, true), ([108, 111, 97, 100], 1, 1, true), ([115, 116, 111, 114, 101], 2, 1, false), ([99, 97, 108, 108], 1, 1, true), ([], 0, 0, false), ([122, 101, 114, 111], 1, 2, false), ([114, 101, 116], 1, 0, false)]
def lit2 : List (List UInt8 × List UInt8) := [([99, 111, 110, 115, 116], [100, 78]), ([109, 111, 118], [100, 97]), ([115, 119, 97, 112], [100, 97]), ([97, 100, 100], [68, 65, 66]), ([115, 117, 98], [68, 65, 66]), ([109, 117, 108], [68, 65, 66]), ([100, 105, 118], [68, 65, 66]), ([97, 110, 100], [68, 65, 66]), ([111, 114], [68, 65, 66]), ([120, 111, 114], [68, 65, 66]), ([108, 101, 115, 115], [68, 65, 66]), ([115, 97, 109, 101], [68, 65, 66]), ([108, 111, 97, 100], [68, 65]), ([115, 116, 111, 114, 101], [65, 66]), ([99, 97, 108, 108], [68, 65, 78]), ([106, 117, 109, 112], [84]), ([122, 101, 114, 111], [65, 84]), ([114, 101, 116], [65])]

def e0 (a : List UInt8 × Int × Int × Bool) : List V := [.str a.1] ++ (eI a.2.1 ++ (eI a.2.2.1 ++ [.bool a.2.2.2]))
def d0 (a : List UInt8 × Int × Int × Bool) : DataW Unit := .agg [.lit (.string a.1), .lit (.int .i64 a.2.1), .lit (.int .i64 a.2.2.1), .lit (.bool a.2.2.2)]
def e2 (a : List UInt8 × List UInt8) : List V := [.str a.1] ++ [.str a.2]
def d2 (a : List UInt8 × List UInt8) : DataW Unit := .agg [.lit (.string a.1), .lit (.string a.2)]

theorem d0_inj {a b : List UInt8 × Int × Int × Bool} (h : d0 a = d0 b) : a = b := by
  obtain ⟨a1, a2, a3, a4⟩ := a
  obtain ⟨b1, b2, b3, b4⟩ := b
  simp [d0] at h
  simp [h]
theorem d2_inj {a b : List UInt8 × List UInt8} (h : d2 a = d2 b) : a = b := by
  obtain ⟨a1, a2⟩ := a
  obtain ⟨b1, b2⟩ := b
  simp [d2] at h
  simp [h]

theorem map_inj {α β : Type} {d : α → β} (hd : ∀ a b, d a = d b → a = b) : ∀ {l m : List α}, l.map d = m.map d → l = m
  | [], [], _ => rfl
  | [], _ :: _, h => by simp at h
  | _ :: _, [], h => by simp at h
  | a :: l, b :: m, h => by
    simp only [List.map_cons, List.cons.injEq] at h
    rw [hd _ _ h.1, map_inj hd h.2]

theorem agg_map {α : Type} {d : α → DataW Unit} (hd : ∀ a b, d a = d b → a = b) {l m : List α} {ds : List (DataW Unit)} (h : ∀ i (h : i < l.length) (h' : i < ds.length), ds[i] = d l[i]) (hl : ds.length = l.length) (he : ds = m.map d) : l = m := by
  subst he
  have : l.map d = m.map d := by
    apply List.ext_getElem
    · simpa using hl.symm
    · intro i h1 h2
      rw [h i (by simpa using h1) h2]
      simp
  exact map_inj hd this

variable {W : World}
abbrev nu : TypeId × Value → Unit := fun _ => ()

theorem rd158 : Rd nu Tryd.prog W (fun _ => true) false 158 e0 4 (fun a d => d = d0 a) :=
  (rd_struct4 Tryd.underlying158 (by kernel_rfl) rfl rfl rfl rfl (by kernel_rfl) (by kernel_rfl) (by kernel_rfl) (by kernel_rfl) (rd_str Tryd.underlying9) (rd_int Tryd.underlying3) (rd_int Tryd.underlying3) (rd_bool Tryd.underlying4)).mono
    fun a d ⟨x0, x1, x2, x3, h, h0, h1, h2, h3⟩ => by rw [h, h0.1, h1.1, h2.1, h3]; rfl
theorem rd191 : Rd nu Tryd.prog W (fun _ => true) false 191 e2 2 (fun a d => d = d2 a) :=
  (rd_struct2 Tryd.underlying191 (by kernel_rfl) rfl rfl (by kernel_rfl) (by kernel_rfl) (rd_str Tryd.underlying9) (rd_str Tryd.underlying9)).mono
    fun a d ⟨x0, x1, h, h0, h1⟩ => by rw [h, h0.1, h1.1]; rfl
theorem rd96t : Rd nu Tryd.prog W (fun _ => true) false 96 (fun a : Int × Int => eI a.1 ++ eI a.2) 2 (fun a d => d = .agg [.lit (.int .i64 a.1), .lit (.int .i64 a.2)]) :=
  (rd_struct2 Tryd.underlying96 (by kernel_rfl) rfl rfl (by kernel_rfl) (by kernel_rfl) (rd_int Tryd.underlying3) (rd_int Tryd.underlying2)).mono
    fun a d ⟨x0, x1, h, h0, h1⟩ => by rw [h, h0.1, h1.1]

open YtiojohpghhccpaaDoor in
abbrev laid3 : List (String × DataW Unit) := [("joinery/ins.shapes", Rows.laid_joinery_ins_shapes), ("joinery/shape.kinds", Rows.laid_joinery_shape_kinds), ("joinery/value.open", Rows.laid_joinery_value_open)]

theorem var_at {n : String} {g : Nat} {cs : Array Value} (hg : Tryd.prog.globalNamed n = some g) (h : W.var? Tryd.prog n = some cs) : ∃ el fr, W.heap[g]? = some (.cells cs el fr) := by
  simp only [World.var?, hg, Option.bind_some] at h
  split at h
  · rename_i c el fr hb
    cases h
    exact ⟨el, fr, hb⟩
  · cases h

theorem tab_of {g : Nat} {cs : Array Value} {vs : List V} {r : Nat → Nat} (hb : ∃ el fr, W.heap[g]? = some (.cells cs el fr)) (hv : VTs W.heap (fun b => b < W.heap.size) vs cs.toList) :
    (Cx.mk W.heap [] r).I g ∧ ∃ l e fr, W.heap[g]? = some (.cells l e fr) ∧ VTs W.heap (Cx.mk W.heap [] r).I vs (l.toList.take vs.length) := by
  obtain ⟨el, fr, hb⟩ := hb
  have hI : ∀ b, b < W.heap.size → (Cx.mk W.heap [] r).I b := fun b h => ⟨h, fun i hi => absurd hi.1 (by simp)⟩
  refine ⟨hI g (Array.getElem?_eq_some_iff.1 hb).1, cs, el, fr, hb, ?_⟩
  rw [List.take_of_length_le (by rw [VTs.len _ _ hv]; omega)]
  exact VTs.mono (fun _ _ => rfl) hI _ _ hv

theorem gok (h : laidMetH Tryd.prog laid3 W) (r : Nat → Nat) : GOk D ⟨W.heap, [], r⟩ := by
  rw [MakeChecks.laidMetH_plain _ _ _ (by kernel_rfl)] at h
  obtain ⟨ps, ⟨g2, y2, c2, f2, p2, q2, hg2, ht2, hv2, hd2, ⟨g0, y0, c0, f0, p0, q0, hg0, ht0, hv0, hd0, ⟨g1, y1, c1, f1, p1, q1, hg1, ht1, hv1, hd1, _, _⟩, _⟩, _⟩, _⟩ := h
  obtain rfl := Option.some.inj ((show Tryd.prog.globalNamed "joinery/ins.shapes" = some 2 by kernel_rfl).symm.trans hg2)
  obtain rfl := Option.some.inj ((show Tryd.prog.globalNamed "joinery/shape.kinds" = some 0 by kernel_rfl).symm.trans hg0)
  obtain rfl := Option.some.inj ((show Tryd.prog.globalNamed "joinery/value.open" = some 1 by kernel_rfl).symm.trans hg1)
  obtain rfl := Option.some.inj ((show (Tryd.prog.globals[2]?).map (·.type) = some 220 by kernel_rfl).symm.trans ht2)
  obtain rfl := Option.some.inj ((show (Tryd.prog.globals[0]?).map (·.type) = some 159 by kernel_rfl).symm.trans ht0)
  obtain rfl := Option.some.inj ((show (Tryd.prog.globals[1]?).map (·.type) = some 96 by kernel_rfl).symm.trans ht1)
  intro g cs hg
  have hg : tabs g = some cs := hg
  unfold tabs at hg
  split at hg
  · cases hg
    obtain ⟨_, ⟨l, hl⟩, ⟨ds, e, hn, hk⟩, hv⟩ := rd_array (n := 19) (z := 4) Tryd.underlying159 (by kernel_rfl) (by kernel_rfl) (fun _ => rfl) rd158 _ _ _ hd0
    have : l = lit0 := agg_map (fun a b => d0_inj) (fun i h h' => hk i h h') (hn.trans hl.symm) (by
      have : DataW.agg (lit0.map d0) = .agg ds := e
      exact (DataW.agg.inj this).symm)
    subst this
    exact tab_of (var_at hg0 hv0) hv
  · cases hg
    obtain ⟨_, ⟨a, b⟩, e, hv⟩ := rd96t _ _ _ hd1
    have e : DataW.agg [.lit (.int .i64 (-1)), .lit (.int .i64 0)] = DataW.agg (H := Unit) [.lit (.int .i64 a), .lit (.int .i64 b)] := e
    simp only [DataW.agg.injEq, List.cons.injEq, DataW.lit.injEq, Lit.int.injEq, and_true, true_and] at e
    obtain ⟨rfl, rfl⟩ := e
    exact tab_of (var_at hg1 hv1) hv
  · cases hg
    obtain ⟨_, ⟨l, hl⟩, ⟨ds, e, hn, hk⟩, hv⟩ := rd_array (n := 18) (z := 2) Tryd.underlying220 (by kernel_rfl) (by kernel_rfl) (fun _ => rfl) rd191 _ _ _ hd2
    have : l = lit2 := agg_map (fun a b => d2_inj) (fun i h h' => hk i h h') (hn.trans hl.symm) (by
      have : DataW.agg (lit2.map d2) = .agg ds := e
      exact (DataW.agg.inj this).symm)
    subst this
    exact tab_of (var_at hg2 hv2) hv
  · cases hg
end Go.Pe.Tryd
