/-
  Forms, as lists and numbers, and as the evaluator has them.
-/
import Derived.Test.YtiojohpghhccpaaDoorEvD
import Derived.ChangeArms
import Derived.ChangeShapes
import Derived.OpenShut
set_option linter.all false
namespace Go.Pe

structure Src where
  kind : Int
  n : Int
  deriving DecidableEq
structure Node where
  op : Int
  n : Int
  args : Sl Src
  outs : Sl Int
structure Val where
  at_ : Int
  frm : Sl Src
structure Form where
  entry : Int
  nodes : Sl Node
  vals : Sl Val

def eI (a : Int) : List V := [.int .i64 a]
def eSrc (a : Src) : List V := [.int .i64 a.kind, .int .i64 a.n]
def eNode (a : Node) : List V := [.int .i64 a.op, .int .i64 a.n, a.args.v eSrc, a.outs.v eI]
def eVal (a : Val) : List V := [.int .i64 a.at_, a.frm.v eSrc]
def eForm (x : Form) : List V := [.int .i64 x.entry, x.nodes.v eNode, x.vals.v eVal]
def Form.v (x : Form) : V := .agg (eForm x)

def I64 (n : Int) : Prop := -9223372036854775808 ≤ n ∧ n < 9223372036854775808

/-- Numbers of their kinds, and as many elements as a run can count. -/
def Src.Fit (a : Src) : Prop := I64 a.kind ∧ I64 a.n
def Node.Fit (a : Node) : Prop := I64 a.op ∧ I64 a.n ∧ a.args.l.length ≤ 9223372036854775807 ∧ (∀ s ∈ a.args.l, s.Fit) ∧ a.outs.l.length ≤ 9223372036854775807 ∧ ∀ o ∈ a.outs.l, I64 o
def Val.Fit (a : Val) : Prop := I64 a.at_ ∧ a.frm.l.length ≤ 9223372036854775807 ∧ ∀ s ∈ a.frm.l, s.Fit
def Form.Fit (x : Form) : Prop := I64 x.entry ∧ x.nodes.l.length ≤ 9223372036854775807 ∧ x.vals.l.length ≤ 9223372036854775807 ∧ (∀ a ∈ x.nodes.l, a.Fit) ∧ ∀ a ∈ x.vals.l, a.Fit

def Node.big (a : Node) : Bool := decide (20 < a.args.l.length) || decide (20 < a.outs.l.length)
def Val.big (a : Val) : Bool := decide (100 < a.frm.l.length)
/-- Is a form more than is looked at? -/
def great (x : Form) : Bool := x.nodes.l.any Node.big || (x.vals.l.any Val.big || (decide (60 < x.nodes.l.length) || decide (200 < x.vals.l.length)))

def Node.dat (a : Node) : Int × Int × List Src × List Int := (a.op, a.n, a.args.l, a.outs.l)
def Val.dat (a : Val) : Int × List Src := (a.at_, a.frm.l)
def Form.same (x y : Form) : Bool := decide (x.entry = y.entry ∧ x.nodes.l.map Node.dat = y.nodes.l.map Node.dat ∧ x.vals.l.map Val.dat = y.vals.l.map Val.dat)

theorem Form.same_refl (x : Form) : x.same x = true := by simp [Form.same]
theorem Form.same_comm (x y : Form) : x.same y = y.same x := by
  simp only [Form.same]
  exact decide_eq_decide.2 ⟨fun ⟨a, b, c⟩ => ⟨a.symm, b.symm, c.symm⟩, fun ⟨a, b, c⟩ => ⟨a.symm, b.symm, c.symm⟩⟩
theorem Form.same_trans {x y z : Form} (h : x.same y = true) (g : y.same z = true) : x.same z = true := by
  simp only [Form.same, decide_eq_true_eq] at *
  exact ⟨h.1.trans g.1, h.2.1.trans g.2.1, h.2.2.trans g.2.2⟩

/-- Two rows that are alike place by place. -/
theorem map_eq_of {α β : Type} {f : α → β} {a b : List α} (hl : a.length = b.length) (h : ∀ j (h1 : j < a.length) (h2 : j < b.length), f a[j] = f b[j]) : a.map f = b.map f := by
  apply List.ext_getElem (by simp [hl])
  intro j h1 h2
  simp only [List.length_map] at h1 h2
  simp only [List.getElem_map]
  exact h j h1 h2

theorem map_ne_len {α β : Type} {f : α → β} {a b : List α} (hl : ¬ a.length = b.length) : ¬ a.map f = b.map f := fun h => hl (by simpa using congrArg List.length h)
theorem map_ne_at {α β : Type} {f : α → β} {a b : List α} {j : Nat} (h1 : j < a.length) (h2 : j < b.length) (h : ¬ f a[j] = f b[j]) : ¬ a.map f = b.map f := fun e => h (by
  have := congrArg (fun l => l[j]?) e
  simpa [h1, h2] using this)

section
variable {α : Type} {e : α → List V} {n : Nat} {m : List Blk} {i : Nat}
theorem leads_sl (x : Sl α) : (x.v e).leads = false := by cases x <;> rfl
theorem any_sl (x : Sl α) : (x.v e).isAny = false := by cases x <;> rfl
theorem one_sl (x : Sl α) : (x.v e).one = true := by cases x <;> rfl
theorem frz_sl (x : Sl α) : frzV n m (x.v e) = x.v e := by cases x <;> rfl
theorem leads_form (x : Form) : V.leadsL (eForm x) = false := by
  simp only [eForm, V.leadsL, V.leads, leads_sl, Bool.or_false]
theorem leads_node (x : Node) : V.leadsL (eNode x) = false := by
  simp only [eNode, V.leadsL, V.leads, leads_sl, Bool.or_false]
theorem leads_val (x : Val) : V.leadsL (eVal x) = false := by
  simp only [eVal, V.leadsL, V.leads, leads_sl, Bool.or_false]
theorem leads_src (x : Src) : V.leadsL (eSrc x) = false := rfl

theorem nd_sub {l : List Node} (h : i < l.length) : sub (l.flatMap eNode) (i * 4) 4 = some (eNode l[i]) := flat_sub (e := eNode) (fun _ => rfl) h
theorem nd_0 {l : List Node} (h : i < l.length) : (l.flatMap eNode)[i * 4]? = some (.int .i64 l[i].op) := flat_get (e := eNode) (z := 4) (j := 0) (fun _ => rfl) h (by omega)
theorem nd_1 {l : List Node} (h : i < l.length) : (l.flatMap eNode)[i * 4 + 1]? = some (.int .i64 l[i].n) := flat_get (e := eNode) (z := 4) (j := 1) (fun _ => rfl) h (by omega)
theorem nd_2 {l : List Node} (h : i < l.length) : (l.flatMap eNode)[i * 4 + 2]? = some (l[i].args.v eSrc) := flat_get (e := eNode) (z := 4) (j := 2) (fun _ => rfl) h (by omega)
theorem nd_3 {l : List Node} (h : i < l.length) : (l.flatMap eNode)[i * 4 + 3]? = some (l[i].outs.v eI) := flat_get (e := eNode) (z := 4) (j := 3) (fun _ => rfl) h (by omega)
theorem vl_sub {l : List Val} (h : i < l.length) : sub (l.flatMap eVal) (i * 2) 2 = some (eVal l[i]) := flat_sub (e := eVal) (fun _ => rfl) h
theorem vl_0 {l : List Val} (h : i < l.length) : (l.flatMap eVal)[i * 2]? = some (.int .i64 l[i].at_) := flat_get (e := eVal) (z := 2) (j := 0) (fun _ => rfl) h (by omega)
theorem vl_1 {l : List Val} (h : i < l.length) : (l.flatMap eVal)[i * 2 + 1]? = some (l[i].frm.v eSrc) := flat_get (e := eVal) (z := 2) (j := 1) (fun _ => rfl) h (by omega)
theorem sr_sub {l : List Src} (h : i < l.length) : sub (l.flatMap eSrc) (i * 2) 2 = some (eSrc l[i]) := flat_sub (e := eSrc) (fun _ => rfl) h
theorem sr_0 {l : List Src} (h : i < l.length) : (l.flatMap eSrc)[i * 2]? = some (.int .i64 l[i].kind) := flat_get (e := eSrc) (z := 2) (j := 0) (fun _ => rfl) h (by omega)
theorem sr_1 {l : List Src} (h : i < l.length) : (l.flatMap eSrc)[i * 2 + 1]? = some (.int .i64 l[i].n) := flat_get (e := eSrc) (z := 2) (j := 1) (fun _ => rfl) h (by omega)
theorem it_0 {l : List Int} (h : i < l.length) : (l.flatMap eI)[i * 1]? = some (.int .i64 l[i]) := flat_get (e := eI) (z := 1) (j := 0) (fun _ => rfl) h (by omega)
theorem it_0' {l : List Int} (h : i < l.length) : (l.flatMap eI)[i]? = some (.int .i64 l[i]) := by have := it_0 h; rwa [Nat.mul_one] at this

theorem sub_all (cs : List V) : sub cs 0 cs.length = some cs := by simp [sub]

/-- A box that was just made and never leaves its place. -/
theorem frz_last {cs : List V} {e off : Nat} (h : V.leadsL cs = false) (he : cs.length = e) : frzV m.length (m ++ [.cells cs]) (.pb m.length e off) = .pt cs off := by
  simp [frzV, h, he]
theorem frz_last2 {cs : List V} {b : Blk} {e off : Nat} (h : V.leadsL cs = false) (he : cs.length = e) : frzV m.length (m ++ [.cells cs, b]) (.pb m.length e off) = .pt cs off := by
  simp [frzV, h, he]
theorem frz_last2' {cs : List V} {b : Blk} {e off : Nat} (h : V.leadsL cs = false) (he : cs.length = e) : frzV m.length (m ++ [b, .cells cs]) (.pb (m.length + 1) e off) = .pt cs off := by
  simp [frzV, h, he]
theorem frz_nth {l : List Blk} {cs : List V} {e off j : Nat} (h : l[j]? = some (.cells cs)) (hl : V.leadsL cs = false) (he : cs.length = e) : frzV m.length (m ++ l) (.pb (m.length + j) e off) = .pt cs off := by
  have h1 : (m ++ l)[m.length + j]? = some (.cells cs) := by rw [List.getElem?_append_right (by omega), Nat.add_sub_cancel_left]; exact h
  have h2 : ¬ m.length + j < m.length := by omega
  simp only [frzV, h1, h2, if_false, hl, he]
  simp
theorem frz_b {b : Bool} : frzV n m (.bool b) = .bool b := rfl
theorem frz_i {k : IntKind} {a : Int} : frzV n m (.int k a) = .int k a := rfl
theorem frz_s {l : List UInt8} : frzV n m (.str l) = .str l := rfl
theorem frz_p {cs : List V} {o : Nat} : frzV n m (.pt cs o) = .pt cs o := rfl
theorem frz_t {f : Bool} {k : Nat} {cs : List V} : frzV n m (.st f k cs) = .st f k cs := rfl
theorem frz_n : frzV n m .sn = .sn := rfl
theorem frz_u : frzV n m (.tup []) = .tup [] := rfl

theorem frz_src {a : Src} {off : Nat} : frzV m.length (m ++ [.cells (eSrc a)]) (.pb m.length 2 off) = .pt (eSrc a) off := frz_last rfl rfl
theorem frz_node {a : Node} {off : Nat} : frzV m.length (m ++ [.cells (eNode a)]) (.pb m.length 4 off) = .pt (eNode a) off := frz_last (leads_node a) rfl
theorem frz_val {a : Val} {off : Nat} : frzV m.length (m ++ [.cells (eVal a)]) (.pb m.length 2 off) = .pt (eVal a) off := frz_last (leads_val a) rfl
theorem frz_form {a : Form} {off : Nat} : frzV m.length (m ++ [.cells (eForm a)]) (.pb m.length 3 off) = .pt (eForm a) off := frz_last (leads_form a) rfl
theorem frz_form2 {a b : Form} {off : Nat} : frzV m.length (m ++ [.cells (eForm a), .cells (eForm b)]) (.pb m.length 3 off) = .pt (eForm a) off := frz_last2 (leads_form a) rfl
theorem frz_form2' {a b : Form} {off : Nat} : frzV m.length (m ++ [.cells (eForm a), .cells (eForm b)]) (.pb (m.length + 1) 3 off) = .pt (eForm b) off := frz_last2' (leads_form b) rfl
theorem frz_form3 {a b c : Form} {off : Nat} : frzV m.length (m ++ [.cells (eForm a), .cells (eForm b), .cells (eForm c)]) (.pb m.length 3 off) = .pt (eForm a) off := frz_nth (j := 0) rfl (leads_form a) rfl
theorem frz_form3' {a b c : Form} {off : Nat} : frzV m.length (m ++ [.cells (eForm a), .cells (eForm b), .cells (eForm c)]) (.pb (m.length + 1) 3 off) = .pt (eForm b) off := frz_nth (j := 1) rfl (leads_form b) rfl
theorem frz_form3'' {a b c : Form} {off : Nat} : frzV m.length (m ++ [.cells (eForm a), .cells (eForm b), .cells (eForm c)]) (.pb (m.length + 2) 3 off) = .pt (eForm c) off := frz_nth (j := 2) rfl (leads_form c) rfl
theorem len_form {x : Form} : (eForm x).length = 3 := rfl
theorem len_node {x : Node} : (eNode x).length = 4 := rfl
theorem len_val {x : Val} : (eVal x).length = 2 := rfl
theorem len_src {x : Src} : (eSrc x).length = 2 := rfl
theorem sub_src {a : Src} : sub (eSrc a) 0 2 = some (eSrc a) := rfl
theorem sub_node {a : Node} : sub (eNode a) 0 4 = some (eNode a) := rfl
theorem sub_val {a : Val} : sub (eVal a) 0 2 = some (eVal a) := rfl
theorem sub_form {a : Form} : sub (eForm a) 0 3 = some (eForm a) := rfl
theorem nc_0 {a : Node} : (eNode a)[0]? = some (.int .i64 a.op) := rfl
theorem nc_1 {a : Node} : (eNode a)[1]? = some (.int .i64 a.n) := rfl
theorem nc_2 {a : Node} : (eNode a)[2]? = some (a.args.v eSrc) := rfl
theorem nc_3 {a : Node} : (eNode a)[3]? = some (a.outs.v eI) := rfl
theorem vc_0 {a : Val} : (eVal a)[0]? = some (.int .i64 a.at_) := rfl
theorem vc_1 {a : Val} : (eVal a)[1]? = some (a.frm.v eSrc) := rfl
theorem sc_0 {a : Src} : (eSrc a)[0]? = some (.int .i64 a.kind) := rfl
theorem sc_1 {a : Src} : (eSrc a)[1]? = some (.int .i64 a.n) := rfl
theorem fc_0 {a : Form} : (eForm a)[0]? = some (.int .i64 a.entry) := rfl
theorem fc_1 {a : Form} : (eForm a)[1]? = some (a.nodes.v eNode) := rfl
theorem fc_2 {a : Form} : (eForm a)[2]? = some (a.vals.v eVal) := rfl

/-- A zero cell block that is at once written over. -/
theorem live_last {lo : Nat} {cs : List V} {e : Nat} (h : cs.length = e) : St.live ⟨m ++ [.cells cs], lo⟩ m.length e = some cs := by simp [St.live, h]
theorem put_last {lo : Nat} {b b' : Blk} {new : List V} (h : lo ≤ m.length) : St.put ⟨m ++ [b], lo⟩ m.length b' new = ⟨m ++ [b'], lo⟩ := by
  have : ¬ m.length < lo := by omega
  simp [St.put, this]
end
end Go.Pe

namespace Go.Pe
section
variable {H : Type} {enc : TypeId × Value → H} {P : Program} {w : World} {sp : Nat → Bool} {held : Bool}

/-- What a type's readings are: a thing of α, with these cells. -/
def Rd (enc : TypeId × Value → H) (P : Program) (w : World) (sp : Nat → Bool) (held : Bool) (t : TypeId) {α : Type} (e : α → List V) (z : Nat) (ok : α → DataW H → Prop) : Prop :=
  ∀ (fuel : Nat) (cs : List Value) (x : DataW H × List MemPlace), DataW.trod enc P w 0 sp held fuel t cs = some x → cs.length = z ∧ ∃ a : α, ok a x.1 ∧ VTs w.heap (fun b => b < w.heap.size) (e a) cs

theorem Rd.mono {t : TypeId} {α : Type} {e : α → List V} {z : Nat} {ok ok' : α → DataW H → Prop} (h : Rd enc P w sp held t e z ok) (hk : ∀ a d, ok a d → ok' a d) : Rd enc P w sp held t e z ok' := fun fuel cs x hx => by
  obtain ⟨h1, a, h2, h3⟩ := h fuel cs x hx
  exact ⟨h1, a, hk _ _ h2, h3⟩

/-- The same cells, of another thing. -/
theorem Rd.map {t : TypeId} {α β : Type} {e : α → List V} {e' : β → List V} {z : Nat} {ok : α → DataW H → Prop} {ok' : β → DataW H → Prop} (f : α → β) (h : Rd enc P w sp held t e z ok) (he : ∀ a, e' (f a) = e a) (hk : ∀ a d, ok a d → ok' (f a) d) :
    Rd enc P w sp held t e' z ok' := fun fuel cs x hx => by
  obtain ⟨h1, a, h2, h3⟩ := h fuel cs x hx
  exact ⟨h1, f a, hk _ _ h2, by rw [he]; exact h3⟩

theorem VTs.one {h : Array Obj} {I : Nat → Prop} {v : V} {x : Value} (hv : VT h I v x) : VTs h I [v] [x] := by simp only [VTs]; exact ⟨hv, trivial⟩

theorem rd_int {t : TypeId} (hu : P.underlying t = some (.int .i64)) : Rd enc P w sp held t eI 1 (fun a d => d = .lit (.int .i64 a) ∧ I64 a) := fun fuel cs x hx => by
  obtain ⟨n, rfl, rfl, hw⟩ := DataW.trod_int hu hx
  refine ⟨rfl, n, ⟨rfl, ?_⟩, VTs.one (by simp only [VT])⟩
  simp only [Lit.wf, Bool.and_eq_true, decide_eq_true_eq] at hw
  have h1 : IntKind.i64.min = -9223372036854775808 := by decide
  have h2 : IntKind.i64.max = 9223372036854775807 := by decide
  rw [h1, h2] at hw
  exact ⟨hw.1, by omega⟩

theorem rd_bool {t : TypeId} (hu : P.underlying t = some .bool) : Rd enc P w sp held t (fun b : Bool => [.bool b]) 1 (fun a d => d = .lit (.bool a)) := fun fuel cs x hx => by
  obtain ⟨n, rfl, rfl⟩ := DataW.trod_bool hu hx
  exact ⟨rfl, n, rfl, VTs.one (by simp only [VT])⟩

theorem rd_str {t : TypeId} (hu : P.underlying t = some .string) : Rd enc P w sp held t (fun l : List UInt8 => [.str l]) 1 (fun a d => d = .lit (.string a) ∧ a.length ≤ maxLen) := fun fuel cs x hx => by
  obtain ⟨n, rfl, rfl, hl⟩ := DataW.trod_string hu hx
  exact ⟨rfl, n.data.toList, ⟨rfl, by simpa using hl⟩, VTs.one (by simp only [VT])⟩

theorem VTs.flat {hp : Array Obj} {I : Nat → Prop} {α : Type} {e : α → List V} {z : Nat} (he : ∀ a, (e a).length = z) : ∀ (l : List α) (cs : List Value), cs.length = l.length * z →
    (∀ i (h : i < l.length), VTs hp I (e l[i]) ((cs.drop (i * z)).take z)) → VTs hp I (l.flatMap e) cs
  | [], cs, hl, _ => by
    simp only [List.length_nil, Nat.zero_mul] at hl
    rw [List.eq_nil_of_length_eq_zero hl]
    simp only [List.flatMap_nil, VTs]
  | a :: l, cs, hl, h => by
    have h0 := h 0 (by simp)
    simp only [Nat.zero_mul, List.drop_zero, List.getElem_cons_zero] at h0
    have ih := VTs.flat he l (cs.drop z) (by rw [List.length_drop, hl, List.length_cons, Nat.add_mul]; omega) fun i hi => by
      have := h (i + 1) (by simpa using hi)
      rw [List.getElem_cons_succ] at this
      rw [List.drop_drop]
      rwa [show z + i * z = (i + 1) * z by rw [Nat.add_mul]; omega]
    have := VTs.append _ _ _ _ h0 ih
    rwa [List.take_append_drop] at this

/-- All elements, each a thing. -/
theorem choose_list {α : Type} {n : Nat} {R : Nat → α → Prop} (h : ∀ i, i < n → ∃ a, R i a) : ∃ l : List α, l.length = n ∧ ∀ i (hi : i < l.length), R i l[i] := by
  induction n with
  | zero => exact ⟨[], rfl, fun i hi => by simp at hi⟩
  | succ n ih =>
    obtain ⟨l, hl, hr⟩ := ih fun i hi => h i (by omega)
    obtain ⟨a, ha⟩ := h n (by omega)
    refine ⟨l ++ [a], by simp [hl], fun i hi => ?_⟩
    by_cases hlt : i < l.length
    · rw [List.getElem_append_left hlt]; exact hr i hlt
    · have : i = l.length := by simp at hi; omega
      subst this
      rw [List.getElem_append_right (by omega)]
      simp only [Nat.sub_self, List.getElem_cons_zero]
      rw [hl]; exact ha

theorem rd_slice {t et : TypeId} {α : Type} {e : α → List V} {z : Nat} {ok : α → DataW H → Prop} (hu : P.underlying t = some (.slice et)) (hz : P.cellsOf et = z) (hz0 : z ≠ 0) (he : ∀ a, (e a).length = z) (R : Rd enc P w sp held et e z ok) :
    Rd enc P w sp held t (fun x : Sl α => [x.v e]) 1 (fun x _ => x.l.length ≤ maxLen ∧ ∀ a ∈ x.l, ∃ d, ok a d) := fun fuel cs x hx => by
  rcases DataW.trod_slice hu hx with ⟨rfl, _⟩ | ⟨a, len, cap, elems, rest, n, _, rfl, _, _, hlc, hcap, hel, hget, _⟩
  · exact ⟨rfl, .nil, ⟨by simp [Sl.l], by simp [Sl.l]⟩, VTs.one (by simp only [Sl.v, VT])⟩
  · refine ⟨rfl, ?_⟩
    rw [hz] at hget
    have each : ∀ i, i < len → ∃ a' : α, (∃ d, ok a' d) ∧ ∃ csi, w.cells? 0 (a.add (i * z)) z = some csi ∧ csi.length = z ∧ VTs w.heap (fun b => b < w.heap.size) (e a') csi := fun i hi => by
      have := hget i hi
      rw [List.getElem?_eq_getElem (by omega)] at this
      simp only [Option.bind_eq_some_iff] at this
      obtain ⟨csi, h1, h2⟩ := this
      obtain ⟨h3, a', h4, h5⟩ := R _ _ _ h2
      exact ⟨a', ⟨_, h4⟩, csi, h1, h3, h5⟩
    obtain ⟨l, hl, hr⟩ := choose_list each
    refine ⟨.mk false l, ⟨by simp only [Sl.l]; omega, fun a' ha => ?_⟩, VTs.one ?_⟩
    · simp only [Sl.l] at ha
      obtain ⟨i, hi, rfl⟩ := List.getElem_of_mem ha
      exact (hr i hi).1
    · simp only [Sl.v, VT]
      refine ⟨some a, cap, by rw [hl], by omega, (fun h => by cases h), ?_⟩
      by_cases h0 : len = 0
      · left
        have : l = [] := List.eq_nil_of_length_eq_zero (by omega)
        rw [this]; rfl
      · right
        obtain ⟨b, o, spot⟩ := a
        have hz1 : 0 < z := by omega
        have cell : ∀ i (hi : i < l.length), ∃ csi, csi.length = z ∧ VTs w.heap (fun b => b < w.heap.size) (e l[i]) csi ∧ ∀ j, j < z → ∃ y, csi[j]? = some y ∧ w.cell? (((⟨b, o, spot⟩ : Addr).add (i * z)).add j) = some y := fun i hi => by
          obtain ⟨_, csi, h1, h2, h3⟩ := hr i hi
          obtain ⟨_, _, h4⟩ := World.cells?_some h1
          exact ⟨csi, h2, h3, fun j hj => ⟨csi[j]'(by omega), by rw [List.getElem?_eq_getElem (by omega)], by rw [h4 j hj, List.getElem?_eq_getElem (by omega)]⟩⟩
        obtain ⟨cs0, h1, h2, h3⟩ := cell 0 (by omega)
        obtain ⟨y0, _, h5⟩ := h3 0 hz1
        simp only [Nat.zero_mul, Addr.add, if_true] at h5
        unfold World.cell? at h5
        split at h5
        · rename_i c el fr hblk
          split at h5
          · cases h5
          · rename_i hsp
            have hspn : spot = none := by cases spot with
              | none => rfl
              | some q => simp at hsp
            subst hspn
            have at_ : ∀ k, w.cell? ⟨b, o + k, none⟩ = c[o + k]? := fun k => by simp [World.cell?, hblk]
            have addr : ∀ i j, ((⟨b, o, none⟩ : Addr).add (i * z)).add j = ⟨b, o + (i * z + j), none⟩ := fun i j => by
              unfold Addr.add
              by_cases hi : i * z = 0
              · by_cases hj : j = 0 <;> simp [hi, hj]
              · by_cases hj : j = 0 <;> simp [hi, hj, Nat.add_assoc]
            have val : ∀ i (hi : i < l.length), VTs w.heap (fun b => b < w.heap.size) (e l[i]) ((c.toList.drop (o + i * z)).take z) ∧ o + i * z + z ≤ c.size := fun i hi => by
              obtain ⟨csi, g1, g2, g3⟩ := cell i hi
              have key : ∀ j, j < z → c[o + (i * z + j)]? = csi[j]? := fun j hj => by
                obtain ⟨y, k1, k2⟩ := g3 j hj
                rw [addr, at_] at k2
                rw [k1, k2]
              have hsize : o + i * z + z ≤ c.size := by
                have := key (z - 1) (by omega)
                rw [List.getElem?_eq_getElem (by omega)] at this
                have := (Array.getElem?_eq_some_iff.1 this).1
                omega
              have : csi = (c.toList.drop (o + i * z)).take z := by
                apply List.ext_getElem?
                intro j
                by_cases hj : j < z
                · rw [← key j hj, List.getElem?_take, if_pos hj, List.getElem?_drop, Array.getElem?_toList, Nat.add_assoc]
                · rw [List.getElem?_eq_none (by omega), List.getElem?_eq_none (by simp; omega)]
              rw [← this]
              exact ⟨g2, hsize⟩
            have hlast := (val (l.length - 1) (by omega)).2
            have hmul : (l.length - 1) * z + z = l.length * z := by
              rw [← Nat.succ_mul]; congr 1; omega
            have hlen : ((c.toList.drop o).take (l.length * z)).length = l.length * z := by
              simp only [List.length_take, List.length_drop, Array.length_toList]; omega
            refine ⟨b, o, c, el, fr, rfl, ?_, hblk, ?_⟩
            · exact (Array.getElem?_eq_some_iff.1 hblk).1
            · rw [flat_len he]
              refine VTs.flat he l _ hlen fun i hi => ?_
              have hle : i * z + z ≤ l.length * z := by rw [← Nat.succ_mul]; exact Nat.mul_le_mul_right z hi
              rw [List.drop_take, List.take_take, Nat.min_eq_left (by omega), List.drop_drop]
              exact (val i hi).1
        · cases h5

theorem fld_at {t : TypeId} {fs : Array Field} {cs : List Value} {x : DataW H × List MemPlace} {fuel z : Nat} (hu : P.underlying t = some (.struct fs)) (hz : P.cellsOf t = z) (hx : DataW.trod enc P w 0 sp held fuel t cs = some x) :
    cs.length = z ∧ ∃ xs : List (DataW H × List MemPlace), xs.length = fs.size ∧ x.1 = .agg (xs.map (·.1)) ∧ ∀ i (hi : i < fs.size) (hi' : i < xs.length), ∃ n, DataW.trod enc P w 0 sp held n fs[i].type ((cs.drop fs[i].offset).take (P.cellsOf fs[i].type)) = some xs[i] := by
  obtain ⟨xs, n, _, rfl, hl, hlen, hf⟩ := DataW.trod_struct hu hx
  refine ⟨hl.trans hz, xs, hlen, rfl, fun i hi hi' => ⟨n, ?_⟩⟩
  rw [hf i fs[i] (by rw [Array.getElem?_eq_getElem hi]), List.getElem?_eq_getElem hi']

theorem VTs.split {hp : Array Obj} {I : Nat → Prop} {a b : List V} {cs : List Value} {n : Nat} (h1 : VTs hp I a (cs.take n)) (h2 : VTs hp I b (cs.drop n)) : VTs hp I (a ++ b) cs := by
  have := VTs.append _ _ _ _ h1 h2
  rwa [List.take_append_drop] at this

theorem rd_struct2 {t : TypeId} {f0 f1 : Field} {α β : Type} {e0 : α → List V} {e1 : β → List V} {z0 z1 : Nat} {ok0 : α → DataW H → Prop} {ok1 : β → DataW H → Prop} (hu : P.underlying t = some (.struct #[f0, f1])) (hz : P.cellsOf t = z0 + z1)
    (o0 : f0.offset = 0) (o1 : f1.offset = z0) (c0 : P.cellsOf f0.type = z0) (c1 : P.cellsOf f1.type = z1) (R0 : Rd enc P w sp held f0.type e0 z0 ok0) (R1 : Rd enc P w sp held f1.type e1 z1 ok1) :
    Rd enc P w sp held t (fun a : α × β => e0 a.1 ++ e1 a.2) (z0 + z1) (fun a d => ∃ d0 d1, d = .agg [d0, d1] ∧ ok0 a.1 d0 ∧ ok1 a.2 d1) := fun fuel cs x hx => by
  obtain ⟨hl, xs, hxl, hxe, hf⟩ := fld_at hu hz hx
  refine ⟨hl, ?_⟩
  obtain ⟨n0, h0⟩ := hf 0 (by simp) (by rw [hxl]; simp)
  obtain ⟨n1, h1⟩ := hf 1 (by simp) (by rw [hxl]; simp)
  simp only [List.getElem_toArray, List.getElem_cons_zero, List.getElem_cons_succ, o0, o1, c0, c1, List.drop_zero] at h0 h1
  obtain ⟨_, a0, k0, v0⟩ := R0 _ _ _ h0
  obtain ⟨_, a1, k1, v1⟩ := R1 _ _ _ h1
  rw [List.take_of_length_le (by rw [List.length_drop, hl]; omega)] at v1
  refine ⟨(a0, a1), ⟨_, _, ?_, k0, k1⟩, VTs.split v0 v1⟩
  match xs, hxl with
  | [x0, x1], _ => rw [hxe]; rfl

theorem rd_struct3 {t : TypeId} {f0 f1 f2 : Field} {α β γ : Type} {e0 : α → List V} {e1 : β → List V} {e2 : γ → List V} {z0 z1 z2 : Nat} {ok0 : α → DataW H → Prop} {ok1 : β → DataW H → Prop} {ok2 : γ → DataW H → Prop}
    (hu : P.underlying t = some (.struct #[f0, f1, f2])) (hz : P.cellsOf t = z0 + z1 + z2)
    (o0 : f0.offset = 0) (o1 : f1.offset = z0) (o2 : f2.offset = z0 + z1) (c0 : P.cellsOf f0.type = z0) (c1 : P.cellsOf f1.type = z1) (c2 : P.cellsOf f2.type = z2) (R0 : Rd enc P w sp held f0.type e0 z0 ok0) (R1 : Rd enc P w sp held f1.type e1 z1 ok1) (R2 : Rd enc P w sp held f2.type e2 z2 ok2) :
    Rd enc P w sp held t (fun a : α × β × γ => e0 a.1 ++ (e1 a.2.1 ++ e2 a.2.2)) (z0 + z1 + z2) (fun a d => ∃ d0 d1 d2, d = .agg [d0, d1, d2] ∧ ok0 a.1 d0 ∧ ok1 a.2.1 d1 ∧ ok2 a.2.2 d2) := fun fuel cs x hx => by
  obtain ⟨hl, xs, hxl, hxe, hf⟩ := fld_at hu hz hx
  refine ⟨hl, ?_⟩
  obtain ⟨n0, h0⟩ := hf 0 (by simp) (by rw [hxl]; simp)
  obtain ⟨n1, h1⟩ := hf 1 (by simp) (by rw [hxl]; simp)
  obtain ⟨n2, h2⟩ := hf 2 (by simp) (by rw [hxl]; simp)
  simp only [List.getElem_toArray, List.getElem_cons_zero, List.getElem_cons_succ, o0, o1, o2, c0, c1, c2, List.drop_zero] at h0 h1 h2
  obtain ⟨_, a0, k0, v0⟩ := R0 _ _ _ h0
  obtain ⟨_, a1, k1, v1⟩ := R1 _ _ _ h1
  obtain ⟨_, a2, k2, v2⟩ := R2 _ _ _ h2
  rw [List.take_of_length_le (by rw [List.length_drop, hl]; omega), ← List.drop_drop] at v2
  refine ⟨(a0, a1, a2), ⟨_, _, _, ?_, k0, k1, k2⟩, VTs.split v0 (VTs.split v1 v2)⟩
  match xs, hxl with
  | [x0, x1, x2], _ => rw [hxe]; rfl

theorem rd_struct4 {t : TypeId} {f0 f1 f2 f3 : Field} {α β γ δ : Type} {e0 : α → List V} {e1 : β → List V} {e2 : γ → List V} {e3 : δ → List V} {z0 z1 z2 z3 : Nat} {ok0 : α → DataW H → Prop} {ok1 : β → DataW H → Prop} {ok2 : γ → DataW H → Prop} {ok3 : δ → DataW H → Prop}
    (hu : P.underlying t = some (.struct #[f0, f1, f2, f3])) (hz : P.cellsOf t = z0 + z1 + z2 + z3)
    (o0 : f0.offset = 0) (o1 : f1.offset = z0) (o2 : f2.offset = z0 + z1) (o3 : f3.offset = z0 + z1 + z2) (c0 : P.cellsOf f0.type = z0) (c1 : P.cellsOf f1.type = z1) (c2 : P.cellsOf f2.type = z2) (c3 : P.cellsOf f3.type = z3)
    (R0 : Rd enc P w sp held f0.type e0 z0 ok0) (R1 : Rd enc P w sp held f1.type e1 z1 ok1) (R2 : Rd enc P w sp held f2.type e2 z2 ok2) (R3 : Rd enc P w sp held f3.type e3 z3 ok3) :
    Rd enc P w sp held t (fun a : α × β × γ × δ => e0 a.1 ++ (e1 a.2.1 ++ (e2 a.2.2.1 ++ e3 a.2.2.2))) (z0 + z1 + z2 + z3) (fun a d => ∃ d0 d1 d2 d3, d = .agg [d0, d1, d2, d3] ∧ ok0 a.1 d0 ∧ ok1 a.2.1 d1 ∧ ok2 a.2.2.1 d2 ∧ ok3 a.2.2.2 d3) := fun fuel cs x hx => by
  obtain ⟨hl, xs, hxl, hxe, hf⟩ := fld_at hu hz hx
  refine ⟨hl, ?_⟩
  obtain ⟨n0, h0⟩ := hf 0 (by simp) (by rw [hxl]; simp)
  obtain ⟨n1, h1⟩ := hf 1 (by simp) (by rw [hxl]; simp)
  obtain ⟨n2, h2⟩ := hf 2 (by simp) (by rw [hxl]; simp)
  obtain ⟨n3, h3⟩ := hf 3 (by simp) (by rw [hxl]; simp)
  simp only [List.getElem_toArray, List.getElem_cons_zero, List.getElem_cons_succ, o0, o1, o2, o3, c0, c1, c2, c3, List.drop_zero] at h0 h1 h2 h3
  obtain ⟨_, a0, k0, v0⟩ := R0 _ _ _ h0
  obtain ⟨_, a1, k1, v1⟩ := R1 _ _ _ h1
  obtain ⟨_, a2, k2, v2⟩ := R2 _ _ _ h2
  obtain ⟨_, a3, k3, v3⟩ := R3 _ _ _ h3
  rw [List.take_of_length_le (by rw [List.length_drop, hl]; omega), ← List.drop_drop, ← List.drop_drop] at v3
  rw [← List.drop_drop] at v2
  refine ⟨(a0, a1, a2, a3), ⟨_, _, _, _, ?_, k0, k1, k2, k3⟩, VTs.split v0 (VTs.split v1 (VTs.split v2 v3))⟩
  match xs, hxl with
  | [x0, x1, x2, x3], _ => rw [hxe]; rfl

theorem rd_array {t et : TypeId} {n : Nat} {α : Type} {e : α → List V} {z : Nat} {ok : α → DataW H → Prop} (hu : P.underlying t = some (.array n et)) (hz : P.cellsOf et = z) (hzt : P.cellsOf t = n * z) (he : ∀ a, (e a).length = z) (R : Rd enc P w sp held et e z ok) :
    Rd enc P w sp held t (fun l : {l : List α // l.length = n} => l.1.flatMap e) (n * z) (fun l d => ∃ ds : List (DataW H), d = .agg ds ∧ ds.length = n ∧ ∀ i (h : i < l.1.length) (h' : i < ds.length), ok l.1[i] ds[i]) := fun fuel cs x hx => by
  obtain ⟨xs, m, _, rfl, hl, hlen, hf⟩ := DataW.trod_array hu hx
  refine ⟨hl.trans hzt, ?_⟩
  rw [hz] at hf
  have each : ∀ i, i < n → ∃ a : α, (∃ h : i < xs.length, ok a xs[i].1) ∧ VTs w.heap (fun b => b < w.heap.size) (e a) ((cs.drop (i * z)).take z) := fun i hi => by
    have := hf i hi
    rw [List.getElem?_eq_getElem (by omega)] at this
    obtain ⟨_, a, h1, h2⟩ := R _ _ _ this
    exact ⟨a, ⟨by omega, h1⟩, h2⟩
  obtain ⟨l, hl', hr⟩ := choose_list each
  refine ⟨⟨l, hl'⟩, ⟨xs.map (·.1), rfl, by simp [hlen], fun i h h' => ?_⟩, VTs.flat he l cs (by rw [hl, hzt, hl']) fun i hi => (hr i hi).2⟩
  obtain ⟨_, h1⟩ := (hr i h).1
  simpa using h1
end
end Go.Pe
