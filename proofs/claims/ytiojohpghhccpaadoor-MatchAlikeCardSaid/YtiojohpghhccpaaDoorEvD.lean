/-
  Walking through code by hand: what a piece of code comes to, as a condition on what it begins with.
-/
import Derived.Test.YtiojohpghhccpaaDoorEvC
set_option linter.all false
namespace Go.Pe

/-- A piece of code comes to an end at which Q is so. -/
def Wp (D : Dt) (c : Code) (ρ : Env) (s : St) (Q : Ex → Env → St → Prop) : Prop := ∃ x ρ1 s1, EvC D c ρ s x ρ1 s1 ∧ Q x ρ1 s1

/-- What is asked behind the first of two pieces. -/
def Thn (D : Dt) (b : Code) (Q : Ex → Env → St → Prop) : Ex → Env → St → Prop
  | .nrm, ρ, s => Wp D b ρ s Q
  | .ext id, ρ, s => Q (.ext id) ρ s
  | .ret, ρ, s => Q .ret ρ s

/-- What is asked behind a block's body. -/
def Bk (id : Nat) (Q : Ex → Env → St → Prop) (x : Ex) (ρ : Env) (s : St) : Prop := Q (x.inBlock id) ρ s

/-- What is asked behind a round. -/
def Rnd (I : Nat → Env → St → Prop) (n : Nat) (Q : Ex → Env → St → Prop) : Ex → Env → St → Prop
  | .nrm, ρ, s => ∃ m, m < n ∧ I m ρ s
  | .ext id, ρ, s => Q (.ext id) ρ s
  | .ret, ρ, s => Q .ret ρ s

def Env.frz (n : Nat) (mem : List Blk) (ρ : Env) : Env := fun t => frzV n mem (ρ t)

/-- What is asked behind a piece of code whose blocks are then forgotten. -/
def Scp (s : St) (Q : Ex → Env → St → Prop) (x : Ex) (ρ1 : Env) (s1 : St) : Prop :=
  s.mem.length ≤ s1.lo ∧ Q x (ρ1.frz s.mem.length s1.mem) ⟨s1.mem.take s.mem.length, s.lo⟩

section
variable {D : Dt} {ρ : Env} {s : St} {Q : Ex → Env → St → Prop}

theorem Wp.mono {c : Code} {R : Ex → Env → St → Prop} (h : Wp D c ρ s R) (hq : ∀ x ρ1 s1, R x ρ1 s1 → Q x ρ1 s1) : Wp D c ρ s Q :=
  let ⟨x, ρ1, s1, e, q⟩ := h
  ⟨x, ρ1, s1, e, hq _ _ _ q⟩

theorem Wp.skip (h : Q .nrm ρ s) : Wp D .skip ρ s Q := ⟨_, _, _, .skip, h⟩
theorem Wp.label {l : Nat} (h : Q .nrm ρ s) : Wp D (.label l) ρ s Q := ⟨_, _, _, .label, h⟩
theorem Wp.exit {id : Nat} (h : Q (.ext id) ρ s) : Wp D (.exit id) ρ s Q := ⟨_, _, _, .exit, h⟩
theorem Wp.ret (h : Q .ret ρ s) : Wp D .ret ρ s Q := ⟨_, _, _, .ret, h⟩

theorem Wp.seq {a b : Code} (h : Wp D a ρ s (Thn D b Q)) : Wp D (.seq a b) ρ s Q := by
  obtain ⟨x, ρ1, s1, e, q⟩ := h
  cases x with
  | nrm => obtain ⟨y, ρ2, s2, e2, q2⟩ := q; exact ⟨y, ρ2, s2, .seqN e e2, q2⟩
  | ext id => exact ⟨_, _, _, .seqX e (by intro h; cases h), q⟩
  | ret => exact ⟨_, _, _, .seqX e (by intro h; cases h), q⟩

theorem Wp.cond {c : Operand} {a b : Code} {t : Bool} (hc : ρ.ev D c = .bool t) (h1 : t = true → Wp D a ρ s Q) (h2 : t = false → Wp D b ρ s Q) : Wp D (.cond c a b) ρ s Q := by
  cases t with
  | true => obtain ⟨x, ρ1, s1, e, q⟩ := h1 rfl; exact ⟨x, ρ1, s1, .cond hc e, q⟩
  | false => obtain ⟨x, ρ1, s1, e, q⟩ := h2 rfl; exact ⟨x, ρ1, s1, .cond hc e, q⟩

theorem Wp.condT {c : Operand} {a b : Code} (hc : ρ.ev D c = .bool true) (h1 : Wp D a ρ s Q) : Wp D (.cond c a b) ρ s Q := .cond hc (fun _ => h1) (fun h => by cases h)
theorem Wp.condF {c : Operand} {a b : Code} (hc : ρ.ev D c = .bool false) (h1 : Wp D b ρ s Q) : Wp D (.cond c a b) ρ s Q := .cond hc (fun h => by cases h) (fun _ => h1)

theorem Wp.block {id : Nat} {c : Code} (h : Wp D c ρ s (Bk id Q)) : Wp D (.block id c) ρ s Q := by
  obtain ⟨x, ρ1, s1, e, q⟩ := h
  exact ⟨_, _, _, .block e, q⟩

theorem Wp.loop {c : Code} (I : Nat → Env → St → Prop) (h : ∀ n ρ s, I n ρ s → Wp D c ρ s (Rnd I n Q)) : ∀ {n : Nat} {ρ : Env} {s : St}, I n ρ s → Wp D (.loop c) ρ s Q := by
  intro n
  induction n using Nat.strongRecOn with
  | ind n ih =>
    intro ρ s h0
    obtain ⟨x, ρ1, s1, e, q⟩ := h n ρ s h0
    cases x with
    | nrm =>
      obtain ⟨m, hm, hI⟩ := q
      obtain ⟨y, ρ2, s2, e2, q2⟩ := ih m hm hI
      exact ⟨y, ρ2, s2, .loopN e e2, q2⟩
    | ext id => exact ⟨_, _, _, .loopX e (by intro h; cases h), q⟩
    | ret => exact ⟨_, _, _, .loopX e (by intro h; cases h), q⟩

theorem Wp.scope {c : Code} (h : Wp D c ρ ⟨s.mem, s.mem.length⟩ (Scp s Q)) : Wp D c ρ s Q := by
  obtain ⟨x, ρ1, s1, e, hge, q⟩ := h
  exact ⟨_, _, _, .scope e hge, q⟩

/-! ### regions in the order of the text -/

/-- Is an operation wanted, by its guard? -/
def gd (ds : List (Option Tmp)) (ρ : Env) : Option (Nat × Bool) → Option Bool
  | none => some true
  | some (j, want) => match ds[j]? with
    | some (some d) => match ρ d with
      | .bool b => some (b == want)
      | .any => none
      | _ => some false
    | _ => some false

theorem gd_eq {ops : Array Oper} {o : Oper} : gd (ops.toList.map (·.dst)) ρ o.guard = wantedT ρ ops o := by
  unfold gd wantedT
  split
  · rename_i h; rw [h]
  · rename_i j w h
    rw [h]
    simp only [List.getElem?_map]
    rw [show ops.toList[j]? = ops[j]? from Array.getElem?_toList]
    cases ops[j]? with
    | none => rfl
    | some p => cases h : p.dst with
      | none => simp [h]
      | some d => simp only [Option.map_some, h, Option.bind_some]; cases ρ d <;> rfl

/-- Operations one behind the other, and what is asked then. -/
def WO (D : Dt) (q : Bool) (ds : List (Option Tmp)) : List Oper → Env → St → (Env → St → Prop) → Prop
  | [], ρ, s, K => K ρ s
  | o :: os, ρ, s, K => match gd ds ρ o.guard with
    | none => False
    | some false => WO D q ds os (ρ.put o.dst (.tup [])) s K
    | some true => match callT D ρ o with
      | some (f, args) => ∃ v s1, EvF D f args s v s1 ∧ (q = true → s1 = s) ∧ WO D q ds os (ρ.put o.dst v) s1 K
      | none => match opT D ρ o none s with
        | some (v, s1) => WO D q ds os (ρ.put o.dst v) s1 K
        | none => False

theorem slot_none (ops : Array Oper) (i : Nat) : slot ops none i = none := by
  unfold slot
  split
  · split <;> rfl
  · rfl

theorem WO.run {q : Bool} {ops : Array Oper} {K : Env → St → Prop} : ∀ {os : List Oper} {i : Nat} {ρ : Env} {s : St}, os = ops.toList.drop i → WO D q (ops.toList.map (·.dst)) os ρ s K →
    ∃ ρ1 s1, EvR D ops none (List.range' i os.length) ρ s ρ1 s1 ∧ K ρ1 s1
  | [], _, ρ, s, _, h => ⟨ρ, s, .nil, h⟩
  | o :: os, i, ρ, s, ho, h => by
    have hi : ops[i]? = some o := by
      have := congrArg List.head? ho
      simp only [List.head?_cons, List.head?_drop] at this
      simpa using this.symm
    have hos : os = ops.toList.drop (i + 1) := by
      have := congrArg List.tail ho
      simpa using this
    simp only [WO, gd_eq] at h
    split at h
    · exact h.elim
    · rename_i hw
      obtain ⟨ρ1, s1, e, k⟩ := WO.run hos h
      exact ⟨ρ1, s1, by rw [List.length_cons, List.range'_succ]; exact .skip hi hw e, k⟩
    · rename_i hw
      split at h
      · rename_i f args hc
        obtain ⟨v, s1, hf, _, h⟩ := h
        obtain ⟨ρ2, s2, e, k⟩ := WO.run hos h
        exact ⟨ρ2, s2, by rw [List.length_cons, List.range'_succ]; exact .call hi hw hc hf e, k⟩
      · split at h
        · rename_i v s1 hop
          obtain ⟨ρ2, s2, e, k⟩ := WO.run hos h
          exact ⟨ρ2, s2, by rw [List.length_cons, List.range'_succ]; exact .op hi hw (by rw [slot_none]; exact hop) e, k⟩
        · exact h.elim

theorem Wp.region {id : Nat} {ops : Array Oper} (h : ∀ K : Env → St → Prop, (∀ ρ1 s1, Q .nrm ρ1 s1 → K ρ1 s1) → WO D false (ops.toList.map (·.dst)) ops.toList ρ s K) : Wp D (.region id ops false) ρ s Q := by
  obtain ⟨ρ1, s1, e, k⟩ := WO.run (i := 0) (by simp) (h (Q .nrm) fun _ _ h => h)
  refine ⟨.nrm, ρ1, s1, .region ?_, k⟩
  rw [List.range_eq_range']
  simpa using e

/-! ### regions that draw their order, of operations that change nothing -/

noncomputable def still (o : Oper) : Bool := !(makes o) && (quiet o || match o.op with
  | .call { callee := .value _, .. } => true
  | _ => false)

def allQ (n : Nat) : List (Nat × Kd) := (List.range n).map fun i => (i, .q)

noncomputable def drawOk (ops : Array Oper) : Bool := ops.toList.all still && backOk ops && pairsOk ops (masks ops.toList []) none (allQ ops.size) []

theorem slot_still {ops : Array Oper} (h : ops.toList.all still = true) (b : Option Nat) (i : Nat) : slot ops b i = none := by
  unfold slot
  split
  · rename_i o ho
    have := List.all_eq_true.1 h o (Array.mem_toList_iff.2 (Array.mem_of_getElem? ho))
    simp only [still, Bool.and_eq_true, Bool.not_eq_true'] at this
    rw [this.1]
    rfl
  · rfl

theorem quiet_opT {ρ : Env} {o : Oper} {s s1 : St} {v : V} (hs : still o = true) (hc : callT D ρ o = none) (h : opT D ρ o none s = some (v, s1)) : s1 = s := by
  simp only [still, Bool.and_eq_true, Bool.or_eq_true] at hs
  rcases hs.2 with hq | hq
  · exact quiet_same hq h
  · split at hq
    · rename_i c hop
      simp only [opT, hop] at h
      cases h
    · cases hq

theorem WO.chn {ops : Array Oper} (hs : ops.toList.all still = true) {b : Option Nat} {K : Env → St → Prop} : ∀ {os : List Oper} {i : Nat} {ρ : Env}, os = ops.toList.drop i → WO D true (ops.toList.map (·.dst)) os ρ s K →
    ∃ ρ1, Chn D ops b ((List.range' i os.length).map fun i => (i, .q)) ρ s ρ1 s ∧ K ρ1 s
  | [], _, ρ, _, h => ⟨ρ, .nil, h⟩
  | o :: os, i, ρ, ho, h => by
    have hi : ops[i]? = some o := by
      have := congrArg List.head? ho
      simp only [List.head?_cons, List.head?_drop] at this
      simpa using this.symm
    have hos : os = ops.toList.drop (i + 1) := by
      have := congrArg List.tail ho
      simpa using this
    have hst := List.all_eq_true.1 hs o (Array.mem_toList_iff.2 (Array.mem_of_getElem? hi))
    simp only [WO, gd_eq] at h
    rw [List.length_cons, List.range'_succ, List.map_cons]
    split at h
    · exact h.elim
    · rename_i hw
      obtain ⟨ρ1, e, k⟩ := WO.chn hs hos h
      exact ⟨ρ1, .cons hi ⟨.inl ⟨hw, rfl, rfl⟩, rfl⟩ e, k⟩
    · rename_i hw
      split at h
      · rename_i f args hc
        obtain ⟨v, s1, hf, hsame, h⟩ := h
        cases hsame trivial
        obtain ⟨ρ2, e, k⟩ := WO.chn hs hos h
        exact ⟨ρ2, .cons hi ⟨.inr ⟨hw, .inr ⟨f, args, hc, hf⟩⟩, rfl⟩ e, k⟩
      · rename_i hc
        split at h
        · rename_i v s1 hop
          cases quiet_opT hst hc hop
          obtain ⟨ρ2, e, k⟩ := WO.chn hs hos h
          exact ⟨ρ2, .cons hi ⟨.inr ⟨hw, .inl (by rw [slot_still hs]; exact hop)⟩, rfl⟩ e, k⟩
        · exact h.elim

theorem rank_still {ops : Array Oper} (h : ops.toList.all still = true) (n : Nat) : rank ops n = 0 := by
  unfold rank
  rw [List.length_eq_zero_iff, List.filter_eq_nil_iff]
  intro o ho
  have := List.all_eq_true.1 h o (List.mem_of_mem_take ho)
  simp only [still, Bool.and_eq_true, Bool.not_eq_true'] at this
  simp [this.1]

theorem pairs_slot {ops : Array Oper} (h : ops.toList.all still = true) {ms : List Nat} {b : Option Nat} : ∀ (l seen : List (Nat × Kd)), pairsOk ops ms b l seen = pairsOk ops ms none l seen
  | [], _ => rfl
  | y :: l, seen => by
    have hp : ∀ x, pairOk ops ms b x y = pairOk ops ms none x y := fun x => by
      simp only [pairOk, meet, slot_still h]
    simp only [pairsOk, pairs_slot h l, rowOk, hp]

theorem Wp.draw {id : Nat} {ops : Array Oper} (hd : drawOk ops = true) (hlo : s.lo ≤ s.mem.length) (h : ∀ K : Env → St → Prop, (∀ ρ1, Q .nrm ρ1 s → K ρ1 s) → WO D true (ops.toList.map (·.dst)) ops.toList ρ s K) : Wp D (.region id ops true) ρ s Q := by
  simp only [drawOk, Bool.and_eq_true] at hd
  obtain ⟨⟨h1, h2⟩, h3⟩ := hd
  obtain ⟨ρ1, e, k⟩ := WO.chn (b := some s.mem.length) h1 (i := 0) (by simp) (h (fun ρ1 s1 => s1 = s ∧ Q .nrm ρ1 s) fun _ q => ⟨rfl, q⟩)
  refine ⟨.nrm, ρ1, s, ?_, k.2⟩
  have hpad : s.pad ops = s := by simp [St.pad, rank_still h1]
  refine EvC.drawn hlo ?_ h2 ?_ (by rw [hpad]; exact e)
  · simp [List.range_eq_range', Function.comp_def]
  · rw [pairs_slot h1]
    rw [← List.range_eq_range', show ops.toList.length = ops.size by simp]
    exact h3

/-- A result goes on. -/
def NV (D : Dt) (q : Bool) (ds : List (Option Tmp)) (os : List Oper) (d : Option Tmp) (ρ : Env) (s : St) (K : Env → St → Prop) : Option V → Prop
  | some v => WO D q ds os (ρ.put d v) s K
  | none => False
def NS (D : Dt) (q : Bool) (ds : List (Option Tmp)) (os : List Oper) (d : Option Tmp) (ρ : Env) (K : Env → St → Prop) : Option (V × St) → Prop
  | some (v, s) => WO D q ds os (ρ.put d v) s K
  | none => False
/-- A call is to be made. -/
def CallK (D : Dt) (q : Bool) (f : Nat) (args : List V) (s : St) (ds : List (Option Tmp)) (os : List Oper) (d : Option Tmp) (ρ : Env) (K : Env → St → Prop) : Prop :=
  ∃ v s1, EvF D f args s v s1 ∧ (q = true → s1 = s) ∧ WO D q ds os (ρ.put d v) s1 K
def CallV (D : Dt) (q : Bool) (args : List V) (s : St) (ds : List (Option Tmp)) (os : List Oper) (d : Option Tmp) (ρ : Env) (K : Env → St → Prop) : V → Prop
  | .fn g cap => CallK D q g (args ++ cap) s ds os d ρ K
  | _ => False
/-- By its guard an operation is done or not. -/
def GD (D : Dt) (q : Bool) (ds : List (Option Tmp)) (o : Oper) (os : List Oper) (ρ : Env) (s : St) (K : Env → St → Prop) : Option Bool → Prop
  | some true => WO D q ds (o :: os) ρ s K
  | some false => WO D q ds os (ρ.put o.dst (.tup [])) s K
  | none => False

theorem CallK.of {q : Bool} {f : Nat} {args : List V} {ds : List (Option Tmp)} {os : List Oper} {d : Option Tmp} {K : Env → St → Prop} {v : V} {s1 : St} (h : EvF D f args s v s1) (hq : q = true → s1 = s) (h1 : WO D q ds os (ρ.put d v) s1 K) : CallK D q f args s ds os d ρ K := ⟨v, s1, h, hq, h1⟩
theorem CallK.same {q : Bool} {f : Nat} {args : List V} {ds : List (Option Tmp)} {os : List Oper} {d : Option Tmp} {K : Env → St → Prop} {v : V} (h : EvF D f args s v s) (h1 : WO D q ds os (ρ.put d v) s K) : CallK D q f args s ds os d ρ K := ⟨v, s, h, fun _ => rfl, h1⟩

section
variable {q : Bool} {ds : List (Option Tmp)} {os : List Oper} {K : Env → St → Prop} {d : Option Tmp} {ty : TypeId} {p : String} {af : Array Edge}

theorem WO_nil : WO D q ds [] ρ s K = K ρ s := rfl
theorem NV_some {v : V} : NV D q ds os d ρ s K (some v) = WO D q ds os (ρ.put d v) s K := rfl
theorem NV_none : NV D q ds os d ρ s K none = False := rfl
theorem NS_some {v : V} : NS D q ds os d ρ K (some (v, s)) = WO D q ds os (ρ.put d v) s K := rfl
theorem NS_none : NS D q ds os d ρ K none = False := rfl
theorem CallV_fn {args : List V} {g : Nat} {cap : List V} : CallV D q args s ds os d ρ K (.fn g cap) = CallK D q g (args ++ cap) s ds os d ρ K := rfl
theorem GD_true {o : Oper} : GD D q ds o os ρ s K (some true) = WO D q ds (o :: os) ρ s K := rfl
theorem GD_false {o : Oper} : GD D q ds o os ρ s K (some false) = WO D q ds os (ρ.put o.dst (.tup [])) s K := rfl

theorem WO_op {o : Oper} (hg : o.guard = none) (hc : callT D ρ o = none) : WO D q ds (o :: os) ρ s K = NS D q ds os o.dst ρ K (opT D ρ o none s) := by
  simp only [WO, hg, gd, hc]
  cases opT D ρ o none s <;> rfl
theorem NS_map {r : Option V} : NS D q ds os d ρ K (r.map (·, s)) = NV D q ds os d ρ s K r := by cases r <;> rfl

theorem WO_guard {op : Op} {g : Nat × Bool} : WO D q ds (⟨d, op, ty, p, af, some g⟩ :: os) ρ s K = GD D q ds ⟨d, op, ty, p, af, none⟩ os ρ s K (gd ds ρ (some g)) := by
  show (match gd ds ρ (some g) with
    | none => False
    | some false => _
    | some true => _) = _
  cases gd ds ρ (some g) with
  | none => rfl
  | some b => cases b <;> rfl
theorem WO_move {x : Operand} : WO D q ds (⟨d, .move x, ty, p, af, none⟩ :: os) ρ s K = WO D q ds os (ρ.put d (ρ.ev D x)) s K := rfl
theorem WO_assign {x : Operand} : WO D q ds (⟨d, .assign x, ty, p, af, none⟩ :: os) ρ s K = WO D q ds os (ρ.put d (ρ.ev D x)) s K := rfl
def pickV (c a b : V) : Option V := match c with
  | .bool t => some (if t then a else b)
  | _ => none
theorem WO_pick {c a b : Operand} : WO D q ds (⟨d, .pick c a b, ty, p, af, none⟩ :: os) ρ s K = NV D q ds os d ρ s K (pickV (ρ.ev D c) (ρ.ev D a) (ρ.ev D b)) := by
  rw [WO_op rfl rfl]
  simp only [opT, pickV]
  cases ρ.ev D c <;> rfl
def allocV (D : Dt) (s : St) (t : Nat) : Option (V × St) := match D.T t with
  | some ti => (s.new none (.cells ti.zero)).map fun p => (.pb p.1 ti.zero.length 0, p.2)
  | none => none
theorem WO_alloc {t : TypeId} : WO D q ds (⟨d, .alloc t, ty, p, af, none⟩ :: os) ρ s K = NS D q ds os d ρ K (allocV D s t) := WO_op rfl rfl
def boxV (s : St) (v : V) : Option (V × St) := match v with
  | .any => none
  | v => (s.new none (.cells v.cells)).map fun p => (.pb p.1 v.cells.length 0, p.2)
theorem WO_box {t : TypeId} {x : Operand} : WO D q ds (⟨d, .box t x, ty, p, af, none⟩ :: os) ρ s K = NS D q ds os d ρ K (boxV s (ρ.ev D x)) := by
  rw [WO_op rfl rfl]
  simp only [opT, boxV]
  cases ρ.ev D x <;> rfl
theorem WO_build {t : TypeId} {ps : Array (Nat × Operand)} : WO D q ds (⟨d, .build t ps, ty, p, af, none⟩ :: os) ρ s K = NV D q ds os d ρ s K (buildT D t (ps.toList.map fun (i, x) => (i, ρ.ev D x))) := by
  rw [WO_op rfl rfl]; exact NS_map
theorem WO_buildSlice {t : TypeId} {n : Nat} {ps : Array (Nat × Operand)} : WO D q ds (⟨d, .buildSlice t n ps, ty, p, af, none⟩ :: os) ρ s K = NS D q ds os d ρ K (buildSliceT D s none t n (ps.toList.map fun (i, x) => (i, ρ.ev D x))) := WO_op rfl rfl
theorem WO_load {t : TypeId} {a : Operand} : WO D q ds (⟨d, .load t a, ty, p, af, none⟩ :: os) ρ s K = NV D q ds os d ρ s K (loadT D s t (ρ.ev D a)) := by
  rw [WO_op rfl rfl]; exact NS_map
def storeV (D : Dt) (s : St) (t : Nat) (a x : V) : Option (V × St) := (storeT D s t a x).map (.tup [], ·)
theorem WO_store {t : TypeId} {a x : Operand} : WO D q ds (⟨d, .store t a x, ty, p, af, none⟩ :: os) ρ s K = NS D q ds os d ρ K (storeV D s t (ρ.ev D a) (ρ.ev D x)) := WO_op rfl rfl
def nilV : V → Option V
  | .pb i e o => some (.pb i e o)
  | .pt cs o => some (.pt cs o)
  | .fn f cap => some (.fn f cap)
  | _ => none
theorem WO_nilCheck {x : Operand} : WO D q ds (⟨d, .nilCheck x, ty, p, af, none⟩ :: os) ρ s K = NV D q ds os d ρ s K (nilV (ρ.ev D x)) := by
  rw [WO_op rfl rfl]
  simp only [opT, nilV]
  cases ρ.ev D x <;> rfl
theorem WO_binOp {op : BinOp} {t yt : TypeId} {x y : Operand} : WO D q ds (⟨d, .binOp op t x y yt, ty, p, af, none⟩ :: os) ρ s K = NV D q ds os d ρ s K (binT D op t (isConstOp x) (isConstOp y) (ρ.ev D x) (ρ.ev D y)) := by
  rw [WO_op rfl rfl]; exact NS_map
theorem WO_unOp {op : UnOp} {t : TypeId} {x : Operand} : WO D q ds (⟨d, .unOp op t x, ty, p, af, none⟩ :: os) ρ s K = NV D q ds os d ρ s K (unT op (ρ.ev D x)) := by
  rw [WO_op rfl rfl]; exact NS_map
theorem WO_convert {a b : TypeId} {x : Operand} : WO D q ds (⟨d, .convert a b x, ty, p, af, none⟩ :: os) ρ s K = NV D q ds os d ρ s K (convT D s a b (ρ.ev D x)) := by
  rw [WO_op rfl rfl]; exact NS_map
theorem WO_makeFunc {f : Nat} {cap : Array Operand} : WO D q ds (⟨d, .makeFunc (.func f) #[] cap, ty, p, af, none⟩ :: os) ρ s K = WO D q ds os (ρ.put d (.fn f (cap.toList.map (ρ.ev D)))) s K := rfl
theorem WO_makeMap {t : TypeId} : WO D q ds (⟨d, .makeMap t none, ty, p, af, none⟩ :: os) ρ s K = NS D q ds os d ρ K ((s.new none (.map [])).map fun p => (.mp p.1, p.2)) := WO_op rfl rfl
theorem WO_makeSlice {t : TypeId} {l c : Operand} : WO D q ds (⟨d, .makeSlice t l c, ty, p, af, none⟩ :: os) ρ s K = NS D q ds os d ρ K (makeSliceT D s none t (ρ.ev D l) (ρ.ev D c)) := WO_op rfl rfl
theorem WO_slice {t : TypeId} {x : Operand} {lo hi mx : Option Operand} : WO D q ds (⟨d, .slice t x lo hi mx, ty, p, af, none⟩ :: os) ρ s K = NV D q ds os d ρ s K (sliceT D s t (ρ.ev D x) (lo.map (ρ.ev D)) (hi.map (ρ.ev D)) (mx.map (ρ.ev D))) := by
  rw [WO_op rfl rfl]; exact NS_map
theorem WO_fieldAddr {t : TypeId} {x : Operand} {f : Nat} : WO D q ds (⟨d, .fieldAddr t x f, ty, p, af, none⟩ :: os) ρ s K = NV D q ds os d ρ s K (fieldT D t (ρ.ev D x) f) := by
  rw [WO_op rfl rfl]; exact NS_map
def fldV (D : Dt) (t f : Nat) (x : V) : Option V := match D.fld t f, x with
  | some (ft, off), .agg cs => partT D ft cs off
  | _, _ => none
theorem WO_field {t : TypeId} {x : Operand} {f : Nat} : WO D q ds (⟨d, .field t x f, ty, p, af, none⟩ :: os) ρ s K = NV D q ds os d ρ s K (fldV D t f (ρ.ev D x)) := by
  rw [WO_op rfl rfl]
  simp only [opT, fldV]
  cases D.fld t f <;> cases ρ.ev D x <;> first | rfl | exact NS_map
theorem WO_indexAddr {t : TypeId} {x i : Operand} : WO D q ds (⟨d, .indexAddr t x i, ty, p, af, none⟩ :: os) ρ s K = NV D q ds os d ρ s K (indexAddrT D t (ρ.ev D x) (ρ.ev D i)) := by
  rw [WO_op rfl rfl]; exact NS_map
theorem WO_index {t : TypeId} {x i : Operand} : WO D q ds (⟨d, .index t x i, ty, p, af, none⟩ :: os) ρ s K = NV D q ds os d ρ s K (indexT D t (ρ.ev D x) (ρ.ev D i)) := by
  rw [WO_op rfl rfl]; exact NS_map
theorem WO_lookup {t : TypeId} {x i : Operand} {ok : Bool} : WO D q ds (⟨d, .lookup t x i ok, ty, p, af, none⟩ :: os) ρ s K = NV D q ds os d ρ s K (lookupT D s t (ρ.ev D x) (ρ.ev D i) ok) := by
  rw [WO_op rfl rfl]; exact NS_map
def updV (D : Dt) (s : St) (t : Nat) (m k v : V) : Option (V × St) := (updateT D s t m k v).map (.tup [], ·)
theorem WO_mapUpdate {t : TypeId} {m k v : Operand} : WO D q ds (⟨d, .mapUpdate t m k v, ty, p, af, none⟩ :: os) ρ s K = NS D q ds os d ρ K (updV D s t (ρ.ev D m) (ρ.ev D k) (ρ.ev D v)) := WO_op rfl rfl
theorem WO_insert {t : TypeId} {m k v : Operand} : WO D q ds (⟨d, .insert t m k v, ty, p, af, none⟩ :: os) ρ s K = NS D q ds os d ρ K (updV D s t (ρ.ev D m) (ρ.ev D k) (ρ.ev D v)) := WO_op rfl rfl
def rangeV (D : Dt) (s : St) (t : Nat) (x : V) : Option (V × St) := match x with
  | .str l => if D.isStr t then (s.new none (.iter l 0)).map fun p => (.pb p.1 0 0, p.2) else none
  | _ => none
theorem WO_range {t : TypeId} {x : Operand} : WO D q ds (⟨d, .range t x, ty, p, af, none⟩ :: os) ρ s K = NS D q ds os d ρ K (rangeV D s t (ρ.ev D x)) := WO_op rfl rfl
theorem WO_next {x : Operand} : WO D q ds (⟨d, .next x true, ty, p, af, none⟩ :: os) ρ s K = NS D q ds os d ρ K (nextT s (ρ.ev D x)) := WO_op rfl rfl
def extV (i : Nat) : V → Option V
  | .tup vs => vs[i]?
  | _ => none
theorem WO_extract {x : Operand} {i : Nat} : WO D q ds (⟨d, .extract x i, ty, p, af, none⟩ :: os) ρ s K = NV D q ds os d ρ s K (extV i (ρ.ev D x)) := by
  rw [WO_op rfl rfl]
  simp only [opT, extV]
  cases ρ.ev D x <;> first | rfl | exact NS_map
theorem WO_builtin {b : Builtin} {args : Array Operand} {ts : Array TypeId} : WO D q ds (⟨d, .call ⟨.builtin b, args, ts⟩, ty, p, af, none⟩ :: os) ρ s K = NS D q ds os d ρ K (builtinT D s none b ts (args.toList.map (ρ.ev D))) := WO_op rfl rfl
theorem WO_call {f : Nat} {args : Array Operand} {ts : Array TypeId} : WO D q ds (⟨d, .call ⟨.value (.func f), args, ts⟩, ty, p, af, none⟩ :: os) ρ s K = CallK D q f (args.toList.map (ρ.ev D)) s ds os d ρ K := by
  simp only [WO, gd, callT, Env.ev, List.append_nil]
  rfl
theorem WO_callV {t : Nat} {args : Array Operand} {ts : Array TypeId} : WO D q ds (⟨d, .call ⟨.value (.tmp t), args, ts⟩, ty, p, af, none⟩ :: os) ρ s K = CallV D q (args.toList.map (ρ.ev D)) s ds os d ρ K (ρ t) := by
  simp only [WO, gd, callT]
  have e : ρ.ev D (.tmp t) = ρ t := rfl
  rw [e]
  cases ρ t <;> rfl
end

theorem ev_tmp {t : Nat} : ρ.ev D (.tmp t) = ρ t := rfl
theorem ev_const {v : Value} : ρ.ev D (.const v) = ofV 2 v := rfl
theorem ev_func {f : Nat} : ρ.ev D (.func f) = .fn f [] := rfl
theorem ev_global {g : Nat} : ρ.ev D (.global g) = match D.G g with | some cs => .pt cs 0 | none => .any := rfl
theorem put_none {v : V} : ρ.put none v = ρ := rfl
theorem put_at {d t : Nat} {v : V} : (ρ.put (some d) v) t = if t = d then v else ρ t := rfl
theorem frz_at {n t : Nat} {mem : List Blk} : (ρ.frz n mem) t = frzV n mem (ρ t) := rfl

/-- A call. -/
theorem EvF.of {f : Nat} {fn : Func} {c : Code} {args : List V} {r : V} {s' : St} (hf : D.P.funcs[f]? = some fn) (hb : fn.body = some c) (hn : args.length ≤ fn.ntmps)
    (h : Wp D c (entry args) ⟨s.mem, s.mem.length⟩ fun x ρ s1 => (x = .nrm ∨ x = .ret) ∧ ∃ v, resultsT D fn ρ s1 = some v ∧ leave s.mem.length s.lo v s1 = (r, s')) : EvF D f args s r s' := by
  obtain ⟨x, ρ1, s1, e, hx, v, hv, hl⟩ := h
  have := EvF.mk (s := s) hf hb hn e hx hv
  rw [hl] at this
  exact this
end
end Go.Pe

namespace Go.Pe

mutual
/-- All numbers of blocks k higher. -/
def V.sh (k : Nat) : V → V
  | .pb i e o => .pb (i + k) e o
  | .so i e o n z => .so (i + k) e o n z
  | .mp i => .mp (i + k)
  | .agg cs => .agg (V.shL k cs)
  | .tup cs => .tup (V.shL k cs)
  | .pt cs o => .pt (V.shL k cs) o
  | .st f n cs => .st f n (V.shL k cs)
  | .fn f cs => .fn f (V.shL k cs)
  | .iface t v => .iface t (v.sh k)
  | .any => .any | .bool b => .bool b | .int t n => .int t n | .str s => .str s | .nilp => .nilp | .sn => .sn | .mn => .mn | .fnil => .fnil | .inil => .inil
def V.shL (k : Nat) : List V → List V
  | [] => []
  | v :: vs => v.sh k :: V.shL k vs
end

mutual
/-- It holds no block's number anywhere. -/
def V.dry : V → Bool
  | .pb .. | .so .. | .mp _ => false
  | .agg cs | .tup cs | .pt cs _ | .st _ _ cs | .fn _ cs => V.dryL cs
  | .iface _ v => v.dry
  | _ => true
def V.dryL : List V → Bool
  | [] => true
  | v :: vs => v.dry && V.dryL vs
end

mutual
theorem V.sh_dry (k : Nat) : ∀ v : V, v.dry = true → v.sh k = v
  | .pb .., h | .so .., h | .mp _, h => by simp [V.dry] at h
  | .agg cs, h | .tup cs, h | .pt cs _, h | .st _ _ cs, h | .fn _ cs, h => by simp only [V.dry] at h; simp only [V.sh, V.shL_dry k cs h]
  | .iface _ v, h => by simp only [V.dry] at h; simp only [V.sh, V.sh_dry k v h]
  | .any, _ | .bool _, _ | .int .., _ | .str _, _ | .nilp, _ | .sn, _ | .mn, _ | .fnil, _ | .inil, _ => by simp only [V.sh]
theorem V.shL_dry (k : Nat) : ∀ vs : List V, V.dryL vs = true → V.shL k vs = vs
  | [], _ => rfl
  | v :: vs, h => by
    simp only [V.dryL, Bool.and_eq_true] at h
    simp only [V.shL, V.sh_dry k v h.1, V.shL_dry k vs h.2]
end

theorem shL_map (k : Nat) : ∀ vs : List V, V.shL k vs = vs.map (V.sh k)
  | [] => rfl
  | v :: vs => by simp only [V.shL, List.map_cons, shL_map k vs]

theorem dryL_iff : ∀ vs : List V, V.dryL vs = true ↔ ∀ v ∈ vs, v.dry = true
  | [] => by simp [V.dryL]
  | v :: vs => by simp [V.dryL, dryL_iff vs]

mutual
theorem ofV_dry : ∀ (n : Nat) (x : Value), (ofV n x).dry = true
  | n, x => by
    unfold ofV
    split <;> first | rfl | skip
    · rename_i m cs
      simp only [V.dry, dryL_iff, List.mem_map]
      rintro v ⟨y, _, rfl⟩
      exact ofV_dry m y
    · rename_i m cs
      simp only [V.dry, dryL_iff, List.mem_map]
      rintro v ⟨y, _, rfl⟩
      exact ofV_dry m y
end

def shE (k : Nat) (p : V × V) : V × V := (p.1.sh k, p.2.sh k)

def Blk.sh (k : Nat) : Blk → Blk
  | .cells cs => .cells (cs.map (V.sh k))
  | .map es => .map (es.map (shE k))
  | .iter s p => .iter s p
  | .vac => .vac

/-- Blocks above others. -/
def St.sh (base : List Blk) (s : St) : St := ⟨base ++ s.mem.map (Blk.sh base.length), s.lo + base.length⟩

section
variable {base : List Blk} {s : St}

theorem sh_get (i : Nat) : (s.sh base).mem[i + base.length]? = (s.mem[i]?).map (Blk.sh base.length) := by
  simp only [St.sh]
  rw [List.getElem?_append_right (by omega), Nat.add_sub_cancel, List.getElem?_map]

theorem sh_len : (s.sh base).mem.length = s.mem.length + base.length := by simp [St.sh]; omega

theorem map_put {base : List Blk} {m : List Blk} {i : Nat} {b : Blk} : (base ++ m.map (Blk.sh base.length)).set (i + base.length) (b.sh base.length) = base ++ (m.set i b).map (Blk.sh base.length) := by
  rw [List.set_append_right _ _ (by omega), Nat.add_sub_cancel, List.map_set]

mutual
theorem sh_up (k i : Nat) : ∀ v : V, (v.sh k).up (i + k) = v.up i
  | .pb .. | .so .. | .mp _ => by simp only [V.sh, V.up]; congr 1; simp
  | .agg cs | .tup cs | .fn _ cs => by simp only [V.sh, V.up, shL_up k i cs]
  | .iface _ v => by simp only [V.sh, V.up, sh_up k i v]
  | .any | .bool _ | .int .. | .str _ | .nilp | .pt .. | .sn | .st .. | .mn | .fnil | .inil => by simp only [V.sh, V.up]
theorem shL_up (k i : Nat) : ∀ vs : List V, V.upL (i + k) (V.shL k vs) = V.upL i vs
  | [] => rfl
  | v :: vs => by simp only [V.shL, V.upL, sh_up k i v, shL_up k i vs]
end

mutual
theorem sh_low (k n : Nat) : ∀ v : V, (v.sh k).low (n + k) = v.low n
  | .pb .. | .so .. | .mp _ => by simp only [V.sh, V.low]; congr 1; simp
  | .agg cs | .tup cs | .fn _ cs => by simp only [V.sh, V.low, shL_low k n cs]
  | .iface _ v => by simp only [V.sh, V.low, sh_low k n v]
  | .any | .bool _ | .int .. | .str _ | .nilp | .pt .. | .sn | .st .. | .mn | .fnil | .inil => by simp only [V.sh, V.low]
theorem shL_low (k n : Nat) : ∀ vs : List V, V.lowL (n + k) (V.shL k vs) = V.lowL n vs
  | [] => rfl
  | v :: vs => by simp only [V.shL, V.lowL, sh_low k n v, shL_low k n vs]
end

mutual
theorem sh_leads (k : Nat) : ∀ v : V, (v.sh k).leads = v.leads
  | .pb .. | .so .. | .mp _ => by simp only [V.sh, V.leads]
  | .agg cs | .tup cs | .fn _ cs => by simp only [V.sh, V.leads, shL_leads k cs]
  | .iface _ v => by simp only [V.sh, V.leads, sh_leads k v]
  | .any | .bool _ | .int .. | .str _ | .nilp | .pt .. | .sn | .st .. | .mn | .fnil | .inil => by simp only [V.sh, V.leads]
theorem shL_leads (k : Nat) : ∀ vs : List V, V.leadsL (V.shL k vs) = V.leadsL vs
  | [] => rfl
  | v :: vs => by simp only [V.shL, V.leadsL, sh_leads k v, shL_leads k vs]
end

theorem sh_put {i : Nat} {b : Blk} {new : List V} : (s.sh base).put (i + base.length) (b.sh base.length) (new.map (V.sh base.length)) = (s.put i b new).sh base := by
  unfold St.put
  rw [← shL_map, shL_up]
  simp only [St.sh, map_put]
  congr 1
  by_cases h : i < s.lo
  · cases hu : V.upL i new <;> simp [h]
  · simp [h]

theorem sh_new {r : Option Nat} {b : Blk} : (s.sh base).new (r.map (· + base.length)) (b.sh base.length) = (s.new r b).map fun p => (p.1 + base.length, p.2.sh base) := by
  cases r with
  | none =>
    simp only [Option.map_none, St.new, sh_len, Option.map_some]
    simp only [St.sh, List.map_append, List.map_cons, List.map_nil, List.append_assoc]
  | some i =>
    simp only [Option.map_some, St.new, sh_get]
    cases h : s.mem[i]? with
    | none => rfl
    | some x => cases x with
      | vac =>
        simp only [Option.map_some, show Blk.sh base.length .vac = .vac from rfl]
        simp only [St.sh, map_put]
      | _ => rfl

theorem sh_live {i e : Nat} : (s.sh base).live (i + base.length) e = (s.live i e).map (List.map (V.sh base.length)) := by
  unfold St.live
  rw [sh_get]
  cases h : s.mem[i]? with
  | none => rfl
  | some x =>
    cases x <;> simp only [Option.map_some, Blk.sh, Option.map_none, List.length_map]
    split <;> rfl

theorem sh_cells (k : Nat) (v : V) : (v.sh k).cells = v.cells.map (V.sh k) := by cases v <;> simp [V.sh, V.cells, shL_map]
theorem sh_one (k : Nat) (v : V) : (v.sh k).one = v.one := by cases v <;> rfl
theorem sh_any (k : Nat) (v : V) : (v.sh k).isAny = v.isAny := by cases v <;> rfl
theorem sh_str (k : Nat) (v : V) : (v.sh k).isStr = v.isStr := by cases v <;> rfl
theorem all_one (k : Nat) (cs : List V) : (cs.map (V.sh k)).all V.one = cs.all V.one := by
  rw [List.all_map]; congr 1; funext v; exact sh_one k v
theorem sub_sh (f : V → V) (cs : List V) (off n : Nat) : sub (cs.map f) off n = (sub cs off n).map (List.map f) := by
  unfold sub
  simp only [List.length_map]
  split
  · simp [List.map_drop, List.map_take]
  · rfl
theorem over_sh (f : V → V) (cs new : List V) (off : Nat) : over (cs.map f) off (new.map f) = (over cs off new).map f := by
  simp [over, List.map_drop, List.map_take]
theorem map_agg (k : Nat) (o : Option (List V)) : (o.map (List.map (V.sh k))).map V.agg = (o.map V.agg).map (V.sh k) := by
  cases o <;> simp [V.sh, shL_map]

variable {D : Dt}

theorem readAt_sh (k : Nat) (ti : TI) (cs : List V) (off : Nat) : readAt ti (cs.map (V.sh k)) off = (readAt ti cs off).map (V.sh k) := by
  unfold readAt
  split
  · rw [sub_sh, map_agg]
  · rw [List.getElem?_map]
theorem partT_sh (k : Nat) (t : Nat) (cs : List V) (off : Nat) : partT D t (cs.map (V.sh k)) off = (partT D t cs off).map (V.sh k) := by
  unfold partT
  cases D.T t with
  | none => rfl
  | some ti => simp only; cases ti.d <;> simp only <;> first | rw [List.getElem?_map] | rw [sub_sh, map_agg]
theorem loadT_sh (t : Nat) (p : V) : loadT D (s.sh base) t (p.sh base.length) = (loadT D s t p).map (V.sh base.length) := by
  cases p <;> try rfl
  · simp only [V.sh, loadT]
    cases D.T t with
    | none => rfl
    | some ti =>
      simp only [sh_live]
      cases s.live _ _ with
      | none => rfl
      | some cs => exact readAt_sh ..
  · simp only [V.sh, loadT, shL_map]
    cases D.T t with
    | none => rfl
    | some ti => exact readAt_sh ..
theorem storeT_sh (t : Nat) (p v : V) : storeT D (s.sh base) t (p.sh base.length) (v.sh base.length) = (storeT D s t p v).map (St.sh base) := by
  cases p <;> try rfl
  simp only [V.sh, storeT]
  cases D.T t with
  | none => rfl
  | some ti =>
    simp only [sh_live]
    cases s.live _ _ with
    | none => rfl
    | some cs =>
      simp only [Option.map_some, sh_cells, List.length_map, all_one]
      split
      · rw [over_sh]
        simp only [Option.map_some]
        exact congrArg some (sh_put (b := .cells _))
      · rfl

theorem eqParts_sh (k : Nat) {f : Nat → V → V → Option Bool} (hf : ∀ t x y, f t (x.sh k) (y.sh k) = f t x y) (xs ys : List V) : ∀ l, eqParts f D (xs.map (V.sh k)) (ys.map (V.sh k)) l = eqParts f D xs ys l
  | [] => rfl
  | (t, off, b) :: l => by
    simp only [eqParts, eqParts_sh k hf xs ys l, partT_sh]
    cases b
    · simp only [Bool.false_eq_true, if_false]
      cases partT D t xs off <;> cases partT D t ys off <;> simp only [Option.map_some, Option.map_none, hf] <;> rfl
    · simp
theorem anyParts_sh (k : Nat) {f : Nat → V → V → Option Bool} (hf : ∀ t x y, f t (x.sh k) (y.sh k) = f t x y) (xs ys : List V) : ∀ l, anyParts f D (xs.map (V.sh k)) (ys.map (V.sh k)) l = anyParts f D xs ys l
  | [] => rfl
  | (t, off, b) :: l => by
    simp only [anyParts, anyParts_sh k hf xs ys l, partT_sh]
    cases b
    · simp only [Bool.false_eq_true, if_false]
      cases partT D t xs off <;> cases partT D t ys off <;> simp only [Option.map_some, Option.map_none, hf] <;> rfl
    · simp

theorem eqT_sh (k : Nat) : ∀ (d t : Nat) (x y : V), eqT D d t (x.sh k) (y.sh k) = eqT D d t x y
  | 0, _, _, _ => rfl
  | d + 1, t, x, y => by
    have ih := eqT_sh k d
    unfold eqT
    cases D.T t with
    | none => rfl
    | some ti =>
      simp only
      generalize ti.d = td
      cases td <;> cases x <;> (try rfl) <;> cases y <;> (try rfl) <;> simp only [V.sh, shL_map, ih, eqParts_sh k ih]
theorem guardT_sh (k : Nat) : ∀ (d t : Nat) (x y : V), guardT D d t (x.sh k) (y.sh k) = guardT D d t x y
  | 0, _, _, _ => rfl
  | d + 1, t, x, y => by
    have ih := guardT_sh k d
    unfold guardT
    cases D.T t with
    | none => rfl
    | some ti =>
      simp only
      generalize ti.d = td
      cases td <;> cases x <;> (try rfl) <;> cases y <;> (try rfl) <;> simp only [V.sh, shL_map, anyParts_sh k ih]
theorem guardOk_sh (k t : Nat) (cx cy : Bool) (x y : V) : guardOk D t cx cy (x.sh k) (y.sh k) = guardOk D t cx cy x y := by
  cases x <;> (try rfl) <;> cases y <;> (try rfl)
  rename_i a b
  have := guardT_sh (D := D) k Op.maxDepth t (.agg a) (.agg b)
  simp only [V.sh] at this ⊢
  simp only [guardOk, this]
end
end Go.Pe

namespace Go.Pe

structure Dry (D : Dt) : Prop where
  zero : ∀ t ti, D.T t = some ti → V.dryL ti.zero = true
  glob : ∀ g cs, D.G g = some cs → V.dryL cs = true

section
variable {D : Dt} {base : List Blk} {s : St}

def shP (base : List Blk) (p : V × St) : V × St := (p.1.sh base.length, p.2.sh base)
def shR (base : List Blk) (r : Option (V × St)) : Option (V × St) := r.map (shP base)

theorem zero_map (Y : Dry D) {t : Nat} {ti : TI} (h : D.T t = some ti) (k : Nat) : ti.zero.map (V.sh k) = ti.zero := by
  rw [← shL_map, V.shL_dry k _ (Y.zero t ti h)]

/-- Neither both numbers, nor both strings, nor is nothing known of one. -/
def ig : V → V → Bool
  | .int .., .int .. => false
  | .str _, .str _ => false
  | .any, _ => false
  | _, .any => false
  | _, _ => true
theorem ig_sh (k : Nat) (x y : V) : ig (x.sh k) (y.sh k) = ig x y := by cases x <;> cases y <;> rfl
theorem bin_e {t : Nat} {cx cy : Bool} {x y : V} (h : ig x y = true) : binT D .eql t cx cy x y = if guardOk D t cx cy x y = true then (eqT D Op.maxDepth t x y).map V.bool else none := by
  cases x <;> cases y <;> first | rfl | exact Bool.noConfusion (show false = true from h)
theorem bin_n {t : Nat} {cx cy : Bool} {x y : V} (h : ig x y = true) : binT D .neq t cx cy x y = if guardOk D t cx cy x y = true then (eqT D Op.maxDepth t x y).map (fun b => V.bool (!b)) else none := by
  cases x <;> cases y <;> first | rfl | exact Bool.noConfusion (show false = true from h)
theorem bin_o {op : BinOp} {t : Nat} {cx cy : Bool} {x y : V} (h : ig x y = true) (h1 : op ≠ .eql) (h2 : op ≠ .neq) : binT D op t cx cy x y = none := by
  cases op <;> first
    | (exact absurd rfl h1)
    | (exact absurd rfl h2)
    | (cases x <;> cases y <;> first | rfl | exact Bool.noConfusion (show false = true from h))

theorem binT_sh (k : Nat) (op : BinOp) (t : Nat) (cx cy : Bool) (x y : V) : binT D op t cx cy (x.sh k) (y.sh k) = (binT D op t cx cy x y).map (V.sh k) := by
  have h1 : ∀ (o : Option Bool), (o.map V.bool).map (V.sh k) = o.map V.bool := fun o => by cases o <;> rfl
  have h2 : ∀ (o : Option Bool), (o.map (fun b => V.bool (!b))).map (V.sh k) = o.map (fun b => V.bool (!b)) := fun o => by cases o <;> rfl
  have hint : ∀ (o : BinOp) (j : IntKind) (a b : Int), (wrapOp o j a b).map (V.sh k) = wrapOp o j a b := fun o j a b => by cases o <;> simp only [wrapOp] <;> (try split) <;> rfl
  have he := eqT_sh (D := D) k Op.maxDepth t x y
  have hg := guardOk_sh (D := D) k t cx cy x y
  have gen_e : ∀ x y : V, (if guardOk D t cx cy (x.sh k) (y.sh k) = true then (eqT D Op.maxDepth t (x.sh k) (y.sh k)).map V.bool else none) = (if guardOk D t cx cy x y = true then (eqT D Op.maxDepth t x y).map V.bool else none).map (V.sh k) := fun x y => by
    rw [guardOk_sh, eqT_sh]; split <;> first | exact (h1 _).symm | rfl
  have gen_n : ∀ x y : V, (if guardOk D t cx cy (x.sh k) (y.sh k) = true then (eqT D Op.maxDepth t (x.sh k) (y.sh k)).map (fun b => V.bool (!b)) else none) = (if guardOk D t cx cy x y = true then (eqT D Op.maxDepth t x y).map (fun b => V.bool (!b)) else none).map (V.sh k) := fun x y => by
    rw [guardOk_sh, eqT_sh]; split <;> first | exact (h2 _).symm | rfl
  have ints : ∀ j a j' b, binT D op t cx cy (.int j a) (.int j' b) = (binT D op t cx cy (.int j a) (.int j' b)).map (V.sh k) := fun j a j' b => by
    cases op <;> simp only [binT] <;> split <;> first | rfl | exact (hint _ _ _ _).symm
  have strs : ∀ a b, binT D op t cx cy (.str a) (.str b) = (binT D op t cx cy (.str a) (.str b)).map (V.sh k) := fun a b => by
    cases op <;> simp only [binT] <;> (try split) <;> first | rfl | exact (gen_e (.str a) (.str b)) | exact (gen_n (.str a) (.str b))
  cases hi : ig x y with
  | true =>
    have hi' : ig (x.sh k) (y.sh k) = true := by rw [ig_sh]; exact hi
    cases op with
    | eql => rw [bin_e hi, bin_e hi']; exact gen_e x y
    | neq => rw [bin_n hi, bin_n hi']; exact gen_n x y
    | _ => rw [bin_o hi (by intro h; cases h) (by intro h; cases h), bin_o hi' (by intro h; cases h) (by intro h; cases h)]; rfl
  | false =>
    cases x <;> cases y <;> first
      | exact Bool.noConfusion (show true = false from hi)
      | exact ints _ _ _ _
      | exact strs _ _
      | (cases op <;> rfl)

theorem unT_sh (k : Nat) (op : UnOp) (x : V) : unT op (x.sh k) = (unT op x).map (V.sh k) := by
  cases op <;> cases x <;> rfl

theorem srcT_sh (sz : Nat) (x : V) : srcT (s.sh base) sz (x.sh base.length) = (srcT s sz x).map fun p => (p.1, p.2.map (V.sh base.length)) := by
  cases x <;> try rfl
  · simp only [V.sh, srcT]
    split
    · simp only [Option.map_some, List.map_map]
      rfl
    · rfl
  · simp only [V.sh, srcT, shL_map, List.length_map]
    split <;> rfl
  · simp only [V.sh, srcT]
    split
    · rw [sh_live]
      cases s.live _ _ with
      | none => rfl
      | some cs =>
        simp only [Option.map_some, sub_sh]
        cases sub cs _ _ <;> rfl
    · rfl

theorem bytesL_sh (k : Nat) : ∀ cs : List V, bytesL (cs.map (V.sh k)) = bytesL cs
  | [] => rfl
  | v :: vs => by
    simp only [List.map_cons, bytesL, bytesL_sh k vs]
    have : byte? (v.sh k) = byte? v := by cases v <;> rfl
    rw [this]

theorem convT_sh (src dst : Nat) (x : V) : convT D (s.sh base) src dst (x.sh base.length) = (convT D s src dst x).map (V.sh base.length) := by
  unfold convT
  cases D.T src with
  | none => rfl
  | some a =>
    cases D.T dst with
    | none => rfl
    | some b =>
      simp only
      generalize ha : a.d = da
      generalize hb : b.d = db
      have slice : ∀ e (x : V), (if (x.sh base.length).isStr = true then none else match D.T e with
          | some te => if (decide (te.d = TD.int .u8) && te.size == 1) = true then match srcT (s.sh base) 1 (x.sh base.length) with
              | some (_, cs) => (bytesL cs).map V.str
              | none => none
            else none
          | none => none) = (if x.isStr = true then none else match D.T e with
          | some te => if (decide (te.d = TD.int .u8) && te.size == 1) = true then match srcT s 1 x with
              | some (_, cs) => (bytesL cs).map V.str
              | none => none
            else none
          | none => none).map (V.sh base.length) := fun e x => by
        rw [sh_str, srcT_sh]
        split
        · rfl
        · cases D.T e with
          | none => rfl
          | some te =>
            simp only
            split
            · cases srcT s 1 x with
              | none => rfl
              | some p =>
                simp only [Option.map_some, bytesL_sh]
                cases bytesL p.2 <;> rfl
            · rfl
      cases da <;> cases db <;> first
        | rfl
        | (cases x <;> rfl)
        | skip
      rename_i e
      have := slice e x
      simp only [beq_iff_eq, Bool.and_eq_true, decide_eq_true_eq] at this ⊢
      exact this

theorem fillT_sh (k : Nat) (place : Nat → Option (Nat × Nat)) : ∀ (l : List (Nat × V)) (cells : List V), fillT place (cells.map (V.sh k)) (l.map fun p => (p.1, p.2.sh k)) = (fillT place cells l).map (List.map (V.sh k))
  | [], _ => rfl
  | (i, v) :: l, cells => by
    simp only [List.map_cons, fillT]
    cases place i with
    | none => rfl
    | some p =>
      simp only [sh_cells, List.length_map, sh_any]
      split
      · rw [over_sh, fillT_sh k place l]
      · rfl

theorem buildT_sh (Y : Dry D) (k t : Nat) (l : List (Nat × V)) : buildT D t (l.map fun p => (p.1, p.2.sh k)) = (buildT D t l).map (V.sh k) := by
  unfold buildT
  cases h : D.T t with
  | none => rfl
  | some ti =>
    have hz := zero_map Y h k
    simp only
    cases ti.d <;> simp only
    all_goals first
      | rfl
      | (have := fillT_sh k (placeS D (by assumption)) l ti.zero; rw [hz] at this; rw [this, map_agg])
      | (split <;> first | rfl | (rename_i te hte; have := fillT_sh k (fun i => some (i * te.size, te.size)) l ti.zero; rw [hz] at this; rw [this, map_agg]))

theorem reps_sh (k : Nat) (z : List V) (h : z.map (V.sh k) = z) : ∀ n, (reps z n).map (V.sh k) = reps z n
  | 0 => rfl
  | n + 1 => by simp only [reps, List.map_append, h, reps_sh k z h n]

theorem sl_T {D : Dt} {t e : Nat} {te : TI} (h : D.sl t = some (e, te)) : D.T e = some te := by
  unfold Dt.sl at h
  split at h
  · split at h
    · split at h
      · rename_i hte
        cases h
        exact hte
      · cases h
    · cases h
  · cases h

theorem buildSliceT_sh (Y : Dry D) (r : Option Nat) (t n : Nat) (l : List (Nat × V)) : buildSliceT D (s.sh base) (r.map (· + base.length)) t n (l.map fun p => (p.1, p.2.sh base.length)) = shR base (buildSliceT D s r t n l) := by
  unfold buildSliceT
  cases h : D.sl t with
  | none => rfl
  | some p =>
    obtain ⟨e, te⟩ := p
    simp only
    split
    · have := fillT_sh base.length (fun i => some (i * te.size, te.size)) l (reps te.zero n)
      rw [reps_sh _ _ (zero_map Y (sl_T h) _)] at this
      rw [this]
      cases fillT _ (reps te.zero n) l with
      | none => rfl
      | some cs =>
        simp only [Option.map_some, ← shL_map, shL_leads]
        split
        · rw [shL_map]
          have := sh_new (s := s) (base := base) (r := r) (b := .cells cs)
          simp only [Blk.sh] at this
          rw [this]
          cases s.new r (.cells cs) <;> simp [shR, shP, V.sh]
        · simp [shR, shP, V.sh]
    · rfl

theorem makeSliceT_sh (Y : Dry D) (r : Option Nat) (t : Nat) (l c : V) : makeSliceT D (s.sh base) (r.map (· + base.length)) t (l.sh base.length) (c.sh base.length) = shR base (makeSliceT D s r t l c) := by
  unfold makeSliceT
  cases h : D.sl t with
  | none => rfl
  | some p =>
    obtain ⟨e, te⟩ := p
    cases l <;> (try rfl) <;> cases c <;> (try rfl)
    simp only [V.sh]
    split
    · have := fun n => sh_new (s := s) (base := base) (r := r) (b := .cells (reps te.zero n))
      simp only [Blk.sh, reps_sh _ _ (zero_map Y (sl_T h) _)] at this
      rw [this]
      cases s.new r _ <;> simp [shR, shP, V.sh]
    · rfl

theorem plus_sh (k off : Nat) (p : V) : (p.sh k).plus off = (p.plus off).map (V.sh k) := by cases p <;> rfl
theorem fieldT_sh (k t : Nat) (p : V) (f : Nat) : fieldT D t (p.sh k) f = (fieldT D t p f).map (V.sh k) := by
  unfold fieldT
  cases D.fld t f with
  | none => rfl
  | some q =>
    obtain ⟨ft, off⟩ := q
    simp only
    cases D.T ft with
    | none => rfl
    | some tf =>
      simp only
      split
      · rfl
      · exact plus_sh ..
theorem elem_sh (k sz : Nat) (i : Int) (x : V) : (x.sh k).elem sz i = (x.elem sz i).map (V.sh k) := by
  cases x <;> (try rfl) <;> simp only [V.sh, V.elem, shL_map, List.length_map] <;> split <;> first | rfl | simp [V.sh, shL_map]
theorem indexAddrT_sh (k t : Nat) (x i : V) : indexAddrT D t (x.sh k) (i.sh k) = (indexAddrT D t x i).map (V.sh k) := by
  cases i <;> try rfl
  simp only [V.sh, indexAddrT]
  cases D.sl t with
  | some p => exact elem_sh ..
  | none =>
    simp only
    cases D.ar t with
    | none => rfl
    | some p =>
      simp only
      split
      · exact plus_sh ..
      · rfl
theorem indexT_sh (k t : Nat) (x i : V) : indexT D t (x.sh k) (i.sh k) = (indexT D t x i).map (V.sh k) := by
  cases x <;> (try rfl) <;> cases i <;> (try rfl)
  · simp only [V.sh, indexT]
    split
    · rw [Option.map_map]; rfl
    · rfl
  · simp only [V.sh, indexT, shL_map]
    cases D.ar t with
    | none => rfl
    | some p =>
      simp only
      split
      · exact partT_sh ..
      · rfl

theorem getB_sh (k : Nat) (v : Option V) (d : Option Nat) : getB (v.map (V.sh k)) d = getB v d := by
  cases v with
  | none => rfl
  | some v => cases v <;> rfl
theorem boundsT_sh (k len most : Nat) (lo hi mx : Option V) : boundsT len most (lo.map (V.sh k)) (hi.map (V.sh k)) (mx.map (V.sh k)) = boundsT len most lo hi mx := by
  simp only [boundsT, getB_sh, Option.isSome_map]
theorem live_isSome {i e : Nat} : ((s.sh base).live (i + base.length) e).isSome = (s.live i e).isSome := by rw [sh_live, Option.isSome_map]
theorem sliceT_sh (t : Nat) (x : V) (lo hi mx : Option V) : sliceT D (s.sh base) t (x.sh base.length) (lo.map (V.sh base.length)) (hi.map (V.sh base.length)) (mx.map (V.sh base.length)) = (sliceT D s t x lo hi mx).map (V.sh base.length) := by
  cases x <;> try rfl
  · simp only [V.sh, sliceT, boundsT_sh]
    split
    · split <;> rfl
    · rfl
  · simp only [V.sh, sliceT, boundsT_sh, live_isSome]
    cases D.ar t with
    | none => rfl
    | some p =>
      simp only
      split
      · split <;> rfl
      · rfl
  · simp only [V.sh, sliceT, boundsT_sh]
    split <;> rfl
  · simp only [V.sh, sliceT, boundsT_sh, shL_map, List.length_map]
    cases D.sl t with
    | none => rfl
    | some p =>
      rename_i n _
      cases boundsT n n lo hi mx with
      | none => rfl
      | some q =>
        obtain ⟨a, b, m⟩ := q
        simp only
        split
        · simp [V.sh, shL_map, List.map_drop, List.map_take]
        · rfl
  · simp only [V.sh, sliceT, boundsT_sh]
    cases D.sl t with
    | none => rfl
    | some p =>
      rename_i n _
      cases boundsT n n lo hi mx with
      | none => rfl
      | some q =>
        obtain ⟨a, b, m⟩ := q
        cases m with
        | some m => rfl
        | none =>
          simp only
          split <;> rfl

theorem keyParts_sh (k : Nat) {f : Nat → V → Bool} (hf : ∀ t x, f t (x.sh k) = f t x) (cs : List V) : ∀ l, keyParts f D (cs.map (V.sh k)) l = keyParts f D cs l
  | [] => rfl
  | (t, off, b) :: l => by
    simp only [keyParts, keyParts_sh k hf cs l, partT_sh]
    cases partT D t cs off <;> simp [hf]
theorem keyT_sh (k : Nat) : ∀ (d t : Nat) (x : V), keyT D d t (x.sh k) = keyT D d t x
  | 0, _, _ => rfl
  | d + 1, t, x => by
    have ih := keyT_sh k d
    unfold keyT
    cases D.T t with
    | none => rfl
    | some ti =>
      simp only
      generalize ti.d = td
      cases td <;> cases x <;> (try rfl) <;> simp only [V.sh, shL_map, keyParts_sh k ih]
theorem same_sh (k : Nat) : ∀ (n : Nat) (x y : V), V.same n (x.sh k) (y.sh k) = V.same n x y
  | 0, x, y => by cases x <;> (try rfl) <;> cases y <;> rfl
  | n + 1, x, y => by
    have ih := same_sh k n
    have l : ∀ a b : List V, sameL (V.same n) (a.map (V.sh k)) (b.map (V.sh k)) = sameL (V.same n) a b := fun a => by
      induction a with
      | nil => intro b; cases b <;> rfl
      | cons v a iha => intro b; cases b with
        | nil => rfl
        | cons w b => simp only [List.map_cons, sameL, ih, iha]
    cases x <;> (try rfl) <;> cases y <;> (try rfl)
    simp only [V.sh, shL_map, V.same, l]
theorem findT_sh (k t : Nat) (x : V) : ∀ (es : List (V × V)) (i : Nat), findT D t (x.sh k) (es.map (shE k)) i = (findT D t x es i).map (Option.map fun p => (p.1, p.2.sh k))
  | [], _ => rfl
  | (a, v) :: es, i => by
    simp only [List.map_cons, shE, findT, eqT_sh]
    cases eqT D Op.maxDepth t x a with
    | none => rfl
    | some b => cases b <;> first | rfl | exact findT_sh k t x es (i + 1)
theorem zeroT_sh (Y : Dry D) (k t : Nat) : (zeroT D t).map (V.sh k) = zeroT D t := by
  unfold zeroT
  cases h : D.T t with
  | none => rfl
  | some ti =>
    have hz := zero_map Y h k
    simp only
    split
    · simp [V.sh, shL_map, hz]
    · split
      · rename_i v hv
        rw [hv] at hz
        simpa using hz
      · rfl
theorem lookV_sh (Y : Dry D) (k kt et : Nat) (x : V) (ok : Bool) (es : List (V × V)) : lookV D kt et (x.sh k) ok (es.map (shE k)) = (lookV D kt et x ok es).map (V.sh k) := by
  unfold lookV
  rw [keyT_sh, findT_sh]
  split
  · cases findT D kt x es 0 with
    | none => rfl
    | some p =>
      cases p with
      | none =>
        have hz := zeroT_sh Y k et
        simp only [Option.map_some, Option.map_none]
        cases hzz : zeroT D et with
        | none => rfl
        | some v =>
          rw [hzz] at hz
          simp only [Option.map_some, Option.some.injEq] at hz
          cases ok <;> simp [V.sh, V.shL, hz]
      | some p => cases ok <;> simp [V.sh, V.shL]
  · rfl
theorem lookupT_sh (Y : Dry D) (t : Nat) (m x : V) (ok : Bool) : lookupT D (s.sh base) t (m.sh base.length) (x.sh base.length) ok = (lookupT D s t m x ok).map (V.sh base.length) := by
  unfold lookupT
  cases D.mp t with
  | none => rfl
  | some p =>
    simp only
    cases m <;> try rfl
    · simp only [V.sh]
      exact lookV_sh Y base.length p.1 p.2 x ok []
    · rename_i i
      simp only [V.sh, sh_get]
      cases s.mem[i]? with
      | none => rfl
      | some b => cases b <;> simp only [Option.map_some, Blk.sh, Option.map_none] <;> exact lookV_sh Y ..
theorem updateT_sh (t : Nat) (m x v : V) : updateT D (s.sh base) t (m.sh base.length) (x.sh base.length) (v.sh base.length) = (updateT D s t m x v).map (St.sh base) := by
  unfold updateT
  cases D.mp t with
  | none => rfl
  | some p =>
    cases m <;> try rfl
    rename_i i
    simp only [V.sh, sh_get]
    cases s.mem[i]? with
    | none => rfl
    | some b =>
      cases b <;> simp only [Option.map_some, Blk.sh, Option.map_none]
      rename_i es
      rw [keyT_sh, sh_any, findT_sh]
      split
      · cases findT D p.1 x es 0 with
        | none => rfl
        | some q =>
          cases q with
          | none =>
            simp only [Option.map_some, Option.map_none]
            have := sh_put (s := s) (base := base) (i := i) (b := .map (es ++ [(x, v)])) (new := [x, v])
            simp only [Blk.sh, List.map_append, List.map_cons, List.map_nil, shE] at this
            rw [this]
          | some q =>
            obtain ⟨j, w⟩ := q
            simp only [Option.map_some, List.getElem?_map]
            cases es[j]? with
            | none => rfl
            | some e =>
              obtain ⟨a, c⟩ := e
              simp only [Option.map_some, shE, same_sh]
              split
              · have := sh_put (s := s) (base := base) (i := i) (b := .map (es.set j (x, v))) (new := [x, v])
                simp only [Blk.sh, List.map_set, List.map_cons, List.map_nil, shE] at this
                simp only [Option.map_some, this]
              · rfl
      · rfl
theorem nextT_sh (p : V) : nextT (s.sh base) (p.sh base.length) = shR base (nextT s p) := by
  cases p <;> try rfl
  rename_i i e off
  cases off with
  | succ n => rfl
  | zero =>
    simp only [V.sh, nextT, sh_get]
    cases s.mem[i]? with
    | none => rfl
    | some b =>
      cases b <;> simp only [Option.map_some, Blk.sh, shR, Option.map_none]
      rename_i l pos
      split
      · simp only [Option.map_some, shP, V.sh, V.shL]
        have := map_put (base := base) (m := s.mem) (i := i) (b := .iter l (pos + (Utf8.decode ⟨l.toArray⟩ pos).2))
        simp only [Blk.sh] at this
        simp only [St.sh, this]
      · rfl
theorem assertT_sh (Y : Dry D) (k t : Nat) (ok : Bool) (x : V) : assertT D t ok (x.sh k) = (assertT D t ok x).map (V.sh k) := by
  unfold assertT
  have hz := zeroT_sh Y k t
  cases D.T t with
  | none => rfl
  | some ti =>
    have zz : (zeroT D t).map (fun z => V.tup [z, .bool false]) = ((zeroT D t).map (fun z => V.tup [z, .bool false])).map (V.sh k) := by
      cases hzz : zeroT D t with
      | none => rfl
      | some v =>
        rw [hzz] at hz
        simp only [Option.map_some, Option.some.injEq] at hz
        simp [V.sh, V.shL, hz]
    cases x <;> try rfl
    · simp only [V.sh]
      split
      · rfl
      · split
        · cases ok <;> simp [V.sh, V.shL]
        · split
          · exact zz
          · rfl
    · simp only [V.sh]
      split
      · exact zz
      · rfl
theorem lenT_sh (t : Nat) (x : V) : lenT D (s.sh base) t (x.sh base.length) = (lenT D s t x).map (V.sh base.length) := by
  unfold lenT
  cases D.T t with
  | none => rfl
  | some ti =>
    simp only
    generalize ti.d = td
    cases td <;> cases x <;> (try rfl) <;> simp only [V.sh, sh_live, sh_get]
    · cases s.live _ _ <;> rfl
    · rename_i i
      cases s.mem[i]? with
      | none => rfl
      | some b => cases b <;> simp [Blk.sh, V.sh]
theorem appendT_sh (r : Option Nat) (ts tx : Option Nat) (a x : V) : appendT D (s.sh base) (r.map (· + base.length)) ts tx (a.sh base.length) (x.sh base.length) = shR base (appendT D s r ts tx a x) := by
  unfold appendT
  cases ts with
  | none => rfl
  | some t =>
    simp only
    cases D.sl t with
    | none => rfl
    | some p =>
      obtain ⟨e, te⟩ := p
      simp only
      split
      · rfl
      · rw [srcT_sh]
        cases srcT s te.size x with
        | none => rfl
        | some q =>
          obtain ⟨n, xs⟩ := q
          simp only [Option.map_some, all_one]
          split
          · rfl
          · have nw : ∀ cs : List V, (s.sh base).new (r.map (· + base.length)) (.cells (cs.map (V.sh base.length))) = (s.new r (.cells cs)).map fun p => (p.1 + base.length, p.2.sh base) := fun cs => sh_new (b := .cells cs)
            cases a <;> try rfl
            · simp only [V.sh]
              split
              · rfl
              · split
                · rw [nw]
                  cases s.new r _ <;> simp [shR, shP, V.sh]
                · rfl
            · simp only [V.sh, shL_map, List.length_map]
              split
              · simp [shR, shP, V.sh, shL_map]
              · split
                · rw [← List.map_append, nw]
                  cases s.new r _ <;> simp [shR, shP, V.sh]
                · rfl
            · simp only [V.sh, sh_live]
              cases s.live _ _ with
              | none => rfl
              | some cs =>
                simp only [Option.map_some]
                split
                · split
                  · rfl
                  · simp only [List.length_map, shR, Option.map_some, shP, V.sh]
                    rw [← List.map_append]
                    exact congrArg some (Prod.ext rfl (sh_put (b := .cells (cs ++ xs))))
                · rfl
theorem copyT_sh (ts : Option Nat) (a x : V) : copyT D (s.sh base) ts (a.sh base.length) (x.sh base.length) = shR base (copyT D s ts a x) := by
  unfold copyT
  cases ts with
  | none => rfl
  | some t =>
    simp only
    cases D.sl t with
    | none => rfl
    | some p =>
      obtain ⟨e, te⟩ := p
      simp only
      split
      · rfl
      · rw [srcT_sh]
        cases srcT s te.size x with
        | none => rfl
        | some q =>
          obtain ⟨n, xs⟩ := q
          simp only [Option.map_some]
          cases a <;> try rfl
          simp only [V.sh, sh_live]
          cases s.live _ _ with
          | none => rfl
          | some cs =>
            simp only [Option.map_some, ← List.map_take, all_one, List.length_map]
            split
            · simp only [shR, Option.map_some, shP, V.sh, over_sh]
              exact congrArg some (Prod.ext rfl (sh_put (b := .cells _)))
            · rfl
theorem foldI_sh (b : Nat) (f : Int → Int → Int) (k : IntKind) : ∀ (l : List V) (a : Int), foldI f k a (l.map (V.sh b)) = (foldI f k a l).map (V.sh b)
  | [], _ => rfl
  | v :: l, a => by
    cases v <;> try rfl
    simp only [List.map_cons, V.sh, foldI]
    split
    · exact foldI_sh b f k l _
    · rfl
theorem minmaxT_sh (b : Nat) (f : Int → Int → Int) (l : List V) : minmaxT f (l.map (V.sh b)) = (minmaxT f l).map (V.sh b) := by
  cases l with
  | nil => rfl
  | cons v l =>
    cases v <;> try rfl
    exact foldI_sh b f _ l _
theorem map_pair (o : Option V) : (o.map (V.sh base.length)).map (·, s.sh base) = shR base (o.map (·, s)) := by cases o <;> rfl
theorem builtinT_sh (r : Option Nat) (b : Builtin) (ts : Array TypeId) (args : List V) : builtinT D (s.sh base) (r.map (· + base.length)) b ts (args.map (V.sh base.length)) = shR base (builtinT D s r b ts args) := by
  cases b <;> try rfl
  · match args with
    | [] => rfl
    | [_] => rfl
    | [a, x] => exact appendT_sh ..
    | _ :: _ :: _ :: _ => rfl
  · match args with
    | [] => rfl
    | [_] => rfl
    | [a, x] => exact copyT_sh ..
    | _ :: _ :: _ :: _ => rfl
  · match args with
    | [] => rfl
    | [x] =>
      simp only [List.map_cons, List.map_nil, builtinT]
      cases ts[0]? with
      | none => rfl
      | some t => simp only; rw [lenT_sh, map_pair]
    | _ :: _ :: _ => rfl
  · simp only [builtinT, minmaxT_sh, map_pair]
  · simp only [builtinT, minmaxT_sh, map_pair]

/-- Slots above. -/
def Env.sh (k : Nat) (ρ : Env) : Env := fun t => (ρ t).sh k

theorem ev_sh (Y : Dry D) (k : Nat) (ρ : Env) (x : Operand) : (ρ.sh k).ev D x = (ρ.ev D x).sh k := by
  cases x with
  | tmp t => rfl
  | const v => exact (V.sh_dry k _ (ofV_dry 2 v)).symm
  | global g =>
    simp only [Env.ev]
    cases h : D.G g with
    | none => rfl
    | some cs => simp only [V.sh, V.shL_dry k cs (Y.glob g cs h)]
  | func f => rfl

theorem ev_map (Y : Dry D) (k : Nat) (ρ : Env) (l : List Operand) : l.map ((ρ.sh k).ev D) = (l.map (ρ.ev D)).map (V.sh k) := by
  rw [List.map_map]; congr 1; funext x; exact ev_sh Y k ρ x
theorem ev_opt (Y : Dry D) (k : Nat) (ρ : Env) (o : Option Operand) : o.map ((ρ.sh k).ev D) = (o.map (ρ.ev D)).map (V.sh k) := by
  cases o <;> simp [ev_sh Y]
theorem ev_parts (Y : Dry D) (k : Nat) (ρ : Env) (l : List (Nat × Operand)) : l.map (fun (i, x) => (i, (ρ.sh k).ev D x)) = (l.map fun (i, x) => (i, ρ.ev D x)).map fun p => (p.1, p.2.sh k) := by
  rw [List.map_map]; congr 1; funext p; obtain ⟨i, x⟩ := p; simp only [ev_sh Y]; rfl

theorem opT_sh (Y : Dry D) (ρ : Env) (o : Oper) (q : Option Nat) : opT D (ρ.sh base.length) o (q.map (· + base.length)) (s.sh base) = shR base (opT D ρ o q s) := by
  obtain ⟨dst, op, type, pos, after, guard⟩ := o
  have nw : ∀ (b : Blk) (f : Nat → V) (g : Nat → V), (∀ i, g (i + base.length) = (f i).sh base.length) → b.sh base.length = b → ((s.sh base).new (q.map (· + base.length)) b).map (fun p => (g p.1, p.2)) = shR base ((s.new q b).map fun p => (f p.1, p.2)) := fun b f g h hb => by
    have := sh_new (s := s) (base := base) (r := q) (b := b)
    rw [hb] at this
    rw [this]
    cases s.new q b <;> simp [shR, shP, h]
  cases op <;> try rfl
  · simp only [opT, ev_sh Y]; rfl
  · simp only [opT, ev_sh Y]; rfl
  · rename_i c a b
    simp only [opT, ev_sh Y]
    cases ρ.ev D c <;> try rfl
    rename_i t
    cases t <;> rfl
  · rename_i t
    simp only [opT]
    cases h : D.T t with
    | none => rfl
    | some ti => exact nw (.cells ti.zero) (fun i => .pb i ti.zero.length 0) (fun i => .pb i ti.zero.length 0) (fun i => rfl) (by simp only [Blk.sh, zero_map Y h])
  · rename_i t x
    simp only [opT, ev_sh Y]
    generalize ρ.ev D x = v
    have gen : ((s.sh base).new (q.map (· + base.length)) (.cells (v.sh base.length).cells)).map (fun p => (V.pb p.1 (v.sh base.length).cells.length 0, p.2)) = shR base ((s.new q (.cells v.cells)).map fun p => (V.pb p.1 v.cells.length 0, p.2)) := by
      have := sh_new (s := s) (base := base) (r := q) (b := .cells v.cells)
      simp only [Blk.sh, ← sh_cells] at this
      rw [this, sh_cells, List.length_map]
      cases s.new q _ <;> simp [shR, shP, V.sh]
    cases v <;> first | rfl | exact gen
  · simp only [opT, ev_parts Y, buildT_sh Y, map_pair]
  · simp only [opT, ev_parts Y, buildSliceT_sh Y]
  · rename_i t m k v
    simp only [opT, ev_sh Y, updateT_sh]
    cases updateT D s t (ρ.ev D m) (ρ.ev D k) (ρ.ev D v) <;> rfl
  · simp only [opT, ev_sh Y, loadT_sh, map_pair]
  · rename_i t a x
    simp only [opT, ev_sh Y, storeT_sh]
    cases storeT D s t (ρ.ev D a) (ρ.ev D x) <;> rfl
  · rename_i x
    simp only [opT, ev_sh Y]
    cases ρ.ev D x <;> rfl
  · simp only [opT, ev_sh Y, binT_sh, map_pair]
  · simp only [opT, ev_sh Y, unT_sh, map_pair]
  · simp only [opT, ev_sh Y, convT_sh, map_pair]
  · rename_i t x
    simp only [opT, ev_sh Y]
    cases D.T t with
    | none => rfl
    | some ti => simp only; split <;> rfl
  · rename_i f first cap
    cases f <;> try rfl
    simp only [opT, ev_map Y]
    split
    · simp only [shR, shP, Option.map_some, V.sh, shL_map]
    · rfl
  · rename_i t r
    cases r <;> try rfl
    exact nw (.map []) (fun i => .mp i) (fun i => .mp i) (fun i => rfl) rfl
  · simp only [opT, ev_sh Y, makeSliceT_sh Y]
  · simp only [opT, ev_sh Y, ev_opt Y, sliceT_sh, map_pair]
  · simp only [opT, ev_sh Y, fieldT_sh, map_pair]
  · rename_i t x f
    simp only [opT, ev_sh Y]
    cases D.fld t f with
    | none => rfl
    | some p =>
      cases ρ.ev D x <;> try rfl
      simp only [V.sh, shL_map, partT_sh, map_pair]
  · simp only [opT, ev_sh Y, indexAddrT_sh, map_pair]
  · simp only [opT, ev_sh Y, indexT_sh, map_pair]
  · simp only [opT, ev_sh Y, lookupT_sh Y, map_pair]
  · rename_i t m k v
    simp only [opT, ev_sh Y, updateT_sh]
    cases updateT D s t (ρ.ev D m) (ρ.ev D k) (ρ.ev D v) <;> rfl
  · rename_i t x
    simp only [opT, ev_sh Y]
    cases ρ.ev D x <;> try rfl
    simp only [V.sh]
    split
    · exact nw (.iter _ 0) (fun i => .pb i 0 0) (fun i => .pb i 0 0) (fun i => rfl) rfl
    · rfl
  · rename_i p b
    cases b <;> try rfl
    simp only [opT, ev_sh Y, nextT_sh]
  · simp only [opT, ev_sh Y, assertT_sh Y, map_pair]
  · rename_i x i
    simp only [opT, ev_sh Y]
    cases ρ.ev D x <;> try rfl
    simp only [V.sh, shL_map, List.getElem?_map, map_pair]
  · rename_i c
    obtain ⟨callee, args, ts⟩ := c
    cases callee <;> try rfl
    simp only [opT, ev_map Y, builtinT_sh]
end
end Go.Pe

namespace Go.Pe
section
variable {D : Dt} {base : List Blk}

theorem wanted_sh (k : Nat) (ρ : Env) (ops : Array Oper) (o : Oper) : wantedT (ρ.sh k) ops o = wantedT ρ ops o := by
  unfold wantedT
  split
  · rfl
  · split
    · rfl
    · simp only [Env.sh]
      cases ρ _ <;> rfl

theorem callT_sh (Y : Dry D) (k : Nat) (ρ : Env) (o : Oper) : callT D (ρ.sh k) o = (callT D ρ o).map fun p => (p.1, p.2.map (V.sh k)) := by
  obtain ⟨dst, op, type, pos, after, guard⟩ := o
  cases op <;> try rfl
  rename_i c
  obtain ⟨callee, args, ts⟩ := c
  cases callee <;> try rfl
  simp only [callT, ev_sh Y, ev_map Y]
  cases ρ.ev D _ <;> try rfl
  simp only [V.sh, Option.map_some, shL_map, List.map_append]

theorem slot_sh (ops : Array Oper) (b : Option Nat) (i k : Nat) : slot ops (b.map (· + k)) i = (slot ops b i).map (· + k) := by
  unfold slot
  cases ops[i]? with
  | none => rfl
  | some o =>
    simp only
    split
    · cases b <;> simp; omega
    · rfl

theorem pad_sh (s : St) (ops : Array Oper) : (s.sh base).pad ops = (s.pad ops).sh base := by
  simp only [St.pad, St.sh, List.map_append, List.append_assoc, List.map_replicate, Blk.sh]

theorem put_sh (k : Nat) (ρ : Env) (d : Option Tmp) (v : V) : (ρ.sh k).put d (v.sh k) = (ρ.put d v).sh k := by
  cases d with
  | none => rfl
  | some d =>
    funext t
    simp only [Env.put, Env.sh]
    split <;> rfl

theorem entry_sh (k : Nat) (args : List V) : entry (args.map (V.sh k)) = (entry args).sh k := by
  funext t
  simp only [entry, Env.sh, List.getD_eq_getElem?_getD, List.getElem?_map]
  cases args[t]? <;> rfl

mutual
theorem stillW_sh (k : Nat) {g g' : Nat → Nat → Nat → Nat → Nat → Option V} (hg : ∀ i e o m z, g' (i + k) e o m z = (g i e o m z).map (V.sh k)) : ∀ v : V, V.stillW g' (v.sh k) = (V.stillW g v).map (V.sh k)
  | .pb .. | .mp _ | .any => by simp only [V.sh, V.stillW, Option.map_none]
  | .so i e o m z => by simp only [V.sh, V.stillW, hg]
  | .agg cs => by
    simp only [V.sh, V.stillW, stillL_sh k hg cs]
    cases V.stillL g cs <;> simp [V.sh]
  | .tup cs => by
    simp only [V.sh, V.stillW, stillL_sh k hg cs]
    cases V.stillL g cs <;> simp [V.sh]
  | .fn f cs => by
    simp only [V.sh, V.stillW, stillL_sh k hg cs]
    cases V.stillL g cs <;> simp [V.sh]
  | .iface t v => by
    simp only [V.sh, V.stillW, stillW_sh k hg v]
    cases V.stillW g v <;> simp [V.sh]
  | .bool _ | .int .. | .str _ | .nilp | .pt .. | .sn | .st .. | .mn | .fnil | .inil => by simp only [V.sh, V.stillW, Option.map_some]
theorem stillL_sh (k : Nat) {g g' : Nat → Nat → Nat → Nat → Nat → Option V} (hg : ∀ i e o m z, g' (i + k) e o m z = (g i e o m z).map (V.sh k)) : ∀ vs : List V, V.stillL g' (V.shL k vs) = (V.stillL g vs).map (V.shL k)
  | [] => rfl
  | v :: vs => by
    simp only [V.shL, V.stillL, stillW_sh k hg v, stillL_sh k hg vs]
    cases V.stillW g v with
    | none => rfl
    | some w => cases V.stillL g vs <;> simp [V.shL]
end

theorem stillG_sh (s : St) (n : Nat) : ∀ d i e o m z, stillG (n + base.length) (s.sh base).mem d (i + base.length) e o m z = (stillG n s.mem d i e o m z).map (V.sh base.length)
  | 0, _, _, _, _, _ => rfl
  | d + 1, i, e, o, m, z => by
    simp only [stillG, sh_get]
    by_cases hn : n ≤ i
    · rw [if_pos hn, if_pos (by omega)]
      cases s.mem[i]? with
      | none => rfl
      | some b =>
        cases b <;> simp only [Option.map_some, Blk.sh, Option.map_none, List.length_map]
        split
        · rw [sub_sh]
          cases sub _ o (m * z) with
          | none => rfl
          | some l =>
            simp only [Option.map_some, ← shL_map]
            rw [stillL_sh base.length (fun i e o m z => stillG_sh s n d i e o m z)]
            cases V.stillL (stillG n s.mem d) l <;> simp [V.sh]
        · rfl
    · rw [if_neg hn, if_neg (by omega)]; rfl

theorem take_sh (s : St) (n : Nat) : (s.sh base).mem.take (n + base.length) = base ++ (s.mem.take n).map (Blk.sh base.length) := by
  simp only [St.sh]
  rw [Nat.add_comm, List.take_length_add_append, List.map_take]

theorem leave_sh (s : St) (n lo : Nat) (v : V) : leave (n + base.length) (lo + base.length) (v.sh base.length) (s.sh base) = shP base (leave n lo v s) := by
  unfold leave
  have e1 : (s.sh base).lo = s.lo + base.length := rfl
  rw [e1]
  by_cases h : s.lo < n
  · rw [if_pos h, if_pos (by omega)]
    simp only [shP, St.sh]
    congr 2
    omega
  · rw [if_neg h, if_neg (by omega), stillW_sh base.length (fun i e o m z => stillG_sh s n 20 i e o m z)]
    cases V.stillW (stillG n s.mem 20) v with
    | none => rfl
    | some w =>
      simp only [Option.map_some, shP, take_sh]
      rfl

theorem frz_sh (s : St) (n : Nat) (v : V) : frzV (n + base.length) (s.sh base).mem (v.sh base.length) = (frzV n s.mem v).sh base.length := by
  have gen : ∀ v : V, (if (v.sh base.length).low (n + base.length) = true then v.sh base.length else match V.stillW (stillG (n + base.length) (s.sh base).mem 20) (v.sh base.length) with
      | some v => v
      | none => V.any) = (if v.low n = true then v else match V.stillW (stillG n s.mem 20) v with
      | some v => v
      | none => V.any).sh base.length := fun v => by
    rw [sh_low, stillW_sh base.length (fun i e o m z => stillG_sh s n 20 i e o m z)]
    split
    · rfl
    · cases V.stillW (stillG n s.mem 20) v <;> rfl
  cases v with
  | any => exact gen .any
  | bool b => exact gen (.bool b)
  | int k m => exact gen (.int k m)
  | str l => exact gen (.str l)
  | agg cs => exact gen (.agg cs)
  | tup cs => exact gen (.tup cs)
  | nilp => exact gen .nilp
  | pt cs o => exact gen (.pt cs o)
  | sn => exact gen .sn
  | st f m cs => exact gen (.st f m cs)
  | mn => exact gen .mn
  | mp i => exact gen (.mp i)
  | fn f cs => exact gen (.fn f cs)
  | fnil => exact gen .fnil
  | iface t v => exact gen (.iface t v)
  | inil => exact gen .inil
  | pb i e o =>
    simp only [V.sh, frzV, sh_get]
    by_cases hi : i < n
    · rw [if_pos hi, if_pos (by omega)]; rfl
    · rw [if_neg hi, if_neg (by omega)]
      cases s.mem[i]? with
      | none => rfl
      | some b =>
        cases b with
        | cells cs =>
          simp only [Option.map_some, Blk.sh, List.length_map]
          rw [← shL_map, shL_leads]
          split <;> rfl
        | _ => rfl
  | so i e o m z =>
    simp only [V.sh, frzV, stillG_sh]
    by_cases hi : i < n
    · rw [if_pos hi, if_pos (by omega)]; rfl
    · rw [if_neg hi, if_neg (by omega)]
      cases stillG n s.mem 20 i e o m z <;> rfl

theorem resT_sh (ρ : Env) (s : St) (r : ResultVar) : resT D (ρ.sh base.length) (s.sh base) r = (resT D ρ s r).map (V.sh base.length) := by
  cases r with
  | tmp t =>
    simp only [resT, Env.sh]
    cases ρ t <;> rfl
  | cell p t => exact loadT_sh t (ρ p)
theorem resM_sh (ρ : Env) (s : St) : ∀ rs : List ResultVar, rs.mapM (resT D (ρ.sh base.length) (s.sh base)) = (rs.mapM (resT D ρ s)).map (List.map (V.sh base.length))
  | [] => rfl
  | r :: rs => by
    simp only [List.mapM_cons, resT_sh, resM_sh ρ s rs]
    cases resT D ρ s r with
    | none => rfl
    | some v => cases rs.mapM (resT D ρ s) <;> rfl
theorem results_sh (fn : Func) (ρ : Env) (s : St) : resultsT D fn (ρ.sh base.length) (s.sh base) = (resultsT D fn ρ s).map (V.sh base.length) := by
  unfold resultsT
  split
  · exact resT_sh ..
  · rw [resM_sh]
    cases fn.results.toList.mapM (resT D ρ s) <;> simp [V.sh, shL_map]

theorem sh_enter (s : St) : (⟨(s.sh base).mem, (s.sh base).mem.length⟩ : St) = St.sh base ⟨s.mem, s.mem.length⟩ := by
  rw [sh_len]; rfl

mutual
theorem shC (Y : Dry D) : ∀ {c ρ s x ρ' s'}, EvC D c ρ s x ρ' s' → EvC D c (ρ.sh base.length) (s.sh base) x (ρ'.sh base.length) (s'.sh base)
  | _, _, _, _, _, _, .skip => .skip
  | _, _, _, _, _, _, .label => .label
  | _, _, _, _, _, _, .exit => .exit
  | _, _, _, _, _, _, .ret => .ret
  | _, _, _, _, _, _, .seqN h1 h2 => .seqN (shC Y h1) (shC Y h2)
  | _, _, _, _, _, _, .seqX h1 hx => .seqX (shC Y h1) hx
  | _, _, _, _, _, _, .cond ht h1 => .cond (by rw [ev_sh Y, ht]; rfl) (shC Y h1)
  | _, _, _, _, _, _, .block h1 => .block (shC Y h1)
  | _, _, _, _, _, _, .loopN h1 h2 => .loopN (shC Y h1) (shC Y h2)
  | _, _, _, _, _, _, .loopX h1 hx => .loopX (shC Y h1) hx
  | _, _, _, _, _, _, .region h1 => .region (shR' Y (b := none) h1)
  | _, _, s, _, _, _, .draw h1 => .draw fun t => by
    rw [sh_len, pad_sh]
    exact shR' Y (h1 t)
  | _, _, s, _, _, _, .scope (ρ1 := ρ1) (s1 := s1) h1 hge => by
    have h := shC Y h1
    rw [← sh_enter] at h
    have := EvC.scope (s := s.sh base) h (by rw [sh_len]; simp only [St.sh]; omega)
    rw [sh_len, take_sh] at this
    have e : (fun t => frzV (s.mem.length + base.length) (s1.sh base).mem ((ρ1.sh base.length) t)) = Env.sh base.length (fun t => frzV s.mem.length s1.mem (ρ1 t)) := funext fun t => frz_sh s1 _ _
    rw [e] at this
    exact this
theorem shR' (Y : Dry D) : ∀ {ops b l ρ s ρ' s'}, EvR D ops b l ρ s ρ' s' → EvR D ops (b.map (· + base.length)) l (ρ.sh base.length) (s.sh base) (ρ'.sh base.length) (s'.sh base)
  | _, _, _, _, _, _, _, .nil => .nil
  | _, _, _, _, _, _, _, .none h1 h => .none h1 (shR' Y h)
  | _, _, _, _, _, _, _, .skip h1 h2 h => by
    refine .skip h1 (by rw [wanted_sh]; exact h2) ?_
    have := shR' Y h
    rw [← put_sh] at this
    exact this
  | _, _, _, _, _, _, _, .op h1 h2 h3 h => by
    refine .op (v := V.sh base.length _) (s1 := St.sh base _) h1 (by rw [wanted_sh]; exact h2) (by rw [slot_sh, opT_sh Y, h3]; rfl) ?_
    have := shR' Y h
    rw [← put_sh] at this
    exact this
  | _, _, _, _, _, _, _, .call h1 h2 h3 hf h => by
    refine .call h1 (by rw [wanted_sh]; exact h2) (by rw [callT_sh Y, h3]; rfl) (shF Y hf) ?_
    have := shR' Y h
    rw [← put_sh] at this
    exact this
theorem shF (Y : Dry D) : ∀ {f args s v s'}, EvF D f args s v s' → EvF D f (args.map (V.sh base.length)) (s.sh base) (v.sh base.length) (s'.sh base)
  | _, args, s, _, _, .mk (fn := fn) (s1 := s1) (ρ1 := ρ1) (v := v) h1 h2 h3 h h4 h5 => by
    have h' := shC Y h
    rw [← entry_sh, show St.sh base { s with lo := s.mem.length } = ⟨(s.sh base).mem, (s.sh base).mem.length⟩ from (sh_enter s).symm] at h'
    have := EvF.mk (s := s.sh base) h1 h2 (by rw [List.length_map]; exact h3) h' h4 (by rw [results_sh, h5]; rfl)
    rw [sh_len, show (s.sh base).lo = s.lo + base.length from rfl, leave_sh] at this
    exact this
end

mutual
/-- It leads to no block, and all of it is known. -/
def V.plain : V → Bool
  | .pb .. | .so .. | .mp _ | .any => false
  | .agg cs | .tup cs | .fn _ cs => V.plainL cs
  | .iface _ v => v.plain
  | _ => true
def V.plainL : List V → Bool
  | [] => true
  | v :: vs => v.plain && V.plainL vs
end

mutual
theorem still_plain (g : Nat → Nat → Nat → Nat → Nat → Option V) : ∀ v : V, v.plain = true → V.stillW g v = some v
  | .pb .., h | .so .., h | .mp _, h | .any, h => by simp [V.plain] at h
  | .agg cs, h => by simp only [V.plain] at h; simp only [V.stillW, stillL_plain g cs h]
  | .tup cs, h => by simp only [V.plain] at h; simp only [V.stillW, stillL_plain g cs h]
  | .fn f cs, h => by simp only [V.plain] at h; simp only [V.stillW, stillL_plain g cs h]
  | .iface t v, h => by simp only [V.plain] at h; simp only [V.stillW, still_plain g v h]
  | .bool _, _ | .int .., _ | .str _, _ | .nilp, _ | .pt .., _ | .sn, _ | .st .., _ | .mn, _ | .fnil, _ | .inil, _ => by simp only [V.stillW]
theorem stillL_plain (g : Nat → Nat → Nat → Nat → Nat → Option V) : ∀ vs : List V, V.plainL vs = true → V.stillL g vs = some vs
  | [], _ => rfl
  | v :: vs, h => by
    simp only [V.plainL, Bool.and_eq_true] at h
    simp only [V.stillL, still_plain g v h.1, stillL_plain g vs h.2]
end

/-- A call over no blocks is a call over whatever blocks. -/
theorem EvF.lift (Y : Dry D) {f : Nat} {args : List V} {v : V} (h : EvF D f args ⟨[], 0⟩ v ⟨[], 0⟩) (ha : V.dryL args = true) (hv : v.dry = true) (hp : v.plain = true) (s : St) : EvF D f args s v s := by
  have key : ∀ {args' : List V} {s0 : St} {v' : V} {s' : St}, EvF D f args' s0 v' s' → s0 = ⟨[], 0⟩ → s' = ⟨[], 0⟩ → V.dryL args' = true → v'.dry = true → v'.plain = true → EvF D f args' s v' s := by
    intro args' s0 v' s' h e0 e1 ha hv hp
    cases h with
    | mk h1 h2 h3 h h4 h5 =>
      rename_i fn c x ρ1 s1 w
      subst e0
      have h' := shC Y (base := s.mem) h
      rw [← entry_sh, show St.sh s.mem ⟨[], ([] : List Blk).length⟩ = ⟨s.mem, s.mem.length⟩ by simp [St.sh], ← shL_map, V.shL_dry _ _ ha] at h'
      have := EvF.mk (s := s) h1 h2 h3 h' h4 (by rw [results_sh, h5]; rfl)
      have hl : leave s.mem.length s.lo (w.sh s.mem.length) (s1.sh s.mem) = ((leave ([] : List Blk).length 0 w s1).1, s) := by
        have e2 : (leave ([] : List Blk).length 0 w s1).2 = ⟨[], 0⟩ := e1
        unfold leave at e2 hv hp ⊢
        rw [if_neg (by simp)] at e2 hv hp
        rw [if_neg (by simp [St.sh])]
        have hst := stillW_sh (g := stillG ([] : List Blk).length s1.mem 20) (g' := stillG s.mem.length (s1.sh s.mem).mem 20) s.mem.length (fun i e o m z => by
          have := stillG_sh (base := s.mem) s1 0 20 i e o m z
          simpa using this) w
        rw [if_neg (by simp), hst]
        cases hw : V.stillW (stillG ([] : List Blk).length s1.mem 20) w with
        | none =>
          rw [hw] at hp
          have := still_plain (stillG ([] : List Blk).length s1.mem 20) w hp
          rw [hw] at this
          cases this
        | some u =>
          rw [hw] at hv
          simp only [Option.map_some]
          rw [V.sh_dry _ u hv]
          have := take_sh (base := s.mem) s1 0
          simp only [Nat.zero_add, List.take_zero, List.map_nil, List.append_nil] at this
          rw [this]
      rw [hl] at this
      exact this
  exact key h rfl rfl ha hv hp
end
end Go.Pe

namespace Go.Pe

/-- A slice: nil, or a list (with or without spare room). -/
inductive Sl (α : Type) where
  | nil
  | mk (full : Bool) (l : List α)

namespace Sl
variable {α : Type}
def l : Sl α → List α
  | .nil => []
  | .mk _ l => l
def v (e : α → List V) : Sl α → V
  | .nil => .sn
  | .mk full l => .st full l.length (l.flatMap e)
end Sl

theorem flat_len {α : Type} {e : α → List V} {z : Nat} (h : ∀ a, (e a).length = z) : ∀ l : List α, (l.flatMap e).length = l.length * z
  | [] => by simp
  | a :: l => by simp only [List.flatMap_cons, List.length_append, h, flat_len h l, List.length_cons]; rw [Nat.add_mul]; omega

theorem flat_drop {α : Type} {e : α → List V} {z : Nat} (h : ∀ a, (e a).length = z) : ∀ (l : List α) (i : Nat), (l.flatMap e).drop (i * z) = (l.drop i).flatMap e
  | [], i => by simp
  | a :: l, 0 => by simp
  | a :: l, i + 1 => by
    have : (i + 1) * z = z + i * z := by rw [Nat.add_mul]; omega
    rw [List.flatMap_cons, this, ← List.drop_drop, List.drop_append_of_le_length (by rw [h]; omega), List.drop_of_length_le (l := e a) (by rw [h]; omega), List.nil_append, flat_drop h l i, List.drop_succ_cons]

theorem flat_take {α : Type} {e : α → List V} {z : Nat} (h : ∀ a, (e a).length = z) : ∀ (l : List α) (i : Nat), (l.flatMap e).take (i * z) = (l.take i).flatMap e
  | [], i => by simp
  | a :: l, 0 => by simp
  | a :: l, i + 1 => by
    have : (i + 1) * z = (e a).length + i * z := by rw [Nat.add_mul, h]; omega
    rw [List.flatMap_cons, this, List.take_length_add_append, flat_take h l i, List.take_succ_cons, List.flatMap_cons]

theorem flat_get {α : Type} {e : α → List V} {z : Nat} (h : ∀ a, (e a).length = z) {l : List α} {i j : Nat} (hi : i < l.length) (hj : j < z) : (l.flatMap e)[i * z + j]? = (e l[i])[j]? := by
  have h1 : (l.flatMap e)[i * z + j]? = ((l.flatMap e).drop (i * z))[j]? := by rw [List.getElem?_drop]
  rw [h1, flat_drop h, List.drop_eq_getElem_cons hi, List.flatMap_cons, List.getElem?_append_left (by rw [h]; exact hj)]

theorem flat_sub {α : Type} {e : α → List V} {z : Nat} (h : ∀ a, (e a).length = z) {l : List α} {i : Nat} (hi : i < l.length) : sub (l.flatMap e) (i * z) z = some (e l[i]) := by
  unfold sub
  have hle : i * z + z ≤ l.length * z := by rw [← Nat.succ_mul]; exact Nat.mul_le_mul_right z hi
  rw [if_pos (by rw [flat_len h]; exact hle), flat_drop h, List.drop_eq_getElem_cons hi, List.flatMap_cons]
  rw [List.take_append_of_le_length (by rw [h]; omega), List.take_of_length_le (by rw [h]; omega)]

section
variable {D : Dt} {s : St} {α : Type} {e : α → List V}

theorem sl_len {t : Nat} {et : Nat} {te : TI} (h : D.sl t = some (et, te)) (x : Sl α) : lenT D s t (x.v e) = some (.int .i64 x.l.length) := by
  unfold Dt.sl at h
  unfold lenT
  split at h
  · rename_i ti hti
    split at h
    · rename_i e' hd
      simp only [hd]
      cases x <;> rfl
    · cases h
  · cases h

theorem sl_idx {t : Nat} {et : Nat} {te : TI} (h : D.sl t = some (et, te)) (he : ∀ a, (e a).length = te.size) (hz : te.size ≠ 0) {x : Sl α} {i : Nat} {k : IntKind} (hi : i < x.l.length) :
    indexAddrT D t (x.v e) (.int k i) = some (.pt (x.l.flatMap e) (i * te.size)) := by
  unfold indexAddrT
  simp only [h]
  cases x with
  | nil => simp [Sl.l] at hi
  | mk full l =>
    simp only [Sl.v, Sl.l, V.elem] at hi ⊢
    rw [if_pos]
    · simp
    · simp [flat_len he, hz, hi]

theorem sl_load {t : Nat} {ti : TI} (h : D.T t = some ti) (ha : agg? ti.d = true) (he : ∀ a, (e a).length = ti.size) {l : List α} {i : Nat} (hi : i < l.length) :
    loadT D s t (.pt (l.flatMap e) (i * ti.size)) = some (.agg (e l[i])) := by
  simp only [loadT, h, readAt, ha, if_true, flat_sub he hi, Option.map_some]

theorem sl_load1 {t : Nat} {ti : TI} {z j : Nat} {w : V} (h : D.T t = some ti) (ha : agg? ti.d = false) (he : ∀ a, (e a).length = z) {l : List α} {i : Nat} (hi : i < l.length) (hj : j < z) (hw : (e l[i])[j]? = some w) :
    loadT D s t (.pt (l.flatMap e) (i * z + j)) = some w := by
  simp only [loadT, h, readAt, ha, Bool.false_eq_true, if_false, flat_get he hi hj, hw]
end
end Go.Pe
namespace Go.Pe
section
variable {D : Dt} {t : Nat} {cx cy : Bool} {k : IntKind} {a b : Int}
theorem bin_add : binT D .add t cx cy (.int k a) (.int k b) = some (.int k (k.wrap (a + b))) := by simp [binT, wrapOp]
theorem bin_sub : binT D .sub t cx cy (.int k a) (.int k b) = some (.int k (k.wrap (a - b))) := by simp [binT, wrapOp]
theorem bin_mul : binT D .mul t cx cy (.int k a) (.int k b) = some (.int k (k.wrap (a * b))) := by simp [binT, wrapOp]
theorem bin_eql : binT D .eql t cx cy (.int k a) (.int k b) = some (.bool (decide (a = b))) := by simp [binT, wrapOp]; rfl
theorem bin_neq : binT D .neq t cx cy (.int k a) (.int k b) = some (.bool (!decide (a = b))) := by simp [binT, wrapOp]; rfl
theorem bin_lss : binT D .lss t cx cy (.int k a) (.int k b) = some (.bool (decide (a < b))) := by simp [binT, wrapOp]
theorem bin_leq : binT D .leq t cx cy (.int k a) (.int k b) = some (.bool (decide (a ≤ b))) := by simp [binT, wrapOp]
theorem bin_gtr : binT D .gtr t cx cy (.int k a) (.int k b) = some (.bool (decide (b < a))) := by simp [binT, wrapOp]
theorem bin_geq : binT D .geq t cx cy (.int k a) (.int k b) = some (.bool (decide (b ≤ a))) := by simp [binT, wrapOp]
theorem un_not {x : Bool} : unT .not (.bool x) = some (.bool (!x)) := rfl
theorem un_neg : unT .neg (.int k a) = some (.int k (k.wrap (0 - a))) := rfl
theorem bi_len {s : St} {u : Nat} {x : V} : builtinT D s none .len #[u] [x] = (lenT D s u x).map (·, s) := rfl
theorem bi_append {s : St} {u w : Nat} {x y : V} : builtinT D s none .append #[u, w] [x, y] = appendT D s none (some u) (some w) x y := rfl
theorem wrap_id {n : Int} (h1 : -9223372036854775808 ≤ n) (h2 : n < 9223372036854775808) : IntKind.i64.wrap n = n := by
  show (if (true && decide (n % (2 ^ 64 : Int) ≥ (2 ^ (64 - 1) : Int))) = true then n % (2 ^ 64 : Int) - (2 ^ 64 : Int) else n % (2 ^ 64 : Int)) = n
  rw [show (2 ^ 64 : Int) = 18446744073709551616 by decide, show (2 ^ (64 - 1) : Int) = 9223372036854775808 by decide]
  simp only [Bool.true_and, decide_eq_true_eq]
  split <;> omega
theorem wrap_nat {n : Nat} (h : n ≤ 9223372036854775807) : IntKind.i64.wrap (n : Int) = n := wrap_id (by omega) (by omega)
theorem wrap_succ {n : Nat} (h : n < 9223372036854775807) : IntKind.i64.wrap ((n : Int) + 1) = ((n + 1 : Nat) : Int) := wrap_nat (n := n + 1) h
end
end Go.Pe
namespace Go.Pe
section
variable {D : Dt} {ρ : Env} {s : St}
/-- What is asked at a call's end. -/
def Fin (D : Dt) (fn : Func) (s : St) (r : V) (s' : St) (x : Ex) (ρ : Env) (s1 : St) : Prop :=
  (x = .nrm ∨ x = .ret) ∧ ∃ v, resultsT D fn ρ s1 = some v ∧ leave s.mem.length s.lo v s1 = (r, s')

theorem EvF.go {f : Nat} {fn : Func} {c : Code} {args : List V} {r : V} {s' : St} (hf : D.P.funcs[f]? = some fn) (hb : fn.body = some c) (hn : Nat.ble args.length fn.ntmps = true)
    (h : Wp D c (entry args) ⟨s.mem, s.mem.length⟩ (Fin D fn s r s')) : EvF D f args s r s' := .of hf hb (Nat.le_of_ble_eq_true hn) h

theorem leave_same {v : V} (hp : v.plain = true) : leave s.mem.length s.lo v ⟨s.mem, s.mem.length⟩ = (v, s) := by
  unfold leave
  rw [if_neg (by simp), still_plain _ v hp]
  simp

theorem plain_any {v : V} (hp : v.plain = true) : v ≠ .any := by intro h; subst h; cases hp

theorem resT_tmp {t : Nat} {v : V} (hv : ρ t = v) (ha : v ≠ .any) {s1 : St} : resT D ρ s1 (.tmp t) = some v := by
  simp only [resT, hv]

theorem Fin.one {fn : Func} {t : Nat} {v : V} {x : Ex} {s1 : St} (hx : x = .nrm ∨ x = .ret) (hr : fn.results.toList = [.tmp t]) (hv : ρ t = v) (hp : v.plain = true) (hs : s1 = ⟨s.mem, s.mem.length⟩) : Fin D fn s v s x ρ s1 := by
  subst hs
  refine ⟨hx, v, ?_, leave_same hp⟩
  unfold resultsT
  rw [hr]
  exact resT_tmp hv (plain_any hp)

theorem Fin.two {fn : Func} {t u : Nat} {v w : V} {x : Ex} {s1 : St} (hx : x = .nrm ∨ x = .ret) (hr : fn.results.toList = [.tmp t, .tmp u]) (hv : ρ t = v) (hw : ρ u = w) (hp : v.plain = true) (hq : w.plain = true) (hs : s1 = ⟨s.mem, s.mem.length⟩) :
    Fin D fn s (.tup [v, w]) s x ρ s1 := by
  subst hs
  refine ⟨hx, .tup [v, w], ?_, leave_same (by simp [V.plain, V.plainL, hp, hq])⟩
  unfold resultsT
  rw [hr]
  simp only [List.mapM_cons, List.mapM_nil, resT_tmp hv (plain_any hp), resT_tmp hw (plain_any hq)]
  rfl

/-- A zero cell block that is at once written over, by a struct. -/
theorem store_fresh {t : Nat} {ti : TI} {m : List Blk} {cs new : List V} {e : Nat} (hT : D.T t = some ti) (he : cs.length = e) (hn : new.length = ti.size) (hz : ti.size = e) (h1 : new.all V.one = true) :
    storeV D ⟨m ++ [.cells cs], m.length⟩ t (.pb m.length e 0) (.agg new) = some (.tup [], ⟨m ++ [.cells new], m.length⟩) := by
  have hl : St.live ⟨m ++ [.cells cs], m.length⟩ m.length e = some cs := by simp [St.live, he]
  have hd : cs.drop new.length = [] := List.drop_of_length_le (by omega)
  have hc : (V.agg new).cells = new := rfl
  have h0 : (decide (new.length = ti.size) && decide (0 + ti.size ≤ cs.length) && new.all V.one) = true := by simp [h1]; omega
  have : storeT D ⟨m ++ [.cells cs], m.length⟩ t (.pb m.length e 0) (.agg new) = some (St.put ⟨m ++ [.cells cs], m.length⟩ m.length (.cells (over cs 0 new)) new) := by
    unfold storeT
    simp only [hT, hl]
    rw [hc]
    exact if_pos h0
  rw [storeV, this]
  simp [over, hd, St.put]
end
end Go.Pe

namespace Go.Pe
noncomputable section

theorem Dry.of {P : Program} {T : BT TI} {G : Nat → Option (List V)} (h1 : (T.toList.all fun p => V.dryL p.2.zero) = true) (h2 : ∀ g cs, G g = some cs → V.dryL cs = true) : Dry ⟨P, T.get, G⟩ :=
  ⟨fun _ _ h => List.all_eq_true.1 h1 _ (BT.get_mem h), h2⟩

/-- The known calls of one function. -/
def rowO (g : List V) (s : St) (l : List (List V × V)) : Option (V × St) :=
  List.rec (motive := fun _ => Option (V × St)) none (fun e _ ih => Bool.rec (motive := fun _ => Option (V × St)) ih (some (e.2, s)) (V.eqqL 5000 g e.1)) l

def tabO (t : BT (List (List V × V))) : Orc := fun f args s =>
  Option.rec (motive := fun _ => Option (V × St)) none (fun l => rowO args s l) (t.get f)

/-- All that a table tells is so. -/
def TabOk (D : Dt) (t : BT (List (List V × V))) : Prop := ∀ f l, (f, l) ∈ t.toList → ∀ e ∈ l, ∀ s, EvF D f e.1 s e.2 s

theorem rowO_spec {g : List V} {s : St} : ∀ {l : List (List V × V)} {v : V} {s1 : St}, rowO g s l = some (v, s1) → s1 = s ∧ ∃ e ∈ l, e.1 = g ∧ e.2 = v
  | [], _, _, h => by cases h
  | e :: l, v, s1, h => by
    have h : Bool.rec (motive := fun _ => Option (V × St)) (rowO g s l) (some (e.2, s)) (V.eqqL 5000 g e.1) = some (v, s1) := h
    cases hb : V.eqqL 5000 g e.1 with
    | true =>
      rw [hb] at h
      cases h
      exact ⟨rfl, e, List.mem_cons_self .., (V.eqqL_spec hb).symm, rfl⟩
    | false =>
      rw [hb] at h
      obtain ⟨h1, e', h2, h3⟩ := rowO_spec h
      exact ⟨h1, e', List.mem_cons_of_mem _ h2, h3⟩

theorem tabO_ok {D : Dt} {t : BT (List (List V × V))} (h : TabOk D t) : (tabO t).Ok D := fun f args s v s1 hr => by
  unfold tabO at hr
  cases hg : t.get f with
  | none => rw [hg] at hr; cases hr
  | some l =>
    rw [hg] at hr
    obtain ⟨rfl, e, he, rfl, rfl⟩ := rowO_spec hr
    exact h f l (BT.get_mem hg) e he _

/-- A piece: a call over no blocks is evaluated; it is so over whatever blocks. -/
theorem piece {D : Dt} (Y : Dry D) {O : Orc} (hO : O.Ok D) {f : Nat} {args : List V} {v : V}
    (h : (Option.rec (motive := fun _ => Bool) false (fun p => V.eqq 5000 p.1 v && Nat.beq p.2.mem.length 0 && Nat.beq p.2.lo 0) (callFG D (runG D O 4000) f args ⟨[], 0⟩) && (V.dryL args && v.dry && v.plain)) = true) :
    ∀ s, EvF D f args s v s := by
  intro s
  simp only [Bool.and_eq_true] at h
  obtain ⟨h1, ⟨h2, h3⟩, h4⟩ := h
  cases hr : callFG D (runG D O 4000) f args ⟨[], 0⟩ with
  | none => rw [hr] at h1; cases h1
  | some p =>
    obtain ⟨w, m, lo⟩ := p
    rw [hr] at h1
    simp only [Bool.and_eq_true] at h1
    obtain ⟨⟨e1, e2⟩, e3⟩ := h1
    have e1 := V.eqq_spec e1
    have e2 := List.eq_nil_of_length_eq_zero (Nat.eq_of_beq_eq_true e2)
    have e3 := Nat.eq_of_beq_eq_true e3
    subst e1 e2 e3
    exact EvF.lift Y (run_soundG hO hr) h2 h3 h4 s
end
end Go.Pe
