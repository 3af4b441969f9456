/-
  The operations, continued: len, append, copy.
-/
import Derived.Test.YtiojohpghhccpaaDoorEvA
import Derived.Laws.NewFold
import Derived.Laws.Build
set_option linter.all false
namespace Go.Pe
section
variable {D : Dt} {c : Cx} {s : St} {w : World}

theorem lenT_spec (F : Fit D) (K : Ok c) (hs : s.mem = c.m) (hw : w.heap = c.h) {t : Nat} {ts : Array TypeId} (hts : ts[0]? = some t) (ty : TypeId) {x : V} {X : Value} (hx : VR c x X) {v : V} (h : lenT D s t x = some v) :
    ∃ z, (Builtin.len_ ts ty #[X]).run D.P w = .ok z w ∧ VR c v z := by
  have h0 : (#[X] : Array Value)[0]? = some X := rfl
  unfold lenT at h
  split at h
  · rename_i ti hT
    obtain ⟨i, d, z, T⟩ := F.tf hT
    split at h
    · rename_i b hd
      rw [T.d] at hd; obtain rfl := toTD_str hd
      simp only [VR, VT] at hx; subst hx
      simp only [Option.some.injEq] at h; subst h
      refine ⟨.int .i64 b.length, ?_, by simp only [VR, VT]⟩
      unfold Builtin.len_; simp only [hts, List.getElem?_toArray, List.getElem?_cons_zero, Sem.run_bind, run_underlying T.und, Result.andThen_ok]; simp [goInt, ByteArray.size]
    · rename_i _ n e hd
      rw [T.d] at hd; obtain rfl := toTD_array hd
      split at h
      · cases h
      · simp only [Option.some.injEq] at h; subst h
        refine ⟨.int .i64 n, ?_, by simp only [VR, VT]⟩
        unfold Builtin.len_; simp only [hts, List.getElem?_toArray, List.getElem?_cons_zero, Sem.run_bind, run_underlying T.und, Result.andThen_ok]; rfl
    · rename_i e hd
      rw [T.d] at hd; obtain rfl := toTD_slice hd
      simp only [VR, VT] at hx; subst hx
      simp only [Option.some.injEq] at h; subst h
      refine ⟨.int .i64 0, ?_, by simp only [VR, VT]⟩
      unfold Builtin.len_; simp only [hts, List.getElem?_toArray, List.getElem?_cons_zero, Sem.run_bind, run_underlying T.und, Result.andThen_ok]; rfl
    · rename_i e f n cs hd
      rw [T.d] at hd; obtain rfl := toTD_slice hd
      simp only [VR, VT] at hx
      obtain ⟨a, cap, rfl, _⟩ := hx
      simp only [Option.some.injEq] at h; subst h
      refine ⟨.int .i64 n, ?_, by simp only [VR, VT]⟩
      unfold Builtin.len_; simp only [hts, List.getElem?_toArray, List.getElem?_cons_zero, Sem.run_bind, run_underlying T.und, Result.andThen_ok]; rfl
    · rename_i e j e' off n sz hd
      rw [T.d] at hd; obtain rfl := toTD_slice hd
      split at h
      · simp only [VR, SR] at hx
        split at hx
        · obtain ⟨⟨a, cap, rfl, _⟩, _⟩ := hx
          simp only [Option.some.injEq] at h; subst h
          refine ⟨.int .i64 n, ?_, by simp only [VR, VT]⟩
          unfold Builtin.len_; simp only [hts, List.getElem?_toArray, List.getElem?_cons_zero, Sem.run_bind, run_underlying T.und, Result.andThen_ok]; rfl
        · exact hx.elim
      · cases h
    · rename_i k e hd
      rw [T.d] at hd; obtain rfl := toTD_map hd
      simp only [VR, VT] at hx; subst hx
      simp only [Option.some.injEq] at h; subst h
      refine ⟨.int .i64 0, ?_, by simp only [VR, VT]⟩
      unfold Builtin.len_; simp only [hts, List.getElem?_toArray, List.getElem?_cons_zero, Sem.run_bind, run_underlying T.und, Result.andThen_ok]; rfl
    · rename_i k e j hd
      rw [T.d] at hd; obtain rfl := toTD_map hd
      split at h
      · rename_i es hm
        rw [hs] at hm
        simp only [Option.some.injEq] at h; subst h
        simp only [VR] at hx
        obtain ⟨_, rfl⟩ := hx
        obtain ⟨l, ck, h1, h2⟩ := K.blk j _ hm
        have hlen : es.length = l.size := by
          have : ∀ (es : List (V × V)) (l : List MapEntry), MR c es l → es.length = l.length := by
            intro es
            induction es with
            | nil => intro l hl; cases l with
              | nil => rfl
              | cons _ _ => simp only [MR] at hl
            | cons p es ih => intro l hl; cases l with
              | nil => simp only [MR] at hl
              | cons q l => simp only [MR] at hl; simp [ih l hl.2.2]
          simpa using this es l.toList h2
        refine ⟨.int .i64 es.length, ?_, by simp only [VR, VT]⟩
        have hg : (getObj (c.r j)).run D.P w = .ok (.map l ck) w := by simp [getObj, Sem.run, hw, h1]
        unfold Builtin.len_; simp only [hts, List.getElem?_toArray, List.getElem?_cons_zero, Sem.run_bind, run_underlying T.und, Result.andThen_ok, hg, hlen]; rfl
      · cases h
    · cases h
  · cases h

theorem row_spec (F : Fit D) {tx : Option Nat} (h : D.row tx = true) : ∃ u d, tx = some u ∧ D.P.underlying u = some d ∧ ((∃ e, d = .slice e) ∨ d = .string) := by
  unfold Dt.row at h
  split at h
  · rename_i u
    split at h
    · rename_i ui hT
      obtain ⟨i, d, z, T⟩ := F.tf hT
      refine ⟨u, d, rfl, T.und, ?_⟩
      split at h
      · rename_i e hd
        rw [T.d] at hd; exact .inl ⟨e, toTD_slice hd⟩
      · rename_i hd
        rw [T.d] at hd; exact .inr (toTD_str hd)
      · cases h
    · cases h
  · cases h

theorem one_all {cs : List V} {xs : List Value} (h : VRs c cs xs) (ho : cs.all V.one = true) : ∀ u ∈ xs, u.oneCell' = true := fun u hu => by
  obtain ⟨v, hv, hr⟩ := VRs.mem _ _ h u hu
  exact one_cell hr (List.all_eq_true.1 ho v hv)

end
end Go.Pe

namespace Go.Pe
section
variable {D : Dt} {c : Cx} {s : St} {w : World}

/-- Append where there is room: nothing is made. -/
theorem append_room {t tx e : Nat} {te : TI} {i : TypeInfo} {d : TypeDesc} {z : Value} (hund : D.P.underlying t = some (.slice e)) (T : TF D.P e te i d z) {ts : Array TypeId} (hts : ts[0]? = some t)
    {du : TypeDesc} (htx : ts[1]? = some tx) (hdu : D.P.underlying tx = some du) (hni : (∃ e, du = .slice e) ∨ du = .string) (ty : TypeId) {base : Option Addr} {m cap n : Nat} {X : Value} {xs : List Value}
    (hlen : (Builtin.lenOf X).run D.P w = .ok n w) (hfc : (Builtin.firstCells te.size n X).run D.P w = .ok xs.toArray w) (hroom : m + n ≤ cap) :
    (Builtin.append_ ts ty #[.slice base m cap, X]).run D.P w =
      match base with
      | some a => ((storeCells (a.add (m * te.size)) xs).run D.P w).andThen fun _ w' => .ok (.slice base (m + n) cap) w'
      | none => .ok (.slice none (m + n) cap) w := by
  unfold Builtin.append_
  have h0 : (#[Value.slice base m cap, X] : Array Value)[0]? = some (.slice base m cap) := rfl
  have h1 : (#[Value.slice base m cap, X] : Array Value)[1]? = some X := rfl
  simp only [hts, htx, h0, h1, Sem.run_bind, run_underlying hund, Result.andThen_ok, T.run_size w, run_underlying hdu]
  rcases hni with ⟨e', rfl⟩ | rfl <;>
    simp only [Sem.run_pure, Result.andThen_ok, Bool.false_eq_true, if_false, hlen, if_pos hroom, Sem.run_bind, Bool.not_false, if_true, hfc] <;>
    cases base <;> simp only [Sem.run_pure, Result.andThen_ok, Sem.run_bind, List.toList_toArray]

/-- Append where there is none: a new row. -/
theorem append_grow {t tx e : Nat} {te : TI} {i : TypeInfo} {d : TypeDesc} {z : Value} (hund : D.P.underlying t = some (.slice e)) (T : TF D.P e te i d z) {ts : Array TypeId} (hts : ts[0]? = some t)
    {du : TypeDesc} (htx : ts[1]? = some tx) (hdu : D.P.underlying tx = some du) (hni : (∃ e, du = .slice e) ∨ du = .string) (ty : TypeId) {base : Option Addr} {m cap n : Nat} {X : Value} {xs ys : List Value}
    (hlen : (Builtin.lenOf X).run D.P w = .ok n w) (hfc : ∀ w', w'.heap = w.heap → (Builtin.firstCells te.size n X).run D.P w' = .ok xs.toArray w')
    (hold : ∀ w', w'.heap = w.heap → (Builtin.firstCells te.size m (.slice base m cap)).run D.P w' = .ok ys.toArray w') (hroom : ¬ m + n ≤ cap) (hf : fitsT (m + n) te.bytes = true) :
    ∃ (nc : Nat) (rest : Array Value), m + n ≤ nc ∧ rest.size = (nc - (m + n)) * z.cells.size ∧
      (Builtin.append_ ts ty #[.slice base m cap, X]).run D.P w = .ok (.slice (some ⟨w.heap.size, 0, none⟩) (m + n) nc) (w.drew.alloc (.cells (ys.toArray ++ xs.toArray ++ rest) e)) := by
  unfold fitsT at hf
  rw [Bool.and_eq_true, Bool.and_eq_true] at hf
  have hf1 : (m + n) * te.bytes ≤ 1099511627776 := of_decide_eq_true hf.1.1
  have hf2 : m + n ≤ 1099511627776 := of_decide_eq_true hf.1.2
  have hf3 : te.bytes ≤ 1073741824 := of_decide_eq_true hf.2
  have hcap : ¬ (Builtin.nextslicecap (m + n) cap * i.bytes > 2 ^ 48) := by
    have hle : Builtin.nextslicecap (m + n) cap ≤ 2 * (m + n) + 1000 := by
      unfold Builtin.nextslicecap
      split
      · omega
      · split
        · omega
        · have : ∀ (k q : Nat), q < m + n → Builtin.growBy (m + n) k q ≤ 2 * (m + n) + 1000 := by
            intro k
            induction k with
            | zero => intro q hq; simp only [Builtin.growBy]; omega
            | succ k ih =>
              intro q hq
              simp only [Builtin.growBy]
              rw [if_neg (by omega)]
              by_cases h2 : q + (q + 768) / 4 < m + n
              · exact ih _ h2
              · cases k with
                | zero => simp only [Builtin.growBy]; omega
                | succ k => simp only [Builtin.growBy]; rw [if_pos (by omega)]; omega
          exact this 4 cap (by omega)
    have hb : Builtin.nextslicecap (m + n) cap * i.bytes ≤ (2 * (m + n) + 1000) * i.bytes := Nat.mul_le_mul_right _ hle
    rw [← T.bytes] at hb ⊢
    rw [Nat.add_mul, Nat.mul_assoc] at hb
    omega
  refine ⟨(Question.appendCap (m + n) cap e).cut (w.tape w.drawn (.appendCap (m + n) cap e)), Builtin.zeroCells z.cells ((Question.appendCap (m + n) cap e).cut (w.tape w.drawn (.appendCap (m + n) cap e)) - (m + n)), ?_, ?_, ?_⟩
  · simp only [Question.cut]; omega
  · rw [size_zeroCells]
  · have e1 := hold w.drew rfl
    have e2 := hfc w.drew rfl
    have hz : (zeroValue e).run D.P w.drew = .ok z w.drew := T.run_zero _
    have hi : ∀ w', (typeInfo e).run D.P w' = .ok i w' := fun w' => T.run_info w'
    have hmax : IntKind.i64.max = 9223372036854775807 := IntKind.max_i64
    have hneg : ¬ (((m + n : Nat) : Int) > IntKind.i64.max ∧ (False ∨ i.bytes = 0)) := by rw [hmax]; omega
    unfold Builtin.append_
    have h0 : (#[Value.slice base m cap, X] : Array Value)[0]? = some (.slice base m cap) := rfl
    have h1 : (#[Value.slice base m cap, X] : Array Value)[1]? = some X := rfl
    simp only [hts, htx, h0, h1, Sem.run_bind, run_underlying hund, Result.andThen_ok, T.run_size w, run_underlying hdu]
    rcases hni with ⟨e', rfl⟩ | rfl <;>
      simp only [Sem.run_pure, Result.andThen_ok, hlen, Sem.run_bind, if_neg hroom, hi, Bool.false_eq_true, if_false, if_neg hneg, if_neg hcap, run_choose_drew, Question.forced, run_askRoom, e1, Bool.not_false, if_true, e2, hz, newRow, run_newObj_alloc] <;> rfl
/-- A world that was drawn from is as good. -/
theorem drew_heap (w : World) : w.drew.heap = w.heap := rfl

theorem grown_aft (K : Ok c) (hw : w.heap = c.h) {i : Nat} {cs xs : List V} {ys zs : List Value} {rest : Array Value} {e : TypeId} {m n sz nc : Nat} {s' : St}
    (hi : c.m[i]? = some (.cells cs)) (hm : s'.mem = c.m.set i (.cells (cs ++ xs))) (hys : VRs c cs ys) (hzs : VRs c xs zs) (hcs : cs.length = m * sz) (hxs : xs.length = n * sz) (hpos : 0 < xs.length)
    (hnc : m + n ≤ nc) (hrest : rest.size = (nc - (m + n)) * sz) :
    Aft c w s' (.so i (cs.length + xs.length) 0 (m + n) sz) (.slice (some ⟨w.heap.size, 0, none⟩) (m + n) nc) (w.drew.alloc (.cells (ys.toArray ++ zs.toArray ++ rest) e)) := by
  have hlt : cs.length < (cs ++ xs).length := by simp; omega
  have X := grow_ext K (.cells (ys.toArray ++ zs.toArray ++ rest) e) hi hlt
  have l1 := VRs.len _ _ hys
  have l2 := VRs.len _ _ hzs
  have hB : BR ⟨c.h.push (.cells (ys.toArray ++ zs.toArray ++ rest) e), c.m.set i (.cells (cs ++ xs)), at_ c.r i c.h.size⟩ i (.cells (cs ++ xs)) := by
    refine ⟨ys.toArray ++ zs.toArray ++ rest, e, by simp [at_same], ?_⟩
    have := VRs.ext X _ _ (VRs.append _ _ _ _ hys hzs)
    refine (congrArg (VRs _ _) ?_).mp this
    simp only [Array.toList_append, List.toList_toArray]
    rw [List.take_append_of_le_length (by simp; omega), List.take_of_length_le (by simp; omega)]
  have K' := grow_ok K _ hi hlt hB
  have hh : (w.drew.alloc (.cells (ys.toArray ++ zs.toArray ++ rest) e)).heap = c.h.push (.cells (ys.toArray ++ zs.toArray ++ rest) e) := by
    show (w.heap.push _) = _
    rw [hw]
  have hil := (List.getElem?_eq_some_iff.1 hi).1
  refine ⟨at_ c.r i c.h.size, ?_⟩
  rw [hh, hm]
  refine ⟨X, K', ?_, rfl, rfl, rfl⟩
  simp only [VR, SR, List.getElem?_set_self hil]
  refine ⟨⟨_, _, rfl, hnc⟩, by simp, fun _ => ⟨?_, _, nc, rfl, hnc, fun _ => by simp [at_same, hw], fun l el fr hl => ?_⟩⟩
  · rw [hcs, hxs, Nat.add_mul]; omega
  · simp only [at_same, Array.getElem?_push_size, Option.some.injEq] at hl
    cases hl
    have key : (nc - (m + n)) * sz + (m + n) * sz = nc * sz := by rw [← Nat.add_mul]; congr 1; omega
    have key2 : (m + n) * sz = m * sz + n * sz := Nat.add_mul ..
    simp only [Array.size_append, List.size_toArray, hrest]
    omega

/-- A new row of the call's own. -/
theorem made_aft (K : Ok c) (hs : s.mem = c.m) (hw : w.heap = c.h) {q : Option Nat} {xs : List V} {zs : List Value} {rest : Array Value} {e : TypeId} {n sz nc : Nat} {i : Nat} {s' : St}
    (hnew : s.new q (.cells xs) = some (i, s')) (hzs : VRs c xs zs) (hxs : xs.length = n * sz) (hnc : n ≤ nc) (hrest : rest.size = (nc - n) * sz) :
    Aft c w s' (.so i xs.length 0 n sz) (.slice (some ⟨w.heap.size, 0, none⟩) n nc) (w.drew.alloc (.cells (zs.toArray ++ rest) e)) := by
  have l2 := VRs.len _ _ hzs
  have key : (nc - n) * sz + n * sz = nc * sz := by rw [← Nat.add_mul]; congr 1; omega
  have := own_aft (w := w.drew) (xs := zs.toArray ++ rest) K hs hw e (n := n) (sz := sz) (cap := nc) (by
    simp only [Array.toList_append, List.toList_toArray]
    rw [List.take_append_of_le_length (by omega), List.take_of_length_le (by omega)]
    exact hzs) (by omega) hnc (by simp [hrest]; omega) hnew
  exact this

theorem appendT_spec (F : Fit D) (K : Ok c) (hs : s.mem = c.m) (hw : w.heap = c.h) {q : Option Nat} {ts : Array TypeId} (ty : TypeId) {a x v : V} {A X : Value} (ha : VR c a A) (hx : VR c x X) {s' : St}
    (h : appendT D s q ts[0]? ts[1]? a x = some (v, s')) : ∃ y w', (Builtin.append_ ts ty #[A, X]).run D.P w = .ok y w' ∧ Aft c w s' v y w' := by
  unfold appendT at h
  split at h
  · cases h
  rename_i t hts
  split at h
  · cases h
  rename_i e te hsl
  split at h
  · cases h
  rename_i hsz
  simp only [Bool.or_eq_true, decide_eq_true_eq, Bool.not_eq_true', not_or, Bool.not_eq_false] at hsz
  split at h
  · cases h
  rename_i n xs hsrc
  split at h
  · cases h
  rename_i hone
  simp only [Bool.not_eq_true', Bool.not_eq_false] at hone
  obtain ⟨hund, i2, d2, z2, T2⟩ := sl_spec F hsl
  obtain ⟨u, du, htx, hdu, hni⟩ := row_spec F hsz.2
  obtain ⟨zs, q1, q2, q3, q4⟩ := srcT_spec (D := D) (w := w) K hs hw hx hsrc
  have l1 := VRs.len _ _ q1
  have hz2 : z2.cells.size = te.size := by rw [T2.zsize, T2.size]
  have hfc : ∀ w', w'.heap = w.heap → (Builtin.firstCells te.size n X).run D.P w' = .ok zs.toArray w' := fun w' hw' => by
    have := q4 n (Nat.le_refl _) w' hw'
    rwa [List.take_of_length_le (by omega)] at this
  have hnil : n = 0 → zs = [] := fun h0 => List.eq_nil_of_length_eq_zero (by rw [← l1, q2, h0]; simp)
  split at h
  · -- nil
    simp only [VR, VT] at ha; subst ha
    split at h
    · rename_i h0
      simp only [Option.some.injEq, Prod.mk.injEq] at h
      obtain ⟨rfl, rfl⟩ := h
      have hr := append_room (w := w) hund T2 hts htx hdu hni ty (base := none) (m := 0) (cap := 0) q3 (hfc w rfl) (by omega)
      rw [h0] at hr
      exact ⟨_, _, hr, Aft.same K hw hs (by simp only [VR, VT])⟩
    · rename_i h0
      split at h
      · rename_i hf
        cases hnew : s.new q (.cells xs) with
        | none => rw [hnew] at h; cases h
        | some p =>
          obtain ⟨i, s2⟩ := p
          rw [hnew] at h
          simp only [Option.map_some, Option.some.injEq, Prod.mk.injEq] at h
          obtain ⟨rfl, rfl⟩ := h
          obtain ⟨nc, rest, h1, h2, h3⟩ := append_grow (w := w) hund T2 hts htx hdu hni ty (base := none) (m := 0) (cap := 0) (ys := []) q3 hfc (fun w' _ => by simp [Builtin.firstCells]) (by omega) (by simpa using hf)
          simp only [Nat.zero_add] at h1 h2 h3
          rw [hz2] at h2
          refine ⟨_, _, h3, ?_⟩
          have := made_aft (e := e) K hs hw hnew q1 q2 h1 h2
          simpa using this
      · cases h
  · -- a row that stays
    rename_i full m cs
    split at h
    · rename_i h0
      simp only [Option.some.injEq, Prod.mk.injEq] at h
      obtain ⟨rfl, rfl⟩ := h
      have hav := ha
      simp only [VR, VT] at ha
      obtain ⟨b, cap, rfl, p1, _, _⟩ := ha
      have hr := append_room (w := w) hund T2 hts htx hdu hni ty (base := b) (m := m) (cap := cap) q3 (hfc w rfl) (by omega)
      rw [h0, hnil h0] at hr
      refine ⟨_, _, ?_, Aft.same K hw hs hav⟩
      rw [hr]
      cases b <;> simp [storeCells]
    · rename_i h0
      split at h
      · rename_i hc
        simp only [Bool.and_eq_true, decide_eq_true_eq] at hc
        obtain ⟨⟨hc1, hc2⟩, hc3⟩ := hc
        cases hnew : s.new q (.cells (cs ++ xs)) with
        | none => rw [hnew] at h; cases h
        | some p =>
          obtain ⟨i, s2⟩ := p
          rw [hnew] at h
          simp only [Option.map_some, Option.some.injEq, Prod.mk.injEq] at h
          obtain ⟨rfl, rfl⟩ := h
          have hsrc2 : srcT s te.size (.st full m cs) = some (m, cs) := by simp [srcT, hc2]
          obtain ⟨ys, r1, r2, r3, r4⟩ := srcT_spec (D := D) (w := w) K hs hw ha hsrc2
          have l2 := VRs.len _ _ r1
          simp only [VR, VT] at ha
          obtain ⟨b, cap, rfl, p1, p2, _⟩ := ha
          have hcap := p2 hc1
          subst hcap
          obtain ⟨nc, rest, h1, h2, h3⟩ := append_grow (w := w) hund T2 hts htx hdu hni ty (base := b) (m := cap) (cap := cap) (ys := ys) q3 hfc (fun w' hw' => by
            have := r4 cap (Nat.le_refl _) w' hw'
            rwa [List.take_of_length_le (by omega)] at this) (by omega) hc3
          rw [hz2] at h2
          refine ⟨_, _, h3, ?_⟩
          have := made_aft (e := e) K hs hw hnew (VRs.append _ _ _ _ r1 q1) (by rw [List.length_append, hc2, q2, Nat.add_mul]) h1 h2
          simpa using this
      · cases h
  · -- a row of the call's own
    rename_i i e' off m z
    split at h
    · cases h
    · rename_i cs hlive
      split at h
      · rename_i hc
        simp only [Bool.and_eq_true, decide_eq_true_eq] at hc
        obtain ⟨⟨⟨rfl, rfl⟩, hc3⟩, hc4⟩ := hc
        obtain ⟨hm, he⟩ := live_spec hlive
        rw [hs] at hm
        have hav := ha
        have hsrc2 : srcT s te.size (.so i e' 0 m te.size) = some (m, cs) := by
          simp only [srcT, if_true, hlive, sub, Nat.zero_add, List.drop_zero]
          rw [if_pos (by omega), List.take_of_length_le (by omega)]
          rfl
        obtain ⟨ys, r1, r2, r3, r4⟩ := srcT_spec (D := D) (w := w) K hs hw ha hsrc2
        have l2 := VRs.len _ _ r1
        simp only [VR, SR, hm] at ha
        obtain ⟨p0, a', cap, rfl, p1, p2, p3⟩ := ha.2.2 he
        split at h
        · rename_i h0
          simp only [Option.some.injEq, Prod.mk.injEq] at h
          obtain ⟨rfl, rfl⟩ := h
          have hr := append_room (w := w) hund T2 hts htx hdu hni ty (base := some a') (m := m) (cap := cap) q3 (hfc w rfl) (by omega)
          rw [h0, hnil h0] at hr
          refine ⟨_, _, ?_, Aft.same K hw hs hav⟩
          rw [hr]
          simp [storeCells]
        · rename_i h0
          simp only [Option.some.injEq, Prod.mk.injEq] at h
          obtain ⟨rfl, rfl⟩ := h
          have hxpos : 0 < xs.length := by
            rw [q2]
            exact Nat.mul_pos (Nat.pos_of_ne_zero h0) (Nat.pos_of_ne_zero hsz.1)
          have hmem : (s.put i (.cells (cs ++ xs)) xs).mem = c.m.set i (.cells (cs ++ xs)) := by simp [St.put, hs]
          by_cases hroom : m + n ≤ cap
          · -- in place
            obtain ⟨l, el, h3, h4⟩ := K.blk i _ hm
            have hl := VRs.len _ _ h4
            simp at hl
            have hcapl := p3 _ _ _ h3
            have hr := append_room (w := w) hund T2 hts htx hdu hni ty (base := some a') (m := m) (cap := cap) q3 (hfc w rfl) hroom
            have ha' := p2 (by omega)
            subst ha'
            simp only [add_none, Nat.zero_add] at hr
            have hfit : (m + n) * te.size ≤ cap * te.size := Nat.mul_le_mul_right _ hroom
            rw [Nat.add_mul] at hfit
            have hst := run_storeCells_at (P := D.P) (c.r i) (m * te.size) el zs 0 l w (by rw [hw]; exact h3) (by rw [← l1, q2]; omega) (one_all q1 hone)
            simp only [Nat.add_zero] at hst
            rw [hst] at hr
            simp only [Result.andThen_ok] at hr
            refine ⟨_, _, hr, c.r, ?_⟩
            have hset : (w.setRow (c.r i) (l.toList.take (m * te.size) ++ zs ++ l.toList.drop (m * te.size + zs.length)).toArray).heap =
                c.h.setIfInBounds (c.r i) (.cells (l.toList.take (m * te.size) ++ zs ++ l.toList.drop (m * te.size + zs.length)).toArray el (0, 0)) := by
              have hlt := (Array.getElem?_eq_some_iff.1 h3).1
              apply Array.ext_getElem?
              intro k
              by_cases ek : k = c.r i
              · subst ek
                rw [setRow_heap w _ l _ el (0, 0) (by rw [hw]; exact h3)]
                simp [hlt]
              · simp only [World.setRow, Array.getElem?_modify, hw]
                rw [if_neg (fun h => ek h.symm), Array.getElem?_setIfInBounds_ne (fun h => ek h.symm)]
            have hb : (cs.length ≤ (cs ++ xs).length ∧ ∀ l' el' fr', Obj.cells (l.toList.take (m * te.size) ++ zs ++ l.toList.drop (m * te.size + zs.length)).toArray el (0, 0) = .cells l' el' fr' →
                ∃ l2 el2 fr2, Obj.cells l el (0, 0) = .cells l2 el2 fr2 ∧ l2.size = l'.size) := by
              refine ⟨by simp, fun l' el' fr' eq => ⟨l, el, _, rfl, ?_⟩⟩
              cases eq
              simp
              omega
            have X := set_ext K (b := .cells cs) (b' := .cells (cs ++ xs)) hm (by simp) h3 hb
            have hB : BR ⟨c.h.setIfInBounds (c.r i) (.cells (l.toList.take (m * te.size) ++ zs ++ l.toList.drop (m * te.size + zs.length)).toArray el (0, 0)), c.m.set i (.cells (cs ++ xs)), c.r⟩ i (.cells (cs ++ xs)) := by
              refine ⟨(l.toList.take (m * te.size) ++ zs ++ l.toList.drop (m * te.size + zs.length)).toArray, el, Array.getElem?_setIfInBounds_self_of_lt (Array.getElem?_eq_some_iff.1 h3).1, ?_⟩
              have hv := VRs.ext X _ _ (VRs.append _ _ _ _ h4 q1)
              refine (congrArg (VRs _ _) ?_).mp hv
              rw [List.take_append_of_le_length (by simp; omega), List.take_of_length_le (l := List.take (m * te.size) l.toList ++ zs) (by simp; omega)]
              (congr 2 <;> omega)
            have K' := set_ok K (b := .cells cs) (b' := .cells (cs ++ xs)) hm (by simp) h3 hb hB
            rw [hset, hmem]
            refine ⟨X, K', ?_, rfl, rfl, rfl⟩
            have hil := (List.getElem?_eq_some_iff.1 hm).1
            simp only [VR, SR, List.getElem?_set_self hil]
            refine ⟨⟨_, _, rfl, hroom⟩, by simp; omega, fun _ => ⟨?_, _, cap, rfl, hroom, fun _ => rfl, fun l' el' fr' hl' => ?_⟩⟩
            · rw [q2, Nat.add_mul]; omega
            · rw [Array.getElem?_setIfInBounds_self_of_lt (Array.getElem?_eq_some_iff.1 h3).1] at hl'
              cases hl'
              simp
              omega
          · obtain ⟨nc, rest, h1, h2, h3⟩ := append_grow (w := w) hund T2 hts htx hdu hni ty (base := some a') (m := m) (cap := cap) (ys := ys) q3 hfc (fun w' hw' => by
              have := r4 m (Nat.le_refl _) w' hw'
              rwa [List.take_of_length_le (by omega)] at this) hroom hc4
            rw [hz2] at h2
            refine ⟨_, _, h3, ?_⟩
            have := grown_aft (e := e) (sz := te.size) K hw hm hmem r1 q1 (by omega) q2 hxpos h1 h2
            rw [he] at this
            exact this
      · cases h
  · cases h

theorem copyT_spec (F : Fit D) (K : Ok c) (hs : s.mem = c.m) (hw : w.heap = c.h) {ts : Array TypeId} (ty : TypeId) {a x v : V} {A X : Value} (ha : VR c a A) (hx : VR c x X) {s' : St}
    (h : copyT D s ts[0]? a x = some (v, s')) : ∃ y w', (Builtin.copy_ ts ty #[A, X]).run D.P w = .ok y w' ∧ Aft c w s' v y w' := by
  unfold copyT at h
  split at h
  · cases h
  rename_i t hts
  split at h
  · cases h
  rename_i e te hsl
  split at h
  · cases h
  rename_i hsz
  split at h
  · cases h
  rename_i n xs hsrc
  obtain ⟨hund, i2, d2, z2, T2⟩ := sl_spec F hsl
  obtain ⟨zs, q1, q2, q3, q4⟩ := srcT_spec (D := D) (w := w) K hs hw hx hsrc
  split at h
  · rename_i i e' off m z
    split at h
    · rename_i cs hlive
      simp only at h
      split at h
      · rename_i hc
        simp only [Bool.and_eq_true, decide_eq_true_eq] at hc
        obtain ⟨⟨rfl, hc2⟩, hc3⟩ := hc
        simp only [Option.some.injEq, Prod.mk.injEq] at h
        obtain ⟨rfl, rfl⟩ := h
        obtain ⟨hm, he⟩ := live_spec hlive
        rw [hs] at hm
        simp only [VR, SR, hm] at ha
        obtain ⟨p0, a', cap, rfl, p1, p2, p3⟩ := ha.2.2 he
        obtain ⟨l, el, h3, h4⟩ := K.blk i _ hm
        have hl := VRs.len _ _ h4
        simp at hl
        have hk := q4 (min n m) (Nat.min_le_left _ _) w rfl
        have hnew := VRs.take _ _ (min n m * te.size) q1
        have hnl := VRs.len _ _ hnew
        have hkl : min n m * te.size ≤ n * te.size := Nat.mul_le_mul_right _ (Nat.min_le_left _ _)
        have hxl : (xs.take (min n m * te.size)).length = min n m * te.size := by simp; omega
        have hfit : off + (xs.take (min n m * te.size)).length ≤ cs.length := by rw [hxl]; exact hc2
        have h0 : (#[Value.slice (some a') m cap, X] : Array Value)[0]? = some (.slice (some a') m cap) := rfl
        have h1 : (#[Value.slice (some a') m cap, X] : Array Value)[1]? = some X := rfl
        have hst : (storeCells a' (zs.take (min n m * te.size))).run D.P w = .ok () (w.setRow (c.r i) (l.toList.take off ++ zs.take (min n m * te.size) ++ l.toList.drop (off + (zs.take (min n m * te.size)).length)).toArray) := by
          by_cases hz : min n m * te.size = 0
          · have : zs.take (min n m * te.size) = [] := by simp [hz]
            rw [this]
            simp only [storeCells, List.append_nil, List.length_nil, Nat.add_zero, List.take_append_drop, Array.toArray_toList]
            rw [setRow_self w _ l el (0, 0) (by rw [hw]; exact h3)]
            rfl
          · have hpos : 0 < m := by
              rcases Nat.eq_zero_or_pos m with h | h
              · simp [h] at hz
              · exact h
            rw [p2 (by omega)]
            have := run_storeCells_at (P := D.P) (c.r i) off el (zs.take (min n m * te.size)) 0 l w (by rw [hw]; exact h3) (by rw [← hnl]; omega) (one_all hnew hc3)
            simpa using this
        have hrun : (Builtin.copy_ ts ty #[.slice (some a') m cap, X]).run D.P w = .ok (.int .i64 (min n m : Nat)) (w.setRow (c.r i) (l.toList.take off ++ zs.take (min n m * te.size) ++ l.toList.drop (off + (zs.take (min n m * te.size)).length)).toArray) := by
          unfold Builtin.copy_
          simp only [hts, h0, h1, Sem.run_bind, run_underlying hund, Result.andThen_ok, q3, T2.run_size w]
          have hmin : Nat.min n m = min n m := rfl
          rw [hmin, hk]
          simp only [Result.andThen_ok, Sem.run_bind, List.toList_toArray, hst, Sem.run_pure]
          rfl
        refine ⟨_, _, hrun, c.r, ?_⟩
        have hset : (w.setRow (c.r i) (l.toList.take off ++ zs.take (min n m * te.size) ++ l.toList.drop (off + (zs.take (min n m * te.size)).length)).toArray).heap =
            c.h.setIfInBounds (c.r i) (.cells (l.toList.take off ++ zs.take (min n m * te.size) ++ l.toList.drop (off + (zs.take (min n m * te.size)).length)).toArray el (0, 0)) := by
          have hlt := (Array.getElem?_eq_some_iff.1 h3).1
          apply Array.ext_getElem?
          intro k
          by_cases ek : k = c.r i
          · subst ek
            rw [setRow_heap w _ l _ el (0, 0) (by rw [hw]; exact h3)]
            simp [hlt]
          · simp only [World.setRow, Array.getElem?_modify, hw]
            rw [if_neg (fun h => ek h.symm), Array.getElem?_setIfInBounds_ne (fun h => ek h.symm)]
        have hb : (cs.length ≤ (over cs off (xs.take (min n m * te.size))).length ∧ ∀ l' el' fr', Obj.cells (l.toList.take off ++ zs.take (min n m * te.size) ++ l.toList.drop (off + (zs.take (min n m * te.size)).length)).toArray el (0, 0) = .cells l' el' fr' →
            ∃ l2 el2 fr2, Obj.cells l el (0, 0) = .cells l2 el2 fr2 ∧ l2.size = l'.size) := by
          refine ⟨by rw [over_len hfit]; exact Nat.le_refl _, fun l' el' fr' eq => ⟨l, el, _, rfl, ?_⟩⟩
          cases eq
          have := hnl
          simp only [List.size_toArray, List.length_append, List.length_take, List.length_drop, Array.length_toList] at this hfit ⊢
          omega
        have X' := set_ext K (b := .cells cs) (b' := .cells (over cs off (xs.take (min n m * te.size)))) hm (by simp) h3 hb
        have hB : BR ⟨c.h.setIfInBounds (c.r i) (.cells (l.toList.take off ++ zs.take (min n m * te.size) ++ l.toList.drop (off + (zs.take (min n m * te.size)).length)).toArray el (0, 0)), c.m.set i (.cells (over cs off (xs.take (min n m * te.size)))), c.r⟩ i (.cells (over cs off (xs.take (min n m * te.size)))) := by
          refine ⟨_, el, Array.getElem?_setIfInBounds_self_of_lt (Array.getElem?_eq_some_iff.1 h3).1, ?_⟩
          exact VRs.ext X' _ _ (VRs.over h4 hnew hfit)
        have K' := set_ok K (b := .cells cs) (b' := .cells (over cs off (xs.take (min n m * te.size)))) hm (by simp) h3 hb hB
        have hmem : (s.put i (.cells (over cs off (xs.take (min n m * te.size)))) (xs.take (min n m * te.size))).mem = c.m.set i (.cells (over cs off (xs.take (min n m * te.size)))) := by simp [St.put, hs]
        rw [hset, hmem]
        refine ⟨X', K', by simp only [VR, VT], rfl, rfl, rfl⟩
      · cases h
    · cases h
  · cases h

end
end Go.Pe

namespace Go.Pe
section
variable {D : Dt} {c : Cx} {s : St} {w : World}

theorem zeroT_spec (F : Fit D) {t : Nat} {v : V} (h : zeroT D t = some v) : ∃ z, (zeroValue t).run D.P w = .ok z w ∧ VR c v z := by
  unfold zeroT at h
  split at h
  · rename_i ti hT
    obtain ⟨i, d, z, T⟩ := F.tf hT
    refine ⟨z, T.run_zero w, ?_⟩
    have hz := zero_cells (c := c) T
    split at h
    · rename_i ha
      simp only [Option.some.injEq] at h; subst h
      have := T.agg
      rw [ha] at this
      cases z <;> simp only [isAggV, reduceCtorEq] at this
      simp only [VR]
      exact ⟨_, rfl, by simpa [Value.cells] using hz⟩
    · rename_i ha
      split at h
      · rename_i u hu
        simp only [Option.some.injEq] at h; subst h
        have := T.agg
        simp only [Bool.not_eq_true] at ha
        rw [ha] at this
        rw [hu] at hz
        cases z <;> simp only [isAggV, reduceCtorEq] at this <;> (simp only [Value.cells, VRs] at hz; exact hz.1)
      · cases h
  · cases h

def KeyOk (D : Dt) (c : Cx) (w : World) (d : Nat) : Prop :=
  ∀ (t : Nat) (k : V) (K : Value) (m : Nat) (em : Bool), VR c k K → keyT D d t k = true → d ≤ m → (Instr.checkKey em m t K).run D.P w = .ok () w

theorem keyFields_spec (F : Fit D) {d m : Nat} {em : Bool} (H : KeyOk D c w d) (hm : d ≤ m) {cs : List V} {xs : Array Value} (hx : VRs c cs xs.toList) :
    ∀ gs : List Field, keyParts (keyT D d) D cs (gs.map fun f => (f.type, f.offset, f.name == "_")) = true →
      (forIn gs PUnit.unit fun f _ => if f.name ≠ "_" then do Instr.checkKey em m f.type (← part f.type xs f.offset); pure (ForInStep.yield PUnit.unit) else pure (ForInStep.yield PUnit.unit) : Sem PUnit).run D.P w = .ok PUnit.unit w
  | [], _ => by simp
  | f :: gs, h => by
    simp only [List.map_cons, keyParts, Bool.and_eq_true, Bool.or_eq_true] at h
    have ih := keyFields_spec F H (em := em) hm hx gs h.2
    simp only [List.forIn_cons]
    by_cases hn : f.name = "_"
    · rw [if_neg (by simpa using hn)]
      simpa using ih
    · rw [if_pos hn]
      rcases h.1 with h1 | h1
      · simp at h1; exact absurd h1 hn
      · split at h1
        · rename_i x hp
          obtain ⟨X, h2, h3⟩ := partT_spec F hp hx w
          have := H f.type x X m em h3 h1 hm
          simp only [Sem.run_bind, h2, Result.andThen_ok, this, Sem.run_pure]
          exact ih
        · cases h1

theorem keyItems_spec (F : Fit D) {d m : Nat} {em : Bool} (H : KeyOk D c w d) (hm : d ≤ m) {cs : List V} {xs : Array Value} (hx : VRs c cs xs.toList) {e : Nat} {te : TI} (hte : D.T e = some te) :
    ∀ n i : Nat, keyParts (keyT D d) D cs (elems e te.size n i) = true →
      (forIn (List.range' i n) PUnit.unit fun j _ => do Instr.checkKey em m e (← part e xs (j * (← sizeOf e))); pure (ForInStep.yield PUnit.unit) : Sem PUnit).run D.P w = .ok PUnit.unit w
  | 0, i, _ => by simp
  | n + 1, i, h => by
    simp only [elems, keyParts, Bool.and_eq_true, Bool.or_eq_true, Bool.false_eq_true, false_or] at h
    have ih := keyItems_spec F H (em := em) hm hx hte n (i + 1) h.2
    obtain ⟨i2, d2, z2, T2⟩ := F.tf hte
    simp only [List.range'_succ, List.forIn_cons]
    have h1 := h.1
    split at h1
    · rename_i x hp
      obtain ⟨X, h2, h3⟩ := partT_spec F hp hx w
      have := H e x X m em h3 h1 hm
      simp only [Sem.run_bind, T2.run_size w, h2, Result.andThen_ok, this, Sem.run_pure]
      exact ih
    · cases h1

theorem keyT_spec (F : Fit D) : ∀ d, KeyOk D c w d
  | 0 => fun t k K m em _ h _ => by simp only [keyT, Bool.false_eq_true] at h
  | d + 1 => fun t k K m em hk h hm => by
    have H := keyT_spec F d
    obtain ⟨m, rfl⟩ : ∃ q, m = q + 1 := ⟨m - 1, by omega⟩
    unfold keyT at h
    split at h
    · cases h
    · rename_i ti hT
      obtain ⟨i, td, z, T⟩ := F.tf hT
      split at h
      · rename_i hd; rw [T.d] at hd; obtain rfl := toTD_int hd
        simp only [VR, VT] at hk; subst hk
        simp [Instr.checkKey, run_underlying T.und]
      · rename_i hd; rw [T.d] at hd; obtain rfl := toTD_bool hd
        simp only [VR, VT] at hk; subst hk
        simp [Instr.checkKey, run_underlying T.und]
      · rename_i hd; rw [T.d] at hd; obtain rfl := toTD_str hd
        simp only [VR, VT] at hk; subst hk
        simp [Instr.checkKey, run_underlying T.und]
      · rename_i fs cs hd; rw [T.d] at hd; obtain ⟨gs, rfl, rfl⟩ := toTD_struct hd
        simp only [VR] at hk
        obtain ⟨xs, rfl, hx⟩ := hk
        have := keyFields_spec F H (em := em) (m := m) (by omega) hx gs.toList h
        simp only [Instr.checkKey, Sem.run_bind, run_underlying T.und, Result.andThen_ok]
        rw [← Array.forIn_toList]
        simp at this
        simp
        rw [this]
        rfl
      · rename_i n e cs hd; rw [T.d] at hd; obtain rfl := toTD_array hd
        simp only [VR] at hk
        obtain ⟨xs, rfl, hx⟩ := hk
        split at h
        · rename_i te hte
          have := keyItems_spec F H (em := em) (m := m) (by omega) hx hte n 0 h
          simp only [Instr.checkKey, Sem.run_bind, run_underlying T.und, Result.andThen_ok]
          simp only [Std.Legacy.Range.forIn_eq_forIn_range', Std.Legacy.Range.size, Nat.sub_zero, Nat.add_one_sub_one, Nat.div_one]
          simp at this
          simp
          rw [this]
          rfl
        · cases h
      · cases h

theorem sameNow_spec (F : Fit D) {d t : Nat} {x y : V} {X Y : Value} {b : Bool} (hx : VR c x X) (hy : VR c y Y) (h : eqT D (d + 1) t x y = some b) {td : TypeDesc} (hu : D.P.underlying t = some td) :
    Instr.sameNow td X Y = some b ∨ Instr.sameNow td X Y = none := by
  unfold eqT at h
  split at h
  · cases h
  · rename_i ti hT
    obtain ⟨i, td', z, T⟩ := F.tf hT
    rw [T.und] at hu
    cases hu
    split at h
    · rename_i hd; rw [T.d] at hd; obtain rfl := toTD_bool hd
      simp only [VR, VT] at hx hy; subst hx; subst hy
      exact .inl (by simpa [Instr.sameNow] using h)
    · rename_i hd; rw [T.d] at hd; obtain rfl := toTD_int hd
      simp only [VR, VT] at hx hy; subst hx; subst hy
      split at h
      · rename_i hk
        exact .inl (by simpa [Instr.sameNow, hk] using h)
      · cases h
    · rename_i hd; rw [T.d] at hd; obtain rfl := toTD_str hd
      simp only [VR, VT] at hx hy; subst hx; subst hy
      exact .inl (by simpa [Instr.sameNow, bytes_beq] using h)
    all_goals rename_i hd; rw [T.d] at hd
    · obtain ⟨_, rfl, _⟩ := toTD_iface hd; simp only [VR, VT] at hx; subst hx; exact .inr rfl
    · obtain ⟨_, rfl, _⟩ := toTD_iface hd; simp only [VR, VT] at hx; subst hx; exact .inr rfl
    · obtain ⟨_, rfl, _⟩ := toTD_iface hd; simp only [VR, VT] at hx; obtain ⟨_, rfl, _⟩ := hx; exact .inr rfl
    · obtain ⟨_, rfl, _⟩ := toTD_iface hd; simp only [VR, VT] at hx; obtain ⟨_, rfl, _⟩ := hx; exact .inr rfl
    · obtain ⟨_, rfl, _⟩ := toTD_struct hd; simp only [VR, VT] at hx; obtain ⟨_, rfl, _⟩ := hx; exact .inr rfl
    · obtain rfl := toTD_array hd; simp only [VR, VT] at hx; obtain ⟨_, rfl, _⟩ := hx; exact .inr rfl
    · obtain ⟨_, _, _, rfl⟩ := toTD_func hd; simp only [VR, VT] at hx; subst hx; exact .inr rfl
    · obtain ⟨_, _, _, rfl⟩ := toTD_func hd; simp only [VR, VT] at hx; subst hx; exact .inr rfl
    · obtain ⟨_, _, _, rfl⟩ := toTD_func hd; simp only [VR, VT] at hx; obtain ⟨_, rfl, _⟩ := hx; exact .inr rfl
    · cases h

/-- What was found. -/
def FR (c : Cx) : Option (Nat × V) → Option (Nat × Value) → Prop
  | none, none => True
  | some (i, v), some (j, x) => i = j ∧ VR c v x
  | _, _ => False

theorem findT_spec (F : Fit D) {t : Nat} {k : V} {K : Value} (hk : VR c k K) {td : TypeDesc} (hu : D.P.underlying t = some td) :
    ∀ (es : List (V × V)) (xs : List MapEntry) (i : Nat) (r : Option (Nat × V)), MR c es xs → findT D t k es i = some r →
      ∃ R, FR c r R ∧ (Instr.findAsking t K xs i).run D.P w = .ok R w ∧ (Instr.findNow td K xs i = some R ∨ Instr.findNow td K xs i = none) ∧
        (∀ j v, r = some (j, v) → i ≤ j ∧ j < i + es.length)
  | [], [], i, r, _, h => by
    simp only [findT, Option.some.injEq] at h; subst h
    exact ⟨none, trivial, by simp [Instr.findAsking], .inl rfl, fun _ _ e => by cases e⟩
  | [], _ :: _, _, _, H, _ => by simp only [MR] at H
  | _ :: _, [], _, _, H, _ => by simp only [MR] at H
  | (a, v) :: es, x :: xs, i, r, H, h => by
    simp only [MR] at H
    simp only [findT] at h
    split at h
    · rename_i he
      simp only [Option.some.injEq] at h; subst h
      refine ⟨some (i, x.val), ⟨rfl, H.2.1⟩, ?_, ?_, fun j v e => by cases e; simp⟩
      · have := eqT_spec F Op.maxDepth t k a K x.key true hk H.1 he (w := w)
        simp [Instr.findAsking, Op.equal, this]
      · rcases sameNow_spec F (d := 9999) hk H.1 he hu with h | h
        · exact .inl (by simp [Instr.findNow, h])
        · exact .inr (by simp [Instr.findNow, h])
    · rename_i he
      obtain ⟨R, h1, h2, h3, h4⟩ := findT_spec F hk hu es xs (i + 1) r H.2.2 h
      refine ⟨R, h1, ?_, ?_, fun j v e => by have := h4 j v e; simp; omega⟩
      · have := eqT_spec F Op.maxDepth t k a K x.key false hk H.1 he (w := w)
        simp [Instr.findAsking, Op.equal, this, h2]
      · rcases sameNow_spec F (d := 9999) hk H.1 he hu with h | h
        · simpa [Instr.findNow, h] using h3
        · exact .inr (by simp [Instr.findNow, h])
    · cases h

theorem findKey_spec (F : Fit D) {t : Nat} {k : V} {K : Value} (hk : VR c k K) (hkey : keyT D 6 t k = true) {es : List (V × V)} {xs : List MapEntry} (hm : MR c es xs) {r : Option (Nat × V)} (h : findT D t k es 0 = some r) :
    ∃ R, FR c r R ∧ (Instr.findKey t K xs).run D.P w = .ok R w ∧ (∀ j v, r = some (j, v) → j < es.length) := by
  have hu : ∃ td, D.P.underlying t = some td := by
    unfold keyT at hkey
    split at hkey
    · cases hkey
    · rename_i ti hT
      obtain ⟨i, td, z, T⟩ := F.tf hT
      exact ⟨td, T.und⟩
  obtain ⟨td, hu⟩ := hu
  obtain ⟨R, h1, h2, h3, h4⟩ := findT_spec F hk hu es xs 0 r hm h (w := w)
  refine ⟨R, h1, ?_, fun j v e => by have := h4 j v e; omega⟩
  rcases h3 with h3 | h3
  · simp [Instr.findKey, run_underlying hu, h3]
  · simp [Instr.findKey, run_underlying hu, h3, h2]

/-- What a look-up does when it has the entries. -/
def lookTail (kt et : Nat) (X : Value) (ok : Bool) (xs : Array MapEntry) : Sem Value := do
  Instr.checkKey xs.isEmpty 10000 kt X
  let (v, o) ← match ← Instr.findKey kt X xs.toList with
    | some (_, v) => pure (v, true)
    | none => pure (← zeroValue et, false)
  pure (if ok then .tuple #[v, .bool o] else v)

theorem lookTail_spec (F : Fit D) {kt et : Nat} {k : V} {X : Value} (hk : VR c k X) {ok : Bool} {v : V} {es : List (V × V)} {xs : Array MapEntry} (hmr : MR c es xs.toList) (h : lookV D kt et k ok es = some v) :
    ∃ y, (lookTail kt et X ok xs).run D.P w = .ok y w ∧ VR c v y := by
  unfold lookV at h
  split at h
  · rename_i hkey
    have hck := keyT_spec F 6 kt k X 10000 xs.isEmpty hk hkey (by omega) (w := w)
    split at h
    · rename_i j u hf
      obtain ⟨R, r1, r2, r3⟩ := findKey_spec F hk hkey hmr hf (w := w)
      cases R with
      | none => exact r1.elim
      | some p =>
        obtain ⟨j', x⟩ := p
        obtain ⟨rfl, hv⟩ := r1
        simp only [Option.some.injEq] at h; subst h
        refine ⟨if ok then .tuple #[x, .bool true] else x, by simp [lookTail, hck, r2], ?_⟩
        cases ok
        · exact hv
        · simp only [if_true, VR]
          exact ⟨_, rfl, by simp only [VRs, VR, VT]; exact ⟨hv, trivial, trivial⟩⟩
    · rename_i hf
      obtain ⟨R, r1, r2, r3⟩ := findKey_spec F hk hkey hmr hf (w := w)
      cases R with
      | some p => exact r1.elim
      | none =>
        cases hz : zeroT D et with
        | none => simp [hz] at h
        | some z =>
          obtain ⟨Z, z1, z2⟩ := zeroT_spec F hz (w := w) (c := c)
          simp only [hz, Option.map_some, Option.some.injEq] at h; subst h
          refine ⟨if ok then .tuple #[Z, .bool false] else Z, by simp [lookTail, hck, r2, z1], ?_⟩
          cases ok
          · exact z2
          · simp only [if_true, VR]
            exact ⟨_, rfl, by simp only [VRs, VR, VT]; exact ⟨z2, trivial, trivial⟩⟩
    · cases h
  · cases h

theorem lookupT_spec (F : Fit D) (K : Ok c) (hs : s.mem = c.m) (hw : w.heap = c.h) {t : Nat} {m k : V} {M X : Value} (hm : VR c m M) (hk : VR c k X) {ok : Bool} {v : V} (h : lookupT D s t m k ok = some v) :
    ∃ y, (Instr.lookup t M X ok).run D.P w = .ok y w ∧ VR c v y := by
  unfold lookupT at h
  split at h
  · rename_i kt et hmp
    have hund := mp_spec F hmp
    split at h
    · obtain ⟨y, y1, y2⟩ := lookTail_spec F hk (es := []) (xs := #[]) (by simp only [MR]) h (w := w)
      simp only [VR, VT] at hm; subst hm
      refine ⟨y, ?_, y2⟩
      rw [← y1]
      simp only [Instr.lookup, lookTail, Sem.run_bind, run_underlying hund, Result.andThen_ok, Sem.run_pure]
      generalize Sem.run D.P (Instr.checkKey _ 10000 kt X) w = r1
      cases r1 with
      | halt => rfl
      | ok a w1 =>
        simp only [Result.andThen_ok]
        generalize Sem.run D.P (Instr.findKey kt X _) w1 = r2
        cases r2 with
        | halt => rfl
        | ok a w2 => cases a <;> rfl
    · rename_i i
      split at h
      · rename_i es' hmm
        rw [hs] at hmm
        simp only [VR] at hm
        obtain ⟨_, rfl⟩ := hm
        obtain ⟨l, ck, q1, q2⟩ := K.blk i _ hmm
        obtain ⟨y, y1, y2⟩ := lookTail_spec F hk (xs := l) q2 h (w := w)
        refine ⟨y, ?_, y2⟩
        have hg : (getObj (c.r i)).run D.P w = .ok (.map l ck) w := by simp [getObj, Sem.run, hw, q1]
        rw [← y1]
        simp only [Instr.lookup, lookTail, Sem.run_bind, run_underlying hund, Result.andThen_ok, hg, Sem.run_pure]
        generalize Sem.run D.P (Instr.checkKey _ 10000 kt X) w = r1
        cases r1 with
        | halt => rfl
        | ok a w1 =>
          simp only [Result.andThen_ok]
          generalize Sem.run D.P (Instr.findKey kt X _) w1 = r2
          cases r2 with
          | halt => rfl
          | ok a w2 => cases a <;> rfl
      · cases h
    · cases h
  · cases h

end
end Go.Pe

namespace Go.Pe
section
variable {D : Dt} {c : Cx} {s : St} {w : World}

theorem sameL_spec {f : V → V → Bool} {g : Value → Value → Bool} (H : ∀ a b A B, VR c a A → VR c b B → f a b = true → g A B = true) :
    ∀ (as bs : List V) (xs ys : List Value), VRs c as xs → VRs c bs ys → sameL f as bs = true → xs.length = ys.length ∧ ((xs.zip ys).all fun (x, y) => g x y) = true
  | [], [], [], [], _, _, _ => by simp
  | a :: as, b :: bs, x :: xs, y :: ys, ha, hb, h => by
    simp only [VRs] at ha hb
    simp only [sameL, Bool.and_eq_true] at h
    obtain ⟨h1, h2⟩ := sameL_spec H as bs xs ys ha.2 hb.2 h.2
    exact ⟨by simp [h1], by simp only [List.zip_cons_cons, List.all_cons, H a b x y ha.1 hb.1 h.1, h2]; rfl⟩
  | [], _, _ :: _, _, ha, _, _ => by simp only [VRs] at ha
  | _ :: _, _, [], _, ha, _, _ => by simp only [VRs] at ha
  | _, [], _, _ :: _, _, hb, _ => by simp only [VRs] at hb
  | _, _ :: _, _, [], _, hb, _ => by simp only [VRs] at hb
  | [], _ :: _, _, _, _, _, h => by simp only [sameL, Bool.false_eq_true] at h
  | _ :: _, [], _, _, _, _, h => by simp only [sameL, Bool.false_eq_true] at h

theorem same_spec : ∀ (d : Nat) (a b : V) (A B : Value) (n : Nat), VR c a A → VR c b B → V.same d a b = true → d ≤ n → Instr.sameBits n A B = true
  | d, a, b, A, B, n, ha, hb, h, hn => by
    unfold V.same at h
    split at h
    · simp only [VR, VT] at ha hb; subst ha; subst hb
      cases n <;> simpa [Instr.sameBits] using h
    · simp only [VR, VT] at ha hb; subst ha; subst hb
      cases n <;> simpa [Instr.sameBits] using h
    · simp only [VR, VT] at ha hb; subst ha; subst hb
      cases n <;> simpa [Instr.sameBits, bytes_beq] using h
    · rename_i d as bs
      obtain ⟨n, rfl⟩ : ∃ q, n = q + 1 := ⟨n - 1, by omega⟩
      simp only [VR] at ha hb
      obtain ⟨xs, rfl, ha⟩ := ha
      obtain ⟨ys, rfl, hb⟩ := hb
      obtain ⟨h1, h2⟩ := sameL_spec (g := Instr.sameBits n) (fun a b A B ha hb h => same_spec d a b A B n ha hb h (by omega)) as bs _ _ ha hb h
      simp only [Instr.sameBits, Bool.and_eq_true, beq_iff_eq]
      exact ⟨by simpa using h1, h2⟩
    · cases h

theorem MR.len : ∀ (es : List (V × V)) (xs : List MapEntry), MR c es xs → es.length = xs.length
  | [], [], _ => rfl
  | [], _ :: _, H => by simp only [MR] at H
  | _ :: _, [], H => by simp only [MR] at H
  | (_, _) :: es, x :: xs, H => by
    simp only [MR] at H
    simp [MR.len es xs H.2.2]

theorem MR.get : ∀ (es : List (V × V)) (xs : List MapEntry), MR c es xs → ∀ (j : Nat) (a b : V), es[j]? = some (a, b) → ∃ x, xs[j]? = some x ∧ VR c a x.key ∧ VR c b x.val
  | [], [], _, j, a, b, h => by simp at h
  | [], _ :: _, H, _, _, _, _ => by simp only [MR] at H
  | _ :: _, [], H, _, _, _, _ => by simp only [MR] at H
  | (k, v) :: es, x :: xs, H, 0, a, b, h => by
    simp only [MR] at H
    simp at h
    obtain ⟨rfl, rfl⟩ := h
    exact ⟨x, by simp, H.1, H.2.1⟩
  | (k, v) :: es, x :: xs, H, j + 1, a, b, h => by
    simp only [MR] at H
    simp at h
    obtain ⟨y, h1, h2⟩ := MR.get es xs H.2.2 j a b h
    exact ⟨y, by simpa using h1, h2⟩

theorem MR.set : ∀ (es : List (V × V)) (xs : List MapEntry), MR c es xs → ∀ (j : Nat) (k v : V) (K W : Value), VR c k K → VR c v W → MR c (es.set j (k, v)) (xs.modify j fun e => { e with key := K, val := W })
  | [], [], _, j, _, _, _, _, _, _ => by simp [MR]
  | [], _ :: _, H, _, _, _, _, _, _, _ => by simp only [MR] at H
  | _ :: _, [], H, _, _, _, _, _, _, _ => by simp only [MR] at H
  | (a, b) :: es, x :: xs, H, 0, k, v, K, W, hk, hv => by
    simp only [MR] at H
    simp only [List.set_cons_zero, List.modify_zero_cons, MR]
    exact ⟨hk, hv, H.2.2⟩
  | (a, b) :: es, x :: xs, H, j + 1, k, v, K, W, hk, hv => by
    simp only [MR] at H
    simp only [List.set_cons_succ, List.modify_succ_cons, MR]
    exact ⟨H.1, H.2.1, MR.set es xs H.2.2 j k v K W hk hv⟩

theorem MR.snoc : ∀ (es : List (V × V)) (xs : List MapEntry), MR c es xs → ∀ (k v : V) (x : MapEntry), VR c k x.key → VR c v x.val → MR c (es ++ [(k, v)]) (xs ++ [x])
  | [], [], _, _, _, _, hk, hv => by simp only [List.nil_append, MR]; exact ⟨hk, hv, trivial⟩
  | [], _ :: _, H, _, _, _, _, _ => by simp only [MR] at H
  | _ :: _, [], H, _, _, _, _, _ => by simp only [MR] at H
  | (a, b) :: es, x :: xs, H, k, v, y, hk, hv => by
    simp only [MR] at H
    simp only [List.cons_append, MR]
    exact ⟨H.1, H.2.1, MR.snoc es xs H.2.2 k v y hk hv⟩

theorem updateT_spec (F : Fit D) (K : Ok c) (hs : s.mem = c.m) (hw : w.heap = c.h) {t : Nat} {m k v : V} {M X Y : Value} (hm : VR c m M) (hk : VR c k X) (hv : VR c v Y) {s' : St} (h : updateT D s t m k v = some s') :
    ∃ w', (Instr.mapUpdate t M X Y).run D.P w = .ok () w' ∧ Aft c w s' (.tup []) undef w' := by
  unfold updateT at h
  split at h
  · rename_i kt et i hmp
    have hund := mp_spec F hmp
    simp only [VR] at hm
    obtain ⟨_, rfl⟩ := hm
    split at h
    · rename_i es hmm
      rw [hs] at hmm
      obtain ⟨l, ck, q1, q2⟩ := K.blk i _ hmm
      have hlt := (Array.getElem?_eq_some_iff.1 q1).1
      have hg : (getObj (c.r i)).run D.P w = .ok (.map l ck) w := by simp [getObj, Sem.run, hw, q1]
      split at h
      · rename_i hc
        simp only [Bool.and_eq_true] at hc
        have hck := keyT_spec F 6 kt k X 10000 false hk hc.1 (by omega) (w := w)
        have hset : ∀ o, (setObj (c.r i) o).run D.P w = .ok () { w with heap := w.heap.setIfInBounds (c.r i) o } := fun o => by simp [setObj, Sem.run, hw, q1]
        have fin : ∀ (es' : List (V × V)) (l' : Array MapEntry) (ck' : Nat), MR c es' l'.toList →
            Aft c w (s.put i (.map es') [k, v]) (.tup []) undef { w with heap := w.heap.setIfInBounds (c.r i) (.map l' ck') } := fun es' l' ck' hmr => by
          have X' := set_ext K (b := .map es) (b' := .map es') (o' := .map l' ck') hmm (by simp) q1 trivial
          have hB : BR ⟨c.h.setIfInBounds (c.r i) (.map l' ck'), c.m.set i (.map es'), c.r⟩ i (.map es') :=
            ⟨l', ck', Array.getElem?_setIfInBounds_self_of_lt hlt, MR.ext X' _ _ hmr⟩
          have K' := set_ok K (b := .map es) (b' := .map es') (o' := .map l' ck') hmm (by simp) q1 trivial hB
          refine ⟨c.r, ?_⟩
          have hmem : (s.put i (.map es') [k, v]).mem = c.m.set i (.map es') := by simp [St.put, hs]
          rw [hmem]
          simp only [hw]
          refine ⟨X', K', ?_, trivial, trivial, trivial⟩
          simp only [VR]
          exact ⟨#[], rfl, by simp only [VRs]⟩
        split at h
        · rename_i j u hf
          split at h
          · rename_i a b hj
            split at h
            · rename_i hsame
              simp only [Option.some.injEq] at h; subst h
              obtain ⟨R, r1, r2, r3⟩ := findKey_spec F hk hc.1 q2 hf (w := w)
              cases R with
              | none => exact r1.elim
              | some p =>
                obtain ⟨j', x⟩ := p
                obtain ⟨rfl, _⟩ := r1
                obtain ⟨e, e1, e2, e3⟩ := MR.get _ _ q2 j a b hj
                have hsb := same_spec 4 a k e.key X 10000 e2 hk hsame (by omega)
                have hl : l[j]? = some e := by rw [← Array.getElem?_toList]; exact e1
                refine ⟨_, ?_, fin (es.set j (k, v)) (l.modify j fun e => { e with key := X, val := Y }) ck ?_⟩
                · simp only [Instr.mapUpdate, Sem.run_bind, run_underlying hund, Result.andThen_ok, hg, hck, r2, Instr.keyThatStays, hl, Option.map_some, Option.getD_some, hsb, if_true, Sem.run_pure, hset]
                · rw [Array.toList_modify]
                  exact MR.set _ _ q2 j k v X Y hk hv
            · cases h
          · cases h
        · rename_i hf
          simp only [Option.some.injEq] at h; subst h
          obtain ⟨R, r1, r2, r3⟩ := findKey_spec F hk hc.1 q2 hf (w := w)
          cases R with
          | some p => exact r1.elim
          | none =>
            refine ⟨_, ?_, fin (es ++ [(k, v)]) (l.push { key := X, val := Y, born := ck }) (ck + 1) ?_⟩
            · simp only [Instr.mapUpdate, Sem.run_bind, run_underlying hund, Result.andThen_ok, hg, hck, r2, hset]
            · rw [Array.toList_push]
              exact MR.snoc _ _ q2 k v _ hk hv
        · cases h
      · cases h
    · cases h
  · cases h

theorem makeMap_spec (K : Ok c) (hs : s.mem = c.m) (hw : w.heap = c.h) {q : Option Nat} (t : TypeId) {i : Nat} {s' : St} (h : s.new q (.map []) = some (i, s')) :
    ∃ y w', (Instr.makeMap t none).run D.P w = .ok y w' ∧ Aft c w s' (.mp i) y w' := by
  obtain ⟨h1, h2, h3, h4, h5, h6, h7⟩ := new_spec h
  rw [hs] at h4 h6 h7
  obtain ⟨X', K'⟩ := new_aft (w := w) K hs hw h (.map #[] 0) ⟨#[], 0, by simp [at_same], by simp only [MR]⟩
  refine ⟨.map (some w.heap.size), w.alloc (.map #[] 0), by simp [Instr.makeMap], at_ c.r i c.h.size, X', K', ?_, rfl, rfl, rfl⟩
  simp only [VR]
  exact ⟨⟨[], h3⟩, by simp [at_same, hw]⟩

theorem range_spec (F : Fit D) (K : Ok c) (hs : s.mem = c.m) (hw : w.heap = c.h) {q : Option Nat} {t : Nat} (ht : D.isStr t = true) {l : List UInt8} {i : Nat} {s' : St} (h : s.new q (.iter l 0) = some (i, s')) :
    ∃ y w', (Instr.range t (.string ⟨l.toArray⟩)).run D.P w = .ok y w' ∧ Aft c w s' (.pb i 0 0) y w' := by
  have hund := isStr_spec F ht
  obtain ⟨h1, h2, h3, h4, h5, h6, h7⟩ := new_spec h
  rw [hs] at h4 h6 h7
  obtain ⟨X', K'⟩ := new_aft (w := w) K hs hw h (.stringIter ⟨l.toArray⟩ 0) (by simp [BR, at_same])
  refine ⟨.pointer (some ⟨w.heap.size, 0, none⟩), w.alloc (.stringIter ⟨l.toArray⟩ 0), by simp [Instr.range, run_underlying hund], at_ c.r i c.h.size, X', K', ?_, rfl, rfl, rfl⟩
  simp only [VR, PR, h3]
  exact ⟨⟨_, rfl⟩, fun _ => by simp [at_same, hw]⟩

theorem nextT_spec (K : Ok c) (hs : s.mem = c.m) (hw : w.heap = c.h) {p v : V} {X : Value} (hp : VR c p X) (ty : TypeId) {s' : St} (h : nextT s p = some (v, s')) :
    ∃ y w', (Instr.next X true ty).run D.P w = .ok y w' ∧ Aft c w s' v y w' := by
  unfold nextT at h
  split at h
  · rename_i i e
    split at h
    · rename_i l pos hm
      rw [hs] at hm
      have hB := K.blk i _ hm
      simp only [BR] at hB
      have hlt := (Array.getElem?_eq_some_iff.1 hB).1
      simp only [VR, PR, hm] at hp
      obtain rfl := hp.2 trivial
      have hg : (getObj (c.r i)).run D.P w = .ok (.stringIter ⟨l.toArray⟩ pos) w := by simp [getObj, Sem.run, hw, hB]
      have hset : ∀ o, (setObj (c.r i) o).run D.P w = .ok () { w with heap := w.heap.setIfInBounds (c.r i) o } := fun o => by simp [setObj, Sem.run, hw, hB]
      have hsz : (⟨l.toArray⟩ : ByteArray).size = l.length := by simp [ByteArray.size]
      split at h
      · rename_i hpos
        simp only [Option.some.injEq, Prod.mk.injEq] at h
        obtain ⟨rfl, rfl⟩ := h
        refine ⟨.tuple #[.bool true, .int .i64 pos, .int .i32 (Utf8.decode ⟨l.toArray⟩ pos).1], { w with heap := w.heap.setIfInBounds (c.r i) (.stringIter ⟨l.toArray⟩ (pos + (Utf8.decode ⟨l.toArray⟩ pos).2)) }, ?_, c.r, ?_⟩
        · simp only [Instr.next, Sem.run_bind, hg, Result.andThen_ok, hsz, hpos, if_true, hset, Sem.run_pure]
          rfl
        · have X' := set_ext K (b := .iter l pos) (b' := .iter l (pos + (Utf8.decode ⟨l.toArray⟩ pos).2)) (o' := .stringIter ⟨l.toArray⟩ (pos + (Utf8.decode ⟨l.toArray⟩ pos).2)) hm (by simp) hB trivial
          have K' := set_ok K (b := .iter l pos) (b' := .iter l (pos + (Utf8.decode ⟨l.toArray⟩ pos).2)) (o' := .stringIter ⟨l.toArray⟩ (pos + (Utf8.decode ⟨l.toArray⟩ pos).2)) hm (by simp) hB trivial (by simp only [BR]; exact Array.getElem?_setIfInBounds_self_of_lt hlt)
          simp only [hw, hs]
          refine ⟨X', K', ?_, trivial, trivial, trivial⟩
          simp only [VR]
          exact ⟨_, rfl, by simp only [VRs, VR, VT]; exact ⟨trivial, trivial, trivial, trivial⟩⟩
      · rename_i hpos
        simp only [Option.some.injEq, Prod.mk.injEq] at h
        obtain ⟨rfl, rfl⟩ := h
        refine ⟨.tuple #[.bool false], w, ?_, Aft.same K hw hs ?_⟩
        · simp only [Instr.next, Sem.run_bind, hg, Result.andThen_ok, hsz]
          rw [if_neg hpos]
          rfl
        · simp only [VR]
          exact ⟨_, rfl, by simp only [VRs, VR, VT]; exact ⟨trivial, trivial⟩⟩
    · cases h
  · cases h

theorem assertT_spec (F : Fit D) {t : Nat} (xt : TypeId) {ok : Bool} {x v : V} {X : Value} (hx : VR c x X) (h : assertT D t ok x = some v) :
    ∃ y, (Instr.typeAssert X xt t ok).run D.P w = .ok y w ∧ VR c v y := by
  unfold assertT at h
  split at h
  · rename_i ti u y hT
    obtain ⟨i, td, z, T⟩ := F.tf hT
    split at h
    · cases h
    · rename_i hi
      simp only [VR] at hx
      obtain ⟨Y, rfl, hy⟩ := hx
      have hni : ∀ ms, td ≠ .interface ms := fun ms e => by
        subst e
        rw [T.d] at hi
        exact hi rfl
      split at h
      · rename_i hu
        subst hu
        simp only [Option.some.injEq] at h; subst h
        refine ⟨if ok then .tuple #[Y, .bool true] else Y, ?_, ?_⟩
        · cases td <;> first | exact absurd rfl (hni _) | simp [Instr.typeAssert, run_underlying T.und]
        · cases ok
          · exact hy
          · simp only [if_true, VR]
            exact ⟨_, rfl, by simp only [VRs, VR, VT]; exact ⟨hy, trivial, trivial⟩⟩
      · rename_i hu
        split at h
        · rename_i hok
          subst hok
          cases hz : zeroT D t with
          | none => simp [hz] at h
          | some z' =>
            obtain ⟨Z, z1, z2⟩ := zeroT_spec F hz (w := w) (c := c)
            simp only [hz, Option.map_some, Option.some.injEq] at h; subst h
            refine ⟨.tuple #[Z, .bool false], ?_, ?_⟩
            · cases td <;> first | exact absurd rfl (hni _) | simp [Instr.typeAssert, run_underlying T.und, hu, z1]
            · simp only [VR]
              exact ⟨_, rfl, by simp only [VRs, VR, VT]; exact ⟨z2, trivial, trivial⟩⟩
        · cases h
  · rename_i ti hT
    obtain ⟨i, td, z, T⟩ := F.tf hT
    split at h
    · rename_i hc
      simp only [Bool.and_eq_true, Bool.not_eq_true'] at hc
      obtain ⟨rfl, hi⟩ := hc
      have hni : ∀ ms, td ≠ .interface ms := fun ms e => by
        subst e
        rw [T.d] at hi
        cases hi
      simp only [VR, VT] at hx; subst hx
      cases hz : zeroT D t with
      | none => simp [hz] at h
      | some z' =>
        obtain ⟨Z, z1, z2⟩ := zeroT_spec F hz (w := w) (c := c)
        simp only [hz, Option.map_some, Option.some.injEq] at h; subst h
        refine ⟨.tuple #[Z, .bool false], ?_, ?_⟩
        · cases td <;> first | exact absurd rfl (hni _) | simp [Instr.typeAssert, run_underlying T.und, z1]
        · simp only [VR]
          exact ⟨_, rfl, by simp only [VRs, VR, VT]; exact ⟨z2, trivial, trivial⟩⟩
    · cases h
  · cases h

theorem foldI_spec {f : Int → Int → Int} {g : Value → Value → Sem Value} (H : ∀ (k : IntKind) (a b : Int), g (.int k a) (.int k b) = pure (.int k (f a b))) {k : IntKind} :
    ∀ (a : Int) (vs : List V) (xs : List Value) (v : V), VRs c vs xs → foldI f k a vs = some v → ∃ y, (xs.foldlM g (.int k a)).run D.P w = .ok y w ∧ VR c v y
  | a, [], [], v, _, h => by
    simp only [foldI, Option.some.injEq] at h; subst h
    exact ⟨.int k a, by simp, by simp only [VR, VT]⟩
  | _, [], _ :: _, _, H', _ => by simp only [VRs] at H'
  | _, _ :: _, [], _, H', _ => by simp only [VRs] at H'
  | a, u :: vs, x :: xs, v, H', h => by
    simp only [VRs] at H'
    unfold foldI at h
    split at h
    · rename_i e; cases e
    · rename_i a' k' b rest e
      simp only [List.cons.injEq] at e
      obtain ⟨rfl, rfl⟩ := e
      split at h
      · rename_i hk
        subst hk
        have := H'.1
        simp only [VR, VT] at this; subst this
        obtain ⟨y, y1, y2⟩ := foldI_spec H (f _ b) vs xs v H'.2 h
        exact ⟨y, by simpa [List.foldlM_cons, H] using y1, y2⟩
      · cases h
    · cases h

end
end Go.Pe

namespace Go.Pe
section
variable {D : Dt} {c : Cx} {s : St} {w : World}

/-- What an operation comes to. -/
def Does (D : Dt) (c : Cx) (w : World) (s' : St) (v : V) (r : Result Next) : Prop :=
  ∃ x w', Aft c w s' v x w' ∧ (r = .ok (.value x) w' ∨ (x = undef ∧ r = .ok .skip w'))

theorem Does.val {s' : St} {v : V} {m : Sem Value} {x : Value} {w' : World} (h : m.run D.P w = .ok x w') (A : Aft c w s' v x w') :
    Does D c w s' v ((do pure (.value (← m)) : Sem Next).run D.P w) :=
  ⟨x, w', A, .inl (by simp only [Sem.run_bind, h, Result.andThen_ok, Sem.run_pure])⟩

theorem Does.unit {s' : St} {m : Sem Unit} {w' : World} (h : m.run D.P w = .ok () w') (A : Aft c w s' (.tup []) undef w') :
    Does D c w s' (.tup []) ((do m; pure .skip : Sem Next).run D.P w) :=
  ⟨undef, w', A, .inr ⟨rfl, by simp only [Sem.run_bind, h, Result.andThen_ok, Sem.run_pure]⟩⟩

theorem evs {ρ : Env} {a : Act} (E : ∀ x, VR c (ρ.ev D x) (a.eval x)) : ∀ xs : List Operand, VRs c (xs.map (ρ.ev D)) (xs.map a.eval)
  | [] => by simp only [List.map_nil, VRs]
  | x :: xs => by
    simp only [List.map_cons, VRs]
    exact ⟨E x, evs E xs⟩

theorem parts_fst {ρ : Env} {a : Act} (ps : Array (Nat × Operand)) :
    (ps.toList.map fun (i, x) => (i, ρ.ev D x)).map (·.1) = (ps.map fun (i, x) => (i, a.eval x)).toList.map (·.1) := by
  rw [Array.toList_map]
  generalize ps.toList = l
  induction l with
  | nil => rfl
  | cons p l ih => simp [ih]

theorem parts_snd {ρ : Env} {a : Act} (E : ∀ x, VR c (ρ.ev D x) (a.eval x)) (ps : Array (Nat × Operand)) :
    VRs c ((ps.toList.map fun (i, x) => (i, ρ.ev D x)).map (·.2)) ((ps.map fun (i, x) => (i, a.eval x)).toList.map (·.2)) := by
  rw [Array.toList_map]
  generalize ps.toList = l
  induction l with
  | nil => simp only [List.map_nil, VRs]
  | cons p l ih =>
    simp only [List.map_cons, VRs]
    exact ⟨E p.2, ih⟩

theorem optR {ρ : Env} {a : Act} (E : ∀ x, VR c (ρ.ev D x) (a.eval x)) (o : Option Operand) : OptR c (o.map (ρ.ev D)) (o.map a.eval) := by
  cases o with
  | none => trivial
  | some x => exact E x

theorem opt_pair {α : Type} {o : Option V} {s s' : St} {v : V} (h : o.map (fun x => (x, s)) = some (v, s')) : o = some v ∧ s' = s := by
  cases o with
  | none => cases h
  | some x =>
    simp only [Option.map_some, Option.some.injEq, Prod.mk.injEq] at h
    exact ⟨by rw [h.1], h.2.symm⟩

theorem opT_spec (F : Fit D) (K : Ok c) (hs : s.mem = c.m) (hw : w.heap = c.h) {ρ : Env} {a : Act} (E : ∀ x, VR c (ρ.ev D x) (a.eval x)) {o : Oper} {q : Option Nat} {v : V} {s' : St}
    (h : opT D ρ o q s = some (v, s')) : Does D c w s' v ((execOp a.eval o).run D.P w) := by
  have same : ∀ {u : V} {x : Value}, VR c u x → Aft c w s u x w := fun hu => Aft.same K hw hs hu
  have pure1 : ∀ {u : V} {o' : Option V}, o'.map (fun x => (x, s)) = some (u, s') → o' = some u ∧ s' = s := fun h => opt_pair (α := V) h
  unfold opT at h
  unfold execOp
  split at h
  · -- move
    rename_i x hop
    simp only [Option.some.injEq, Prod.mk.injEq] at h
    obtain ⟨rfl, rfl⟩ := h
    rw [hop]
    exact ⟨_, w, same (E x), .inl rfl⟩
  · rename_i x hop
    simp only [Option.some.injEq, Prod.mk.injEq] at h
    obtain ⟨rfl, rfl⟩ := h
    rw [hop]
    exact ⟨_, w, same (E x), .inl rfl⟩
  · -- pick
    rename_i x y z hop
    split at h
    · rename_i t ht
      simp only [Option.some.injEq, Prod.mk.injEq] at h
      obtain ⟨rfl, rfl⟩ := h
      rw [hop]
      have hx := E x
      rw [ht] at hx
      simp only [VR, VT] at hx
      refine ⟨if t then a.eval y else a.eval z, w, same ?_, .inl ?_⟩
      · cases t
        · exact E z
        · exact E y
      · simp only [hx, asBool, Sem.run_bind, Sem.run_pure, Result.andThen_ok]
    · cases h
  · -- alloc
    rename_i t hop
    split at h
    · rename_i ti hT
      obtain ⟨i, d, z, T⟩ := F.tf hT
      cases hn : s.new q (.cells ti.zero) with
      | none => rw [hn] at h; cases h
      | some p =>
        obtain ⟨j, s2⟩ := p
        rw [hn] at h
        simp only [Option.map_some, Option.some.injEq, Prod.mk.injEq] at h
        obtain ⟨rfl, rfl⟩ := h
        rw [hop]
        refine Does.val ?_ (box_spec K hs hw (zero_cells T) t hn)
        simp only [Instr.alloc, Sem.run_bind, T.run_zero w, Result.andThen_ok, newVar, newRow, run_newObj_alloc, Sem.run_pure]
    · cases h
  · -- box
    rename_i t x hop
    split at h
    · cases h
    · rename_i hany
      cases hn : s.new q (.cells (ρ.ev D x).cells) with
      | none => rw [hn] at h; cases h
      | some p =>
        obtain ⟨j, s2⟩ := p
        rw [hn] at h
        simp only [Option.map_some, Option.some.injEq, Prod.mk.injEq] at h
        obtain ⟨rfl, rfl⟩ := h
        rw [hop]
        refine Does.val ?_ (box_spec K hs hw (VR.cells (E x) hany) t hn)
        simp only [Instr.box, newVar, newRow, Sem.run_bind, run_newObj_alloc, Result.andThen_ok, Sem.run_pure]
  · -- build
    rename_i t ps hop
    have h2 := pure1 h
    clear h
    obtain ⟨h, rfl⟩ := h2
    rw [hop]
    obtain ⟨y, y1, y2⟩ := buildT_spec (w := w) F (parts_fst ps) (parts_snd E ps) h
    exact Does.val y1 (same y2)
  · -- buildSlice
    rename_i t n ps hop
    rw [hop]
    obtain ⟨y, w', y1, y2⟩ := buildSliceT_spec (w := w) F K hs hw (parts_fst ps) (parts_snd E ps) h
    exact Does.val y1 y2
  · -- load
    rename_i t x hop
    have h2 := pure1 h
    clear h
    obtain ⟨h, rfl⟩ := h2
    rw [hop]
    obtain ⟨y, y1, y2⟩ := loadT_spec F K hs hw (E x) h
    exact Does.val y1 (same y2)
  · -- store
    rename_i t x y hop
    cases hst : storeT D s t (ρ.ev D x) (ρ.ev D y) with
    | none => rw [hst] at h; cases h
    | some s2 =>
      rw [hst] at h
      simp only [Option.map_some, Option.some.injEq, Prod.mk.injEq] at h
      obtain ⟨rfl, rfl⟩ := h
      rw [hop]
      obtain ⟨w', y1, y2⟩ := storeT_spec F K hs hw (E x) (E y) hst
      exact Does.unit y1 y2
  · -- nilCheck
    rename_i x hop
    rw [hop]
    have hx := E x
    split at h
    · rename_i i e off he
      simp only [Option.some.injEq, Prod.mk.injEq] at h
      obtain ⟨rfl, rfl⟩ := h
      rw [he] at hx
      refine ⟨a.eval x, w, same hx, .inl ?_⟩
      have : ∃ b, a.eval x = .pointer (some b) := by
        simp only [VR, PR] at hx
        split at hx
        · exact hx.1
        · exact hx.1
        · exact hx.elim
      obtain ⟨b, hb⟩ := this
      simp only [hb, Sem.run_pure]
    · rename_i cs off he
      simp only [Option.some.injEq, Prod.mk.injEq] at h
      obtain ⟨rfl, rfl⟩ := h
      rw [he] at hx
      refine ⟨a.eval x, w, same hx, .inl ?_⟩
      simp only [VR, VT] at hx
      obtain ⟨b, o', l, e, fr, hb, _⟩ := hx
      simp only [hb, Sem.run_pure]
    · rename_i f cap he
      simp only [Option.some.injEq, Prod.mk.injEq] at h
      obtain ⟨rfl, rfl⟩ := h
      rw [he] at hx
      refine ⟨a.eval x, w, same hx, .inl ?_⟩
      simp only [VR] at hx
      obtain ⟨xs, hb, _⟩ := hx
      simp only [hb, Sem.run_pure]
    · cases h
  · -- binOp
    rename_i op t x y u hop
    have h2 := pure1 h
    clear h
    obtain ⟨h, rfl⟩ := h2
    rw [hop]
    obtain ⟨z, z1, z2⟩ := binT_spec (w := w) F (E x) (E y) h
    exact Does.val z1 (same z2)
  · -- unOp
    rename_i op t x hop
    have h2 := pure1 h
    clear h
    obtain ⟨h, rfl⟩ := h2
    rw [hop]
    obtain ⟨z, z1, z2⟩ := unT_spec (D := D) (w := w) (E x) h
    exact Does.val z1 (same z2)
  · -- convert
    rename_i t u x hop
    have h2 := pure1 h
    clear h
    obtain ⟨h, rfl⟩ := h2
    rw [hop]
    obtain ⟨z, z1, z2⟩ := convT_spec F K hs hw (E x) h
    exact Does.val z1 (same z2)
  · -- makeInterface
    rename_i t x hop
    split at h
    · rename_i ti hT
      split at h
      · cases h
      · rename_i hi
        simp only [Option.some.injEq, Prod.mk.injEq] at h
        obtain ⟨rfl, rfl⟩ := h
        rw [hop]
        obtain ⟨i, d, z, T⟩ := F.tf hT
        have hc : D.P.concrete t = true := by
          simp only [Program.concrete, T.und]
          rw [T.d] at hi
          cases d <;> first | rfl | exact absurd rfl hi
        refine Does.val (run_makeInterface w t _ hc) (same ?_)
        simp only [VR]
        exact ⟨_, rfl, E x⟩
    · cases h
  · -- makeFunc
    rename_i f first cap hop
    split at h
    · rename_i hf
      simp only [Option.some.injEq, Prod.mk.injEq] at h
      obtain ⟨rfl, rfl⟩ := h
      rw [hop]
      have hfe : first = #[] := by simpa using hf
      subst hfe
      refine Does.val (x := .func (.func f) #[] (cap.map a.eval)) (by simp [Instr.makeFunc]) (same ?_)
      simp only [VR]
      refine ⟨_, rfl, ?_⟩
      rw [Array.toList_map]
      exact evs E cap.toList
    · cases h
  · -- makeMap
    rename_i t hop
    cases hn : s.new q (.map []) with
    | none => rw [hn] at h; cases h
    | some p =>
      obtain ⟨j, s2⟩ := p
      rw [hn] at h
      simp only [Option.map_some, Option.some.injEq, Prod.mk.injEq] at h
      obtain ⟨rfl, rfl⟩ := h
      rw [hop]
      obtain ⟨y, w', y1, y2⟩ := makeMap_spec (D := D) K hs hw t hn
      exact Does.val y1 y2
  · -- makeSlice
    rename_i t l k hop
    rw [hop]
    obtain ⟨y, w', y1, y2⟩ := makeSliceT_spec F K hs hw (E l) (E k) h
    exact Does.val y1 y2
  · -- slice
    rename_i t x lo hi mx hop
    have h2 := pure1 h
    clear h
    obtain ⟨h, rfl⟩ := h2
    rw [hop]
    obtain ⟨y, y1, y2⟩ := sliceT_spec (w := w) F K hs (E x) (optR E lo) (optR E hi) (optR E mx) h
    exact Does.val y1 (same y2)
  · -- fieldAddr
    rename_i t x f hop
    have h2 := pure1 h
    clear h
    obtain ⟨h, rfl⟩ := h2
    rw [hop]
    obtain ⟨y, y1, y2⟩ := fieldT_spec (w := w) F (E x) h
    exact Does.val y1 (same y2)
  · -- field
    rename_i t x f hop
    split at h
    · rename_i ft off cs hf he
      have h2 := pure1 h
      clear h
      obtain ⟨h, rfl⟩ := h2
      rw [hop]
      obtain ⟨gs, g, g1, g2, g3, g4⟩ := fld_spec F hf
      have hx := E x
      rw [he] at hx
      simp only [VR] at hx
      obtain ⟨xs, hX, hx⟩ := hx
      obtain ⟨y, y1, y2⟩ := partT_spec F h hx w
      refine Does.val (x := y) ?_ (same y2)
      simp only [Instr.field, Sem.run_bind, run_underlying g1, Result.andThen_ok, g2, hX, asAgg, Sem.run_pure]
      rw [g3, g4]
      exact y1
    · cases h
  · -- indexAddr
    rename_i t x i hop
    have h2 := pure1 h
    clear h
    obtain ⟨h, rfl⟩ := h2
    rw [hop]
    obtain ⟨y, y1, y2⟩ := indexAddrT_spec (w := w) F (E x) (E i) h
    exact Does.val y1 (same y2)
  · -- index
    rename_i t x i hop
    have h2 := pure1 h
    clear h
    obtain ⟨h, rfl⟩ := h2
    rw [hop]
    obtain ⟨y, y1, y2⟩ := indexT_spec (w := w) F (E x) (E i) h
    exact Does.val y1 (same y2)
  · -- lookup
    rename_i t m k ok hop
    have h2 := pure1 h
    clear h
    obtain ⟨h, rfl⟩ := h2
    rw [hop]
    obtain ⟨y, y1, y2⟩ := lookupT_spec F K hs hw (E m) (E k) h
    exact Does.val y1 (same y2)
  · -- mapUpdate
    rename_i t m k x hop
    cases hst : updateT D s t (ρ.ev D m) (ρ.ev D k) (ρ.ev D x) with
    | none => rw [hst] at h; cases h
    | some s2 =>
      rw [hst] at h
      simp only [Option.map_some, Option.some.injEq, Prod.mk.injEq] at h
      obtain ⟨rfl, rfl⟩ := h
      rw [hop]
      obtain ⟨w', y1, y2⟩ := updateT_spec F K hs hw (E m) (E k) (E x) hst
      exact Does.unit y1 y2
  · rename_i t m k x hop
    cases hst : updateT D s t (ρ.ev D m) (ρ.ev D k) (ρ.ev D x) with
    | none => rw [hst] at h; cases h
    | some s2 =>
      rw [hst] at h
      simp only [Option.map_some, Option.some.injEq, Prod.mk.injEq] at h
      obtain ⟨rfl, rfl⟩ := h
      rw [hop]
      obtain ⟨w', y1, y2⟩ := updateT_spec F K hs hw (E m) (E k) (E x) hst
      exact Does.unit y1 y2
  · -- range
    rename_i t x hop
    split at h
    · rename_i l he
      split at h
      · rename_i ht
        cases hn : s.new q (.iter l 0) with
        | none => rw [hn] at h; cases h
        | some p =>
          obtain ⟨j, s2⟩ := p
          rw [hn] at h
          simp only [Option.map_some, Option.some.injEq, Prod.mk.injEq] at h
          obtain ⟨rfl, rfl⟩ := h
          rw [hop]
          have hx := E x
          rw [he] at hx
          simp only [VR, VT] at hx
          simp only [hx]
          obtain ⟨y, w', y1, y2⟩ := range_spec F K hs hw ht hn
          exact Does.val y1 y2
      · cases h
    · cases h
  · -- next
    rename_i p hop
    rw [hop]
    obtain ⟨y, w', y1, y2⟩ := nextT_spec (D := D) K hs hw (E p) o.type h
    exact Does.val y1 y2
  · -- typeAssert
    rename_i x xt t ok hop
    have h2 := pure1 h
    clear h
    obtain ⟨h, rfl⟩ := h2
    rw [hop]
    obtain ⟨y, y1, y2⟩ := assertT_spec (w := w) F xt (E x) h
    exact Does.val y1 (same y2)
  · -- extract
    rename_i x i hop
    split at h
    · rename_i vs he
      have h2 := pure1 h
      clear h
      obtain ⟨h, rfl⟩ := h2
      rw [hop]
      have hx := E x
      rw [he] at hx
      simp only [VR] at hx
      obtain ⟨xs, hX, hx⟩ := hx
      obtain ⟨y, y1, y2⟩ := VRs.get _ _ hx i v h
      refine Does.val (x := y) ?_ (same y2)
      have : xs[i]? = some y := by rw [← Array.getElem?_toList]; exact y1
      simp only [Instr.extract, hX, this, Sem.run_pure]
    · cases h
  · -- builtins
    rename_i b args ts hop
    rw [hop]
    have hE := evs E args.toList
    have hres : ∀ (m : Sem Value), (∀ cs, builtin b ts o.type cs (args.map a.eval) = (do pure (.value (← m)) : Sem Next)) →
        ((do let d ← resolve a.eval { callee := .builtin b, args, argTypes := ts } o.type; invoke d.target d.args : Sem Next).run D.P w = (do pure (.value (← m)) : Sem Next).run D.P w) := fun m hm => by
      simp only [resolve, Sem.run_bind, Sem.run_pure, Result.andThen_ok, invoke]
      rw [hm]
      simp only [Sem.run_bind, Sem.run_pure]
    unfold builtinT at h
    split at h
    · rename_i x hx
      have hargs : ∃ ox, args = #[ox] := by
        obtain ⟨l⟩ := args
        match l, hx with
        | [ox], _ => exact ⟨ox, rfl⟩
      obtain ⟨ox, rfl⟩ := hargs
      simp only [List.map_cons, List.map_nil, List.cons.injEq, and_true] at hx
      subst hx
      split at h
      · rename_i t ht
        have h2 := pure1 h
        clear h
        obtain ⟨h, rfl⟩ := h2
        obtain ⟨y, y1, y2⟩ := lenT_spec F K hs hw ht o.type (E ox) h
        rw [hres (Builtin.len_ ts o.type #[a.eval ox]) (fun _ => by simp only [builtin, List.map_toArray, List.map_cons, List.map_nil])]
        exact Does.val y1 (same y2)
      · cases h
    · rename_i x y hx
      have hargs : ∃ ox oy, args = #[ox, oy] := by
        obtain ⟨l⟩ := args
        match l, hx with
        | [ox, oy], _ => exact ⟨ox, oy, rfl⟩
      obtain ⟨ox, oy, rfl⟩ := hargs
      simp only [List.map_cons, List.map_nil, List.cons.injEq, and_true] at hx
      obtain ⟨rfl, rfl⟩ := hx
      obtain ⟨y, w', y1, y2⟩ := appendT_spec F K hs hw o.type (E ox) (E oy) h
      rw [hres (Builtin.append_ ts o.type #[a.eval ox, a.eval oy]) (fun _ => by simp only [builtin, List.map_toArray, List.map_cons, List.map_nil])]
      exact Does.val y1 y2
    · rename_i x y hx
      have hargs : ∃ ox oy, args = #[ox, oy] := by
        obtain ⟨l⟩ := args
        match l, hx with
        | [ox, oy], _ => exact ⟨ox, oy, rfl⟩
      obtain ⟨ox, oy, rfl⟩ := hargs
      simp only [List.map_cons, List.map_nil, List.cons.injEq, and_true] at hx
      obtain ⟨rfl, rfl⟩ := hx
      obtain ⟨y, w', y1, y2⟩ := copyT_spec F K hs hw o.type (E ox) (E oy) h
      rw [hres (Builtin.copy_ ts o.type #[a.eval ox, a.eval oy]) (fun _ => by simp only [builtin, List.map_toArray, List.map_cons, List.map_nil])]
      exact Does.val y1 y2
    · rename_i args'
      have h2 := pure1 h
      clear h
      obtain ⟨h, rfl⟩ := h2
      rw [hres (Builtin.min_ ts o.type (args.map a.eval)) (fun _ => rfl)]
      unfold minmaxT at h
      split at h
      · rename_i k n rest hx
        obtain ⟨l⟩ := args
        match l, hx, hE with
        | ox :: os, hx, hE =>
          simp only [List.map_cons, List.cons.injEq] at hx
          simp only [List.map_cons, VRs] at hE
          have h1 := hE.1
          rw [hx.1] at h1
          simp only [VR, VT] at h1
          obtain ⟨y, y1, y2⟩ := foldI_spec (D := D) (w := w) (g := Builtin.min2) (f := fun x y => if y < x then y else x) (fun k a b => rfl) n _ _ v hE.2 (by rw [hx.2]; exact h)
          refine Does.val (x := y) ?_ (same y2)
          simp only [Builtin.min_, List.map_toArray, List.map_cons, h1]
          exact y1
      · cases h
    · rename_i args'
      have h2 := pure1 h
      clear h
      obtain ⟨h, rfl⟩ := h2
      rw [hres (Builtin.max_ ts o.type (args.map a.eval)) (fun _ => rfl)]
      unfold minmaxT at h
      split at h
      · rename_i k n rest hx
        obtain ⟨l⟩ := args
        match l, hx, hE with
        | ox :: os, hx, hE =>
          simp only [List.map_cons, List.cons.injEq] at hx
          simp only [List.map_cons, VRs] at hE
          have h1 := hE.1
          rw [hx.1] at h1
          simp only [VR, VT] at h1
          obtain ⟨y, y1, y2⟩ := foldI_spec (D := D) (w := w) (g := Builtin.max2) (f := fun x y => if y > x then y else x) (fun k a b => rfl) n _ _ v hE.2 (by rw [hx.2]; exact h)
          refine Does.val (x := y) ?_ (same y2)
          simp only [Builtin.max_, List.map_toArray, List.map_cons, h1]
          exact y1
      · cases h
    · cases h
  · cases h

end
end Go.Pe

namespace Go.Pe

mutual
theorem V.low_of_up {i k : Nat} (h : i < k) : ∀ v : V, v.up i = false → v.low k = true
  | .pb .., e | .so .., e | .mp _, e => by simp only [V.up, decide_eq_false_iff_not] at e; simp only [V.low, decide_eq_true_eq]; omega
  | .agg cs, e | .tup cs, e | .fn _ cs, e => by simp only [V.up] at e; simp only [V.low]; exact V.lowL_of_up h cs e
  | .iface _ v, e => by simp only [V.up] at e; simp only [V.low]; exact V.low_of_up h v e
  | .any, _ | .bool _, _ | .int .., _ | .str _, _ | .nilp, _ | .pt .., _ | .sn, _ | .st .., _ | .mn, _ | .fnil, _ | .inil, _ => by simp only [V.low]
theorem V.lowL_of_up {i k : Nat} (h : i < k) : ∀ vs : List V, V.upL i vs = false → V.lowL k vs = true
  | [], _ => by simp only [V.lowL]
  | v :: vs, e => by
    simp only [V.upL, Bool.or_eq_false_iff] at e
    simp only [V.lowL, Bool.and_eq_true]
    exact ⟨V.low_of_up h v e.1, V.lowL_of_up h vs e.2⟩
end

mutual
theorem V.low_mono {i k : Nat} (h : i ≤ k) : ∀ v : V, v.low i = true → v.low k = true
  | .pb .., e | .so .., e | .mp _, e => by simp only [V.low, decide_eq_true_eq] at e ⊢; omega
  | .agg cs, e | .tup cs, e | .fn _ cs, e => by simp only [V.low] at e ⊢; exact V.lowL_mono h cs e
  | .iface _ v, e => by simp only [V.low] at e ⊢; exact V.low_mono h v e
  | .any, _ | .bool _, _ | .int .., _ | .str _, _ | .nilp, _ | .pt .., _ | .sn, _ | .st .., _ | .mn, _ | .fnil, _ | .inil, _ => by simp only [V.low]
theorem V.lowL_mono {i k : Nat} (h : i ≤ k) : ∀ vs : List V, V.lowL i vs = true → V.lowL k vs = true
  | [], _ => by simp only [V.lowL]
  | v :: vs, e => by
    simp only [V.lowL, Bool.and_eq_true] at e ⊢
    exact ⟨V.low_mono h v e.1, V.lowL_mono h vs e.2⟩
end

theorem lowL_iff {k : Nat} : ∀ vs : List V, V.lowL k vs = true ↔ ∀ v ∈ vs, v.low k = true
  | [] => by simp [V.lowL]
  | v :: vs => by simp [V.lowL, lowL_iff vs]

def lowE (k : Nat) (es : List (V × V)) : Bool := es.all fun e => e.1.low k && e.2.low k

def Blk.low (k : Nat) : Blk → Bool
  | .cells cs => V.lowL k cs
  | .map es => lowE k es
  | _ => true

/-- The blocks below L lead below k. -/
def Q (k L : Nat) (m : List Blk) : Prop := ∀ j b, j < L → m[j]? = some b → b.low k = true

/-- What a step keeps. -/
structure LoKeep (s s' : St) : Prop where
  le : s'.lo ≤ s.lo
  len : s.mem.length ≤ s'.mem.length
  q : ∀ k K, K ≤ k → Q k (min K s.lo) s.mem → Q k (min K s'.lo) s'.mem

theorem LoKeep.refl (s : St) : LoKeep s s := ⟨Nat.le_refl _, Nat.le_refl _, fun _ _ _ h => h⟩
theorem LoKeep.trans {a b c : St} (h : LoKeep a b) (g : LoKeep b c) : LoKeep a c :=
  ⟨Nat.le_trans g.le h.le, Nat.le_trans h.len g.len, fun k K hK h' => g.q k K hK (h.q k K hK h')⟩

theorem new_lo {s s' : St} {q : Option Nat} {b : Blk} {i : Nat} (h : s.new q b = some (i, s')) (hlo : s.lo ≤ s.mem.length) (hq : ∀ j, q = some j → s.lo ≤ j) : LoKeep s s' := by
  obtain ⟨h1, h2, h3, h4, h5, h6, h7⟩ := new_spec h
  have hi : s.lo ≤ i := by
    unfold St.new at h
    split at h
    · simp only [Option.some.injEq, Prod.mk.injEq] at h
      omega
    · rename_i j
      split at h
      · simp only [Option.some.injEq, Prod.mk.injEq] at h
        have := hq j rfl
        omega
      · cases h
  refine ⟨by omega, h7, fun k K hK H j b' hj hb' => ?_⟩
  rw [h2] at hj
  rw [h6 j (by omega)] at hb'
  exact H j b' hj hb'

theorem put_lo {s : St} {i : Nat} {b b' : Blk} {new : List V} (hb : s.mem[i]? = some b) (hn : ∀ k, b.low k = true → V.lowL k new = true → b'.low k = true) : LoKeep s (s.put i b' new) := by
  have hi := (List.getElem?_eq_some_iff.1 hb).1
  refine ⟨?_, by simp [St.put], fun k K hK H j bj hj hbj => ?_⟩
  · simp only [St.put]
    split
    · rename_i h
      simp only [Bool.and_eq_true, decide_eq_true_eq] at h
      omega
    · exact Nat.le_refl _
  · simp only [St.put] at hj hbj
    by_cases e : j = i
    · subst e
      simp only [List.getElem?_set_self hi, Option.some.injEq] at hbj
      subst hbj
      split at hj
      · omega
      · rename_i h
        simp only [Bool.and_eq_true, decide_eq_true_eq, not_and, Bool.not_eq_true] at h
        have hlt : j < s.lo := by omega
        refine hn k (H j b (by omega) hb) (V.lowL_of_up (i := j) (by omega) new (h hlt))
    · rw [List.getElem?_set_ne (fun h => e h.symm)] at hbj
      refine H j bj ?_ hbj
      split at hj
      · rename_i h
        simp only [Bool.and_eq_true, decide_eq_true_eq] at h
        omega
      · exact hj

theorem low_take {k n : Nat} {cs : List V} (h : V.lowL k cs = true) : V.lowL k (cs.take n) = true := by
  rw [lowL_iff] at *
  exact fun v hv => h v (List.mem_of_mem_take hv)

theorem low_drop {k n : Nat} {cs : List V} (h : V.lowL k cs = true) : V.lowL k (cs.drop n) = true := by
  rw [lowL_iff] at *
  exact fun v hv => h v (List.mem_of_mem_drop hv)

theorem low_append {k : Nat} {cs ds : List V} (h : V.lowL k cs = true) (g : V.lowL k ds = true) : V.lowL k (cs ++ ds) = true := by
  rw [lowL_iff] at *
  intro v hv
  rcases List.mem_append.1 hv with hv | hv
  · exact h v hv
  · exact g v hv

theorem low_over {k off : Nat} {cs new : List V} (h : V.lowL k cs = true) (g : V.lowL k new = true) : V.lowL k (over cs off new) = true :=
  low_append (low_append (low_take h) g) (low_drop h)

theorem iter_lo {s : St} {i : Nat} {l' : List UInt8} {p' : Nat} : LoKeep s { s with mem := s.mem.set i (.iter l' p') } := by
  refine ⟨Nat.le_refl _, by simp, fun k K hK H j bj hj hbj => ?_⟩
  by_cases e : j = i
  · subst e
    simp only [List.getElem?_set] at hbj
    simp only [if_true] at hbj
    split at hbj
    · simp only [Option.some.injEq] at hbj
      subst hbj
      rfl
    · cases hbj
  · rw [List.getElem?_set_ne (fun h => e h.symm)] at hbj
    exact H j bj hj hbj

theorem map_new {α : Type} {f : Nat × St → V × St} {o : Option (Nat × St)} {v : V} {s' : St} (h : o.map f = some (v, s')) (hf : ∀ p, (f p).2 = p.2) : ∃ i, o = some (i, s') := by
  cases o with
  | none => cases h
  | some p =>
    simp only [Option.map_some, Option.some.injEq] at h
    have := hf p
    rw [h] at this
    simp only at this
    exact ⟨p.1, by rw [this]⟩

theorem lowE_iff {k : Nat} {es : List (V × V)} : lowE k es = true ↔ ∀ e ∈ es, e.1.low k = true ∧ e.2.low k = true := by
  simp [lowE, List.all_eq_true]

theorem up_lo {D : Dt} {s s' : St} {t : Nat} {m k v : V} (h : updateT D s t m k v = some s') : LoKeep s s' := by
  unfold updateT at h
  split at h
  · split at h
    · rename_i es hm
      split at h
      · split at h
        · split at h
          · split at h
            · simp only [Option.some.injEq] at h
              rw [← h]
              refine put_lo hm fun q h g => ?_
              simp only [V.lowL, Bool.and_eq_true, Bool.true_and, and_true] at g
              simp only [Blk.low, lowE_iff] at h ⊢
              intro e he
              rcases List.mem_or_eq_of_mem_set he with he | rfl
              · exact h e he
              · exact g
            · cases h
          · cases h
        · simp only [Option.some.injEq] at h
          rw [← h]
          refine put_lo hm fun q h g => ?_
          simp only [V.lowL, Bool.and_eq_true, Bool.true_and, and_true] at g
          simp only [Blk.low, lowE_iff] at h ⊢
          intro e he
          rcases List.mem_append.1 he with he | he
          · exact h e he
          · rw [List.mem_singleton] at he
            subst he
            exact g
        · cases h
      · cases h
    · cases h
  · cases h

theorem opT_lo {D : Dt} {ρ : Env} {o : Oper} {q : Option Nat} {s s' : St} {v : V} (h : opT D ρ o q s = some (v, s')) (hlo : s.lo ≤ s.mem.length) (hq : ∀ j, q = some j → s.lo ≤ j) : LoKeep s s' := by
  have idm : ∀ {o' : Option V}, o'.map (fun x => (x, s)) = some (v, s') → LoKeep s s' := fun h => by rw [(opt_pair (α := V) h).2]; exact LoKeep.refl s
  have nw : ∀ {f : Nat × St → V × St} {b : Blk}, (s.new q b).map f = some (v, s') → (∀ p, (f p).2 = p.2) → LoKeep s s' := fun h hf => by
    obtain ⟨i, hi⟩ := map_new (α := V) h hf
    exact new_lo hi hlo hq
  have cells : ∀ {i e : Nat} {cs new : List V} {off : Nat}, s.live i e = some cs → LoKeep s (s.put i (.cells (over cs off new)) new) := fun hl =>
    put_lo (live_spec hl).1 fun k h g => low_over h g
  unfold opT at h
  split at h
  · simp only [Option.some.injEq, Prod.mk.injEq] at h; rw [← h.2]; exact LoKeep.refl s
  · simp only [Option.some.injEq, Prod.mk.injEq] at h; rw [← h.2]; exact LoKeep.refl s
  · split at h
    · simp only [Option.some.injEq, Prod.mk.injEq] at h; rw [← h.2]; exact LoKeep.refl s
    · cases h
  · split at h
    · exact nw h fun _ => rfl
    · cases h
  · split at h
    · cases h
    · exact nw h fun _ => rfl
  · exact idm h
  · unfold buildSliceT at h
    split at h
    · split at h
      · split at h
        · split at h
          · exact nw h fun _ => rfl
          · simp only [Option.some.injEq, Prod.mk.injEq] at h; rw [← h.2]; exact LoKeep.refl s
        · cases h
      · cases h
    · cases h
  · exact idm h
  · rename_i t x y hop
    cases hst : storeT D s t (ρ.ev D x) (ρ.ev D y) with
    | none => rw [hst] at h; cases h
    | some s2 =>
      rw [hst] at h
      simp only [Option.map_some, Option.some.injEq, Prod.mk.injEq] at h
      obtain ⟨_, rfl⟩ := h
      unfold storeT at hst
      split at hst
      · split at hst
        · rename_i hl
          split at hst
          · simp only [Option.some.injEq] at hst
            subst hst
            exact cells hl
          · cases hst
        · cases hst
      · cases hst
  · split at h <;> first | (simp only [Option.some.injEq, Prod.mk.injEq] at h; rw [← h.2]; exact LoKeep.refl s) | cases h
  · exact idm h
  · exact idm h
  · exact idm h
  · split at h
    · split at h
      · cases h
      · simp only [Option.some.injEq, Prod.mk.injEq] at h; rw [← h.2]; exact LoKeep.refl s
    · cases h
  · split at h
    · simp only [Option.some.injEq, Prod.mk.injEq] at h; rw [← h.2]; exact LoKeep.refl s
    · cases h
  · exact nw h fun _ => rfl
  · unfold makeSliceT at h
    split at h
    · split at h
      · exact nw h fun _ => rfl
      · cases h
    · cases h
  · exact idm h
  · exact idm h
  · split at h
    · exact idm h
    · cases h
  · exact idm h
  · exact idm h
  · exact idm h
  · rename_i t m k x hop
    cases hst : updateT D s t (ρ.ev D m) (ρ.ev D k) (ρ.ev D x) with
    | none => rw [hst] at h; cases h
    | some s2 =>
      rw [hst] at h
      simp only [Option.map_some, Option.some.injEq, Prod.mk.injEq] at h
      obtain ⟨_, rfl⟩ := h
      exact up_lo hst
  · rename_i t m k x hop
    cases hst : updateT D s t (ρ.ev D m) (ρ.ev D k) (ρ.ev D x) with
    | none => rw [hst] at h; cases h
    | some s2 =>
      rw [hst] at h
      simp only [Option.map_some, Option.some.injEq, Prod.mk.injEq] at h
      obtain ⟨_, rfl⟩ := h
      exact up_lo hst
  · split at h
    · split at h
      · exact nw h fun _ => rfl
      · cases h
    · cases h
  · unfold nextT at h
    split at h
    · split at h
      · split at h
        · simp only [Option.some.injEq, Prod.mk.injEq] at h
          rw [← h.2]
          exact iter_lo
        · simp only [Option.some.injEq, Prod.mk.injEq] at h; rw [← h.2]; exact LoKeep.refl s
      · cases h
    · cases h
  · exact idm h
  · split at h
    · exact idm h
    · cases h
  · unfold builtinT at h
    split at h
    · split at h
      · exact idm h
      · cases h
    · unfold appendT at h
      split at h
      · cases h
      split at h
      · cases h
      split at h
      · cases h
      split at h
      · cases h
      split at h
      · cases h
      split at h
      · split at h
        · simp only [Option.some.injEq, Prod.mk.injEq] at h; rw [← h.2]; exact LoKeep.refl s
        · split at h
          · exact nw h fun _ => rfl
          · cases h
      · split at h
        · simp only [Option.some.injEq, Prod.mk.injEq] at h; rw [← h.2]; exact LoKeep.refl s
        · split at h
          · exact nw h fun _ => rfl
          · cases h
      · split at h
        · cases h
        · rename_i hl
          split at h
          · split at h
            · simp only [Option.some.injEq, Prod.mk.injEq] at h; rw [← h.2]; exact LoKeep.refl s
            · simp only [Option.some.injEq, Prod.mk.injEq] at h
              rw [← h.2]
              exact put_lo (live_spec hl).1 fun k h g => low_append h g
          · cases h
      · cases h
    · unfold copyT at h
      split at h
      · cases h
      split at h
      · cases h
      split at h
      · cases h
      split at h
      · cases h
      split at h
      · split at h
        · rename_i hl
          simp only at h
          split at h
          · simp only [Option.some.injEq, Prod.mk.injEq] at h
            rw [← h.2]
            exact cells hl
          · cases h
        · cases h
      · cases h
    · exact idm h
    · exact idm h
    · cases h
  · cases h
end Go.Pe

namespace Go.Pe

/-- Do all operations of a code write to slots that are there? -/
def codeOk (n : Nat) : Code → Bool
  | .region _ ops _ => ops.all fun o => match o.dst with | some d => decide (d < n) | none => true
  | .seq a b | .cond _ a b => codeOk n a && codeOk n b
  | .block _ c | .loop c | .scope c => codeOk n c
  | _ => true

def fnOk (fn : Func) : Bool :=
  !(fn.name == "runtime.NumGoroutine") && match fn.body with
    | some c => codeOk fn.ntmps c
    | none => true

/-- What is asked of the program. -/
structure Good (D : Dt) : Prop where
  fit : Fit D
  mixed : D.P.follows .mixedOrders = true
  fns : ∀ (f : Nat) (fn : Func), D.P.funcs[f]? = some fn → fnOk fn = true

theorem pad_lo (s : St) (ops : Array Oper) : LoKeep s (s.pad ops) := by
  refine ⟨Nat.le_refl _, by simp [St.pad], fun k K hK H j b hj hb => ?_⟩
  simp only [St.pad] at hb hj
  by_cases h : j < s.mem.length
  · rw [List.getElem?_append_left h] at hb
    exact H j b hj hb
  · rw [List.getElem?_append_right (by omega)] at hb
    have := List.mem_of_getElem? hb
    rw [List.mem_replicate] at this
    rw [this.2]
    rfl

theorem leave_lo {n lo : Nat} {v : V} {s s1 : St} (hn : n = s.mem.length) (hlo : lo = s.lo) (h : LoKeep { s with lo := s.mem.length } s1) (hle : s.lo ≤ s.mem.length) : LoKeep s (leave n lo v s1).2 := by
  subst hn; subst hlo
  have hlen : s.mem.length ≤ s1.mem.length := h.len
  have base : ∀ k K, K ≤ k → Q k (min K s.lo) s.mem → Q k (min (min K s.lo) s1.lo) s1.mem := fun k K hK H =>
    h.q k (min K s.lo) (by omega) (by
      have : min (min K s.lo) s.mem.length = min K s.lo := by omega
      simp only [this]; exact H)
  have keep : ∀ s2 : St, s2.mem = s1.mem → s2.lo = min s.lo s1.lo → LoKeep s s2 := fun s2 e1 e2 =>
    ⟨by omega, by rw [e1]; exact hlen, fun k K hK H => by
      rw [e1, e2]
      have := base k K hK H
      rwa [show min (min K s.lo) s1.lo = min K (min s.lo s1.lo) by omega] at this⟩
  unfold leave
  split
  · exact keep _ rfl rfl
  · rename_i hge
    have hlo1 : s1.lo = s.mem.length := by have := h.le; simp only at this; omega
    have cut : LoKeep s { mem := s1.mem.take s.mem.length, lo := s.lo } := by
      refine ⟨Nat.le_refl _, by simp; omega, fun k K hK H j b hj hb => ?_⟩
      simp only at hj hb
      have := base k K hK H
      rw [List.getElem?_take] at hb
      split at hb
      · exact this j b (by omega) hb
      · cases hb
    split
    · exact cut
    · refine keep _ rfl ?_
      simp only
      omega

theorem scope_lo {s s1 : St} (h : LoKeep ⟨s.mem, s.mem.length⟩ s1) (hle : s.lo ≤ s.mem.length) (hge : s.mem.length ≤ s1.lo) : LoKeep s ⟨s1.mem.take s.mem.length, s.lo⟩ := by
  have hlen : s.mem.length ≤ s1.mem.length := h.len
  refine ⟨Nat.le_refl _, by simp; omega, fun k K hK H j b hj hb => ?_⟩
  simp only at hj hb
  have := h.q k (min K s.lo) (by omega) (by
    have : min (min K s.lo) s.mem.length = min K s.lo := by omega
    simp only [this]; exact H)
  rw [List.getElem?_take] at hb
  split at hb
  · exact this j b (by omega) hb
  · cases hb

mutual
theorem loC {D : Dt} : ∀ {c ρ s x ρ' s'}, EvC D c ρ s x ρ' s' → s.lo ≤ s.mem.length → LoKeep s s'
  | _, _, s, _, _, _, .skip, _ | _, _, s, _, _, _, .label, _ | _, _, s, _, _, _, .exit, _ | _, _, s, _, _, _, .ret, _ => LoKeep.refl s
  | _, _, _, _, _, _, .seqN h1 h2, hl => by
    have k1 := loC h1 hl
    exact k1.trans (loC h2 (by have := k1.le; have := k1.len; omega))
  | _, _, _, _, _, _, .seqX h1 _, hl => loC h1 hl
  | _, _, _, _, _, _, .cond _ h1, hl => loC h1 hl
  | _, _, _, _, _, _, .block h1, hl => loC h1 hl
  | _, _, _, _, _, _, .loopN h1 h2, hl => by
    have k1 := loC h1 hl
    exact k1.trans (loC h2 (by have := k1.le; have := k1.len; omega))
  | _, _, _, _, _, _, .loopX h1 _, hl => loC h1 hl
  | _, _, _, _, _, _, .region h1, hl => loR h1 (fun _ e => by cases e) hl
  | _, _, s, _, _, _, .draw (ops := ops) h1, hl => by
    have k1 := pad_lo s ops
    exact k1.trans (loR (h1 0) (fun b e => by cases e; exact hl) (by have := k1.len; exact Nat.le_trans hl this))
  | _, _, s, _, _, _, .scope h1 hge, hl => scope_lo (loC h1 (Nat.le_refl _)) hl hge
theorem loR {D : Dt} : ∀ {ops b l ρ s ρ' s'}, EvR D ops b l ρ s ρ' s' → (∀ n, b = some n → s.lo ≤ n) → s.lo ≤ s.mem.length → LoKeep s s'
  | _, _, _, _, s, _, _, .nil, _, _ => LoKeep.refl s
  | _, _, _, _, _, _, _, .none _ h, hb, hl => loR h hb hl
  | _, _, _, _, _, _, _, .skip _ _ h, hb, hl => loR h hb hl
  | _, b, _, _, _, _, _, .op (i := i) _ _ ho h, hb, hl => by
    have k1 := opT_lo ho hl (fun j e => by
      obtain ⟨n, hn, hle⟩ := slot_some e
      have := hb n hn
      omega)
    exact k1.trans (loR h (fun n e => Nat.le_trans k1.le (hb n e)) (Nat.le_trans k1.le (Nat.le_trans hl k1.len)))
  | _, _, _, _, _, _, _, .call _ _ _ hf h, hb, hl => by
    have k1 := loF hf hl
    exact k1.trans (loR h (fun n e => Nat.le_trans k1.le (hb n e)) (Nat.le_trans k1.le (Nat.le_trans hl k1.len)))
theorem loF {D : Dt} : ∀ {f args s v s'}, EvF D f args s v s' → s.lo ≤ s.mem.length → LoKeep s s'
  | _, _, _, _, _, .mk _ _ _ h _ _, hl => leave_lo rfl rfl (loC h (Nat.le_refl _)) hl
end

end Go.Pe

namespace Go.Pe

mutual
theorem VR.low {c : Cx} : ∀ (v : V) (x : Value), VR c v x → v.low c.m.length = true
  | .pb i e o, x, h => by
    simp only [VR, PR] at h
    simp only [V.low, decide_eq_true_eq]
    split at h
    · rename_i hm; exact (List.getElem?_eq_some_iff.1 hm).1
    · rename_i hm; exact (List.getElem?_eq_some_iff.1 hm).1
    · exact h.elim
  | .so i e o n z, x, h => by
    simp only [VR, SR] at h
    simp only [V.low, decide_eq_true_eq]
    split at h
    · rename_i hm; exact (List.getElem?_eq_some_iff.1 hm).1
    · exact h.elim
  | .mp i, x, h => by
    simp only [VR] at h
    simp only [V.low, decide_eq_true_eq]
    obtain ⟨⟨es, hm⟩, _⟩ := h
    exact (List.getElem?_eq_some_iff.1 hm).1
  | .agg cs, x, h => by simp only [VR] at h; obtain ⟨xs, _, h⟩ := h; simp only [V.low]; exact VRs.low cs _ h
  | .tup cs, x, h => by simp only [VR] at h; obtain ⟨xs, _, h⟩ := h; simp only [V.low]; exact VRs.low cs _ h
  | .fn _ cs, x, h => by simp only [VR] at h; obtain ⟨xs, _, h⟩ := h; simp only [V.low]; exact VRs.low cs _ h
  | .iface _ v, x, h => by simp only [VR] at h; obtain ⟨y, _, h⟩ := h; simp only [V.low]; exact VR.low v _ h
  | .any, _, _ | .bool _, _, _ | .int .., _, _ | .str _, _, _ | .nilp, _, _ | .pt .., _, _ | .sn, _, _ | .st .., _, _ | .mn, _, _ | .fnil, _, _ | .inil, _, _ => by simp only [V.low]
theorem VRs.low {c : Cx} : ∀ (vs : List V) (xs : List Value), VRs c vs xs → V.lowL c.m.length vs = true
  | [], _, _ => by simp only [V.lowL]
  | _ :: _, [], h => by simp only [VRs] at h
  | v :: vs, x :: xs, h => by
    simp only [VRs] at h
    simp only [V.lowL, Bool.and_eq_true]
    exact ⟨VR.low v x h.1, VRs.low vs xs h.2⟩
end

theorem Ok.q {c : Cx} (K : Ok c) : Q c.m.length c.m.length c.m := fun j b _ hb => by
  have h := K.blk j b hb
  cases b with
  | cells cs =>
    obtain ⟨l, el, _, h2⟩ := h
    exact VRs.low _ _ h2
  | map es =>
    obtain ⟨l, ck, _, h2⟩ := h
    simp only [Blk.low, lowE_iff]
    intro e he
    obtain ⟨i, hi⟩ := List.getElem?_of_mem he
    obtain ⟨x, _, h3, h4⟩ := MR.get _ _ h2 i e.1 e.2 hi
    exact ⟨VR.low _ _ h3, VR.low _ _ h4⟩
  | iter s p => rfl
  | vac => rfl

/-- The first n blocks alone. -/
def Cx.cut (c : Cx) (n : Nat) : Cx := ⟨c.h, c.m.take n, c.r⟩

theorem cut_get {c : Cx} {n i : Nat} (h : i < n) : (c.cut n).m[i]? = c.m[i]? := by simp [Cx.cut, List.getElem?_take, h]

theorem cut_has {c : Cx} {n i : Nat} (h : (c.cut n).has i) : c.has i ∧ i < n := by
  have h1 := h.1
  simp only [Cx.cut, List.length_take] at h1
  exact ⟨⟨by omega, by have := h.2; rwa [cut_get (by omega)] at this⟩, by omega⟩

theorem cut_I {c : Cx} {n b : Nat} (h : c.I b) : (c.cut n).I b := ⟨h.1, fun i hi => h.2 i (cut_has hi).1⟩

mutual
theorem VR.cut {c : Cx} {n : Nat} : ∀ (v : V) (x : Value), v.low n = true → VR c v x → VR (c.cut n) v x
  | .any, _, _, H | .bool _, _, _, H | .int _ _, _, _, H | .str _, _, _, H | .nilp, _, _, H | .sn, _, _, H | .mn, _, _, H | .fnil, _, _, H | .inil, _, _, H
  | .pt .., _, _, H | .st .., _, _, H => by
    simp only [VR] at H ⊢
    exact VT.mono (fun _ _ => rfl) (fun b hb => cut_I hb) _ _ H
  | .pb i e o, _, l, H => by
    simp only [V.low, decide_eq_true_eq] at l
    simp only [VR, PR, cut_get l] at H ⊢
    exact H
  | .so i e o m z, _, l, H => by
    simp only [V.low, decide_eq_true_eq] at l
    simp only [VR, SR, cut_get l] at H ⊢
    exact H
  | .mp i, _, l, H => by
    simp only [V.low, decide_eq_true_eq] at l
    simp only [VR, cut_get l] at H ⊢
    exact H
  | .agg cs, x, l, H => by
    simp only [VR, V.low] at H l ⊢
    obtain ⟨xs, e, H⟩ := H
    exact ⟨xs, e, VRs.cut cs _ l H⟩
  | .tup cs, x, l, H => by
    simp only [VR, V.low] at H l ⊢
    obtain ⟨xs, e, H⟩ := H
    exact ⟨xs, e, VRs.cut cs _ l H⟩
  | .fn _ cs, x, l, H => by
    simp only [VR, V.low] at H l ⊢
    obtain ⟨xs, e, H⟩ := H
    exact ⟨xs, e, VRs.cut cs _ l H⟩
  | .iface _ v, x, l, H => by
    simp only [VR, V.low] at H l ⊢
    obtain ⟨y, e, H⟩ := H
    exact ⟨y, e, VR.cut v _ l H⟩
theorem VRs.cut {c : Cx} {n : Nat} : ∀ (vs : List V) (xs : List Value), V.lowL n vs = true → VRs c vs xs → VRs (c.cut n) vs xs
  | [], [], _, _ => by simp only [VRs]
  | [], _ :: _, _, H => by simp only [VRs] at H
  | _ :: _, [], _, H => by simp only [VRs] at H
  | v :: vs, x :: xs, l, H => by
    simp only [VRs, V.lowL, Bool.and_eq_true] at H l ⊢
    exact ⟨VR.cut v x l.1 H.1, VRs.cut vs xs l.2 H.2⟩
end

theorem MR.cut {c : Cx} {n : Nat} : ∀ (es : List (V × V)) (xs : List MapEntry), lowE n es = true → MR c es xs → MR (c.cut n) es xs
  | [], [], _, _ => by simp only [MR]
  | [], _ :: _, _, H => by simp only [MR] at H
  | _ :: _, [], _, H => by simp only [MR] at H
  | (k, v) :: es, x :: xs, l, H => by
    simp only [MR] at H ⊢
    simp only [lowE, List.all_cons, Bool.and_eq_true] at l
    exact ⟨VR.cut k _ l.1.1 H.1, VR.cut v _ l.1.2 H.2.1, MR.cut es xs l.2 H.2.2⟩

theorem cut_ok {c : Cx} (K : Ok c) {n : Nat} (hq : Q n n c.m) : Ok (c.cut n) := by
  refine ⟨fun i b hb => ?_, fun i j hi hj h => K.inj i j (cut_has hi).1 (cut_has hj).1 h, fun i hi => K.lt i (cut_has hi).1⟩
  have hi : i < n := by
    have := (List.getElem?_eq_some_iff.1 hb).1
    simp only [Cx.cut, List.length_take] at this
    omega
  rw [cut_get hi] at hb
  have h := K.blk i b hb
  have l := hq i b hi hb
  cases b with
  | cells cs =>
    obtain ⟨x, el, h1, h2⟩ := h
    exact ⟨x, el, h1, VRs.cut _ _ l h2⟩
  | map es =>
    obtain ⟨x, ck, h1, h2⟩ := h
    exact ⟨x, ck, h1, MR.cut _ _ l h2⟩
  | iter s p => exact h
  | vac => trivial

/-- Seen from before the call. -/
theorem cut_ext {c c1 : Cx} (X : Ext c c1) : Ext c (c1.cut c.m.length) := by
  refine ⟨X.size, fun b hb => ⟨(X.imm b hb).1, cut_I (X.imm b hb).2⟩, by have := X.len; simp [Cx.cut]; omega, fun i => ?_⟩
  have h := X.blk i
  unfold Keeps at h ⊢
  split
  · rename_i cs hcs
    have hi := (List.getElem?_eq_some_iff.1 hcs).1
    rw [hcs] at h
    obtain ⟨cs', h1, h2⟩ := h
    exact ⟨cs', by rw [cut_get hi]; exact h1, h2⟩
  · rename_i es hes
    have hi := (List.getElem?_eq_some_iff.1 hes).1
    rw [hes] at h
    obtain ⟨⟨es', h1⟩, h2⟩ := h
    exact ⟨⟨es', by rw [cut_get hi]; exact h1⟩, h2⟩
  · rename_i s p hes
    have hi := (List.getElem?_eq_some_iff.1 hes).1
    rw [hes] at h
    obtain ⟨⟨s', p', h1⟩, h2⟩ := h
    exact ⟨⟨s', p', by rw [cut_get hi]; exact h1⟩, h2⟩
  · trivial

mutual
theorem stillW_spec {c c' : Cx} {g : Nat → Nat → Nat → Nat → Nat → Option V} (hI : ∀ b, c.I b → c'.I b) (hh : c'.h = c.h)
    (hg : ∀ i e off m z v x, SR c i e off m z x → g i e off m z = some v → VT c'.h c'.I v x) : ∀ (v : V) (x : Value) (v' : V), VR c v x → V.stillW g v = some v' → VT c'.h c'.I v' x
  | .any, _, _, _, h | .pb .., _, _, _, h | .mp _, _, _, _, h => by simp only [V.stillW] at h; cases h
  | .so i e off m z, x, v', H, h => by
    simp only [VR] at H
    simp only [V.stillW] at h
    exact hg i e off m z v' x H h
  | .agg cs, x, v', H, h => by
    simp only [V.stillW] at h
    split at h
    · rename_i ds hd
      simp only [Option.some.injEq] at h; subst h
      simp only [VR, VT] at H ⊢
      obtain ⟨xs, e, H⟩ := H
      exact ⟨xs, e, stillL_spec hI hh hg cs _ ds H hd⟩
    · cases h
  | .tup cs, x, v', H, h => by
    simp only [V.stillW] at h
    split at h
    · rename_i ds hd
      simp only [Option.some.injEq] at h; subst h
      simp only [VR, VT] at H ⊢
      obtain ⟨xs, e, H⟩ := H
      exact ⟨xs, e, stillL_spec hI hh hg cs _ ds H hd⟩
    · cases h
  | .fn f cs, x, v', H, h => by
    simp only [V.stillW] at h
    split at h
    · rename_i ds hd
      simp only [Option.some.injEq] at h; subst h
      simp only [VR, VT] at H ⊢
      obtain ⟨xs, e, H⟩ := H
      exact ⟨xs, e, stillL_spec hI hh hg cs _ ds H hd⟩
    · cases h
  | .iface t v, x, v', H, h => by
    simp only [V.stillW] at h
    split at h
    · rename_i d hd
      simp only [Option.some.injEq] at h; subst h
      simp only [VR, VT] at H ⊢
      obtain ⟨y, e, H⟩ := H
      exact ⟨y, e, stillW_spec hI hh hg v _ d H hd⟩
    · cases h
  | .bool _, x, v', H, h | .int .., x, v', H, h | .str _, x, v', H, h | .nilp, x, v', H, h | .pt .., x, v', H, h | .sn, x, v', H, h | .st .., x, v', H, h
  | .mn, x, v', H, h | .fnil, x, v', H, h | .inil, x, v', H, h => by
    simp only [V.stillW, Option.some.injEq] at h
    subst h
    simp only [VR] at H
    exact VT.mono (fun _ _ => by rw [hh]) hI _ _ H
theorem stillL_spec {c c' : Cx} {g : Nat → Nat → Nat → Nat → Nat → Option V} (hI : ∀ b, c.I b → c'.I b) (hh : c'.h = c.h)
    (hg : ∀ i e off m z v x, SR c i e off m z x → g i e off m z = some v → VT c'.h c'.I v x) : ∀ (vs : List V) (xs : List Value) (vs' : List V), VRs c vs xs → V.stillL g vs = some vs' → VTs c'.h c'.I vs' xs
  | [], [], vs', _, h => by
    simp only [V.stillL, Option.some.injEq] at h; subst h
    simp only [VTs]
  | [], _ :: _, _, H, _ => by simp only [VRs] at H
  | _ :: _, [], _, H, _ => by simp only [VRs] at H
  | v :: vs, x :: xs, vs', H, h => by
    simp only [VRs] at H
    simp only [V.stillL] at h
    split at h
    · rename_i u hu
      split at h
      · rename_i us hus
        simp only [Option.some.injEq] at h; subst h
        simp only [VTs]
        exact ⟨stillW_spec hI hh hg v x u H.1 hu, stillL_spec hI hh hg vs xs us H.2 hus⟩
      · cases h
    · cases h
end

theorem stillG_spec {c : Cx} (K : Ok c) {n : Nat} : ∀ (d i e off m z : Nat) (v : V) (x : Value), SR c i e off m z x → stillG n c.m d i e off m z = some v → VT (c.cut n).h (c.cut n).I v x
  | 0, _, _, _, _, _, _, _, _, h => by simp only [stillG] at h; cases h
  | d + 1, i, e, off, m, z, v, x, H, h => by
    simp only [stillG] at h
    split at h
    · rename_i hn
      split at h
      · rename_i cs hm
        split at h
        · rename_i he
          split at h
          · rename_i l hsub
            split at h
            · rename_i l' hl
              simp only [Option.some.injEq] at h; subst h
              obtain ⟨q1, q2, q3⟩ := sub_spec hsub
              simp only [SR, hm] at H
              obtain ⟨p0, a, cap, rfl, p1, p2, p3⟩ := H.2.2 he
              obtain ⟨ll, el, h3, h4⟩ := K.blk i _ hm
              have hlen := VRs.len _ _ h4
              simp at hlen
              have hsubR : VRs c l ((ll.toList.drop off).take (m * z)) := by
                have := VRs.take _ _ (m * z) (VRs.drop _ _ off h4)
                rw [← q2] at this
                refine (congrArg (VRs c _) ?_).mp this
                rw [List.drop_take, List.take_take, Nat.min_eq_left (by omega)]
              have hv := stillL_spec (c := c) (c' := c.cut n) (fun b hb => cut_I hb) rfl (fun i e off m z v x => stillG_spec K d i e off m z v x) l _ l' hsubR hl
              have hl' := VTs.len _ _ hv
              simp at hl'
              simp only [VT]
              refine ⟨_, cap, rfl, p1, (fun h => by cases h), ?_⟩
              by_cases hz : m * z = 0
              · left
                apply List.eq_nil_of_length_eq_zero
                omega
              · right
                have hpos : 0 < cap := by
                  rcases Nat.eq_zero_or_pos m with h | h
                  · simp [h] at hz
                  · omega
                have hi : c.has i := ⟨(List.getElem?_eq_some_iff.1 hm).1, by rw [hm]; simp⟩
                refine ⟨c.r i, off, ll, el, (0, 0), by rw [p2 hpos], ⟨K.lt i hi, fun j hj hr => ?_⟩, h3, ?_⟩
                · obtain ⟨hj1, hj2⟩ := cut_has hj
                  have := K.inj j i hj1 hi hr
                  omega
                · have e1 : l'.length = m * z := by omega
                  rw [e1]
                  exact hv
            · cases h
          · cases h
        · cases h
      · cases h
    · cases h

theorem frzV_spec {c : Cx} (K : Ok c) {n : Nat} {v : V} {x : Value} (H : VR c v x) : VR (c.cut n) (frzV n c.m v) x := by
  have still : ∀ {v v' : V}, VR c v x → V.stillW (stillG n c.m 20) v = some v' → VR (c.cut n) v' x := fun H h =>
    VR.ofT _ _ (stillW_spec (c := c) (c' := c.cut n) (fun b hb => cut_I hb) rfl (fun i e off m z v x hsr hg => stillG_spec K 20 i e off m z v x hsr hg) _ x _ H h)
  have any : VR (c.cut n) .any x := by simp only [VR, VT]
  unfold frzV
  split
  · rename_i i e off
    split
    · rename_i hi
      exact VR.cut _ _ (by simp only [V.low, decide_eq_true_eq]; exact hi) H
    · rename_i hi
      split
      · rename_i cs hm
        split
        · rename_i hc
          simp only [Bool.and_eq_true, decide_eq_true_eq, Bool.not_eq_true'] at hc
          simp only [VR, PR, hm] at H
          obtain ⟨_, _, hx⟩ := H
          obtain ⟨l, el, h3, h4⟩ := K.blk i _ hm
          have hi' : c.has i := ⟨(List.getElem?_eq_some_iff.1 hm).1, by rw [hm]; simp⟩
          simp only [VR, VT]
          refine ⟨c.r i, 0, l, el, (0, 0), by rw [hx hc.1, Nat.zero_add], ⟨K.lt i hi', fun j hj hr => ?_⟩, h3, ?_⟩
          · obtain ⟨hj1, hj2⟩ := cut_has hj
            have := K.inj j i hj1 hi' hr
            omega
          · rw [List.drop_zero]
            exact VTs.mono (fun _ _ => rfl) (fun b hb => cut_I hb) _ _ (VRs.toT _ _ hc.2 h4)
        · exact any
      · exact any
  · rename_i i e off m z
    split
    · rename_i hi
      exact VR.cut _ _ (by simp only [V.low, decide_eq_true_eq]; exact hi) H
    · split
      · rename_i v' hv
        exact still H (by simpa only [V.stillW] using hv)
      · exact any
  · split
    · rename_i hl
      exact VR.cut _ _ hl H
    · split
      · rename_i v' hv
        exact still H hv
      · exact any

end Go.Pe

namespace Go.Pe
section
variable {D : Dt}

def Ex.exit : Ex → Exit
  | .nrm => .normal
  | .ext id => .exit id
  | .ret => .ret

/-- Two worlds, before and after. -/
structure Aftr (c : Cx) (w : World) (s' : St) (w' : World) (r' : Nat → Nat) : Prop where
  ext : Ext c ⟨w'.heap, s'.mem, r'⟩
  ok : Ok ⟨w'.heap, s'.mem, r'⟩
  tape : w'.tape = w.tape
  os : w'.os = w.os
  output : w'.output = w.output

theorem Aftr.trans {c : Cx} {w w1 w2 : World} {s1 s2 : St} {r1 r2 : Nat → Nat} (h : Aftr c w s1 w1 r1) (g : Aftr ⟨w1.heap, s1.mem, r1⟩ w1 s2 w2 r2) : Aftr c w s2 w2 r2 :=
  ⟨h.ext.trans g.ext, g.ok, g.tape.trans h.tape, g.os.trans h.os, g.output.trans h.output⟩

/-- Where code is left, and how. -/
def PostC (c : Cx) (w : World) (a : Act) (x : Ex) (ρ' : Env) (s' : St) (e : Exit) (a' : Act) (w' : World) : Prop :=
  e = x.exit ∧ ∃ r', Aftr c w s' w' r' ∧ EnvR ⟨w'.heap, s'.mem, r'⟩ ρ' a'.tmps ∧ a'.tmps.size = a.tmps.size ∧ a'.defers = a.defers

/-- How a world and a frame fit what the evaluator has. -/
structure Fits (D : Dt) (r : Nat → Nat) (s : St) (w : World) (ρ : Env) (a : Act) : Prop where
  ok : Ok ⟨w.heap, s.mem, r⟩
  g : GOk D ⟨w.heap, s.mem, r⟩
  env : EnvR ⟨w.heap, s.mem, r⟩ ρ a.tmps

theorem PostC.fits {r : Nat → Nat} {s s1 : St} {w w1 : World} {ρ ρ1 : Env} {a a1 : Act} {x : Ex} {e : Exit} (H : Fits D r s w ρ a) (h : PostC ⟨w.heap, s.mem, r⟩ w a x ρ1 s1 e a1 w1) :
    ∃ r1, Fits D r1 s1 w1 ρ1 a1 ∧ Aftr ⟨w.heap, s.mem, r⟩ w s1 w1 r1 ∧ a1.tmps.size = a.tmps.size ∧ a1.defers = a.defers := by
  obtain ⟨_, r1, h1, h2, h3, h4⟩ := h
  exact ⟨r1, ⟨h1.ok, H.g.ext h1.ext, h2⟩, h1, h3, h4⟩

def SimC (D : Dt) (c : Code) (ρ : Env) (s : St) (x : Ex) (ρ' : Env) (s' : St) : Prop :=
  ∀ r a w, Fits D r s w ρ a → codeOk a.tmps.size c = true → c.wp D.P (PostC ⟨w.heap, s.mem, r⟩ w a x ρ' s') a w

/-- A loop, from the head of a round on. -/
def LoopWp (P : Program) (c : Code) (Q : Exit → Act → World → Prop) (a : Act) (w : World) : Prop :=
  ∀ (b : Frame) (k : List Item) (cs : List Frame), ∃ e a' w', Q e a' w' ∧ Arrives P (lone (b.at a (.code c :: .inLoop c :: k)) cs w) b k cs e a' w'

theorem loop_of {P : Program} {c : Code} {Q : Exit → Act → World → Prop} {a : Act} {w : World} (h : LoopWp P c Q a w) : (Code.loop c).wp P Q a w :=
  fun b k cs => let ⟨e, a', w', q, r⟩ := h b k cs; ⟨e, a', w', q, .of_steps (.one step_loop) r⟩

theorem loop_round {P : Program} {c : Code} {Q : Exit → Act → World → Prop} {a : Act} {w : World} (h : c.wp P (Exit.then (LoopWp P c Q) Q) a w) : LoopWp P c Q a w := by
  intro b k cs
  obtain ⟨e, a₁, w₁, hq, harr⟩ := h b (.inLoop c :: k) cs
  cases e with
  | normal =>
    obtain ⟨e₂, a₂, w₂, hq₂, harr₂⟩ := hq b k cs
    exact ⟨e₂, a₂, w₂, hq₂, .of_steps (Steps.trans harr (.one step_inLoop)) harr₂⟩
  | exit id => exact ⟨_, a₁, w₁, hq, .pass (x := .inLoop c) rfl (fun _ _ => .inl (by simp)) harr⟩
  | goto l => exact ⟨_, a₁, w₁, hq, .pass (x := .inLoop c) rfl (fun _ _ => .inl (by simp)) harr⟩
  | ret => exact ⟨_, a₁, w₁, hq, .pass (x := .inLoop c) rfl (fun _ _ => .inl (by simp)) harr⟩
  | panic ch => exact ⟨_, a₁, w₁, hq, .pass (x := .inLoop c) rfl (fun _ _ => .inl (by simp)) harr⟩
  | outgrown => exact ⟨_, a₁, w₁, hq, .pass (x := .inLoop c) rfl (fun _ _ => .inl (by simp)) harr⟩

def SimL (D : Dt) (c : Code) (ρ : Env) (s : St) (x : Ex) (ρ' : Env) (s' : St) : Prop :=
  ∀ r a w, Fits D r s w ρ a → codeOk a.tmps.size c = true → LoopWp D.P c (PostC ⟨w.heap, s.mem, r⟩ w a x ρ' s') a w

def SimR (D : Dt) (ops : Array Oper) (l : List Nat) (ρ : Env) (s : St) (ρ' : Env) (s' : St) : Prop :=
  ∀ r a w, Fits D r s w ρ a → codeOk a.tmps.size (.region 0 ops false) = true → ∀ Q : Exit → Act → World → Prop,
    (∀ a' w', PostC ⟨w.heap, s.mem, r⟩ w a .nrm ρ' s' .normal a' w' → Q .normal a' w') → wpOps D.P ops Q l a w

def SimF (D : Dt) (f : Nat) (args : List V) (s : St) (v : V) (s' : St) : Prop :=
  ∀ r w (xs : Array Value), Ok ⟨w.heap, s.mem, r⟩ → GOk D ⟨w.heap, s.mem, r⟩ → VRs ⟨w.heap, s.mem, r⟩ args xs.toList →
    Calls D.P f xs w fun e w' => ∃ x r', e = .returned x ∧ Aftr ⟨w.heap, s.mem, r⟩ w s' w' r' ∧ VR ⟨w'.heap, s'.mem, r'⟩ v x

theorem wanted_spec {c : Cx} {ρ : Env} {tmps : Array Value} (E : EnvR c ρ tmps) {ops : Array Oper} {o : Oper} {b : Bool} (h : wantedT ρ ops o = some b) :
    Region.wanted o (yielded ops tmps) = b := by
  unfold wantedT at h
  unfold Region.wanted
  split at h
  · rename_i hg
    simp only [Option.some.injEq] at h; subst h
    rw [hg]
  · rename_i j want hg
    rw [hg]
    simp only
    unfold yielded
    split at h
    · rename_i hd
      simp only [Option.some.injEq] at h; subst h
      rw [hd]
      rfl
    · rename_i d hd
      rw [hd]
      simp only [Option.bind_some]
      have hE := E d
      split at h
      · rename_i t ht
        simp only [Option.some.injEq] at h; subst h
        rw [ht] at hE
        simp only [VR, VT] at hE
        have : tmps[d]? = some (.bool t) := by
          cases hg : tmps[d]? with
          | none => simp [Array.getD_eq_getD_getElem?, hg, undef] at hE
          | some y => simp [Array.getD_eq_getD_getElem?, hg] at hE; rw [hE]
        rw [this]
        cases t <;> cases want <;> rfl
      · cases h
      · rename_i hb ha
        simp only [Option.some.injEq] at h; subst h
        split
        · rename_i t ht
          exfalso
          have hx : tmps.getD d undef = .bool t := by simp [Array.getD_eq_getD_getElem?, ht]
          rw [hx] at hE
          generalize ρ d = v at *
          cases v <;> simp only [VR, VT, PR, SR] at hE
          all_goals first
            | exact ha rfl
            | (simp only [Value.bool.injEq] at hE; exact hb _ rfl)
            | (cases hE; done)
            | (obtain ⟨_, _, _, _, _, e, _⟩ := hE; cases e)
            | (obtain ⟨_, _, e, _⟩ := hE; cases e)
            | (obtain ⟨_, e, _⟩ := hE; cases e)
            | (obtain ⟨_, e⟩ := hE; cases e)
            | (split at hE <;> first | exact hE.elim | (obtain ⟨⟨_, _, e, _⟩, _⟩ := hE; cases e; done) | (obtain ⟨⟨_, e⟩, _⟩ := hE; cases e; done))
        · rfl

theorem pad_fits {r : Nat → Nat} {s : St} {w : World} {ρ : Env} {a : Act} (H : Fits D r s w ρ a) (ops : Array Oper) :
    Fits D r (s.pad ops) w ρ a ∧ Ext ⟨w.heap, s.mem, r⟩ ⟨w.heap, (s.pad ops).mem, r⟩ := by
  have has : ∀ i, Cx.has ⟨w.heap, (s.pad ops).mem, r⟩ i → Cx.has ⟨w.heap, s.mem, r⟩ i := fun i hi => by
    have h1 := hi.1
    have h2 := hi.2
    simp only [St.pad] at h1 h2
    by_cases h : i < s.mem.length
    · exact ⟨h, by simpa [List.getElem?_append_left h] using h2⟩
    · exfalso
      apply h2
      rw [List.getElem?_append_right (by omega)]
      simp only [List.length_append, List.length_replicate] at h1
      rw [List.getElem?_replicate, if_pos (by omega)]
  have X : Ext ⟨w.heap, s.mem, r⟩ ⟨w.heap, (s.pad ops).mem, r⟩ := by
    refine ⟨Nat.le_refl _, fun b hb => ⟨rfl, hb.1, fun i hi => hb.2 i (has i hi)⟩, by simp [St.pad], fun i => ?_⟩
    have hget : i < s.mem.length → (s.pad ops).mem[i]? = s.mem[i]? := fun h => by simp [St.pad, List.getElem?_append_left h]
    unfold Keeps
    split
    · rename_i cs hcs
      have hi := (List.getElem?_eq_some_iff.1 hcs).1
      exact ⟨cs, by simp only [hget hi]; exact hcs, Nat.le_refl _, fun _ => ⟨rfl, fun l el fr hl => ⟨l, el, fr, hl, rfl⟩⟩⟩
    · rename_i es hes
      have hi := (List.getElem?_eq_some_iff.1 hes).1
      exact ⟨⟨es, by simp only [hget hi]; exact hes⟩, rfl⟩
    · rename_i s' p hes
      have hi := (List.getElem?_eq_some_iff.1 hes).1
      exact ⟨⟨s', p, by simp only [hget hi]; exact hes⟩, rfl⟩
    · trivial
  refine ⟨⟨⟨fun i b hb => ?_, fun i j hi hj h => H.ok.inj i j (has i hi) (has j hj) h, fun i hi => H.ok.lt i (has i hi)⟩, H.g.ext X, H.env.ext X⟩, X⟩
  by_cases h : i < s.mem.length
  · have hb' : s.mem[i]? = some b := by simpa [St.pad, List.getElem?_append_left h] using hb
    exact (H.ok.blk i b hb').ext X rfl rfl
  · simp only [St.pad] at hb
    rw [List.getElem?_append_right (by omega)] at hb
    have := List.mem_of_getElem? hb
    rw [List.mem_replicate] at this
    rw [this.2]
    trivial

theorem drew_fits {r : Nat → Nat} {s : St} {w : World} {ρ : Env} {a : Act} (H : Fits D r s w ρ a) : Fits D r s { w with drawn := w.drawn + 1 } ρ a := ⟨H.ok, H.g, H.env⟩

end
end Go.Pe

namespace Go.Pe
section
variable {D : Dt}

theorem Fits.eval {r : Nat → Nat} {s : St} {w : World} {ρ : Env} {a : Act} (H : Fits D r s w ρ a) (x : Operand) : VR ⟨w.heap, s.mem, r⟩ (ρ.ev D x) (a.eval x) := EnvR.eval H.g H.env x

theorem put_fits {r : Nat → Nat} {s : St} {w : World} {ρ : Env} {a : Act} (H : Fits D r s w ρ a) {s1 : St} {w1 : World} {r1 : Nat → Nat} (A : Aftr ⟨w.heap, s.mem, r⟩ w s1 w1 r1)
    {d : Option Tmp} {v : V} {x : Value} (hd : ∀ t, d = some t → t < a.tmps.size) (hv : VR ⟨w1.heap, s1.mem, r1⟩ v x) : Fits D r1 s1 w1 (ρ.put d v) (a.put d x) :=
  ⟨A.ok, H.g.ext A.ext, (H.env.ext A.ext).put hd hv⟩

theorem put_size (a : Act) (d : Option Tmp) (x : Value) : (a.put d x).tmps.size = a.tmps.size := by cases d <;> simp [Act.put]
theorem put_defers' (a : Act) (d : Option Tmp) (x : Value) : (a.put d x).defers = a.defers := by cases d <;> rfl

theorem dst_ok {n : Nat} {ops : Array Oper} (h : codeOk n (.region 0 ops false) = true) {i : Nat} {o : Oper} (ho : ops[i]? = some o) : ∀ t, o.dst = some t → t < n := fun t ht => by
  simp only [codeOk, Array.all_eq_true_iff_forall_mem] at h
  have := h o (Array.mem_of_getElem? ho)
  rw [ht] at this
  simpa using this

theorem call_run {ρ : Env} {a : Act} {c : Cx} (E : ∀ x, VR c (ρ.ev D x) (a.eval x)) {o : Oper} {f : Nat} {args : List V} (h : callT D ρ o = some (f, args)) {fn : Func} {cd : Code} (hf : D.P.funcs[f]? = some fn) (hb : fn.body = some cd)
    (hn : (fn.name == "runtime.NumGoroutine") = false) (w : World) : ∃ xs : Array Value, (execOp a.eval o).run D.P w = .ok (.enter f xs) w ∧ VRs c args xs.toList := by
  unfold callT at h
  split at h
  · rename_i g as ts hop
    split at h
    · rename_i k cap hg
      simp only [Option.some.injEq, Prod.mk.injEq] at h
      obtain ⟨rfl, rfl⟩ := h
      have hE := E g
      rw [hg] at hE
      simp only [VR] at hE
      obtain ⟨xs, hx, hcap⟩ := hE
      refine ⟨as.map a.eval ++ xs, ?_, ?_⟩
      · unfold execOp
        rw [hop]
        simp only [resolve, hx, Deferred.ofValue, Sem.run_bind, Sem.run_pure, Result.andThen_ok, invoke, callFunc, run_program, hf, hn, hb]
        simp
      · rw [Array.toList_append, Array.toList_map]
        exact VRs.append _ _ _ _ (evs E as.toList) hcap
    · cases h
  · cases h

theorem entry_env {c : Cx} {args : List V} {xs : Array Value} (h : VRs c args xs.toList) (n : Nat) : EnvR c (entry args) (xs ++ Array.replicate n undef) := by
  intro t
  unfold entry
  have hl := VRs.len _ _ h
  simp at hl
  by_cases ht : t < args.length
  · obtain ⟨v, hv⟩ : ∃ v, args[t]? = some v := ⟨args[t], List.getElem?_eq_getElem ht⟩
    obtain ⟨x, hx, hr⟩ := VRs.get _ _ h t v hv
    have e1 : args.getD t (.tup []) = v := by simp [List.getD, hv]
    have e2 : (xs ++ Array.replicate n undef).getD t undef = x := by
      have : xs[t]? = some x := by rw [← Array.getElem?_toList]; exact hx
      simp [Array.getD_eq_getD_getElem?, Array.getElem?_append_left (show t < xs.size by omega), this]
    rw [e1, e2]
    exact hr
  · have e1 : args.getD t (.tup []) = .tup [] := by simp [List.getD, List.getElem?_eq_none (Nat.le_of_not_lt ht)]
    have e2 : (xs ++ Array.replicate n undef).getD t undef = undef := by
      rw [Array.getD_eq_getD_getElem?, Array.getElem?_append_right (by omega)]
      by_cases hn : t - xs.size < n
      · simp [hn]
      · simp [Array.getElem?_eq_none (show (Array.replicate n undef).size ≤ t - xs.size by simp; omega)]
    rw [e1, e2]
    simp only [VR]
    exact ⟨#[], rfl, by simp only [VRs]⟩

def resX (tmps : Array Value) : ResultVar → Sem Value
  | .tmp t => pure (tmps.getD t undef)
  | .cell a t => do loadVar t (← asAddr (tmps.getD a undef))

theorem results_eq (fn : Func) (tmps : Array Value) : results fn tmps = (do let vs ← fn.results.mapM (resX tmps); pure (if h : vs.size = 1 then vs[0] else .tuple vs) : Sem Value) := by
  unfold results
  have : (fun rv : ResultVar => (match rv with | .tmp t => pure (tmps.getD t undef) | .cell a t => do loadVar t (← asAddr (tmps.getD a undef)) : Sem Value)) = resX tmps := by
    funext rv
    cases rv <;> rfl
  rw [← this]
  rfl

theorem resT_spec {r : Nat → Nat} {s : St} {w : World} {ρ : Env} {a : Act} (F : Fit D) (H : Fits D r s w ρ a) {rv : ResultVar} {v : V} (h : resT D ρ s rv = some v) :
    ∃ x, (resX a.tmps rv).run D.P w = .ok x w ∧ VR ⟨w.heap, s.mem, r⟩ v x := by
  cases rv with
  | tmp t =>
    simp only [resT] at h
    split at h
    · cases h
    · simp only [Option.some.injEq] at h; subst h
      exact ⟨_, rfl, H.env t⟩
  | cell p t =>
    simp only [resT] at h
    obtain ⟨x, h1, h2⟩ := loadT_spec (c := ⟨w.heap, s.mem, r⟩) (w := w) F H.ok rfl rfl (H.env p) h
    refine ⟨x, ?_, h2⟩
    simp only [Instr.loadAt, Sem.run_bind] at h1
    simp only [resX, Sem.run_bind]
    generalize a.tmps.getD p undef = y at h1
    cases y <;> try (cases h1; done)
    rename_i q
    cases q with
    | none => cases h1
    | some q => exact h1

theorem resM_spec {r : Nat → Nat} {s : St} {w : World} {ρ : Env} {a : Act} (F : Fit D) (H : Fits D r s w ρ a) : ∀ (rs : List ResultVar) (vs : List V), rs.mapM (resT D ρ s) = some vs →
    ∃ xs, (rs.mapM (resX a.tmps)).run D.P w = .ok xs w ∧ VRs ⟨w.heap, s.mem, r⟩ vs xs
  | [], vs, h => by
    simp only [List.mapM_nil, pure, Option.some.injEq] at h; subst h
    exact ⟨[], rfl, by simp only [VRs]⟩
  | rv :: rs, vs, h => by
    simp only [List.mapM_cons, bind, Option.bind_eq_some_iff, pure, Option.some.injEq] at h
    obtain ⟨v, h1, us, h2, rfl⟩ := h
    obtain ⟨x, h3, h4⟩ := resT_spec F H h1
    obtain ⟨xs, h5, h6⟩ := resM_spec F H rs us h2
    refine ⟨x :: xs, ?_, by simp only [VRs]; exact ⟨h4, h6⟩⟩
    rw [List.mapM_cons]
    simp only [Sem.run_bind, h3, Result.andThen_ok, h5, Sem.run_pure]

theorem results_spec {r : Nat → Nat} {s : St} {w : World} {ρ : Env} {a : Act} (F : Fit D) (H : Fits D r s w ρ a) {fn : Func} {v : V} (h : resultsT D fn ρ s = some v) :
    ∃ x, (results fn a.tmps).run D.P w = .ok x w ∧ VR ⟨w.heap, s.mem, r⟩ v x := by
  have hm : ∀ xs : List Value, (fn.results.toList.mapM (resX a.tmps)).run D.P w = .ok xs w →
      (results fn a.tmps).run D.P w = .ok (if h : xs.toArray.size = 1 then xs.toArray[0] else .tuple xs.toArray) w := fun xs hxs => by
    rw [results_eq, Array.mapM_eq_mapM_toList]
    simp only [Sem.run_bind, Sem.run_map, hxs, Result.andThen_ok, Sem.run_pure]
  unfold resultsT at h
  split at h
  · rename_i rv hrs
    obtain ⟨x, h1, h2⟩ := resT_spec F H h
    refine ⟨x, ?_, h2⟩
    rw [hm [x] (by rw [hrs]; simp only [List.mapM_cons, List.mapM_nil, Sem.run_bind, h1, Result.andThen_ok, Sem.run_pure])]
    rfl
  · rename_i rs hn
    cases hv : fn.results.toList.mapM (resT D ρ s) with
    | none => rw [hv] at h; cases h
    | some vs =>
      rw [hv] at h
      simp only [Option.map_some, Option.some.injEq] at h; subst h
      obtain ⟨xs, h1, h2⟩ := resM_spec F H _ _ hv
      refine ⟨.tuple xs.toArray, ?_, by simp only [VR]; exact ⟨_, rfl, by simpa using h2⟩⟩
      rw [hm xs h1]
      have hl : xs.length ≠ 1 := by
        have e1 := VRs.len _ _ h2
        have e2 : vs.length = fn.results.toList.length := by
          have : ∀ (rs : List ResultVar) (vs : List V), rs.mapM (resT D ρ s) = some vs → vs.length = rs.length := by
            intro rs
            induction rs with
            | nil => intro vs h; simp only [List.mapM_nil, pure, Option.some.injEq] at h; subst h; rfl
            | cons rv rs ih =>
              intro vs h
              simp only [List.mapM_cons, bind, Option.bind_eq_some_iff, pure, Option.some.injEq] at h
              obtain ⟨v, h1, us, h2, rfl⟩ := h
              simp [ih us h2]
          exact this _ _ hv
        intro hx
        have hlen : fn.results.toList.length = 1 := by omega
        match hq : fn.results.toList, hlen with
        | [rv], _ => exact hn rv hq
      rw [dif_neg (by simpa using hl)]

theorem EvF.inv {f : Nat} {args : List V} {s : St} {v : V} {s' : St} (h : EvF D f args s v s') : ∃ fn cd, D.P.funcs[f]? = some fn ∧ fn.body = some cd := by
  cases h with
  | mk h1 h2 _ _ _ _ => exact ⟨_, _, h1, h2⟩

theorem scope_post {r : Nat → Nat} {s : St} {w : World} {ρ : Env} {a : Act} (H : Fits D r s w ρ a) {x : Ex} {ρ1 : Env} {s1 : St} (hlo : LoKeep ⟨s.mem, s.mem.length⟩ s1) (hge : s.mem.length ≤ s1.lo)
    {e : Exit} {a1 : Act} {w1 : World} (h : PostC ⟨w.heap, s.mem, r⟩ w a x ρ1 s1 e a1 w1) :
    PostC ⟨w.heap, s.mem, r⟩ w a x (fun t => frzV s.mem.length s1.mem (ρ1 t)) ⟨s1.mem.take s.mem.length, s.lo⟩ e a1 w1 := by
  obtain ⟨he, r1, A1, E1, e1, e2⟩ := h
  have hq := hlo.q s.mem.length s.mem.length (Nat.le_refl _) (by
    have := H.ok.q
    simpa using this)
  have hmin : min s.mem.length s1.lo = s.mem.length := by omega
  rw [hmin] at hq
  exact ⟨he, r1, ⟨cut_ext A1.ext, cut_ok A1.ok hq, A1.tape, A1.os, A1.output⟩, fun t => frzV_spec A1.ok (E1 t), e1, e2⟩

mutual
theorem simC (G : Good D) : ∀ {c ρ s x ρ' s'}, EvC D c ρ s x ρ' s' → s.lo ≤ s.mem.length → SimC D c ρ s x ρ' s' ∧ ∀ c', c = .loop c' → SimL D c' ρ s x ρ' s'
  | _, _, _, _, _, _, .skip, _ => ⟨fun r a w H _ => wp_skip ⟨rfl, r, ⟨Ext.refl _, H.ok, rfl, rfl, rfl⟩, H.env, rfl, rfl⟩, fun _ e => by cases e⟩
  | _, _, _, _, _, _, .label, _ => ⟨fun r a w H _ => wp_label ⟨rfl, r, ⟨Ext.refl _, H.ok, rfl, rfl, rfl⟩, H.env, rfl, rfl⟩, fun _ e => by cases e⟩
  | _, _, _, _, _, _, .exit, _ => ⟨fun r a w H _ => wp_exit ⟨rfl, r, ⟨Ext.refl _, H.ok, rfl, rfl, rfl⟩, H.env, rfl, rfl⟩, fun _ e => by cases e⟩
  | _, _, _, _, _, _, .ret, _ => ⟨fun r a w H _ => wp_ret ⟨rfl, r, ⟨Ext.refl _, H.ok, rfl, rfl, rfl⟩, H.env, rfl, rfl⟩, fun _ e => by cases e⟩
  | _, _, _, _, _, _, .seqN h1 h2, hl => ⟨fun r a w H hc => by
      have k1 := loC h1 hl
      simp only [codeOk, Bool.and_eq_true] at hc
      refine wp_seq (wp_mono ((simC G h1 hl).1 r a w H hc.1) fun e a1 w1 hp => ?_)
      obtain ⟨r1, H1, A1, e1, e2⟩ := hp.fits H
      have he := hp.1
      subst he
      refine wp_mono ((simC G h2 (by have := k1.le; have := k1.len; omega)).1 r1 a1 w1 H1 (by rw [e1]; exact hc.2)) fun e a2 w2 hp2 => ?_
      obtain ⟨he, r2, A2, E2, e3, e4⟩ := hp2
      exact ⟨he, r2, A1.trans A2, E2, e3.trans e1, e4.trans e2⟩, fun _ e => by cases e⟩
  | _, _, _, _, _, _, .seqX (x := x) h1 hx, hl => ⟨fun r a w H hc => by
      simp only [codeOk, Bool.and_eq_true] at hc
      refine wp_seq (wp_mono ((simC G h1 hl).1 r a w H hc.1) fun e a1 w1 hp => ?_)
      have he := hp.1
      subst he
      cases x with
      | nrm => exact absurd rfl hx
      | ext id => exact hp
      | ret => exact hp, fun _ e => by cases e⟩
  | _, _, _, _, _, _, .cond (c := cnd) (t := t) ht h1, hl => ⟨fun r a w H hc => by
      simp only [codeOk, Bool.and_eq_true] at hc
      have hv := H.eval cnd
      rw [ht] at hv
      simp only [VR, VT] at hv
      refine wp_cond hv ((simC G h1 hl).1 r a w H ?_)
      cases t
      · exact hc.2
      · exact hc.1, fun _ e => by cases e⟩
  | _, _, _, _, _, _, .block (id := id) (x := x) h1, hl => ⟨fun r a w H hc => by
      simp only [codeOk] at hc
      refine wp_block (wp_mono ((simC G h1 hl).1 r a w H hc) fun e a1 w1 hp => ?_)
      have he := hp.1
      subst he
      cases x with
      | nrm => exact hp
      | ret => exact hp
      | ext j =>
        by_cases hj : j = id
        · subst hj
          simp only [Ex.exit, Exit.inBlock, if_true, Ex.inBlock]
          exact ⟨rfl, hp.2⟩
        · simp only [Ex.exit, Exit.inBlock, if_neg hj, Ex.inBlock]
          exact ⟨rfl, hp.2⟩, fun _ e => by cases e⟩
  | _, _, _, _, _, _, .loopN (c := c) (ρ := ρ) (s := s) (x := x) (ρ2 := ρ2) (s2 := s2) h1 h2, hl => by
      have k1 := loC h1 hl
      have key : SimL D c ρ s x ρ2 s2 := fun r a w H hc => by
        refine loop_round (wp_mono ((simC G h1 hl).1 r a w H hc) fun e a1 w1 hp => ?_)
        obtain ⟨r1, H1, A1, e1, e2⟩ := hp.fits H
        have he := hp.1
        subst he
        intro b k cs
        obtain ⟨e', a2, w2, hp2, harr⟩ := (simC G h2 (by have := k1.le; have := k1.len; omega)).2 _ rfl r1 a1 w1 H1 (by rw [e1]; exact hc) b k cs
        obtain ⟨he, r2, A2, E2, e3, e4⟩ := hp2
        exact ⟨e', a2, w2, ⟨he, r2, A1.trans A2, E2, e3.trans e1, e4.trans e2⟩, harr⟩
      exact ⟨fun r a w H hc => loop_of (key r a w H hc), fun c' e => by cases e; exact key⟩
  | _, _, _, _, _, _, .loopX (c := c) (ρ := ρ) (s := s) (x := x) (ρ1 := ρ1) (s1 := s1) h1 hx, hl => by
      have key : SimL D c ρ s x ρ1 s1 := fun r a w H hc => by
        refine loop_round (wp_mono ((simC G h1 hl).1 r a w H hc) fun e a1 w1 hp => ?_)
        have he := hp.1
        subst he
        cases x with
        | nrm => exact absurd rfl hx
        | ext id => exact hp
        | ret => exact hp
      exact ⟨fun r a w H hc => loop_of (key r a w H hc), fun c' e => by cases e; exact key⟩
  | _, _, _, _, _, _, .region h1, hl => ⟨fun r a w H hc => wp_region (simR G h1 (fun _ e => by cases e) hl r a w H hc _ fun a' w' hp => hp), fun _ e => by cases e⟩
  | _, _, s, _, _, _, .draw (ops := ops) h1, hl => ⟨fun r a w H hc => by
      refine wp_region_draw fun t => ?_
      simp only [Region.schedule, G.mixed, Bool.true_or, if_true]
      obtain ⟨H1, X1⟩ := pad_fits (drew_fits H) ops
      have k1 := pad_lo s ops
      refine simR G (h1 t) (fun b e => by cases e; exact hl) (Nat.le_trans hl k1.len) r a _ H1 hc _ fun a' w' hp => ?_
      obtain ⟨he, r2, A2, E2, e3, e4⟩ := hp
      exact ⟨he, r2, ⟨X1.trans A2.ext, A2.ok, A2.tape, A2.os, A2.output⟩, E2, e3, e4⟩, fun _ e => by cases e⟩
  | _, _, s, _, _, _, .scope (c := c) (ρ := ρ) (x := x) (ρ1 := ρ1) (s1 := s1) h1 hge, hl => by
      have k1 := loC h1 (Nat.le_refl _)
      have ih := simC G h1 (Nat.le_refl _)
      refine ⟨fun r a w H hc => wp_mono (ih.1 r a w ⟨H.ok, H.g, H.env⟩ hc) fun e a1 w1 hp => scope_post H k1 hge hp, fun c' ec r a w H hc b k cs => ?_⟩
      obtain ⟨e', a2, w2, hp2, harr⟩ := ih.2 c' ec r a w ⟨H.ok, H.g, H.env⟩ hc b k cs
      exact ⟨e', a2, w2, scope_post H k1 hge hp2, harr⟩
theorem simR (G : Good D) : ∀ {ops b l ρ s ρ' s'}, EvR D ops b l ρ s ρ' s' → (∀ n, b = some n → s.lo ≤ n) → s.lo ≤ s.mem.length → SimR D ops l ρ s ρ' s'
  | _, _, _, _, _, _, _, .nil, _, _ => fun r a w H _ Q hQ => hQ a w ⟨rfl, r, ⟨Ext.refl _, H.ok, rfl, rfl, rfl⟩, H.env, rfl, rfl⟩
  | _, _, _, _, _, _, _, .none hi h, hb, hl => fun r a w H hc Q hQ => by
      simp only [wpOps, hi]
      exact simR G h hb hl r a w H hc Q hQ
  | _, _, _, _, _, _, _, .skip hi hw h, hb, hl => fun r a w H hc Q hQ => by
      simp only [wpOps, hi]
      rw [wanted_spec H.env hw]
      simp only [Bool.false_eq_true, if_false]
      have hd := dst_ok hc hi
      have H1 := put_fits H (s1 := _) (w1 := w) (r1 := r) ⟨Ext.refl _, H.ok, rfl, rfl, rfl⟩ (v := .tup []) (x := undef) hd (by simp only [VR]; exact ⟨#[], rfl, by simp only [VRs]⟩)
      refine simR G h hb hl r _ w H1 (by rw [put_size]; exact hc) Q fun a' w' hp => hQ a' w' ?_
      obtain ⟨he, r2, A2, E2, e3, e4⟩ := hp
      exact ⟨he, r2, A2, E2, e3.trans (put_size ..), e4.trans (put_defers' ..)⟩
  | _, b, _, _, _, _, _, .op (ops := ops) (l := l) (i := i) (o := o) hi hw ho h, hb, hl => fun r a w H hc Q hQ => by
      have k1 := opT_lo ho hl (fun j e => by
        obtain ⟨n, hn, hle⟩ := slot_some e
        have := hb n hn
        omega)
      simp only [wpOps, hi]
      rw [wanted_spec H.env hw]
      simp only [if_true]
      left
      obtain ⟨x, w1, hA, hrun⟩ := opT_spec (c := ⟨w.heap, _, r⟩) (w := w) G.fit H.ok rfl rfl (fun x => H.eval x) ho
      obtain ⟨r1, X1, K1, v1, t1, o1, p1⟩ := hA
      have A1 : Aftr ⟨w.heap, _, r⟩ w _ w1 r1 := ⟨X1, K1, t1, o1, p1⟩
      have H1 := put_fits H A1 (dst_ok hc hi) v1
      have fin : wpOps D.P ops Q l (a.put o.dst x) w1 := by
        refine simR G h (fun n e => Nat.le_trans k1.le (hb n e)) (Nat.le_trans k1.le (Nat.le_trans hl k1.len)) r1 _ w1 H1 (by rw [put_size]; exact hc) Q fun a' w' hp => hQ a' w' ?_
        obtain ⟨he, r2, A2, E2, e3, e4⟩ := hp
        exact ⟨he, r2, A1.trans A2, E2, e3.trans (put_size ..), e4.trans (put_defers' ..)⟩
      unfold Oper.wp
      rcases hrun with hrun | ⟨hx, hrun⟩
      · rw [hrun]; exact fin
      · rw [hrun]; subst hx; exact fin
  | _, _, _, _, _, _, _, .call (ops := ops) (l := l) (o := o) hi hw hcall hf h, hb, hl => fun r a w H hc Q hQ => by
      have k1 := loF hf hl
      simp only [wpOps, hi]
      rw [wanted_spec H.env hw]
      simp only [if_true]
      left
      have hF := simF G hf hl
      obtain ⟨fn, cd, hfn, hbody⟩ := EvF.inv hf
      · have hgood := G.fns _ _ hfn
        simp only [fnOk, Bool.and_eq_true, Bool.not_eq_true'] at hgood
        obtain ⟨xs, hrun, hxs⟩ := call_run (c := ⟨w.heap, _, r⟩) (fun x => H.eval x) hcall hfn hbody hgood.1 w
        unfold Oper.wp
        rw [hrun]
        refine Calls.mono (hF r w xs H.ok H.g hxs) fun e w1 hp => ?_
        obtain ⟨x, r1, rfl, A1, v1⟩ := hp
        have H1 := put_fits H A1 (dst_ok hc hi) v1
        show wpOps D.P ops Q l (a.put o.dst x) w1
        refine simR G h (fun n e => Nat.le_trans k1.le (hb n e)) (Nat.le_trans k1.le (Nat.le_trans hl k1.len)) r1 _ w1 H1 (by rw [put_size]; exact hc) Q fun a' w' hp => hQ a' w' ?_
        obtain ⟨he, r2, A2, E2, e3, e4⟩ := hp
        exact ⟨he, r2, A1.trans A2, E2, e3.trans (put_size ..), e4.trans (put_defers' ..)⟩
theorem simF (G : Good D) : ∀ {f args s v s'}, EvF D f args s v s' → s.lo ≤ s.mem.length → SimF D f args s v s'
  | _, _, s, _, _, .mk (fn := fn) (args := args) (x := x) (ρ1 := ρ1) (s1 := s1) (v := v) hfn hbody hn h hx hres, _ => fun r w xs K Gk hxs => by
      have hgood := G.fns _ _ hfn
      simp only [fnOk, Bool.and_eq_true, hbody] at hgood
      have hlen := VRs.len _ _ hxs
      simp at hlen
      have hsz : (xs ++ Array.replicate (fn.ntmps - xs.size) undef).size = fn.ntmps := by simp; omega
      have H0 : Fits D r { s with lo := s.mem.length } w (entry args) { tmps := xs ++ Array.replicate (fn.ntmps - xs.size) undef, defers := [] } := ⟨K, Gk, entry_env hxs _⟩
      refine calls_of_wp hfn hbody (wp_mono ((simC G h (Nat.le_refl _)).1 r _ w H0 (by rw [hsz]; exact hgood.2)) fun e a1 w1 hp => ?_)
      obtain ⟨r1, H1, A1, e1, e2⟩ := hp.fits H0
      have he := hp.1
      obtain ⟨X, hX, hv⟩ := results_spec G.fit H1 hres
      have hlo := loC h (Nat.le_refl _)
      have hq := hlo.q s.mem.length s.mem.length (Nat.le_refl _) (by
        have := K.q
        simpa using this)
      have fin : ∃ x r', Ending.returned X = .returned x ∧ Aftr ⟨w.heap, s.mem, r⟩ w (leave s.mem.length s.lo v s1).2 w1 r' ∧ VR ⟨w1.heap, (leave s.mem.length s.lo v s1).2.mem, r'⟩ (leave s.mem.length s.lo v s1).1 x := by
        refine ⟨X, r1, rfl, ?_⟩
        unfold leave
        split
        · exact ⟨⟨A1.ext, A1.ok, A1.tape, A1.os, A1.output⟩, hv⟩
        · rename_i hge
          split
          · rename_i v' hv'
            have hmin : min s.mem.length s1.lo = s.mem.length := by omega
            rw [hmin] at hq
            exact ⟨⟨cut_ext A1.ext, cut_ok A1.ok hq, A1.tape, A1.os, A1.output⟩, VR.ofT _ _ (stillW_spec (c := ⟨w1.heap, s1.mem, r1⟩) (c' := Cx.cut ⟨w1.heap, s1.mem, r1⟩ s.mem.length) (fun b hb => cut_I hb) rfl
              (fun i e off m z v x hsr hg => stillG_spec A1.ok 20 i e off m z v x hsr hg) v X v' hv hv')⟩
          · exact ⟨⟨A1.ext, A1.ok, A1.tape, A1.os, A1.output⟩, hv⟩
      rcases hx with rfl | rfl
      · subst he
        exact ⟨e2, X, hX, fin⟩
      · subst he
        exact ⟨e2, X, hX, fin⟩
end

end
end Go.Pe
