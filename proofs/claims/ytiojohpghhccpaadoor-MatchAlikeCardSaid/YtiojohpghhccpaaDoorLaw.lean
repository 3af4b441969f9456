/-
  From a law walked in the evaluator to its row.
-/
import Derived.Test.YtiojohpghhccpaaDoorBrTab
import Derived.Test.YtiojohpghhccpaaDoorTie
import Derived.Test.YtiojohpghhccpaaDoorCards
import Derived.ProofKit
import Derived.LaidMore
import Derived.OpenShut
import Derived.Carry
import Derived.SevenTiedAt
import Derived.Handed
set_option linter.all false
set_option linter.constructorNameAsVariable false
set_option maxRecDepth 10000
namespace Go.Pe.Tryd
open Go.Proofs Go.ChangeShapes Go.WideShapes Go.ChangeAt Go.WideMaps Go.WideElems Go.RowKit

theorem own : ownKnob Tryd.prog.godebug = none := by kernel_rfl
theorem laidOut : laidOutB Tryd.prog = true := by kernel_rfl

/-- The door's own heap meets the condition. -/
theorem door_met (os : Os) (args : Array Value) : laidMetH Tryd.prog laid3 ((World.doorLaid Tryd.prog 400 os).forCall (fun _ _ => 0) ⟨#[], args, []⟩).memory :=
  laidMetH_of_parts3 (fuel := 8) (laidMet_of_run' 8 (by kernel_rfl) (by kernel_rfl)) (by kernel_rfl) (by kernel_rfl)

variable {W : World}

/-- A call that comes to true in the evaluator comes to true; and what was there is as it was. -/
theorem law_calls {f : Nat} {vs : List V} {xs : Array Value} (h : EvF D f vs ⟨[], 0⟩ (.bool true) ⟨[], 0⟩) (hL : laidMetH Tryd.prog laid3 W) (hv : VTs W.heap (fun b => b < W.heap.size) vs xs.toList) :
    Calls Tryd.prog f xs W fun e W' => e = .returned (.bool true) ∧ Below W.heap.size W W' := by
  have hI : ∀ b, b < W.heap.size → (Cx.mk W.heap [] (fun _ => 0)).I b := fun b h => ⟨h, fun i hi => absurd hi.1 (by simp)⟩
  have hok : Ok (Cx.mk W.heap [] (fun _ => 0)) := ⟨fun i b hb => by simp at hb, fun i j hi => absurd hi.1 (by simp), fun i hi => absurd hi.1 (by simp)⟩
  refine (simF good h (Nat.le_refl _) (fun _ => 0) W xs hok (gok hL _) (VRs.ofT _ _ (VTs.mono (fun _ _ => rfl) hI _ _ hv))).mono fun e W' hp => ?_
  obtain ⟨x, r', rfl, A, hx⟩ := hp
  simp only [VR, VT] at hx
  exact ⟨by rw [hx], A.os, A.tape, A.output, A.ext.size, fun k hk => (A.ext.imm k (hI k hk)).1⟩

theorem form_of {H : Type} {enc : TypeId × Value → H} {v : Value} {d : DataW H} {p : List MemPlace} (h : DataW.Trod enc Tryd.prog W 0 (fun _ => true) true 25 v d p) (hv : ∃ xs, v = .agg xs) :
    ∃ x : Form, x.Fit ∧ VT W.heap (fun b => b < W.heap.size) x.v v := by
  obtain ⟨fuel, h⟩ := h
  obtain ⟨xs, rfl⟩ := hv
  obtain ⟨_, x, hf, hx⟩ := rd25 _ _ _ h
  refine ⟨x, hf, ?_⟩
  simp only [Form.v, VT]
  exact ⟨xs, rfl, hx⟩

theorem trodAll_stays {H : Type} {enc : TypeId × Value → H} {W' : World} (hb : Below W.heap.size W W') : ∀ {ts : List TypeId} {vs : List Value} {ds : List (DataW H)} {p : List MemPlace},
    (∀ t ∈ ts, Tryd.prog.readableRec t = true ∧ t < Tryd.prog.types.size) → DataW.TrodAll enc Tryd.prog W 0 (fun _ => true) true ts vs ds p → (∀ x ∈ p, x.block < W.heap.size) →
    DataW.TrodAll enc Tryd.prog W' 0 (fun b => decide (b < W.heap.size)) true ts vs ds p
  | [], [], [], _, _, h, _ => h
  | t :: ts, v :: vs, d :: ds, _, hr, ⟨p, q, h1, h2, e⟩, hlt => by
    subst e
    have hr0 := hr t (List.mem_cons_self ..)
    exact ⟨p, q, Below.trod laidOut hr0.1 hr0.2 h1 hb fun x hx => hlt x (List.mem_append_left _ hx), trodAll_stays hb (fun t ht => hr t (List.mem_cons_of_mem _ ht)) h2 fun x hx => hlt x (List.mem_append_right _ hx), rfl⟩
  | [], _ :: _, _, _, _, h, _ => h.elim
  | [], [], _ :: _, _, _, h, _ => h.elim
  | _ :: _, [], _, _, _, h, _ => h.elim
  | _ :: _, _ :: _, [], _, _, h, _ => h.elim

/-- What is asked behind a law's call. -/
theorem law_post {H : Type} {enc : TypeId × Value → H} {W' : World} {f : Func} {s : ChangeSpec} {args : Array Value} {ds gs : List (DataW H)} {before : List MemPlace} (hvars : s.vars = []) (hr : f.resultTypes = #[4])
    (hts : (f.params.toList.all fun t => Tryd.prog.readableRec t && decide (t < Tryd.prog.types.size)) = true) (hW : DataW.Whole enc Tryd.prog f.params.toList s.vars false W args.toList ds gs before) (hb : Below W.heap.size W W')
    (hs : s.fn H (ds ++ gs) = { results := [.lit (.bool true)], args := ds }) : s.post enc Tryd.prog f false true false false W args (.bool true) W' := by
  have hlt := hW.lt
  have hW' := hW
  obtain ⟨p, q, hA, hV, rfl, _, _⟩ := hW'
  refine ⟨ds, gs, _, [], p, [], hW, ?_, ?_, ?_, hb.frame _, fun h => by cases h⟩
  · rw [hs, hr]
    exact trodAll_mk1 (shut_bool Tryd.underlying4 _)
  · rw [hs]
    refine trodAll_stays hb (fun t ht => ?_) hA fun x hx => hlt x (List.mem_append_left _ hx)
    have := List.all_eq_true.1 hts t ht
    simpa using this
  · rw [hs, hvars]
    rfl

theorem agg_of {t : TypeId} {v : Value} {base : Nat} {fs : Array Field} (hu : Tryd.prog.underlying t = some (.struct fs)) (h : Value.okWide Tryd.prog W .any base t v) : ∃ xs, v = .agg xs := by
  unfold Value.okWide at h
  rw [hu] at h
  obtain ⟨cs, rfl, _⟩ := h
  exact ⟨cs, rfl⟩
end Go.Pe.Tryd
