/-
  MatchAlike: the row and the card.
-/
import Derived.Test.YtiojohpghhccpaaDoorFactA
import Derived.Test.YtiojohpghhccpaaDoorRow4
import Derived.Test.YtiojohpghhccpaaDoorLawA3
set_option linter.all false
namespace Go.Proofs.YtiojohpghhccpaaDoor
open Go Go.Pe Go.ChangeShapes Go.WideShapes Go.ChangeAt Go.WideMaps Go.WideElems Go.RowKit

set_option maxRecDepth 100000 in
theorem alike_lifted (os : Os) (started : os.Started) (H : Type) (enc : TypeId × Value → H) :
    ReturnsInHanded {} Tryd.checked os 5 .any (fun w args => (Rows.matchAlikeSpec.pre enc Tryd.prog Tryd.f5 [] false w args ∧ laidMetH Tryd.prog Pe.Tryd.laid3 w) ∧ sizedMet enc Tryd.prog Tryd.f5 (OpenSpec.ofChange Rows.matchAlikeSpec) false w args)
      (Rows.matchAlikeSpec.post enc Tryd.prog Tryd.f5 false true false false) := by
  refine returnsInHanded_of_change_and (C := Tryd.checked) (X := fun w _ => laidMetH Tryd.prog Pe.Tryd.laid3 w) (fun _ _ _ hh h => h.of_heap hh) Pe.Tryd.own started (by kernel_rfl) Tryd.func5
    (ChangeSpec.witness_shaped (enc := enc) (C := Tryd.checked) (os := os) (X := fun w _ => laidMetH Tryd.prog Pe.Tryd.laid3 w) false (World.doorLaid Tryd.prog 400 os) #[.agg #[.int .i64 0, .slice none 0 0, .slice none 0 0], .agg #[.int .i64 0, .slice none 0 0, .slice none 0 0], .agg #[.int .i64 0, .slice none 0 0, .slice none 0 0]] 8 rfl (World.shaped_of_RefB (by kernel_rfl) (by kernel_rfl)) (by kernel_rfl) (by kernel_rfl) (by kernel_rfl) (Pe.Tryd.door_met os _)) ?_
  intro W base args ds gs before hval0 hW _ _ hL _
  have hval : ∀ (j : Nat) t v, Tryd.f5.params[j]? = some t → args[j]? = some v → Value.okWide Tryd.prog W .any base t v := hval0
  have hW' := hW
  obtain ⟨p, q, hA0, hV, rfl, hfz, hnd⟩ := hW
  have hA : DataW.TrodAll enc Tryd.prog W 0 (fun _ => true) true Tryd.f5.params.toList args.toList ds p := hA0
  rw [Tryd.params5] at hA hval
  obtain ⟨v0, v1, v2, d0, d1, d2, p0, p1, p2, ha, rfl, rfl, h0, h1, h2⟩ := trodAll_three hA
  obtain rfl : args = #[v0, v1, v2] := ha
  obtain ⟨x, hx, vx⟩ := Pe.Tryd.form_of h0 (Pe.Tryd.agg_of Tryd.underlying25 (hval 0 25 v0 rfl rfl))
  obtain ⟨y, hy, vy⟩ := Pe.Tryd.form_of h1 (Pe.Tryd.agg_of Tryd.underlying25 (hval 1 25 v1 rfl rfl))
  obtain ⟨z, hz, vz⟩ := Pe.Tryd.form_of h2 (Pe.Tryd.agg_of Tryd.underlying25 (hval 2 25 v2 rfl rfl))
  obtain ⟨rfl, rfl⟩ := trodVars_none hV
  refine (Pe.Tryd.law_calls (Pe.Tryd.alike_run x y z hx hy hz) hL (by simp only [VTs]; exact ⟨vx, vy, vz, trivial⟩)).mono fun e W' ⟨he, hb⟩ => ?_
  exact ⟨_, he, Pe.Tryd.law_post rfl rfl (by kernel_rfl) hW' hb rfl⟩

theorem matchAlike_holds : Rows.MatchAlikeSaid :=
  OpenClaim.holds_of_wide 5 Tryd.f5 rfl rfl rfl rfl rfl rfl rfl ⟨rfl, rfl, rfl, rfl, rfl⟩ rfl rfl rfl rfl rfl (by as_aux_lemma => kernel_rfl) Tryd.func5 matchAlike_facts
    (of_decide_eq_true (by kernel_rfl)) (by unfold Func.isWrapper; first | (rw [if_pos (by decide +kernel)]; kernel_rfl) | (rw [if_neg (by decide +kernel)]; exact ⟨rfl, rfl⟩))
    (fun os started H enc _ => alike_lifted os started H enc)

theorem matchAlike_goes : false = Rows.matchAlikeRow.goesBy Tryd.prog := by kernel_rfl

theorem matchAlikeCard_holds : Rows.MatchAlikeCardSaid :=
  Claim7.holds_tied_plain_at .later [] [.data, .data, .data] true (true, "7d2df7018238aaea6faf644acbdcb6bb671b7db8a8bf3521dcc9ef09298420a7") true
    matchAlike_holds (fun _ h => by cases h) (by as_aux_lemma => kernel_rfl) (fun _ h => by cases h) matchAlike_row_tie rfl ⟨rfl, rfl⟩ Pe.Tryd.mainIs rfl
    (fun f fn hf hfn => by
      obtain rfl : f = 5 := Option.some.inj ((show Tryd.prog.funcNamed "joinery/joinerylaw16.MatchAlike" = some 5 by as_aux_lemma => kernel_rfl).symm.trans hf) |>.symm
      obtain rfl : fn = Tryd.f5 := (Option.some.inj (Tryd.func5.symm.trans hfn)).symm
      exact ⟨Pe.Tryd.looks, fun j t ht => by
        rw [Tryd.params5] at ht
        have hm : t ∈ [25] := by simpa using Array.mem_of_getElem? ht
        have hall : ([25].all fun u => !Tryd.prog.wantsStandIn u) = true := by as_aux_lemma => kernel_rfl
        exact (show Tryd.prog.wantsStandIn t = false by simpa using List.all_eq_true.1 hall t hm)⟩)
    matchAlike_goes
#print axioms matchAlikeCard_holds
end Go.Proofs.YtiojohpghhccpaaDoor
