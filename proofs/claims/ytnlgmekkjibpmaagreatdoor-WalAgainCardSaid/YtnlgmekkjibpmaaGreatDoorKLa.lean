/- What is proved: for every input the law billetlaw11.WalAgain returns true, and its arguments read as before.
   Conditions: the package variable errors.errorType holds what the program's text lays in it (tied by the card). -/
import Derived.Test.YtnlgmekkjibpmaaGreatDoorMf
import Derived.Test.YtnlgmekkjibpmaaGreatDoorMg
import Derived.Test.YtnlgmekkjibpmaaGreatDoorCards
import Derived.Test.YtnlgmekkjibpmaaGreatDoorTie
import Derived.SevenTiedAt
import Derived.ChangeMaps5
namespace Go.Proofs.YtnlgmekkjibpmaaGreatDoor
open Go Go.ChangeShapes Go.WideShapes Go.RowKit Go.ChangeMaps
set_option linter.unusedVariables false
set_option linter.unusedSimpArgs false

set_option maxRecDepth 100000 in
theorem again_lifted (os : Os) (started : os.Started) (H : Type) (enc : TypeId × Value → H) :
    ReturnsInHanded {} Tryz.checked os 5 .any (fun w args => (Rows.walAgainSpec.pre enc Tryz.prog Tryz.f5 [] false w args ∧ laidMetH Tryz.prog laidOnes w) ∧ sizedMet enc Tryz.prog Tryz.f5 (OpenSpec.ofChange Rows.walAgainSpec) false w args)
      (Rows.walAgainSpec.post enc Tryz.prog Tryz.f5 false true false false) := by
  refine returnsInHanded_of_change_and (C := Tryz.checked) (X := fun w _ => laidMetH Tryz.prog laidOnes w) (fun _ _ _ hh h => h.of_heap hh) Tryz.own started (by kernel_rfl) Tryz.func5
    (ChangeSpec.witness_at (enc := enc) (C := Tryz.checked) (os := os) (X := fun w _ => laidMetH Tryz.prog laidOnes w) false (laidWorld os) #[.slice none 0 0] 8 rfl (by kernel_rfl) (by kernel_rfl) (by kernel_rfl) (by kernel_rfl) (by kernel_rfl) (laidWorld_met os _)) ?_
  intro W base args ds gs before hval0 hW _ _ hL _
  have hval : ∀ (j : Nat) t v, Tryz.f5.params[j]? = some t → args[j]? = some v → Value.okWide Tryz.prog W .any base t v := hval0
  have hW' := hW
  obtain ⟨p, q, hA0, hV0, rfl, hfz, hnd⟩ := hW
  have hA : DataW.TrodAll enc Tryz.prog W 0 (fun _ => true) true Tryz.f5.params.toList args.toList ds p := hA0
  have hV : DataW.TrodVars enc Tryz.prog W (fun _ => true) [] gs q := hV0
  obtain ⟨rfl, rfl⟩ : gs = [] ∧ q = [] := by
    cases gs with
    | nil => exact ⟨rfl, hV⟩
    | cons g r => exact absurd hV (by intro h; cases h)
  have hlt : ∀ x ∈ p, x.block < W.heap.size := fun x hx => hW'.lt x (by simpa using hx)
  have hA2 := hA
  rw [Tryz.params5] at hA hval
  obtain ⟨v0, d0, rfl, rfl, h0⟩ := trodAll_one hA
  obtain ⟨S, hS, _⟩ := script_of (okWide_slice Tryz.underlying47 (hval 0 47 v0 rfl rfl)) h0
  have hg := g_of_laid hL
  refine (walAgain_calls v0 S W hg hS).mono fun e W' ⟨he, hf⟩ => ?_
  have hb : Below W.heap.size W W' := hf.toBelow
  subst he
  refine ⟨_, rfl, _, _, _, [], p, [], hW', trodAll_mk1 (shut_bool Tryz.underlying4 true), all_carry hb _ _ _ _ hA2 hlt (by rw [Tryz.params5]; simp only [List.mem_cons, List.not_mem_nil, or_false, forall_eq_or_imp, forall_eq]; exact ⟨by kernel_rfl, of_decide_eq_true (by kernel_rfl)⟩), rfl, hb.frame _, fun h => by cases h⟩

theorem again_row : Rows.WalAgainSaid :=
  OpenClaim.holds_of_wide 5 Tryz.f5 rfl rfl rfl rfl rfl rfl rfl ⟨rfl, rfl, rfl, rfl, rfl⟩ rfl rfl rfl rfl rfl (by kernel_rfl) Tryz.func5 (by kernel_rfl)
    (of_decide_eq_true (by kernel_rfl)) (by unfold Func.isWrapper; rw [if_neg (of_decide_eq_false (by kernel_rfl))]; exact ⟨rfl, rfl⟩)
    (fun os started H enc _ => again_lifted os started H enc)

theorem again_card : Rows.WalAgainCardSaid :=
  Claim7.holds_tied_plain_at .later [] [.handle] true (true, "4f669eb1815ddd63ee7c3b1e1a903fd97391efdc60560fb5bc4fcc95ba292150") true
    again_row (fun _ h => by cases h) (by kernel_rfl) (fun _ h => by cases h) walAgain_row_tie rfl ⟨rfl, rfl⟩ (by kernel_rfl) rfl
    (fun f fn hf hfn => by
      obtain rfl : f = 5 := Option.some.inj ((show Tryz.prog.funcNamed "billet/billetlaw11.WalAgain" = some 5 by kernel_rfl).symm.trans hf) |>.symm
      obtain rfl : fn = Tryz.f5 := (Option.some.inj (Tryz.func5.symm.trans hfn)).symm
      exact ⟨by kernel_rfl, fun j t ht => by
        rw [Tryz.params5] at ht
        rcases j with _ | j
        · obtain rfl : 47 = t := by simpa using ht
          exact (show Tryz.prog.wantsStandIn 47 = false by kernel_rfl)
        · simp at ht⟩)
    (by kernel_rfl)
#print axioms again_card
end Go.Proofs.YtnlgmekkjibpmaaGreatDoor
