/- What is proved: for every input the law billetlaw11.WalLong returns true, and its arguments read as before.
   Conditions: the package variable errors.errorType holds what the program's text lays in it (tied by the card). -/
import Derived.Test.YtnlgmekkjibpmaaGreatDoorMalLongd
import Derived.Outline
import Derived.OwnWalk
import Derived.Laws.OwnMore
import Derived.Test.YtnlgmekkjibpmaaGreatDoorRows
import Derived.Test.YtnlgmekkjibpmaaGreatDoorMalLongb
import Derived.ChangeSame
import Derived.ChangeVars
import Derived.JoinedOf
import Derived.RowKit
import Derived.RowKitTokens
import Derived.LaidLaws
import Derived.LaidHandle
import Derived.Stop.Joined
import Derived.Carry
import Derived.Test.YtnlgmekkjibpmaaGreatDoorCards
import Derived.Test.YtnlgmekkjibpmaaGreatDoorTie
import Derived.SevenTiedAt
import Derived.ChangeMaps5
/- DERIVED. wal, plainly: appends, checkpoints, restarts, opens that are cut off. -/
namespace Go.Proofs.YtnlgmekkjibpmaaGreatDoor
set_option linter.unusedVariables false
set_option linter.unusedSimpArgs false

/-- A log that can be written to: its checkpoint a, its records E, its number q. -/
structure Alive (L : Lg) (a : Ent) (E : List Ent) (q : Nat) : Prop where
  err : L.err = 0
  seq : L.seq = q
  off : L.dk.off = false
  new : L.dk.f .new = none
  snap : SnapIs L.dk a
  log : LogIs L.dk E []
  has : Has a E q

theorem append_law (L : Lg) (a : Ent) (E : List Ent) (q : Nat) (s : List UInt8) (h : Alive L a E q) (hx : Ent.ok (q + 1, s)) (hlen : (flat E).length + (fr (q + 1, s)).length ≤ 65536) :
    ((L.append s).1 = 0 ∧ Alive (L.append s).2 a (E ++ [(q + 1, s)]) (q + 1) ∧ (L.append s).2.dk.armed = L.dk.armed) ∨
    ((L.append s).1 = 100 ∧ L.dk.armed ≠ 0 ∧ (L.append s).2.dk.off = true ∧ SnapIs (L.append s).2.dk a ∧ ∃ j, j ≤ (fr (q + 1, s)).length ∧ LogIs (L.append s).2.dk E ((fr (q + 1, s)).take j)) := by
  obtain ⟨h1, h2, h3, h4, h5, h6, h7⟩ := h
  unfold Lg.append
  have hm := made_ok hx
  rw [h2, if_neg (by omega), hm]
  simp only [ne_eq, not_true, if_false]
  generalize L.dk = D at *
  have hl0 : ((D.f .log).getD Fl.zero).bytes = flat E := by
    rcases h6 with ⟨g1, rfl, _⟩ | ⟨s', g1, _, _⟩
    · rw [g1]; rfl
    · rw [g1]; simp
  have hl1 : (flat E).length ≤ ((D.f .log).getD Fl.zero).synced := by
    rcases h6 with ⟨g1, rfl, _⟩ | ⟨s', g1, g2, _⟩
    · rw [g1]; simp [flat]
    · rw [g1]; simpa using g2
  have hl2 : ((D.f .log).getD Fl.zero).synced ≤ (flat E).length := by
    rcases h6 with ⟨g1, rfl, _⟩ | ⟨s', g1, g2, g3⟩
    · rw [g1]; simp [Fl.zero]
    · rw [g1]; simpa using g3
  rcases append_cases0 D .log (fr (q + 1, s)) h3 (by rw [hl0]; omega) with ⟨k1, k2, k3, k4⟩ | ⟨k1, k3, k2, k4⟩
  · right
    rw [if_pos (by omega)]
    exact ⟨k1, k2, k3, h5.same (by rw [k4]), 0, by omega, h6.same (by rw [k4])⟩
  · rw [if_neg (by omega)]
    generalize (D.append .log (fr (q + 1, s))).2 = D1 at *
    rw [hl0] at k4
    have f1 : D1.f .log = some ⟨flat E ++ fr (q + 1, s), ((D.f .log).getD Fl.zero).synced⟩ := by rw [k4, upd_same]
    have ho1 : ∀ k, k ≠ .log → D1.f k = D.f k := fun k hk => by rw [k4, upd_other _ _ _ _ hk]
    rcases sync_cases0 D1 .log _ k3 f1 with ⟨g1, g2, g3, g4⟩ | ⟨g1, g3, g2, g4⟩
    · right
      rw [if_pos (by omega)]
      refine ⟨g1, by omega, g3, h5.same (by rw [g4, ho1 _ (by simp)]), (fr (q + 1, s)).length, by omega, .inr ⟨((D.f .log).getD Fl.zero).synced, ?_, hl1, ?_⟩⟩
      · rw [g4, f1, List.take_length]
      · rw [List.length_append]; omega
    · left
      rw [if_neg (by omega)]
      refine ⟨rfl, ⟨rfl, rfl, g3, ?_, h5.same ?_, .inr ⟨(flat E ++ fr (q + 1, s)).length, ?_, ?_, ?_⟩, h7.append hx rfl⟩, by show _ = D.armed; simp only; omega⟩
      · show _ = none
        simp only
        rw [g4, upd_other _ _ _ _ (by simp), ho1 _ (by simp), h4]
      · simp only
        rw [g4, upd_other _ _ _ _ (by simp), ho1 _ (by simp)]
      · simp only
        rw [g4, upd_same, flat_append, flat_one, List.append_nil]
      · rw [flat_append, flat_one]; exact Nat.le_refl _
      · rw [flat_append, flat_one, List.append_nil]; exact Nat.le_refl _

theorem append_long (L : Lg) (s : List UInt8) (h : L.err = 0) (hx : ¬ Ent.ok (L.seq + 1, s)) : L.append s = (111, L) := by
  unfold Lg.append
  have : madeB (L.seq + 1) s = ([], 111) := by
    unfold madeB
    rw [if_pos]
    unfold Ent.ok at hx
    simp only at hx
    omega
  rw [if_neg (by omega), this, if_pos (by simp)]
theorem check_long (L : Lg) (s : List UInt8) (h : L.err = 0) (hx : ¬ Ent.ok (L.seq, s)) : L.checkpoint s = (111, L) := by
  unfold Lg.checkpoint
  have : madeB L.seq s = ([], 111) := by
    unfold madeB
    rw [if_pos]
    unfold Ent.ok at hx
    simp only at hx
    omega
  rw [if_neg (by omega), this, if_pos (by simp)]

theorem check_law (L : Lg) (a : Ent) (E : List Ent) (q : Nat) (s : List UInt8) (h : Alive L a E q) (hx : Ent.ok (q, s)) :
    ((L.checkpoint s).1 = 0 ∧ Alive (L.checkpoint s).2 (q, s) [] q ∧ (L.checkpoint s).2.dk.armed = L.dk.armed) ∨
    ((L.checkpoint s).1 = 100 ∧ L.dk.armed ≠ 0 ∧ (L.checkpoint s).2.dk.off = true ∧ (SnapIs (L.checkpoint s).2.dk a ∨ SnapIs (L.checkpoint s).2.dk (q, s)) ∧ LogIs (L.checkpoint s).2.dk E []) := by
  obtain ⟨h1, h2, h3, h4, h5, h6, h7⟩ := h
  unfold Lg.checkpoint
  have hm := made_ok hx
  have hfl := fr_le hx
  have hpl := pl_le hx
  rw [h2, if_neg (by omega), hm]
  simp only [ne_eq, not_true, if_false]
  generalize L.dk = D at *
  have hsz : (fr (q, s)).length ≤ 65536 := by
    have : s.length ≤ 4096 := by have := hx.1; simp only at this; omega
    simp only at hfl
    omega
  rcases renew_cases D .snap (fr (q, s)) (by simp) h3 h4 hsz with ⟨k1, k2, k3, k4⟩ | ⟨k1, k2, k3, k4, k5, k6⟩
  · right
    rw [if_pos (by omega)]
    exact ⟨k1, k2, k3, .inl (h5.same (k4 _ (by simp))), h6.same (k4 _ (by simp))⟩
  · rw [if_neg (by omega)]
    generalize (D.renew .snap (fr (q, s))).2 = D1 at *
    have hlog : D1.f .log = D.f .log := k6 _ (by simp) (by simp)
    by_cases hi : (D1.f .log).isSome = true
    · rw [if_pos hi]
      rcases remove_cases0 D1 .log k2 hi with ⟨g1, g2, g3, g4⟩ | ⟨g1, g3, g2, g4⟩
      · right
        exact ⟨g1, by omega, g3, .inr (.inr (by rw [g4]; exact k5)), h6.same (by rw [g4]; exact hlog)⟩
      · left
        refine ⟨g1, ⟨g1, rfl, g3, ?_, .inr ?_, .inl ⟨?_, rfl, rfl⟩, (h7.check hx rfl).2⟩, by simp only; omega⟩
        · simp only
          rw [g4, upd_other _ _ _ _ (by simp), k4]
        · simp only
          rw [g4, upd_other _ _ _ _ (by simp), k5]
        · simp only
          rw [g4, upd_same]
    · left
      rw [if_neg hi]
      exact ⟨rfl, ⟨rfl, rfl, k2, k4, .inr k5, .inl ⟨by simpa using hi, rfl, rfl⟩, (h7.check hx rfl).2⟩, k3⟩

theorem rst_at (keep : List Int) : ∀ (l : List Nm) (i : Nat) (f : Nm → Option Fl) (n : Nm), l.Nodup → (n ∈ l → ∃ c, rst keep i l f n = (f n).map (cutFl c)) ∧ (n ∉ l → rst keep i l f n = f n)
  | [], i, f, n, _ => ⟨fun h => (by simp at h), fun _ => rfl⟩
  | m :: l, i, f, n, hd => by
    rw [List.nodup_cons] at hd
    obtain ⟨h1, h2⟩ := rst_at keep l (i + 1) (upd f m ((f m).map (cutFl (keep.getD i 0)))) n hd.2
    constructor
    · intro hm
      rw [rst]
      rw [List.mem_cons] at hm
      by_cases hnl : n ∈ l
      · obtain ⟨c, hc⟩ := h1 hnl
        refine ⟨c, ?_⟩
        rw [hc, upd_other]
        rintro rfl
        exact hd.1 hnl
      · rcases hm with rfl | hm
        · refine ⟨keep.getD i 0, ?_⟩
          rw [h2 hnl, upd_same]
        · exact absurd hm hnl
    · intro hm
      rw [List.mem_cons, not_or] at hm
      rw [rst, h2 hm.2, upd_other _ _ _ _ hm.1]
theorem restart_at (D : Dk) (keep : List Int) (n : Nm) : ∃ c, (D.restart keep).f n = (D.f n).map (cutFl c) := by
  have hnd : (names D.f).Nodup := List.Nodup.sublist List.filter_sublist (by decide)
  obtain ⟨h1, h2⟩ := rst_at keep (names D.f) 0 D.f n hnd
  by_cases hm : n ∈ names D.f
  · exact h1 hm
  · refine ⟨0, ?_⟩
    have e : (D.restart keep).f n = D.f n := h2 hm
    have hn := mem_names D.f n
    have : D.f n = none := by
      rw [decide_eq_false hm] at hn
      simpa using hn.symm
    rw [e, this]; rfl
theorem cutFl_whole (c : Int) (b : List UInt8) : cutFl c ⟨b, b.length⟩ = ⟨b, b.length⟩ := by
  unfold cutFl
  have : b.take (b.length + pickN c (b.length - b.length + 1)) = b := List.take_of_length_le (by omega)
  simp only [this]
theorem restart_snap {D : Dk} {a : Ent} (h : SnapIs D a) (keep : List Int) : SnapIs (D.restart keep) a := by
  obtain ⟨c, hc⟩ := restart_at D keep .snap
  rcases h with ⟨h, h2⟩ | h
  · exact .inl ⟨by rw [hc, h]; rfl, h2⟩
  · right; rw [hc, h, Option.map_some, cutFl_whole]
theorem restart_log {D : Dk} {E : List Ent} {x : Ent} {j : Nat} (h : LogIs D E ((fr x).take j)) (hj : j ≤ (fr x).length) (keep : List Int) :
    (∃ k, k ≤ j ∧ k < (fr x).length ∧ LogIs (D.restart keep) E ((fr x).take k)) ∨ (j = (fr x).length ∧ LogIs (D.restart keep) (E ++ [x]) []) := by
  have hfl := fr_len x
  obtain ⟨c, hc⟩ := restart_at D keep .log
  rcases h with ⟨h, h2, h3⟩ | ⟨s, h, h1, h2⟩
  · left
    exact ⟨0, by omega, by omega, .inl ⟨by rw [hc, h]; rfl, h2, rfl⟩⟩
  · rw [h, Option.map_some] at hc
    unfold cutFl at hc
    simp only at hc
    have hp := pickN_lt c ((flat E ++ (fr x).take j).length - s + 1) (by omega)
    generalize hkk : pickN c ((flat E ++ (fr x).take j).length - s + 1) = p at hc hp
    have hlt : ((fr x).take j).length = j := by rw [List.length_take]; omega
    rw [List.length_append, hlt] at hp h2
    have e : (flat E ++ (fr x).take j).take (s + p) = flat E ++ (fr x).take (s + p - (flat E).length) := by
      rw [List.take_append, List.take_of_length_le (by omega), List.take_take, Nat.min_eq_left (by omega)]
    rw [e] at hc
    by_cases hk : s + p - (flat E).length < (fr x).length
    · left
      exact ⟨s + p - (flat E).length, by omega, hk, .inr ⟨_, hc, by rw [List.length_append]; omega, Nat.le_refl _⟩⟩
    · right
      refine ⟨by omega, .inr ⟨_, ?_, Nat.le_refl _, by simp⟩⟩
      rw [hc, flat_append, flat_one, List.take_of_length_le (by omega), List.append_nil]

noncomputable def opensD (keep : List Int) : List Int → Dk → Option (Ent × List Ent) × Nat × Dk
  | [], D => (D.restart keep).Open
  | c :: cs, D =>
    if (((D.restart keep).arm (1 + pickN c 5)).2.Open).2.1 = 100 then opensD keep cs ((((D.restart keep).arm (1 + pickN c 5)).2.Open).2.2.arm 0).2
    else ((((D.restart keep).arm (1 + pickN c 5)).2.Open).1, (((D.restart keep).arm (1 + pickN c 5)).2.Open).2.1, ((((D.restart keep).arm (1 + pickN c 5)).2.Open).2.2.arm 0).2)

theorem arm_f (D : Dk) (n : Int) : (D.arm n).2.f = D.f ∧ (D.arm n).2.off = D.off ∧ (D.arm n).2.acts = D.acts := by
  unfold Dk.arm; split <;> exact ⟨rfl, rfl, rfl⟩
theorem arm_0 (D : Dk) : (D.arm 0).2.armed = 0 := by unfold Dk.arm; simp

structure Told (R : Option (Ent × List Ent) × Nat × Dk) (a : Ent) (E : List Ent) (q : Nat) : Prop where
  out : R.1 = some (a, keptF a.1 E)
  code : R.2.1 = 0
  off : R.2.2.off = false
  armed : R.2.2.armed = 0
  new : R.2.2.f .new = none
  snap : SnapIs R.2.2 a
  log : LogIs R.2.2 E []
  has : Has a E q

theorem opens_still (keep : List Int) (a : Ent) (E : List Ent) (q : Nat) (hH : Has a E q) (hlen : (flat E).length ≤ 65536) :
    ∀ (cs : List Int) (D : Dk), SnapIs D a → LogIs D E [] → Told (opensD keep cs D) a E q := by
  have hj : 0 < (fr a).length := by have := fr_len a; omega
  intro cs
  induction cs with
  | nil =>
    intro D hs hl
    unfold opensD
    have hl2 : LogIs (D.restart keep) E [] := by
      rcases restart_log (x := a) (j := 0) (by simpa using hl) (by omega) keep with ⟨k, h1, h2, h3⟩ | ⟨h1, _⟩
      · obtain rfl : k = 0 := by omega
        simpa using h3
      · omega
    rcases open_cases (D.restart keep) a E [] a 0 q rfl (restart_snap hs keep) hl2 hH.aok rfl hj hH hlen with ⟨h1, h2, h3, h4, h5, h6, h7⟩ | ⟨_, _, h3, _⟩
    · exact ⟨h1, h2, h3, h4, h5, h6, h7, hH⟩
    · exact absurd rfl h3
  | cons c cs ih =>
    intro D hs hl
    unfold opensD
    have hl2 : LogIs (D.restart keep) E [] := by
      rcases restart_log (x := a) (j := 0) (by simpa using hl) (by omega) keep with ⟨k, h1, h2, h3⟩ | ⟨h1, _⟩
      · obtain rfl : k = 0 := by omega
        simpa using h3
      · omega
    generalize hD1 : ((D.restart keep).arm (1 + pickN c 5)).2 = D1
    have hf := arm_f (D.restart keep) (1 + pickN c 5)
    rw [hD1] at hf
    have hs2 : SnapIs D1 a := (restart_snap hs keep).same (by rw [hf.1])
    have hl3 : LogIs D1 E [] := hl2.same (by rw [hf.1])
    rcases open_cases D1 a E [] a 0 q hf.2.1 hs2 hl3 hH.aok rfl hj hH hlen with ⟨h1, h2, h3, h4, h5, h6, h7⟩ | ⟨h1, h2, h3, h4, h5, h6⟩
    · rw [if_neg (by omega)]
      have g := arm_f D1.Open.2.2 0
      exact ⟨h1, h2, by rw [← h3]; exact g.2.1, arm_0 _, by rw [← h5]; exact congrFun g.1 _, h6.same (congrFun g.1 _), h7.same (congrFun g.1 _), hH⟩
    · rw [if_pos h2]
      have g := arm_f D1.Open.2.2 0
      exact ih _ (h5.same (congrFun g.1 _)) (h6.same (congrFun g.1 _))

theorem opens_torn (keep : List Int) (a : Ent) (E : List Ent) (q : Nat) (x : Ent) (hx : x.ok) (hq : x.1 = q + 1) (hH : Has a E q) (hlen : (flat E).length + (fr x).length ≤ 65536) :
    ∀ (cs : List Int) (D : Dk) (j : Nat), SnapIs D a → LogIs D E ((fr x).take j) → j ≤ (fr x).length → Told (opensD keep cs D) a E q ∨ Told (opensD keep cs D) a (E ++ [x]) (q + 1) := by
  have hH2 := hH.append hx hq
  have hlen2 : (flat (E ++ [x])).length ≤ 65536 := by rw [flat_append, flat_one, List.length_append]; exact hlen
  have hfa : 0 < (fr a).length := by have := fr_len a; omega
  intro cs
  induction cs with
  | nil =>
    intro D j hs hl hj
    unfold opensD
    rcases restart_log hl hj keep with ⟨k, h1, h2, h3⟩ | ⟨h1, h3⟩
    · rcases open_cases (D.restart keep) a E _ x k q rfl (restart_snap hs keep) h3 hx rfl h2 hH (by omega) with ⟨h1, h2, h3, h4, h5, h6, h7⟩ | ⟨_, _, h3, _⟩
      · exact .inl ⟨h1, h2, h3, h4, h5, h6, h7, hH⟩
      · exact absurd rfl h3
    · rcases open_cases (D.restart keep) a (E ++ [x]) [] a 0 (q + 1) rfl (restart_snap hs keep) h3 hH.aok rfl hfa hH2 hlen2 with ⟨h1, h2, h3, h4, h5, h6, h7⟩ | ⟨_, _, h3, _⟩
      · exact .inr ⟨h1, h2, h3, h4, h5, h6, h7, hH2⟩
      · exact absurd rfl h3
  | cons c cs ih =>
    intro D j hs hl hj
    unfold opensD
    generalize hD1 : ((D.restart keep).arm (1 + pickN c 5)).2 = D1
    have hf := arm_f (D.restart keep) (1 + pickN c 5)
    rw [hD1] at hf
    have hs2 : SnapIs D1 a := (restart_snap hs keep).same (by rw [hf.1])
    have g := arm_f D1.Open.2.2 0
    rcases restart_log hl hj keep with ⟨k, h1, h2, h3⟩ | ⟨h1, h3⟩
    · have hl3 : LogIs D1 E _ := h3.same (by rw [hf.1])
      rcases open_cases D1 a E _ x k q hf.2.1 hs2 hl3 hx rfl h2 hH (by omega) with ⟨h1, h2, h3, h4, h5, h6, h7⟩ | ⟨h1, h2', h3, h4, h5, h6⟩
      · rw [if_neg (by omega)]
        exact .inl ⟨h1, h2, by rw [← h3]; exact g.2.1, arm_0 _, by rw [← h5]; exact congrFun g.1 _, h6.same (congrFun g.1 _), h7.same (congrFun g.1 _), hH⟩
      · rw [if_pos h2']
        exact ih _ k (h5.same (congrFun g.1 _)) (h6.same (congrFun g.1 _)) (by omega)
    · have hl3 : LogIs D1 (E ++ [x]) [] := h3.same (by rw [hf.1])
      right
      rcases open_cases D1 a (E ++ [x]) [] a 0 (q + 1) hf.2.1 hs2 hl3 hH.aok rfl hfa hH2 hlen2 with ⟨h1, h2, h3, h4, h5, h6, h7⟩ | ⟨h1, h2', h3, h4, h5, h6⟩
      · rw [if_neg (by omega)]
        exact ⟨h1, h2, by rw [← h3]; exact g.2.1, arm_0 _, by rw [← h5]; exact congrFun g.1 _, h6.same (congrFun g.1 _), h7.same (congrFun g.1 _), hH2⟩
      · rw [if_pos h2']
        exact opens_still keep a (E ++ [x]) (q + 1) hH2 hlen2 cs _ (h5.same (congrFun g.1 _)) (h6.same (congrFun g.1 _))
end Go.Proofs.YtnlgmekkjibpmaaGreatDoor
/- DERIVED. wal: the calls' contracts, told by what the disk bears. -/
namespace Go.Proofs.YtnlgmekkjibpmaaGreatDoor
open Go Go.RowKit Go.Shelf Go.Proofs.YtnlgmekkjibpmaaGreatDoorW.PrintWords
set_option linter.unusedVariables false
set_option linter.unusedSimpArgs false

theorem log_acts (D : Dk) (q : Nat) : (D.log q).2.2.acts ≤ D.acts + 3 := by
  have := renew_acts D .log ((D.load .log).1.take (allF (D.load .log).1).2.1)
  unfold Dk.log
  split
  · simp
  · split
    · simp
    · split
      · simp
      · split
        · simp
        · split
          · split
            · exact this
            · exact this
          · simp
theorem opn1_acts (D : Dk) : D.opn1.2.2.2.acts ≤ D.acts + 3 := by
  unfold Dk.opn1
  split
  · simp
  · exact log_acts D _
theorem Open_acts (D : Dk) : D.Open.2.2.acts ≤ D.acts + 4 := by
  have h : D.opn.2.2.2.acts ≤ D.acts + 4 := by
    have h1 := opn1_acts D
    have h2 := opn1_acts (D.remove .new).2
    have h3 := remove_acts D .new
    unfold Dk.opn
    split
    · split
      · show (D.remove .new).2.acts ≤ _
        omega
      · omega
    · omega
  unfold Dk.Open
  split
  · simp
  · split
    · exact h
    · exact h
theorem Lg_append_acts (L : Lg) (s : List UInt8) : (L.append s).2.dk.acts ≤ L.dk.acts + 2 := by
  unfold Lg.append
  have h1 := append_acts L.dk .log (madeB (L.seq + 1) s).1
  have h2 := sync_acts (L.dk.append .log (madeB (L.seq + 1) s).1).2 .log
  split
  · simp
  · split
    · simp
    · split
      · simp only; omega
      · split
        · simp only; omega
        · simp only; omega
theorem Lg_check_acts (L : Lg) (s : List UInt8) : (L.checkpoint s).2.dk.acts ≤ L.dk.acts + 4 := by
  unfold Lg.checkpoint
  have h1 := renew_acts L.dk .snap (madeB L.seq s).1
  have h2 := remove_acts (L.dk.renew .snap (madeB L.seq s).1).2 .log
  split
  · simp
  · split
    · simp
    · split
      · simp only; omega
      · split
        · simp only; omega
        · simp only; omega

def textsL (K : List Ent) : List (List UInt8) := K.map (·.2)
theorem textsV_eq (K : List Ent) : textsV K = (textsL K).map strV := by simp [textsV, textsL, strV]

/-- An Open that told, in memory. -/
def OpenTold (p m : Nat) (a : Ent) (E : List Ent) (q n : Nat) (w : World) (e : Ending) (w' : World) : Prop :=
  ∃ b v L, e = .returned (.tuple #[.pointer (some ⟨b, 0, none⟩), .string (bs a.2), v, .int .i64 0]) ∧ w.heap.size ≤ b ∧ LgIs w' b p m L ∧ Alive L a E q ∧ L.dk.armed = 0 ∧ L.dk.acts ≤ n ∧ StrRow w' v (textsL (keptF a.1 E)) ∧ Fr [p, m] w w'

theorem told_of_open {p m : Nat} {D : Dk} {a : Ent} {E : List Ent} {q : Nat} {w w' : World} {e : Ending} (hlt : p < w.heap.size ∧ m < w.heap.size ∧ p ≠ m) (hg : G w) (hp0 : p ≠ 0) (hm0 : m ≠ 0)
    (h : OpenOut D.Open.1 D.Open.2.1 p w.heap.size w' e) (hd : DkIs w' p m D.Open.2.2) (hf : Fr [p, m] w w')
    (h1 : D.Open.1 = some (a, keptF a.1 E)) (h2 : D.Open.2.1 = 0) (h3 : D.Open.2.2.off = false) (h4 : D.Open.2.2.armed = 0) (h5 : D.Open.2.2.f .new = none) (h6 : SnapIs D.Open.2.2 a) (h7 : LogIs D.Open.2.2 E []) (hH : Has a E q) :
    OpenTold p m a E q (D.acts + 4) w e w' := by
  rw [h1, h2] at h
  obtain ⟨b, v, he, hb, hw, hr⟩ := h
  rw [hH.last] at hw
  have hs := hf.size
  refine ⟨b, v, ⟨q, 0, D.Open.2.2⟩, he, hb, ⟨hw, hd, hg.fr hf (by simp; omega), by omega, by omega, by omega, hp0, hm0⟩, ⟨rfl, rfl, h3, h5, h6, h7, hH⟩, h4, Open_acts D, ?_, hf⟩
  have := hr
  rw [textsV_eq] at this
  exact strRow_of (base := w.heap.size) (by simpa [textsL] using this)

theorem open_told2 (p m : Nat) (D : Dk) (a : Ent) (E : List Ent) (t : List UInt8) (x : Ent) (j q : Nat) (w : World) (h : DkIs w p m D) (h2 : D.acts ≤ 800000) (hg : G w) (hp0 : p ≠ 0) (hm0 : m ≠ 0)
    (hoff : D.off = false) (harm : D.armed = 0) (hs : SnapIs D a) (hl : LogIs D E t) (hx : x.ok) (ht : t = (fr x).take j) (hj : j < (fr x).length) (hH : Has a E q) (hlen : (flat E).length ≤ 65536) :
    Calls Tryz.prog 10 #[.pointer (some ⟨p, 0, none⟩)] w (OpenTold p m a E q (D.acts + 4) w) := by
  refine (Open_calls p m D w h h2 hg hp0 hm0).mono ?_
  rintro e w' ⟨ho, hd, hf⟩
  rcases open_cases D a E t x j q hoff hs hl hx ht hj hH hlen with ⟨k1, k2, k3, k4, k5, k6, k7⟩ | ⟨_, _, k3, _⟩
  · exact told_of_open h.lt hg hp0 hm0 ho hd hf k1 k2 k3 (by omega) k5 k6 k7 hH
  · omega
theorem open_told (p m : Nat) (D : Dk) (a : Ent) (E : List Ent) (q : Nat) (w : World) (h : DkIs w p m D) (h2 : D.acts ≤ 800000) (hg : G w) (hp0 : p ≠ 0) (hm0 : m ≠ 0)
    (hoff : D.off = false) (harm : D.armed = 0) (hs : SnapIs D a) (hl : LogIs D E []) (hH : Has a E q) (hlen : (flat E).length ≤ 65536) :
    Calls Tryz.prog 10 #[.pointer (some ⟨p, 0, none⟩)] w (OpenTold p m a E q (D.acts + 4) w) :=
  open_told2 p m D a E [] a 0 q w h h2 hg hp0 hm0 hoff harm hs hl hH.aok rfl (by have := fr_len a; omega) hH hlen

def AppTold (b p m : Nat) (a : Ent) (E : List Ent) (q n : Nat) (S : List Nat) (w : World) (e : Ending) (w' : World) : Prop :=
  ∃ L, e = .returned (.int .i64 0) ∧ LgIs w' b p m L ∧ Alive L a E q ∧ L.dk.armed = 0 ∧ L.dk.acts ≤ n ∧ Fr S w w'

theorem append_told (b p m : Nat) (L : Lg) (a : Ent) (E : List Ent) (q : Nat) (s : ByteArray) (w : World) (h : LgIs w b p m L) (hA : Alive L a E q) (hx : Ent.ok (q + 1, s.data.toList)) (h2 : L.dk.acts ≤ 800000)
    (harm : L.dk.armed = 0) (hlen : (flat E).length + (fr (q + 1, s.data.toList)).length ≤ 65536) :
    Calls Tryz.prog 12 #[.pointer (some ⟨b, 0, none⟩), .string s] w (AppTold b p m a (E ++ [(q + 1, s.data.toList)]) (q + 1) (L.dk.acts + 2) [b, p, m] w) := by
  have hsz : s.size ≤ 100000 := by have := hx.1; simp only [len_toList] at this; omega
  have hq : L.seq ≤ 1099511627776 := by have := hx.2; rw [hA.seq]; simp only at this; omega
  refine (append_calls b p m L s w h hq hsz h2).mono ?_
  rintro e w' ⟨he, hL, hf⟩
  rcases append_law L a E q s.data.toList hA hx hlen with ⟨k1, k2, k3⟩ | ⟨_, k2, _⟩
  · rw [k1] at he
    exact ⟨_, he, hL, k2, by omega, Lg_append_acts L _, hf⟩
  · omega
theorem check_told (b p m : Nat) (L : Lg) (a : Ent) (E : List Ent) (q : Nat) (s : ByteArray) (w : World) (h : LgIs w b p m L) (hA : Alive L a E q) (hx : Ent.ok (q, s.data.toList)) (h2 : L.dk.acts ≤ 800000)
    (harm : L.dk.armed = 0) :
    Calls Tryz.prog 13 #[.pointer (some ⟨b, 0, none⟩), .string s] w (AppTold b p m (q, s.data.toList) [] q (L.dk.acts + 4) [b, p, m] w) := by
  have hsz : s.size ≤ 100000 := by have := hx.1; simp only [len_toList] at this; omega
  have hq : L.seq ≤ 1099511627777 := by have := hx.2; rw [hA.seq]; simp only at this; omega
  refine (checkpoint_calls b p m L s w h hq hsz h2).mono ?_
  rintro e w' ⟨he, hL, hf⟩
  rcases check_law L a E q s.data.toList hA hx with ⟨k1, k2, k3⟩ | ⟨_, k2, _⟩
  · rw [k1] at he
    exact ⟨_, he, hL, k2, by omega, Lg_check_acts L _, hf⟩
  · omega

theorem ok_of {q : Nat} {s : List UInt8} (hq : q ≤ 1000000) (hs : s.length ≤ 4090) : Ent.ok (q, s) := by
  have : (numB (q : Int)).length ≤ 3 := numB_len _ 2 (by rw [show (128 : Nat) ^ (2 + 1) = 2097152 by decide]; omega)
  unfold Ent.ok
  simp only
  omega

set_option maxHeartbeats 400000 in
theorem open_nil (w : World) : Calls Tryz.prog 10 #[.pointer none] w fun e w' => e = .returned (.tuple #[.pointer none, .string ⟨#[]⟩, .slice none 0 0, .int .i64 1]) ∧ Fr [] w w' := by
  go_enter Tryz.func10, Tryz.ntmps10
  go_wp2
  refine bodyPost_ret (results_tmp4 rfl _ _ _) rfl ?_
  exact ⟨rfl, Fr.refl _ _⟩
end Go.Proofs.YtnlgmekkjibpmaaGreatDoor
/- DERIVED. The law's own: awake. -/
namespace Go.Proofs.YtnlgmekkjibpmaaGreatDoor
open Go Go.RowKit Go.Shelf Go.Proofs.YtnlgmekkjibpmaaGreatDoorW.PrintWords
set_option linter.unusedVariables false
set_option linter.unusedSimpArgs false

theorem Fr.new {S : List Nat} {a b : World} (h : Fr S a b) (hs : ∀ k, k ∈ S → a.heap.size ≤ k) : Fr [] a b :=
  ⟨h.os, h.tape, h.output, h.size, fun k hk _ => h.block k hk (fun hm => by have := hs k hm; omega)⟩
theorem Fr.part {S T : List Nat} {a b c : World} (h : Fr S a b) (k : Fr T b c) (hs : ∀ k, k ∈ T → k ∈ S ∨ a.heap.size ≤ k) : Fr S a c :=
  ⟨k.os.trans h.os, k.tape.trans h.tape, k.output.trans h.output, Nat.le_trans h.size k.size,
   fun i hi hn => (k.block i (Nat.lt_of_lt_of_le hi h.size) (fun hm => by
     rcases hs i hm with h1 | h1
     · exact hn h1
     · omega)).trans (h.block i hi hn)⟩

theorem lg_fr {w w' : World} {b p m : Nat} {L : Lg} {S : List Nat} (h : LgIs w b p m L) (hf : Fr S w w') (h1 : b ∉ S) (h2 : p ∉ S) (h3 : m ∉ S) (h0 : 0 ∉ S := by simp) : LgIs w' b p m L :=
  ⟨h.wl.fr hf h1, h.dk.fr hf h2 h3, h.g.fr hf h0, h.bp, h.bm, h.b0, h.p0, h.m0⟩
theorem fr_small {q : Nat} {s : List UInt8} (hs : s.length ≤ 300) (hq : q ≤ 1000000) : 0 + (fr (q, s)).length ≤ 65536 := by
  have := fr_le (ok_of hq (show s.length ≤ 4090 by omega))
  simp only at this
  omega
theorem fr_small2 {q r : Nat} {s t : List UInt8} (hs : s.length ≤ 300) (hq : q ≤ 1000000) (ht : t.length ≤ 300) (hr : r ≤ 1000000) : (fr (q, s)).length + (fr (r, t)).length ≤ 65536 := by
  have h1 := fr_small hs hq
  have h1 := fr_le (ok_of hq (show s.length ≤ 4090 by omega))
  have h2 := fr_le (ok_of hr (show t.length ≤ 4090 by omega))
  simp only at h1 h2
  omega
theorem fr_small3 {q : Nat} {s : List UInt8} (hs : s.length ≤ 300) (hq : q ≤ 1000000) : (fr (q, s)).length + 5 ≤ 65536 := by
  have := fr_le (ok_of hq (show s.length ≤ 4090 by omega))
  simp only at this
  omega
theorem half_ok : Ent.ok (52, [97, 108, 102]) := ok_of (by omega) (by decide)
theorem half_fr : [8, 104, 97, 108, 102] = (fr (52, [97, 108, 102])).take 5 := by
  have e1 : pl (52, [97, 108, 102]) = [104, 97, 108, 102] := by
    unfold pl numB; rw [show zz ((52, [97, 108, 102]) : Ent).1 = 104 from rfl, encN_small (by omega)]; rfl
  have e2 : numB (([104, 97, 108, 102] : List UInt8).length : Int) = [8] := by
    unfold numB; rw [show zz (([104, 97, 108, 102] : List UInt8).length : Int) = 8 from rfl, encN_small (by omega)]; rfl
  unfold fr
  rw [e1, layB_eq, e2]; rfl
theorem half_len : 5 < (fr (52, [97, 108, 102])).length := by
  have := fr_len (52, [97, 108, 102]); omega
theorem half_state {L : Lg} {a : Ent} {E : List Ent} {q : Nat} (h : Alive L a E q) (harm : L.dk.armed = 0) (hlen : (flat E).length + 5 ≤ 65536) :
    (L.dk.append .log [8, 104, 97, 108, 102]).1 = 0 ∧ SnapIs (L.dk.append .log [8, 104, 97, 108, 102]).2 a ∧ LogIs (L.dk.append .log [8, 104, 97, 108, 102]).2 E [8, 104, 97, 108, 102] := by
  have hl0 : ((L.dk.f .log).getD Fl.zero).bytes = flat E := by
    rcases h.log with ⟨g1, rfl, _⟩ | ⟨s', g1, _, _⟩
    · rw [g1]; rfl
    · rw [g1]; simp
  have hl1 : (flat E).length ≤ ((L.dk.f .log).getD Fl.zero).synced ∧ ((L.dk.f .log).getD Fl.zero).synced ≤ (flat E).length := by
    rcases h.log with ⟨g1, rfl, _⟩ | ⟨s', g1, g2, g3⟩
    · rw [g1]; simp [flat, Fl.zero]
    · rw [g1]; exact ⟨g2, by simpa using g3⟩
  rcases append_cases0 L.dk .log [8, 104, 97, 108, 102] h.off (by rw [hl0]; exact hlen) with ⟨_, k, _⟩ | ⟨k1, k2, k3, k4⟩
  · exact absurd harm k
  · refine ⟨k1, h.snap.same (by rw [k4, upd_other _ _ _ _ (by simp)]), .inr ⟨((L.dk.f .log).getD Fl.zero).synced, ?_, hl1.1, ?_⟩⟩
    · rw [k4, upd_same, hl0]
    · rw [List.length_append]; omega
theorem StrRow.fr {w w' : World} {v : Value} {L : List (List UInt8)} (h : StrRow w v L) (hf : Fr [] w w') : StrRow w' v L := by
  rcases h with h | ⟨g, c, hv, hc⟩
  · exact .inl h
  · refine .inr ⟨g, c, hv, fun j hj => ?_⟩
    have := hc j hj
    rw [World.cell?_of_block (hf.block g (World.block_lt_of_cell? w _ this) (by simp))]
    exact this
theorem strRow_lit1 (w : World) (l : List UInt8) (c : Nat) (t : TypeId) : StrRow (w.alloc (.cells #[.string (bs l)] t)) (.slice (some ⟨w.heap.size, 0, none⟩) 1 c) [l] :=
  .inr ⟨w.heap.size, c, rfl, fun j hj => by
    obtain rfl : j = 0 := by simpa using hj
    exact blk_cell (heap_new _ _) rfl⟩
/-- A new log on a new disk. -/
theorem fresh_alive {L : Lg} {a : Ent} {E : List Ent} {q : Nat} (h : Alive L a E q) : q = L.seq := h.seq.symm
theorem empty_snap : SnapIs Dk.empty (0, []) := .inl ⟨rfl, rfl⟩
theorem empty_log : LogIs Dk.empty [] [] := .inl ⟨rfl, rfl, rfl⟩

set_option maxRecDepth 100000 in
set_option maxHeartbeats 2000000 in
theorem awake_calls (w : World) (hg : G w) : Calls Tryz.prog 8 #[] w fun e w' => e = .returned (.bool true) ∧ Fr [] w w' := by
  have hg0 : 0 < w.heap.size := World.block_lt_of_cell? w ⟨0, 0, none⟩ hg
  have HG := Lib.hid hg
  clear hg
  go_enter Tryz.func8, Tryz.ntmps8
  go_wp2_with fail
  refine (disk_new _).mono ?_
  rintro e w1 ⟨p, m, rfl, hp, hm, hd1, hb1⟩
  have hf1 : Fr [] w w1 := Fr.of_below hb1 []
  have HF1 := Lib.hid hf1
  have HD1 := Lib.hid hd1
  have hl1 := hd1.lt
  have HG1 := Lib.hid (HG.out.fr hf1 (by simp))
  clear hd1 hb1 hf1 HG
  go_wp2_with fail
  refine (open_told p m Dk.empty (0, []) [] 0 w1 HD1.out (by simp [Dk.empty]) HG1.out (by omega) (by omega) rfl rfl empty_snap empty_log Has.none (by simp [flat])).mono ?_
  rintro e w2 ⟨b, v, L, rfl, hb, hL, hA, harm, hac, hrow, hf2⟩
  have HL := Lib.hid hL
  have HA := Lib.hid hA
  have HAR := Lib.hid harm
  have HF2 := Lib.hid (HF1.out.part hf2 (by simp; omega))
  have hac2 : L.dk.acts ≤ 4 := hac
  have hs2 := hf2.size
  clear hL hA harm hrow hf2 hac HF1 HD1 HG1
  go_wp2_with fail
  refine (open_nil _).mono ?_
  rintro e w3 ⟨rfl, hf3⟩
  go_wp2_with fail
  have HL3 := Lib.hid (lg_fr HL.out hf3 (by simp) (by simp) (by simp))
  have HF3 := Lib.hid (HF2.out.trans hf3)
  have hs3 := hf3.size
  clear HL HF2 hf3
  refine (append_told b p m L _ _ _ _ _ HL3.out HA.out (ok_of (by omega) (by decide)) (by omega) HAR.out (by simp only [flat, List.map_nil, List.flatten_nil, List.length_nil]; exact fr_small (by decide) (by omega))).mono ?_
  rintro e w4 ⟨L4, rfl, hL, hA, harm, hac, hf⟩
  have HL4 := Lib.hid hL
  have HA4 := Lib.hid hA
  have HAR4 := Lib.hid harm
  have HF4 := Lib.hid (HF3.out.part hf (by simp; omega))
  have hs4 := hf.size
  clear hL hA harm hf HL3 HF3 HA HAR
  go_wp2_with fail
  refine (append_told b p m L4 _ _ _ _ _ HL4.out HA4.out (ok_of (by omega) (by decide)) (by omega) HAR4.out (by rw [List.nil_append, flat_one]; exact fr_small2 (by decide) (by omega) (by decide) (by omega))).mono ?_
  rintro e w5 ⟨L5, rfl, hL, hA, harm, hac5, hf⟩
  have HL5 := Lib.hid hL
  have HA5 := Lib.hid hA
  have HAR5 := Lib.hid harm
  have HF5 := Lib.hid (HF4.out.part hf (by simp; omega))
  have hs5 := hf.size
  clear hL hA harm hf HL4 HF4 HA4 HAR4
  go_wp2_with fail
  refine (check_told b p m L5 _ _ _ _ _ HL5.out HA5.out (ok_of (by omega) (by decide)) (by omega) HAR5.out).mono ?_
  rintro e w6 ⟨L6, rfl, hL, hA, harm, hac6, hf⟩
  have HL6 := Lib.hid hL
  have HA6 := Lib.hid hA
  have HAR6 := Lib.hid harm
  have HF6 := Lib.hid (HF5.out.part hf (by simp; omega))
  have hs6 := hf.size
  clear hL hA harm hf HL5 HF5 HA5 HAR5
  go_wp2_with fail
  refine (append_told b p m L6 _ _ _ _ _ HL6.out HA6.out (ok_of (by omega) (by decide)) (by omega) HAR6.out (by simp only [flat, List.map_nil, List.flatten_nil, List.length_nil]; exact fr_small (by decide) (by omega))).mono ?_
  rintro e w7 ⟨L7, rfl, hL, hA, harm, hac7, hf⟩
  have HL7 := Lib.hid hL
  have HA7 := Lib.hid hA
  have HAR7 := Lib.hid harm
  have HF7 := Lib.hid (HF6.out.part hf (by simp; omega))
  have hs7 := hf.size
  clear hL hA harm hf HL6 HF6 HA6 HAR6
  go_wp2_with fail
  have hda := disk_append p m L7.dk .log (bs Nm.log.l) ⟨#[8, 104, 97, 108, 102]⟩ (isNm .log) w7 HL7.out.dk (by omega) (by decide)
  have hst := half_state HA7.out HAR7.out (by rw [List.nil_append, flat_one]; exact fr_small3 (by decide) (by omega))
  have hca := append_acts L7.dk .log [8, 104, 97, 108, 102]
  obtain ⟨R, hR⟩ : ∃ R, R = L7.dk.append .log [8, 104, 97, 108, 102] := ⟨_, rfl⟩
  rw [show (⟨#[8, 104, 97, 108, 102]⟩ : ByteArray).data.toList = [8, 104, 97, 108, 102] from rfl, ← hR] at hda
  rw [← hR] at hst hca
  clear hR
  obtain ⟨rc, D8⟩ := R
  obtain ⟨rfl, hst⟩ := hst
  dsimp only at hda hca hst
  refine hda.mono ?_
  clear hda
  rintro e w8 ⟨rfl, hD8, hf⟩
  have HST := Lib.hid hst
  have HD8 := Lib.hid hD8
  have HF8 := Lib.hid (HF7.out.part hf (by simp; omega))
  have HG8 := Lib.hid (HL7.out.g.fr hf (by simp; omega))
  have hs8 := hf.size
  have HH7 := Lib.hid HA7.out.has
  clear hst hD8 hf HL7 HF7 HA7 HAR7
  go_wp2_with fail
  refine (disk_restart p m D8 [3] _ _ (HD8.out.fr ((Fr.refl [] _).alloc _) (by simp) (by simp)) ⟨_, 1, rfl, fun j hj => ?_⟩ (by simp)).mono ?_
  · obtain rfl : j = 0 := by simpa using hj
    exact ⟨by simp, _, 0, rfl, blk_cell (heap_new _ _) rfl⟩
  rintro e w9 ⟨rfl, hD9, hf⟩
  have hst9 : ∃ k, k ≤ 5 ∧ LogIs (D8.restart [3]) ([] ++ [(0 + 1 + 1 + 1, [99])]) ((fr (52, [97, 108, 102])).take k) := by
    have hl := HST.out.2
    rw [half_fr] at hl
    rcases restart_log hl (by have := half_len; omega) [3] with ⟨k, k1, _, k2⟩ | ⟨k1, _⟩
    · exact ⟨k, k1, k2⟩
    · have := half_len; omega
  obtain ⟨k9, hk9, hst9⟩ := hst9
  have hsn9 := Lib.hid (restart_snap HST.out.1 [3])
  have HST9 := Lib.hid hst9
  have HD9 := Lib.hid hD9
  have HF9 := Lib.hid ((HF8.out.alloc (.cells #[.int .i64 3] 3)).part hf (by simp; omega))
  have HG9 := Lib.hid ((HG8.out.fr ((Fr.refl [] _).alloc _) (by simp)).fr hf (by simp; omega))
  have hs9 := hf.size
  have hac9 : (D8.restart [3]).acts = D8.acts := rfl
  clear hst9 hD9 hf HST HD8 HF8 HG8
  go_wp2_with fail
  refine (open_told2 p m (D8.restart [3]) _ _ _ (52, [97, 108, 102]) k9 _ _ HD9.out (by omega) HG9.out (by omega) (by omega) rfl rfl hsn9.out HST9.out half_ok rfl (by have := half_len; omega) HH7.out ?_).mono ?_
  · rw [List.nil_append, flat_one]
    have := fr_small (q := 0 + 1 + 1 + 1) (s := [99]) (by decide) (by omega)
    exact Nat.le_trans (by omega) this
  rintro e w10 ⟨b10, v10, L10, rfl, hb10, hL, hA, harm, hac10, hrow, hf⟩
  go_wp2_with fail
  refine (seq_calls b10 p _ _ _ hL.wl).mono ?_
  rintro e w11 ⟨rfl, rfl⟩
  rw [hA.seq]
  have hk : textsL (keptF ((0 + 1 + 1, [97, 98]) : Ent).1 ([] ++ [(0 + 1 + 1 + 1, [99])])) = [[99]] := by decide
  rw [hk] at hrow
  have e1 : (bs ((0 + 1 + 1, [97, 98]) : Ent).2) = ⟨#[97, 98]⟩ := rfl
  rw [e1]
  have HF10 := Lib.hid (HF9.out.part hf (by simp; omega))
  have HR10 := Lib.hid hrow
  clear hL hA harm hrow hf hk HF9 HH7 HST9 HD9 HG9 hsn9 e1
  go_wp2_with fail
  refine (same_calls _ _ [[99]] [[99]] _ (HR10.out.fr ((Fr.refl _ _).alloc _)) (strRow_lit1 _ _ _ _) (by simp) (by simp)).mono ?_
  rintro e w12 ⟨rfl, hf12⟩
  have HF12 := Lib.hid ((HF10.out.alloc (.cells #[.string (bs [99])] 9)).trans hf12)
  rw [decide_eq_true rfl]
  go_wp2_with fail
  go_ret
  exact ⟨rfl, HF12.out⟩
end Go.Proofs.YtnlgmekkjibpmaaGreatDoor
/- DERIVED. The law WalLong: the walk. -/
namespace Go.Proofs.YtnlgmekkjibpmaaGreatDoor
open Go Go.RowKit Go.Shelf Go.Proofs.YtnlgmekkjibpmaaGreatDoorW.PrintWords
set_option linter.unusedVariables false
set_option linter.unusedSimpArgs false

theorem fr_two {q r : Nat} {s t : List UInt8} (hs : s.length ≤ 300) (ht : t.length ≤ 4101) (h1 : Ent.ok (q, s) := by first | exact ok_of (by omega) (by omega) | assumption) (h2 : Ent.ok (r, t) := by assumption) : (fr (q, s)).length + (fr (r, t)).length ≤ 65536 := by
  have h1 := fr_le h1
  have h2 := fr_le h2
  simp only at h1 h2
  omega
theorem strRow_lit2 (w : World) (x y : ByteArray) (c : Nat) (t : TypeId) : StrRow (w.alloc (.cells #[.string x, .string y] t)) (.slice (some ⟨w.heap.size, 0, none⟩) 2 c) [x.data.toList, y.data.toList] :=
  .inr ⟨w.heap.size, c, rfl, fun j hj => by
    rcases j with _ | _ | j
    · rw [List.getElem_cons_zero, bs_of]; exact blk_cell (heap_new _ _) rfl
    · simp only [List.getElem_cons_succ, List.getElem_cons_zero, bs_of]; exact blk_cell (heap_new _ _) rfl
    · simp at hj; omega⟩
theorem strRow_lit3 (w : World) (x y z : ByteArray) (c : Nat) (t : TypeId) : StrRow (w.alloc (.cells #[.string x, .string y, .string z] t)) (.slice (some ⟨w.heap.size, 0, none⟩) 3 c) [x.data.toList, y.data.toList, z.data.toList] :=
  .inr ⟨w.heap.size, c, rfl, fun j hj => by
    rcases j with _ | _ | _ | j
    · rw [List.getElem_cons_zero, bs_of]; exact blk_cell (heap_new _ _) rfl
    · simp only [List.getElem_cons_succ, List.getElem_cons_zero, bs_of]; exact blk_cell (heap_new _ _) rfl
    · simp only [List.getElem_cons_succ, List.getElem_cons_zero, bs_of]; exact blk_cell (heap_new _ _) rfl
    · simp at hj; omega⟩
theorem kept_a (x y : ByteArray) : textsL (keptF ((0, []) : Ent).1 ([] ++ [(0 + 1, x.data.toList)] ++ [(0 + 1 + 1, y.data.toList)] ++ [(0 + 1 + 1 + 1, [99])])) = [x.data.toList, y.data.toList, [99]] := by
  simp [textsL, keptF]
theorem kept_b (x : ByteArray) : textsL (keptF ((0, []) : Ent).1 ([] ++ [(0 + 1, x.data.toList)] ++ [(0 + 1 + 1, [99])])) = [x.data.toList, [99]] := by
  simp [textsL, keptF]
theorem kept_c (l : List UInt8) : textsL (keptF ((0 + 1, l) : Ent).1 ([] ++ [(0 + 1 + 1, [99])])) = [[99]] := by
  simp [textsL, keptF]
theorem flat_le : ∀ (E : List Ent), (∀ x ∈ E, x.ok) → (flat E).length ≤ (E.map fun x => x.2.length + 12).sum
  | [], _ => by simp [flat]
  | x :: E, h => by
    have h1 := flat_le E fun y hy => h y (by simp [hy])
    have h2 := fr_le (h x (by simp))
    have e : flat (x :: E) = fr x ++ flat E := by simp [flat]
    rw [e, List.length_append, List.map_cons, List.sum_cons]
    omega
theorem flat_fr_le {a : Ent} {E : List Ent} {q n k : Nat} (h : Has a E q) (hn : (E.map fun x => x.2.length + 12).sum ≤ n) {x : Ent} (hx : x.ok) (hk : n + (x.2.length + 12) ≤ 65536) : (flat E).length + (fr x).length ≤ 65536 := by
  have h1 := flat_le E h.ok
  have h2 := fr_le hx
  omega
theorem zeros_nums (n : Nat) : List.replicate n (Value.int .u8 0) = nums .u8 (List.replicate n (0 : Int)) := by simp [nums]
def big0 (n : Nat) : List UInt8 := List.replicate n 0
theorem zeros_str (n : Nat) : strOfNums (List.replicate n (0 : Int)) = bs (big0 n) := by
  simp [strOfNums, bs, big0]

theorem numB_one {q : Nat} (h : q ≤ 63) : (numB (q : Int)).length = 1 := by
  have h1 := numB_len q 0 (by omega)
  have h2 := numB_pos q
  omega
theorem ok_big {q : Nat} {s : ByteArray} (hq : q ≤ 63) (h : s.size ≤ 4095) : Ent.ok (q, s.data.toList) := by
  have := numB_one hq
  unfold Ent.ok
  simp only [len_toList]
  omega
theorem not_big {q : Nat} {s : ByteArray} (hq : q ≤ 63) (h : ¬ s.size ≤ 4095) : ¬ Ent.ok (q, s.data.toList) := by
  have := numB_one hq
  unfold Ent.ok
  simp only [len_toList]
  omega
theorem big_size (n : Nat) : (bs (big0 n)).size = n := by rw [bs_size]; simp [big0]
theorem append_refused (b p m : Nat) (L : Lg) (a : Ent) (E : List Ent) (q : Nat) (s : ByteArray) (w : World) (h : LgIs w b p m L) (hA : Alive L a E q) (hq : q ≤ 62) (hx : ¬ s.size ≤ 4095) (hs : s.size ≤ 100000) (h2 : L.dk.acts ≤ 800000) :
    Calls Tryz.prog 12 #[.pointer (some ⟨b, 0, none⟩), .string s] w fun e w' => e = .returned (.int .i64 111) ∧ LgIs w' b p m L ∧ Fr [b, p, m] w w' := by
  have hL := hA.seq
  refine (append_calls b p m L s w h (by omega) hs h2).mono ?_
  rw [append_long L s.data.toList hA.err (not_big (by omega) hx)]
  exact fun e w' h => h
theorem check_refused (b p m : Nat) (L : Lg) (a : Ent) (E : List Ent) (q : Nat) (s : ByteArray) (w : World) (h : LgIs w b p m L) (hA : Alive L a E q) (hq : q ≤ 62) (hx : ¬ s.size ≤ 4095) (hs : s.size ≤ 100000) (h2 : L.dk.acts ≤ 800000) :
    Calls Tryz.prog 13 #[.pointer (some ⟨b, 0, none⟩), .string s] w fun e w' => e = .returned (.int .i64 111) ∧ LgIs w' b p m L ∧ Fr [b, p, m] w w' := by
  have hL := hA.seq
  refine (checkpoint_calls b p m L s w h (by omega) hs h2).mono ?_
  rw [check_long L s.data.toList hA.err (not_big (by omega) hx)]
  exact fun e w' h => h

set_option maxRecDepth 100000 in
set_option maxHeartbeats 2000000 in
theorem walLong_calls (text : ByteArray) (long : Int) (which : Bool) (w : World) (hg : G w) (ht : text.size ≤ 9223372036854775807) (hn1 : -9223372036854775808 ≤ long) (hn2 : long ≤ 9223372036854775807) :
    Calls Tryz.prog 3 #[.string text, .int .i64 long, .bool which] w fun e w' => e = .returned (.bool true) ∧ Fr [] w w' := by
  obtain ⟨i0, hi, hz0, hz1, hz2⟩ := info_parts Tryz.info5
  have hg0 : 0 < w.heap.size := World.block_lt_of_cell? w ⟨0, 0, none⟩ hg
  have HG := Lib.hid hg
  clear hg
  go_enter Tryz.func3, Tryz.ntmps3
  go_wp2_with fail
  refine (awake_calls _ HG.out).mono ?_
  rintro e w0 ⟨rfl, hf0⟩
  have HG0 := Lib.hid (HG.out.fr hf0 (by simp))
  have HF0 := Lib.hid hf0
  have hs0 := hf0.size
  clear HG hf0
  go_wp2_with fail
  refine (disk_new _).mono ?_
  rintro e w1 ⟨p, m, rfl, hp, hm, hd1, hb1⟩
  have hf1 : Fr [] w0 w1 := Fr.of_below hb1 []
  have HF1 := Lib.hid (HF0.out.trans hf1)
  have HD1 := Lib.hid hd1
  have hl1 := hd1.lt
  have HG1 := Lib.hid (HG0.out.fr hf1 (by simp))
  clear hd1 hb1 hf1 HG0 HF0
  go_wp2_with fail
  refine (open_told p m Dk.empty (0, []) [] 0 w1 HD1.out (by simp [Dk.empty]) HG1.out (by omega) (by omega) rfl rfl empty_snap empty_log Has.none (by simp [flat])).mono ?_
  rintro e w2 ⟨b, v, L, rfl, hb, hL, hA, harm, hac, hrow, hf2⟩
  have HL := Lib.hid hL
  have HA := Lib.hid hA
  have HAR := Lib.hid harm
  have HF2 := Lib.hid (HF1.out.part hf2 (by simp; omega))
  have hac2 : L.dk.acts ≤ 4 := hac
  have hs2 := hf2.size
  clear hL hA harm hrow hf2 hac HF1 HD1 HG1
  go_wp2_with fail
  obtain ⟨tx, htx⟩ : ∃ tx, tx = text.extract 0 (min (↑text.size) 300 : Int).toNat := ⟨_, rfl⟩
  rw [← htx]
  have htl : tx.size ≤ 300 := by rw [htx, ByteArray.size_extract]; omega
  clear htx
  refine (pick_calls long 12 (by omega) (by omega) hn1 hn2 _).mono ?_
  rintro e w3 ⟨rfl, rfl⟩
  have hpk := pickN_lt long 12 (by omega)
  obtain ⟨pk, hpk'⟩ : ∃ pk, pk = pickN long 12 := ⟨_, rfl⟩
  rw [← hpk'] at hpk ⊢
  clear hpk'
  go_wp2_with (at_make; go_loud (refine wpList_make_full _ rfl _ _ 31 rfl w3.heap.size 5 i0 _ 1 Tryz.underlying31 hi hz0 hz1 _ _ _ _ (4090 + pk) rfl rfl (by omega) (by omega) (by rw [hz2]; omega) (by unfold maxLen; omega) (Nat.le_refl _) ?_))
  intro w4 hown4 hgrow4
  rw [toList_madeCells_one, zeros_nums] at hown4
  have hcv := own_string (src := 31) (dst := 9) (e := 5) Tryz.underlying31 Tryz.underlying5 Tryz.underlying9 hown4
  rw [zeros_str] at hcv
  have hf4 : Fr [] w3 w4 := (Fr.refl [] w3).grown hgrow4 (by simp)
  have HL4 := Lib.hid (lg_fr HL.out hf4 (by simp) (by simp) (by simp))
  have HF4 := Lib.hid (HF2.out.trans hf4)
  have hs4 := hf4.size
  clear hown4 hgrow4 hf4 HL HF2
  go_wp2_with fail
  clear hcv
  refine (append_told b p m L _ _ _ _ _ HL4.out HA.out (ok_of (by omega) (by rw [len_toList]; omega)) (by omega) HAR.out (by simp only [flat, List.map_nil, List.flatten_nil, List.length_nil]; exact fr_small (by rw [len_toList]; omega) (by omega))).mono ?_
  rintro e w5 ⟨L5, rfl, hL, hA, harm, hac5, hf⟩
  have HL5 := Lib.hid hL
  have HA5 := Lib.hid hA
  have HAR5 := Lib.hid harm
  have HF5 := Lib.hid (HF4.out.part hf (by simp; omega))
  have hs5 := hf.size
  clear hL hA harm hf HL4 HF4 HA HAR
  cases which
  · by_cases hnk : 4090 + pk ≤ 4095
    · go_wp2_with fail
      refine (append_told b p m L5 _ _ _ _ _ HL5.out HA5.out (ok_big (by omega) (by rw [big_size]; omega)) (by omega) HAR5.out (by rw [List.nil_append, flat_one]; exact fr_two (by rw [len_toList]; omega) (by rw [len_toList, big_size]; omega) (ok_of (by omega) (by rw [len_toList]; omega)) (ok_big (by omega) (by rw [big_size]; omega)))).mono ?_
      rintro e w6 ⟨L6, rfl, hL, hA, harm, hac6, hf⟩
      have HL6 := Lib.hid hL
      have HA6 := Lib.hid hA
      have HAR6 := Lib.hid harm
      have HF6 := Lib.hid (HF5.out.part hf (by simp; omega))
      have hs6 := hf.size
      clear hL hA harm hf HL5 HF5 HA5 HAR5
      go_wp2_with fail
      refine (append_told b p m L6 _ _ _ _ _ HL6.out HA6.out (ok_of (by omega) (by decide)) (by omega) HAR6.out (flat_fr_le (n := 5000) (k := 0) HA6.out.has (by simp [big0, bs_toList, len_toList] <;> omega) (ok_of (by omega) (by decide)) (by decide))).mono ?_
      rintro e w7 ⟨L7, rfl, hL, hA, harm, hac7, hf⟩
      have HL7 := Lib.hid hL
      have HA7 := Lib.hid hA
      have HAR7 := Lib.hid harm
      have HF7 := Lib.hid (HF6.out.part hf (by simp; omega))
      have hs7 := hf.size
      clear hL hA harm hf HL6 HF6 HA6 HAR6
      go_wp2_with fail
      refine (open_told p m L7.dk _ _ _ w7 HL7.out.dk (by omega) HL7.out.g (by omega) (by omega) HA7.out.off HAR7.out HA7.out.snap HA7.out.log HA7.out.has (Nat.le_trans (flat_le _ HA7.out.has.ok) (by simp [big0, bs_toList, len_toList] <;> omega))).mono ?_
      rintro e w8 ⟨b8, v8, L8, rfl, hb8, hL, hA, harm, hac8, hrow, hf⟩
      have HF8 := Lib.hid (HF7.out.part hf (by simp; omega))
      have HR8 := Lib.hid hrow
      clear hL hA harm hf hrow HL7 HF7 HA7 HAR7
      rw [bs_nil]
      go_wp2_with fail
      refine (same_calls _ _ [tx.data.toList, (bs (big0 (4090 + pk))).data.toList, [99]] [tx.data.toList, (bs (big0 (4090 + pk))).data.toList, [99]] _ (((kept_a tx _) ▸ HR8.out).fr ((Fr.refl _ _).alloc _)) (strRow_lit3 _ _ _ _ _ _) (by simp) (by simp)).mono ?_
      rintro e w9 ⟨rfl, hf9⟩
      have HF9 := Lib.hid ((HF8.out.alloc _).trans hf9)
      rw [decide_eq_true rfl]
      go_wp2_with fail
      go_ret
      exact ⟨rfl, HF9.out⟩
    · go_wp2_with fail
      refine (append_refused b p m L5 _ _ _ _ _ HL5.out HA5.out (by omega) (by rw [big_size]; omega) (by rw [big_size]; omega) (by omega)).mono ?_
      rintro e w6 ⟨rfl, hL, hf⟩
      obtain ⟨L6, rfl⟩ : ∃ L6, L6 = L5 := ⟨_, rfl⟩
      have HL6 := Lib.hid hL
      have HA6 := Lib.hid HA5.out
      have HAR6 := Lib.hid HAR5.out
      have HF6 := Lib.hid (HF5.out.part hf (by simp; omega))
      have hs6 := hf.size
      have hac6 : L6.dk.acts ≤ L6.dk.acts + 4 := by omega
      clear hL hf HL5 HF5 HA5 HAR5
      go_wp2_with fail
      refine (append_told b p m L6 _ _ _ _ _ HL6.out HA6.out (ok_of (by omega) (by decide)) (by omega) HAR6.out (flat_fr_le (n := 5000) (k := 0) HA6.out.has (by simp [big0, bs_toList, len_toList] <;> omega) (ok_of (by omega) (by decide)) (by decide))).mono ?_
      rintro e w7 ⟨L7, rfl, hL, hA, harm, hac7, hf⟩
      have HL7 := Lib.hid hL
      have HA7 := Lib.hid hA
      have HAR7 := Lib.hid harm
      have HF7 := Lib.hid (HF6.out.part hf (by simp; omega))
      have hs7 := hf.size
      clear hL hA harm hf HL6 HF6 HA6 HAR6
      go_wp2_with fail
      refine (open_told p m L7.dk _ _ _ w7 HL7.out.dk (by omega) HL7.out.g (by omega) (by omega) HA7.out.off HAR7.out HA7.out.snap HA7.out.log HA7.out.has (Nat.le_trans (flat_le _ HA7.out.has.ok) (by simp [big0, bs_toList, len_toList] <;> omega))).mono ?_
      rintro e w8 ⟨b8, v8, L8, rfl, hb8, hL, hA, harm, hac8, hrow, hf⟩
      have HF8 := Lib.hid (HF7.out.part hf (by simp; omega))
      have HR8 := Lib.hid hrow
      clear hL hA harm hf hrow HL7 HF7 HA7 HAR7
      rw [bs_nil]
      go_wp2_with fail
      refine (same_calls _ _ [tx.data.toList, [99]] [tx.data.toList, [99]] _ (((kept_b tx) ▸ HR8.out).fr ((Fr.refl _ _).alloc _)) (strRow_lit2 _ _ _ _ _) (by simp) (by simp)).mono ?_
      rintro e w9 ⟨rfl, hf9⟩
      have HF9 := Lib.hid ((HF8.out.alloc _).trans hf9)
      rw [decide_eq_true rfl]
      go_wp2_with fail
      go_ret
      exact ⟨rfl, HF9.out⟩
  · by_cases hnk : 4090 + pk ≤ 4095
    · go_wp2_with fail
      refine (check_told b p m L5 _ _ _ _ _ HL5.out HA5.out (ok_big (by omega) (by rw [big_size]; omega)) (by omega) HAR5.out).mono ?_
      rintro e w6 ⟨L6, rfl, hL, hA, harm, hac6, hf⟩
      have HL6 := Lib.hid hL
      have HA6 := Lib.hid hA
      have HAR6 := Lib.hid harm
      have HF6 := Lib.hid (HF5.out.part hf (by simp; omega))
      have hs6 := hf.size
      clear hL hA harm hf HL5 HF5 HA5 HAR5
      go_wp2_with fail
      refine (append_told b p m L6 _ _ _ _ _ HL6.out HA6.out (ok_of (by omega) (by decide)) (by omega) HAR6.out (flat_fr_le (n := 5000) (k := 0) HA6.out.has (by simp [big0, bs_toList, len_toList] <;> omega) (ok_of (by omega) (by decide)) (by decide))).mono ?_
      rintro e w7 ⟨L7, rfl, hL, hA, harm, hac7, hf⟩
      have HL7 := Lib.hid hL
      have HA7 := Lib.hid hA
      have HAR7 := Lib.hid harm
      have HF7 := Lib.hid (HF6.out.part hf (by simp; omega))
      have hs7 := hf.size
      clear hL hA harm hf HL6 HF6 HA6 HAR6
      go_wp2_with fail
      refine (open_told p m L7.dk _ _ _ w7 HL7.out.dk (by omega) HL7.out.g (by omega) (by omega) HA7.out.off HAR7.out HA7.out.snap HA7.out.log HA7.out.has (Nat.le_trans (flat_le _ HA7.out.has.ok) (by simp [big0, bs_toList, len_toList] <;> omega))).mono ?_
      rintro e w8 ⟨b8, v8, L8, rfl, hb8, hL, hA, harm, hac8, hrow, hf⟩
      have HF8 := Lib.hid (HF7.out.part hf (by simp; omega))
      have HR8 := Lib.hid hrow
      clear hL hA harm hf hrow HL7 HF7 HA7 HAR7

      go_wp2_with fail
      refine (same_calls _ _ [[99]] [[99]] _ (((kept_c (bs (big0 (4090 + pk))).data.toList) ▸ HR8.out).fr ((Fr.refl _ _).alloc _)) (strRow_lit1 _ _ _ _) (by simp) (by simp)).mono ?_
      rintro e w9 ⟨rfl, hf9⟩
      have HF9 := Lib.hid ((HF8.out.alloc _).trans hf9)
      rw [decide_eq_true rfl]
      go_wp2_with fail
      go_ret
      exact ⟨rfl, HF9.out⟩
    · go_wp2_with fail
      refine (check_refused b p m L5 _ _ _ _ _ HL5.out HA5.out (by omega) (by rw [big_size]; omega) (by rw [big_size]; omega) (by omega)).mono ?_
      rintro e w6 ⟨rfl, hL, hf⟩
      obtain ⟨L6, rfl⟩ : ∃ L6, L6 = L5 := ⟨_, rfl⟩
      have HL6 := Lib.hid hL
      have HA6 := Lib.hid HA5.out
      have HAR6 := Lib.hid HAR5.out
      have HF6 := Lib.hid (HF5.out.part hf (by simp; omega))
      have hs6 := hf.size
      have hac6 : L6.dk.acts ≤ L6.dk.acts + 4 := by omega
      clear hL hf HL5 HF5 HA5 HAR5
      go_wp2_with fail
      refine (append_told b p m L6 _ _ _ _ _ HL6.out HA6.out (ok_of (by omega) (by decide)) (by omega) HAR6.out (flat_fr_le (n := 5000) (k := 0) HA6.out.has (by simp [big0, bs_toList, len_toList] <;> omega) (ok_of (by omega) (by decide)) (by decide))).mono ?_
      rintro e w7 ⟨L7, rfl, hL, hA, harm, hac7, hf⟩
      have HL7 := Lib.hid hL
      have HA7 := Lib.hid hA
      have HAR7 := Lib.hid harm
      have HF7 := Lib.hid (HF6.out.part hf (by simp; omega))
      have hs7 := hf.size
      clear hL hA harm hf HL6 HF6 HA6 HAR6
      go_wp2_with fail
      refine (open_told p m L7.dk _ _ _ w7 HL7.out.dk (by omega) HL7.out.g (by omega) (by omega) HA7.out.off HAR7.out HA7.out.snap HA7.out.log HA7.out.has (Nat.le_trans (flat_le _ HA7.out.has.ok) (by simp [big0, bs_toList, len_toList] <;> omega))).mono ?_
      rintro e w8 ⟨b8, v8, L8, rfl, hb8, hL, hA, harm, hac8, hrow, hf⟩
      have HF8 := Lib.hid (HF7.out.part hf (by simp; omega))
      have HR8 := Lib.hid hrow
      clear hL hA harm hf hrow HL7 HF7 HA7 HAR7
      rw [bs_nil]
      go_wp2_with fail
      refine (same_calls _ _ [tx.data.toList, [99]] [tx.data.toList, [99]] _ (((kept_b tx) ▸ HR8.out).fr ((Fr.refl _ _).alloc _)) (strRow_lit2 _ _ _ _ _) (by simp) (by simp)).mono ?_
      rintro e w9 ⟨rfl, hf9⟩
      have HF9 := Lib.hid ((HF8.out.alloc _).trans hf9)
      rw [decide_eq_true rfl]
      go_wp2_with fail
      go_ret
      exact ⟨rfl, HF9.out⟩
end Go.Proofs.YtnlgmekkjibpmaaGreatDoor
/- DERIVED. The rows' common ground: the laid variable's cell, a world that meets the condition, the arguments read as before. -/
namespace Go.Proofs.YtnlgmekkjibpmaaGreatDoor
open Go Go.ChangeShapes Go.WideShapes Go.RowKit
set_option linter.unusedVariables false
set_option linter.unusedSimpArgs false

def laidOnes : List (String × DataW Unit) := [("errors.errorType", Rows.laid_errors_errorType)]
theorem Tryz.own : ownKnob Tryz.prog.godebug = none := by kernel_rfl
theorem Tryz.et : Tryz.prog.globalNamed "errors.errorType" = some 0 := by kernel_rfl
theorem Tryz.rt : (Tryz.prog.cutTypes.find? (·.1 == "internal/reflectlite.rtype")).map (·.2) = some 156 := by kernel_rfl
theorem Tryz.oneRow : ((List.range Tryz.prog.types.size).filter fun t => Tryz.prog.rowNamed t [101, 114, 114, 111, 114]) = [63] := by kernel_rfl
theorem Tryz.laidOut : laidOutB Tryz.prog = true := by kernel_rfl

theorem g_of_laid {W : World} (h : laidMetH Tryz.prog laidOnes W) : G W := by
  have h' : laidMet Tryz.prog [] W ∧ handlesMet Tryz.prog laidOnes W := h
  obtain ⟨name, u, ty, e1, e2, e3, e4, e5⟩ := h'.2 _ (List.mem_singleton.2 rfl)
  have en : name = [101, 114, 114, 111, 114] := (Option.some.inj e1).symm
  subst en
  obtain rfl := Option.some.inj (Tryz.rt.symm.trans e2)
  have hm : ty ∈ (List.range Tryz.prog.types.size).filter fun t => Tryz.prog.rowNamed t [101, 114, 114, 111, 114] := List.mem_filter.2 ⟨List.mem_range.2 e3, e4⟩
  rw [Tryz.oneRow] at hm
  obtain rfl := List.mem_singleton.1 hm
  have hh : typeHandle Tryz.prog 63 = .pointer (some ⟨1, 63, none⟩) := by kernel_rfl
  rw [hh] at e5
  have := World.var?_cell Tryz.et e5 0
  unfold G
  simpa using this

noncomputable def laidWorld (os : Os) : World :=
  let w0 := World.holding Tryz.prog os ⟨#[], #[], []⟩
  { w0 with heap := w0.heap.modify 0 fun
      | .cells _ t frozen => .cells #[.iface 156 (.agg #[.pointer (some ⟨1, 63, none⟩)])] t frozen
      | o => o }
theorem laidWorld_met (os : Os) (args : Array Value) : laidMetH Tryz.prog laidOnes ((laidWorld os).forCall (fun _ _ => 0) ⟨#[], args, []⟩).memory :=
  laidMetH_of_parts (laidMet_nil _ _) (by kernel_rfl)

theorem all_carry {H : Type} {enc : TypeId × Value → H} {W W' : World} (hb : Below W.heap.size W W') : ∀ (ts : List TypeId) (vs : List Value) (ds : List (DataW H)) (ps : List MemPlace),
    DataW.TrodAll enc Tryz.prog W 0 (fun _ => true) true ts vs ds ps → (∀ x ∈ ps, x.block < W.heap.size) → (∀ t ∈ ts, Tryz.prog.readableRec t = true ∧ t < Tryz.prog.types.size) →
    DataW.TrodAll enc Tryz.prog W' 0 (fun b => decide (b < W.heap.size)) true ts vs ds ps
  | [], [], [], ps, h, _, _ => h
  | t :: ts, v :: vs, d :: ds, ps, ⟨p, q, h1, h2, e⟩, hlt, hts => by
    subst e
    exact ⟨p, q, Below.trod Tryz.laidOut (hts t (by simp)).1 (hts t (by simp)).2 h1 hb (fun x hx => hlt x (by simp [hx])), all_carry hb ts vs ds q h2 (fun x hx => hlt x (by simp [hx])) (fun t ht => hts t (by simp [ht])), rfl⟩
  | [], _ :: _, _, _, h, _, _ => h.elim
  | [], [], _ :: _, _, h, _, _ => h.elim
  | _ :: _, [], _, _, h, _, _ => h.elim
  | _ :: _, _ :: _, [], _, h, _, _ => h.elim
end Go.Proofs.YtnlgmekkjibpmaaGreatDoor
namespace Go.Proofs.YtnlgmekkjibpmaaGreatDoor
open Go Go.ChangeShapes Go.WideShapes Go.RowKit Go.ChangeMaps
set_option linter.unusedVariables false
set_option linter.unusedSimpArgs false

theorem open_three {H : Type} {enc : TypeId × Value → H} {w : World} {base : Nat} {spare : Nat → Bool} {held : Bool} {t t' t'' : TypeId} {args : Array Value} {ds : List (DataW H)} {ps : List MemPlace} (h : DataW.TrodAll enc Tryz.prog w base spare held [t, t', t''] args.toList ds ps) :
    ∃ v v' v'' d d' d'' p p' p'', args = #[v, v', v''] ∧ ds = [d, d', d''] ∧ DataW.Trod enc Tryz.prog w base spare held t v d p ∧ DataW.Trod enc Tryz.prog w base spare held t' v' d' p' ∧ DataW.Trod enc Tryz.prog w base spare held t'' v'' d'' p'' := by
  obtain ⟨v, vs, d, ds', p, q, hargs, rfl, rfl, hd, hrest⟩ := trodAll_cons h
  obtain ⟨v', vs', d', ds'', p', q', rfl, rfl, rfl, hd', hrest'⟩ := trodAll_cons hrest
  obtain ⟨v'', vs'', d'', ds''', p'', q'', rfl, rfl, rfl, hd'', hrest''⟩ := trodAll_cons hrest'
  obtain ⟨rfl, rfl, rfl⟩ := trodAll_nil hrest''
  exact ⟨v, v', v'', d, d', d'', p, p', p'', by cases args; simp_all, rfl, hd, hd', hd''⟩

set_option maxRecDepth 100000 in
theorem long_lifted (os : Os) (started : os.Started) (H : Type) (enc : TypeId × Value → H) :
    ReturnsInHanded {} Tryz.checked os 3 .any (fun w args => (Rows.walLongSpec.pre enc Tryz.prog Tryz.f3 [] false w args ∧ laidMetH Tryz.prog laidOnes w) ∧ sizedMet enc Tryz.prog Tryz.f3 (OpenSpec.ofChange Rows.walLongSpec) false w args)
      (Rows.walLongSpec.post enc Tryz.prog Tryz.f3 false true false false) := by
  refine returnsInHanded_of_change_and (C := Tryz.checked) (X := fun w _ => laidMetH Tryz.prog laidOnes w) (fun _ _ _ hh h => h.of_heap hh) Tryz.own started (by kernel_rfl) Tryz.func3
    (ChangeSpec.witness_at (enc := enc) (C := Tryz.checked) (os := os) (X := fun w _ => laidMetH Tryz.prog laidOnes w) false (laidWorld os) #[.string ⟨#[]⟩, .int .i64 0, .bool false] 8 rfl (by kernel_rfl) (by kernel_rfl) (by kernel_rfl) (by kernel_rfl) (by kernel_rfl) (laidWorld_met os _)) ?_
  intro W base args ds gs before hval0 hW _ _ hL _
  have hval : ∀ (j : Nat) t v, Tryz.f3.params[j]? = some t → args[j]? = some v → Value.okWide Tryz.prog W .any base t v := hval0
  have hW' := hW
  obtain ⟨p, q, hA0, hV0, rfl, hfz, hnd⟩ := hW
  have hA : DataW.TrodAll enc Tryz.prog W 0 (fun _ => true) true Tryz.f3.params.toList args.toList ds p := hA0
  have hV : DataW.TrodVars enc Tryz.prog W (fun _ => true) [] gs q := hV0
  obtain ⟨rfl, rfl⟩ : gs = [] ∧ q = [] := by
    cases gs with
    | nil => exact ⟨rfl, hV⟩
    | cons g r => exact absurd hV (by intro h; cases h)
  have hlt : ∀ x ∈ p, x.block < W.heap.size := fun x hx => hW'.lt x (by simpa using hx)
  have hA2 := hA
  rw [Tryz.params3] at hA hval
  obtain ⟨v0, v1, v2, d0, d1, d2, p0, p1, p2, rfl, rfl, h0, h1, h2⟩ := open_three hA
  obtain ⟨s, rfl, rfl, rfl, hs⟩ := open_string Tryz.underlying9 (hval 0 9 v0 rfl rfl) h0
  obtain ⟨n, rfl, rfl, rfl, hn⟩ := open_int Tryz.underlying3 (hval 1 3 v1 rfl rfl) h1
  obtain ⟨b, rfl, rfl, rfl⟩ := open_bool Tryz.underlying4 (hval 2 4 v2 rfl rfl) h2
  have hg := g_of_laid hL
  have hn' : -9223372036854775808 ≤ n ∧ n ≤ 9223372036854775807 := by
    simp [Lit.wf, IntKind.min, IntKind.max, IntKind.signed, IntKind.bits] at hn
    omega
  refine (walLong_calls s n b W hg (by simpa [maxLen] using hs) hn'.1 hn'.2).mono fun e W' ⟨he, hf⟩ => ?_
  have hb : Below W.heap.size W W' := hf.toBelow
  subst he
  refine ⟨_, rfl, _, _, _, [], p, [], hW', trodAll_mk1 (shut_bool Tryz.underlying4 true), all_carry hb _ _ _ _ hA2 hlt (by rw [Tryz.params3]; simp only [List.mem_cons, List.not_mem_nil, or_false, forall_eq_or_imp, forall_eq]; exact ⟨⟨by kernel_rfl, of_decide_eq_true (by kernel_rfl)⟩, ⟨by kernel_rfl, of_decide_eq_true (by kernel_rfl)⟩, by kernel_rfl, of_decide_eq_true (by kernel_rfl)⟩), rfl, hb.frame _, fun h => by cases h⟩

theorem long_row : Rows.WalLongSaid :=
  OpenClaim.holds_of_wide 3 Tryz.f3 rfl rfl rfl rfl rfl rfl rfl ⟨rfl, rfl, rfl, rfl, rfl⟩ rfl rfl rfl rfl rfl (by kernel_rfl) Tryz.func3 (by kernel_rfl)
    (of_decide_eq_true (by kernel_rfl)) (by unfold Func.isWrapper; rw [if_neg (of_decide_eq_false (by kernel_rfl))]; exact ⟨rfl, rfl⟩)
    (fun os started H enc _ => long_lifted os started H enc)

theorem long_card : Rows.WalLongCardSaid :=
  Claim7.holds_tied_plain_at .later [] [.handle] true (true, "4f669eb1815ddd63ee7c3b1e1a903fd97391efdc60560fb5bc4fcc95ba292150") true
    long_row (fun _ h => by cases h) (by kernel_rfl) (fun _ h => by cases h) walLong_row_tie rfl ⟨rfl, rfl⟩ (by kernel_rfl) rfl
    (fun f fn hf hfn => by
      obtain rfl : f = 3 := Option.some.inj ((show Tryz.prog.funcNamed "billet/billetlaw11.WalLong" = some 3 by kernel_rfl).symm.trans hf) |>.symm
      obtain rfl : fn = Tryz.f3 := (Option.some.inj (Tryz.func3.symm.trans hfn)).symm
      exact ⟨by kernel_rfl, fun j t ht => by
        rw [Tryz.params3] at ht
        rcases j with _ | _ | _ | j
        · obtain rfl : 9 = t := by simpa using ht
          exact (show Tryz.prog.wantsStandIn 9 = false by kernel_rfl)
        · obtain rfl : 3 = t := by simpa using ht
          exact (show Tryz.prog.wantsStandIn 3 = false by kernel_rfl)
        · obtain rfl : 4 = t := by simpa using ht
          exact (show Tryz.prog.wantsStandIn 4 = false by kernel_rfl)
        · simp at ht⟩)
    (by kernel_rfl)
#print axioms long_card
end Go.Proofs.YtnlgmekkjibpmaaGreatDoor
