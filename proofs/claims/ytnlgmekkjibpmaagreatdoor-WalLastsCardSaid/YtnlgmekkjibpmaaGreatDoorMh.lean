/- DERIVED. Contracts and plain laws under the statement: one merged text. -/
import Derived.Test.YtnlgmekkjibpmaaGreatDoorMg
import Derived.OwnWalk
import Derived.Laws.AppendOwnNone
import Derived.Outline
/- DERIVED. The law's own: opens. -/
namespace Go.Proofs.YtnlgmekkjibpmaaGreatDoor
open Go Go.RowKit Go.Shelf Go.Proofs.YtnlgmekkjibpmaaGreatDoorW.PrintWords
set_option linter.unusedVariables false
set_option linter.unusedSimpArgs false

theorem OpenOut.fr {o : Option (Ent × List Ent)} {c p B : Nat} {w w' : World} {e : Ending} {S : List Nat} (h : OpenOut o c p B w e) (hf : Fr S w w') (hs : ∀ k, k ∈ S → k < B) : OpenOut o c p B w' e := by
  cases o with
  | none => exact h
  | some x =>
    obtain ⟨a, K⟩ := x
    obtain ⟨b, v, he, hb, hw, hr⟩ := h
    refine ⟨b, v, he, hb, hw.fr hf (fun hm => by have := hs _ hm; omega), own_fr hr hf (fun k hk hv => ?_)⟩
    have h1 := own_ge hr hv
    have h2 := hs _ hk
    omega
theorem OpenOut.tuple {o : Option (Ent × List Ent)} {c p B : Nat} {w : World} {e : Ending} (h : OpenOut o c p B w e) : ∃ P S V, e = .returned (.tuple #[P, .string S, V, .int .i64 (c : Int)]) := by
  cases o with
  | none => exact ⟨_, _, _, h⟩
  | some x =>
    obtain ⟨a, K⟩ := x
    obtain ⟨b, v, he, _⟩ := h
    exact ⟨_, _, _, he⟩
theorem IntRow.fr {w w' : World} {v : Value} {L : List Int} (h : IntRow w v L) {S : List Nat} (hf : Fr S w w') (hs : ∀ g o x, w.cell? ⟨g, o, none⟩ = some (.int .i64 x) → g ∈ S → False) : IntRow w' v L := by
  obtain ⟨ao, c, hv, hc⟩ := h
  refine ⟨ao, c, hv, fun j hj => ?_⟩
  obtain ⟨h1, g, o, h2, h3⟩ := hc j hj
  refine ⟨h1, g, o, h2, ?_⟩
  rw [World.cell?_of_block (hf.block g (World.block_lt_of_cell? w _ h3) (fun hm => hs _ _ _ h3 hm))]
  exact h3
theorem arm_acts (D : Dk) (n : Int) : (D.arm n).2.acts = D.acts := (arm_f D n).2.2

set_option maxRecDepth 100000 in
set_option maxHeartbeats 2000000 in
theorem opens_calls (p m : Nat) (D : Dk) (vk vc : Value) (keep cuts : List Int) (w : World) (h : DkIs w p m D) (h2 : D.acts ≤ 700000) (hg : G w) (hp0 : p ≠ 0) (hm0 : m ≠ 0) (hk : IntRow w vk keep) (hc : IntRow w vc cuts)
    (hkl : keep.length ≤ 9223372036854775807) (hcl : cuts.length ≤ 9223372036854775807) (hkp : ∀ W, Fr [p, m] w W → IntRow W vk keep) (hcp : ∀ W, Fr [p, m] w W → IntRow W vc cuts) :
    Calls Tryz.prog 28 #[.pointer (some ⟨p, 0, none⟩), vk, vc] w fun ev w' => ∃ B, w.heap.size ≤ B ∧ OpenOut (opensD keep (cuts.take 4) D).1 (opensD keep (cuts.take 4) D).2.1 p B w' ev ∧ DkIs w' p m (opensD keep (cuts.take 4) D).2.2 ∧ (opensD keep (cuts.take 4) D).2.2.acts ≤ D.acts + 20 ∧ Fr [p, m] w w' := by
  have hlt := h.lt
  have H := Lib.hid h
  have HG := Lib.hid hg
  have HKP := Lib.hid hkp
  have HCP := Lib.hid hcp
  obtain ⟨ck, kc, rfl, _⟩ := hc
  obtain ⟨R, hR⟩ : ∃ R, R = opensD keep (cuts.take 4) D := ⟨_, rfl⟩
  rw [← hR]
  have HR := Lib.hid hR
  clear h hg hkp hcp hk hR
  go_enter Tryz.func28, Tryz.ntmps28
  go_wp2_with fail
  go_loopw [10] (fun i wr => ∃ (k : Nat) (D1 : Dk), i = .int .i64 (k : Int) ∧ k ≤ cuts.length ∧ k ≤ 4 ∧ Hid (DkIs wr p m D1) ∧ D1.acts ≤ D.acts + 4 * k ∧ Hid (R = opensD keep ((cuts.take 4).drop k) D1) ∧ Hid (Fr [p, m] w wr))
    (fun i _ => 4 - (intOf i).toNat)
  case atStart => exact ⟨0, D, rfl, by omega, by omega, H, by omega, by rw [List.drop_zero]; exact HR, Lib.hid (Fr.refl _ _)⟩
  case round =>
    clear HR H
    obtain ⟨k, D1, rfl, hk, hk4, HD, hac, HR, HF⟩ := hrel
    have hs0 := HF.out.size
    by_cases hlt2 : k < cuts.length ∧ k < 4
    · obtain ⟨hlt2, hk4'⟩ := hlt2
      go_wp2_with fail
      refine (disk_restart p m D1 keep _ _ HD.out (HKP.out _ HF.out) hkl).mono ?_
      rintro e w1 ⟨rfl, hD2, hf2⟩
      have HF2 := Lib.hid (HF.out.trans hf2)
      have HD2 := Lib.hid hD2
      have ha2 : (D1.restart keep).acts = D1.acts := rfl
      have hs2 := hf2.size
      clear hD2 hf2 HF HD
      obtain ⟨ck', kc', hck, hcell⟩ := HCP.out _ HF2.out
      obtain ⟨hb, g, o, hgo, hcel⟩ := hcell k hlt2
      injection hck with hck1 _ hck3
      subst hck1
      subst hck3
      subst hgo
      have hdrop : (cuts.take 4).drop k = cuts[k]'hlt2 :: (cuts.take 4).drop (k + 1) := by
        rw [List.drop_eq_getElem_cons (by rw [List.length_take]; omega), List.getElem_take]
      have hr := HR.out
      rw [hdrop] at hr
      obtain ⟨x, hx⟩ : ∃ x, x = cuts[k]'hlt2 := ⟨_, rfl⟩
      rw [← hx] at hr hb hcel
      unfold opensD at hr
      have HR2 := Lib.hid hr
      clear hr hx HR hdrop hcell
      go_wp2_with fail
      refine (pick_calls x 5 (by omega) (by omega) hb.1 hb.2 _).mono ?_
      rintro e w2 ⟨rfl, rfl⟩
      have hplt := pickN_lt x 5 (by omega)
      clear hcel
      go_wp2_with fail
      refine (disk_arm p m (D1.restart keep) _ _ HD2.out (by omega)).mono ?_
      rintro e w3 ⟨rfl, hD3, hf3⟩
      have ha3 := arm_acts (D1.restart keep) (1 + (pickN x 5 : Int))
      obtain ⟨D3, hD3e⟩ : ∃ D3, D3 = ((D1.restart keep).arm (1 + (pickN x 5 : Int))).2 := ⟨_, rfl⟩
      have hr := HR2.out
      rw [← hD3e] at hr hD3 ha3
      have HR3 := Lib.hid hr
      have HD3 := Lib.hid hD3
      have HF3 := Lib.hid (HF2.out.trans (hf3.mono (T := [p, m]) (by simp)))
      have hs3 := hf3.size
      clear hr hD3 hf3 HD2 HF2 HR2 hD3e
      go_wp2_with fail
      refine (Open_calls p m D3 _ HD3.out (by omega) (HG.out.fr HF3.out (by simp; omega)) hp0 hm0).mono ?_
      rintro e w4 ⟨ho, hD4, hf4⟩
      have ha4 := Open_acts D3
      obtain ⟨P, S, V, rfl⟩ := ho.tuple
      obtain ⟨O, hO⟩ : ∃ O, O = D3.Open := ⟨_, rfl⟩
      have hr := HR3.out
      rw [← hO] at hr ho hD4 ha4
      rw [← hO]
      obtain ⟨oo, oc, D4⟩ := O
      dsimp only at hr ho hD4 ha4
      dsimp only
      have HR4 := Lib.hid hr
      have HD4 := Lib.hid hD4
      have HO4 := Lib.hid ho
      have HF4 := Lib.hid (HF3.out.trans hf4)
      have hs4 := hf4.size
      clear hr hD4 ho hf4 HR3 HD3 HF3 hO
      go_wp2_with fail
      refine (disk_arm p m D4 0 _ HD4.out (by omega)).mono ?_
      rintro e w5 ⟨rfl, hD5, hf5⟩
      have ha5 := arm_acts D4 0
      obtain ⟨D5, hD5e⟩ : ∃ D5, D5 = (D4.arm 0).2 := ⟨_, rfl⟩
      have hr := HR4.out
      rw [← hD5e] at hr hD5 ha5
      have HR5 := Lib.hid hr
      have HD5 := Lib.hid hD5
      have HF5 := Lib.hid (HF4.out.trans (hf5.mono (T := [p, m]) (by simp)))
      have HO5 := Lib.hid (HO4.out.fr hf5 (by simp; omega))
      clear hr hD5 hf5 HR4 HD4 HF4 HO4 hD5e
      by_cases h100 : oc = 100
      · subst h100
        go_wp2_with fail
        case roundEnd =>
          have hr := HR5.out
          rw [if_pos (by trivial)] at hr
          have HR6 := Lib.hid hr
          clear hr
          exact ⟨⟨k + 1, D5, by go_num, by omega, by omega, HD5, by omega, HR6, HF5⟩, by simp [intOf]; omega⟩
      · have h1 : ((oc : Int) == 100) = false := by simpa using by omega
        have h2 : ((oc : Int) != 100) = true := by simpa using by omega
        go_wp2_with fail
        (try simp only [Exit.inBlock, Exit.then])
        refine bodyPost_ret (results_tmp4 rfl _ _ _) rfl ?_
        have hr := HR5.out
        rw [if_neg h100] at hr
        rw [hr]
        exact ⟨w3.heap.size, by omega, HO5.out, HD5.out, by dsimp only; omega, HF5.out⟩
    · have hend : (cuts.take 4).drop k = [] := by
        apply List.drop_eq_nil_of_le
        rw [List.length_take]; omega
      have hr := HR.out
      rw [hend] at hr
      unfold opensD at hr
      have HR2 := Lib.hid hr
      clear hr hend HR
      by_cases hk1 : k < cuts.length
      all_goals
        go_wp2_with fail
        refine (disk_restart p m D1 keep _ _ HD.out (HKP.out _ HF.out) hkl).mono ?_
        rintro e w1 ⟨rfl, hD2, hf2⟩
        have HF2 := Lib.hid (HF.out.trans hf2)
        have HD2 := Lib.hid hD2
        have ha2 : (D1.restart keep).acts = D1.acts := rfl
        have hs2 := hf2.size
        clear hD2 hf2 HF HD
        go_wp2_with fail
        refine (Open_calls p m (D1.restart keep) _ HD2.out (by omega) (HG.out.fr HF2.out (by simp; omega)) hp0 hm0).mono ?_
        rintro e w4 ⟨ho, hD4, hf4⟩
        have ha4 := Open_acts (D1.restart keep)
        obtain ⟨P, S, V, rfl⟩ := ho.tuple
        have HD4 := Lib.hid hD4
        have HO4 := Lib.hid ho
        have HF4 := Lib.hid (HF2.out.trans hf4)
        clear hD4 ho hf4 HD2 HF2
        go_wp2_with fail
        (try simp only [Exit.inBlock, Exit.then])
        refine bodyPost_ret (results_tmp4 rfl _ _ _) rfl ?_
        rw [HR2.out]
        exact ⟨w1.heap.size, by omega, HO4.out, HD4.out, by omega, HF4.out⟩
end Go.Proofs.YtnlgmekkjibpmaaGreatDoor
/- DERIVED. wal: the calls' contracts where the power may go off. -/
namespace Go.Proofs.YtnlgmekkjibpmaaGreatDoor
open Go Go.RowKit Go.Shelf Go.Proofs.YtnlgmekkjibpmaaGreatDoorW.PrintWords
set_option linter.unusedVariables false
set_option linter.unusedSimpArgs false

/-- The slice v reads as the texts L, in a block that is none of S. -/
def Row (w : World) (S : List Nat) (v : Value) (L : List (List UInt8)) : Prop :=
  (L = [] ∧ v = .slice none 0 0) ∨ ∃ g c, v = .slice (some ⟨g, 0, none⟩) L.length c ∧ g ∉ S ∧ g < w.heap.size ∧ ∀ j, (h : j < L.length) → w.cell? ⟨g, j, none⟩ = some (.string (bs (L[j]'h)))
theorem Row.str {w : World} {S : List Nat} {v : Value} {L : List (List UInt8)} (h : Row w S v L) : StrRow w v L := by
  rcases h with h | ⟨g, c, hv, _, _, hc⟩
  · exact .inl h
  · exact .inr ⟨g, c, hv, hc⟩
theorem Row.fr {w w' : World} {S T : List Nat} {v : Value} {L : List (List UInt8)} (h : Row w S v L) (hf : Fr T w w') (hT : ∀ k, k ∈ T → k ∈ S) : Row w' S v L := by
  rcases h with h | ⟨g, c, hv, hg, hl, hc⟩
  · exact .inl h
  · refine .inr ⟨g, c, hv, hg, by have := hf.size; omega, fun j hj => ?_⟩
    rw [World.cell?_of_block (hf.block g hl (fun hm => hg (hT _ hm)))]
    exact hc j hj
theorem Row.to {w : World} {S T : List Nat} {v : Value} {L : List (List UInt8)} (h : Row w S v L) (hT : ∀ k, k ∈ T → k ∈ S ∨ w.heap.size ≤ k) : Row w T v L := by
  rcases h with h | ⟨g, c, hv, hg, hl, hc⟩
  · exact .inl h
  · exact .inr ⟨g, c, hv, fun hm => by
      rcases hT _ hm with h1 | h1
      · exact hg h1
      · omega, hl, hc⟩
theorem Row.nil (w : World) (S : List Nat) : Row w S (.slice none 0 0) [] := .inl ⟨rfl, rfl⟩
theorem row_of_own {w : World} {base : Nat} {S : List Nat} {v : Value} {L : List (List UInt8)} (h : w.ownsRow base 9 1 v L.length (L.map strV)) (hS : ∀ k, k ∈ S → k < base) : Row w S v L := by
  rcases h.2 with ⟨rfl, hn⟩ | ⟨g, cap, cur, rfl, hg, hh, _⟩
  · exact .inl ⟨by simpa using hn, rfl⟩
  · exact .inr ⟨g, cap, rfl, fun hm => by have := hS _ hm; omega, blk_lt hh, fun j hj => by rw [h.cellAt j (by omega)]; simp [strV, hj]⟩
theorem IntRow.fr0 {w w' : World} {v : Value} {L : List Int} (h : IntRow w v L) (hf : Fr [] w w') : IntRow w' v L := h.fr hf (fun _ _ _ _ hm => by simp at hm)

def CutApp (b p m : Nat) (a : Ent) (E : List Ent) (x : Ent) (q n am : Nat) (w : World) (e : Ending) (w' : World) : Prop :=
  ∃ L, LgIs w' b p m L ∧ L.dk.acts ≤ n ∧ Fr [b, p, m] w w' ∧ ((e = .returned (.int .i64 0) ∧ Alive L a (E ++ [x]) (q + 1)) ∨
    (e = .returned (.int .i64 100) ∧ am ≠ 0 ∧ L.dk.off = true ∧ SnapIs L.dk a ∧ ∃ j, j ≤ (fr x).length ∧ LogIs L.dk E ((fr x).take j)))
theorem append_cut (b p m : Nat) (L : Lg) (a : Ent) (E : List Ent) (q : Nat) (s : ByteArray) (w : World) (h : LgIs w b p m L) (hA : Alive L a E q) (hx : Ent.ok (q + 1, s.data.toList)) (h2 : L.dk.acts ≤ 800000)
    (hlen : (flat E).length + (fr (q + 1, s.data.toList)).length ≤ 65536) :
    Calls Tryz.prog 12 #[.pointer (some ⟨b, 0, none⟩), .string s] w (CutApp b p m a E (q + 1, s.data.toList) q (L.dk.acts + 2) L.dk.armed w) := by
  have hsz : s.size ≤ 100000 := by have := hx.1; simp only [len_toList] at this; omega
  have hq : L.seq ≤ 1099511627776 := by have := hx.2; rw [hA.seq]; simp only at this; omega
  refine (append_calls b p m L s w h hq hsz h2).mono ?_
  rintro e w' ⟨he, hL, hf⟩
  refine ⟨_, hL, Lg_append_acts L _, hf, ?_⟩
  rcases append_law L a E q s.data.toList hA hx hlen with ⟨k1, k2, k3⟩ | ⟨k1, k2, k3, k4, k5⟩
  · rw [k1] at he
    exact .inl ⟨he, k2⟩
  · rw [k1] at he
    exact .inr ⟨he, k2, k3, k4, k5⟩
def CutChk (b p m : Nat) (a : Ent) (E : List Ent) (x : Ent) (q n am : Nat) (w : World) (e : Ending) (w' : World) : Prop :=
  ∃ L, LgIs w' b p m L ∧ L.dk.acts ≤ n ∧ Fr [b, p, m] w w' ∧ ((e = .returned (.int .i64 0) ∧ Alive L x [] q) ∨
    (e = .returned (.int .i64 100) ∧ am ≠ 0 ∧ L.dk.off = true ∧ (SnapIs L.dk a ∨ SnapIs L.dk x) ∧ LogIs L.dk E []))
theorem check_cut (b p m : Nat) (L : Lg) (a : Ent) (E : List Ent) (q : Nat) (s : ByteArray) (w : World) (h : LgIs w b p m L) (hA : Alive L a E q) (hx : Ent.ok (q, s.data.toList)) (h2 : L.dk.acts ≤ 800000) :
    Calls Tryz.prog 13 #[.pointer (some ⟨b, 0, none⟩), .string s] w (CutChk b p m a E (q, s.data.toList) q (L.dk.acts + 4) L.dk.armed w) := by
  have hsz : s.size ≤ 100000 := by have := hx.1; simp only [len_toList] at this; omega
  have hq : L.seq ≤ 1099511627777 := by have := hx.2; rw [hA.seq]; simp only at this; omega
  refine (checkpoint_calls b p m L s w h hq hsz h2).mono ?_
  rintro e w' ⟨he, hL, hf⟩
  refine ⟨_, hL, Lg_check_acts L _, hf, ?_⟩
  rcases check_law L a E q s.data.toList hA hx with ⟨k1, k2, k3⟩ | ⟨k1, k2, k3, k4, k5⟩
  · rw [k1] at he
    exact .inl ⟨he, k2⟩
  · rw [k1] at he
    exact .inr ⟨he, k2, k3, k4, k5⟩

theorem arm_log (b p m : Nat) (L : Lg) (n : Int) (w : World) (h : LgIs w b p m L) (h2 : L.dk.acts ≤ 800000) :
    Calls Tryz.prog 26 #[.pointer (some ⟨p, 0, none⟩), .int .i64 n] w fun e w' => (∃ c, e = .returned (.int .i64 c)) ∧ LgIs w' b p m ⟨L.seq, L.err, (L.dk.arm n).2⟩ ∧ Fr [p] w w' := by
  refine (disk_arm p m L.dk n w h.dk (by omega)).mono ?_
  rintro e w' ⟨he, hd, hf⟩
  exact ⟨⟨_, he⟩, ⟨h.wl.fr hf (by simp [h.bp]), hd, h.g.fr hf (by simp [Ne.symm h.p0]), h.bp, h.bm, h.b0, h.p0, h.m0⟩, hf⟩
theorem Alive.arm {L : Lg} {a : Ent} {E : List Ent} {q : Nat} (h : Alive L a E q) (n : Int) : Alive ⟨L.seq, L.err, (L.dk.arm n).2⟩ a E q := by
  have hf := arm_f L.dk n
  exact ⟨h.err, h.seq, hf.2.1.trans h.off, (congrFun hf.1 _).trans h.new, h.snap.same (congrFun hf.1 _), h.log.same (congrFun hf.1 _), h.has⟩

/-- An opening that told, in memory. -/
def OpensTold (p m : Nat) (a : Ent) (E : List Ent) (q n : Nat) (w : World) (e : Ending) (w' : World) : Prop :=
  ∃ b v L, e = .returned (.tuple #[.pointer (some ⟨b, 0, none⟩), .string (bs a.2), v, .int .i64 0]) ∧ w.heap.size ≤ b ∧ LgIs w' b p m L ∧ Alive L a E q ∧ L.dk.armed = 0 ∧ L.dk.acts ≤ n ∧ Row w' [b, p, m] v (textsL (keptF a.1 E)) ∧ Fr [p, m] w w'
theorem told_of_opens {p m : Nat} {R : Option (Ent × List Ent) × Nat × Dk} {a : Ent} {E : List Ent} {q n B : Nat} {w w' : World} {e : Ending} (hlt : p < w.heap.size ∧ m < w.heap.size ∧ p ≠ m) (hg : G w) (hp0 : p ≠ 0) (hm0 : m ≠ 0)
    (hB : w.heap.size ≤ B) (h : OpenOut R.1 R.2.1 p B w' e) (hd : DkIs w' p m R.2.2) (hn : R.2.2.acts ≤ n) (hf : Fr [p, m] w w') (hT : Told R a E q) : OpensTold p m a E q n w e w' := by
  rw [hT.out, hT.code] at h
  obtain ⟨b, v, he, hb, hw, hr⟩ := h
  rw [hT.has.last] at hw
  refine ⟨b, v, ⟨q, 0, R.2.2⟩, he, by omega, ⟨hw, hd, hg.fr hf (by simp; omega), by omega, by omega, by omega, hp0, hm0⟩, ⟨rfl, rfl, hT.off, hT.new, hT.snap, hT.log, hT.has⟩, hT.armed, hn, ?_, hf⟩
  rw [textsV_eq] at hr
  have hr2 : w'.ownsRow B 9 1 v (textsL (keptF a.1 E)).length ((textsL (keptF a.1 E)).map strV) := by simpa [textsL] using hr
  rcases hr2.2 with ⟨rfl, hn2⟩ | ⟨g, cap, cur, rfl, hg2, hh, _⟩
  · exact .inl ⟨by simpa using hn2, rfl⟩
  · refine .inr ⟨g, cap, rfl, ?_, blk_lt hh, fun j hj => by rw [hr2.cellAt j (by omega)]; simp [strV, hj]⟩
    have hgb : g ≠ b := by
      rintro rfl
      have h1 := hw.out
      rw [hh] at h1
      injection h1 with h1
      injection h1 with _ h1 _
      exact absurd h1 (by decide)
    simp only [List.mem_cons, List.not_mem_nil, or_false, not_or]
    omega
end Go.Proofs.YtnlgmekkjibpmaaGreatDoor
/- DERIVED. The law WalLasts: the walk. -/
namespace Go.Proofs.YtnlgmekkjibpmaaGreatDoor
open Go Go.RowKit Go.Shelf Go.Proofs.YtnlgmekkjibpmaaGreatDoorW.PrintWords
set_option linter.unusedVariables false
set_option linter.unusedSimpArgs false

theorem wpList_append_row {ops : Array Oper} {rest : List Oper} {o : Oper} {a : Act} {Q : Exit → Act → World → Prop} {w : World} (hgd : o.guard = none) (s x : Operand)
    (ho : o.op = .call { callee := .builtin .append, args := #[s, x], argTypes := #[26, 26] }) {S : List Nat} {lv : Value} {Lt : List (List UInt8)} (hs : a.eval s = .slice none 0 0) (hx : a.eval x = lv) (hrow : Row w S lv Lt) (hlen : Lt.length ≤ 1000000)
    (h : ∀ v' w', w'.ownsRow w.heap.size 9 1 v' Lt.length (Lt.map strV) → Fr [] w w' → wpList Tryz.prog ops Q rest (a.put o.dst v') w') : wpList Tryz.prog ops Q (o :: rest) a w := by
  obtain ⟨i0, hi, hz0, hz1, hz2⟩ := info_parts Tryz.info9
  rcases hrow with ⟨rfl, rfl⟩ | ⟨g, c, rfl, _, hg, hc⟩
  · exact wpList_append_own_none hgd s x 26 ho w.heap.size 9 i0 1 Tryz.underlying26 hi (.slice none 0 0) 0 [] hs (World.ownsRow_nil _ _ _ _) hx (h _ _ (World.ownsRow_nil _ _ _ _) (Fr.refl _ _))
  · refine wpList_append_own _ hgd s x 26 ho w.heap.size 9 i0 (.string ⟨#[]⟩) 1 16 Tryz.underlying26 hi hz0 hz1 hz2 rfl (by decide) (.slice none 0 0) 0 [] hs (World.ownsRow_nil _ _ _ _) ⟨g, 0, none⟩ Lt.length c (Lt.map strV) hx (by simp) ?_ ?_ (by unfold maxLen; omega) (by omega) (Nat.le_refl _) ?_
    · intro j u hu
      have hj : j < Lt.length := by
        have := (List.getElem?_eq_some_iff.1 hu).1
        simpa using this
      have hu2 : u = strV (Lt[j]'hj) := by
        rw [List.getElem?_map, List.getElem?_eq_getElem hj] at hu
        exact (Option.some.inj hu).symm
      rw [hu2]
      have e : (⟨g, 0, none⟩ : Addr).add j = ⟨g, j, none⟩ := by
        by_cases hj0 : j = 0
        · subst hj0; rfl
        · simp [Addr.add, hj0]
      rw [e]
      exact hc j hj
    · intro u hu
      obtain ⟨x, _, rfl⟩ := List.mem_map.1 hu
      simp [strV, Value.oneCell']
    · intro v' w' h1 h2 _
      rw [Nat.zero_add, List.nil_append] at h1
      exact h v' w' h1 ((Fr.refl _ _).grown h2 (by simp [Value.ownBlock]))

theorem row_next {w0 w5 w6 : World} {v1 v2 : Value} {Lt : List (List UInt8)} {tx : ByteArray} {S : List Nat} (h : w6.ownsRow w0.heap.size 9 1 v2 (Lt.length + 1) (Lt.map strV ++ [.string tx])) (hS : ∀ k, k ∈ S → k < w0.heap.size) : Row w6 S v2 (Lt ++ [tx.data.toList]) := by
  refine row_of_own (base := w0.heap.size) ?_ hS
  have e : (Lt ++ [tx.data.toList]).map strV = Lt.map strV ++ [.string tx] := by simp [strV, bs_of]
  rw [e]
  simpa using h

set_option maxRecDepth 100000 in
set_option maxHeartbeats 8000000 in
theorem walLasts_calls (v vc : Value) (S : List ActR) (cuts : List Int) (w : World) (hg : G w) (hsc : Script w v S) (hcu : IntRow w vc cuts) (hcl : cuts.length ≤ 9223372036854775807) (hks : ∀ x ∈ S, x.keep.length ≤ 9223372036854775807) :
    Calls Tryz.prog 6 #[v, vc] w fun e w' => e = .returned (.bool true) ∧ Fr [] w w' := by
  obtain ⟨i0, hi, hz0, hz1, hz2⟩ := info_parts Tryz.info9
  obtain ⟨ao, sc, rfl, hsl, hsc⟩ := hsc
  have hg0 : 0 < w.heap.size := World.block_lt_of_cell? w ⟨0, 0, none⟩ hg
  have HG := Lib.hid hg
  have HS := Lib.hid hsc
  have HKS := Lib.hid hks
  have HCU := Lib.hid hcu
  clear hg hsc hcu hks
  go_enter Tryz.func6, Tryz.ntmps6
  go_wp2_with fail
  refine (awake_calls _ HG.out).mono ?_
  rintro e w0 ⟨rfl, hf0⟩
  have HG0 := Lib.hid (HG.out.fr hf0 (by simp))
  have HF0 := Lib.hid hf0
  have hs0 := hf0.size
  clear HG hf0
  go_wp2_with fail
  refine (disk_new _).mono ?_
  rintro e w1 ⟨p, m, rfl, hp, hm, hd1, hb1⟩
  have hf1 : Fr [] w0 w1 := Fr.of_below hb1 []
  have HF1 := Lib.hid (HF0.out.trans hf1)
  have HD1 := Lib.hid hd1
  have hl1 := hd1.lt
  have HG1 := Lib.hid (HG0.out.fr hf1 (by simp))
  clear hd1 hb1 hf1 HG0 HF0
  go_wp2_with fail
  refine (open_told p m Dk.empty (0, []) [] 0 w1 HD1.out (by simp [Dk.empty]) HG1.out (by omega) (by omega) rfl rfl empty_snap empty_log Has.none (by simp [flat])).mono ?_
  rintro e w2 ⟨b, v0, L, rfl, hb, hL, hA, harm, hac, hrow, hf2⟩
  have HL := Lib.hid hL
  have HA := Lib.hid hA
  have HAR := Lib.hid harm
  have HF2 := Lib.hid (HF1.out.part hf2 (by simp; omega))
  have hac2 : L.dk.acts ≤ 4 := hac
  have hs2 := hf2.size
  clear hL hA harm hrow hf2 hac HF1 HD1 HG1
  go_wp2_with fail
  go_loopw [7, 11, 12, 13] (fun wv tv lv i wr => ∃ (k b : Nat) (L : Lg) (a : Ent) (E : List Ent) (q : Nat), wv = .pointer (some ⟨b, 0, none⟩) ∧ tv = .string (bs a.2) ∧ i = .int .i64 (k : Int) ∧ w.heap.size ≤ b ∧ Hid (Row wr [b, p, m] lv (textsL (keptF a.1 E))) ∧
      k ≤ S.length ∧ k ≤ 40 ∧ q ≤ k ∧ L.dk.acts ≤ 4 + 40 * k ∧ (flat E).length ≤ 312 * k ∧ Hid (LgIs wr b p m L) ∧ Hid (Alive L a E q) ∧ Hid (L.dk.armed = 0) ∧ Hid (Fr [] w wr))
    (fun _ _ _ i _ => 40 - (intOf i).toNat)
  case atStart => exact ⟨0, b, L, (0, []), [], 0, rfl, rfl, rfl, by omega, Lib.hid (Row.nil _ _), by omega, by omega, by omega, by omega, by simp [flat], HL, HA, HAR, HF2⟩
  case round =>
    clear HL HA HAR hac2 HF2
    obtain ⟨k, b, L, a, E, q, rfl, rfl, rfl, hbw, HR, hk, hk40, hq, hac, hfl, HL, HA, HAR, HF⟩ := hrel
    by_cases hlt : k < S.length ∧ k < 40
    · obtain ⟨hlt, hlt40⟩ := hlt
      obtain ⟨⟨hw1, hn1, ht⟩, g, o, rfl, hgl, c0, c1, c2, c3, hir⟩ := HS.out k hlt
      have hkl := HKS.out _ (List.getElem_mem hlt)
      obtain ⟨X, hX⟩ : ∃ X, X = S[k]'hlt := ⟨_, rfl⟩
      rw [← hX] at hw1 hn1 ht c0 c1 c2 c3 hir hkl
      clear hX
      obtain ⟨wh, nn, tx0, kv, keep⟩ := X
      dsimp only at hw1 hn1 ht c0 c1 c2 c3 hir hkl
      have hbr := HF.out.block g hgl (by simp)
      have d0 : wr.cell? ⟨g, o + k * 4, none⟩ = some (.int .i64 wh) := by rw [World.cell?_of_block hbr]; exact c0
      have d1 : wr.cell? ⟨g, o + k * 4 + 1, none⟩ = some (.int .i64 nn) := by rw [World.cell?_of_block hbr]; exact c1
      have d2 : wr.cell? ⟨g, o + k * 4 + 2, none⟩ = some (.string tx0) := by rw [World.cell?_of_block hbr]; exact c2
      have d3 : wr.cell? ⟨g, o + k * 4 + 3, none⟩ = some kv := by rw [World.cell?_of_block hbr]; exact c3
      obtain ⟨ak, ck, rfl⟩ : ∃ ak ck, kv = .slice ak keep.length ck := by obtain ⟨ak, ck, h, _⟩ := hir; exact ⟨ak, ck, h⟩
      have HIR := Lib.hid hir
      have hs0 := HF.out.size
      have hLb := blk_lt HL.out.wl.out
      have hLp := HL.out.dk.lt
      clear c0 c1 c2 c3 hbr hir
      go_wp2_with fail
      obtain ⟨tx, htx⟩ : ∃ tx, tx = tx0.extract 0 (min (↑tx0.size) 300 : Int).toNat := ⟨_, rfl⟩
      rw [← htx]
      have htl : tx.size ≤ 300 := by rw [htx, ByteArray.size_extract]; omega
      obtain ⟨w3, hw3⟩ : ∃ w3, w3 = wr.alloc (.cells #[.int .i64 wh, .int .i64 nn, .string tx0, .slice ak keep.length ck] 50) := ⟨_, rfl⟩
      rw [← hw3]
      have hf3 : Fr [] wr w3 := by rw [hw3]; exact (Fr.refl _ _).alloc _
      have hb3 : w3.heap[wr.heap.size]? = some (.cells #[.int .i64 wh, .int .i64 nn, .string tx0, .slice ak keep.length ck] 50 (0, 0)) := by rw [hw3]; exact heap_new _ _
      have hs3 : wr.heap.size < w3.heap.size := blk_lt hb3
      obtain ⟨xb, hxb⟩ : ∃ xb, xb = wr.heap.size := ⟨_, rfl⟩
      rw [← hxb] at hb3 hs3 hs0 hLb hLp ⊢
      have HB3 := Lib.hid hb3
      have HL3 := Lib.hid (lg_fr HL.out hf3 (by simp) (by simp) (by simp))
      have HR3 := Lib.hid (HR.out.fr hf3 (by simp))
      have HF3 := Lib.hid (HF.out.trans hf3)
      clear hxb hb3 htx hw3 d0 d1 d2 d3 hf3 HL HR HF ht
      refine (pick_calls wh 8 (by omega) (by omega) hw1.1 hw1.2 _).mono ?_
      rintro e w4 ⟨rfl, rfl⟩
      obtain ⟨pk, hpk⟩ : ∃ pk, pk = pickN wh 8 := ⟨_, rfl⟩
      rw [← hpk]
      clear hpk
      have HOK := Lib.hid (show Ent.ok (q, tx.data.toList) from ok_of (by omega) (by rw [len_toList]; omega))
      have HOK1 := Lib.hid (show Ent.ok (q + 1, tx.data.toList) from ok_of (by omega) (by rw [len_toList]; omega))
      have hfx : (fr (q + 1, tx.data.toList)).length ≤ 312 := by
        have := fr_le HOK1.out
        simp only [len_toList] at this
        omega
      have hkl2 := kept_len a.1 E
      obtain ⟨Lt, hLt⟩ : ∃ Lt, Lt = textsL (keptF a.1 E) := ⟨_, rfl⟩
      rw [← hLt] at hkl2 HR3
      have HLT := Lib.hid hLt
      clear hLt
      have e1 := blk_cell (v := .int .i64 nn) HB3.out (j := 1) rfl
      have e3 := blk_cell (v := .slice ak keep.length ck) HB3.out (j := 3) rfl
      by_cases hp6 : pk = 6
      · have h6 : ((pk : Int) == 6) = true := by simp; omega
        go_wp2_with fail
        refine (pick_calls nn 4 (by omega) (by omega) hn1.1 hn1.2 _).mono ?_
        rintro e w4b ⟨rfl, rfl⟩
        have hp4 := pickN_lt nn 4 (by omega)
        obtain ⟨pn, hpn⟩ : ∃ pn, pn = pickN nn 4 := ⟨_, rfl⟩
        rw [← hpn] at hp4 ⊢
        clear hpn
        go_wp2_with fail
        refine (arm_log b p m L _ _ HL3.out (by omega)).mono ?_
        rintro e WA ⟨⟨ca, rfl⟩, hLA, hfa⟩
        have haf := arm_f L.dk (1 + (pn : Int))
        have haa := HA.out.arm (1 + (pn : Int))
        obtain ⟨LA, hLAe⟩ : ∃ LA, LA = Lg.mk L.seq L.err (L.dk.arm (1 + (pn : Int))).2 := ⟨_, rfl⟩
        rw [← hLAe] at hLA haa
        have hdk : LA.dk = (L.dk.arm (1 + (pn : Int))).2 := by rw [hLAe]
        rw [← hdk] at haf
        have hacA : LA.dk.acts ≤ 4 + 40 * k := by rw [haf.2.2]; exact hac
        have HRA := Lib.hid (HR3.out.fr hfa (by simp))
        have HLA := Lib.hid hLA
        have HAA := Lib.hid haa
        have HFA := Lib.hid (HF3.out.part hfa (by simp; omega))
        have hsA := hfa.size
        have HBA := Lib.hid ((hfa.block xb hs3 (by simp; omega)).trans HB3.out)
        have hxA : xb < WA.heap.size := by omega
        clear HR3 HL3 HA HF3 HB3 e1 e3 hLA haa hfa hdk hLAe haf hac HAR
        have h5 : ((pk : Int) == 5) = false := by simp; omega
        have h7 : ((pk : Int) != 7) = true := by simp; omega
        by_cases hev : Int.tmod nn 2 = 0
        · as_aux_lemma =>
            have hz : ((Int.tmod nn 2 : Int) == 0) = true := by simpa using hev
            go_wp2_with (first
              | (at_builtin; refine wpList_append_row rfl (.const (.slice none 0 0)) (.tmp 82) rfl rfl rfl HRA.out (by omega) ?_; intro v1 w5 hown1 hfA)
              | (at_builtin; refine wpList_append_own _ rfl (.tmp 83) (.tmp 85) 26 rfl WA.heap.size 9 i0 (.string ⟨#[]⟩) 1 16 Tryz.underlying26 hi hz0 hz1 hz2 rfl (by decide) _ _ _ rfl (hown1.alloc _) ⟨w5.heap.size, 0, none⟩ 1 1 [.string tx] rfl rfl (cell_one_new _ _ _) (by simp [Value.oneCell']) (by unfold maxLen; omega) (by omega) (by have := hfA.size; simp; omega) ?_; intro v2 w6 hown2 hgr2 _; have hfB : Fr [] WA w6 := (hfA.alloc _).grown hgr2 (fun k hk => .inr (own_ge hown1 hk)); have e1 : w6.cell? ⟨xb, 1, none⟩ = some (.int .i64 nn) := blk_cell ((hfB.block xb hxA (by simp)).trans HBA.out) (j := 1) rfl))
            have HRN := Lib.hid (row_next (w5 := w5) (v1 := v1) (S := [b, p, m]) hown2 (by simp; omega))
            have HL6 := Lib.hid (lg_fr HLA.out hfB (by simp) (by simp) (by simp))
            have HR6 := Lib.hid (HRA.out.fr hfB (by simp))
            have HF6 := Lib.hid (HFA.out.trans hfB)
            have HB6 := Lib.hid ((hfB.block xb hxA (by simp)).trans HBA.out)
            have hs6 := hfB.size
            clear hown1 hown2 hgr2 hfA hfB e1 HRA HLA HFA HBA
            refine (check_cut b p m LA a E q tx _ HL6.out HAA.out HOK.out (by omega)).mono ?_
            rintro e w7 ⟨L7, hL7, hac7, hf7, hcase⟩
            have HL7 := Lib.hid hL7
            have HR7 := Lib.hid (HR6.out.fr hf7 (by simp))
            have HRN7 := Lib.hid (HRN.out.fr hf7 (by simp))
            have HF7 := Lib.hid (HF6.out.part hf7 (by simp; omega))
            have HB7 := Lib.hid ((hf7.block xb (blk_lt HB6.out) (by simp; omega)).trans HB6.out)
            have hs7 := hf7.size
            have hof := disk_off p m L7.dk w7 hL7.dk
            clear hL7 hf7 HL6 HR6 HRN HF6 HB6
            rcases hcase with hcase | hcase
            · obtain ⟨rfl, hA7⟩ := hcase
              have HA7 := Lib.hid hA7
              rw [hA7.off] at hof
              clear hA7
              go_wp2_with fail
              refine hof.mono ?_
              clear hof
              rintro e w8 ⟨rfl, rfl⟩
              go_wp2_with fail
              refine (arm_log b p m L7 0 _ HL7.out (by omega)).mono ?_
              rintro e w9 ⟨⟨cb, rfl⟩, hL9, hf9⟩
              have haf := arm_f L7.dk 0
              have ha0 := arm_0 L7.dk
              have haa := HA7.out.arm 0
              obtain ⟨L9, hL9e⟩ : ∃ L9, L9 = Lg.mk L7.seq L7.err (L7.dk.arm 0).2 := ⟨_, rfl⟩
              rw [← hL9e] at hL9 haa
              have hdk : L9.dk = (L7.dk.arm 0).2 := by rw [hL9e]
              rw [← hdk] at haf ha0
              have hac9 : L9.dk.acts ≤ 8 + 40 * k := by rw [haf.2.2]; omega
              have HL9 := Lib.hid hL9
              have HA9 := Lib.hid haa
              have HAR9 := Lib.hid ha0
              have HR9 := Lib.hid (HR7.out.fr hf9 (by simp))
              have HRN9 := Lib.hid (HRN7.out.fr hf9 (by simp))
              have HF9 := Lib.hid (HF7.out.part hf9 (by simp; omega))
              have HB9 := Lib.hid ((hf9.block xb (blk_lt HB7.out) (by simp; omega)).trans HB7.out)
              have hs9 := hf9.size
              clear hL9 haa ha0 haf hdk hL9e hf9 HL7 HA7 HR7 HRN7 HF7 HB7
              go_wp2_with fail
              case roundEnd =>
                exact ⟨⟨k + 1, b, L9, (q, tx.data.toList), [], q, rfl, by rw [show bs ((q, tx.data.toList) : Ent).2 = tx from bs_of tx], by go_num, by omega, Lib.hid (Row.nil _ _), by omega, by omega, by omega, by omega, by simp [flat], HL9, HA9, HAR9, HF9⟩, by simp [intOf]; omega⟩
            · obtain ⟨rfl, _, hoff, hsn7, hlg7⟩ := hcase
              have HSN7 := Lib.hid hsn7
              have HLG7 := Lib.hid hlg7
              clear hsn7 hlg7
              rw [hoff] at hof
              go_wp2_with fail
              refine hof.mono ?_
              clear hof hoff
              rintro e w8 ⟨rfl, rfl⟩
              go_wp2_with fail
              refine (arm_log b p m L7 0 _ HL7.out (by omega)).mono ?_
              rintro e w9 ⟨⟨cb, rfl⟩, hL9, hf9⟩
              have haf := arm_f L7.dk 0
              obtain ⟨L9, hL9e⟩ : ∃ L9, L9 = Lg.mk L7.seq L7.err (L7.dk.arm 0).2 := ⟨_, rfl⟩
              rw [← hL9e] at hL9
              have hdk : L9.dk = (L7.dk.arm 0).2 := by rw [hL9e]
              rw [← hdk] at haf
              have hac9 : L9.dk.acts ≤ 8 + 40 * k := by rw [haf.2.2]; omega
              have HSN := Lib.hid (HSN7.out.imp (fun h => SnapIs.same h (congrFun haf.1 _)) (fun h => SnapIs.same h (congrFun haf.1 _)))
              have HLG := Lib.hid (HLG7.out.same (congrFun haf.1 _))
              have HL9 := Lib.hid hL9
              have HR9 := Lib.hid (HR7.out.fr hf9 (by simp))
              have HRN9 := Lib.hid (HRN7.out.fr hf9 (by simp))
              have HF9 := Lib.hid (HF7.out.part hf9 (by simp; omega))
              have HB9 := Lib.hid ((hf9.block xb (blk_lt HB7.out) (by simp; omega)).trans HB7.out)
              have hs9 := hf9.size
              clear hL9 haf hdk hL9e hf9 HL7 HR7 HRN7 HF7 HB7 HSN7 HLG7
              have e3 := blk_cell (v := .slice ak keep.length ck) HB9.out (j := 3) rfl
              go_wp2_with fail
              clear e3
              refine (opens_calls p m L9.dk _ vc keep cuts _ HL9.out.dk (by omega) HL9.out.g HL9.out.p0 HL9.out.m0 (HIR.out.fr0 HF9.out) (HCU.out.fr0 HF9.out) hkl hcl (fun W hW => HIR.out.fr0 (HF9.out.part hW (by simp; omega))) (fun W hW => HCU.out.fr0 (HF9.out.part hW (by simp; omega)))).mono ?_
              rintro e w10 ⟨B, hB, ho, hd, hn, hf10⟩
              rcases HSN.out with hsn | hsn
              · have hT := opens_still keep a E q HAA.out.has (by omega) (cuts.take 4) L9.dk hsn HLG.out
                clear hsn
                obtain ⟨b9, v9, L10, rfl, hb9, hL10, hA10, har10, hac10, hrow10, hf10⟩ := told_of_opens (w := w9) HL9.out.dk.lt HL9.out.g HL9.out.p0 HL9.out.m0 hB ho hd hn hf10 hT
                have HL10 := Lib.hid hL10
                have HA10 := Lib.hid hA10
                have HAR10 := Lib.hid har10
                have HM10 := Lib.hid hrow10
                have hs10 := hf10.size
                have HR10 := Lib.hid (HR9.out.fr hf10 (by simp))
                have HRN10 := Lib.hid (HRN9.out.fr hf10 (by simp))
                have HF10 := Lib.hid (HF9.out.part hf10 (by simp; omega))
                have hacL : L10.dk.acts ≤ 4 + 40 * (k + 1) := by omega
                clear hL10 hA10 har10 hrow10 hf10 ho hd hn HL9 HR9 HRN9 HF9 HB9 hT
                have HTX := Lib.hid (show textsL (keptF (a : Ent).1 E) = Lt from HLT.out.symm)
                have HLE := Lib.hid (show (textsL (keptF (a : Ent).1 E)).length ≤ 1000000 by rw [HTX.out]; first | omega | (simp only [List.length_append, List.length_singleton, List.length_nil]; omega))
                rw [HTX.out] at HM10
                go_wp2_with fail
                refine (same_calls _ _ (Lt) (Lt) _ HM10.out.str HR10.out.str (by first | omega | (simp only [List.length_append, List.length_singleton, List.length_nil]; omega)) (by first | omega | (simp only [List.length_append, List.length_singleton, List.length_nil]; omega))).mono ?_
                rintro e wS1 ⟨rfl, hfS⟩
                rw [decide_eq_true rfl]
                have HL10 := Lib.hid (lg_fr HL10.out hfS (by simp) (by simp) (by simp))
                have HM10 := Lib.hid (HM10.out.fr hfS (by simp))
                have HR10 := Lib.hid (HR10.out.fr hfS (by simp))
                have HRN10 := Lib.hid (HRN10.out.fr hfS (by simp))
                have HF10 := Lib.hid (HF10.out.trans hfS)
                have hsS1 := hfS.size
                clear hfS
                by_cases heq : a.2 = tx.data.toList
                · obtain rfl : tx = bs a.2 := by rw [heq, bs_of]
                  clear heq
                  by_cases hL0 : Lt = []
                  · go_wp2_with fail
                    refine (same_calls _ _ (Lt) ([]) _ HM10.out.str (Row.nil _ [b9, p, m]).str (by first | omega | (simp only [List.length_append, List.length_singleton, List.length_nil]; omega)) (by first | omega | (simp only [List.length_append, List.length_singleton, List.length_nil]; omega))).mono ?_
                    rintro e wS2 ⟨rfl, hfS⟩
                    rw [decide_eq_true hL0]
                    have HL10 := Lib.hid (lg_fr HL10.out hfS (by simp) (by simp) (by simp))
                    have HM10 := Lib.hid (HM10.out.fr hfS (by simp))
                    have HR10 := Lib.hid (HR10.out.fr hfS (by simp))
                    have HRN10 := Lib.hid (HRN10.out.fr hfS (by simp))
                    have HF10 := Lib.hid (HF10.out.trans hfS)
                    have hsS2 := hfS.size
                    clear hfS
                    have HRZ := Lib.hid (show Row wS2 [b9, p, m] (.slice none 0 0) Lt by rw [hL0]; exact Row.nil _ _)
                    clear hL0
                    go_wp2_with fail
                    refine (open_again b9 p m L10 a E (q) _ HL10.out HA10.out (by omega)).mono ?_
                    rintro e w12 ⟨b11, v11, rfl, hb11, hL12, hL12b, hr12, _, hf12⟩
                    have HL12 := Lib.hid hL12
                    have HL12b := Lib.hid hL12b
                    have HR12 := Lib.hid hr12
                    have HM12 := Lib.hid ((HM10.out.to (T := [p, m]) (by simp)).fr hf12 (by simp))
                    have HRR := Lib.hid (((HRZ.out).to (T := [b11, p, m]) (by simp; omega)).fr hf12 (by simp))
                    have HF12 := Lib.hid (HF10.out.part hf12 (by simp; omega))
                    have hs12 := hf12.size
                    clear hL12 hL12b hr12 hf12 HL10 HM10 HR10 HRN10 HF10
                    rw [HTX.out] at HR12
                    go_wp2_with fail
                    refine (same_calls _ _ _ _ _ HR12.out HM12.out.str (by rw [HTX.out.symm]; exact HLE.out) (by rw [HTX.out.symm]; exact HLE.out)).mono ?_
                    rintro e w13 ⟨rfl, hf13⟩
                    rw [decide_eq_true rfl]
                    have HL13 := Lib.hid (lg_fr HL12.out hf13 (by simp) (by simp) (by simp))
                    have HL13b := Lib.hid (lg_fr HL12b.out hf13 (by simp) (by simp) (by simp))
                    have HRR13 := Lib.hid (HRR.out.fr hf13 (by simp))
                    have HF13 := Lib.hid (HF12.out.trans hf13)
                    clear hf13 HL12 HL12b HRR HF12 HR12 HM12
                    go_wp2_with fail
                    refine (seq_calls b11 p _ _ _ HL13.out.wl).mono ?_
                    rintro e w14 ⟨rfl, rfl⟩
                    go_wp2_with fail
                    refine (seq_calls b9 p _ _ _ HL13b.out.wl).mono ?_
                    rintro e w15 ⟨rfl, rfl⟩
                    go_wp2_with fail
                    case roundEnd =>
                      exact ⟨⟨k + 1, b11, L10, a, E, q, rfl, rfl, by go_num, by omega, Lib.hid (by first | exact HRR13.out | (rw [HTX.out]; exact HRR13.out)), by omega, by omega, by omega, by omega, by omega, HL13, HA10, HAR10, HF13⟩, by simp [intOf]; omega⟩
                  · go_wp2_with fail
                    refine (same_calls _ _ (Lt) ([]) _ HM10.out.str (Row.nil _ [b9, p, m]).str (by first | omega | (simp only [List.length_append, List.length_singleton, List.length_nil]; omega)) (by first | omega | (simp only [List.length_append, List.length_singleton, List.length_nil]; omega))).mono ?_
                    rintro e wS2 ⟨rfl, hfS⟩
                    rw [decide_eq_false hL0]
                    clear hL0
                    have HL10 := Lib.hid (lg_fr HL10.out hfS (by simp) (by simp) (by simp))
                    have HM10 := Lib.hid (HM10.out.fr hfS (by simp))
                    have HR10 := Lib.hid (HR10.out.fr hfS (by simp))
                    have HRN10 := Lib.hid (HRN10.out.fr hfS (by simp))
                    have HF10 := Lib.hid (HF10.out.trans hfS)
                    have hsS2 := hfS.size
                    clear hfS
                    go_wp2_with fail
                    refine (open_again b9 p m L10 a E (q) _ HL10.out HA10.out (by omega)).mono ?_
                    rintro e w12 ⟨b11, v11, rfl, hb11, hL12, hL12b, hr12, _, hf12⟩
                    have HL12 := Lib.hid hL12
                    have HL12b := Lib.hid hL12b
                    have HR12 := Lib.hid hr12
                    have HM12 := Lib.hid ((HM10.out.to (T := [p, m]) (by simp)).fr hf12 (by simp))
                    have HRR := Lib.hid (((HR10.out).to (T := [b11, p, m]) (by simp; omega)).fr hf12 (by simp))
                    have HF12 := Lib.hid (HF10.out.part hf12 (by simp; omega))
                    have hs12 := hf12.size
                    clear hL12 hL12b hr12 hf12 HL10 HM10 HR10 HRN10 HF10
                    rw [HTX.out] at HR12
                    go_wp2_with fail
                    refine (same_calls _ _ _ _ _ HR12.out HM12.out.str (by rw [HTX.out.symm]; exact HLE.out) (by rw [HTX.out.symm]; exact HLE.out)).mono ?_
                    rintro e w13 ⟨rfl, hf13⟩
                    rw [decide_eq_true rfl]
                    have HL13 := Lib.hid (lg_fr HL12.out hf13 (by simp) (by simp) (by simp))
                    have HL13b := Lib.hid (lg_fr HL12b.out hf13 (by simp) (by simp) (by simp))
                    have HRR13 := Lib.hid (HRR.out.fr hf13 (by simp))
                    have HF13 := Lib.hid (HF12.out.trans hf13)
                    clear hf13 HL12 HL12b HRR HF12 HR12 HM12
                    go_wp2_with fail
                    refine (seq_calls b11 p _ _ _ HL13.out.wl).mono ?_
                    rintro e w14 ⟨rfl, rfl⟩
                    go_wp2_with fail
                    refine (seq_calls b9 p _ _ _ HL13b.out.wl).mono ?_
                    rintro e w15 ⟨rfl, rfl⟩
                    go_wp2_with fail
                    case roundEnd =>
                      exact ⟨⟨k + 1, b11, L10, a, E, q, rfl, rfl, by go_num, by omega, Lib.hid (by first | exact HRR13.out | (rw [HTX.out]; exact HRR13.out)), by omega, by omega, by omega, by omega, by omega, HL13, HA10, HAR10, HF13⟩, by simp [intOf]; omega⟩
                · have hcmp : ((bs a.2).toList == tx.toList) = false := by
                    rw [toList_data, toList_data, bs_toList]; simpa using heq
                  clear heq
                  go_wp2_with fail
                  refine (open_again b9 p m L10 a E (q) _ HL10.out HA10.out (by omega)).mono ?_
                  rintro e w12 ⟨b11, v11, rfl, hb11, hL12, hL12b, hr12, _, hf12⟩
                  have HL12 := Lib.hid hL12
                  have HL12b := Lib.hid hL12b
                  have HR12 := Lib.hid hr12
                  have HM12 := Lib.hid ((HM10.out.to (T := [p, m]) (by simp)).fr hf12 (by simp))
                  have HRR := Lib.hid (((HR10.out).to (T := [b11, p, m]) (by simp; omega)).fr hf12 (by simp))
                  have HF12 := Lib.hid (HF10.out.part hf12 (by simp; omega))
                  have hs12 := hf12.size
                  clear hL12 hL12b hr12 hf12 HL10 HM10 HR10 HRN10 HF10
                  rw [HTX.out] at HR12
                  go_wp2_with fail
                  refine (same_calls _ _ _ _ _ HR12.out HM12.out.str (by rw [HTX.out.symm]; exact HLE.out) (by rw [HTX.out.symm]; exact HLE.out)).mono ?_
                  rintro e w13 ⟨rfl, hf13⟩
                  rw [decide_eq_true rfl]
                  have HL13 := Lib.hid (lg_fr HL12.out hf13 (by simp) (by simp) (by simp))
                  have HL13b := Lib.hid (lg_fr HL12b.out hf13 (by simp) (by simp) (by simp))
                  have HRR13 := Lib.hid (HRR.out.fr hf13 (by simp))
                  have HF13 := Lib.hid (HF12.out.trans hf13)
                  clear hf13 HL12 HL12b HRR HF12 HR12 HM12
                  go_wp2_with fail
                  refine (seq_calls b11 p _ _ _ HL13.out.wl).mono ?_
                  rintro e w14 ⟨rfl, rfl⟩
                  go_wp2_with fail
                  refine (seq_calls b9 p _ _ _ HL13b.out.wl).mono ?_
                  rintro e w15 ⟨rfl, rfl⟩
                  go_wp2_with fail
                  case roundEnd =>
                    exact ⟨⟨k + 1, b11, L10, a, E, q, rfl, rfl, by go_num, by omega, Lib.hid (by first | exact HRR13.out | (rw [HTX.out]; exact HRR13.out)), by omega, by omega, by omega, by omega, by omega, HL13, HA10, HAR10, HF13⟩, by simp [intOf]; omega⟩
              · have hT := opens_still keep (q, tx.data.toList) E q (HAA.out.has.check HOK.out rfl).1 (by omega) (cuts.take 4) L9.dk hsn HLG.out
                clear hsn
                obtain ⟨b9, v9, L10, rfl, hb9, hL10, hA10, har10, hac10, hrow10, hf10⟩ := told_of_opens (w := w9) HL9.out.dk.lt HL9.out.g HL9.out.p0 HL9.out.m0 hB ho hd hn hf10 hT
                have HL10 := Lib.hid hL10
                have HA10 := Lib.hid hA10
                have HAR10 := Lib.hid har10
                have HM10 := Lib.hid hrow10
                have hs10 := hf10.size
                have HR10 := Lib.hid (HR9.out.fr hf10 (by simp))
                have HRN10 := Lib.hid (HRN9.out.fr hf10 (by simp))
                have HF10 := Lib.hid (HF9.out.part hf10 (by simp; omega))
                have hacL : L10.dk.acts ≤ 4 + 40 * (k + 1) := by omega
                clear hL10 hA10 har10 hrow10 hf10 ho hd hn HL9 HR9 HRN9 HF9 HB9 hT
                have HTX := Lib.hid (show textsL (keptF ((q, tx.data.toList) : Ent).1 E) = ([] : List (List UInt8)) from by rw [(HAA.out.has.check HOK.out rfl).1.kept_end rfl]; rfl)
                have HLE := Lib.hid (show (textsL (keptF ((q, tx.data.toList) : Ent).1 E)).length ≤ 1000000 by rw [HTX.out]; first | omega | (simp only [List.length_append, List.length_singleton, List.length_nil]; omega))
                rw [HTX.out] at HM10
                rw [show bs ((q, tx.data.toList) : Ent).2 = tx from bs_of tx]
                by_cases heq : a.2 = tx.data.toList
                · have hcmp : (tx.toList == (bs a.2).toList) = true := by
                    rw [toList_data, toList_data, bs_toList]; simpa using heq.symm
                  clear heq
                  by_cases hL0 : [] = Lt
                  · go_wp2_with fail
                    refine (same_calls _ _ ([]) (Lt) _ HM10.out.str HR10.out.str (by first | omega | (simp only [List.length_append, List.length_singleton, List.length_nil]; omega)) (by first | omega | (simp only [List.length_append, List.length_singleton, List.length_nil]; omega))).mono ?_
                    rintro e wS1 ⟨rfl, hfS⟩
                    rw [decide_eq_true hL0]
                    have HL10 := Lib.hid (lg_fr HL10.out hfS (by simp) (by simp) (by simp))
                    have HM10 := Lib.hid (HM10.out.fr hfS (by simp))
                    have HR10 := Lib.hid (HR10.out.fr hfS (by simp))
                    have HRN10 := Lib.hid (HRN10.out.fr hfS (by simp))
                    have HF10 := Lib.hid (HF10.out.trans hfS)
                    have hsS1 := hfS.size
                    clear hfS
                    go_wp2_with fail
                    refine (same_calls _ _ ([]) ([]) _ HM10.out.str (Row.nil _ [b9, p, m]).str (by first | omega | (simp only [List.length_append, List.length_singleton, List.length_nil]; omega)) (by first | omega | (simp only [List.length_append, List.length_singleton, List.length_nil]; omega))).mono ?_
                    rintro e wS2 ⟨rfl, hfS⟩
                    rw [decide_eq_true rfl]
                    have HL10 := Lib.hid (lg_fr HL10.out hfS (by simp) (by simp) (by simp))
                    have HM10 := Lib.hid (HM10.out.fr hfS (by simp))
                    have HR10 := Lib.hid (HR10.out.fr hfS (by simp))
                    have HRN10 := Lib.hid (HRN10.out.fr hfS (by simp))
                    have HF10 := Lib.hid (HF10.out.trans hfS)
                    have hsS2 := hfS.size
                    clear hfS
                    go_wp2_with fail
                    refine (open_again b9 p m L10 (q, tx.data.toList) E (q) _ HL10.out HA10.out (by omega)).mono ?_
                    rintro e w12 ⟨b11, v11, rfl, hb11, hL12, hL12b, hr12, _, hf12⟩
                    have HL12 := Lib.hid hL12
                    have HL12b := Lib.hid hL12b
                    have HR12 := Lib.hid hr12
                    have HM12 := Lib.hid ((HM10.out.to (T := [p, m]) (by simp)).fr hf12 (by simp))
                    have HRR := Lib.hid ((((Row.nil _ [b9, p, m])).to (T := [b11, p, m]) (by simp; omega)).fr hf12 (by simp))
                    have HF12 := Lib.hid (HF10.out.part hf12 (by simp; omega))
                    have hs12 := hf12.size
                    clear hL12 hL12b hr12 hf12 HL10 HM10 HR10 HRN10 HF10
                    rw [HTX.out] at HR12
                    go_wp2_with fail
                    refine (same_calls _ _ _ _ _ HR12.out HM12.out.str (by rw [HTX.out.symm]; exact HLE.out) (by rw [HTX.out.symm]; exact HLE.out)).mono ?_
                    rintro e w13 ⟨rfl, hf13⟩
                    rw [decide_eq_true rfl]
                    have HL13 := Lib.hid (lg_fr HL12.out hf13 (by simp) (by simp) (by simp))
                    have HL13b := Lib.hid (lg_fr HL12b.out hf13 (by simp) (by simp) (by simp))
                    have HRR13 := Lib.hid (HRR.out.fr hf13 (by simp))
                    have HF13 := Lib.hid (HF12.out.trans hf13)
                    clear hf13 HL12 HL12b HRR HF12 HR12 HM12
                    go_wp2_with fail
                    refine (seq_calls b11 p _ _ _ HL13.out.wl).mono ?_
                    rintro e w14 ⟨rfl, rfl⟩
                    go_wp2_with fail
                    refine (seq_calls b9 p _ _ _ HL13b.out.wl).mono ?_
                    rintro e w15 ⟨rfl, rfl⟩
                    go_wp2_with fail
                    case roundEnd =>
                      exact ⟨⟨k + 1, b11, L10, (q, tx.data.toList), E, q, rfl, by rw [show bs ((q, tx.data.toList) : Ent).2 = tx from bs_of tx], by go_num, by omega, Lib.hid (by first | exact HRR13.out | (rw [HTX.out]; exact HRR13.out)), by omega, by omega, by omega, by omega, by omega, HL13, HA10, HAR10, HF13⟩, by simp [intOf]; omega⟩
                  · go_wp2_with fail
                    refine (same_calls _ _ ([]) (Lt) _ HM10.out.str HR10.out.str (by first | omega | (simp only [List.length_append, List.length_singleton, List.length_nil]; omega)) (by first | omega | (simp only [List.length_append, List.length_singleton, List.length_nil]; omega))).mono ?_
                    rintro e wS1 ⟨rfl, hfS⟩
                    rw [decide_eq_false hL0]
                    have HL10 := Lib.hid (lg_fr HL10.out hfS (by simp) (by simp) (by simp))
                    have HM10 := Lib.hid (HM10.out.fr hfS (by simp))
                    have HR10 := Lib.hid (HR10.out.fr hfS (by simp))
                    have HRN10 := Lib.hid (HRN10.out.fr hfS (by simp))
                    have HF10 := Lib.hid (HF10.out.trans hfS)
                    have hsS1 := hfS.size
                    clear hfS
                    go_wp2_with fail
                    refine (same_calls _ _ ([]) ([]) _ HM10.out.str (Row.nil _ [b9, p, m]).str (by first | omega | (simp only [List.length_append, List.length_singleton, List.length_nil]; omega)) (by first | omega | (simp only [List.length_append, List.length_singleton, List.length_nil]; omega))).mono ?_
                    rintro e wS2 ⟨rfl, hfS⟩
                    rw [decide_eq_true rfl]
                    have HL10 := Lib.hid (lg_fr HL10.out hfS (by simp) (by simp) (by simp))
                    have HM10 := Lib.hid (HM10.out.fr hfS (by simp))
                    have HR10 := Lib.hid (HR10.out.fr hfS (by simp))
                    have HRN10 := Lib.hid (HRN10.out.fr hfS (by simp))
                    have HF10 := Lib.hid (HF10.out.trans hfS)
                    have hsS2 := hfS.size
                    clear hfS
                    go_wp2_with fail
                    refine (open_again b9 p m L10 (q, tx.data.toList) E (q) _ HL10.out HA10.out (by omega)).mono ?_
                    rintro e w12 ⟨b11, v11, rfl, hb11, hL12, hL12b, hr12, _, hf12⟩
                    have HL12 := Lib.hid hL12
                    have HL12b := Lib.hid hL12b
                    have HR12 := Lib.hid hr12
                    have HM12 := Lib.hid ((HM10.out.to (T := [p, m]) (by simp)).fr hf12 (by simp))
                    have HRR := Lib.hid ((((Row.nil _ [b9, p, m])).to (T := [b11, p, m]) (by simp; omega)).fr hf12 (by simp))
                    have HF12 := Lib.hid (HF10.out.part hf12 (by simp; omega))
                    have hs12 := hf12.size
                    clear hL12 hL12b hr12 hf12 HL10 HM10 HR10 HRN10 HF10
                    rw [HTX.out] at HR12
                    go_wp2_with fail
                    refine (same_calls _ _ _ _ _ HR12.out HM12.out.str (by rw [HTX.out.symm]; exact HLE.out) (by rw [HTX.out.symm]; exact HLE.out)).mono ?_
                    rintro e w13 ⟨rfl, hf13⟩
                    rw [decide_eq_true rfl]
                    have HL13 := Lib.hid (lg_fr HL12.out hf13 (by simp) (by simp) (by simp))
                    have HL13b := Lib.hid (lg_fr HL12b.out hf13 (by simp) (by simp) (by simp))
                    have HRR13 := Lib.hid (HRR.out.fr hf13 (by simp))
                    have HF13 := Lib.hid (HF12.out.trans hf13)
                    clear hf13 HL12 HL12b HRR HF12 HR12 HM12
                    go_wp2_with fail
                    refine (seq_calls b11 p _ _ _ HL13.out.wl).mono ?_
                    rintro e w14 ⟨rfl, rfl⟩
                    go_wp2_with fail
                    refine (seq_calls b9 p _ _ _ HL13b.out.wl).mono ?_
                    rintro e w15 ⟨rfl, rfl⟩
                    go_wp2_with fail
                    case roundEnd =>
                      exact ⟨⟨k + 1, b11, L10, (q, tx.data.toList), E, q, rfl, by rw [show bs ((q, tx.data.toList) : Ent).2 = tx from bs_of tx], by go_num, by omega, Lib.hid (by first | exact HRR13.out | (rw [HTX.out]; exact HRR13.out)), by omega, by omega, by omega, by omega, by omega, HL13, HA10, HAR10, HF13⟩, by simp [intOf]; omega⟩
                · have hcmp : (tx.toList == (bs a.2).toList) = false := by
                    rw [toList_data, toList_data, bs_toList]; simpa using fun h => heq h.symm
                  clear heq
                  go_wp2_with fail
                  refine (same_calls _ _ ([]) ([]) _ HM10.out.str (Row.nil _ [b9, p, m]).str (by first | omega | (simp only [List.length_append, List.length_singleton, List.length_nil]; omega)) (by first | omega | (simp only [List.length_append, List.length_singleton, List.length_nil]; omega))).mono ?_
                  rintro e wS2 ⟨rfl, hfS⟩
                  rw [decide_eq_true rfl]
                  have HL10 := Lib.hid (lg_fr HL10.out hfS (by simp) (by simp) (by simp))
                  have HM10 := Lib.hid (HM10.out.fr hfS (by simp))
                  have HR10 := Lib.hid (HR10.out.fr hfS (by simp))
                  have HRN10 := Lib.hid (HRN10.out.fr hfS (by simp))
                  have HF10 := Lib.hid (HF10.out.trans hfS)
                  have hsS2 := hfS.size
                  clear hfS
                  go_wp2_with fail
                  refine (open_again b9 p m L10 (q, tx.data.toList) E (q) _ HL10.out HA10.out (by omega)).mono ?_
                  rintro e w12 ⟨b11, v11, rfl, hb11, hL12, hL12b, hr12, _, hf12⟩
                  have HL12 := Lib.hid hL12
                  have HL12b := Lib.hid hL12b
                  have HR12 := Lib.hid hr12
                  have HM12 := Lib.hid ((HM10.out.to (T := [p, m]) (by simp)).fr hf12 (by simp))
                  have HRR := Lib.hid ((((Row.nil _ [b9, p, m])).to (T := [b11, p, m]) (by simp; omega)).fr hf12 (by simp))
                  have HF12 := Lib.hid (HF10.out.part hf12 (by simp; omega))
                  have hs12 := hf12.size
                  clear hL12 hL12b hr12 hf12 HL10 HM10 HR10 HRN10 HF10
                  rw [HTX.out] at HR12
                  go_wp2_with fail
                  refine (same_calls _ _ _ _ _ HR12.out HM12.out.str (by rw [HTX.out.symm]; exact HLE.out) (by rw [HTX.out.symm]; exact HLE.out)).mono ?_
                  rintro e w13 ⟨rfl, hf13⟩
                  rw [decide_eq_true rfl]
                  have HL13 := Lib.hid (lg_fr HL12.out hf13 (by simp) (by simp) (by simp))
                  have HL13b := Lib.hid (lg_fr HL12b.out hf13 (by simp) (by simp) (by simp))
                  have HRR13 := Lib.hid (HRR.out.fr hf13 (by simp))
                  have HF13 := Lib.hid (HF12.out.trans hf13)
                  clear hf13 HL12 HL12b HRR HF12 HR12 HM12
                  go_wp2_with fail
                  refine (seq_calls b11 p _ _ _ HL13.out.wl).mono ?_
                  rintro e w14 ⟨rfl, rfl⟩
                  go_wp2_with fail
                  refine (seq_calls b9 p _ _ _ HL13b.out.wl).mono ?_
                  rintro e w15 ⟨rfl, rfl⟩
                  go_wp2_with fail
                  case roundEnd =>
                    exact ⟨⟨k + 1, b11, L10, (q, tx.data.toList), E, q, rfl, by rw [show bs ((q, tx.data.toList) : Ent).2 = tx from bs_of tx], by go_num, by omega, Lib.hid (by first | exact HRR13.out | (rw [HTX.out]; exact HRR13.out)), by omega, by omega, by omega, by omega, by omega, HL13, HA10, HAR10, HF13⟩, by simp [intOf]; omega⟩
        · as_aux_lemma =>
            have hz : ((Int.tmod nn 2 : Int) == 0) = false := by simpa using hev
            go_wp2_with (first
              | (at_builtin; refine wpList_append_row rfl (.const (.slice none 0 0)) (.tmp 82) rfl rfl rfl HRA.out (by omega) ?_; intro v1 w5 hown1 hfA)
              | (at_builtin; refine wpList_append_own _ rfl (.tmp 83) (.tmp 85) 26 rfl WA.heap.size 9 i0 (.string ⟨#[]⟩) 1 16 Tryz.underlying26 hi hz0 hz1 hz2 rfl (by decide) _ _ _ rfl (hown1.alloc _) ⟨w5.heap.size, 0, none⟩ 1 1 [.string tx] rfl rfl (cell_one_new _ _ _) (by simp [Value.oneCell']) (by unfold maxLen; omega) (by omega) (by have := hfA.size; simp; omega) ?_; intro v2 w6 hown2 hgr2 _; have hfB : Fr [] WA w6 := (hfA.alloc _).grown hgr2 (fun k hk => .inr (own_ge hown1 hk)); have e1 : w6.cell? ⟨xb, 1, none⟩ = some (.int .i64 nn) := blk_cell ((hfB.block xb hxA (by simp)).trans HBA.out) (j := 1) rfl))
            have HRN := Lib.hid (row_next (w5 := w5) (v1 := v1) (S := [b, p, m]) hown2 (by simp; omega))
            have HL6 := Lib.hid (lg_fr HLA.out hfB (by simp) (by simp) (by simp))
            have HR6 := Lib.hid (HRA.out.fr hfB (by simp))
            have HF6 := Lib.hid (HFA.out.trans hfB)
            have HB6 := Lib.hid ((hfB.block xb hxA (by simp)).trans HBA.out)
            have hs6 := hfB.size
            clear hown1 hown2 hgr2 hfA hfB e1 HRA HLA HFA HBA
            refine (append_cut b p m LA a E q tx _ HL6.out HAA.out HOK1.out (by omega) (by omega)).mono ?_
            rintro e w7 ⟨L7, hL7, hac7, hf7, hcase⟩
            have HL7 := Lib.hid hL7
            have HR7 := Lib.hid (HR6.out.fr hf7 (by simp))
            have HRN7 := Lib.hid (HRN.out.fr hf7 (by simp))
            have HF7 := Lib.hid (HF6.out.part hf7 (by simp; omega))
            have HB7 := Lib.hid ((hf7.block xb (blk_lt HB6.out) (by simp; omega)).trans HB6.out)
            have hs7 := hf7.size
            have hof := disk_off p m L7.dk w7 hL7.dk
            clear hL7 hf7 HL6 HR6 HRN HF6 HB6
            rcases hcase with hcase | hcase
            · obtain ⟨rfl, hA7⟩ := hcase
              have HA7 := Lib.hid hA7
              rw [hA7.off] at hof
              clear hA7
              go_wp2_with fail
              refine hof.mono ?_
              clear hof
              rintro e w8 ⟨rfl, rfl⟩
              go_wp2_with fail
              refine (arm_log b p m L7 0 _ HL7.out (by omega)).mono ?_
              rintro e w9 ⟨⟨cb, rfl⟩, hL9, hf9⟩
              have haf := arm_f L7.dk 0
              have ha0 := arm_0 L7.dk
              have haa := HA7.out.arm 0
              obtain ⟨L9, hL9e⟩ : ∃ L9, L9 = Lg.mk L7.seq L7.err (L7.dk.arm 0).2 := ⟨_, rfl⟩
              rw [← hL9e] at hL9 haa
              have hdk : L9.dk = (L7.dk.arm 0).2 := by rw [hL9e]
              rw [← hdk] at haf ha0
              have hac9 : L9.dk.acts ≤ 8 + 40 * k := by rw [haf.2.2]; omega
              have HL9 := Lib.hid hL9
              have HA9 := Lib.hid haa
              have HAR9 := Lib.hid ha0
              have HR9 := Lib.hid (HR7.out.fr hf9 (by simp))
              have HRN9 := Lib.hid (HRN7.out.fr hf9 (by simp))
              have HF9 := Lib.hid (HF7.out.part hf9 (by simp; omega))
              have HB9 := Lib.hid ((hf9.block xb (blk_lt HB7.out) (by simp; omega)).trans HB7.out)
              have hs9 := hf9.size
              clear hL9 haa ha0 haf hdk hL9e hf9 HL7 HA7 HR7 HRN7 HF7 HB7
              go_wp2_with fail
              case roundEnd =>
                exact ⟨⟨k + 1, b, L9, a, (E ++ [(q + 1, tx.data.toList)]), q + 1, rfl, rfl, by go_num, by omega, Lib.hid (by rw [show textsL (keptF a.1 (E ++ [(q + 1, tx.data.toList)])) = Lt ++ [tx.data.toList] from by rw [HAA.out.has.kept_next rfl, HLT.out]; simp [textsL]]; exact HRN9.out), by omega, by omega, by omega, by omega, by rw [flat_append, flat_one, List.length_append]; omega, HL9, HA9, HAR9, HF9⟩, by simp [intOf]; omega⟩
            · obtain ⟨rfl, _, hoff, hsn7, j7, hj7, hlg7⟩ := hcase
              have HSN7 := Lib.hid hsn7
              have HLG7 := Lib.hid hlg7
              clear hsn7 hlg7
              rw [hoff] at hof
              go_wp2_with fail
              refine hof.mono ?_
              clear hof hoff
              rintro e w8 ⟨rfl, rfl⟩
              go_wp2_with fail
              refine (arm_log b p m L7 0 _ HL7.out (by omega)).mono ?_
              rintro e w9 ⟨⟨cb, rfl⟩, hL9, hf9⟩
              have haf := arm_f L7.dk 0
              obtain ⟨L9, hL9e⟩ : ∃ L9, L9 = Lg.mk L7.seq L7.err (L7.dk.arm 0).2 := ⟨_, rfl⟩
              rw [← hL9e] at hL9
              have hdk : L9.dk = (L7.dk.arm 0).2 := by rw [hL9e]
              rw [← hdk] at haf
              have hac9 : L9.dk.acts ≤ 8 + 40 * k := by rw [haf.2.2]; omega
              have HSN := Lib.hid (HSN7.out.same (congrFun haf.1 _))
              have HLG := Lib.hid (HLG7.out.same (congrFun haf.1 _))
              have HL9 := Lib.hid hL9
              have HR9 := Lib.hid (HR7.out.fr hf9 (by simp))
              have HRN9 := Lib.hid (HRN7.out.fr hf9 (by simp))
              have HF9 := Lib.hid (HF7.out.part hf9 (by simp; omega))
              have HB9 := Lib.hid ((hf9.block xb (blk_lt HB7.out) (by simp; omega)).trans HB7.out)
              have hs9 := hf9.size
              clear hL9 haf hdk hL9e hf9 HL7 HR7 HRN7 HF7 HB7 HSN7 HLG7
              have e3 := blk_cell (v := .slice ak keep.length ck) HB9.out (j := 3) rfl
              go_wp2_with fail
              clear e3
              refine (opens_calls p m L9.dk _ vc keep cuts _ HL9.out.dk (by omega) HL9.out.g HL9.out.p0 HL9.out.m0 (HIR.out.fr0 HF9.out) (HCU.out.fr0 HF9.out) hkl hcl (fun W hW => HIR.out.fr0 (HF9.out.part hW (by simp; omega))) (fun W hW => HCU.out.fr0 (HF9.out.part hW (by simp; omega)))).mono ?_
              rintro e w10 ⟨B, hB, ho, hd, hn, hf10⟩
              rcases opens_torn keep a E q (q + 1, tx.data.toList) HOK1.out rfl HAA.out.has (by omega) (cuts.take 4) L9.dk j7 HSN.out HLG.out hj7 with hT | hT
              · obtain ⟨b9, v9, L10, rfl, hb9, hL10, hA10, har10, hac10, hrow10, hf10⟩ := told_of_opens (w := w9) HL9.out.dk.lt HL9.out.g HL9.out.p0 HL9.out.m0 hB ho hd hn hf10 hT
                have HL10 := Lib.hid hL10
                have HA10 := Lib.hid hA10
                have HAR10 := Lib.hid har10
                have HM10 := Lib.hid hrow10
                have hs10 := hf10.size
                have HR10 := Lib.hid (HR9.out.fr hf10 (by simp))
                have HRN10 := Lib.hid (HRN9.out.fr hf10 (by simp))
                have HF10 := Lib.hid (HF9.out.part hf10 (by simp; omega))
                have hacL : L10.dk.acts ≤ 4 + 40 * (k + 1) := by omega
                clear hL10 hA10 har10 hrow10 hf10 ho hd hn HL9 HR9 HRN9 HF9 HB9 hT
                have HTX := Lib.hid (show textsL (keptF (a : Ent).1 E) = Lt from HLT.out.symm)
                have HLE := Lib.hid (show (textsL (keptF (a : Ent).1 E)).length ≤ 1000000 by rw [HTX.out]; first | omega | (simp only [List.length_append, List.length_singleton, List.length_nil]; omega))
                rw [HTX.out] at HM10
                go_wp2_with fail
                refine (same_calls _ _ (Lt) (Lt) _ HM10.out.str HR10.out.str (by first | omega | (simp only [List.length_append, List.length_singleton, List.length_nil]; omega)) (by first | omega | (simp only [List.length_append, List.length_singleton, List.length_nil]; omega))).mono ?_
                rintro e wS1 ⟨rfl, hfS⟩
                rw [decide_eq_true rfl]
                have HL10 := Lib.hid (lg_fr HL10.out hfS (by simp) (by simp) (by simp))
                have HM10 := Lib.hid (HM10.out.fr hfS (by simp))
                have HR10 := Lib.hid (HR10.out.fr hfS (by simp))
                have HRN10 := Lib.hid (HRN10.out.fr hfS (by simp))
                have HF10 := Lib.hid (HF10.out.trans hfS)
                have hsS1 := hfS.size
                clear hfS
                have hne : ¬ (Lt) = (Lt ++ [tx.data.toList]) := by
                  intro h
                  have := congrArg List.length h
                  simp at this
                go_wp2_with fail
                refine (same_calls _ _ (Lt) (Lt ++ [tx.data.toList]) _ HM10.out.str HRN10.out.str (by first | omega | (simp only [List.length_append, List.length_singleton, List.length_nil]; omega)) (by first | omega | (simp only [List.length_append, List.length_singleton, List.length_nil]; omega))).mono ?_
                rintro e wS2 ⟨rfl, hfS⟩
                rw [decide_eq_false hne]
                clear hne
                have HL10 := Lib.hid (lg_fr HL10.out hfS (by simp) (by simp) (by simp))
                have HM10 := Lib.hid (HM10.out.fr hfS (by simp))
                have HR10 := Lib.hid (HR10.out.fr hfS (by simp))
                have HRN10 := Lib.hid (HRN10.out.fr hfS (by simp))
                have HF10 := Lib.hid (HF10.out.trans hfS)
                have hsS2 := hfS.size
                clear hfS
                go_wp2_with fail
                refine (open_again b9 p m L10 a E (q) _ HL10.out HA10.out (by omega)).mono ?_
                rintro e w12 ⟨b11, v11, rfl, hb11, hL12, hL12b, hr12, _, hf12⟩
                have HL12 := Lib.hid hL12
                have HL12b := Lib.hid hL12b
                have HR12 := Lib.hid hr12
                have HM12 := Lib.hid ((HM10.out.to (T := [p, m]) (by simp)).fr hf12 (by simp))
                have HRR := Lib.hid (((HR10.out).to (T := [b11, p, m]) (by simp; omega)).fr hf12 (by simp))
                have HF12 := Lib.hid (HF10.out.part hf12 (by simp; omega))
                have hs12 := hf12.size
                clear hL12 hL12b hr12 hf12 HL10 HM10 HR10 HRN10 HF10
                rw [HTX.out] at HR12
                go_wp2_with fail
                refine (same_calls _ _ _ _ _ HR12.out HM12.out.str (by rw [HTX.out.symm]; exact HLE.out) (by rw [HTX.out.symm]; exact HLE.out)).mono ?_
                rintro e w13 ⟨rfl, hf13⟩
                rw [decide_eq_true rfl]
                have HL13 := Lib.hid (lg_fr HL12.out hf13 (by simp) (by simp) (by simp))
                have HL13b := Lib.hid (lg_fr HL12b.out hf13 (by simp) (by simp) (by simp))
                have HRR13 := Lib.hid (HRR.out.fr hf13 (by simp))
                have HF13 := Lib.hid (HF12.out.trans hf13)
                clear hf13 HL12 HL12b HRR HF12 HR12 HM12
                go_wp2_with fail
                refine (seq_calls b11 p _ _ _ HL13.out.wl).mono ?_
                rintro e w14 ⟨rfl, rfl⟩
                go_wp2_with fail
                refine (seq_calls b9 p _ _ _ HL13b.out.wl).mono ?_
                rintro e w15 ⟨rfl, rfl⟩
                go_wp2_with fail
                case roundEnd =>
                  exact ⟨⟨k + 1, b11, L10, a, E, q, rfl, rfl, by go_num, by omega, Lib.hid (by first | exact HRR13.out | (rw [HTX.out]; exact HRR13.out)), by omega, by omega, by omega, by omega, by omega, HL13, HA10, HAR10, HF13⟩, by simp [intOf]; omega⟩
              · obtain ⟨b9, v9, L10, rfl, hb9, hL10, hA10, har10, hac10, hrow10, hf10⟩ := told_of_opens (w := w9) HL9.out.dk.lt HL9.out.g HL9.out.p0 HL9.out.m0 hB ho hd hn hf10 hT
                have HL10 := Lib.hid hL10
                have HA10 := Lib.hid hA10
                have HAR10 := Lib.hid har10
                have HM10 := Lib.hid hrow10
                have hs10 := hf10.size
                have HR10 := Lib.hid (HR9.out.fr hf10 (by simp))
                have HRN10 := Lib.hid (HRN9.out.fr hf10 (by simp))
                have HF10 := Lib.hid (HF9.out.part hf10 (by simp; omega))
                have hacL : L10.dk.acts ≤ 4 + 40 * (k + 1) := by omega
                clear hL10 hA10 har10 hrow10 hf10 ho hd hn HL9 HR9 HRN9 HF9 HB9 hT
                have HTX := Lib.hid (show textsL (keptF (a : Ent).1 (E ++ [(q + 1, tx.data.toList)])) = Lt ++ [tx.data.toList] from by rw [HAA.out.has.kept_next rfl, HLT.out]; simp [textsL])
                have HLE := Lib.hid (show (textsL (keptF (a : Ent).1 (E ++ [(q + 1, tx.data.toList)]))).length ≤ 1000000 by rw [HTX.out]; first | omega | (simp only [List.length_append, List.length_singleton, List.length_nil]; omega))
                rw [HTX.out] at HM10
                have hne : ¬ (Lt ++ [tx.data.toList]) = (Lt) := by
                  intro h
                  have := congrArg List.length h
                  simp at this
                go_wp2_with fail
                refine (same_calls _ _ (Lt ++ [tx.data.toList]) (Lt) _ HM10.out.str HR10.out.str (by first | omega | (simp only [List.length_append, List.length_singleton, List.length_nil]; omega)) (by first | omega | (simp only [List.length_append, List.length_singleton, List.length_nil]; omega))).mono ?_
                rintro e wS1 ⟨rfl, hfS⟩
                rw [decide_eq_false hne]
                clear hne
                have HL10 := Lib.hid (lg_fr HL10.out hfS (by simp) (by simp) (by simp))
                have HM10 := Lib.hid (HM10.out.fr hfS (by simp))
                have HR10 := Lib.hid (HR10.out.fr hfS (by simp))
                have HRN10 := Lib.hid (HRN10.out.fr hfS (by simp))
                have HF10 := Lib.hid (HF10.out.trans hfS)
                have hsS1 := hfS.size
                clear hfS
                go_wp2_with fail
                refine (same_calls _ _ (Lt ++ [tx.data.toList]) (Lt ++ [tx.data.toList]) _ HM10.out.str HRN10.out.str (by first | omega | (simp only [List.length_append, List.length_singleton, List.length_nil]; omega)) (by first | omega | (simp only [List.length_append, List.length_singleton, List.length_nil]; omega))).mono ?_
                rintro e wS2 ⟨rfl, hfS⟩
                rw [decide_eq_true rfl]
                have HL10 := Lib.hid (lg_fr HL10.out hfS (by simp) (by simp) (by simp))
                have HM10 := Lib.hid (HM10.out.fr hfS (by simp))
                have HR10 := Lib.hid (HR10.out.fr hfS (by simp))
                have HRN10 := Lib.hid (HRN10.out.fr hfS (by simp))
                have HF10 := Lib.hid (HF10.out.trans hfS)
                have hsS2 := hfS.size
                clear hfS
                go_wp2_with fail
                refine (open_again b9 p m L10 a (E ++ [(q + 1, tx.data.toList)]) (q + 1) _ HL10.out HA10.out (by omega)).mono ?_
                rintro e w12 ⟨b11, v11, rfl, hb11, hL12, hL12b, hr12, _, hf12⟩
                have HL12 := Lib.hid hL12
                have HL12b := Lib.hid hL12b
                have HR12 := Lib.hid hr12
                have HM12 := Lib.hid ((HM10.out.to (T := [p, m]) (by simp)).fr hf12 (by simp))
                have HRR := Lib.hid (((HRN10.out).to (T := [b11, p, m]) (by simp; omega)).fr hf12 (by simp))
                have HF12 := Lib.hid (HF10.out.part hf12 (by simp; omega))
                have hs12 := hf12.size
                clear hL12 hL12b hr12 hf12 HL10 HM10 HR10 HRN10 HF10
                rw [HTX.out] at HR12
                go_wp2_with fail
                refine (same_calls _ _ _ _ _ HR12.out HM12.out.str (by rw [HTX.out.symm]; exact HLE.out) (by rw [HTX.out.symm]; exact HLE.out)).mono ?_
                rintro e w13 ⟨rfl, hf13⟩
                rw [decide_eq_true rfl]
                have HL13 := Lib.hid (lg_fr HL12.out hf13 (by simp) (by simp) (by simp))
                have HL13b := Lib.hid (lg_fr HL12b.out hf13 (by simp) (by simp) (by simp))
                have HRR13 := Lib.hid (HRR.out.fr hf13 (by simp))
                have HF13 := Lib.hid (HF12.out.trans hf13)
                clear hf13 HL12 HL12b HRR HF12 HR12 HM12
                go_wp2_with fail
                refine (seq_calls b11 p _ _ _ HL13.out.wl).mono ?_
                rintro e w14 ⟨rfl, rfl⟩
                go_wp2_with fail
                refine (seq_calls b9 p _ _ _ HL13b.out.wl).mono ?_
                rintro e w15 ⟨rfl, rfl⟩
                go_wp2_with fail
                case roundEnd =>
                  exact ⟨⟨k + 1, b11, L10, a, (E ++ [(q + 1, tx.data.toList)]), q + 1, rfl, rfl, by go_num, by omega, Lib.hid (by first | exact HRR13.out | (rw [HTX.out]; exact HRR13.out)), by omega, by omega, by omega, by omega, by rw [flat_append, flat_one, List.length_append]; omega, HL13, HA10, HAR10, HF13⟩, by simp [intOf]; omega⟩
      · have h6 : ((pk : Int) == 6) = false := by simp; omega
        obtain ⟨WA, rfl⟩ : ∃ WA, WA = w4 := ⟨_, rfl⟩
        obtain ⟨LA, rfl⟩ : ∃ LA, LA = L := ⟨_, rfl⟩
        have HRA := Lib.hid HR3.out
        have HLA := Lib.hid HL3.out
        have HAA := Lib.hid HA.out
        have HFA := Lib.hid HF3.out
        have HBA := Lib.hid HB3.out
        have hxA := hs3
        have hsA := Nat.le_refl WA.heap.size
        clear HR3 HL3 HA HF3 HB3 e1 e3
        by_cases hp5 : pk = 5
        · as_aux_lemma =>
            have h5 : ((pk : Int) == 5) = true := by simp; omega
            have h7 : ((pk : Int) != 7) = true := by simp; omega
            go_wp2_with (first
              | (at_builtin; refine wpList_append_row rfl (.const (.slice none 0 0)) (.tmp 82) rfl rfl rfl HRA.out (by omega) ?_; intro v1 w5 hown1 hfA)
              | (at_builtin; refine wpList_append_own _ rfl (.tmp 83) (.tmp 85) 26 rfl WA.heap.size 9 i0 (.string ⟨#[]⟩) 1 16 Tryz.underlying26 hi hz0 hz1 hz2 rfl (by decide) _ _ _ rfl (hown1.alloc _) ⟨w5.heap.size, 0, none⟩ 1 1 [.string tx] rfl rfl (cell_one_new _ _ _) (by simp [Value.oneCell']) (by unfold maxLen; omega) (by omega) (by have := hfA.size; simp; omega) ?_; intro v2 w6 hown2 hgr2 _; have hfB : Fr [] WA w6 := (hfA.alloc _).grown hgr2 (fun k hk => .inr (own_ge hown1 hk)); have e1 : w6.cell? ⟨xb, 1, none⟩ = some (.int .i64 nn) := blk_cell ((hfB.block xb hxA (by simp)).trans HBA.out) (j := 1) rfl))
            have HRN := Lib.hid (row_next (w5 := w5) (v1 := v1) (S := [b, p, m]) hown2 (by simp; omega))
            have HL6 := Lib.hid (lg_fr HLA.out hfB (by simp) (by simp) (by simp))
            have HR6 := Lib.hid (HRA.out.fr hfB (by simp))
            have HF6 := Lib.hid (HFA.out.trans hfB)
            have HB6 := Lib.hid ((hfB.block xb hxA (by simp)).trans HBA.out)
            have hs6 := hfB.size
            clear hown1 hown2 hgr2 hfA hfB e1 HRA HLA HFA HBA
            refine (check_cut b p m LA a E q tx _ HL6.out HAA.out HOK.out (by omega)).mono ?_
            rintro e w7 ⟨L7, hL7, hac7, hf7, hcase⟩
            have HL7 := Lib.hid hL7
            have HR7 := Lib.hid (HR6.out.fr hf7 (by simp))
            have HRN7 := Lib.hid (HRN.out.fr hf7 (by simp))
            have HF7 := Lib.hid (HF6.out.part hf7 (by simp; omega))
            have HB7 := Lib.hid ((hf7.block xb (blk_lt HB6.out) (by simp; omega)).trans HB6.out)
            have hs7 := hf7.size
            have hof := disk_off p m L7.dk w7 hL7.dk
            clear hL7 hf7 HL6 HR6 HRN HF6 HB6
            rcases hcase with ⟨rfl, hA7⟩ | ⟨_, hne, _⟩
            · have HA7 := Lib.hid hA7
              rw [hA7.off] at hof
              clear hA7
              go_wp2_with fail
              refine hof.mono ?_
              clear hof
              rintro e w8 ⟨rfl, rfl⟩
              go_wp2_with fail
              refine (arm_log b p m L7 0 _ HL7.out (by omega)).mono ?_
              rintro e w9 ⟨⟨cb, rfl⟩, hL9, hf9⟩
              have haf := arm_f L7.dk 0
              have ha0 := arm_0 L7.dk
              have haa := HA7.out.arm 0
              obtain ⟨L9, hL9e⟩ : ∃ L9, L9 = Lg.mk L7.seq L7.err (L7.dk.arm 0).2 := ⟨_, rfl⟩
              rw [← hL9e] at hL9 haa
              have hdk : L9.dk = (L7.dk.arm 0).2 := by rw [hL9e]
              rw [← hdk] at haf ha0
              have hac9 : L9.dk.acts ≤ 8 + 40 * k := by rw [haf.2.2]; omega
              have HL9 := Lib.hid hL9
              have HA9 := Lib.hid haa
              have HAR9 := Lib.hid ha0
              have HR9 := Lib.hid (HR7.out.fr hf9 (by simp))
              have HRN9 := Lib.hid (HRN7.out.fr hf9 (by simp))
              have HF9 := Lib.hid (HF7.out.part hf9 (by simp; omega))
              have HB9 := Lib.hid ((hf9.block xb (blk_lt HB7.out) (by simp; omega)).trans HB7.out)
              have hs9 := hf9.size
              clear hL9 haa ha0 haf hdk hL9e hf9 HL7 HA7 HR7 HRN7 HF7 HB7
              go_wp2_with fail
              case roundEnd =>
                exact ⟨⟨k + 1, b, L9, (q, tx.data.toList), [], q, rfl, by rw [show bs ((q, tx.data.toList) : Ent).2 = tx from bs_of tx], by go_num, by omega, Lib.hid (Row.nil _ _), by omega, by omega, by omega, by omega, by simp [flat], HL9, HA9, HAR9, HF9⟩, by simp [intOf]; omega⟩
            · exact absurd HAR.out hne
        · have h5 : ((pk : Int) == 5) = false := by simp; omega
          by_cases hp7 : pk = 7
          · as_aux_lemma =>
              have h7 : ((pk : Int) != 7) = false := by simp; omega
              go_wp2_with (first
                | (at_builtin; refine wpList_append_row rfl (.const (.slice none 0 0)) (.tmp 82) rfl rfl rfl HRA.out (by omega) ?_; intro v1 w5 hown1 hfA)
                | (at_builtin; refine wpList_append_own _ rfl (.tmp 83) (.tmp 85) 26 rfl WA.heap.size 9 i0 (.string ⟨#[]⟩) 1 16 Tryz.underlying26 hi hz0 hz1 hz2 rfl (by decide) _ _ _ rfl (hown1.alloc _) ⟨w5.heap.size, 0, none⟩ 1 1 [.string tx] rfl rfl (cell_one_new _ _ _) (by simp [Value.oneCell']) (by unfold maxLen; omega) (by omega) (by have := hfA.size; simp; omega) ?_; intro v2 w6 hown2 hgr2 _; have hfB : Fr [] WA w6 := (hfA.alloc _).grown hgr2 (fun k hk => .inr (own_ge hown1 hk)); have e1 : w6.cell? ⟨xb, 1, none⟩ = some (.int .i64 nn) := blk_cell ((hfB.block xb hxA (by simp)).trans HBA.out) (j := 1) rfl))
              have HRN := Lib.hid (row_next (w5 := w5) (v1 := v1) (S := [b, p, m]) hown2 (by simp; omega))
              have HL6 := Lib.hid (lg_fr HLA.out hfB (by simp) (by simp) (by simp))
              have HR6 := Lib.hid (HRA.out.fr hfB (by simp))
              have HF6 := Lib.hid (HFA.out.trans hfB)
              have HB6 := Lib.hid ((hfB.block xb hxA (by simp)).trans HBA.out)
              have hs6 := hfB.size
              clear hown1 hown2 hgr2 hfA hfB e1 HRA HLA HFA HBA
              refine (append_cut b p m LA a E q tx _ HL6.out HAA.out HOK1.out (by omega) (by omega)).mono ?_
              rintro e w7 ⟨L7, hL7, hac7, hf7, hcase⟩
              have HL7 := Lib.hid hL7
              have HR7 := Lib.hid (HR6.out.fr hf7 (by simp))
              have HRN7 := Lib.hid (HRN.out.fr hf7 (by simp))
              have HF7 := Lib.hid (HF6.out.part hf7 (by simp; omega))
              have HB7 := Lib.hid ((hf7.block xb (blk_lt HB6.out) (by simp; omega)).trans HB6.out)
              have hs7 := hf7.size
              have hof := disk_off p m L7.dk w7 hL7.dk
              clear hL7 hf7 HL6 HR6 HRN HF6 HB6
              rcases hcase with ⟨rfl, hA7⟩ | ⟨_, hne, _⟩
              · have HA7 := Lib.hid hA7
                rw [hA7.off] at hof
                clear hA7
                go_wp2_with fail
                refine hof.mono ?_
                clear hof
                rintro e w8 ⟨rfl, rfl⟩
                go_wp2_with fail
                refine (arm_log b p m L7 0 _ HL7.out (by omega)).mono ?_
                rintro e w9 ⟨⟨cb, rfl⟩, hL9, hf9⟩
                have haf := arm_f L7.dk 0
                have ha0 := arm_0 L7.dk
                have haa := HA7.out.arm 0
                obtain ⟨L9, hL9e⟩ : ∃ L9, L9 = Lg.mk L7.seq L7.err (L7.dk.arm 0).2 := ⟨_, rfl⟩
                rw [← hL9e] at hL9 haa
                have hdk : L9.dk = (L7.dk.arm 0).2 := by rw [hL9e]
                rw [← hdk] at haf ha0
                have hac9 : L9.dk.acts ≤ 8 + 40 * k := by rw [haf.2.2]; omega
                have HL9 := Lib.hid hL9
                have HA9 := Lib.hid haa
                have HAR9 := Lib.hid ha0
                have HR9 := Lib.hid (HR7.out.fr hf9 (by simp))
                have HRN9 := Lib.hid (HRN7.out.fr hf9 (by simp))
                have HF9 := Lib.hid (HF7.out.part hf9 (by simp; omega))
                have HB9 := Lib.hid ((hf9.block xb (blk_lt HB7.out) (by simp; omega)).trans HB7.out)
                have hs9 := hf9.size
                clear hL9 haa ha0 haf hdk hL9e hf9 HL7 HA7 HR7 HRN7 HF7 HB7
                have e3 := blk_cell (v := .slice ak keep.length ck) HB9.out (j := 3) rfl
                go_wp2_with fail
                clear e3
                refine (opens_calls p m L9.dk _ vc keep cuts _ HL9.out.dk (by omega) HL9.out.g HL9.out.p0 HL9.out.m0 (HIR.out.fr0 HF9.out) (HCU.out.fr0 HF9.out) hkl hcl (fun W hW => HIR.out.fr0 (HF9.out.part hW (by simp; omega))) (fun W hW => HCU.out.fr0 (HF9.out.part hW (by simp; omega)))).mono ?_
                rintro e w10 ⟨B, hB, ho, hd, hn, hf10⟩
                have hT := opens_still keep a (E ++ [(q + 1, tx.data.toList)]) (q + 1) HA9.out.has (by rw [flat_append, flat_one, List.length_append]; omega) (cuts.take 4) L9.dk HA9.out.snap HA9.out.log
                obtain ⟨b9, v9, L10, rfl, hb9, hL10, hA10, har10, hac10, hrow10, hf10⟩ := told_of_opens (w := w9) HL9.out.dk.lt HL9.out.g HL9.out.p0 HL9.out.m0 hB ho hd hn hf10 hT
                have HL10 := Lib.hid hL10
                have HA10 := Lib.hid hA10
                have HAR10 := Lib.hid har10
                have HM10 := Lib.hid hrow10
                have hs10 := hf10.size
                have HR10 := Lib.hid (HR9.out.fr hf10 (by simp))
                have HRN10 := Lib.hid (HRN9.out.fr hf10 (by simp))
                have HF10 := Lib.hid (HF9.out.part hf10 (by simp; omega))
                have hacL : L10.dk.acts ≤ 4 + 40 * (k + 1) := by omega
                clear hL10 hA10 har10 hrow10 hf10 ho hd hn HL9 HR9 HRN9 HF9 HB9 hT
                have HTX := Lib.hid (show textsL (keptF (a : Ent).1 (E ++ [(q + 1, tx.data.toList)])) = Lt ++ [tx.data.toList] from by rw [HAA.out.has.kept_next rfl, HLT.out]; simp [textsL])
                have HLE := Lib.hid (show (textsL (keptF (a : Ent).1 (E ++ [(q + 1, tx.data.toList)]))).length ≤ 1000000 by rw [HTX.out]; first | omega | (simp only [List.length_append, List.length_singleton, List.length_nil]; omega))
                rw [HTX.out] at HM10
                go_wp2_with fail
                refine (same_calls _ _ (Lt ++ [tx.data.toList]) (Lt ++ [tx.data.toList]) _ HM10.out.str HRN10.out.str (by first | omega | (simp only [List.length_append, List.length_singleton, List.length_nil]; omega)) (by first | omega | (simp only [List.length_append, List.length_singleton, List.length_nil]; omega))).mono ?_
                rintro e wS1 ⟨rfl, hfS⟩
                rw [decide_eq_true rfl]
                have HL10 := Lib.hid (lg_fr HL10.out hfS (by simp) (by simp) (by simp))
                have HM10 := Lib.hid (HM10.out.fr hfS (by simp))
                have HR10 := Lib.hid (HR10.out.fr hfS (by simp))
                have HRN10 := Lib.hid (HRN10.out.fr hfS (by simp))
                have HF10 := Lib.hid (HF10.out.trans hfS)
                have hsS1 := hfS.size
                clear hfS
                go_wp2_with fail
                refine (same_calls _ _ (Lt ++ [tx.data.toList]) (Lt ++ [tx.data.toList]) _ HM10.out.str HRN10.out.str (by first | omega | (simp only [List.length_append, List.length_singleton, List.length_nil]; omega)) (by first | omega | (simp only [List.length_append, List.length_singleton, List.length_nil]; omega))).mono ?_
                rintro e wS2 ⟨rfl, hfS⟩
                rw [decide_eq_true rfl]
                have HL10 := Lib.hid (lg_fr HL10.out hfS (by simp) (by simp) (by simp))
                have HM10 := Lib.hid (HM10.out.fr hfS (by simp))
                have HR10 := Lib.hid (HR10.out.fr hfS (by simp))
                have HRN10 := Lib.hid (HRN10.out.fr hfS (by simp))
                have HF10 := Lib.hid (HF10.out.trans hfS)
                have hsS2 := hfS.size
                clear hfS
                go_wp2_with fail
                refine (open_again b9 p m L10 a (E ++ [(q + 1, tx.data.toList)]) (q + 1) _ HL10.out HA10.out (by omega)).mono ?_
                rintro e w12 ⟨b11, v11, rfl, hb11, hL12, hL12b, hr12, _, hf12⟩
                have HL12 := Lib.hid hL12
                have HL12b := Lib.hid hL12b
                have HR12 := Lib.hid hr12
                have HM12 := Lib.hid ((HM10.out.to (T := [p, m]) (by simp)).fr hf12 (by simp))
                have HRR := Lib.hid (((HRN10.out).to (T := [b11, p, m]) (by simp; omega)).fr hf12 (by simp))
                have HF12 := Lib.hid (HF10.out.part hf12 (by simp; omega))
                have hs12 := hf12.size
                clear hL12 hL12b hr12 hf12 HL10 HM10 HR10 HRN10 HF10
                rw [HTX.out] at HR12
                go_wp2_with fail
                refine (same_calls _ _ _ _ _ HR12.out HM12.out.str (by rw [HTX.out.symm]; exact HLE.out) (by rw [HTX.out.symm]; exact HLE.out)).mono ?_
                rintro e w13 ⟨rfl, hf13⟩
                rw [decide_eq_true rfl]
                have HL13 := Lib.hid (lg_fr HL12.out hf13 (by simp) (by simp) (by simp))
                have HL13b := Lib.hid (lg_fr HL12b.out hf13 (by simp) (by simp) (by simp))
                have HRR13 := Lib.hid (HRR.out.fr hf13 (by simp))
                have HF13 := Lib.hid (HF12.out.trans hf13)
                clear hf13 HL12 HL12b HRR HF12 HR12 HM12
                go_wp2_with fail
                refine (seq_calls b11 p _ _ _ HL13.out.wl).mono ?_
                rintro e w14 ⟨rfl, rfl⟩
                go_wp2_with fail
                refine (seq_calls b9 p _ _ _ HL13b.out.wl).mono ?_
                rintro e w15 ⟨rfl, rfl⟩
                go_wp2_with fail
                case roundEnd =>
                  exact ⟨⟨k + 1, b11, L10, a, (E ++ [(q + 1, tx.data.toList)]), q + 1, rfl, rfl, by go_num, by omega, Lib.hid (by first | exact HRR13.out | (rw [HTX.out]; exact HRR13.out)), by omega, by omega, by omega, by omega, by rw [flat_append, flat_one, List.length_append]; omega, HL13, HA10, HAR10, HF13⟩, by simp [intOf]; omega⟩
              · exact absurd HAR.out hne
          · as_aux_lemma =>
              have h7 : ((pk : Int) != 7) = true := by simpa using by omega
              go_wp2_with (first
                | (at_builtin; refine wpList_append_row rfl (.const (.slice none 0 0)) (.tmp 82) rfl rfl rfl HRA.out (by omega) ?_; intro v1 w5 hown1 hfA)
                | (at_builtin; refine wpList_append_own _ rfl (.tmp 83) (.tmp 85) 26 rfl WA.heap.size 9 i0 (.string ⟨#[]⟩) 1 16 Tryz.underlying26 hi hz0 hz1 hz2 rfl (by decide) _ _ _ rfl (hown1.alloc _) ⟨w5.heap.size, 0, none⟩ 1 1 [.string tx] rfl rfl (cell_one_new _ _ _) (by simp [Value.oneCell']) (by unfold maxLen; omega) (by omega) (by have := hfA.size; simp; omega) ?_; intro v2 w6 hown2 hgr2 _; have hfB : Fr [] WA w6 := (hfA.alloc _).grown hgr2 (fun k hk => .inr (own_ge hown1 hk)); have e1 : w6.cell? ⟨xb, 1, none⟩ = some (.int .i64 nn) := blk_cell ((hfB.block xb hxA (by simp)).trans HBA.out) (j := 1) rfl))
              have HRN := Lib.hid (row_next (w5 := w5) (v1 := v1) (S := [b, p, m]) hown2 (by simp; omega))
              have HL6 := Lib.hid (lg_fr HLA.out hfB (by simp) (by simp) (by simp))
              have HR6 := Lib.hid (HRA.out.fr hfB (by simp))
              have HF6 := Lib.hid (HFA.out.trans hfB)
              have HB6 := Lib.hid ((hfB.block xb hxA (by simp)).trans HBA.out)
              have hs6 := hfB.size
              clear hown1 hown2 hgr2 hfA hfB e1 HRA HLA HFA HBA
              refine (append_cut b p m LA a E q tx _ HL6.out HAA.out HOK1.out (by omega) (by omega)).mono ?_
              rintro e w7 ⟨L7, hL7, hac7, hf7, hcase⟩
              have HL7 := Lib.hid hL7
              have HR7 := Lib.hid (HR6.out.fr hf7 (by simp))
              have HRN7 := Lib.hid (HRN.out.fr hf7 (by simp))
              have HF7 := Lib.hid (HF6.out.part hf7 (by simp; omega))
              have HB7 := Lib.hid ((hf7.block xb (blk_lt HB6.out) (by simp; omega)).trans HB6.out)
              have hs7 := hf7.size
              have hof := disk_off p m L7.dk w7 hL7.dk
              clear hL7 hf7 HL6 HR6 HRN HF6 HB6
              rcases hcase with ⟨rfl, hA7⟩ | ⟨_, hne, _⟩
              · have HA7 := Lib.hid hA7
                rw [hA7.off] at hof
                clear hA7
                go_wp2_with fail
                refine hof.mono ?_
                clear hof
                rintro e w8 ⟨rfl, rfl⟩
                go_wp2_with fail
                refine (arm_log b p m L7 0 _ HL7.out (by omega)).mono ?_
                rintro e w9 ⟨⟨cb, rfl⟩, hL9, hf9⟩
                have haf := arm_f L7.dk 0
                have ha0 := arm_0 L7.dk
                have haa := HA7.out.arm 0
                obtain ⟨L9, hL9e⟩ : ∃ L9, L9 = Lg.mk L7.seq L7.err (L7.dk.arm 0).2 := ⟨_, rfl⟩
                rw [← hL9e] at hL9 haa
                have hdk : L9.dk = (L7.dk.arm 0).2 := by rw [hL9e]
                rw [← hdk] at haf ha0
                have hac9 : L9.dk.acts ≤ 8 + 40 * k := by rw [haf.2.2]; omega
                have HL9 := Lib.hid hL9
                have HA9 := Lib.hid haa
                have HAR9 := Lib.hid ha0
                have HR9 := Lib.hid (HR7.out.fr hf9 (by simp))
                have HRN9 := Lib.hid (HRN7.out.fr hf9 (by simp))
                have HF9 := Lib.hid (HF7.out.part hf9 (by simp; omega))
                have HB9 := Lib.hid ((hf9.block xb (blk_lt HB7.out) (by simp; omega)).trans HB7.out)
                have hs9 := hf9.size
                clear hL9 haa ha0 haf hdk hL9e hf9 HL7 HA7 HR7 HRN7 HF7 HB7
                go_wp2_with fail
                case roundEnd =>
                  exact ⟨⟨k + 1, b, L9, a, (E ++ [(q + 1, tx.data.toList)]), q + 1, rfl, rfl, by go_num, by omega, Lib.hid (by rw [show textsL (keptF a.1 (E ++ [(q + 1, tx.data.toList)])) = Lt ++ [tx.data.toList] from by rw [HAA.out.has.kept_next rfl, HLT.out]; simp [textsL]]; exact HRN9.out), by omega, by omega, by omega, by omega, by rw [flat_append, flat_one, List.length_append]; omega, HL9, HA9, HAR9, HF9⟩, by simp [intOf]; omega⟩
              · exact absurd HAR.out hne
    · by_cases hk1 : k < S.length
      all_goals
        go_wp2_with fail
        go_ret
        exact ⟨rfl, HF.out⟩
end Go.Proofs.YtnlgmekkjibpmaaGreatDoor
