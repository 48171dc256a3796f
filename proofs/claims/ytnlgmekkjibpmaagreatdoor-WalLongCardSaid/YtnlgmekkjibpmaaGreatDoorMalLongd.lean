/- DERIVED. Contracts and plain laws under the statement: one merged text. -/
import Derived.Test.YtnlgmekkjibpmaaGreatDoorMalLongc
import Derived.Deep.RegionHeld3
import Derived.BigQuiet
import Derived.BigRegion
import Derived.Outline
/- DERIVED. wal: end, Seq, Append. -/
namespace Go.Proofs.YtnlgmekkjibpmaaGreatDoor
open Go Go.RowKit Go.Shelf Go.Proofs.YtnlgmekkjibpmaaGreatDoorW.PrintWords
set_option linter.unusedVariables false
set_option linter.unusedSimpArgs false

set_option maxHeartbeats 400000 in
theorem end_calls (b p seq err e : Nat) (v : Value) (w : World) (h : Wl w b p seq err) (hev : EV 2 v e) (hg : G w) :
    Calls Tryz.prog 37 #[.pointer (some ⟨b, 0, none⟩), v] w fun ev w' => ev = .returned (.int .i64 (e : Int)) ∧ Wl w' b p seq e ∧ Fr [b] w w' := by
  have H := Lib.hid h
  clear h
  go_enter Tryz.func37, Tryz.ntmps37
  go_wp2_with fail
  refine (code_ev hev _ hg).mono ?_
  rintro ev w1 ⟨rfl, hf1⟩
  have h1 := H.out.fr hf1 (by simp)
  have c2 := blk_cell (v := .int .i64 (err : Int)) h1.out (j := 2) rfl
  have f2 := blk_free h1.out 2
  have hst := blk_set h1.out 2 (.int .i64 (e : Int))
  have d2 := blk_cell (v := .int .i64 (e : Int)) hst (j := 2) rfl
  have HST := Lib.hid hst
  clear hst h1
  go_wp2_with fail
  go_ret
  exact ⟨rfl, ⟨HST.out⟩, (hf1.mono (by simp)).setCell (.inl (by simp)) _⟩
set_option maxHeartbeats 400000 in
theorem seq_calls (b p seq err : Nat) (w : World) (h : Wl w b p seq err) :
    Calls Tryz.prog 23 #[.pointer (some ⟨b, 0, none⟩)] w fun ev w' => ev = .returned (.int .i64 (seq : Int)) ∧ w' = w := by
  have c1 := blk_cell (v := .int .i64 (seq : Int)) h.out (j := 1) rfl
  clear h
  go_enter Tryz.func23, Tryz.ntmps23
  go_wp2
  go_ret
  exact ⟨rfl, rfl⟩

/-- A log: its number, its error, its disk. -/
structure Lg where
  seq : Nat
  err : Nat
  dk : Dk
def Lg.append (L : Lg) (s : List UInt8) : Nat × Lg :=
  if L.err ≠ 0 then (L.err, L)
  else if (madeB (L.seq + 1) s).2 ≠ 0 then ((madeB (L.seq + 1) s).2, L)
  else if (L.dk.append .log (madeB (L.seq + 1) s).1).1 ≠ 0 then ((L.dk.append .log (madeB (L.seq + 1) s).1).1, ⟨L.seq, (L.dk.append .log (madeB (L.seq + 1) s).1).1, (L.dk.append .log (madeB (L.seq + 1) s).1).2⟩)
  else if ((L.dk.append .log (madeB (L.seq + 1) s).1).2.sync .log).1 ≠ 0 then (((L.dk.append .log (madeB (L.seq + 1) s).1).2.sync .log).1, ⟨L.seq, ((L.dk.append .log (madeB (L.seq + 1) s).1).2.sync .log).1, ((L.dk.append .log (madeB (L.seq + 1) s).1).2.sync .log).2⟩)
  else (0, ⟨L.seq + 1, 0, ((L.dk.append .log (madeB (L.seq + 1) s).1).2.sync .log).2⟩)

/-- A log in memory: the wal at b, its disk at p, the disk's map at m. -/
structure LgIs (w : World) (b p m : Nat) (L : Lg) : Prop where
  wl : Wl w b p L.seq L.err
  dk : DkIs w p m L.dk
  g : G w
  bp : b ≠ p
  bm : b ≠ m
  b0 : b ≠ 0
  p0 : p ≠ 0
  m0 : m ≠ 0
end Go.Proofs.YtnlgmekkjibpmaaGreatDoor
/- DERIVED. wal: Append, walked. -/
namespace Go.Proofs.YtnlgmekkjibpmaaGreatDoor
open Go Go.RowKit Go.Shelf Go.Proofs.YtnlgmekkjibpmaaGreatDoorW.PrintWords
set_option linter.unusedVariables false
set_option linter.unusedSimpArgs false

theorem made_len (seq : Nat) (s : List UInt8) : (madeB seq s).1.length ≤ 4110 := by
  unfold madeB
  split
  · simp
  · rename_i h
    have hl : (numB seq ++ s).length ≤ 4096 := by rw [List.length_append]; omega
    have h2 := numB_length (numB seq ++ s).length (by omega)
    show (layB _).length ≤ _
    rw [layB, sealedB_length, textB, List.length_append]
    omega
theorem fr3 {b p m : Nat} {w w' : World} (h : Fr [p, m] w w') : Fr [b, p, m] w w' := h.mono (by simp)
theorem fr3b {b p m : Nat} {w w' : World} (h : Fr [b] w w') : Fr [b, p, m] w w' := h.mono (by simp)
theorem fr30 {b p m : Nat} {w w' : World} (h : Fr [] w w') : Fr [b, p, m] w w' := h.mono (by simp)

set_option maxRecDepth 100000 in
set_option maxHeartbeats 2000000 in
theorem append_calls (b p m : Nat) (L : Lg) (s : ByteArray) (w : World) (h : LgIs w b p m L) (hq : L.seq ≤ 1099511627776) (hs : s.size ≤ 100000) (h2 : L.dk.acts ≤ 800000) :
    Calls Tryz.prog 12 #[.pointer (some ⟨b, 0, none⟩), .string s] w fun ev w' => ev = .returned (.int .i64 ((L.append s.data.toList).1 : Int)) ∧ LgIs w' b p m (L.append s.data.toList).2 ∧ Fr [b, p, m] w w' := by
  obtain ⟨⟨hbox⟩, hdk, hg, hbp, hbm, hb0, hp0, hm0⟩ := h
  obtain ⟨seq, err, D⟩ := L
  dsimp only at hbox hdk hq h2
  obtain ⟨R, hR⟩ : ∃ R, R = Lg.append ⟨seq, err, D⟩ s.data.toList := ⟨_, rfl⟩
  rw [← hR]
  unfold Lg.append at hR
  dsimp only at hR
  have HR := Lib.hid hR
  have c0 := blk_cell (v := .pointer (some ⟨p, 0, none⟩)) hbox (j := 0) rfl
  have c1 := blk_cell (v := .int .i64 (seq : Int)) hbox (j := 1) rfl
  have HBX := Lib.hid hbox
  have HD := Lib.hid hdk
  have HG := Lib.hid hg
  by_cases herr : err = 0
  · subst herr
    have c2 := blk_cell (v := .int .i64 0) hbox (j := 2) rfl
    have e1 := HR.out
    rw [if_neg (by simp)] at e1
    have HR1 := Lib.hid e1
    clear HR hR e1 hbox hdk hg
    have hml := made_len (seq + 1) s.data.toList
    go_enter Tryz.func12, Tryz.ntmps12
    go_wp2_with fail
    have hmc := made_calls (seq + 1) (by omega) s hs w
    rw [show ((seq + 1 : Nat) : Int) = (seq : Int) + 1 by omega] at hmc
    refine hmc.mono ?_
    clear hmc
    obtain ⟨mb, hmb⟩ : ∃ mb, mb = madeB (seq + 1) s.data.toList := ⟨_, rfl⟩
    rw [← hmb] at HR1 hml ⊢
    clear hmb
    obtain ⟨fr, mc⟩ := mb
    dsimp only at HR1 hml ⊢
    rintro e w1 ⟨rfl, hf1⟩
    by_cases hmc : mc = 0
    · subst hmc
      have e1 := HR1.out
      rw [if_neg (by simp)] at e1
      have HR2 := Lib.hid e1
      clear HR1 e1
      have hsz : (bs fr).size ≤ 140737488355328 := by rw [bs_size]; omega
      have HD1 := Lib.hid (HD.out.fr hf1 (by simp) (by simp))
      have HB1 := Lib.hid ((hf1.block _ (blk_lt HBX.out) (by simp)).trans HBX.out)
      have HG1 := Lib.hid (HG.out.fr hf1 (by simp))
      have HF1 := Lib.hid (fr30 (b := b) (p := p) (m := m) hf1)
      have d0 := blk_cell (v := .pointer (some ⟨p, 0, none⟩)) HB1.out (j := 0) rfl
      have hap := disk_append p m D .log (bs Nm.log.l) (bs fr) (isNm .log) w1 HD1.out (by omega) hsz
      have ha1 := append_acts D .log fr
      rw [bs_toList] at hap
      obtain ⟨ar, har⟩ : ∃ ar, ar = D.append .log fr := ⟨_, rfl⟩
      rw [← har] at hap HR2 ha1
      clear har hsz hf1 HBX HD HG
      obtain ⟨ac, D2⟩ := ar
      dsimp only at hap HR2 ha1
      go_wp2_with fail
      refine hap.mono ?_
      clear hap
      rintro e w2 ⟨rfl, hD2, hf2⟩
      have HD2 := Lib.hid hD2
      have HB2 := Lib.hid ((hf2.block _ (blk_lt HB1.out) (by simp; omega)).trans HB1.out)
      have HG2 := Lib.hid (HG1.out.fr hf2 (by simp; omega))
      have HF2 := Lib.hid (HF1.out.trans (fr3 hf2))
      have d2 := blk_cell (v := .pointer (some ⟨p, 0, none⟩)) HB2.out (j := 0) rfl
      clear hD2 hf2 HD1 HB1 HG1 HF1
      go_wp2_with fail
      refine (failed_any _ ac _).mono ?_
      rintro e w3 ⟨v3, rfl, hev3, rfl⟩
      rcases hev3.ne with ⟨rfl, hac⟩ | ⟨hac, tt, u, rfl⟩
      · have e1 := HR2.out
        rw [if_neg (by simpa using hac)] at e1
        have HR3 := Lib.hid e1
        clear HR2 e1
        have hsy := disk_sync p m D2 .log (bs Nm.log.l) (isNm .log) w3 HD2.out (by omega)
        obtain ⟨sr, hsr⟩ : ∃ sr, sr = D2.sync .log := ⟨_, rfl⟩
        rw [← hsr] at hsy HR3
        clear hsr
        obtain ⟨sc, D3⟩ := sr
        dsimp only at hsy HR3
        go_wp2_with fail
        refine hsy.mono ?_
        clear hsy
        rintro e w4 ⟨rfl, hD4, hf4⟩
        have HD4 := Lib.hid hD4
        have HB4 := Lib.hid ((hf4.block _ (blk_lt HB2.out) (by simp; omega)).trans HB2.out)
        have HG4 := Lib.hid (HG2.out.fr hf4 (by simp; omega))
        have HF4 := Lib.hid (HF2.out.trans (fr3 hf4))
        clear hD4 hf4 HD2 HB2 HG2 HF2
        go_wp2_with fail
        refine (failed_any _ sc _).mono ?_
        rintro e w5 ⟨v5, rfl, hev5, rfl⟩
        rcases hev5.ne with ⟨rfl, hsc⟩ | ⟨hsc, tt, u, rfl⟩
        · have e1 := HR3.out
          rw [if_neg (by simpa using hsc)] at e1
          subst e1
          have d1 := blk_cell (v := .int .i64 (seq : Int)) HB4.out (j := 1) rfl
          have f1 := blk_free HB4.out 1
          have HST := Lib.hid (blk_set HB4.out 1 (.int .i64 ((seq : Int) + 1)))
          go_wp2_with fail
          go_ret
          have hfs : Fr [b] w5 (w5.setCell ⟨b, 1, none⟩ (.int .i64 ((seq : Int) + 1))) := (Fr.refl _ _).setCell (.inl (by simp)) _
          exact ⟨rfl, ⟨⟨by rw [show (((seq + 1 : Nat)) : Int) = (seq : Int) + 1 by omega]; exact HST.out⟩, HD4.out.fr hfs (by simp; omega) (by simp; omega), HG4.out.fr hfs (by simp; omega), hbp, hbm, hb0, hp0, hm0⟩, HF4.out.trans (fr3b hfs)⟩
        · have e1 := HR3.out
          rw [if_pos hsc] at e1
          subst e1
          go_wp2_with fail
          refine (end_calls b p seq 0 sc _ _ ⟨HB4.out⟩ (hev5.mono (by omega)) HG4.out).mono ?_
          rintro e w6 ⟨rfl, hW6, hf6⟩
          go_wp2_with fail
          go_ret
          exact ⟨rfl, ⟨hW6, HD4.out.fr hf6 (by simp; omega) (by simp; omega), HG4.out.fr hf6 (by simp; omega), hbp, hbm, hb0, hp0, hm0⟩, HF4.out.trans (fr3b hf6)⟩
      · have e1 := HR2.out
        rw [if_pos hac] at e1
        subst e1
        go_wp2_with fail
        refine (end_calls b p seq 0 ac _ _ ⟨HB2.out⟩ (hev3.mono (by omega)) HG2.out).mono ?_
        rintro e w6 ⟨rfl, hW6, hf6⟩
        go_wp2_with fail
        go_ret
        exact ⟨rfl, ⟨hW6, HD2.out.fr hf6 (by simp; omega) (by simp; omega), HG2.out.fr hf6 (by simp; omega), hbp, hbm, hb0, hp0, hm0⟩, HF2.out.trans (fr3b hf6)⟩
    · have e1 := HR1.out
      rw [if_pos hmc] at e1
      subst e1
      have hmc' : ((mc : Int) == 0) = false := by simpa using hmc
      go_wp2_with fail
      go_ret
      exact ⟨rfl, ⟨⟨(hf1.block _ (blk_lt HBX.out) (by simp)).trans HBX.out⟩, HD.out.fr hf1 (by simp) (by simp), HG.out.fr hf1 (by simp), hbp, hbm, hb0, hp0, hm0⟩, fr30 hf1⟩
  · have c2 := blk_cell (v := .int .i64 (err : Int)) hbox (j := 2) rfl
    have e1 := HR.out
    rw [if_pos herr] at e1
    subst e1
    have herr' : ((err : Int) == 0) = false := by simpa using herr
    clear HR hbox hdk hg
    go_enter Tryz.func12, Tryz.ntmps12
    go_wp2_with fail
    go_ret
    exact ⟨rfl, ⟨⟨HBX.out⟩, HD.out, HG.out, hbp, hbm, hb0, hp0, hm0⟩, Fr.refl _ _⟩
end Go.Proofs.YtnlgmekkjibpmaaGreatDoor
/- DERIVED. wal: Checkpoint. -/
namespace Go.Proofs.YtnlgmekkjibpmaaGreatDoor
open Go Go.RowKit Go.Shelf Go.Proofs.YtnlgmekkjibpmaaGreatDoorW.PrintWords
set_option linter.unusedVariables false
set_option linter.unusedSimpArgs false

theorem doing_evd (d : ByteArray) (r : Value) (e : Nat) (h : EV 1 r e) (he : e ≠ 0) : EV 2 (.iface 74 (.agg #[.string d, r])) e := by
  cases h with
  | none => exact absurd rfl he
  | chain ds e h1 h2 h3 =>
    have : EV 2 (chainV (d :: ds) e) e := .chain 2 _ e (by simp) (by simp; omega) h3
    unfold chainV at this
    exact this

def Lg.checkpoint (L : Lg) (s : List UInt8) : Nat × Lg :=
  if L.err ≠ 0 then (L.err, L)
  else if (madeB L.seq s).2 ≠ 0 then ((madeB L.seq s).2, L)
  else if (L.dk.renew .snap (madeB L.seq s).1).1 ≠ 0 then ((L.dk.renew .snap (madeB L.seq s).1).1, ⟨L.seq, (L.dk.renew .snap (madeB L.seq s).1).1, (L.dk.renew .snap (madeB L.seq s).1).2⟩)
  else if ((L.dk.renew .snap (madeB L.seq s).1).2.f .log).isSome = true then (((L.dk.renew .snap (madeB L.seq s).1).2.remove .log).1, ⟨L.seq, ((L.dk.renew .snap (madeB L.seq s).1).2.remove .log).1, ((L.dk.renew .snap (madeB L.seq s).1).2.remove .log).2⟩)
  else (0, ⟨L.seq, 0, (L.dk.renew .snap (madeB L.seq s).1).2⟩)

set_option maxRecDepth 100000 in
set_option maxHeartbeats 2000000 in
theorem checkpoint_calls (b p m : Nat) (L : Lg) (s : ByteArray) (w : World) (h : LgIs w b p m L) (hq : L.seq ≤ 1099511627777) (hs : s.size ≤ 100000) (h2 : L.dk.acts ≤ 800000) :
    Calls Tryz.prog 13 #[.pointer (some ⟨b, 0, none⟩), .string s] w fun ev w' => ev = .returned (.int .i64 ((L.checkpoint s.data.toList).1 : Int)) ∧ LgIs w' b p m (L.checkpoint s.data.toList).2 ∧ Fr [b, p, m] w w' := by
  obtain ⟨⟨hbox⟩, hdk, hg, hbp, hbm, hb0, hp0, hm0⟩ := h
  obtain ⟨seq, err, D⟩ := L
  dsimp only at hbox hdk hq h2
  obtain ⟨R, hR⟩ : ∃ R, R = Lg.checkpoint ⟨seq, err, D⟩ s.data.toList := ⟨_, rfl⟩
  rw [← hR]
  unfold Lg.checkpoint at hR
  dsimp only at hR
  have HR := Lib.hid hR
  have c0 := blk_cell (v := .pointer (some ⟨p, 0, none⟩)) hbox (j := 0) rfl
  have c1 := blk_cell (v := .int .i64 (seq : Int)) hbox (j := 1) rfl
  have HBX := Lib.hid hbox
  have HD := Lib.hid hdk
  have HG := Lib.hid hg
  by_cases herr : err = 0
  · subst herr
    have c2 := blk_cell (v := .int .i64 0) hbox (j := 2) rfl
    have e1 := HR.out
    rw [if_neg (by simp)] at e1
    have HR1 := Lib.hid e1
    clear HR hR e1 hbox hdk hg
    have hml := made_len seq s.data.toList
    go_enter Tryz.func13, Tryz.ntmps13
    go_wp2_with fail
    refine (made_calls seq hq s hs w).mono ?_
    obtain ⟨mb, hmb⟩ : ∃ mb, mb = madeB seq s.data.toList := ⟨_, rfl⟩
    rw [← hmb] at HR1 hml ⊢
    clear hmb
    obtain ⟨fr, mc⟩ := mb
    dsimp only at HR1 hml ⊢
    rintro e w1 ⟨rfl, hf1⟩
    by_cases hmc : mc = 0
    · subst hmc
      have e1 := HR1.out
      rw [if_neg (by simp)] at e1
      have HR2 := Lib.hid e1
      clear HR1 e1
      have hsz : (bs fr).size ≤ 140737488355328 := by rw [bs_size]; omega
      have HD1 := Lib.hid (HD.out.fr hf1 (by simp) (by simp))
      have HB1 := Lib.hid ((hf1.block _ (blk_lt HBX.out) (by simp)).trans HBX.out)
      have HG1 := Lib.hid (HG.out.fr hf1 (by simp))
      have HF1 := Lib.hid (fr30 (b := b) (p := p) (m := m) hf1)
      have d0 := blk_cell (v := .pointer (some ⟨p, 0, none⟩)) HB1.out (j := 0) rfl
      have hap := renew_calls p m D .snap (bs Nm.snap.l) (bs fr) (isNm .snap) w1 HD1.out (by omega) hsz
      have ha1 := renew_acts D .snap fr
      rw [bs_toList] at hap
      obtain ⟨ar, har⟩ : ∃ ar, ar = D.renew .snap fr := ⟨_, rfl⟩
      rw [← har] at hap HR2 ha1
      clear har hsz hf1 HBX HD HG
      obtain ⟨ac, D2⟩ := ar
      dsimp only at hap HR2 ha1
      go_wp2_with fail
      refine hap.mono ?_
      clear hap
      rintro e w2 ⟨v3, rfl, hev3, hD2, hf2⟩
      have HD2 := Lib.hid hD2
      have HB2 := Lib.hid ((hf2.block _ (blk_lt HB1.out) (by simp; omega)).trans HB1.out)
      have HG2 := Lib.hid (HG1.out.fr hf2 (by simp; omega))
      have HF2 := Lib.hid (HF1.out.trans (fr3 hf2))
      have d2 := blk_cell (v := .pointer (some ⟨p, 0, none⟩)) HB2.out (j := 0) rfl
      clear hD2 hf2 HD1 HB1 HG1 HF1
      rcases hev3.ne with ⟨rfl, hac⟩ | ⟨hac, tt, u, rfl⟩
      · have e1 := HR2.out
        rw [if_neg (by simpa using hac)] at e1
        have HR3 := Lib.hid e1
        clear HR2 e1
        have hnl := names_len D2.f
        have hmem := mem_names D2.f .log
        go_wp2_with fail
        refine (disk_list p m D2 _ HD2.out).mono ?_
        rintro e w3 ⟨v4, rfl, hrow, hb3⟩
        have hf3 : Fr [] w2 w3 := Fr.of_below hb3 []
        go_wp2_with fail
        refine (contains_calls _ v4 (names D2.f) .log _ (isNm .log) _ hnl hrow).mono ?_
        rintro e w3' ⟨rfl, rfl⟩
        rw [hmem]
        have HD3 := Lib.hid (HD2.out.fr hf3 (by simp) (by simp))
        have HB3 := Lib.hid ((hf3.block _ (blk_lt HB2.out) (by simp)).trans HB2.out)
        have HG3 := Lib.hid (HG2.out.fr hf3 (by simp))
        have HF3 := Lib.hid (HF2.out.trans (fr30 hf3))
        have d3 := blk_cell (v := .pointer (some ⟨p, 0, none⟩)) HB3.out (j := 0) rfl
        clear hrow hb3 hf3 HD2 HB2 HG2 HF2
        cases hx : (D2.f .log).isSome with
        | false =>
          have e1 := HR3.out
          rw [hx, if_neg (by simp)] at e1
          subst e1
          go_wp2_with fail
          go_ret
          exact ⟨rfl, ⟨⟨HB3.out⟩, HD3.out, HG3.out, hbp, hbm, hb0, hp0, hm0⟩, HF3.out⟩
        | true =>
          have e1 := HR3.out
          rw [hx, if_pos rfl] at e1
          have HR4 := Lib.hid e1
          clear HR3 e1
          have hsy := disk_remove p m D2 .log (bs Nm.log.l) (isNm .log) w3' HD3.out (by omega)
          obtain ⟨sr, hsr⟩ : ∃ sr, sr = D2.remove .log := ⟨_, rfl⟩
          rw [← hsr] at hsy HR4
          clear hsr
          obtain ⟨sc, D3⟩ := sr
          dsimp only at hsy HR4
          go_wp2_with fail
          refine hsy.mono ?_
          clear hsy
          rintro e w4 ⟨rfl, hD4, hf4⟩
          have HD4 := Lib.hid hD4
          have HB4 := Lib.hid ((hf4.block _ (blk_lt HB3.out) (by simp; omega)).trans HB3.out)
          have HG4 := Lib.hid (HG3.out.fr hf4 (by simp; omega))
          have HF4 := Lib.hid (HF3.out.trans (fr3 hf4))
          clear hD4 hf4 HD3 HB3 HG3 HF3
          go_wp2_with fail
          refine (failed_any _ sc _).mono ?_
          rintro e w5 ⟨v5, rfl, hev5, rfl⟩
          have e1 := HR4.out
          subst e1
          go_wp2_with fail
          refine (end_calls b p seq 0 sc _ _ ⟨HB4.out⟩ (hev5.mono (by omega)) HG4.out).mono ?_
          rintro e w6 ⟨rfl, hW6, hf6⟩
          go_wp2_with fail
          go_ret
          exact ⟨rfl, ⟨hW6, HD4.out.fr hf6 (by simp; omega) (by simp; omega), HG4.out.fr hf6 (by simp; omega), hbp, hbm, hb0, hp0, hm0⟩, HF4.out.trans (fr3b hf6)⟩
      · have e1 := HR2.out
        rw [if_pos hac] at e1
        subst e1
        go_wp2_with fail
        refine (end_calls b p seq 0 ac _ _ ⟨HB2.out⟩ (doing_evd _ _ _ hev3 hac) HG2.out).mono ?_
        rintro e w6 ⟨rfl, hW6, hf6⟩
        go_wp2_with fail
        go_ret
        exact ⟨rfl, ⟨hW6, HD2.out.fr hf6 (by simp; omega) (by simp; omega), HG2.out.fr hf6 (by simp; omega), hbp, hbm, hb0, hp0, hm0⟩, HF2.out.trans (fr3b hf6)⟩
    · have e1 := HR1.out
      rw [if_pos hmc] at e1
      subst e1
      have hmc' : ((mc : Int) == 0) = false := by simpa using hmc
      go_wp2_with fail
      go_ret
      exact ⟨rfl, ⟨⟨(hf1.block _ (blk_lt HBX.out) (by simp)).trans HBX.out⟩, HD.out.fr hf1 (by simp) (by simp), HG.out.fr hf1 (by simp), hbp, hbm, hb0, hp0, hm0⟩, fr30 hf1⟩
  · have c2 := blk_cell (v := .int .i64 (err : Int)) hbox (j := 2) rfl
    have e1 := HR.out
    rw [if_pos herr] at e1
    subst e1
    have herr' : ((err : Int) == 0) = false := by simpa using herr
    clear HR hbox hdk hg
    go_enter Tryz.func13, Tryz.ntmps13
    go_wp2_with fail
    go_ret
    exact ⟨rfl, ⟨⟨HBX.out⟩, HD.out, HG.out, hbp, hbm, hb0, hp0, hm0⟩, Fr.refl _ _⟩
end Go.Proofs.YtnlgmekkjibpmaaGreatDoor
/- DERIVED. The law's own: Same, pick. -/
namespace Go.Proofs.YtnlgmekkjibpmaaGreatDoor
open Go Go.RowKit Go.Shelf Go.Proofs.YtnlgmekkjibpmaaGreatDoorW.PrintWords
set_option linter.unusedVariables false
set_option linter.unusedSimpArgs false

def StrRow (w : World) (v : Value) (L : List (List UInt8)) : Prop :=
  (L = [] ∧ v = .slice none 0 0) ∨ ∃ g c, v = .slice (some ⟨g, 0, none⟩) L.length c ∧ ∀ j, (h : j < L.length) → w.cell? ⟨g, j, none⟩ = some (.string (bs (L[j]'h)))
theorem strRow_of {w : World} {base : Nat} {v : Value} {L : List (List UInt8)} (h : w.ownsRow base 9 1 v L.length (L.map strV)) : StrRow w v L := by
  rcases h.2 with ⟨rfl, hn⟩ | ⟨g, cap, cur, rfl, _⟩
  · exact .inl ⟨by simpa using hn, rfl⟩
  · exact .inr ⟨g, cap, rfl, fun j hj => by rw [h.cellAt j (by omega)]; simp [strV, hj]⟩
theorem strRow_len {w : World} {v : Value} {L : List (List UInt8)} (h : StrRow w v L) : ∃ a c, v = .slice a L.length c := by
  rcases h with ⟨rfl, rfl⟩ | ⟨g, c, rfl, _⟩
  · exact ⟨_, _, rfl⟩
  · exact ⟨_, _, rfl⟩

set_option maxRecDepth 100000 in
set_option maxHeartbeats 1000000 in
theorem same_calls (v u : Value) (L M : List (List UInt8)) (w : World) (h1 : StrRow w v L) (h2 : StrRow w u M) (hl : L.length ≤ 1000000) (hm : M.length ≤ 1000000) :
    Calls Tryz.prog 14 #[v, u] w fun e w' => e = .returned (.bool (decide (L = M))) ∧ Fr [] w w' := by
  by_cases hlen : L.length = M.length
  · rcases h1 with ⟨rfl, rfl⟩ | ⟨g, c, rfl, hc⟩
    · have : M = [] := List.eq_nil_of_length_eq_zero hlen.symm
      subst this
      obtain ⟨a, c, rfl⟩ := strRow_len h2
      go_enter Tryz.func14, Tryz.ntmps14
      go_wp2
      go_loopw [5] (fun i wr => i = .int .i64 0 ∧ wr = w) (fun _ _ => 0)
      case atStart => exact ⟨rfl, rfl⟩
      case round =>
        obtain ⟨rfl, rfl⟩ := hrel
        go_wp2
        go_ret
        exact ⟨by simp, Fr.refl _ _⟩
    · rcases h2 with ⟨rfl, rfl⟩ | ⟨g', c', rfl, hc'⟩
      · have : L = [] := List.eq_nil_of_length_eq_zero hlen
        subst this
        go_enter Tryz.func14, Tryz.ntmps14
        go_wp2
        go_loopw [5] (fun i wr => i = .int .i64 0 ∧ wr = w) (fun _ _ => 0)
        case atStart => exact ⟨rfl, rfl⟩
        case round =>
          obtain ⟨rfl, rfl⟩ := hrel
          go_wp2
          go_ret
          exact ⟨by simp, Fr.refl _ _⟩
      · obtain ⟨R, hR⟩ : ∃ R, R = decide (L = M) := ⟨_, rfl⟩
        rw [← hR]
        have HR := Lib.hid hR
        have HC := Lib.hid hc
        have HC' := Lib.hid hc'
        have HL := Lib.hid hlen
        rw [← hlen]
        clear hc hc' hR
        go_enter Tryz.func14, Tryz.ntmps14
        clear hlen hm
        go_wp2
        go_loopw [5] (fun i wr => ∃ k : Nat, k ≤ L.length ∧ i = .int .i64 (k : Int) ∧ Fr [] w wr ∧ Hid (L.take k = M.take k)) (fun i _ => L.length - (intOf i).toNat)
        case atStart => exact ⟨0, by omega, rfl, Fr.refl _ _, by show _ = _; simp⟩
        case round =>
          obtain ⟨k, hk, rfl, hF, HJ⟩ := hrel
          by_cases hlt : k < L.length
          · have hlt' : k < M.length := by have := HL.out; omega
            have q1 := HC.out k hlt
            have q2 := HC'.out k hlt'
            have c1 : wr.cell? ⟨g, k, none⟩ = some (.string (bs (L[k]'hlt))) := by rw [World.cell?_of_block (hF.block g (World.block_lt_of_cell? w _ q1) (by simp))]; exact q1
            have c2 : wr.cell? ⟨g', k, none⟩ = some (.string (bs (M[k]'hlt'))) := by rw [World.cell?_of_block (hF.block g' (World.block_lt_of_cell? w _ q2) (by simp))]; exact q2
            have p1 : (k : Int) < (L.length : Int) := by omega
            have p0 : (0 : Int) ≤ (k : Int) := by omega
            clear q1 q2
            by_cases he : L[k]'hlt = M[k]'hlt'
            · rw [he] at c1
              have HE := Lib.hid he
              clear he
              go_wp2_with fail
              go_region
              all_goals go_wp2
              case roundEnd =>
                refine ⟨⟨k + 1, by omega, by go_num, hF.drew, ?_⟩, by simp [intOf]; omega⟩
                show _ = _
                rw [List.take_add_one, List.take_add_one, List.getElem?_eq_getElem hlt, List.getElem?_eq_getElem hlt', HE.out, HJ.out]
            · have hne : bs (L[k]'hlt) ≠ bs (M[k]'hlt') := fun h => he (bs_inj h)
              have e1 := HR.out
              rw [decide_eq_false (fun h => he (by subst h; rfl))] at e1
              subst e1
              obtain ⟨y1, hy1⟩ : ∃ y, y = bs (L[k]'hlt) := ⟨_, rfl⟩
              obtain ⟨y2, hy2⟩ : ∃ y, y = bs (M[k]'hlt') := ⟨_, rfl⟩
              rw [← hy1] at c1 hne
              rw [← hy2] at c2 hne
              have hne2 : (y1.toList == y2.toList) = false := by
                cases h : (y1.toList == y2.toList) with
                | false => rfl
                | true =>
                  refine absurd ?_ hne
                  have := eq_of_beq h
                  rw [← bs_of y1, ← bs_of y2, ← toList_data, ← toList_data, this]
              clear he hy1 hy2
              go_wp2_with fail
              go_region
              all_goals go_wp2
              go_ret
              exact ⟨rfl, hF.drew⟩
          · have hkn : k = L.length := by omega
            have e1 := HR.out
            have e2 := HJ.out
            rw [hkn, List.take_length, HL.out, List.take_length] at e2
            rw [decide_eq_true e2] at e1
            subst e1
            have hnl : ¬ (k : Int) < (L.length : Int) := by omega
            clear e2
            go_wp2_with fail
            go_ret
            exact ⟨rfl, hF⟩
  · obtain ⟨a1, c1, rfl⟩ := strRow_len h1
    obtain ⟨a2, c2, rfl⟩ := strRow_len h2
    have hne : ((L.length : Int) == (M.length : Int)) = false := by
      cases h : ((L.length : Int) == (M.length : Int)) with
      | false => rfl
      | true => exact absurd (eq_of_beq h) (by omega)
    have hd : decide (L = M) = false := decide_eq_false (fun h => hlen (by rw [h]))
    rw [hd]
    clear h1 h2 hlen
    go_enter Tryz.func14, Tryz.ntmps14
    go_wp2
    go_ret
    exact ⟨rfl, Fr.refl _ _⟩

def pickN (c : Int) (n : Nat) : Nat := (if c < 0 then (-(c + 1)) % (n : Int) else c % (n : Int)).toNat
theorem pickN_lt (c : Int) (n : Nat) (h : 0 < n) : pickN c n < n := by
  unfold pickN
  split
  · have := Int.emod_lt_of_pos (-(c + 1)) (show (0 : Int) < n by omega)
    omega
  · have := Int.emod_lt_of_pos c (show (0 : Int) < n by omega)
    omega
end Go.Proofs.YtnlgmekkjibpmaaGreatDoor
/- DERIVED. The law's own: pick. -/
namespace Go.Proofs.YtnlgmekkjibpmaaGreatDoor
open Go Go.RowKit Go.Shelf Go.Proofs.YtnlgmekkjibpmaaGreatDoorW.PrintWords
set_option linter.unusedVariables false
set_option linter.unusedSimpArgs false

set_option maxHeartbeats 400000 in
theorem pick_calls (c : Int) (n : Nat) (hn : 0 < n) (hn2 : n ≤ 1000) (hc1 : -9223372036854775808 ≤ c) (hc2 : c ≤ 9223372036854775807) (w : World) :
    Calls Tryz.prog 11 #[.int .i64 c, .int .i64 (n : Int)] w fun e w' => e = .returned (.int .i64 (pickN c n : Int)) ∧ w' = w := by
  have hnz : ¬ (n : Int) = 0 := by omega
  have hlt := pickN_lt c n hn
  by_cases h : c < 0
  · have e1 : IntKind.i64.wrap (c + 1) = c + 1 := IntWalk.i64_in _ (by omega)
    have e2 : IntKind.i64.wrap (-(c + 1)) = -(c + 1) := IntWalk.i64_in _ (by omega)
    have e3 : Int.tmod (-(c + 1)) (n : Int) = (pickN c n : Int) := by
      rw [Int.tmod_eq_emod_of_nonneg (by omega)]
      unfold pickN
      rw [if_pos h]
      have := Int.emod_nonneg (-(c + 1)) hnz
      omega
    have e4 : IntKind.i64.wrap (pickN c n : Int) = (pickN c n : Int) := IntWalk.i64_in _ (by omega)
    go_enter Tryz.func11, Tryz.ntmps11
    go_wp2_with fail
    go_ret
    exact ⟨rfl, rfl⟩
  · have e3 : Int.tmod c (n : Int) = (pickN c n : Int) := by
      rw [Int.tmod_eq_emod_of_nonneg (by omega)]
      unfold pickN
      rw [if_neg h]
      have := Int.emod_nonneg c hnz
      omega
    have e4 : IntKind.i64.wrap (pickN c n : Int) = (pickN c n : Int) := IntWalk.i64_in _ (by omega)
    go_enter Tryz.func11, Tryz.ntmps11
    go_wp2_with fail
    go_ret
    exact ⟨rfl, rfl⟩
end Go.Proofs.YtnlgmekkjibpmaaGreatDoor
/- DERIVED. disk: Restart. -/
namespace Go.Proofs.YtnlgmekkjibpmaaGreatDoor
open Go Go.RowKit Go.Maps Go.WideMaps Go.Shelf Go.Proofs.YtnlgmekkjibpmaaGreatDoorW.PrintWords
set_option linter.unusedVariables false
set_option linter.unusedSimpArgs false

/-- What a restart leaves of a file. -/
def cutFl (c : Int) (x : Fl) : Fl :=
  ⟨x.bytes.take (x.synced + pickN c (x.bytes.length - x.synced + 1)), (x.bytes.take (x.synced + pickN c (x.bytes.length - x.synced + 1))).length⟩
def rst (keep : List Int) : Nat → List Nm → (Nm → Option Fl) → (Nm → Option Fl)
  | _, [], f => f
  | i, n :: l, f => rst keep (i + 1) l (upd f n ((f n).map (cutFl (keep.getD i 0))))
def Dk.restart (D : Dk) (keep : List Int) : Dk := { D with f := rst keep 0 (names D.f) D.f, armed := 0, off := false }

def IntRow (w : World) (v : Value) (L : List Int) : Prop :=
  ∃ ao c, v = .slice ao L.length c ∧ ∀ j, (h : j < L.length) → (-9223372036854775808 ≤ (L[j]'h) ∧ (L[j]'h) ≤ 9223372036854775807) ∧ ∃ g o, ao = some ⟨g, o, none⟩ ∧ w.cell? ⟨g, o + j, none⟩ = some (.int .i64 (L[j]'h))
theorem rst_some (keep : List Int) : ∀ (l : List Nm) (i : Nat) (f : Nm → Option Fl) (n : Nm), (rst keep i l f n).isSome = (f n).isSome
  | [], i, f, n => rfl
  | a :: l, i, f, n => by
    rw [rst, rst_some keep l (i + 1)]
    unfold upd
    by_cases h : n = a
    · subst h; simp
    · rw [if_neg h]

theorem pickN_0 (n : Nat) : Int.tmod 0 ((n : Int)) = ((pickN 0 n : Nat) : Int) := by simp [pickN]
theorem pickN_pos (c : Int) (n : Nat) (h : 0 ≤ c) : Int.tmod c (n : Int) = ((pickN c n : Nat) : Int) := by
  have := Int.emod_nonneg c (b := (n : Int))
  rw [Int.tmod_eq_emod_of_nonneg h, pickN, if_neg (by omega)]
  by_cases hn : n = 0
  · subst hn; simp; omega
  · rw [Int.toNat_of_nonneg (Int.emod_nonneg _ (by omega))]
theorem pickN_neg (c : Int) (n : Nat) (h : c < 0) (hn : 0 < n) : Int.tmod (-(c + 1)) (n : Int) = ((pickN c n : Nat) : Int) := by
  rw [Int.tmod_eq_emod_of_nonneg (by omega), pickN, if_pos h, Int.toNat_of_nonneg (Int.emod_nonneg _ (by omega))]
theorem ne_set2 {w : World} {p m i j : Nat} {u v : Value} (h : m ≠ p) : ((w.setCell ⟨p, i, none⟩ u).setCell ⟨p, j, none⟩ v).heap[m]? = w.heap[m]? :=
  (Below.heap_setCell _ _ _ m h).trans (Below.heap_setCell _ _ _ m h)
theorem cell_ne_map {w : World} {b o m : Nat} {v : Value} {P : Program} {k : TypeId} {R : Value → Option (DataW Unit × List MemPlace)} {n : Nat} {D : DataW Unit} (h : w.cell? ⟨b, o, none⟩ = some v) (hm : w.ownsMap P k R m n D) : b ≠ m := by
  obtain ⟨es, clock, hb, _⟩ := hm
  rintro rfl
  simp [World.cell?, hb] at h
theorem cut_eq (x : Fl) (xb nb : ByteArray) (c : Int) (pk : Nat) (hx : xb = bs x.bytes) (hpk : pk = pickN c (x.bytes.length - x.synced + 1)) (hnb : nb = xb.extract 0 (x.synced + pk)) : cutFl c x = ⟨nb.data.toList, nb.size⟩ := by
  unfold cutFl
  rw [← hpk]
  have : nb.data.toList = x.bytes.take (x.synced + pk) := by rw [hnb, Lib.extract_from_zero, hx, bs_toList]
  rw [← this, len_toList]
theorem len_cast {a b : Nat} (h : b ≤ a) : (a : Int) - (b : Int) + 1 = ((a - b + 1 : Nat) : Int) := by omega
theorem row_all {w w1 : World} {v : Value} {f : Nm → Option Fl} (h : w1.ownsRow w.heap.size 9 1 v (names f).length (strs (names f))) :
    ∃ ao cap, v = .slice ao (names f).length cap ∧ ∀ j, (hj : j < (names f).length) → ∃ g, ao = some ⟨g, 0, none⟩ ∧ w.heap.size ≤ g ∧ g < w1.heap.size ∧ w1.cell? ⟨g, j, none⟩ = some (.string (bs ((names f)[j]'hj).l)) := by
  rcases h.2 with ⟨rfl, hn⟩ | ⟨g, cap, cur, rfl, hgb, hgc, _⟩
  · exact ⟨none, 0, by rw [hn], fun j hj => by omega⟩
  · exact ⟨_, cap, rfl, fun j hj => ⟨g, rfl, hgb, blk_lt hgc, by rw [h.cellAt j (by omega)]; simp [strs, hj]⟩⟩
theorem look_run1 {w : World} {m k : Nat} {f : Nm → Option Fl} (h : w.ownsMap Tryz.prog 9 fileR m k (dat f)) (n : Nm) (W : World) (hW : W.heap[m]? = w.heap[m]?) :
    (Instr.lookup 56 (.map (some m)) (.string (bs n.l)) false).run Tryz.prog W = .ok (fv ((f n).getD Fl.zero)) W := by
  obtain ⟨es, clock, hb, F, _, hD⟩ := ownsMap_blk h hW
  have hd := dat_at f n
  rw [hD] at hd
  rcases Maps.fit_look false (string_keyed Tryz.underlying9) Tryz.underlying56 (zeroFile W) hb F (keyNm n) with ⟨hrun, _, hat⟩ | ⟨e0, y, _, _, hrun, hRv, hat, _⟩
  · rw [hat] at hd
    have : fv Fl.zero = fv ((f n).getD Fl.zero) := fileR_inv (ps := []) (x := (f n).getD Fl.zero) (by rw [fileR_mk, hd])
    rw [← this]; exact hrun
  · rw [hat] at hd
    rw [← fileR_inv (v := e0.val) (ps := y.2) (x := (f n).getD Fl.zero) (by rw [← hd]; exact hRv)]; exact hrun
set_option maxRecDepth 100000 in
set_option maxHeartbeats 2000000 in
theorem disk_restart (p m : Nat) (D : Dk) (keep : List Int) (v : Value) (w : World) (h : DkIs w p m D) (hk : IntRow w v keep) (hkl : keep.length ≤ 1000000) :
    Calls Tryz.prog 31 #[.pointer (some ⟨p, 0, none⟩), v] w fun e w' => e = .returned (.tuple #[]) ∧ DkIs w' p m (D.restart keep) ∧ Fr [p, m] w w' := by
  obtain ⟨ao, kc, rfl, hkc⟩ := hk
  have H := Lib.hid h
  have hdl := h.lt
  have hnl := names_len D.f
  have HK := Lib.hid hkc
  clear h hkc
  go_enter Tryz.func31, Tryz.ntmps31
  go_wp2_with fail
  refine (disk_list p m D _ H.out).mono ?_
  rintro e w1 ⟨v1, rfl, hrow, hb⟩
  have hf1 : Fr [] w w1 := Fr.of_below hb []
  have HD1 := Lib.hid (H.out.fr hf1 (by simp) (by simp))
  have HF1 := Lib.hid (hf1.mono (T := [p, m]) (by simp))
  have hs1 := hf1.size
  obtain ⟨ao1, cap, rfl, hc⟩ := row_all hrow
  · have HC := Lib.hid hc
    obtain ⟨N, hN⟩ : ∃ N, N = names D.f := ⟨_, rfl⟩
    rw [← hN] at HC hnl ⊢
    have HN := Lib.hid hN
    have HB1 := Lib.hid hb
    clear hc hrow hb hf1 hN
    go_wp2
    go_loopw [11] (fun i wr => ∃ (k : Nat) (f : Nm → Option Fl), k ≤ N.length ∧ i = .int .i64 (k : Int) ∧ DkIs wr p m { D with f := f } ∧ Fr [m] w1 wr ∧ Hid (rst keep 0 N D.f = rst keep k (N.drop k) f) ∧ Hid (∀ n, (f n).isSome = (D.f n).isSome)) (fun i _ => N.length - (intOf i).toNat)
    case atStart => exact ⟨0, D.f, by omega, rfl, HD1.out, Fr.refl _ _, rfl, fun _ => rfl⟩
    case round =>
      obtain ⟨k, f, hk, rfl, hDr, hF, HJ, HS⟩ := hrel
      by_cases hlt : k < N.length
      · obtain ⟨g, rfl, hgb, hgl, q0⟩ := HC.out k hlt
        have hgm : g ≠ m := by omega
        have c0 : wr.cell? ⟨g, k, none⟩ = some (.string (bs (N[k]'hlt).l)) := by rw [World.cell?_of_block (hF.block g hgl (by simpa using hgm))]; exact q0
        have hmem : N[k]'hlt ∈ names D.f := by rw [← HN.out]; exact List.getElem_mem hlt
        have hsome : (D.f (N[k]'hlt)).isSome = true := by rw [← mem_names]; simpa using hmem
        rw [← HS.out] at hsome
        obtain ⟨x, hx⟩ := Option.isSome_iff_exists.1 hsome
        have hJ2 := HJ.out
        rw [List.drop_eq_getElem_cons hlt, rst, hx] at hJ2
        obtain ⟨n, hn⟩ : ∃ n, n = N[k]'hlt := ⟨_, rfl⟩
        rw [← hn] at c0 hx hJ2
        have HJ2 := Lib.hid hJ2
        have hwx := hDr.wf n x hx
        have k1 := look_run1 hDr.map n wr rfl
        simp only [hx, fv, Option.getD_some] at k1
        have m0 := blk_cell (v := .map (some m)) hDr.box (j := 0) rfl
        obtain ⟨xb, hxb⟩ : ∃ xb, xb = bs x.bytes := ⟨_, rfl⟩
        rw [← hxb] at k1
        have hxl : xb.size = x.bytes.length := by rw [hxb, bs_size]
        have HXB := Lib.hid hxb
        clear hxb
        have HDr := Lib.hid hDr
        clear q0 hJ2 hmem hsome hDr HJ hn
        by_cases hki : k < keep.length
        · obtain ⟨⟨b1, b2⟩, g', o', rfl, q1⟩ := HK.out k hki
          obtain ⟨kv, hkv⟩ : ∃ kv, kv = keep[k]'hki := ⟨_, rfl⟩
          rw [← hkv] at b1 b2 q1
          have hgd := Lib.hid (show keep.getD k 0 = kv by rw [hkv]; simp [hki])
          clear hkv
          have hki' : (k : Int) < (keep.length : Int) := by omega
          have hgl2 : g' < w.heap.size := World.block_lt_of_cell? w ⟨g', o' + k, none⟩ q1
          have hgm2 : g' ≠ m := cell_ne_map q1 H.out.map
          have q2 : wr.cell? ⟨g', o' + k, none⟩ = some (.int .i64 kv) := by
            rw [World.cell?_of_block ((hF.block g' (by omega) (by simpa using hgm2)).trans (HB1.out.block g' hgl2))]; exact q1
          have q3 := fun o => cell_alloc wr o q2
          clear q1
          by_cases hneg : kv < 0
          · go_wp2_with fail
            clear q2 q3
            have HX := Lib.hid hx
            clear hx
            obtain ⟨w6, hw6⟩ : ∃ w6, w6 = wr.alloc (.cells #[.string xb, .int .i64 (x.synced : Int)] 82) := ⟨_, rfl⟩
            rw [← hw6]
            have hb6 : w6.heap[wr.heap.size]? = some (.cells #[.string xb, .int .i64 (x.synced : Int)] 82 (0, 0)) := by rw [hw6]; exact heap_new _ _
            have hf6 : Fr [] wr w6 := by rw [hw6]; exact (Fr.refl _ _).alloc _
            have z0 := blk_cell (v := .string xb) hb6 (j := 0) rfl
            have z0f := blk_free hb6 0
            have z1 := blk_cell (v := .int .i64 (x.synced : Int)) hb6 (j := 1) rfl
            have z1f := blk_free hb6 1
            clear hw6
            obtain ⟨pk, hpk⟩ : ∃ pk, pk = pickN kv (x.bytes.length - x.synced + 1) := ⟨_, rfl⟩
            have hplt : pk < x.bytes.length - x.synced + 1 := by rw [hpk]; exact pickN_lt _ _ (by omega)
            have s4 : Int.tmod (-(kv + 1)) ((x.bytes.length : Int) - (x.synced : Int) + 1) = (pk : Int) := by
              rw [hpk]; rw [len_cast hwx.2]; exact pickN_neg _ _ hneg (by omega)
            have HPK := Lib.hid hpk
            clear hpk
            have s1 : IntKind.i64.wrap ((x.bytes.length : Int) - (x.synced : Int)) = (x.bytes.length : Int) - (x.synced : Int) := IntWalk.i64_in _ (by omega)
            have s2 : IntKind.i64.wrap ((x.bytes.length : Int) - (x.synced : Int) + 1) = (x.bytes.length : Int) - (x.synced : Int) + 1 := IntWalk.i64_in _ (by omega)
            have s3 : ¬ (x.bytes.length : Int) - (x.synced : Int) + 1 = 0 := by omega
            have s5 : IntKind.i64.wrap ((x.synced : Int) + (pk : Int)) = (x.synced : Int) + (pk : Int) := IntWalk.i64_in _ (by omega)
            have s6 : (0 : Int) ≤ (x.synced : Int) + (pk : Int) := by omega
            have s7 : (x.synced : Int) + (pk : Int) ≤ (x.bytes.length : Int) := by omega
            have s8 : ((x.synced : Int) + (pk : Int)).toNat = x.synced + pk := by omega
            go_region
            obtain ⟨w7, hw7⟩ : ∃ w7, w7 = (w6.setCell ⟨wr.heap.size, 0, none⟩ (.string (xb.extract 0 (x.synced + pk)))).drew := ⟨_, rfl⟩
            rw [← hw7]
            obtain ⟨nb, hnb⟩ : ∃ nb, nb = xb.extract 0 (x.synced + pk) := ⟨_, rfl⟩
            rw [← hnb] at hw7
            have hnz : nb.size = x.synced + pk := by rw [hnb, ByteArray.size_extract]; omega
            have hb7 : w7.heap[wr.heap.size]? = some (.cells #[.string nb, .int .i64 (x.synced : Int)] 82 (0, 0)) := by rw [hw7]; exact blk_set hb6 0 _
            have hf7 : Fr [] wr w7 := by rw [hw7]; exact (hf6.setCell (.inr (Nat.le_refl _)) _).drew
            have HNB := Lib.hid hnb
            have HNZ := Lib.hid hnz
            have hnzi : (nb.size : Int) = (x.synced : Int) + (pk : Int) := by omega
            clear hw7 z0 z0f z1 z1f hb6 hf6 s1 s2 s3 s4 s5 s6 s7 s8 hnb hnz
            have z0 := blk_cell (v := .string nb) hb7 (j := 0) rfl
            have z1 := blk_cell (v := .int .i64 (x.synced : Int)) hb7 (j := 1) rfl
            have z1f := blk_free hb7 1
            have HN7 := Lib.hid hnzi
            clear hnzi
            go_wp2_with fail
            obtain ⟨w8, hw8⟩ : ∃ w8, w8 = w7.setCell ⟨wr.heap.size, 1, none⟩ (.int .i64 (nb.size : Int)) := ⟨_, rfl⟩
            rw [← hw8]
            have hb8 : w8.heap[wr.heap.size]? = some (.cells #[.string nb, .int .i64 (nb.size : Int)] 82 (0, 0)) := by rw [hw8]; exact blk_set hb7 1 _
            have hf8 : Fr [] wr w8 := by rw [hw8]; exact hf7.setCell (.inr (Nat.le_refl _)) _
            clear hw8 z0 z1 z1f hb7 hf7
            have z0 := blk_cell (v := .string nb) hb8 (j := 0) rfl
            have z1 := blk_cell (v := .int .i64 (nb.size : Int)) hb8 (j := 1) rfl
            have HD8 := HDr.out.fr hf8 (by simp) (by simp)
            have m8 := blk_cell (v := .map (some m)) HD8.box (j := 0) rfl
            have hX : w8.drew.ownsMap Tryz.prog 9 fileR m 3 (dat f) := ownsMap_blk HD8.map rfl
            obtain ⟨W1, hrun, hown1, hf9⟩ := upd_run hX n ⟨nb.data.toList, nb.size⟩
            simp only [fv, bs_of] at hrun
            have HF9 := Lib.hid (hf8.drew.mono (T := [m]) (by simp) |>.trans hf9)
            have HOWN := Lib.hid hown1
            have HB8 := Lib.hid hb8
            clear hb8 hf8 HD8 hX hown1 hf9
            go_region
            go_wp2_with fail
            case roundEnd =>
              have hcut := cut_eq x xb nb kv pk HXB.out HPK.out HNB.out
              have hj := HJ2.out
              rw [hgd.out] at hj
              rw [Option.map_some, hcut] at hj
              have hnz2 := HNZ.out
              refine ⟨⟨k + 1, upd f n (some ⟨nb.data.toList, nb.size⟩), by omega, by go_num, HDr.out.turn HF9.out HOWN.out (Dk.wf_upd HDr.out.wf n _ (by simp only [len_toList]; omega) (by simp only [len_toList]; omega)), hF.trans HF9.out, Lib.hid hj, Lib.hid ?_⟩, by simp [intOf]; omega⟩
              intro n'
              rw [← HS.out n']
              unfold upd
              by_cases hnn : n' = n
              · subst hnn; simp [HX.out]
              · rw [if_neg hnn]
          · go_wp2_with fail
            clear q2 q3
            have HX := Lib.hid hx
            clear hx
            obtain ⟨w6, hw6⟩ : ∃ w6, w6 = wr.alloc (.cells #[.string xb, .int .i64 (x.synced : Int)] 82) := ⟨_, rfl⟩
            rw [← hw6]
            have hb6 : w6.heap[wr.heap.size]? = some (.cells #[.string xb, .int .i64 (x.synced : Int)] 82 (0, 0)) := by rw [hw6]; exact heap_new _ _
            have hf6 : Fr [] wr w6 := by rw [hw6]; exact (Fr.refl _ _).alloc _
            have z0 := blk_cell (v := .string xb) hb6 (j := 0) rfl
            have z0f := blk_free hb6 0
            have z1 := blk_cell (v := .int .i64 (x.synced : Int)) hb6 (j := 1) rfl
            have z1f := blk_free hb6 1
            clear hw6
            obtain ⟨pk, hpk⟩ : ∃ pk, pk = pickN kv (x.bytes.length - x.synced + 1) := ⟨_, rfl⟩
            have hplt : pk < x.bytes.length - x.synced + 1 := by rw [hpk]; exact pickN_lt _ _ (by omega)
            have s4 : Int.tmod kv ((x.bytes.length : Int) - (x.synced : Int) + 1) = (pk : Int) := by
              rw [hpk]; rw [len_cast hwx.2]; exact pickN_pos _ _ (by omega)
            have HPK := Lib.hid hpk
            clear hpk
            have s1 : IntKind.i64.wrap ((x.bytes.length : Int) - (x.synced : Int)) = (x.bytes.length : Int) - (x.synced : Int) := IntWalk.i64_in _ (by omega)
            have s2 : IntKind.i64.wrap ((x.bytes.length : Int) - (x.synced : Int) + 1) = (x.bytes.length : Int) - (x.synced : Int) + 1 := IntWalk.i64_in _ (by omega)
            have s3 : ¬ (x.bytes.length : Int) - (x.synced : Int) + 1 = 0 := by omega
            have s5 : IntKind.i64.wrap ((x.synced : Int) + (pk : Int)) = (x.synced : Int) + (pk : Int) := IntWalk.i64_in _ (by omega)
            have s6 : (0 : Int) ≤ (x.synced : Int) + (pk : Int) := by omega
            have s7 : (x.synced : Int) + (pk : Int) ≤ (x.bytes.length : Int) := by omega
            have s8 : ((x.synced : Int) + (pk : Int)).toNat = x.synced + pk := by omega
            go_region
            obtain ⟨w7, hw7⟩ : ∃ w7, w7 = (w6.setCell ⟨wr.heap.size, 0, none⟩ (.string (xb.extract 0 (x.synced + pk)))).drew := ⟨_, rfl⟩
            rw [← hw7]
            obtain ⟨nb, hnb⟩ : ∃ nb, nb = xb.extract 0 (x.synced + pk) := ⟨_, rfl⟩
            rw [← hnb] at hw7
            have hnz : nb.size = x.synced + pk := by rw [hnb, ByteArray.size_extract]; omega
            have hb7 : w7.heap[wr.heap.size]? = some (.cells #[.string nb, .int .i64 (x.synced : Int)] 82 (0, 0)) := by rw [hw7]; exact blk_set hb6 0 _
            have hf7 : Fr [] wr w7 := by rw [hw7]; exact (hf6.setCell (.inr (Nat.le_refl _)) _).drew
            have HNB := Lib.hid hnb
            have HNZ := Lib.hid hnz
            have hnzi : (nb.size : Int) = (x.synced : Int) + (pk : Int) := by omega
            clear hw7 z0 z0f z1 z1f hb6 hf6 s1 s2 s3 s4 s5 s6 s7 s8 hnb hnz
            have z0 := blk_cell (v := .string nb) hb7 (j := 0) rfl
            have z1 := blk_cell (v := .int .i64 (x.synced : Int)) hb7 (j := 1) rfl
            have z1f := blk_free hb7 1
            have HN7 := Lib.hid hnzi
            clear hnzi
            go_wp2_with fail
            obtain ⟨w8, hw8⟩ : ∃ w8, w8 = w7.setCell ⟨wr.heap.size, 1, none⟩ (.int .i64 (nb.size : Int)) := ⟨_, rfl⟩
            rw [← hw8]
            have hb8 : w8.heap[wr.heap.size]? = some (.cells #[.string nb, .int .i64 (nb.size : Int)] 82 (0, 0)) := by rw [hw8]; exact blk_set hb7 1 _
            have hf8 : Fr [] wr w8 := by rw [hw8]; exact hf7.setCell (.inr (Nat.le_refl _)) _
            clear hw8 z0 z1 z1f hb7 hf7
            have z0 := blk_cell (v := .string nb) hb8 (j := 0) rfl
            have z1 := blk_cell (v := .int .i64 (nb.size : Int)) hb8 (j := 1) rfl
            have HD8 := HDr.out.fr hf8 (by simp) (by simp)
            have m8 := blk_cell (v := .map (some m)) HD8.box (j := 0) rfl
            have hX : w8.drew.ownsMap Tryz.prog 9 fileR m 3 (dat f) := ownsMap_blk HD8.map rfl
            obtain ⟨W1, hrun, hown1, hf9⟩ := upd_run hX n ⟨nb.data.toList, nb.size⟩
            simp only [fv, bs_of] at hrun
            have HF9 := Lib.hid (hf8.drew.mono (T := [m]) (by simp) |>.trans hf9)
            have HOWN := Lib.hid hown1
            have HB8 := Lib.hid hb8
            clear hb8 hf8 HD8 hX hown1 hf9
            go_region
            go_wp2_with fail
            case roundEnd =>
              have hcut := cut_eq x xb nb kv pk HXB.out HPK.out HNB.out
              have hj := HJ2.out
              rw [hgd.out] at hj
              rw [Option.map_some, hcut] at hj
              have hnz2 := HNZ.out
              refine ⟨⟨k + 1, upd f n (some ⟨nb.data.toList, nb.size⟩), by omega, by go_num, HDr.out.turn HF9.out HOWN.out (Dk.wf_upd HDr.out.wf n _ (by simp only [len_toList]; omega) (by simp only [len_toList]; omega)), hF.trans HF9.out, Lib.hid hj, Lib.hid ?_⟩, by simp [intOf]; omega⟩
              intro n'
              rw [← HS.out n']
              unfold upd
              by_cases hnn : n' = n
              · subst hnn; simp [HX.out]
              · rw [if_neg hnn]
        · have hki' : ¬ (k : Int) < (keep.length : Int) := by omega
          have hgd := Lib.hid (show keep.getD k 0 = 0 by simp [Nat.not_lt.1 hki])
          · go_wp2_with fail
            have HX := Lib.hid hx
            clear hx
            obtain ⟨w6, hw6⟩ : ∃ w6, w6 = wr.alloc (.cells #[.string xb, .int .i64 (x.synced : Int)] 82) := ⟨_, rfl⟩
            rw [← hw6]
            have hb6 : w6.heap[wr.heap.size]? = some (.cells #[.string xb, .int .i64 (x.synced : Int)] 82 (0, 0)) := by rw [hw6]; exact heap_new _ _
            have hf6 : Fr [] wr w6 := by rw [hw6]; exact (Fr.refl _ _).alloc _
            have z0 := blk_cell (v := .string xb) hb6 (j := 0) rfl
            have z0f := blk_free hb6 0
            have z1 := blk_cell (v := .int .i64 (x.synced : Int)) hb6 (j := 1) rfl
            have z1f := blk_free hb6 1
            clear hw6
            obtain ⟨pk, hpk⟩ : ∃ pk, pk = pickN 0 (x.bytes.length - x.synced + 1) := ⟨_, rfl⟩
            have hplt : pk < x.bytes.length - x.synced + 1 := by rw [hpk]; exact pickN_lt _ _ (by omega)
            have s4 : Int.tmod 0 ((x.bytes.length : Int) - (x.synced : Int) + 1) = (pk : Int) := by
              rw [hpk]; rw [len_cast hwx.2]; exact pickN_0 _
            have HPK := Lib.hid hpk
            clear hpk
            have s1 : IntKind.i64.wrap ((x.bytes.length : Int) - (x.synced : Int)) = (x.bytes.length : Int) - (x.synced : Int) := IntWalk.i64_in _ (by omega)
            have s2 : IntKind.i64.wrap ((x.bytes.length : Int) - (x.synced : Int) + 1) = (x.bytes.length : Int) - (x.synced : Int) + 1 := IntWalk.i64_in _ (by omega)
            have s3 : ¬ (x.bytes.length : Int) - (x.synced : Int) + 1 = 0 := by omega
            have s5 : IntKind.i64.wrap ((x.synced : Int) + (pk : Int)) = (x.synced : Int) + (pk : Int) := IntWalk.i64_in _ (by omega)
            have s6 : (0 : Int) ≤ (x.synced : Int) + (pk : Int) := by omega
            have s7 : (x.synced : Int) + (pk : Int) ≤ (x.bytes.length : Int) := by omega
            have s8 : ((x.synced : Int) + (pk : Int)).toNat = x.synced + pk := by omega
            go_region
            obtain ⟨w7, hw7⟩ : ∃ w7, w7 = (w6.setCell ⟨wr.heap.size, 0, none⟩ (.string (xb.extract 0 (x.synced + pk)))).drew := ⟨_, rfl⟩
            rw [← hw7]
            obtain ⟨nb, hnb⟩ : ∃ nb, nb = xb.extract 0 (x.synced + pk) := ⟨_, rfl⟩
            rw [← hnb] at hw7
            have hnz : nb.size = x.synced + pk := by rw [hnb, ByteArray.size_extract]; omega
            have hb7 : w7.heap[wr.heap.size]? = some (.cells #[.string nb, .int .i64 (x.synced : Int)] 82 (0, 0)) := by rw [hw7]; exact blk_set hb6 0 _
            have hf7 : Fr [] wr w7 := by rw [hw7]; exact (hf6.setCell (.inr (Nat.le_refl _)) _).drew
            have HNB := Lib.hid hnb
            have HNZ := Lib.hid hnz
            have hnzi : (nb.size : Int) = (x.synced : Int) + (pk : Int) := by omega
            clear hw7 z0 z0f z1 z1f hb6 hf6 s1 s2 s3 s4 s5 s6 s7 s8 hnb hnz
            have z0 := blk_cell (v := .string nb) hb7 (j := 0) rfl
            have z1 := blk_cell (v := .int .i64 (x.synced : Int)) hb7 (j := 1) rfl
            have z1f := blk_free hb7 1
            have HN7 := Lib.hid hnzi
            clear hnzi
            go_wp2_with fail
            obtain ⟨w8, hw8⟩ : ∃ w8, w8 = w7.setCell ⟨wr.heap.size, 1, none⟩ (.int .i64 (nb.size : Int)) := ⟨_, rfl⟩
            rw [← hw8]
            have hb8 : w8.heap[wr.heap.size]? = some (.cells #[.string nb, .int .i64 (nb.size : Int)] 82 (0, 0)) := by rw [hw8]; exact blk_set hb7 1 _
            have hf8 : Fr [] wr w8 := by rw [hw8]; exact hf7.setCell (.inr (Nat.le_refl _)) _
            clear hw8 z0 z1 z1f hb7 hf7
            have z0 := blk_cell (v := .string nb) hb8 (j := 0) rfl
            have z1 := blk_cell (v := .int .i64 (nb.size : Int)) hb8 (j := 1) rfl
            have HD8 := HDr.out.fr hf8 (by simp) (by simp)
            have m8 := blk_cell (v := .map (some m)) HD8.box (j := 0) rfl
            have hX : w8.drew.ownsMap Tryz.prog 9 fileR m 3 (dat f) := ownsMap_blk HD8.map rfl
            obtain ⟨W1, hrun, hown1, hf9⟩ := upd_run hX n ⟨nb.data.toList, nb.size⟩
            simp only [fv, bs_of] at hrun
            have HF9 := Lib.hid (hf8.drew.mono (T := [m]) (by simp) |>.trans hf9)
            have HOWN := Lib.hid hown1
            have HB8 := Lib.hid hb8
            clear hb8 hf8 HD8 hX hown1 hf9
            go_region
            go_wp2_with fail
            case roundEnd =>
              have hcut := cut_eq x xb nb 0 pk HXB.out HPK.out HNB.out
              have hj := HJ2.out
              rw [hgd.out] at hj
              rw [Option.map_some, hcut] at hj
              have hnz2 := HNZ.out
              refine ⟨⟨k + 1, upd f n (some ⟨nb.data.toList, nb.size⟩), by omega, by go_num, HDr.out.turn HF9.out HOWN.out (Dk.wf_upd HDr.out.wf n _ (by simp only [len_toList]; omega) (by simp only [len_toList]; omega)), hF.trans HF9.out, Lib.hid hj, Lib.hid ?_⟩, by simp [intOf]; omega⟩
              intro n'
              rw [← HS.out n']
              unfold upd
              by_cases hnn : n' = n
              · subst hnn; simp [HX.out]
              · rw [if_neg hnn]
      · obtain rfl : k = N.length := by omega
        have b0 := hDr.box
        have e3 := blk_cell (v := .bool D.off) b0 (j := 3) rfl
        have e3f := blk_free b0 3
        have s3 := blk_set b0 3 (.bool false)
        have e2 := blk_cell (v := .int .i64 (D.armed : Int)) s3 (j := 2) rfl
        have e2f := blk_free s3 2
        have S4 := Lib.hid (blk_set s3 2 (.int .i64 0))
        have HDr := Lib.hid hDr
        clear hDr
        clear b0 s3
        go_wp2_with fail
        go_end0
        refine ⟨rfl, ?_, ?_⟩
        · have hj := HJ.out
          rw [List.drop_length, rst] at hj
          unfold Dk.restart
          rw [← HN.out, hj]
          exact ⟨S4.out, ownsMap_blk HDr.out.map (ne_set2 hdl.2.2.symm), HDr.out.wf⟩
        · exact ((HF1.out.trans (hF.mono (by simp))).setCell (.inl (by simp)) _).setCell (.inl (by simp)) _
end Go.Proofs.YtnlgmekkjibpmaaGreatDoor
/- DERIVED. wal, plainly: frames are read as they were laid; what is torn off a frame is seen to be torn. -/
namespace Go.Proofs.YtnlgmekkjibpmaaGreatDoor
set_option linter.unusedVariables false
set_option linter.unusedSimpArgs false

theorem ofNat_toNat {n : Nat} (h : n < 256) : (UInt8.ofNat n).toNat = n := by rw [UInt8.toNat_ofNat']; exact Nat.mod_eq_of_lt h

theorem dec_enc (k : Nat) : ∀ (u i : Nat) (r : List UInt8), u < 128 ^ k → i + k ≤ 9 → (i = 0 ∨ u ≠ 0) → decG i (encN u ++ r) = some (u * 128 ^ i, i + (encN u).length) := by
  induction k with
  | zero =>
    intro u i r hu hi h0
    have hu0 : u = 0 := by simpa using hu
    subst hu0
    obtain rfl : i = 0 := by rcases h0 with h | h; exact h; exact absurd rfl h
    rw [encN_small (by omega)]
    simp [decG]
  | succ k ih =>
    intro u i r hu hi h0
    by_cases h : u < 128
    · rw [encN_small h]
      have e := ofNat_toNat (n := u) (by omega)
      rw [List.singleton_append, decG, e, if_neg (by omega), if_neg (by omega), if_pos h, if_neg (by rcases h0 with h0 | h0 <;> omega)]
      rfl
    · rw [encN_big h, List.cons_append, decG]
      have e := ofNat_toNat (n := u % 128 + 128) (by omega)
      rw [e, if_neg (by omega), if_neg (by omega), if_neg (by omega)]
      rw [ih (u / 128) (i + 1) r (by rw [Nat.div_lt_iff_lt_mul (by omega)]; rw [Nat.pow_succ] at hu; exact hu) (by omega) (.inr (by omega))]
      simp only [Option.map_some, List.length_cons, Option.some.injEq, Prod.mk.injEq]
      constructor
      · rw [Nat.add_sub_cancel, Nat.pow_succ, Nat.mul_comm (128 ^ i) 128, ← Nat.mul_assoc, ← Nat.add_mul]
        congr 1
        omega
      · omega
theorem dec_torn (k : Nat) : ∀ (u i j : Nat), u < 128 ^ k → i + k ≤ 9 → j < (encN u).length → decG i ((encN u).take j) = none := by
  induction k with
  | zero =>
    intro u i j hu hi hj
    have hu0 : u = 0 := by simpa using hu
    subst hu0
    rw [encN_small (by omega)] at hj ⊢
    obtain rfl : j = 0 := by simpa using hj
    rfl
  | succ k ih =>
    intro u i j hu hi hj
    by_cases h : u < 128
    · rw [encN_small h] at hj ⊢
      obtain rfl : j = 0 := by simpa using hj
      rfl
    · rw [encN_big h] at hj ⊢
      cases j with
      | zero => rfl
      | succ j =>
        rw [List.take_succ_cons, decG]
        have e := ofNat_toNat (n := u % 128 + 128) (by omega)
        rw [e, if_neg (by omega), if_neg (by omega), if_neg (by omega)]
        rw [ih (u / 128) (i + 1) j (by rw [Nat.div_lt_iff_lt_mul (by omega)]; rw [Nat.pow_succ] at hu; exact hu) (by omega) (by simpa using hj)]
        rfl

theorem zz_nat (n : Nat) : zz (n : Int) = 2 * n := by unfold zz; rw [if_pos (by omega)]; simp
theorem unzz_zz (n : Nat) : unzz (2 * n) = (n : Int) := by
  unfold unzz; rw [if_pos (by omega)]; congr 1; omega
theorem numB_len (n k : Nat) (h : 2 * n < 128 ^ (k + 1)) : (numB (n : Int)).length ≤ k + 1 := by
  unfold numB; rw [zz_nat]; exact encN_length k _ h
theorem numB_pos (n : Nat) : 1 ≤ (numB (n : Int)).length := by
  unfold numB; rw [encN]; split <;> simp
theorem dec_num (n : Nat) (h : n ≤ 2199023255552) (r : List UInt8) : decG 0 (numB (n : Int) ++ r) = some (2 * n, (numB (n : Int)).length) := by
  unfold numB
  rw [zz_nat, dec_enc 9 (2 * n) 0 r (by rw [show (128 : Nat) ^ 9 = 9223372036854775808 by decide]; omega) (by omega) (.inl rfl)]
  simp

theorem layB_eq (p : List UInt8) : layB p = numB (p.length : Int) ++ (p ++ be4 (sumB (textB p))) := by
  simp [layB, sealedB, textB]
theorem layB_length (p : List UInt8) : (layB p).length = (numB (p.length : Int)).length + p.length + 4 := by
  rw [layB_eq]; simp [be4]; omega
theorem take_lay (p r : List UInt8) (h : p.length ≤ 4096) : takeB (layB p ++ r) = (p, (layB p).length, 0) := by
  unfold takeB
  have hl := layB_length p
  rw [show layB p ++ r = numB (p.length : Int) ++ ((p ++ be4 (sumB (textB p))) ++ r) by rw [layB_eq, List.append_assoc], dec_num _ (by omega)]
  simp only [unzz_zz, Int.toNat_natCast]
  rw [if_neg (by omega), if_neg (by simp [be4]; omega)]
  have e1 : (numB (p.length : Int) ++ ((p ++ be4 (sumB (textB p))) ++ r)).take ((numB (p.length : Int)).length + p.length) = textB p := by
    rw [show numB (p.length : Int) ++ ((p ++ be4 (sumB (textB p))) ++ r) = textB p ++ (be4 (sumB (textB p)) ++ r) by simp [textB]]
    exact List.take_left' (by simp [textB])
  have e2 : (numB (p.length : Int) ++ ((p ++ be4 (sumB (textB p))) ++ r)).take ((numB (p.length : Int)).length + p.length + 4) = layB p := by
    rw [show numB (p.length : Int) ++ ((p ++ be4 (sumB (textB p))) ++ r) = layB p ++ r by rw [layB_eq]; simp]
    exact List.take_left' (by omega)
  rw [e1, e2, if_pos (show sealedB (textB p) = layB p from rfl), hl]
  congr 1
  rw [List.drop_left, List.append_assoc]
  exact List.take_left' rfl
theorem take_torn (p : List UInt8) (h : p.length ≤ 4096) (j : Nat) (hj : j < (layB p).length) : takeB ((layB p).take j) = ([], 0, 30) := by
  unfold takeB
  have hl := layB_length p
  have hk : (numB (p.length : Int)).length ≤ 2 := numB_len _ 1 (by rw [show (128 : Nat) ^ (1 + 1) = 16384 by decide]; omega)
  have hk1 := numB_pos p.length
  by_cases hjk : j < (numB (p.length : Int)).length
  · have e : (layB p).take j = (numB (p.length : Int)).take j := by rw [layB_eq, List.take_append_of_le_length (by omega)]
    rw [e]
    unfold numB at hjk ⊢
    rw [zz_nat] at hjk ⊢
    rw [dec_torn 9 (2 * p.length) 0 j (by rw [show (128 : Nat) ^ 9 = 9223372036854775808 by decide]; omega) (by omega) hjk]
    simp only
    rw [if_pos]
    unfold numB at hk
    rw [zz_nat] at hk
    by_cases h0 : j = 0
    · left; simp [h0]
    · right; rw [List.length_take]; omega
  · have e : (layB p).take j = numB (p.length : Int) ++ (p ++ be4 (sumB (textB p))).take (j - (numB (p.length : Int)).length) := by
      rw [layB_eq, List.take_append, List.take_of_length_le (by omega)]
    rw [e, dec_num _ (by omega)]
    simp only [unzz_zz, Int.toNat_natCast]
    rw [if_neg (by omega), if_pos (by rw [← e, List.length_take]; omega)]

/-- An entry that may be laid. -/
def Ent.ok (x : Ent) : Prop := (numB (x.1 : Int)).length + x.2.length ≤ 4096 ∧ x.1 ≤ 1099511627776
def pl (x : Ent) : List UInt8 := numB (x.1 : Int) ++ x.2
def fr (x : Ent) : List UInt8 := layB (pl x)
def flat (E : List Ent) : List UInt8 := (E.map fr).flatten
theorem pl_le {x : Ent} (h : x.ok) : (pl x).length ≤ 4096 := by rw [pl, List.length_append]; exact h.1
theorem fr_len (x : Ent) : 6 ≤ (fr x).length := by
  have h1 := numB_pos (pl x).length
  have h2 := numB_pos x.1
  have h3 : (pl x).length = (numB (x.1 : Int)).length + x.2.length := by rw [pl, List.length_append]
  rw [fr, layB_length]; omega
theorem fr_le {x : Ent} (h : x.ok) : (fr x).length ≤ x.2.length + 12 := by
  have h1 : (numB ((pl x).length : Int)).length ≤ 2 := numB_len _ 1 (by rw [show (128 : Nat) ^ (1 + 1) = 16384 by decide]; have := pl_le h; omega)
  have h2 : (numB (x.1 : Int)).length ≤ 6 := numB_len _ 5 (by rw [show (128 : Nat) ^ (5 + 1) = 4398046511104 by decide]; have := h.2; omega)
  have h3 : (pl x).length = (numB (x.1 : Int)).length + x.2.length := by rw [pl, List.length_append]
  rw [fr, layB_length]; omega
theorem ent_pl {x : Ent} (h : x.ok) : entB (pl x) = some x := by
  unfold entB pl
  rw [dec_num _ (by have := h.2; omega)]
  simp only [unzz_zz, Int.toNat_natCast]
  have := h.2
  rw [if_neg (by omega), List.drop_left]
theorem parse_pl : ∀ (E : List Ent), (∀ x ∈ E, x.ok) → parseB (E.map pl) = some E
  | [], _ => rfl
  | x :: E, h => by
    rw [List.map_cons, parseB, ent_pl (h x (by simp)), parse_pl E fun y hy => h y (by simp [hy])]
    rfl
theorem all_flat : ∀ (E : List Ent) (t : List UInt8) (x : Ent) (j f : Nat), (∀ x ∈ E, x.ok) → x.ok → t = (fr x).take j → j < (fr x).length → (flat E ++ t).length ≤ f →
    allB f (flat E ++ t) = (E.map pl, (flat E).length, if t = [] then 0 else 30)
  | [], t, x, j, f, hE, hx, ht, hj, hf => by
    simp only [flat, List.map_nil, List.flatten_nil, List.nil_append, List.length_nil]
    cases f with
    | zero =>
      have : t = [] := List.eq_nil_of_length_eq_zero (by simp [flat] at hf; simpa using hf)
      simp [allB, this]
    | succ f =>
      rw [allB]
      by_cases h0 : t = []
      · rw [if_pos h0, if_pos h0]
      · rw [if_neg h0, if_neg h0]
        have : takeB t = ([], 0, 30) := by rw [ht]; exact take_torn (pl x) (pl_le hx) j hj
        rw [this]
        simp
  | y :: E, t, x, j, f, hE, hx, ht, hj, hf => by
    have e : flat (y :: E) ++ t = layB (pl y) ++ (flat E ++ t) := by simp [flat, fr]
    have hy := hE y (by simp)
    have hfl := fr_len y
    have hln : (flat (y :: E)).length = (fr y).length + (flat E).length := by simp [flat]
    rw [e] at hf ⊢
    rw [List.length_append] at hf
    have hfr : (layB (pl y)).length = (fr y).length := rfl
    rw [hfr] at hf
    cases f with
    | zero => omega
    | succ f =>
      rw [allB, if_neg (by intro h0; have := congrArg List.length h0; simp only [List.length_append, List.length_nil] at this; omega)]
      rw [take_lay _ _ (pl_le hy)]
      simp only [List.drop_left, if_true]
      rw [all_flat E t x j f (fun z hz => hE z (by simp [hz])) hx ht hj (by omega)]
      simp only [List.map_cons, hln, hfr]

theorem made_ok {x : Ent} (h : x.ok) : madeB x.1 x.2 = (fr x, 0) := by
  have h1 := h.1; have h2 := h.2
  unfold madeB
  rw [if_neg (by omega)]
  rfl
theorem flat_append (E F : List Ent) : flat (E ++ F) = flat E ++ flat F := by simp [flat]
theorem flat_one (x : Ent) : flat [x] = fr x := by simp [flat]
end Go.Proofs.YtnlgmekkjibpmaaGreatDoor
/- DERIVED. wal, plainly: what a disk bears, and what each call makes of it, the power going off or not. -/
namespace Go.Proofs.YtnlgmekkjibpmaaGreatDoor
set_option linter.unusedVariables false
set_option linter.unusedSimpArgs false

structure Has (a : Ent) (E : List Ent) (q : Nat) : Prop where
  run : ∃ e0, 1 ≤ e0 ∧ e0 ≤ a.1 + 1 ∧ a.1 + 1 ≤ e0 + E.length ∧ q + 1 = e0 + E.length ∧ ∀ i, (h : i < E.length) → (E[i]'h).1 = e0 + i
  ok : ∀ x ∈ E, x.ok
  aok : a.ok
theorem Has.le {a : Ent} {E : List Ent} {q : Nat} (h : Has a E q) : a.1 ≤ q := by
  obtain ⟨e0, h1, h2, h3, h4, _⟩ := h.run; omega
theorem Has.none : Has (0, []) [] 0 := ⟨⟨1, by simp, by simp, by simp, by simp, fun i h => by simp at h⟩, fun x h => by simp at h, by unfold Ent.ok; decide +kernel⟩
theorem Has.append {a : Ent} {E : List Ent} {q : Nat} (h : Has a E q) {x : Ent} (hx : x.ok) (hq : x.1 = q + 1) : Has a (E ++ [x]) (q + 1) := by
  obtain ⟨e0, h1, h2, h3, h4, h5⟩ := h.run
  refine ⟨⟨e0, h1, h2, by simp; omega, by simp; omega, fun i hi => ?_⟩, fun y hy => ?_, h.aok⟩
  · by_cases hlt : i < E.length
    · rw [List.getElem_append_left hlt]; exact h5 i hlt
    · have : i = E.length := by simp at hi; omega
      subst this
      simp; omega
  · simp at hy
    rcases hy with hy | rfl
    · exact h.ok y hy
    · exact hx
theorem Has.check {a : Ent} {E : List Ent} {q : Nat} (h : Has a E q) {x : Ent} (hx : x.ok) (hq : x.1 = q) : Has x E q ∧ Has x [] q := by
  obtain ⟨e0, h1, h2, h3, h4, h5⟩ := h.run
  exact ⟨⟨⟨e0, h1, by omega, by omega, h4, h5⟩, h.ok, hx⟩, ⟨⟨q + 1, by omega, by omega, by simp; omega, by simp, fun i h => by simp at h⟩, fun x h => by simp at h, hx⟩⟩
theorem Has.ordered {a : Ent} {E : List Ent} {q : Nat} (h : Has a E q) : Ordered E a.1 := by
  obtain ⟨e0, h1, h2, h3, h4, h5⟩ := h.run
  intro i hi
  have := h5 i hi
  have := h5 0 (by omega)
  omega
theorem Has.mem {a : Ent} {E : List Ent} {q : Nat} (h : Has a E q) {x : Ent} (hx : x ∈ E) : x.1 ≤ q := by
  obtain ⟨e0, h1, h2, h3, h4, h5⟩ := h.run
  obtain ⟨i, hi, rfl⟩ := List.mem_iff_getElem.1 hx
  have := h5 i hi
  omega
theorem Has.kept_end {a : Ent} {E : List Ent} {q : Nat} (h : Has a E q) (hq : a.1 = q) : keptF a.1 E = [] := by
  unfold keptF
  rw [List.filter_eq_nil_iff]
  intro x hx
  have := h.mem hx
  simp; omega
theorem Has.kept_next {a : Ent} {E : List Ent} {q : Nat} (h : Has a E q) {x : Ent} (hq : x.1 = q + 1) : keptF a.1 (E ++ [x]) = keptF a.1 E ++ [x] := by
  have := h.le
  unfold keptF
  rw [List.filter_append]
  congr 1
  simp; omega
theorem Has.last {a : Ent} {E : List Ent} {q : Nat} (h : Has a E q) : lastSeq a.1 (keptF a.1 E) = q := by
  obtain ⟨e0, h1, h2, h3, h4, h5⟩ := h.run
  rcases List.eq_nil_or_concat E with rfl | ⟨F, x, rfl⟩
  · simp [keptF, lastSeq] at h3 h4 ⊢; omega
  · have hx : x.1 = q := by
      have := h5 F.length (by simp)
      simp at this h4
      omega
    by_cases hq : a.1 = q
    · rw [h.kept_end hq]; simp [lastSeq, hq]
    · have hle := h.le
      unfold keptF
      rw [List.concat_eq_append, List.filter_append]
      have : List.filter (fun x => decide (a.1 < x.1)) [x] = [x] := by simp; omega
      rw [this]
      unfold lastSeq
      rw [List.getLast?_concat]
      simpa using hx

def SnapIs (D : Dk) (a : Ent) : Prop := (D.f .snap = none ∧ a = (0, [])) ∨ D.f .snap = some ⟨fr a, (fr a).length⟩
def LogIs (D : Dk) (E : List Ent) (t : List UInt8) : Prop :=
  (D.f .log = none ∧ E = [] ∧ t = []) ∨ ∃ s, D.f .log = some ⟨flat E ++ t, s⟩ ∧ (flat E).length ≤ s ∧ s ≤ (flat E ++ t).length
theorem SnapIs.same {D D' : Dk} {a : Ent} (h : SnapIs D a) (hf : D'.f .snap = D.f .snap) : SnapIs D' a := by
  unfold SnapIs at h ⊢; rw [hf]; exact h
theorem LogIs.same {D D' : Dk} {E : List Ent} {t : List UInt8} (h : LogIs D E t) (hf : D'.f .log = D.f .log) : LogIs D' E t := by
  unfold LogIs at h ⊢; rw [hf]; exact h

theorem doing_cases (D : Dk) (f : Dk → Nat × Dk) (hoff : D.off = false) :
    (D.doing f = (100, D.tick) ∧ D.armed ≠ 0 ∧ D.tick.off = true) ∨ (D.doing f = f D.tick ∧ D.tick.off = false) := by
  unfold Dk.doing
  rw [if_neg (by simp [hoff])]
  by_cases h : D.acts + 1 = D.armed
  · left; rw [if_pos h]; exact ⟨rfl, by omega, by simp [Dk.tick, h]⟩
  · right; rw [if_neg h]; exact ⟨rfl, by simp [Dk.tick, h]⟩
theorem append_cases0 (D : Dk) (n : Nm) (s : List UInt8) (hoff : D.off = false) (hs : ((D.f n).getD Fl.zero).bytes.length + s.length ≤ 65536) :
    ((D.append n s).1 = 100 ∧ D.armed ≠ 0 ∧ (D.append n s).2.off = true ∧ (D.append n s).2.f = D.f) ∨
    ((D.append n s).1 = 0 ∧ (D.append n s).2.off = false ∧ (D.append n s).2.armed = D.armed ∧
      (D.append n s).2.f = upd D.f n (some ⟨((D.f n).getD Fl.zero).bytes ++ s, ((D.f n).getD Fl.zero).synced⟩)) := by
  unfold Dk.append
  rcases doing_cases D (Dk.app0 n s) hoff with ⟨h, h1, h2⟩ | ⟨h, h2⟩
  · left; rw [h]; exact ⟨rfl, h1, h2, rfl⟩
  · right
    rw [h]
    have : ¬ 65536 < ((D.tick.f n).getD Fl.zero).bytes.length + s.length := by show ¬ 65536 < ((D.f n).getD Fl.zero).bytes.length + s.length; omega
    unfold Dk.app0
    rw [if_neg this]
    exact ⟨rfl, h2, rfl, rfl⟩
theorem sync_cases0 (D : Dk) (n : Nm) (x : Fl) (hoff : D.off = false) (hx : D.f n = some x) :
    ((D.sync n).1 = 100 ∧ D.armed ≠ 0 ∧ (D.sync n).2.off = true ∧ (D.sync n).2.f = D.f) ∨
    ((D.sync n).1 = 0 ∧ (D.sync n).2.off = false ∧ (D.sync n).2.armed = D.armed ∧ (D.sync n).2.f = upd D.f n (some ⟨x.bytes, x.bytes.length⟩)) := by
  unfold Dk.sync
  rcases doing_cases D (Dk.sync0 n) hoff with ⟨h, h1, h2⟩ | ⟨h, h2⟩
  · left; rw [h]; exact ⟨rfl, h1, h2, rfl⟩
  · right
    rw [h]
    have : D.tick.f n = some x := hx
    unfold Dk.sync0
    rw [this]
    exact ⟨rfl, h2, rfl, rfl⟩
theorem remove_cases0 (D : Dk) (n : Nm) (hoff : D.off = false) (hx : (D.f n).isSome = true) :
    ((D.remove n).1 = 100 ∧ D.armed ≠ 0 ∧ (D.remove n).2.off = true ∧ (D.remove n).2.f = D.f) ∨
    ((D.remove n).1 = 0 ∧ (D.remove n).2.off = false ∧ (D.remove n).2.armed = D.armed ∧ (D.remove n).2.f = upd D.f n none) := by
  obtain ⟨x, hx⟩ := Option.isSome_iff_exists.1 hx
  unfold Dk.remove
  rcases doing_cases D (Dk.rem0 n) hoff with ⟨h, h1, h2⟩ | ⟨h, h2⟩
  · left; rw [h]; exact ⟨rfl, h1, h2, rfl⟩
  · right
    rw [h]
    have : D.tick.f n = some x := hx
    unfold Dk.rem0
    rw [this]
    exact ⟨rfl, h2, rfl, rfl⟩
theorem rename_cases0 (D : Dk) (a b : Nm) (x : Fl) (hoff : D.off = false) (hx : D.f a = some x) :
    ((D.rename a b).1 = 100 ∧ D.armed ≠ 0 ∧ (D.rename a b).2.off = true ∧ (D.rename a b).2.f = D.f) ∨
    ((D.rename a b).1 = 0 ∧ (D.rename a b).2.off = false ∧ (D.rename a b).2.armed = D.armed ∧ (D.rename a b).2.f = upd (upd D.f a none) b (some x)) := by
  unfold Dk.rename
  rcases doing_cases D (Dk.ren0 a b) hoff with ⟨h, h1, h2⟩ | ⟨h, h2⟩
  · left; rw [h]; exact ⟨rfl, h1, h2, rfl⟩
  · right
    rw [h]
    have : D.tick.f a = some x := hx
    unfold Dk.ren0
    rw [this]
    exact ⟨rfl, h2, rfl, rfl⟩

theorem renew_cases (D : Dk) (n : Nm) (s : List UInt8) (hn : n ≠ .new) (hoff : D.off = false) (hnew : D.f .new = none) (hs : s.length ≤ 65536) :
    ((D.renew n s).1 = 100 ∧ D.armed ≠ 0 ∧ (D.renew n s).2.off = true ∧ ∀ k, k ≠ .new → (D.renew n s).2.f k = D.f k) ∨
    ((D.renew n s).1 = 0 ∧ (D.renew n s).2.off = false ∧ (D.renew n s).2.armed = D.armed ∧ (D.renew n s).2.f .new = none ∧ (D.renew n s).2.f n = some ⟨s, s.length⟩ ∧
      ∀ k, k ≠ .new → k ≠ n → (D.renew n s).2.f k = D.f k) := by
  unfold Dk.renew
  rcases append_cases0 D .new s hoff (by rw [hnew]; simpa [Fl.zero] using hs) with ⟨h1, h2, h3, h4⟩ | ⟨h1, h3, h2, h4⟩
  · left
    rw [if_pos (by omega)]
    exact ⟨h1, h2, h3, fun k _ => by rw [h4]⟩
  · rw [if_neg (by omega)]
    generalize hD1 : (D.append .new s).2 = D1 at *
    rw [hnew] at h4
    have hf1 : D1.f .new = some ⟨s, 0⟩ := by rw [h4, upd_same]; simp [Fl.zero]
    have ho1 : ∀ k, k ≠ .new → D1.f k = D.f k := fun k hk => by rw [h4, upd_other _ _ _ _ hk]
    rcases sync_cases0 D1 .new _ h3 hf1 with ⟨g1, g2, g3, g4⟩ | ⟨g1, g3, g2, g4⟩
    · left
      rw [if_pos (by omega)]
      exact ⟨g1, by omega, g3, fun k hk => by rw [g4, ho1 k hk]⟩
    · rw [if_neg (by omega)]
      generalize hD2 : (D1.sync .new).2 = D2 at *
      have hf2 : D2.f .new = some ⟨s, s.length⟩ := by rw [g4, upd_same]
      have ho2 : ∀ k, k ≠ .new → D2.f k = D.f k := fun k hk => by rw [g4, upd_other _ _ _ _ hk, ho1 k hk]
      rcases rename_cases0 D2 .new n _ g3 hf2 with ⟨j1, j2, j3, j4⟩ | ⟨j1, j3, j2, j4⟩
      · left
        exact ⟨j1, by omega, j3, fun k hk => by rw [j4, ho2 k hk]⟩
      · right
        refine ⟨j1, j3, by omega, ?_, ?_, fun k hk hkn => ?_⟩
        · rw [j4, upd_other _ _ _ _ (Ne.symm hn), upd_same]
        · rw [j4, upd_same]
        · rw [j4, upd_other _ _ _ _ hkn, upd_other _ _ _ _ hk, ho2 k hk]

theorem read_snap (D : Dk) (a : Ent) (hoff : D.off = false) (h : SnapIs D a) (ha : a.ok) : D.snap = (a, 0) := by
  unfold Dk.snap Dk.load Dk.read
  rcases h with ⟨h, rfl⟩ | h
  · rw [h]; simp
  · rw [h]
    simp only [Option.isSome_some, if_true, hoff, Bool.false_eq_true, if_false]
    have := all_flat [a] [] a 0 (fr a).length (by simpa using ha) ha rfl (by have := fr_len a; omega) (by rw [flat_one]; simp)
    rw [flat_one, List.append_nil] at this
    have e : allF (fr a) = ([pl a], (fr a).length, 0) := by unfold allF; rw [this]; simp
    rw [e]
    have hp := parse_pl [a] (by simpa using ha)
    rw [List.map_cons, List.map_nil] at hp
    simp [hp]

theorem read_log (D : Dk) (a : Ent) (E : List Ent) (t : List UInt8) (x : Ent) (j q : Nat) (hoff : D.off = false) (hnew : D.f .new = none) (hl : LogIs D E t) (hx : x.ok) (ht : t = (fr x).take j) (hj : j < (fr x).length)
    (hH : Has a E q) (hlen : (flat E).length ≤ 65536) :
    ((D.log a.1).1 = keptF a.1 E ∧ (D.log a.1).2.1 = 0 ∧ (D.log a.1).2.2.off = false ∧ (D.log a.1).2.2.armed = D.armed ∧ (D.log a.1).2.2.f .new = none ∧ (D.log a.1).2.2.f .snap = D.f .snap ∧ LogIs (D.log a.1).2.2 E []) ∨
    ((D.log a.1).2.1 = 100 ∧ D.armed ≠ 0 ∧ (D.log a.1).2.2.off = true ∧ (D.log a.1).2.2.f .snap = D.f .snap ∧ LogIs (D.log a.1).2.2 E t) := by
  unfold Dk.log Dk.load Dk.read
  rcases hl with ⟨h, rfl, ht2⟩ | ⟨s, h, h1, h2⟩
  · left
    have e : allF ([] : List UInt8) = ([], 0, 0) := rfl
    rw [h]
    simp only [Option.isSome_none, Bool.false_eq_true, if_false, ne_eq, not_true, e, parseB]
    rw [if_neg (by simp)]
    have ho := hH.ordered
    simp only [ho, not_true, if_false]
    exact ⟨trivial, trivial, hoff, trivial, hnew, trivial, .inl ⟨h, rfl, rfl⟩⟩
  · rw [h]
    simp only [Option.isSome_some, if_true, hoff, Bool.false_eq_true, if_false, ne_eq, not_true]
    have e : allF (flat E ++ t) = (E.map pl, (flat E).length, if t = [] then 0 else 30) := all_flat E t x j _ hH.ok hx ht hj (Nat.le_refl _)
    rw [e]
    simp only [parse_pl E hH.ok, List.take_left]
    have ho := hH.ordered
    simp only [ho, not_true, if_false]
    by_cases h0 : t = []
    · left
      subst h0
      simp only [if_true]
      rw [if_neg (by simp), if_neg (by simp)]
      refine ⟨rfl, rfl, hoff, rfl, hnew, rfl, .inr ⟨s, ?_, h1, h2⟩⟩
      rw [h]
    · simp only [h0, if_false]
      rw [if_neg (by simp), if_pos (by simp)]
      rcases renew_cases D .log (flat E) (by simp) hoff hnew hlen with ⟨g1, g2, g3, g4⟩ | ⟨g1, g2, g3, g4, g5, g6⟩
      · right
        rw [if_pos (by omega)]
        exact ⟨g1, g2, g3, g4 _ (by simp), .inr ⟨s, by rw [g4 _ (by simp), h], h1, h2⟩⟩
      · left
        rw [if_neg (by omega)]
        exact ⟨rfl, g1, g2, g3, g4, g6 _ (by simp) (by simp), .inr ⟨_, by rw [g5, List.append_nil], by simp, by simp⟩⟩

/-- What an Open tells, the power going off or not. -/
theorem open_cases (D : Dk) (a : Ent) (E : List Ent) (t : List UInt8) (x : Ent) (j q : Nat) (hoff : D.off = false) (hs : SnapIs D a) (hl : LogIs D E t) (hx : x.ok) (ht : t = (fr x).take j) (hj : j < (fr x).length)
    (hH : Has a E q) (hlen : (flat E).length ≤ 65536) :
    (D.Open.1 = some (a, keptF a.1 E) ∧ D.Open.2.1 = 0 ∧ D.Open.2.2.off = false ∧ D.Open.2.2.armed = D.armed ∧ D.Open.2.2.f .new = none ∧ SnapIs D.Open.2.2 a ∧ LogIs D.Open.2.2 E []) ∨
    (D.Open.1 = none ∧ D.Open.2.1 = 100 ∧ D.armed ≠ 0 ∧ D.Open.2.2.off = true ∧ SnapIs D.Open.2.2 a ∧ LogIs D.Open.2.2 E t) := by
  have key : ∀ D1 : Dk, D1.off = false → D1.armed = D.armed → D1.f .new = none → D1.f .snap = D.f .snap → D1.f .log = D.f .log → D.opn = D1.opn1 →
    ((D.Open.1 = some (a, keptF a.1 E) ∧ D.Open.2.1 = 0 ∧ D.Open.2.2.off = false ∧ D.Open.2.2.armed = D.armed ∧ D.Open.2.2.f .new = none ∧ SnapIs D.Open.2.2 a ∧ LogIs D.Open.2.2 E []) ∨
    (D.Open.1 = none ∧ D.Open.2.1 = 100 ∧ D.armed ≠ 0 ∧ D.Open.2.2.off = true ∧ SnapIs D.Open.2.2 a ∧ LogIs D.Open.2.2 E t)) := by
    intro D1 h1 h2 h3 h4 h5 h6
    unfold Dk.Open
    rw [if_neg (by simp [hoff]), h6]
    unfold Dk.opn1
    rw [read_snap D1 a h1 (hs.same h4) hH.aok]
    simp only [ne_eq, not_true, if_false]
    rcases read_log D1 a E t x j q h1 h3 (hl.same h5) hx ht hj hH hlen with ⟨g1, g2, g3, g4, g5, g6, g7⟩ | ⟨g1, g2, g3, g4, g5⟩
    · left
      rw [if_neg (by omega)]
      exact ⟨by rw [g1], rfl, g3, by rw [← h2]; exact g4, g5, (hs.same h4).same g6, g7⟩
    · right
      rw [if_pos (by omega)]
      exact ⟨rfl, g1, by omega, g3, (hs.same h4).same g4, g5⟩
  by_cases hn : (D.f .new).isSome = true
  · rcases remove_cases0 D .new hoff hn with ⟨h1, h2, h3, h4⟩ | ⟨h1, h3, h2, h4⟩
    · right
      unfold Dk.Open Dk.opn
      have hne : (D.remove .new).1 ≠ 0 := by omega
      simp only [hoff, hn, hne, Bool.false_eq_true, if_false, if_true, ne_eq, not_false_eq_true]
      exact ⟨trivial, h1, h2, h3, hs.same (by rw [h4]), hl.same (by rw [h4])⟩
    · refine key (D.remove .new).2 h3 h2 (by rw [h4, upd_same]) (by rw [h4, upd_other _ _ _ _ (by simp)]) (by rw [h4, upd_other _ _ _ _ (by simp)]) ?_
      unfold Dk.opn
      rw [if_pos hn, if_neg (by omega)]
  · refine key D hoff rfl (by simpa using hn) rfl rfl ?_
    unfold Dk.opn
    rw [if_neg hn]
end Go.Proofs.YtnlgmekkjibpmaaGreatDoor
