/- DERIVED. Contracts and plain laws under the statement: one merged text. -/
import Derived.Test.YtnlgmekkjibpmaaGreatDoorMd
import Derived.Deep.RegionHeld3
import Derived.BigQuiet
import Derived.BigRegion
import Derived.Outline
/- DERIVED. wal: end, Seq, Append. -/
namespace Go.Proofs.YtnlgmekkjibpmaaGreatDoor
open Go Go.RowKit Go.Shelf Go.Proofs.YtnlgmekkjibpmaaGreatDoorW.PrintWords
set_option linter.unusedVariables false
set_option linter.unusedSimpArgs false

set_option maxHeartbeats 400000 in
theorem end_calls (b p seq err e : Nat) (v : Value) (w : World) (h : Wl w b p seq err) (hev : EV 2 v e) (hg : G w) :
    Calls Tryz.prog 37 #[.pointer (some ⟨b, 0, none⟩), v] w fun ev w' => ev = .returned (.int .i64 (e : Int)) ∧ Wl w' b p seq e ∧ Fr [b] w w' := by
  have H := Lib.hid h
  clear h
  go_enter Tryz.func37, Tryz.ntmps37
  go_wp2_with fail
  refine (code_ev hev _ hg).mono ?_
  rintro ev w1 ⟨rfl, hf1⟩
  have h1 := H.out.fr hf1 (by simp)
  have c2 := blk_cell (v := .int .i64 (err : Int)) h1.out (j := 2) rfl
  have f2 := blk_free h1.out 2
  have hst := blk_set h1.out 2 (.int .i64 (e : Int))
  have d2 := blk_cell (v := .int .i64 (e : Int)) hst (j := 2) rfl
  have HST := Lib.hid hst
  clear hst h1
  go_wp2_with fail
  go_ret
  exact ⟨rfl, ⟨HST.out⟩, (hf1.mono (by simp)).setCell (.inl (by simp)) _⟩
set_option maxHeartbeats 400000 in
theorem seq_calls (b p seq err : Nat) (w : World) (h : Wl w b p seq err) :
    Calls Tryz.prog 23 #[.pointer (some ⟨b, 0, none⟩)] w fun ev w' => ev = .returned (.int .i64 (seq : Int)) ∧ w' = w := by
  have c1 := blk_cell (v := .int .i64 (seq : Int)) h.out (j := 1) rfl
  clear h
  go_enter Tryz.func23, Tryz.ntmps23
  go_wp2
  go_ret
  exact ⟨rfl, rfl⟩

/-- A log: its number, its error, its disk. -/
structure Lg where
  seq : Nat
  err : Nat
  dk : Dk
def Lg.append (L : Lg) (s : List UInt8) : Nat × Lg :=
  if L.err ≠ 0 then (L.err, L)
  else if (madeB (L.seq + 1) s).2 ≠ 0 then ((madeB (L.seq + 1) s).2, L)
  else if (L.dk.append .log (madeB (L.seq + 1) s).1).1 ≠ 0 then ((L.dk.append .log (madeB (L.seq + 1) s).1).1, ⟨L.seq, (L.dk.append .log (madeB (L.seq + 1) s).1).1, (L.dk.append .log (madeB (L.seq + 1) s).1).2⟩)
  else if ((L.dk.append .log (madeB (L.seq + 1) s).1).2.sync .log).1 ≠ 0 then (((L.dk.append .log (madeB (L.seq + 1) s).1).2.sync .log).1, ⟨L.seq, ((L.dk.append .log (madeB (L.seq + 1) s).1).2.sync .log).1, ((L.dk.append .log (madeB (L.seq + 1) s).1).2.sync .log).2⟩)
  else (0, ⟨L.seq + 1, 0, ((L.dk.append .log (madeB (L.seq + 1) s).1).2.sync .log).2⟩)

/-- A log in memory: the wal at b, its disk at p, the disk's map at m. -/
structure LgIs (w : World) (b p m : Nat) (L : Lg) : Prop where
  wl : Wl w b p L.seq L.err
  dk : DkIs w p m L.dk
  g : G w
  bp : b ≠ p
  bm : b ≠ m
  b0 : b ≠ 0
  p0 : p ≠ 0
  m0 : m ≠ 0
end Go.Proofs.YtnlgmekkjibpmaaGreatDoor
/- DERIVED. wal: Append, walked. -/
namespace Go.Proofs.YtnlgmekkjibpmaaGreatDoor
open Go Go.RowKit Go.Shelf Go.Proofs.YtnlgmekkjibpmaaGreatDoorW.PrintWords
set_option linter.unusedVariables false
set_option linter.unusedSimpArgs false

theorem made_len (seq : Nat) (s : List UInt8) : (madeB seq s).1.length ≤ 4110 := by
  unfold madeB
  split
  · simp
  · rename_i h
    have hl : (numB seq ++ s).length ≤ 4096 := by rw [List.length_append]; omega
    have h2 := numB_length (numB seq ++ s).length (by omega)
    show (layB _).length ≤ _
    rw [layB, sealedB_length, textB, List.length_append]
    omega
theorem fr3 {b p m : Nat} {w w' : World} (h : Fr [p, m] w w') : Fr [b, p, m] w w' := h.mono (by simp)
theorem fr3b {b p m : Nat} {w w' : World} (h : Fr [b] w w') : Fr [b, p, m] w w' := h.mono (by simp)
theorem fr30 {b p m : Nat} {w w' : World} (h : Fr [] w w') : Fr [b, p, m] w w' := h.mono (by simp)

set_option maxRecDepth 100000 in
set_option maxHeartbeats 2000000 in
theorem append_calls (b p m : Nat) (L : Lg) (s : ByteArray) (w : World) (h : LgIs w b p m L) (hq : L.seq ≤ 1099511627776) (hs : s.size ≤ 100000) (h2 : L.dk.acts ≤ 800000) :
    Calls Tryz.prog 12 #[.pointer (some ⟨b, 0, none⟩), .string s] w fun ev w' => ev = .returned (.int .i64 ((L.append s.data.toList).1 : Int)) ∧ LgIs w' b p m (L.append s.data.toList).2 ∧ Fr [b, p, m] w w' := by
  obtain ⟨⟨hbox⟩, hdk, hg, hbp, hbm, hb0, hp0, hm0⟩ := h
  obtain ⟨seq, err, D⟩ := L
  dsimp only at hbox hdk hq h2
  obtain ⟨R, hR⟩ : ∃ R, R = Lg.append ⟨seq, err, D⟩ s.data.toList := ⟨_, rfl⟩
  rw [← hR]
  unfold Lg.append at hR
  dsimp only at hR
  have HR := Lib.hid hR
  have c0 := blk_cell (v := .pointer (some ⟨p, 0, none⟩)) hbox (j := 0) rfl
  have c1 := blk_cell (v := .int .i64 (seq : Int)) hbox (j := 1) rfl
  have HBX := Lib.hid hbox
  have HD := Lib.hid hdk
  have HG := Lib.hid hg
  by_cases herr : err = 0
  · subst herr
    have c2 := blk_cell (v := .int .i64 0) hbox (j := 2) rfl
    have e1 := HR.out
    rw [if_neg (by simp)] at e1
    have HR1 := Lib.hid e1
    clear HR hR e1 hbox hdk hg
    have hml := made_len (seq + 1) s.data.toList
    go_enter Tryz.func12, Tryz.ntmps12
    go_wp2_with fail
    have hmc := made_calls (seq + 1) (by omega) s hs w
    rw [show ((seq + 1 : Nat) : Int) = (seq : Int) + 1 by omega] at hmc
    refine hmc.mono ?_
    clear hmc
    obtain ⟨mb, hmb⟩ : ∃ mb, mb = madeB (seq + 1) s.data.toList := ⟨_, rfl⟩
    rw [← hmb] at HR1 hml ⊢
    clear hmb
    obtain ⟨fr, mc⟩ := mb
    dsimp only at HR1 hml ⊢
    rintro e w1 ⟨rfl, hf1⟩
    by_cases hmc : mc = 0
    · subst hmc
      have e1 := HR1.out
      rw [if_neg (by simp)] at e1
      have HR2 := Lib.hid e1
      clear HR1 e1
      have hsz : (bs fr).size ≤ 140737488355328 := by rw [bs_size]; omega
      have HD1 := Lib.hid (HD.out.fr hf1 (by simp) (by simp))
      have HB1 := Lib.hid ((hf1.block _ (blk_lt HBX.out) (by simp)).trans HBX.out)
      have HG1 := Lib.hid (HG.out.fr hf1 (by simp))
      have HF1 := Lib.hid (fr30 (b := b) (p := p) (m := m) hf1)
      have d0 := blk_cell (v := .pointer (some ⟨p, 0, none⟩)) HB1.out (j := 0) rfl
      have hap := disk_append p m D .log (bs Nm.log.l) (bs fr) (isNm .log) w1 HD1.out (by omega) hsz
      have ha1 := append_acts D .log fr
      rw [bs_toList] at hap
      obtain ⟨ar, har⟩ : ∃ ar, ar = D.append .log fr := ⟨_, rfl⟩
      rw [← har] at hap HR2 ha1
      clear har hsz hf1 HBX HD HG
      obtain ⟨ac, D2⟩ := ar
      dsimp only at hap HR2 ha1
      go_wp2_with fail
      refine hap.mono ?_
      clear hap
      rintro e w2 ⟨rfl, hD2, hf2⟩
      have HD2 := Lib.hid hD2
      have HB2 := Lib.hid ((hf2.block _ (blk_lt HB1.out) (by simp; omega)).trans HB1.out)
      have HG2 := Lib.hid (HG1.out.fr hf2 (by simp; omega))
      have HF2 := Lib.hid (HF1.out.trans (fr3 hf2))
      have d2 := blk_cell (v := .pointer (some ⟨p, 0, none⟩)) HB2.out (j := 0) rfl
      clear hD2 hf2 HD1 HB1 HG1 HF1
      go_wp2_with fail
      refine (failed_any _ ac _).mono ?_
      rintro e w3 ⟨v3, rfl, hev3, rfl⟩
      rcases hev3.ne with ⟨rfl, hac⟩ | ⟨hac, tt, u, rfl⟩
      · have e1 := HR2.out
        rw [if_neg (by simpa using hac)] at e1
        have HR3 := Lib.hid e1
        clear HR2 e1
        have hsy := disk_sync p m D2 .log (bs Nm.log.l) (isNm .log) w3 HD2.out (by omega)
        obtain ⟨sr, hsr⟩ : ∃ sr, sr = D2.sync .log := ⟨_, rfl⟩
        rw [← hsr] at hsy HR3
        clear hsr
        obtain ⟨sc, D3⟩ := sr
        dsimp only at hsy HR3
        go_wp2_with fail
        refine hsy.mono ?_
        clear hsy
        rintro e w4 ⟨rfl, hD4, hf4⟩
        have HD4 := Lib.hid hD4
        have HB4 := Lib.hid ((hf4.block _ (blk_lt HB2.out) (by simp; omega)).trans HB2.out)
        have HG4 := Lib.hid (HG2.out.fr hf4 (by simp; omega))
        have HF4 := Lib.hid (HF2.out.trans (fr3 hf4))
        clear hD4 hf4 HD2 HB2 HG2 HF2
        go_wp2_with fail
        refine (failed_any _ sc _).mono ?_
        rintro e w5 ⟨v5, rfl, hev5, rfl⟩
        rcases hev5.ne with ⟨rfl, hsc⟩ | ⟨hsc, tt, u, rfl⟩
        · have e1 := HR3.out
          rw [if_neg (by simpa using hsc)] at e1
          subst e1
          have d1 := blk_cell (v := .int .i64 (seq : Int)) HB4.out (j := 1) rfl
          have f1 := blk_free HB4.out 1
          have HST := Lib.hid (blk_set HB4.out 1 (.int .i64 ((seq : Int) + 1)))
          go_wp2_with fail
          go_ret
          have hfs : Fr [b] w5 (w5.setCell ⟨b, 1, none⟩ (.int .i64 ((seq : Int) + 1))) := (Fr.refl _ _).setCell (.inl (by simp)) _
          exact ⟨rfl, ⟨⟨by rw [show (((seq + 1 : Nat)) : Int) = (seq : Int) + 1 by omega]; exact HST.out⟩, HD4.out.fr hfs (by simp; omega) (by simp; omega), HG4.out.fr hfs (by simp; omega), hbp, hbm, hb0, hp0, hm0⟩, HF4.out.trans (fr3b hfs)⟩
        · have e1 := HR3.out
          rw [if_pos hsc] at e1
          subst e1
          go_wp2_with fail
          refine (end_calls b p seq 0 sc _ _ ⟨HB4.out⟩ (hev5.mono (by omega)) HG4.out).mono ?_
          rintro e w6 ⟨rfl, hW6, hf6⟩
          go_wp2_with fail
          go_ret
          exact ⟨rfl, ⟨hW6, HD4.out.fr hf6 (by simp; omega) (by simp; omega), HG4.out.fr hf6 (by simp; omega), hbp, hbm, hb0, hp0, hm0⟩, HF4.out.trans (fr3b hf6)⟩
      · have e1 := HR2.out
        rw [if_pos hac] at e1
        subst e1
        go_wp2_with fail
        refine (end_calls b p seq 0 ac _ _ ⟨HB2.out⟩ (hev3.mono (by omega)) HG2.out).mono ?_
        rintro e w6 ⟨rfl, hW6, hf6⟩
        go_wp2_with fail
        go_ret
        exact ⟨rfl, ⟨hW6, HD2.out.fr hf6 (by simp; omega) (by simp; omega), HG2.out.fr hf6 (by simp; omega), hbp, hbm, hb0, hp0, hm0⟩, HF2.out.trans (fr3b hf6)⟩
    · have e1 := HR1.out
      rw [if_pos hmc] at e1
      subst e1
      have hmc' : ((mc : Int) == 0) = false := by simpa using hmc
      go_wp2_with fail
      go_ret
      exact ⟨rfl, ⟨⟨(hf1.block _ (blk_lt HBX.out) (by simp)).trans HBX.out⟩, HD.out.fr hf1 (by simp) (by simp), HG.out.fr hf1 (by simp), hbp, hbm, hb0, hp0, hm0⟩, fr30 hf1⟩
  · have c2 := blk_cell (v := .int .i64 (err : Int)) hbox (j := 2) rfl
    have e1 := HR.out
    rw [if_pos herr] at e1
    subst e1
    have herr' : ((err : Int) == 0) = false := by simpa using herr
    clear HR hbox hdk hg
    go_enter Tryz.func12, Tryz.ntmps12
    go_wp2_with fail
    go_ret
    exact ⟨rfl, ⟨⟨HBX.out⟩, HD.out, HG.out, hbp, hbm, hb0, hp0, hm0⟩, Fr.refl _ _⟩
end Go.Proofs.YtnlgmekkjibpmaaGreatDoor
/- DERIVED. wal: Checkpoint. -/
namespace Go.Proofs.YtnlgmekkjibpmaaGreatDoor
open Go Go.RowKit Go.Shelf Go.Proofs.YtnlgmekkjibpmaaGreatDoorW.PrintWords
set_option linter.unusedVariables false
set_option linter.unusedSimpArgs false

theorem doing_evd (d : ByteArray) (r : Value) (e : Nat) (h : EV 1 r e) (he : e ≠ 0) : EV 2 (.iface 74 (.agg #[.string d, r])) e := by
  cases h with
  | none => exact absurd rfl he
  | chain ds e h1 h2 h3 =>
    have : EV 2 (chainV (d :: ds) e) e := .chain 2 _ e (by simp) (by simp; omega) h3
    unfold chainV at this
    exact this

def Lg.checkpoint (L : Lg) (s : List UInt8) : Nat × Lg :=
  if L.err ≠ 0 then (L.err, L)
  else if (madeB L.seq s).2 ≠ 0 then ((madeB L.seq s).2, L)
  else if (L.dk.renew .snap (madeB L.seq s).1).1 ≠ 0 then ((L.dk.renew .snap (madeB L.seq s).1).1, ⟨L.seq, (L.dk.renew .snap (madeB L.seq s).1).1, (L.dk.renew .snap (madeB L.seq s).1).2⟩)
  else if ((L.dk.renew .snap (madeB L.seq s).1).2.f .log).isSome = true then (((L.dk.renew .snap (madeB L.seq s).1).2.remove .log).1, ⟨L.seq, ((L.dk.renew .snap (madeB L.seq s).1).2.remove .log).1, ((L.dk.renew .snap (madeB L.seq s).1).2.remove .log).2⟩)
  else (0, ⟨L.seq, 0, (L.dk.renew .snap (madeB L.seq s).1).2⟩)

set_option maxRecDepth 100000 in
set_option maxHeartbeats 2000000 in
theorem checkpoint_calls (b p m : Nat) (L : Lg) (s : ByteArray) (w : World) (h : LgIs w b p m L) (hq : L.seq ≤ 1099511627777) (hs : s.size ≤ 100000) (h2 : L.dk.acts ≤ 800000) :
    Calls Tryz.prog 13 #[.pointer (some ⟨b, 0, none⟩), .string s] w fun ev w' => ev = .returned (.int .i64 ((L.checkpoint s.data.toList).1 : Int)) ∧ LgIs w' b p m (L.checkpoint s.data.toList).2 ∧ Fr [b, p, m] w w' := by
  obtain ⟨⟨hbox⟩, hdk, hg, hbp, hbm, hb0, hp0, hm0⟩ := h
  obtain ⟨seq, err, D⟩ := L
  dsimp only at hbox hdk hq h2
  obtain ⟨R, hR⟩ : ∃ R, R = Lg.checkpoint ⟨seq, err, D⟩ s.data.toList := ⟨_, rfl⟩
  rw [← hR]
  unfold Lg.checkpoint at hR
  dsimp only at hR
  have HR := Lib.hid hR
  have c0 := blk_cell (v := .pointer (some ⟨p, 0, none⟩)) hbox (j := 0) rfl
  have c1 := blk_cell (v := .int .i64 (seq : Int)) hbox (j := 1) rfl
  have HBX := Lib.hid hbox
  have HD := Lib.hid hdk
  have HG := Lib.hid hg
  by_cases herr : err = 0
  · subst herr
    have c2 := blk_cell (v := .int .i64 0) hbox (j := 2) rfl
    have e1 := HR.out
    rw [if_neg (by simp)] at e1
    have HR1 := Lib.hid e1
    clear HR hR e1 hbox hdk hg
    have hml := made_len seq s.data.toList
    go_enter Tryz.func13, Tryz.ntmps13
    go_wp2_with fail
    refine (made_calls seq hq s hs w).mono ?_
    obtain ⟨mb, hmb⟩ : ∃ mb, mb = madeB seq s.data.toList := ⟨_, rfl⟩
    rw [← hmb] at HR1 hml ⊢
    clear hmb
    obtain ⟨fr, mc⟩ := mb
    dsimp only at HR1 hml ⊢
    rintro e w1 ⟨rfl, hf1⟩
    by_cases hmc : mc = 0
    · subst hmc
      have e1 := HR1.out
      rw [if_neg (by simp)] at e1
      have HR2 := Lib.hid e1
      clear HR1 e1
      have hsz : (bs fr).size ≤ 140737488355328 := by rw [bs_size]; omega
      have HD1 := Lib.hid (HD.out.fr hf1 (by simp) (by simp))
      have HB1 := Lib.hid ((hf1.block _ (blk_lt HBX.out) (by simp)).trans HBX.out)
      have HG1 := Lib.hid (HG.out.fr hf1 (by simp))
      have HF1 := Lib.hid (fr30 (b := b) (p := p) (m := m) hf1)
      have d0 := blk_cell (v := .pointer (some ⟨p, 0, none⟩)) HB1.out (j := 0) rfl
      have hap := renew_calls p m D .snap (bs Nm.snap.l) (bs fr) (isNm .snap) w1 HD1.out (by omega) hsz
      have ha1 := renew_acts D .snap fr
      rw [bs_toList] at hap
      obtain ⟨ar, har⟩ : ∃ ar, ar = D.renew .snap fr := ⟨_, rfl⟩
      rw [← har] at hap HR2 ha1
      clear har hsz hf1 HBX HD HG
      obtain ⟨ac, D2⟩ := ar
      dsimp only at hap HR2 ha1
      go_wp2_with fail
      refine hap.mono ?_
      clear hap
      rintro e w2 ⟨v3, rfl, hev3, hD2, hf2⟩
      have HD2 := Lib.hid hD2
      have HB2 := Lib.hid ((hf2.block _ (blk_lt HB1.out) (by simp; omega)).trans HB1.out)
      have HG2 := Lib.hid (HG1.out.fr hf2 (by simp; omega))
      have HF2 := Lib.hid (HF1.out.trans (fr3 hf2))
      have d2 := blk_cell (v := .pointer (some ⟨p, 0, none⟩)) HB2.out (j := 0) rfl
      clear hD2 hf2 HD1 HB1 HG1 HF1
      rcases hev3.ne with ⟨rfl, hac⟩ | ⟨hac, tt, u, rfl⟩
      · have e1 := HR2.out
        rw [if_neg (by simpa using hac)] at e1
        have HR3 := Lib.hid e1
        clear HR2 e1
        have hnl := names_len D2.f
        have hmem := mem_names D2.f .log
        go_wp2_with fail
        refine (disk_list p m D2 _ HD2.out).mono ?_
        rintro e w3 ⟨v4, rfl, hrow, hb3⟩
        have hf3 : Fr [] w2 w3 := Fr.of_below hb3 []
        go_wp2_with fail
        refine (contains_calls _ v4 (names D2.f) .log _ (isNm .log) _ hnl hrow).mono ?_
        rintro e w3' ⟨rfl, rfl⟩
        rw [hmem]
        have HD3 := Lib.hid (HD2.out.fr hf3 (by simp) (by simp))
        have HB3 := Lib.hid ((hf3.block _ (blk_lt HB2.out) (by simp)).trans HB2.out)
        have HG3 := Lib.hid (HG2.out.fr hf3 (by simp))
        have HF3 := Lib.hid (HF2.out.trans (fr30 hf3))
        have d3 := blk_cell (v := .pointer (some ⟨p, 0, none⟩)) HB3.out (j := 0) rfl
        clear hrow hb3 hf3 HD2 HB2 HG2 HF2
        cases hx : (D2.f .log).isSome with
        | false =>
          have e1 := HR3.out
          rw [hx, if_neg (by simp)] at e1
          subst e1
          go_wp2_with fail
          go_ret
          exact ⟨rfl, ⟨⟨HB3.out⟩, HD3.out, HG3.out, hbp, hbm, hb0, hp0, hm0⟩, HF3.out⟩
        | true =>
          have e1 := HR3.out
          rw [hx, if_pos rfl] at e1
          have HR4 := Lib.hid e1
          clear HR3 e1
          have hsy := disk_remove p m D2 .log (bs Nm.log.l) (isNm .log) w3' HD3.out (by omega)
          obtain ⟨sr, hsr⟩ : ∃ sr, sr = D2.remove .log := ⟨_, rfl⟩
          rw [← hsr] at hsy HR4
          clear hsr
          obtain ⟨sc, D3⟩ := sr
          dsimp only at hsy HR4
          go_wp2_with fail
          refine hsy.mono ?_
          clear hsy
          rintro e w4 ⟨rfl, hD4, hf4⟩
          have HD4 := Lib.hid hD4
          have HB4 := Lib.hid ((hf4.block _ (blk_lt HB3.out) (by simp; omega)).trans HB3.out)
          have HG4 := Lib.hid (HG3.out.fr hf4 (by simp; omega))
          have HF4 := Lib.hid (HF3.out.trans (fr3 hf4))
          clear hD4 hf4 HD3 HB3 HG3 HF3
          go_wp2_with fail
          refine (failed_any _ sc _).mono ?_
          rintro e w5 ⟨v5, rfl, hev5, rfl⟩
          have e1 := HR4.out
          subst e1
          go_wp2_with fail
          refine (end_calls b p seq 0 sc _ _ ⟨HB4.out⟩ (hev5.mono (by omega)) HG4.out).mono ?_
          rintro e w6 ⟨rfl, hW6, hf6⟩
          go_wp2_with fail
          go_ret
          exact ⟨rfl, ⟨hW6, HD4.out.fr hf6 (by simp; omega) (by simp; omega), HG4.out.fr hf6 (by simp; omega), hbp, hbm, hb0, hp0, hm0⟩, HF4.out.trans (fr3b hf6)⟩
      · have e1 := HR2.out
        rw [if_pos hac] at e1
        subst e1
        go_wp2_with fail
        refine (end_calls b p seq 0 ac _ _ ⟨HB2.out⟩ (doing_evd _ _ _ hev3 hac) HG2.out).mono ?_
        rintro e w6 ⟨rfl, hW6, hf6⟩
        go_wp2_with fail
        go_ret
        exact ⟨rfl, ⟨hW6, HD2.out.fr hf6 (by simp; omega) (by simp; omega), HG2.out.fr hf6 (by simp; omega), hbp, hbm, hb0, hp0, hm0⟩, HF2.out.trans (fr3b hf6)⟩
    · have e1 := HR1.out
      rw [if_pos hmc] at e1
      subst e1
      have hmc' : ((mc : Int) == 0) = false := by simpa using hmc
      go_wp2_with fail
      go_ret
      exact ⟨rfl, ⟨⟨(hf1.block _ (blk_lt HBX.out) (by simp)).trans HBX.out⟩, HD.out.fr hf1 (by simp) (by simp), HG.out.fr hf1 (by simp), hbp, hbm, hb0, hp0, hm0⟩, fr30 hf1⟩
  · have c2 := blk_cell (v := .int .i64 (err : Int)) hbox (j := 2) rfl
    have e1 := HR.out
    rw [if_pos herr] at e1
    subst e1
    have herr' : ((err : Int) == 0) = false := by simpa using herr
    clear HR hbox hdk hg
    go_enter Tryz.func13, Tryz.ntmps13
    go_wp2_with fail
    go_ret
    exact ⟨rfl, ⟨⟨HBX.out⟩, HD.out, HG.out, hbp, hbm, hb0, hp0, hm0⟩, Fr.refl _ _⟩
end Go.Proofs.YtnlgmekkjibpmaaGreatDoor
/- DERIVED. The law's own: Same, pick. -/
namespace Go.Proofs.YtnlgmekkjibpmaaGreatDoor
open Go Go.RowKit Go.Shelf Go.Proofs.YtnlgmekkjibpmaaGreatDoorW.PrintWords
set_option linter.unusedVariables false
set_option linter.unusedSimpArgs false

def StrRow (w : World) (v : Value) (L : List (List UInt8)) : Prop :=
  (L = [] ∧ v = .slice none 0 0) ∨ ∃ g c, v = .slice (some ⟨g, 0, none⟩) L.length c ∧ ∀ j, (h : j < L.length) → w.cell? ⟨g, j, none⟩ = some (.string (bs (L[j]'h)))
theorem strRow_of {w : World} {base : Nat} {v : Value} {L : List (List UInt8)} (h : w.ownsRow base 9 1 v L.length (L.map strV)) : StrRow w v L := by
  rcases h.2 with ⟨rfl, hn⟩ | ⟨g, cap, cur, rfl, _⟩
  · exact .inl ⟨by simpa using hn, rfl⟩
  · exact .inr ⟨g, cap, rfl, fun j hj => by rw [h.cellAt j (by omega)]; simp [strV, hj]⟩
theorem strRow_len {w : World} {v : Value} {L : List (List UInt8)} (h : StrRow w v L) : ∃ a c, v = .slice a L.length c := by
  rcases h with ⟨rfl, rfl⟩ | ⟨g, c, rfl, _⟩
  · exact ⟨_, _, rfl⟩
  · exact ⟨_, _, rfl⟩

set_option maxRecDepth 100000 in
set_option maxHeartbeats 1000000 in
theorem same_calls (v u : Value) (L M : List (List UInt8)) (w : World) (h1 : StrRow w v L) (h2 : StrRow w u M) (hl : L.length ≤ 1000000) (hm : M.length ≤ 1000000) :
    Calls Tryz.prog 14 #[v, u] w fun e w' => e = .returned (.bool (decide (L = M))) ∧ Fr [] w w' := by
  by_cases hlen : L.length = M.length
  · rcases h1 with ⟨rfl, rfl⟩ | ⟨g, c, rfl, hc⟩
    · have : M = [] := List.eq_nil_of_length_eq_zero hlen.symm
      subst this
      obtain ⟨a, c, rfl⟩ := strRow_len h2
      go_enter Tryz.func14, Tryz.ntmps14
      go_wp2
      go_loopw [5] (fun i wr => i = .int .i64 0 ∧ wr = w) (fun _ _ => 0)
      case atStart => exact ⟨rfl, rfl⟩
      case round =>
        obtain ⟨rfl, rfl⟩ := hrel
        go_wp2
        go_ret
        exact ⟨by simp, Fr.refl _ _⟩
    · rcases h2 with ⟨rfl, rfl⟩ | ⟨g', c', rfl, hc'⟩
      · have : L = [] := List.eq_nil_of_length_eq_zero hlen
        subst this
        go_enter Tryz.func14, Tryz.ntmps14
        go_wp2
        go_loopw [5] (fun i wr => i = .int .i64 0 ∧ wr = w) (fun _ _ => 0)
        case atStart => exact ⟨rfl, rfl⟩
        case round =>
          obtain ⟨rfl, rfl⟩ := hrel
          go_wp2
          go_ret
          exact ⟨by simp, Fr.refl _ _⟩
      · obtain ⟨R, hR⟩ : ∃ R, R = decide (L = M) := ⟨_, rfl⟩
        rw [← hR]
        have HR := Lib.hid hR
        have HC := Lib.hid hc
        have HC' := Lib.hid hc'
        have HL := Lib.hid hlen
        rw [← hlen]
        clear hc hc' hR
        go_enter Tryz.func14, Tryz.ntmps14
        clear hlen hm
        go_wp2
        go_loopw [5] (fun i wr => ∃ k : Nat, k ≤ L.length ∧ i = .int .i64 (k : Int) ∧ Fr [] w wr ∧ Hid (L.take k = M.take k)) (fun i _ => L.length - (intOf i).toNat)
        case atStart => exact ⟨0, by omega, rfl, Fr.refl _ _, by show _ = _; simp⟩
        case round =>
          obtain ⟨k, hk, rfl, hF, HJ⟩ := hrel
          by_cases hlt : k < L.length
          · have hlt' : k < M.length := by have := HL.out; omega
            have q1 := HC.out k hlt
            have q2 := HC'.out k hlt'
            have c1 : wr.cell? ⟨g, k, none⟩ = some (.string (bs (L[k]'hlt))) := by rw [World.cell?_of_block (hF.block g (World.block_lt_of_cell? w _ q1) (by simp))]; exact q1
            have c2 : wr.cell? ⟨g', k, none⟩ = some (.string (bs (M[k]'hlt'))) := by rw [World.cell?_of_block (hF.block g' (World.block_lt_of_cell? w _ q2) (by simp))]; exact q2
            have p1 : (k : Int) < (L.length : Int) := by omega
            have p0 : (0 : Int) ≤ (k : Int) := by omega
            clear q1 q2
            by_cases he : L[k]'hlt = M[k]'hlt'
            · rw [he] at c1
              have HE := Lib.hid he
              clear he
              go_wp2_with fail
              go_region
              all_goals go_wp2
              case roundEnd =>
                refine ⟨⟨k + 1, by omega, by go_num, hF.drew, ?_⟩, by simp [intOf]; omega⟩
                show _ = _
                rw [List.take_add_one, List.take_add_one, List.getElem?_eq_getElem hlt, List.getElem?_eq_getElem hlt', HE.out, HJ.out]
            · have hne : bs (L[k]'hlt) ≠ bs (M[k]'hlt') := fun h => he (bs_inj h)
              have e1 := HR.out
              rw [decide_eq_false (fun h => he (by subst h; rfl))] at e1
              subst e1
              obtain ⟨y1, hy1⟩ : ∃ y, y = bs (L[k]'hlt) := ⟨_, rfl⟩
              obtain ⟨y2, hy2⟩ : ∃ y, y = bs (M[k]'hlt') := ⟨_, rfl⟩
              rw [← hy1] at c1 hne
              rw [← hy2] at c2 hne
              have hne2 : (y1.toList == y2.toList) = false := by
                cases h : (y1.toList == y2.toList) with
                | false => rfl
                | true =>
                  refine absurd ?_ hne
                  have := eq_of_beq h
                  rw [← bs_of y1, ← bs_of y2, ← toList_data, ← toList_data, this]
              clear he hy1 hy2
              go_wp2_with fail
              go_region
              all_goals go_wp2
              go_ret
              exact ⟨rfl, hF.drew⟩
          · have hkn : k = L.length := by omega
            have e1 := HR.out
            have e2 := HJ.out
            rw [hkn, List.take_length, HL.out, List.take_length] at e2
            rw [decide_eq_true e2] at e1
            subst e1
            have hnl : ¬ (k : Int) < (L.length : Int) := by omega
            clear e2
            go_wp2_with fail
            go_ret
            exact ⟨rfl, hF⟩
  · obtain ⟨a1, c1, rfl⟩ := strRow_len h1
    obtain ⟨a2, c2, rfl⟩ := strRow_len h2
    have hne : ((L.length : Int) == (M.length : Int)) = false := by
      cases h : ((L.length : Int) == (M.length : Int)) with
      | false => rfl
      | true => exact absurd (eq_of_beq h) (by omega)
    have hd : decide (L = M) = false := decide_eq_false (fun h => hlen (by rw [h]))
    rw [hd]
    clear h1 h2 hlen
    go_enter Tryz.func14, Tryz.ntmps14
    go_wp2
    go_ret
    exact ⟨rfl, Fr.refl _ _⟩

def pickN (c : Int) (n : Nat) : Nat := (if c < 0 then (-(c + 1)) % (n : Int) else c % (n : Int)).toNat
theorem pickN_lt (c : Int) (n : Nat) (h : 0 < n) : pickN c n < n := by
  unfold pickN
  split
  · have := Int.emod_lt_of_pos (-(c + 1)) (show (0 : Int) < n by omega)
    omega
  · have := Int.emod_lt_of_pos c (show (0 : Int) < n by omega)
    omega
end Go.Proofs.YtnlgmekkjibpmaaGreatDoor
/- DERIVED. The law's own: pick. -/
namespace Go.Proofs.YtnlgmekkjibpmaaGreatDoor
open Go Go.RowKit Go.Shelf Go.Proofs.YtnlgmekkjibpmaaGreatDoorW.PrintWords
set_option linter.unusedVariables false
set_option linter.unusedSimpArgs false

set_option maxHeartbeats 400000 in
theorem pick_calls (c : Int) (n : Nat) (hn : 0 < n) (hn2 : n ≤ 1000) (hc1 : -9223372036854775808 ≤ c) (hc2 : c ≤ 9223372036854775807) (w : World) :
    Calls Tryz.prog 11 #[.int .i64 c, .int .i64 (n : Int)] w fun e w' => e = .returned (.int .i64 (pickN c n : Int)) ∧ w' = w := by
  have hnz : ¬ (n : Int) = 0 := by omega
  have hlt := pickN_lt c n hn
  by_cases h : c < 0
  · have e1 : IntKind.i64.wrap (c + 1) = c + 1 := IntWalk.i64_in _ (by omega)
    have e2 : IntKind.i64.wrap (-(c + 1)) = -(c + 1) := IntWalk.i64_in _ (by omega)
    have e3 : Int.tmod (-(c + 1)) (n : Int) = (pickN c n : Int) := by
      rw [Int.tmod_eq_emod_of_nonneg (by omega)]
      unfold pickN
      rw [if_pos h]
      have := Int.emod_nonneg (-(c + 1)) hnz
      omega
    have e4 : IntKind.i64.wrap (pickN c n : Int) = (pickN c n : Int) := IntWalk.i64_in _ (by omega)
    go_enter Tryz.func11, Tryz.ntmps11
    go_wp2_with fail
    go_ret
    exact ⟨rfl, rfl⟩
  · have e3 : Int.tmod c (n : Int) = (pickN c n : Int) := by
      rw [Int.tmod_eq_emod_of_nonneg (by omega)]
      unfold pickN
      rw [if_neg h]
      have := Int.emod_nonneg c hnz
      omega
    have e4 : IntKind.i64.wrap (pickN c n : Int) = (pickN c n : Int) := IntWalk.i64_in _ (by omega)
    go_enter Tryz.func11, Tryz.ntmps11
    go_wp2_with fail
    go_ret
    exact ⟨rfl, rfl⟩
end Go.Proofs.YtnlgmekkjibpmaaGreatDoor
/- DERIVED. disk: Restart. -/
namespace Go.Proofs.YtnlgmekkjibpmaaGreatDoor
open Go Go.RowKit Go.Maps Go.WideMaps Go.Shelf Go.Proofs.YtnlgmekkjibpmaaGreatDoorW.PrintWords
set_option linter.unusedVariables false
set_option linter.unusedSimpArgs false

/-- What a restart leaves of a file. -/
def cutFl (c : Int) (x : Fl) : Fl :=
  ⟨x.bytes.take (x.synced + pickN c (x.bytes.length - x.synced + 1)), (x.bytes.take (x.synced + pickN c (x.bytes.length - x.synced + 1))).length⟩
def rst (keep : List Int) : Nat → List Nm → (Nm → Option Fl) → (Nm → Option Fl)
  | _, [], f => f
  | i, n :: l, f => rst keep (i + 1) l (upd f n ((f n).map (cutFl (keep.getD i 0))))
def Dk.restart (D : Dk) (keep : List Int) : Dk := { D with f := rst keep 0 (names D.f) D.f, armed := 0, off := false }

def IntRow (w : World) (v : Value) (L : List Int) : Prop :=
  ∃ ao c, v = .slice ao L.length c ∧ ∀ j, (h : j < L.length) → (-9223372036854775808 ≤ (L[j]'h) ∧ (L[j]'h) ≤ 9223372036854775807) ∧ ∃ g o, ao = some ⟨g, o, none⟩ ∧ w.cell? ⟨g, o + j, none⟩ = some (.int .i64 (L[j]'h))
theorem rst_some (keep : List Int) : ∀ (l : List Nm) (i : Nat) (f : Nm → Option Fl) (n : Nm), (rst keep i l f n).isSome = (f n).isSome
  | [], i, f, n => rfl
  | a :: l, i, f, n => by
    rw [rst, rst_some keep l (i + 1)]
    unfold upd
    by_cases h : n = a
    · subst h; simp
    · rw [if_neg h]

theorem pickN_0 (n : Nat) : Int.tmod 0 ((n : Int)) = ((pickN 0 n : Nat) : Int) := by simp [pickN]
theorem pickN_pos (c : Int) (n : Nat) (h : 0 ≤ c) : Int.tmod c (n : Int) = ((pickN c n : Nat) : Int) := by
  have := Int.emod_nonneg c (b := (n : Int))
  rw [Int.tmod_eq_emod_of_nonneg h, pickN, if_neg (by omega)]
  by_cases hn : n = 0
  · subst hn; simp; omega
  · rw [Int.toNat_of_nonneg (Int.emod_nonneg _ (by omega))]
theorem pickN_neg (c : Int) (n : Nat) (h : c < 0) (hn : 0 < n) : Int.tmod (-(c + 1)) (n : Int) = ((pickN c n : Nat) : Int) := by
  rw [Int.tmod_eq_emod_of_nonneg (by omega), pickN, if_pos h, Int.toNat_of_nonneg (Int.emod_nonneg _ (by omega))]
theorem ne_set2 {w : World} {p m i j : Nat} {u v : Value} (h : m ≠ p) : ((w.setCell ⟨p, i, none⟩ u).setCell ⟨p, j, none⟩ v).heap[m]? = w.heap[m]? :=
  (Below.heap_setCell _ _ _ m h).trans (Below.heap_setCell _ _ _ m h)
theorem cell_ne_map {w : World} {b o m : Nat} {v : Value} {P : Program} {k : TypeId} {R : Value → Option (DataW Unit × List MemPlace)} {n : Nat} {D : DataW Unit} (h : w.cell? ⟨b, o, none⟩ = some v) (hm : w.ownsMap P k R m n D) : b ≠ m := by
  obtain ⟨es, clock, hb, _⟩ := hm
  rintro rfl
  simp [World.cell?, hb] at h
theorem cut_eq (x : Fl) (xb nb : ByteArray) (c : Int) (pk : Nat) (hx : xb = bs x.bytes) (hpk : pk = pickN c (x.bytes.length - x.synced + 1)) (hnb : nb = xb.extract 0 (x.synced + pk)) : cutFl c x = ⟨nb.data.toList, nb.size⟩ := by
  unfold cutFl
  rw [← hpk]
  have : nb.data.toList = x.bytes.take (x.synced + pk) := by rw [hnb, Lib.extract_from_zero, hx, bs_toList]
  rw [← this, len_toList]
theorem len_cast {a b : Nat} (h : b ≤ a) : (a : Int) - (b : Int) + 1 = ((a - b + 1 : Nat) : Int) := by omega
theorem row_all {w w1 : World} {v : Value} {f : Nm → Option Fl} (h : w1.ownsRow w.heap.size 9 1 v (names f).length (strs (names f))) :
    ∃ ao cap, v = .slice ao (names f).length cap ∧ ∀ j, (hj : j < (names f).length) → ∃ g, ao = some ⟨g, 0, none⟩ ∧ w.heap.size ≤ g ∧ g < w1.heap.size ∧ w1.cell? ⟨g, j, none⟩ = some (.string (bs ((names f)[j]'hj).l)) := by
  rcases h.2 with ⟨rfl, hn⟩ | ⟨g, cap, cur, rfl, hgb, hgc, _⟩
  · exact ⟨none, 0, by rw [hn], fun j hj => by omega⟩
  · exact ⟨_, cap, rfl, fun j hj => ⟨g, rfl, hgb, blk_lt hgc, by rw [h.cellAt j (by omega)]; simp [strs, hj]⟩⟩
theorem look_run1 {w : World} {m k : Nat} {f : Nm → Option Fl} (h : w.ownsMap Tryz.prog 9 fileR m k (dat f)) (n : Nm) (W : World) (hW : W.heap[m]? = w.heap[m]?) :
    (Instr.lookup 56 (.map (some m)) (.string (bs n.l)) false).run Tryz.prog W = .ok (fv ((f n).getD Fl.zero)) W := by
  obtain ⟨es, clock, hb, F, _, hD⟩ := ownsMap_blk h hW
  have hd := dat_at f n
  rw [hD] at hd
  rcases Maps.fit_look false (string_keyed Tryz.underlying9) Tryz.underlying56 (zeroFile W) hb F (keyNm n) with ⟨hrun, _, hat⟩ | ⟨e0, y, _, _, hrun, hRv, hat, _⟩
  · rw [hat] at hd
    have : fv Fl.zero = fv ((f n).getD Fl.zero) := fileR_inv (ps := []) (x := (f n).getD Fl.zero) (by rw [fileR_mk, hd])
    rw [← this]; exact hrun
  · rw [hat] at hd
    rw [← fileR_inv (v := e0.val) (ps := y.2) (x := (f n).getD Fl.zero) (by rw [← hd]; exact hRv)]; exact hrun
set_option maxRecDepth 100000 in
set_option maxHeartbeats 2000000 in
theorem disk_restart (p m : Nat) (D : Dk) (keep : List Int) (v : Value) (w : World) (h : DkIs w p m D) (hk : IntRow w v keep) (hkl : keep.length ≤ 9223372036854775807) :
    Calls Tryz.prog 31 #[.pointer (some ⟨p, 0, none⟩), v] w fun e w' => e = .returned (.tuple #[]) ∧ DkIs w' p m (D.restart keep) ∧ Fr [p, m] w w' := by
  obtain ⟨ao, kc, rfl, hkc⟩ := hk
  have H := Lib.hid h
  have hdl := h.lt
  have hnl := names_len D.f
  have HK := Lib.hid hkc
  clear h hkc
  go_enter Tryz.func31, Tryz.ntmps31
  go_wp2_with fail
  refine (disk_list p m D _ H.out).mono ?_
  rintro e w1 ⟨v1, rfl, hrow, hb⟩
  have hf1 : Fr [] w w1 := Fr.of_below hb []
  have HD1 := Lib.hid (H.out.fr hf1 (by simp) (by simp))
  have HF1 := Lib.hid (hf1.mono (T := [p, m]) (by simp))
  have hs1 := hf1.size
  obtain ⟨ao1, cap, rfl, hc⟩ := row_all hrow
  · have HC := Lib.hid hc
    obtain ⟨N, hN⟩ : ∃ N, N = names D.f := ⟨_, rfl⟩
    rw [← hN] at HC hnl ⊢
    have HN := Lib.hid hN
    have HB1 := Lib.hid hb
    clear hc hrow hb hf1 hN
    go_wp2
    go_loopw [11] (fun i wr => ∃ (k : Nat) (f : Nm → Option Fl), k ≤ N.length ∧ i = .int .i64 (k : Int) ∧ DkIs wr p m { D with f := f } ∧ Fr [m] w1 wr ∧ Hid (rst keep 0 N D.f = rst keep k (N.drop k) f) ∧ Hid (∀ n, (f n).isSome = (D.f n).isSome)) (fun i _ => N.length - (intOf i).toNat)
    case atStart => exact ⟨0, D.f, by omega, rfl, HD1.out, Fr.refl _ _, rfl, fun _ => rfl⟩
    case round =>
      obtain ⟨k, f, hk, rfl, hDr, hF, HJ, HS⟩ := hrel
      by_cases hlt : k < N.length
      · obtain ⟨g, rfl, hgb, hgl, q0⟩ := HC.out k hlt
        have hgm : g ≠ m := by omega
        have c0 : wr.cell? ⟨g, k, none⟩ = some (.string (bs (N[k]'hlt).l)) := by rw [World.cell?_of_block (hF.block g hgl (by simpa using hgm))]; exact q0
        have hmem : N[k]'hlt ∈ names D.f := by rw [← HN.out]; exact List.getElem_mem hlt
        have hsome : (D.f (N[k]'hlt)).isSome = true := by rw [← mem_names]; simpa using hmem
        rw [← HS.out] at hsome
        obtain ⟨x, hx⟩ := Option.isSome_iff_exists.1 hsome
        have hJ2 := HJ.out
        rw [List.drop_eq_getElem_cons hlt, rst, hx] at hJ2
        obtain ⟨n, hn⟩ : ∃ n, n = N[k]'hlt := ⟨_, rfl⟩
        rw [← hn] at c0 hx hJ2
        have HJ2 := Lib.hid hJ2
        have hwx := hDr.wf n x hx
        have k1 := look_run1 hDr.map n wr rfl
        simp only [hx, fv, Option.getD_some] at k1
        have m0 := blk_cell (v := .map (some m)) hDr.box (j := 0) rfl
        obtain ⟨xb, hxb⟩ : ∃ xb, xb = bs x.bytes := ⟨_, rfl⟩
        rw [← hxb] at k1
        have hxl : xb.size = x.bytes.length := by rw [hxb, bs_size]
        have HXB := Lib.hid hxb
        clear hxb
        have HDr := Lib.hid hDr
        clear q0 hJ2 hmem hsome hDr HJ hn
        by_cases hki : k < keep.length
        · obtain ⟨⟨b1, b2⟩, g', o', rfl, q1⟩ := HK.out k hki
          obtain ⟨kv, hkv⟩ : ∃ kv, kv = keep[k]'hki := ⟨_, rfl⟩
          rw [← hkv] at b1 b2 q1
          have hgd := Lib.hid (show keep.getD k 0 = kv by rw [hkv]; simp [hki])
          clear hkv
          have hki' : (k : Int) < (keep.length : Int) := by omega
          have hgl2 : g' < w.heap.size := World.block_lt_of_cell? w ⟨g', o' + k, none⟩ q1
          have hgm2 : g' ≠ m := cell_ne_map q1 H.out.map
          have q2 : wr.cell? ⟨g', o' + k, none⟩ = some (.int .i64 kv) := by
            rw [World.cell?_of_block ((hF.block g' (by omega) (by simpa using hgm2)).trans (HB1.out.block g' hgl2))]; exact q1
          have q3 := fun o => cell_alloc wr o q2
          clear q1
          by_cases hneg : kv < 0
          · go_wp2_with fail
            clear q2 q3
            have HX := Lib.hid hx
            clear hx
            obtain ⟨w6, hw6⟩ : ∃ w6, w6 = wr.alloc (.cells #[.string xb, .int .i64 (x.synced : Int)] 82) := ⟨_, rfl⟩
            rw [← hw6]
            have hb6 : w6.heap[wr.heap.size]? = some (.cells #[.string xb, .int .i64 (x.synced : Int)] 82 (0, 0)) := by rw [hw6]; exact heap_new _ _
            have hf6 : Fr [] wr w6 := by rw [hw6]; exact (Fr.refl _ _).alloc _
            have z0 := blk_cell (v := .string xb) hb6 (j := 0) rfl
            have z0f := blk_free hb6 0
            have z1 := blk_cell (v := .int .i64 (x.synced : Int)) hb6 (j := 1) rfl
            have z1f := blk_free hb6 1
            clear hw6
            obtain ⟨pk, hpk⟩ : ∃ pk, pk = pickN kv (x.bytes.length - x.synced + 1) := ⟨_, rfl⟩
            have hplt : pk < x.bytes.length - x.synced + 1 := by rw [hpk]; exact pickN_lt _ _ (by omega)
            have s4 : Int.tmod (-(kv + 1)) ((x.bytes.length : Int) - (x.synced : Int) + 1) = (pk : Int) := by
              rw [hpk]; rw [len_cast hwx.2]; exact pickN_neg _ _ hneg (by omega)
            have HPK := Lib.hid hpk
            clear hpk
            have s1 : IntKind.i64.wrap ((x.bytes.length : Int) - (x.synced : Int)) = (x.bytes.length : Int) - (x.synced : Int) := IntWalk.i64_in _ (by omega)
            have s2 : IntKind.i64.wrap ((x.bytes.length : Int) - (x.synced : Int) + 1) = (x.bytes.length : Int) - (x.synced : Int) + 1 := IntWalk.i64_in _ (by omega)
            have s3 : ¬ (x.bytes.length : Int) - (x.synced : Int) + 1 = 0 := by omega
            have s5 : IntKind.i64.wrap ((x.synced : Int) + (pk : Int)) = (x.synced : Int) + (pk : Int) := IntWalk.i64_in _ (by omega)
            have s6 : (0 : Int) ≤ (x.synced : Int) + (pk : Int) := by omega
            have s7 : (x.synced : Int) + (pk : Int) ≤ (x.bytes.length : Int) := by omega
            have s8 : ((x.synced : Int) + (pk : Int)).toNat = x.synced + pk := by omega
            go_region
            obtain ⟨w7, hw7⟩ : ∃ w7, w7 = (w6.setCell ⟨wr.heap.size, 0, none⟩ (.string (xb.extract 0 (x.synced + pk)))).drew := ⟨_, rfl⟩
            rw [← hw7]
            obtain ⟨nb, hnb⟩ : ∃ nb, nb = xb.extract 0 (x.synced + pk) := ⟨_, rfl⟩
            rw [← hnb] at hw7
            have hnz : nb.size = x.synced + pk := by rw [hnb, ByteArray.size_extract]; omega
            have hb7 : w7.heap[wr.heap.size]? = some (.cells #[.string nb, .int .i64 (x.synced : Int)] 82 (0, 0)) := by rw [hw7]; exact blk_set hb6 0 _
            have hf7 : Fr [] wr w7 := by rw [hw7]; exact (hf6.setCell (.inr (Nat.le_refl _)) _).drew
            have HNB := Lib.hid hnb
            have HNZ := Lib.hid hnz
            have hnzi : (nb.size : Int) = (x.synced : Int) + (pk : Int) := by omega
            clear hw7 z0 z0f z1 z1f hb6 hf6 s1 s2 s3 s4 s5 s6 s7 s8 hnb hnz
            have z0 := blk_cell (v := .string nb) hb7 (j := 0) rfl
            have z1 := blk_cell (v := .int .i64 (x.synced : Int)) hb7 (j := 1) rfl
            have z1f := blk_free hb7 1
            have HN7 := Lib.hid hnzi
            clear hnzi
            go_wp2_with fail
            obtain ⟨w8, hw8⟩ : ∃ w8, w8 = w7.setCell ⟨wr.heap.size, 1, none⟩ (.int .i64 (nb.size : Int)) := ⟨_, rfl⟩
            rw [← hw8]
            have hb8 : w8.heap[wr.heap.size]? = some (.cells #[.string nb, .int .i64 (nb.size : Int)] 82 (0, 0)) := by rw [hw8]; exact blk_set hb7 1 _
            have hf8 : Fr [] wr w8 := by rw [hw8]; exact hf7.setCell (.inr (Nat.le_refl _)) _
            clear hw8 z0 z1 z1f hb7 hf7
            have z0 := blk_cell (v := .string nb) hb8 (j := 0) rfl
            have z1 := blk_cell (v := .int .i64 (nb.size : Int)) hb8 (j := 1) rfl
            have HD8 := HDr.out.fr hf8 (by simp) (by simp)
            have m8 := blk_cell (v := .map (some m)) HD8.box (j := 0) rfl
            have hX : w8.drew.ownsMap Tryz.prog 9 fileR m 3 (dat f) := ownsMap_blk HD8.map rfl
            obtain ⟨W1, hrun, hown1, hf9⟩ := upd_run hX n ⟨nb.data.toList, nb.size⟩
            simp only [fv, bs_of] at hrun
            have HF9 := Lib.hid (hf8.drew.mono (T := [m]) (by simp) |>.trans hf9)
            have HOWN := Lib.hid hown1
            have HB8 := Lib.hid hb8
            clear hb8 hf8 HD8 hX hown1 hf9
            go_region
            go_wp2_with fail
            case roundEnd =>
              have hcut := cut_eq x xb nb kv pk HXB.out HPK.out HNB.out
              have hj := HJ2.out
              rw [hgd.out] at hj
              rw [Option.map_some, hcut] at hj
              have hnz2 := HNZ.out
              refine ⟨⟨k + 1, upd f n (some ⟨nb.data.toList, nb.size⟩), by omega, by go_num, HDr.out.turn HF9.out HOWN.out (Dk.wf_upd HDr.out.wf n _ (by simp only [len_toList]; omega) (by simp only [len_toList]; omega)), hF.trans HF9.out, Lib.hid hj, Lib.hid ?_⟩, by simp [intOf]; omega⟩
              intro n'
              rw [← HS.out n']
              unfold upd
              by_cases hnn : n' = n
              · subst hnn; simp [HX.out]
              · rw [if_neg hnn]
          · go_wp2_with fail
            clear q2 q3
            have HX := Lib.hid hx
            clear hx
            obtain ⟨w6, hw6⟩ : ∃ w6, w6 = wr.alloc (.cells #[.string xb, .int .i64 (x.synced : Int)] 82) := ⟨_, rfl⟩
            rw [← hw6]
            have hb6 : w6.heap[wr.heap.size]? = some (.cells #[.string xb, .int .i64 (x.synced : Int)] 82 (0, 0)) := by rw [hw6]; exact heap_new _ _
            have hf6 : Fr [] wr w6 := by rw [hw6]; exact (Fr.refl _ _).alloc _
            have z0 := blk_cell (v := .string xb) hb6 (j := 0) rfl
            have z0f := blk_free hb6 0
            have z1 := blk_cell (v := .int .i64 (x.synced : Int)) hb6 (j := 1) rfl
            have z1f := blk_free hb6 1
            clear hw6
            obtain ⟨pk, hpk⟩ : ∃ pk, pk = pickN kv (x.bytes.length - x.synced + 1) := ⟨_, rfl⟩
            have hplt : pk < x.bytes.length - x.synced + 1 := by rw [hpk]; exact pickN_lt _ _ (by omega)
            have s4 : Int.tmod kv ((x.bytes.length : Int) - (x.synced : Int) + 1) = (pk : Int) := by
              rw [hpk]; rw [len_cast hwx.2]; exact pickN_pos _ _ (by omega)
            have HPK := Lib.hid hpk
            clear hpk
            have s1 : IntKind.i64.wrap ((x.bytes.length : Int) - (x.synced : Int)) = (x.bytes.length : Int) - (x.synced : Int) := IntWalk.i64_in _ (by omega)
            have s2 : IntKind.i64.wrap ((x.bytes.length : Int) - (x.synced : Int) + 1) = (x.bytes.length : Int) - (x.synced : Int) + 1 := IntWalk.i64_in _ (by omega)
            have s3 : ¬ (x.bytes.length : Int) - (x.synced : Int) + 1 = 0 := by omega
            have s5 : IntKind.i64.wrap ((x.synced : Int) + (pk : Int)) = (x.synced : Int) + (pk : Int) := IntWalk.i64_in _ (by omega)
            have s6 : (0 : Int) ≤ (x.synced : Int) + (pk : Int) := by omega
            have s7 : (x.synced : Int) + (pk : Int) ≤ (x.bytes.length : Int) := by omega
            have s8 : ((x.synced : Int) + (pk : Int)).toNat = x.synced + pk := by omega
            go_region
            obtain ⟨w7, hw7⟩ : ∃ w7, w7 = (w6.setCell ⟨wr.heap.size, 0, none⟩ (.string (xb.extract 0 (x.synced + pk)))).drew := ⟨_, rfl⟩
            rw [← hw7]
            obtain ⟨nb, hnb⟩ : ∃ nb, nb = xb.extract 0 (x.synced + pk) := ⟨_, rfl⟩
            rw [← hnb] at hw7
            have hnz : nb.size = x.synced + pk := by rw [hnb, ByteArray.size_extract]; omega
            have hb7 : w7.heap[wr.heap.size]? = some (.cells #[.string nb, .int .i64 (x.synced : Int)] 82 (0, 0)) := by rw [hw7]; exact blk_set hb6 0 _
            have hf7 : Fr [] wr w7 := by rw [hw7]; exact (hf6.setCell (.inr (Nat.le_refl _)) _).drew
            have HNB := Lib.hid hnb
            have HNZ := Lib.hid hnz
            have hnzi : (nb.size : Int) = (x.synced : Int) + (pk : Int) := by omega
            clear hw7 z0 z0f z1 z1f hb6 hf6 s1 s2 s3 s4 s5 s6 s7 s8 hnb hnz
            have z0 := blk_cell (v := .string nb) hb7 (j := 0) rfl
            have z1 := blk_cell (v := .int .i64 (x.synced : Int)) hb7 (j := 1) rfl
            have z1f := blk_free hb7 1
            have HN7 := Lib.hid hnzi
            clear hnzi
            go_wp2_with fail
            obtain ⟨w8, hw8⟩ : ∃ w8, w8 = w7.setCell ⟨wr.heap.size, 1, none⟩ (.int .i64 (nb.size : Int)) := ⟨_, rfl⟩
            rw [← hw8]
            have hb8 : w8.heap[wr.heap.size]? = some (.cells #[.string nb, .int .i64 (nb.size : Int)] 82 (0, 0)) := by rw [hw8]; exact blk_set hb7 1 _
            have hf8 : Fr [] wr w8 := by rw [hw8]; exact hf7.setCell (.inr (Nat.le_refl _)) _
            clear hw8 z0 z1 z1f hb7 hf7
            have z0 := blk_cell (v := .string nb) hb8 (j := 0) rfl
            have z1 := blk_cell (v := .int .i64 (nb.size : Int)) hb8 (j := 1) rfl
            have HD8 := HDr.out.fr hf8 (by simp) (by simp)
            have m8 := blk_cell (v := .map (some m)) HD8.box (j := 0) rfl
            have hX : w8.drew.ownsMap Tryz.prog 9 fileR m 3 (dat f) := ownsMap_blk HD8.map rfl
            obtain ⟨W1, hrun, hown1, hf9⟩ := upd_run hX n ⟨nb.data.toList, nb.size⟩
            simp only [fv, bs_of] at hrun
            have HF9 := Lib.hid (hf8.drew.mono (T := [m]) (by simp) |>.trans hf9)
            have HOWN := Lib.hid hown1
            have HB8 := Lib.hid hb8
            clear hb8 hf8 HD8 hX hown1 hf9
            go_region
            go_wp2_with fail
            case roundEnd =>
              have hcut := cut_eq x xb nb kv pk HXB.out HPK.out HNB.out
              have hj := HJ2.out
              rw [hgd.out] at hj
              rw [Option.map_some, hcut] at hj
              have hnz2 := HNZ.out
              refine ⟨⟨k + 1, upd f n (some ⟨nb.data.toList, nb.size⟩), by omega, by go_num, HDr.out.turn HF9.out HOWN.out (Dk.wf_upd HDr.out.wf n _ (by simp only [len_toList]; omega) (by simp only [len_toList]; omega)), hF.trans HF9.out, Lib.hid hj, Lib.hid ?_⟩, by simp [intOf]; omega⟩
              intro n'
              rw [← HS.out n']
              unfold upd
              by_cases hnn : n' = n
              · subst hnn; simp [HX.out]
              · rw [if_neg hnn]
        · have hki' : ¬ (k : Int) < (keep.length : Int) := by omega
          have hgd := Lib.hid (show keep.getD k 0 = 0 by simp [Nat.not_lt.1 hki])
          · go_wp2_with fail
            have HX := Lib.hid hx
            clear hx
            obtain ⟨w6, hw6⟩ : ∃ w6, w6 = wr.alloc (.cells #[.string xb, .int .i64 (x.synced : Int)] 82) := ⟨_, rfl⟩
            rw [← hw6]
            have hb6 : w6.heap[wr.heap.size]? = some (.cells #[.string xb, .int .i64 (x.synced : Int)] 82 (0, 0)) := by rw [hw6]; exact heap_new _ _
            have hf6 : Fr [] wr w6 := by rw [hw6]; exact (Fr.refl _ _).alloc _
            have z0 := blk_cell (v := .string xb) hb6 (j := 0) rfl
            have z0f := blk_free hb6 0
            have z1 := blk_cell (v := .int .i64 (x.synced : Int)) hb6 (j := 1) rfl
            have z1f := blk_free hb6 1
            clear hw6
            obtain ⟨pk, hpk⟩ : ∃ pk, pk = pickN 0 (x.bytes.length - x.synced + 1) := ⟨_, rfl⟩
            have hplt : pk < x.bytes.length - x.synced + 1 := by rw [hpk]; exact pickN_lt _ _ (by omega)
            have s4 : Int.tmod 0 ((x.bytes.length : Int) - (x.synced : Int) + 1) = (pk : Int) := by
              rw [hpk]; rw [len_cast hwx.2]; exact pickN_0 _
            have HPK := Lib.hid hpk
            clear hpk
            have s1 : IntKind.i64.wrap ((x.bytes.length : Int) - (x.synced : Int)) = (x.bytes.length : Int) - (x.synced : Int) := IntWalk.i64_in _ (by omega)
            have s2 : IntKind.i64.wrap ((x.bytes.length : Int) - (x.synced : Int) + 1) = (x.bytes.length : Int) - (x.synced : Int) + 1 := IntWalk.i64_in _ (by omega)
            have s3 : ¬ (x.bytes.length : Int) - (x.synced : Int) + 1 = 0 := by omega
            have s5 : IntKind.i64.wrap ((x.synced : Int) + (pk : Int)) = (x.synced : Int) + (pk : Int) := IntWalk.i64_in _ (by omega)
            have s6 : (0 : Int) ≤ (x.synced : Int) + (pk : Int) := by omega
            have s7 : (x.synced : Int) + (pk : Int) ≤ (x.bytes.length : Int) := by omega
            have s8 : ((x.synced : Int) + (pk : Int)).toNat = x.synced + pk := by omega
            go_region
            obtain ⟨w7, hw7⟩ : ∃ w7, w7 = (w6.setCell ⟨wr.heap.size, 0, none⟩ (.string (xb.extract 0 (x.synced + pk)))).drew := ⟨_, rfl⟩
            rw [← hw7]
            obtain ⟨nb, hnb⟩ : ∃ nb, nb = xb.extract 0 (x.synced + pk) := ⟨_, rfl⟩
            rw [← hnb] at hw7
            have hnz : nb.size = x.synced + pk := by rw [hnb, ByteArray.size_extract]; omega
            have hb7 : w7.heap[wr.heap.size]? = some (.cells #[.string nb, .int .i64 (x.synced : Int)] 82 (0, 0)) := by rw [hw7]; exact blk_set hb6 0 _
            have hf7 : Fr [] wr w7 := by rw [hw7]; exact (hf6.setCell (.inr (Nat.le_refl _)) _).drew
            have HNB := Lib.hid hnb
            have HNZ := Lib.hid hnz
            have hnzi : (nb.size : Int) = (x.synced : Int) + (pk : Int) := by omega
            clear hw7 z0 z0f z1 z1f hb6 hf6 s1 s2 s3 s4 s5 s6 s7 s8 hnb hnz
            have z0 := blk_cell (v := .string nb) hb7 (j := 0) rfl
            have z1 := blk_cell (v := .int .i64 (x.synced : Int)) hb7 (j := 1) rfl
            have z1f := blk_free hb7 1
            have HN7 := Lib.hid hnzi
            clear hnzi
            go_wp2_with fail
            obtain ⟨w8, hw8⟩ : ∃ w8, w8 = w7.setCell ⟨wr.heap.size, 1, none⟩ (.int .i64 (nb.size : Int)) := ⟨_, rfl⟩
            rw [← hw8]
            have hb8 : w8.heap[wr.heap.size]? = some (.cells #[.string nb, .int .i64 (nb.size : Int)] 82 (0, 0)) := by rw [hw8]; exact blk_set hb7 1 _
            have hf8 : Fr [] wr w8 := by rw [hw8]; exact hf7.setCell (.inr (Nat.le_refl _)) _
            clear hw8 z0 z1 z1f hb7 hf7
            have z0 := blk_cell (v := .string nb) hb8 (j := 0) rfl
            have z1 := blk_cell (v := .int .i64 (nb.size : Int)) hb8 (j := 1) rfl
            have HD8 := HDr.out.fr hf8 (by simp) (by simp)
            have m8 := blk_cell (v := .map (some m)) HD8.box (j := 0) rfl
            have hX : w8.drew.ownsMap Tryz.prog 9 fileR m 3 (dat f) := ownsMap_blk HD8.map rfl
            obtain ⟨W1, hrun, hown1, hf9⟩ := upd_run hX n ⟨nb.data.toList, nb.size⟩
            simp only [fv, bs_of] at hrun
            have HF9 := Lib.hid (hf8.drew.mono (T := [m]) (by simp) |>.trans hf9)
            have HOWN := Lib.hid hown1
            have HB8 := Lib.hid hb8
            clear hb8 hf8 HD8 hX hown1 hf9
            go_region
            go_wp2_with fail
            case roundEnd =>
              have hcut := cut_eq x xb nb 0 pk HXB.out HPK.out HNB.out
              have hj := HJ2.out
              rw [hgd.out] at hj
              rw [Option.map_some, hcut] at hj
              have hnz2 := HNZ.out
              refine ⟨⟨k + 1, upd f n (some ⟨nb.data.toList, nb.size⟩), by omega, by go_num, HDr.out.turn HF9.out HOWN.out (Dk.wf_upd HDr.out.wf n _ (by simp only [len_toList]; omega) (by simp only [len_toList]; omega)), hF.trans HF9.out, Lib.hid hj, Lib.hid ?_⟩, by simp [intOf]; omega⟩
              intro n'
              rw [← HS.out n']
              unfold upd
              by_cases hnn : n' = n
              · subst hnn; simp [HX.out]
              · rw [if_neg hnn]
      · obtain rfl : k = N.length := by omega
        have b0 := hDr.box
        have e3 := blk_cell (v := .bool D.off) b0 (j := 3) rfl
        have e3f := blk_free b0 3
        have s3 := blk_set b0 3 (.bool false)
        have e2 := blk_cell (v := .int .i64 (D.armed : Int)) s3 (j := 2) rfl
        have e2f := blk_free s3 2
        have S4 := Lib.hid (blk_set s3 2 (.int .i64 0))
        have HDr := Lib.hid hDr
        clear hDr
        clear b0 s3
        go_wp2_with fail
        go_end0
        refine ⟨rfl, ?_, ?_⟩
        · have hj := HJ.out
          rw [List.drop_length, rst] at hj
          unfold Dk.restart
          rw [← HN.out, hj]
          exact ⟨S4.out, ownsMap_blk HDr.out.map (ne_set2 hdl.2.2.symm), HDr.out.wf⟩
        · exact ((HF1.out.trans (hF.mono (by simp))).setCell (.inl (by simp)) _).setCell (.inl (by simp)) _
end Go.Proofs.YtnlgmekkjibpmaaGreatDoor
