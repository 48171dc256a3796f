/- DERIVED. Contracts and plain laws under the statement: one merged text. -/
import Derived.Test.YtnlgmekkjibpmaaGreatDoorMf
import Derived.OwnWalk
import Derived.Laws.OwnMore
import Derived.Outline
import Derived.BigQuiet
import Derived.Deep.Slices
import Derived.Deep.Fields
import Derived.ChangeMaps5
/- DERIVED. The law WalLong: the walk. -/
namespace Go.Proofs.YtnlgmekkjibpmaaGreatDoor
open Go Go.RowKit Go.Shelf Go.Proofs.YtnlgmekkjibpmaaGreatDoorW.PrintWords
set_option linter.unusedVariables false
set_option linter.unusedSimpArgs false

theorem fr_two {q r : Nat} {s t : List UInt8} (hs : s.length ≤ 300) (ht : t.length ≤ 4101) (h1 : Ent.ok (q, s) := by first | exact ok_of (by omega) (by omega) | assumption) (h2 : Ent.ok (r, t) := by assumption) : (fr (q, s)).length + (fr (r, t)).length ≤ 65536 := by
  have h1 := fr_le h1
  have h2 := fr_le h2
  simp only at h1 h2
  omega
theorem strRow_lit2 (w : World) (x y : ByteArray) (c : Nat) (t : TypeId) : StrRow (w.alloc (.cells #[.string x, .string y] t)) (.slice (some ⟨w.heap.size, 0, none⟩) 2 c) [x.data.toList, y.data.toList] :=
  .inr ⟨w.heap.size, c, rfl, fun j hj => by
    rcases j with _ | _ | j
    · rw [List.getElem_cons_zero, bs_of]; exact blk_cell (heap_new _ _) rfl
    · simp only [List.getElem_cons_succ, List.getElem_cons_zero, bs_of]; exact blk_cell (heap_new _ _) rfl
    · simp at hj; omega⟩
theorem strRow_lit3 (w : World) (x y z : ByteArray) (c : Nat) (t : TypeId) : StrRow (w.alloc (.cells #[.string x, .string y, .string z] t)) (.slice (some ⟨w.heap.size, 0, none⟩) 3 c) [x.data.toList, y.data.toList, z.data.toList] :=
  .inr ⟨w.heap.size, c, rfl, fun j hj => by
    rcases j with _ | _ | _ | j
    · rw [List.getElem_cons_zero, bs_of]; exact blk_cell (heap_new _ _) rfl
    · simp only [List.getElem_cons_succ, List.getElem_cons_zero, bs_of]; exact blk_cell (heap_new _ _) rfl
    · simp only [List.getElem_cons_succ, List.getElem_cons_zero, bs_of]; exact blk_cell (heap_new _ _) rfl
    · simp at hj; omega⟩
theorem kept_a (x y : ByteArray) : textsL (keptF ((0, []) : Ent).1 ([] ++ [(0 + 1, x.data.toList)] ++ [(0 + 1 + 1, y.data.toList)] ++ [(0 + 1 + 1 + 1, [99])])) = [x.data.toList, y.data.toList, [99]] := by
  simp [textsL, keptF]
theorem kept_b (x : ByteArray) : textsL (keptF ((0, []) : Ent).1 ([] ++ [(0 + 1, x.data.toList)] ++ [(0 + 1 + 1, [99])])) = [x.data.toList, [99]] := by
  simp [textsL, keptF]
theorem kept_c (l : List UInt8) : textsL (keptF ((0 + 1, l) : Ent).1 ([] ++ [(0 + 1 + 1, [99])])) = [[99]] := by
  simp [textsL, keptF]
theorem flat_le : ∀ (E : List Ent), (∀ x ∈ E, x.ok) → (flat E).length ≤ (E.map fun x => x.2.length + 12).sum
  | [], _ => by simp [flat]
  | x :: E, h => by
    have h1 := flat_le E fun y hy => h y (by simp [hy])
    have h2 := fr_le (h x (by simp))
    have e : flat (x :: E) = fr x ++ flat E := by simp [flat]
    rw [e, List.length_append, List.map_cons, List.sum_cons]
    omega
theorem flat_fr_le {a : Ent} {E : List Ent} {q n k : Nat} (h : Has a E q) (hn : (E.map fun x => x.2.length + 12).sum ≤ n) {x : Ent} (hx : x.ok) (hk : n + (x.2.length + 12) ≤ 65536) : (flat E).length + (fr x).length ≤ 65536 := by
  have h1 := flat_le E h.ok
  have h2 := fr_le hx
  omega
theorem zeros_nums (n : Nat) : List.replicate n (Value.int .u8 0) = nums .u8 (List.replicate n (0 : Int)) := by simp [nums]
def big0 (n : Nat) : List UInt8 := List.replicate n 0
theorem zeros_str (n : Nat) : strOfNums (List.replicate n (0 : Int)) = bs (big0 n) := by
  simp [strOfNums, bs, big0]

theorem numB_one {q : Nat} (h : q ≤ 63) : (numB (q : Int)).length = 1 := by
  have h1 := numB_len q 0 (by omega)
  have h2 := numB_pos q
  omega
theorem ok_big {q : Nat} {s : ByteArray} (hq : q ≤ 63) (h : s.size ≤ 4095) : Ent.ok (q, s.data.toList) := by
  have := numB_one hq
  unfold Ent.ok
  simp only [len_toList]
  omega
theorem not_big {q : Nat} {s : ByteArray} (hq : q ≤ 63) (h : ¬ s.size ≤ 4095) : ¬ Ent.ok (q, s.data.toList) := by
  have := numB_one hq
  unfold Ent.ok
  simp only [len_toList]
  omega
theorem big_size (n : Nat) : (bs (big0 n)).size = n := by rw [bs_size]; simp [big0]
theorem append_refused (b p m : Nat) (L : Lg) (a : Ent) (E : List Ent) (q : Nat) (s : ByteArray) (w : World) (h : LgIs w b p m L) (hA : Alive L a E q) (hq : q ≤ 62) (hx : ¬ s.size ≤ 4095) (hs : s.size ≤ 100000) (h2 : L.dk.acts ≤ 800000) :
    Calls Tryz.prog 12 #[.pointer (some ⟨b, 0, none⟩), .string s] w fun e w' => e = .returned (.int .i64 111) ∧ LgIs w' b p m L ∧ Fr [b, p, m] w w' := by
  have hL := hA.seq
  refine (append_calls b p m L s w h (by omega) hs h2).mono ?_
  rw [append_long L s.data.toList hA.err (not_big (by omega) hx)]
  exact fun e w' h => h
theorem check_refused (b p m : Nat) (L : Lg) (a : Ent) (E : List Ent) (q : Nat) (s : ByteArray) (w : World) (h : LgIs w b p m L) (hA : Alive L a E q) (hq : q ≤ 62) (hx : ¬ s.size ≤ 4095) (hs : s.size ≤ 100000) (h2 : L.dk.acts ≤ 800000) :
    Calls Tryz.prog 13 #[.pointer (some ⟨b, 0, none⟩), .string s] w fun e w' => e = .returned (.int .i64 111) ∧ LgIs w' b p m L ∧ Fr [b, p, m] w w' := by
  have hL := hA.seq
  refine (checkpoint_calls b p m L s w h (by omega) hs h2).mono ?_
  rw [check_long L s.data.toList hA.err (not_big (by omega) hx)]
  exact fun e w' h => h

set_option maxRecDepth 100000 in
set_option maxHeartbeats 2000000 in
theorem walLong_calls (text : ByteArray) (long : Int) (which : Bool) (w : World) (hg : G w) (ht : text.size ≤ 9223372036854775807) (hn1 : -9223372036854775808 ≤ long) (hn2 : long ≤ 9223372036854775807) :
    Calls Tryz.prog 3 #[.string text, .int .i64 long, .bool which] w fun e w' => e = .returned (.bool true) ∧ Fr [] w w' := by
  obtain ⟨i0, hi, hz0, hz1, hz2⟩ := info_parts Tryz.info5
  have hg0 : 0 < w.heap.size := World.block_lt_of_cell? w ⟨0, 0, none⟩ hg
  have HG := Lib.hid hg
  clear hg
  go_enter Tryz.func3, Tryz.ntmps3
  go_wp2_with fail
  refine (awake_calls _ HG.out).mono ?_
  rintro e w0 ⟨rfl, hf0⟩
  have HG0 := Lib.hid (HG.out.fr hf0 (by simp))
  have HF0 := Lib.hid hf0
  have hs0 := hf0.size
  clear HG hf0
  go_wp2_with fail
  refine (disk_new _).mono ?_
  rintro e w1 ⟨p, m, rfl, hp, hm, hd1, hb1⟩
  have hf1 : Fr [] w0 w1 := Fr.of_below hb1 []
  have HF1 := Lib.hid (HF0.out.trans hf1)
  have HD1 := Lib.hid hd1
  have hl1 := hd1.lt
  have HG1 := Lib.hid (HG0.out.fr hf1 (by simp))
  clear hd1 hb1 hf1 HG0 HF0
  go_wp2_with fail
  refine (open_told p m Dk.empty (0, []) [] 0 w1 HD1.out (by simp [Dk.empty]) HG1.out (by omega) (by omega) rfl rfl empty_snap empty_log Has.none (by simp [flat])).mono ?_
  rintro e w2 ⟨b, v, L, rfl, hb, hL, hA, harm, hac, hrow, hf2⟩
  have HL := Lib.hid hL
  have HA := Lib.hid hA
  have HAR := Lib.hid harm
  have HF2 := Lib.hid (HF1.out.part hf2 (by simp; omega))
  have hac2 : L.dk.acts ≤ 4 := hac
  have hs2 := hf2.size
  clear hL hA harm hrow hf2 hac HF1 HD1 HG1
  go_wp2_with fail
  obtain ⟨tx, htx⟩ : ∃ tx, tx = text.extract 0 (min (↑text.size) 300 : Int).toNat := ⟨_, rfl⟩
  rw [← htx]
  have htl : tx.size ≤ 300 := by rw [htx, ByteArray.size_extract]; omega
  clear htx
  refine (pick_calls long 12 (by omega) (by omega) hn1 hn2 _).mono ?_
  rintro e w3 ⟨rfl, rfl⟩
  have hpk := pickN_lt long 12 (by omega)
  obtain ⟨pk, hpk'⟩ : ∃ pk, pk = pickN long 12 := ⟨_, rfl⟩
  rw [← hpk'] at hpk ⊢
  clear hpk'
  go_wp2_with (at_make; go_loud (refine wpList_make_full _ rfl _ _ 31 rfl w3.heap.size 5 i0 _ 1 Tryz.underlying31 hi hz0 hz1 _ _ _ _ (4090 + pk) rfl rfl (by omega) (by omega) (by rw [hz2]; omega) (by unfold maxLen; omega) (Nat.le_refl _) ?_))
  intro w4 hown4 hgrow4
  rw [toList_madeCells_one, zeros_nums] at hown4
  have hcv := own_string (src := 31) (dst := 9) (e := 5) Tryz.underlying31 Tryz.underlying5 Tryz.underlying9 hown4
  rw [zeros_str] at hcv
  have hf4 : Fr [] w3 w4 := (Fr.refl [] w3).grown hgrow4 (by simp)
  have HL4 := Lib.hid (lg_fr HL.out hf4 (by simp) (by simp) (by simp))
  have HF4 := Lib.hid (HF2.out.trans hf4)
  have hs4 := hf4.size
  clear hown4 hgrow4 hf4 HL HF2
  go_wp2_with fail
  clear hcv
  refine (append_told b p m L _ _ _ _ _ HL4.out HA.out (ok_of (by omega) (by rw [len_toList]; omega)) (by omega) HAR.out (by simp only [flat, List.map_nil, List.flatten_nil, List.length_nil]; exact fr_small (by rw [len_toList]; omega) (by omega))).mono ?_
  rintro e w5 ⟨L5, rfl, hL, hA, harm, hac5, hf⟩
  have HL5 := Lib.hid hL
  have HA5 := Lib.hid hA
  have HAR5 := Lib.hid harm
  have HF5 := Lib.hid (HF4.out.part hf (by simp; omega))
  have hs5 := hf.size
  clear hL hA harm hf HL4 HF4 HA HAR
  cases which
  · by_cases hnk : 4090 + pk ≤ 4095
    · go_wp2_with fail
      refine (append_told b p m L5 _ _ _ _ _ HL5.out HA5.out (ok_big (by omega) (by rw [big_size]; omega)) (by omega) HAR5.out (by rw [List.nil_append, flat_one]; exact fr_two (by rw [len_toList]; omega) (by rw [len_toList, big_size]; omega) (ok_of (by omega) (by rw [len_toList]; omega)) (ok_big (by omega) (by rw [big_size]; omega)))).mono ?_
      rintro e w6 ⟨L6, rfl, hL, hA, harm, hac6, hf⟩
      have HL6 := Lib.hid hL
      have HA6 := Lib.hid hA
      have HAR6 := Lib.hid harm
      have HF6 := Lib.hid (HF5.out.part hf (by simp; omega))
      have hs6 := hf.size
      clear hL hA harm hf HL5 HF5 HA5 HAR5
      go_wp2_with fail
      refine (append_told b p m L6 _ _ _ _ _ HL6.out HA6.out (ok_of (by omega) (by decide)) (by omega) HAR6.out (flat_fr_le (n := 5000) (k := 0) HA6.out.has (by simp [big0, bs_toList, len_toList] <;> omega) (ok_of (by omega) (by decide)) (by decide))).mono ?_
      rintro e w7 ⟨L7, rfl, hL, hA, harm, hac7, hf⟩
      have HL7 := Lib.hid hL
      have HA7 := Lib.hid hA
      have HAR7 := Lib.hid harm
      have HF7 := Lib.hid (HF6.out.part hf (by simp; omega))
      have hs7 := hf.size
      clear hL hA harm hf HL6 HF6 HA6 HAR6
      go_wp2_with fail
      refine (open_told p m L7.dk _ _ _ w7 HL7.out.dk (by omega) HL7.out.g (by omega) (by omega) HA7.out.off HAR7.out HA7.out.snap HA7.out.log HA7.out.has (Nat.le_trans (flat_le _ HA7.out.has.ok) (by simp [big0, bs_toList, len_toList] <;> omega))).mono ?_
      rintro e w8 ⟨b8, v8, L8, rfl, hb8, hL, hA, harm, hac8, hrow, hf⟩
      have HF8 := Lib.hid (HF7.out.part hf (by simp; omega))
      have HR8 := Lib.hid hrow
      clear hL hA harm hf hrow HL7 HF7 HA7 HAR7
      rw [bs_nil]
      go_wp2_with fail
      refine (same_calls _ _ [tx.data.toList, (bs (big0 (4090 + pk))).data.toList, [99]] [tx.data.toList, (bs (big0 (4090 + pk))).data.toList, [99]] _ (((kept_a tx _) ▸ HR8.out).fr ((Fr.refl _ _).alloc _)) (strRow_lit3 _ _ _ _ _ _) (by simp) (by simp)).mono ?_
      rintro e w9 ⟨rfl, hf9⟩
      have HF9 := Lib.hid ((HF8.out.alloc _).trans hf9)
      rw [decide_eq_true rfl]
      go_wp2_with fail
      go_ret
      exact ⟨rfl, HF9.out⟩
    · go_wp2_with fail
      refine (append_refused b p m L5 _ _ _ _ _ HL5.out HA5.out (by omega) (by rw [big_size]; omega) (by rw [big_size]; omega) (by omega)).mono ?_
      rintro e w6 ⟨rfl, hL, hf⟩
      obtain ⟨L6, rfl⟩ : ∃ L6, L6 = L5 := ⟨_, rfl⟩
      have HL6 := Lib.hid hL
      have HA6 := Lib.hid HA5.out
      have HAR6 := Lib.hid HAR5.out
      have HF6 := Lib.hid (HF5.out.part hf (by simp; omega))
      have hs6 := hf.size
      have hac6 : L6.dk.acts ≤ L6.dk.acts + 4 := by omega
      clear hL hf HL5 HF5 HA5 HAR5
      go_wp2_with fail
      refine (append_told b p m L6 _ _ _ _ _ HL6.out HA6.out (ok_of (by omega) (by decide)) (by omega) HAR6.out (flat_fr_le (n := 5000) (k := 0) HA6.out.has (by simp [big0, bs_toList, len_toList] <;> omega) (ok_of (by omega) (by decide)) (by decide))).mono ?_
      rintro e w7 ⟨L7, rfl, hL, hA, harm, hac7, hf⟩
      have HL7 := Lib.hid hL
      have HA7 := Lib.hid hA
      have HAR7 := Lib.hid harm
      have HF7 := Lib.hid (HF6.out.part hf (by simp; omega))
      have hs7 := hf.size
      clear hL hA harm hf HL6 HF6 HA6 HAR6
      go_wp2_with fail
      refine (open_told p m L7.dk _ _ _ w7 HL7.out.dk (by omega) HL7.out.g (by omega) (by omega) HA7.out.off HAR7.out HA7.out.snap HA7.out.log HA7.out.has (Nat.le_trans (flat_le _ HA7.out.has.ok) (by simp [big0, bs_toList, len_toList] <;> omega))).mono ?_
      rintro e w8 ⟨b8, v8, L8, rfl, hb8, hL, hA, harm, hac8, hrow, hf⟩
      have HF8 := Lib.hid (HF7.out.part hf (by simp; omega))
      have HR8 := Lib.hid hrow
      clear hL hA harm hf hrow HL7 HF7 HA7 HAR7
      rw [bs_nil]
      go_wp2_with fail
      refine (same_calls _ _ [tx.data.toList, [99]] [tx.data.toList, [99]] _ (((kept_b tx) ▸ HR8.out).fr ((Fr.refl _ _).alloc _)) (strRow_lit2 _ _ _ _ _) (by simp) (by simp)).mono ?_
      rintro e w9 ⟨rfl, hf9⟩
      have HF9 := Lib.hid ((HF8.out.alloc _).trans hf9)
      rw [decide_eq_true rfl]
      go_wp2_with fail
      go_ret
      exact ⟨rfl, HF9.out⟩
  · by_cases hnk : 4090 + pk ≤ 4095
    · go_wp2_with fail
      refine (check_told b p m L5 _ _ _ _ _ HL5.out HA5.out (ok_big (by omega) (by rw [big_size]; omega)) (by omega) HAR5.out).mono ?_
      rintro e w6 ⟨L6, rfl, hL, hA, harm, hac6, hf⟩
      have HL6 := Lib.hid hL
      have HA6 := Lib.hid hA
      have HAR6 := Lib.hid harm
      have HF6 := Lib.hid (HF5.out.part hf (by simp; omega))
      have hs6 := hf.size
      clear hL hA harm hf HL5 HF5 HA5 HAR5
      go_wp2_with fail
      refine (append_told b p m L6 _ _ _ _ _ HL6.out HA6.out (ok_of (by omega) (by decide)) (by omega) HAR6.out (flat_fr_le (n := 5000) (k := 0) HA6.out.has (by simp [big0, bs_toList, len_toList] <;> omega) (ok_of (by omega) (by decide)) (by decide))).mono ?_
      rintro e w7 ⟨L7, rfl, hL, hA, harm, hac7, hf⟩
      have HL7 := Lib.hid hL
      have HA7 := Lib.hid hA
      have HAR7 := Lib.hid harm
      have HF7 := Lib.hid (HF6.out.part hf (by simp; omega))
      have hs7 := hf.size
      clear hL hA harm hf HL6 HF6 HA6 HAR6
      go_wp2_with fail
      refine (open_told p m L7.dk _ _ _ w7 HL7.out.dk (by omega) HL7.out.g (by omega) (by omega) HA7.out.off HAR7.out HA7.out.snap HA7.out.log HA7.out.has (Nat.le_trans (flat_le _ HA7.out.has.ok) (by simp [big0, bs_toList, len_toList] <;> omega))).mono ?_
      rintro e w8 ⟨b8, v8, L8, rfl, hb8, hL, hA, harm, hac8, hrow, hf⟩
      have HF8 := Lib.hid (HF7.out.part hf (by simp; omega))
      have HR8 := Lib.hid hrow
      clear hL hA harm hf hrow HL7 HF7 HA7 HAR7

      go_wp2_with fail
      refine (same_calls _ _ [[99]] [[99]] _ (((kept_c (bs (big0 (4090 + pk))).data.toList) ▸ HR8.out).fr ((Fr.refl _ _).alloc _)) (strRow_lit1 _ _ _ _) (by simp) (by simp)).mono ?_
      rintro e w9 ⟨rfl, hf9⟩
      have HF9 := Lib.hid ((HF8.out.alloc _).trans hf9)
      rw [decide_eq_true rfl]
      go_wp2_with fail
      go_ret
      exact ⟨rfl, HF9.out⟩
    · go_wp2_with fail
      refine (check_refused b p m L5 _ _ _ _ _ HL5.out HA5.out (by omega) (by rw [big_size]; omega) (by rw [big_size]; omega) (by omega)).mono ?_
      rintro e w6 ⟨rfl, hL, hf⟩
      obtain ⟨L6, rfl⟩ : ∃ L6, L6 = L5 := ⟨_, rfl⟩
      have HL6 := Lib.hid hL
      have HA6 := Lib.hid HA5.out
      have HAR6 := Lib.hid HAR5.out
      have HF6 := Lib.hid (HF5.out.part hf (by simp; omega))
      have hs6 := hf.size
      have hac6 : L6.dk.acts ≤ L6.dk.acts + 4 := by omega
      clear hL hf HL5 HF5 HA5 HAR5
      go_wp2_with fail
      refine (append_told b p m L6 _ _ _ _ _ HL6.out HA6.out (ok_of (by omega) (by decide)) (by omega) HAR6.out (flat_fr_le (n := 5000) (k := 0) HA6.out.has (by simp [big0, bs_toList, len_toList] <;> omega) (ok_of (by omega) (by decide)) (by decide))).mono ?_
      rintro e w7 ⟨L7, rfl, hL, hA, harm, hac7, hf⟩
      have HL7 := Lib.hid hL
      have HA7 := Lib.hid hA
      have HAR7 := Lib.hid harm
      have HF7 := Lib.hid (HF6.out.part hf (by simp; omega))
      have hs7 := hf.size
      clear hL hA harm hf HL6 HF6 HA6 HAR6
      go_wp2_with fail
      refine (open_told p m L7.dk _ _ _ w7 HL7.out.dk (by omega) HL7.out.g (by omega) (by omega) HA7.out.off HAR7.out HA7.out.snap HA7.out.log HA7.out.has (Nat.le_trans (flat_le _ HA7.out.has.ok) (by simp [big0, bs_toList, len_toList] <;> omega))).mono ?_
      rintro e w8 ⟨b8, v8, L8, rfl, hb8, hL, hA, harm, hac8, hrow, hf⟩
      have HF8 := Lib.hid (HF7.out.part hf (by simp; omega))
      have HR8 := Lib.hid hrow
      clear hL hA harm hf hrow HL7 HF7 HA7 HAR7
      rw [bs_nil]
      go_wp2_with fail
      refine (same_calls _ _ [tx.data.toList, [99]] [tx.data.toList, [99]] _ (((kept_b tx) ▸ HR8.out).fr ((Fr.refl _ _).alloc _)) (strRow_lit2 _ _ _ _ _) (by simp) (by simp)).mono ?_
      rintro e w9 ⟨rfl, hf9⟩
      have HF9 := Lib.hid ((HF8.out.alloc _).trans hf9)
      rw [decide_eq_true rfl]
      go_wp2_with fail
      go_ret
      exact ⟨rfl, HF9.out⟩
end Go.Proofs.YtnlgmekkjibpmaaGreatDoor
/- DERIVED. Scripts in memory; the law WalAgain: the walk. -/
namespace Go.Proofs.YtnlgmekkjibpmaaGreatDoor
open Go Go.RowKit Go.Shelf Go.Proofs.YtnlgmekkjibpmaaGreatDoorW.PrintWords
set_option linter.unusedVariables false
set_option linter.unusedSimpArgs false

/-- An act of a script. -/
structure ActR where
  what : Int
  n : Int
  text : ByteArray
  kv : Value
  keep : List Int
def ActR.fits (x : ActR) : Prop := (-9223372036854775808 ≤ x.what ∧ x.what ≤ 9223372036854775807) ∧ (-9223372036854775808 ≤ x.n ∧ x.n ≤ 9223372036854775807) ∧ x.text.size ≤ 9223372036854775807
/-- The slice v reads as the script L. -/
def Script (w : World) (v : Value) (L : List ActR) : Prop :=
  ∃ ao c, v = .slice ao L.length c ∧ L.length ≤ 9223372036854775807 ∧ ∀ j, (h : j < L.length) → (L[j]'h).fits ∧ ∃ g o, ao = some ⟨g, o, none⟩ ∧ g < w.heap.size ∧ w.cell? ⟨g, o + j * 4, none⟩ = some (.int .i64 (L[j]'h).what) ∧
    w.cell? ⟨g, o + j * 4 + 1, none⟩ = some (.int .i64 (L[j]'h).n) ∧ w.cell? ⟨g, o + j * 4 + 2, none⟩ = some (.string (L[j]'h).text) ∧ w.cell? ⟨g, o + j * 4 + 3, none⟩ = some (L[j]'h).kv ∧ IntRow w (L[j]'h).kv (L[j]'h).keep

theorem log_clean (D : Dk) (a : Ent) (E : List Ent) (q : Nat) (hoff : D.off = false) (hnew : D.f .new = none) (hl : LogIs D E []) (hH : Has a E q) : D.log a.1 = (keptF a.1 E, 0, D) := by
  unfold Dk.log Dk.load Dk.read
  have ho := hH.ordered
  rcases hl with ⟨h, rfl, _⟩ | ⟨s, h, h1, h2⟩
  · have e : allF ([] : List UInt8) = ([], 0, 0) := rfl
    rw [h]
    simp only [Option.isSome_none, Bool.false_eq_true, if_false, ne_eq, not_true, e, parseB]
    rw [if_neg (by simp)]
    simp only [ho, not_true, if_false]
  · rw [h]
    simp only [Option.isSome_some, if_true, hoff, Bool.false_eq_true, if_false, ne_eq, not_true]
    have e : allF (flat E ++ []) = (E.map pl, (flat E).length, if ([] : List UInt8) = [] then 0 else 30) := all_flat E [] a 0 _ hH.ok hH.aok rfl (by have := fr_len a; omega) (Nat.le_refl _)
    rw [e]
    simp only [parse_pl E hH.ok, ho, not_true, if_false, if_true]
    simp
/-- An Open of what is whole acts nothing. -/
theorem open_clean (D : Dk) (a : Ent) (E : List Ent) (q : Nat) (hoff : D.off = false) (hnew : D.f .new = none) (hs : SnapIs D a) (hl : LogIs D E []) (hH : Has a E q) : D.Open = (some (a, keptF a.1 E), 0, D) := by
  have h1 : D.opn = (a, keptF a.1 E, 0, D) := by
    unfold Dk.opn
    rw [hnew]
    simp only [Option.isSome_none, Bool.false_eq_true, if_false]
    unfold Dk.opn1
    rw [read_snap D a hoff hs hH.aok]
    simp only [ne_eq, not_true, if_false]
    rw [log_clean D a E q hoff hnew hl hH]
  unfold Dk.Open
  rw [if_neg (by simp [hoff]), h1]
  simp

theorem flat_len : ∀ E : List Ent, E.length ≤ (flat E).length
  | [] => by simp
  | x :: E => by
    have h1 := flat_len E
    have h2 := fr_len x
    have e : flat (x :: E) = fr x ++ flat E := by simp [flat]
    rw [e, List.length_append, List.length_cons]
    omega
theorem kept_len (s : Nat) (E : List Ent) : (textsL (keptF s E)).length ≤ (flat E).length := by
  have := keptF_le s E
  have := flat_len E
  simp only [textsL, List.length_map]
  omega
theorem own_ge {w : World} {base n size : Nat} {e : TypeId} {v : Value} {xs : List Value} (h : w.ownsRow base e size v n xs) {k : Nat} (hv : v.ownBlock = some k) : base ≤ k := by
  rcases h.2 with ⟨rfl, _⟩ | ⟨g, cap, cur, rfl, hg, _⟩
  · cases hv
  · have : g = k := by simpa [Value.ownBlock] using hv
    omega
theorem open_again (b0 p m : Nat) (L : Lg) (a : Ent) (E : List Ent) (q : Nat) (w : World) (h : LgIs w b0 p m L) (hA : Alive L a E q) (h2 : L.dk.acts ≤ 800000) :
    Calls Tryz.prog 10 #[.pointer (some ⟨p, 0, none⟩)] w fun e w' => ∃ b v, e = .returned (.tuple #[.pointer (some ⟨b, 0, none⟩), .string (bs a.2), v, .int .i64 0]) ∧ w.heap.size ≤ b ∧ LgIs w' b p m L ∧ LgIs w' b0 p m L ∧ StrRow w' v (textsL (keptF a.1 E)) ∧ (∀ w'', Fr [p, m] w' w'' → StrRow w'' v (textsL (keptF a.1 E))) ∧ Fr [p, m] w w' := by
  refine (Open_calls p m L.dk w h.dk h2 h.g h.p0 h.m0).mono ?_
  rintro e w' ⟨ho, hd, hf⟩
  have hoc := open_clean L.dk a E q hA.off hA.new hA.snap hA.log hA.has
  rw [hoc] at ho hd
  obtain ⟨b, v, he, hb, hw, hr⟩ := ho
  rw [hA.has.last] at hw
  have hlt := h.dk.lt
  refine ⟨b, v, he, hb, ⟨?_, hd, h.g.fr hf (by simp [Ne.symm h.p0, Ne.symm h.m0]), by omega, by omega, by omega, h.p0, h.m0⟩, ⟨h.wl.fr hf (by simp [h.bp, h.bm]), hd, h.g.fr hf (by simp [Ne.symm h.p0, Ne.symm h.m0]), h.bp, h.bm, h.b0, h.p0, h.m0⟩, ?_, ?_, hf⟩
  · rw [hA.seq, hA.err]; exact hw
  · have := hr
    rw [textsV_eq] at this
    exact strRow_of (base := w.heap.size) (by simpa [textsL] using this)
  · intro w2 hf2
    have := own_fr hr hf2 (fun k hk hv => by
      have := own_ge hr hv
      simp at hk
      omega)
    rw [textsV_eq] at this
    exact strRow_of (base := w.heap.size) (by simpa [textsL] using this)

set_option maxRecDepth 100000 in
set_option maxHeartbeats 2000000 in
theorem walAgain_calls (v : Value) (S : List ActR) (w : World) (hg : G w) (hsc : Script w v S) :
    Calls Tryz.prog 5 #[v] w fun e w' => e = .returned (.bool true) ∧ Fr [] w w' := by
  obtain ⟨ao, sc, rfl, hsl, hsc⟩ := hsc
  have hg0 : 0 < w.heap.size := World.block_lt_of_cell? w ⟨0, 0, none⟩ hg
  have HG := Lib.hid hg
  have HS := Lib.hid hsc
  clear hg hsc
  go_enter Tryz.func5, Tryz.ntmps5
  go_wp2_with fail
  refine (awake_calls _ HG.out).mono ?_
  rintro e w0 ⟨rfl, hf0⟩
  have HG0 := Lib.hid (HG.out.fr hf0 (by simp))
  have HF0 := Lib.hid hf0
  have hs0 := hf0.size
  clear HG hf0
  go_wp2_with fail
  refine (disk_new _).mono ?_
  rintro e w1 ⟨p, m, rfl, hp, hm, hd1, hb1⟩
  have hf1 : Fr [] w0 w1 := Fr.of_below hb1 []
  have HF1 := Lib.hid (HF0.out.trans hf1)
  have HD1 := Lib.hid hd1
  have hl1 := hd1.lt
  have HG1 := Lib.hid (HG0.out.fr hf1 (by simp))
  clear hd1 hb1 hf1 HG0 HF0
  go_wp2_with fail
  refine (open_told p m Dk.empty (0, []) [] 0 w1 HD1.out (by simp [Dk.empty]) HG1.out (by omega) (by omega) rfl rfl empty_snap empty_log Has.none (by simp [flat])).mono ?_
  rintro e w2 ⟨b, v, L, rfl, hb, hL, hA, harm, hac, hrow, hf2⟩
  have HL := Lib.hid hL
  have HA := Lib.hid hA
  have HAR := Lib.hid harm
  have HF2 := Lib.hid (HF1.out.part hf2 (by simp; omega))
  have hac2 : L.dk.acts ≤ 4 := hac
  have hs2 := hf2.size
  clear hL hA harm hrow hf2 hac HF1 HD1 HG1
  go_wp2_with fail
  go_loopw [9] (fun i wr => ∃ (k : Nat) (L : Lg) (a : Ent) (E : List Ent) (q : Nat), i = .int .i64 (k : Int) ∧ k ≤ S.length ∧ k ≤ 30 ∧ q ≤ k ∧ L.dk.acts ≤ 4 + 4 * k ∧ (flat E).length ≤ 312 * k ∧ Hid (LgIs wr b p m L) ∧ Hid (Alive L a E q) ∧ Hid (L.dk.armed = 0) ∧ Hid (Fr [] w wr))
    (fun i _ => 30 - (intOf i).toNat)
  case atStart => exact ⟨0, L, (0, []), [], 0, rfl, by omega, by omega, by omega, by omega, by simp [flat], HL, HA, HAR, HF2⟩
  case round =>
    clear HL HA HAR hac2 HF2
    obtain ⟨k, L, a, E, q, rfl, hk, hk30, hq, hac, hfl, HL, HA, HAR, HF⟩ := hrel
    by_cases hlt : k < S.length ∧ k < 30
    · obtain ⟨hlt, hlt30⟩ := hlt
      obtain ⟨⟨hw1, _, ht⟩, g, o, rfl, hgl, c0, _, c2, _⟩ := HS.out k hlt
      obtain ⟨X, hX⟩ : ∃ X, X = S[k]'hlt := ⟨_, rfl⟩
      rw [← hX] at hw1 ht c0 c2
      clear hX
      obtain ⟨wh, _, tx0, _, _⟩ := X
      dsimp only at hw1 ht c0 c2
      have c0' : wr.cell? ⟨g, o + k * 4, none⟩ = some (.int .i64 wh) := by rw [World.cell?_of_block (HF.out.block g hgl (by simp))]; exact c0
      have c2' : wr.cell? ⟨g, o + k * 4 + 2, none⟩ = some (.string tx0) := by rw [World.cell?_of_block (HF.out.block g hgl (by simp))]; exact c2
      clear c0 c2
      go_wp2_with fail
      go_quiet (fail)
      obtain ⟨tx, htx⟩ : ∃ tx, tx = tx0.extract 0 (min (↑tx0.size) 300 : Int).toNat := ⟨_, rfl⟩
      rw [← htx]
      have htl : tx.size ≤ 300 := by rw [htx, ByteArray.size_extract]; omega
      obtain ⟨wd, hwd⟩ : ∃ wd, wd = wr.drewN nq := ⟨_, rfl⟩
      rw [← hwd]
      have c0 : wd.cell? ⟨g, o + k * 4, none⟩ = some (.int .i64 wh) := by rw [hwd]; exact c0'
      have hfd : Fr [] wr wd := by rw [hwd]; exact (Fr.refl _ _).drewN nq
      have HLd := Lib.hid (lg_fr HL.out hfd (by simp) (by simp) (by simp))
      have HFd := Lib.hid (HF.out.trans hfd)
      clear htx hwd c0' c2' hfd HL HF ht
      go_wp2_with fail
      refine (pick_calls wh 9 (by omega) (by omega) hw1.1 hw1.2 _).mono ?_
      rintro e w4 ⟨rfl, rfl⟩
      obtain ⟨pk, hpk⟩ : ∃ pk, pk = pickN wh 9 := ⟨_, rfl⟩
      rw [← hpk]
      clear hpk c0
      by_cases h5 : pk = 5
      · have h5' : ((pk : Int) == 5) = true := by simp [h5]
        go_wp2_with fail
        refine (check_told b p m L _ _ _ _ _ HLd.out HA.out (ok_of (by omega) (by rw [len_toList]; omega)) (by omega) HAR.out).mono ?_
        rintro e w5 ⟨L5, rfl, hL, hA, harm, hac5, hf⟩
        have HL5 := Lib.hid hL
        have HA5 := Lib.hid hA
        have HAR5 := Lib.hid harm
        have HF5 := Lib.hid (HFd.out.part hf (by simp; omega))
        clear hL hA harm hf HLd HFd HA HAR
        go_wp2_with fail
        case roundEnd =>
          refine ⟨⟨k + 1, L5, _, _, _, by go_num, by omega, by omega, by omega, by omega, by simp [flat], HL5, HA5, HAR5, HF5⟩, by simp [intOf]; omega⟩
      · have h5' : ((pk : Int) == 5) = false := by simp; omega
        have hx : Ent.ok (q + 1, tx.data.toList) := ok_of (by omega) (by rw [len_toList]; omega)
        have hfx := fr_le hx
        dsimp only at hfx
        rw [len_toList] at hfx
        have HX := Lib.hid hx
        clear hx
        go_wp2_with fail
        refine (append_told b p m L _ _ _ _ _ HLd.out HA.out HX.out (by omega) HAR.out (by omega)).mono ?_
        rintro e w5 ⟨L5, rfl, hL, hA, harm, hac5, hf⟩
        have HL5 := Lib.hid hL
        have HA5 := Lib.hid hA
        have HAR5 := Lib.hid harm
        have HF5 := Lib.hid (HFd.out.part hf (by simp; omega))
        clear hL hA harm hf HLd HFd HA HAR
        go_wp2_with fail
        case roundEnd =>
          refine ⟨⟨k + 1, L5, _, _, _, by go_num, by omega, by omega, by omega, by omega, by rw [flat_append, flat_one, List.length_append]; omega, HL5, HA5, HAR5, HF5⟩, by simp [intOf]; omega⟩
    · have hend : ((decide ((k : Int) < (S.length : Int))) && decide ((k : Int) < 30)) = false := by
        simp; omega
      have hq31 : flat E = flat E := rfl
      by_cases hk1 : k < S.length
      all_goals
        go_wp2_with fail
        refine (disk_acts p m L.dk _ HL.out.dk).mono ?_
        rintro e w4 ⟨rfl, rfl⟩
        go_wp2_with fail
        refine (open_again b p m L a E q _ HL.out HA.out (by omega)).mono ?_
        rintro e w5 ⟨b5, v5, rfl, hb5, hL5, hL5b, hr5, hr5b, hf5⟩
        have HL5 := Lib.hid hL5
        have HL5b := Lib.hid hL5b
        have HR5 := Lib.hid hr5
        have HRB := Lib.hid hr5b
        have HF5 := Lib.hid (HF.out.part hf5 (by simp; omega))
        clear hL5 hL5b hr5 hr5b hf5
        go_wp2_with fail
        refine (open_again b5 p m L a E q _ HL5.out HA.out (by omega)).mono ?_
        rintro e w6 ⟨b6, v6, rfl, hb6, hL6, hL6b, hr6, hr6b, hf6⟩
        have HL6 := Lib.hid hL6
        have HL6b := Lib.hid hL6b
        have HL6c := Lib.hid (HL5b.out.wl.fr hf6 (by simp [HL5b.out.bp, HL5b.out.bm]))
        have HR6 := Lib.hid hr6
        have HF6 := Lib.hid (HF5.out.part hf6 (by simp; omega))
        have HR5' := Lib.hid (HRB.out _ hf6)
        clear hL6 hL6b hr6 hr6b hf6
        go_wp2_with fail
        have hkl := kept_len a.1 E
        refine (same_calls v5 v6 _ _ _ HR5'.out HR6.out (by omega) (by omega)).mono ?_
        rintro e w7 ⟨rfl, hf7⟩
        rw [decide_eq_true rfl]
        have HL7 := Lib.hid (lg_fr HL6.out hf7 (by simp) (by simp) (by simp))
        have HL7b := Lib.hid (lg_fr HL6b.out hf7 (by simp) (by simp) (by simp))
        have HL7c := Lib.hid (HL6c.out.fr hf7 (by simp))
        have HF7 := Lib.hid (HF6.out.trans hf7)
        clear hf7
        go_wp2_with fail
        refine (seq_calls b5 p _ _ _ HL7b.out.wl).mono ?_
        rintro e w8 ⟨rfl, rfl⟩
        go_wp2_with fail
        refine (seq_calls b6 p _ _ _ HL7.out.wl).mono ?_
        rintro e w9 ⟨rfl, rfl⟩
        go_wp2_with fail
        refine (seq_calls b5 p _ _ _ HL7b.out.wl).mono ?_
        rintro e w10 ⟨rfl, rfl⟩
        go_wp2_with fail
        refine (seq_calls b p _ _ _ HL7c.out).mono ?_
        rintro e w11 ⟨rfl, rfl⟩
        go_wp2_with fail
        refine (disk_acts p m L.dk _ HL7.out.dk).mono ?_
        rintro e w12 ⟨rfl, rfl⟩
        go_wp2_with fail
        go_ret
        exact ⟨rfl, HF7.out⟩
end Go.Proofs.YtnlgmekkjibpmaaGreatDoor
/- DERIVED. A script that came in as an argument. -/
namespace Go.Proofs.YtnlgmekkjibpmaaGreatDoor
open Go Go.ChangeShapes Go.WideShapes Go.RowKit Go.ChangeMaps Go.Deep
set_option linter.unusedVariables false
set_option linter.unusedSimpArgs false

section
variable {H : Type} {enc : TypeId × Value → H} {P : Program} {w : World} {base : Nat} {spare : Nat → Bool} {held : Bool}
theorem open_slice_fields {t e : TypeId} {fs : Array Field} {fuel : Nat} {cs : List Value} {x : DataW H × List MemPlace} (ht : P.underlying t = some (.slice e)) (he : P.underlying e = some (.struct fs))
    (hone : oneCellFields P fs = true) (hC : P.cellsOf e = fs.size) (h : DataW.trod enc P w base spare held fuel t cs = some x) :
    (cs = [.slice none 0 0] ∧ x = (.nil, [])) ∨
    ∃ (a : Addr) (len cap m : Nat) (D : Nat → DataW H) (Pl : Nat → List MemPlace), cs = [.slice (some a) len cap] ∧ base ≤ a.block ∧ len ≤ cap ∧ cap ≤ maxLen ∧ m = (if spare a.block then cap else len) ∧
      x = (.slice ((List.range len).map D) ((List.range (m - len)).map fun j => D (len + j)), MemPlace.row a (m * fs.size) ++ (List.range m).flatMap Pl) ∧
      ∀ i, i < m → ∃ (ys : List (DataW H × List MemPlace)) (n : Nat), D i = .agg (ys.map (·.1)) ∧ Pl i = ys.flatMap (·.2) ∧ ys.length = fs.size ∧
        ∀ (j : Nat) (f : Field), fs[j]? = some f → ∃ (v : Value) (y : DataW H × List MemPlace), w.cell? (a.add (i * fs.size + j)) = some v ∧ ys[j]? = some y ∧ DataW.trod enc P w base spare held n f.type [v] = some y := by
  rcases open_slice ht h with h0 | ⟨a, len, cap, m, n, D, Pl, hcs, hb, hl, hm, hmm, hx, hi⟩
  · exact .inl h0
  · refine .inr ⟨a, len, cap, m, D, Pl, hcs, hb, hl, hm, hmm, by rw [hC] at hx; exact hx, fun i him => ?_⟩
    obtain ⟨cs', hc, ht'⟩ := hi i him
    rw [hC] at hc
    obtain ⟨ys, n', hn', hy, hlen, hyl, hf⟩ := DataW.trod_struct he ht'
    obtain ⟨_, hcl, hat⟩ := World.cells?_some hc
    simp only [Prod.mk.injEq] at hy
    refine ⟨ys, n', hy.1, hy.2, hyl, fun j f hj => ?_⟩
    obtain ⟨ho, hk⟩ := hone_of hone j f hj
    have hjl : j < fs.size := (Array.getElem?_eq_some_iff.1 hj).1
    have hcell := hat j hjl
    have hv : cs'[j]? = some (cs'[j]'(by omega)) := List.getElem?_eq_getElem (by omega)
    have h1 := hf j f hj
    rw [ho, hk] at h1
    have hone' : (cs'.drop j).take 1 = [cs'[j]'(by omega)] := by
      rw [List.drop_eq_getElem_cons (by omega)]
      rfl
    rw [hone'] at h1
    have hys : ys[j]? = some (ys[j]'(by omega)) := List.getElem?_eq_getElem (by omega)
    refine ⟨_, _, ?_, hys, h1.trans hys⟩
    rw [← Go.Deep.add_add, hcell, hv]
end

theorem spot_none {w : World} {a : Addr} {v : Value} (h : w.cell? a = some v) : a = ⟨a.block, a.off, none⟩ := by
  obtain ⟨b, o, s⟩ := a
  cases s with
  | none => rfl
  | some x =>
    simp only [World.cell?] at h
    split at h <;> simp at h
theorem addr_of {w : World} {a : Addr} {v : Value} (h : w.cell? (a.add 0) = some v) : a = ⟨a.block, a.off, none⟩ ∧ ∀ j, a.add j = ⟨a.block, a.off + j, none⟩ := by
  have h0 : a.add 0 = a := by simp [Addr.add]
  rw [h0] at h
  have hs := spot_none h
  refine ⟨hs, fun j => ?_⟩
  rw [hs]
  unfold Addr.add
  split
  · subst_vars; rfl
  · rfl
theorem wf_int {n : Int} (h : (Lit.int .i64 n).wf = true) : -9223372036854775808 ≤ n ∧ n ≤ 9223372036854775807 := by
  simp [Lit.wf, IntKind.min, IntKind.max, IntKind.signed, IntKind.bits] at h
  omega

theorem ints_of {H : Type} {enc : TypeId × Value → H} {w : World} {n : Nat} {v : Value} {y : DataW H × List MemPlace} (h : DataW.trod enc Tryz.prog w 0 (fun _ => true) true n 48 [v] = some y) : ∃ zs, IntRow w v zs ∧ zs.length ≤ maxLen := by
  rcases open_ints Tryz.underlying48 Tryz.underlying3 (by kernel_rfl) h with ⟨hcs, _⟩ | ⟨a, len, cap, zs, hcs, _, hl, hm, hz, _, hcell, hwz⟩
  · obtain rfl : v = .slice none 0 0 := by simpa using hcs
    exact ⟨[], ⟨none, 0, rfl, fun j hj => by simp at hj⟩, by simp⟩
  · obtain rfl : v = .slice (some a) len cap := by simpa using hcs
    rw [if_pos rfl] at hz
    refine ⟨zs.take len, ⟨some a, cap, by rw [List.length_take, Nat.min_eq_left (by omega)], fun j hj => ?_⟩, by rw [List.length_take]; omega⟩
    have hj2 : j < zs.length := by rw [List.length_take] at hj; omega
    have hc := hcell j hj2
    obtain ⟨hs, hadd⟩ := addr_of (hcell 0 (by omega))
    have he : (zs.take len)[j] = zs[j]'hj2 := by simp
    rw [he]
    refine ⟨wf_int (hwz _ (List.getElem_mem hj2)), a.block, a.off, by rw [← hs], ?_⟩
    rw [← hadd, hc]
    simp [hj2]

theorem script_of {H : Type} {enc : TypeId × Value → H} {w : World} {v : Value} {d : DataW H} {ps : List MemPlace} (hv : ∃ a len cap, v = .slice a len cap) (h : DataW.Trod enc Tryz.prog w 0 (fun _ => true) true 47 v d ps) : ∃ S, Script w v S ∧ ∀ x ∈ S, x.keep.length ≤ 9223372036854775807 := by
  obtain ⟨fuel, h⟩ := h
  obtain ⟨a0, l0, c0, rfl⟩ := hv
  rcases open_slice_fields Tryz.underlying47 Tryz.underlying50 (by kernel_rfl) (by kernel_rfl) h with ⟨hcs, _⟩ | ⟨a, len, cap, m, D, Pl, hcs, _, hl, hm, hmm, _, hf⟩
  · have hcs' : ([.slice a0 l0 c0] : List Value) = [.slice none 0 0] := hcs
    simp only [List.cons.injEq, Value.slice.injEq, and_true] at hcs'
    obtain ⟨rfl, rfl, rfl⟩ := hcs'
    exact ⟨[], ⟨none, 0, rfl, by simp, fun j hj => by simp at hj⟩, fun x hx => by simp at hx⟩
  · have hcs' : ([.slice a0 l0 c0] : List Value) = [.slice (some a) len cap] := hcs
    simp only [List.cons.injEq, Value.slice.injEq, and_true] at hcs'
    obtain ⟨rfl, rfl, rfl⟩ := hcs'
    rw [if_pos rfl] at hmm
    have key : ∀ i, i < l0 → ∃ x : ActR, x.fits ∧ (∃ g o, (some a : Option Addr) = some ⟨g, o, none⟩ ∧ g < w.heap.size ∧ w.cell? ⟨g, o + i * 4, none⟩ = some (.int .i64 x.what) ∧
        w.cell? ⟨g, o + i * 4 + 1, none⟩ = some (.int .i64 x.n) ∧ w.cell? ⟨g, o + i * 4 + 2, none⟩ = some (.string x.text) ∧ w.cell? ⟨g, o + i * 4 + 3, none⟩ = some x.kv ∧ IntRow w x.kv x.keep) ∧ x.keep.length ≤ 9223372036854775807 := by
      intro i hi
      obtain ⟨ys, n, _, _, _, hj⟩ := hf i (by omega)
      obtain ⟨v0, y0, k0, _, t0⟩ := hj 0 _ rfl
      obtain ⟨v1, y1, k1, _, t1⟩ := hj 1 _ rfl
      obtain ⟨v2, y2, k2, _, t2⟩ := hj 2 _ rfl
      obtain ⟨v3, y3, k3, _, t3⟩ := hj 3 _ rfl
      obtain ⟨z0, e0, _, w0⟩ := DataW.trod_int Tryz.underlying3 t0
      obtain ⟨z1, e1, _, w1⟩ := DataW.trod_int Tryz.underlying3 t1
      obtain ⟨s2, e2, _, w2⟩ := DataW.trod_string Tryz.underlying9 t2
      obtain ⟨zs, hzs, hzl⟩ := ints_of t3
      obtain rfl : v0 = .int .i64 z0 := by simpa using e0
      obtain rfl : v1 = .int .i64 z1 := by simpa using e1
      obtain rfl : v2 = .string s2 := by simpa using e2
      obtain ⟨hsp, e⟩ : a = ⟨a.block, a.off, none⟩ ∧ ∀ j, a.add j = ⟨a.block, a.off + j, none⟩ := by
        obtain ⟨ys', n', _, _, _, hj'⟩ := hf 0 (by omega)
        obtain ⟨v', y', k', _, _⟩ := hj' 0 _ rfl
        exact addr_of k'
      rw [e] at k0 k1 k2 k3
      have k0' : w.cell? ⟨a.block, a.off + i * 4, none⟩ = some (.int .i64 z0) := k0
      have k1' : w.cell? ⟨a.block, a.off + i * 4 + 1, none⟩ = some (.int .i64 z1) := k1
      have k2' : w.cell? ⟨a.block, a.off + i * 4 + 2, none⟩ = some (.string s2) := k2
      have k3' : w.cell? ⟨a.block, a.off + i * 4 + 3, none⟩ = some v3 := k3
      exact ⟨⟨z0, z1, s2, v3, zs⟩, ⟨wf_int w0, wf_int w1, w2⟩, ⟨a.block, a.off, by rw [← hsp], World.block_lt_of_cell? w ⟨a.block, a.off + i * 4, none⟩ k0', k0', k1', k2', k3', hzs⟩, hzl⟩
    let S : List ActR := (List.range l0).pmap (fun i (hi : i < l0) => Classical.choose (key i hi)) (fun i hi => List.mem_range.1 hi)
    have hSl : S.length = l0 := by simp [S]
    have hSp : ∀ j, (hj : j < S.length) → ∃ hj2 : j < l0, S[j]'hj = Classical.choose (key j hj2) := fun j hj => ⟨by omega, by simp [S]⟩
    refine ⟨S, ⟨some a, c0, by rw [hSl], by rw [hSl]; unfold maxLen at hm; omega, fun j hj => ?_⟩, fun x hx => ?_⟩
    · obtain ⟨hj2, hSj⟩ := hSp j hj
      rw [hSj]
      exact ⟨(Classical.choose_spec (key j hj2)).1, (Classical.choose_spec (key j hj2)).2.1⟩
    · obtain ⟨j, hj, rfl⟩ := List.mem_iff_getElem.1 hx
      obtain ⟨hj2, hSj⟩ := hSp j hj
      rw [hSj]
      exact (Classical.choose_spec (key j hj2)).2.2
end Go.Proofs.YtnlgmekkjibpmaaGreatDoor
