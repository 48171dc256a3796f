/- DERIVED. Contracts and plain laws under the statement: one merged text. -/
import Derived.Test.YtnlgmekkjibpmaaGreatDoorMa
import Derived.WalkKit
import Derived.OwnWalkIn
import Derived.TacticsInMore
import Derived.LoopNIn
import Derived.LoopIn
import Derived.Outline
import Derived.Maps.AppendAt
import Derived.WalkSpells
import Derived.WalkLawsBesides
import Derived.RegionTactic
import Derived.ChangeAlike
import Derived.Deep.RegionWith
import Derived.Deep.RegionHeld3
import Derived.BigQuiet
import Derived.Deep.QuietTactic
import Derived.Lib.Strings
import Derived.Lib.Split
import Derived.Deep.DrawnRows
import Derived.OwnWalk
import Derived.LoopTactic
/- DERIVED. varint's digits, Num and Text. -/
namespace Go.Proofs.YtnlgmekkjibpmaaGreatDoor
open Go Go.RowKit Go.Shelf Go.Proofs.YtnlgmekkjibpmaaGreatDoorW.PrintWords
set_option linter.unusedVariables false
set_option linter.unusedSimpArgs false
attribute [local go_sem] Oper.semAt_some

/-- A number in base 128, the low digits first. -/
def encN (u : Nat) : List UInt8 := if u < 128 then [UInt8.ofNat u] else UInt8.ofNat (u % 128 + 128) :: encN (u / 128)
termination_by u
theorem encN_small {u : Nat} (h : u < 128) : encN u = [UInt8.ofNat u] := by rw [encN, if_pos h]
theorem encN_big {u : Nat} (h : ¬ u < 128) : encN u = UInt8.ofNat (u % 128 + 128) :: encN (u / 128) := by rw [encN, if_neg h]
theorem encN_length : ∀ (k u : Nat), u < 128 ^ (k + 1) → (encN u).length ≤ k + 1
  | 0, u, h => by rw [encN_small (by simpa using h)]; simp
  | k + 1, u, h => by
    by_cases h1 : u < 128
    · rw [encN_small h1]; simp
    · rw [encN_big h1, List.length_cons]
      have := encN_length k (u / 128) (by rw [Nat.div_lt_iff_lt_mul (by omega)]; rw [Nat.pow_succ] at h; exact h)
      omega
def encB (b : UInt8) : Value := .int .u8 (b.toNat : Int)

theorem or128 : ∀ x : Nat, x < 256 → x ||| 128 = x % 128 + 128 := by decide +kernel
theorem byte_or (u : Nat) (h : u < 18446744073709551616) : bits .or .u8 ((u : Int) % 256) 128 = ((u % 128 + 128 : Nat) : Int) := by
  have e : (u : Int) % 256 = ((u % 256 : Nat) : Int) := by omega
  have := u8_or_nat (u % 256) 128 (Nat.mod_lt _ (by omega)) (by omega)
  rw [show ((128 : Nat) : Int) = 128 from rfl] at this
  rw [e, this, or128 _ (Nat.mod_lt _ (by omega))]
  omega
theorem encB_small {u : Nat} (h : u < 128) : encB (UInt8.ofNat u) = .int .u8 (u : Int) := by
  unfold encB; rw [UInt8.toNat_ofNat', Nat.mod_eq_of_lt (by omega)]
theorem encB_big (u : Nat) (h : u < 18446744073709551616) : encB (UInt8.ofNat (u % 128 + 128)) = .int .u8 (bits .or .u8 ((u : Int) % 256) 128) := by
  unfold encB; rw [UInt8.toNat_ofNat', Nat.mod_eq_of_lt (by omega), byte_or u h]

set_option maxRecDepth 100000 in
set_option maxHeartbeats 1000000 in
theorem digits1_in (n : Nat) (hn : 1 ≤ n) (l bu u0 : Nat) (hu : u0 < 18446744073709551616) (J : List UInt8 → World → Prop) (W : World) (hb : W.heap[bu]? = some (.cells #[.int .u64 u0] 144 (0, 0)))
    (hJs : ∀ pre W u, J pre W → J pre (W.setCell ⟨bu, 0, none⟩ u))
    (hY : ∀ pre x W1, J pre W1 → pre.length < (encN u0).length → YieldAt Fence.wide (n - 1) Tryz.prog l #[encB x] W1 fun e W' => e = .returned (.bool true) ∧ J (pre ++ [x]) W' ∧ W'.heap[bu]? = W1.heap[bu]?)
    (h0 : J [] W) :
    CallsIn Fence.wide n Tryz.prog 114 #[.func (.yield l) #[] #[], .pointer (some ⟨bu, 0, none⟩)] W fun e W' => (∃ v, e = .returned v) ∧ J (encN u0) W' := by
  have HJ := hJs
  refine callsIn_of_wp Tryz.func114 rfl trivial ?_ rfl
  simp only [Tryz.ntmps114, List.size_toArray, List.length_cons, List.length_nil, Nat.reduceAdd, Nat.reduceSub, Array.replicate_succ, Array.replicate_zero, List.push_toArray, List.append_toArray, List.nil_append, List.cons_append]
  gi_wp2
  gi_loopw [3, 4, 5, 6, 7, 8, 9, 10, 11, 12] (fun _ _ _ _ _ _ _ _ _ _ wr => ∃ (pre : List UInt8) (u : Nat), u < 18446744073709551616 ∧ wr.heap[bu]? = some (.cells #[.int .u64 u] 144 (0, 0)) ∧ encN u0 = pre ++ encN u ∧ J pre wr)
    (fun _ _ _ _ _ _ _ _ _ _ wr => match wr.cell? ⟨bu, 0, none⟩ with | some (.int _ n) => n.toNat | _ => 0)
  case atStart => exact ⟨[], u0, hu, hb, rfl, h0⟩
  case round =>
    obtain ⟨pre, u, hu', hbx, hx, hJ⟩ := hrel
    have hc := cell_of_one hbx
    have hf := free_of_one hbx
    by_cases hlt : u < 128
    · obtain ⟨fn, tmps, assign, body, hy, hR⟩ := hY pre (UInt8.ofNat u) wr hJ (by rw [hx, encN_small hlt]; simp)
      rw [encB_small hlt] at hy
      gi_wp2
      refine hR.mono ?_
      rintro e W3 ⟨rfl, hJ3, hk3⟩
      gi_wp2
      go_end0
      exact ⟨⟨_, rfl⟩, by rw [hx, encN_small hlt]; exact hJ3⟩
    · obtain ⟨fn, tmps, assign, body, hy, hR⟩ := hY pre (UInt8.ofNat (u % 128 + 128)) wr hJ (by rw [hx, encN_big hlt]; simp)
      rw [encB_big u hu'] at hy
      gi_wp2
      refine hR.mono ?_
      rintro e W3 ⟨rfl, hJ3, hk3⟩
      have hb3 := hk3.trans hbx
      have hc3 := cell_of_one hb3
      have hf3 := free_of_one hb3
      gi_wp2
      go_roundw
      case rel => 
        refine ⟨pre ++ [UInt8.ofNat (u % 128 + 128)], u / 128, by omega, ?_, by rw [hx, encN_big hlt]; simp, HJ _ _ _ hJ3⟩
        have := blk_set hb3 0 (.int .u64 ((u / 128 : Nat) : Int))
        simpa using this
      case measure =>
        have h1 : ∀ v, (W3.setCell ⟨bu, 0, none⟩ v).cell? ⟨bu, 0, none⟩ = some v := fun v => World.cell?_setCell_same' _ _ _ (by rw [hc3]; rfl)
        simp only [h1, hc]
        simp
        omega

set_option maxHeartbeats 1000000 in
theorem digits_in (n : Nat) (u : Nat) (w : World) :
    CallsIn Fence.wide n Tryz.prog 92 #[.int .u64 (u : Int)] w fun e w' => e = .returned (.func (.func 114) #[] #[.pointer (some ⟨w.heap.size, 0, none⟩)]) ∧ w' = w.alloc (.cells #[.int .u64 (u : Int)] 144) := by
  refine callsIn_of_wp Tryz.func92 rfl trivial ?_ rfl
  simp only [Tryz.ntmps92, List.size_toArray, List.length_cons, List.length_nil, Nat.reduceAdd, Nat.reduceSub, Array.replicate_succ, Array.replicate_zero, List.push_toArray, List.append_toArray, List.nil_append, List.cons_append]
  gi_wp2
  go_ret
  exact ⟨rfl, rfl⟩

theorem Tryz.info5 : (Tryz.prog.info? 5).map (fun i => (i.zero, i.size, i.bytes)) = some (some (.int .u8 0), 1, 1) := by kernel_rfl

def zz (n : Int) : Nat := if 0 ≤ n then 2 * n.toNat else 2 * (-n - 1).toNat + 1
def numB (n : Int) : List UInt8 := encN (zz n)

theorem xor_zig (a : Nat) (ha : a < 4611686018427387904) : bits .xor .u64 ((a : Int) * 2) ((a : Int) / 9223372036854775808) = ((2 * a : Nat) : Int) := by
  have e1 : (a : Int) * 2 = ((2 * a : Nat) : Int) := by omega
  have e2 : (a : Int) / 9223372036854775808 = ((0 : Nat) : Int) := by omega
  rw [e1, e2, u64_xor_nat _ _ (by omega) (by omega), Nat.xor_zero]
theorem row_ne_box {W : World} {base n : Nat} {e : TypeId} {v u : Value} {xs : List Value} {B t : Nat} (h : W.ownsRow base e 1 v n xs) (hB : Boxed W B t u) (ht : e ≠ t) : v.ownBlock ≠ some B := by
  intro hv
  obtain ⟨cells, hc⟩ := own_typed h B hv
  rw [show W.heap[B]? = _ from hB] at hc
  injection hc with hc
  injection hc with _ hc
  exact ht hc.symm

set_option maxRecDepth 100000 in
set_option maxHeartbeats 2000000 in
/-- varint.Num -/
theorem num_calls (a : Nat) (ha : a < 4611686018427387904) (w : World) :
    Calls Tryz.prog 66 #[.int .i64 (a : Int)] w fun e w' => e = .returned (.string (bs (numB a))) ∧ Below w.heap.size w w' := by
  obtain ⟨i0, hi, hz0, hz1, hz2⟩ := info_parts Tryz.info5
  refine (callsIn_wide (n := 6)).1 ?_
  have hfD : Fence.wide.fn 92 := trivial
  refine callsIn_of_wp_marks Tryz.func66 rfl trivial ?_ rfl
  simp only [Tryz.ntmps66, List.size_toArray, List.length_cons, List.length_nil, Nat.reduceAdd, Nat.reduceSub, Array.replicate_succ, Array.replicate_zero, List.push_toArray, List.append_toArray, List.nil_append, List.cons_append]
  gi_wp2_with fail
  rw [xor_zig a ha]
  refine (digits_in 5 (2 * a) _).mono ?_
  rintro e w' ⟨rfl, rfl⟩
  gi_wp2_with fail
  have bO := Boxed.new w 31 (.slice none 0 0)
  have bN := Boxed.new (w.alloc (.cells #[.slice none 0 0] 31)) 144 (.int .u64 ((2 * a : Nat) : Int))
  rw [World.size_alloc] at bN
  have hB0 : Below w.heap.size w ((w.alloc (.cells #[.slice none 0 0] 31)).alloc (.cells #[.int .u64 ((2 * a : Nat) : Int)] 144)) := ((Below.refl _ w).alloc (Nat.le_refl _) _).alloc (by simp) _
  refine wpIn_rangeBox (α := UInt8) rfl (by omega) (gf := 114) (lb := #[.pointer (some ⟨w.heap.size + 1, 0, none⟩)]) rfl trivial (enters_of Tryz.func114 (by kernel_rfl) rfl)
    (encs := fun x => #[encB x]) (bu := w.heap.size + 1) (xs := encN (2 * a)) ?seq (by simp) (fun _ => rfl)
    (fun pre W => ((∃ v, Boxed W w.heap.size 31 v ∧ W.ownsRow w.heap.size 5 1 v pre.length (pre.map encB) ∧ True) ∧ Below w.heap.size w W) ∧ ∃ u, Boxed W (w.heap.size + 1) 144 u)
    ?own ?set ?start
    (fun x => { tmps := #[.int .i64 (a : Int), undef, .string ⟨#[]⟩, .pointer (some ⟨w.heap.size, 0, none⟩), .int .u8 (x.toNat : Int), .int .i64 (a : Int), .int .u64 (a : Int), .int .u64 ((a : Int) * 2), .int .i64 (a : Int), .int .i64 ((a : Int) / 9223372036854775808), .int .u64 ((a : Int) / 9223372036854775808), .int .u64 ((2 * a : Nat) : Int), .func (.func 114) #[] #[.pointer (some ⟨w.heap.size + 1, 0, none⟩)], .int .u8 (x.toNat : Int), undef, undef, undef, undef, undef, undef], defers := [] }) ?assign ?body ?done
  case seq =>
    intro l J W hW hJ hY h0
    exact digits1_in 5 (by omega) l (w.heap.size + 1) (2 * a) (by omega) J W (hW.trans bN) hJ hY h0
  case own =>
    exact OwnFrom.and (OwnFrom.and (Own.from (holdsRow_own w.heap.size w.heap.size 31 5 1 (fun pre : List UInt8 => pre.length) (fun pre => pre.map encB) (fun _ _ => True)) _) (ownFrom_below (Nat.le_refl _) (by simp; omega)))
      (fun s X Y row ⟨u, h⟩ hg hr => ⟨u, (boxed_own (β := List UInt8) (w.heap.size + 1) 144 (fun _ => u)) s X Y row h hg (fun r e => (hr r e).2)⟩)
  case set =>
    rintro pre W u ⟨⟨⟨v, hv, hrow, _⟩, hB⟩, ⟨u0, hu⟩⟩
    exact ⟨⟨⟨v, hv.other (by omega) u, ownsRow_setCell_other hrow (row_ne_box hrow hu (by decide)) u, trivial⟩, hB.setCell (by simp) u⟩, ⟨u, hu.set u⟩⟩
  case start => exact ⟨⟨⟨_, bO.alloc _, World.ownsRow_nil _ _ _ _, trivial⟩, hB0⟩, ⟨_, bN⟩⟩
  case assign => 
    intro l x W K hK
    gi_wp2
    exact hK
  case body =>
    rintro l pre x W ⟨⟨⟨v, hv, hrow, _⟩, hB⟩, ⟨u0, hu⟩⟩ hlt
    have hc := hv.cell
    have hl10 := encN_length 9 (2 * a) (by simp; omega)
    have hul := hu.lt
    have hne := row_ne_box hrow hu (by decide)
    gi_wp2_with (gi_at_builtin; refine wpListIn_append_own _ rfl _ _ 31 rfl w.heap.size 5 i0 (.int .u8 0) 1 1 Tryz.underlying31 hi hz0 hz1 hz2 rfl (by decide) _ _ _ rfl (hrow.alloc _) ⟨W.heap.size, 0, none⟩ 1 1 [.int .u8 (x.toNat : Int)] rfl rfl (cell_one_new _ _ _) (by simp [Value.oneCell']) (by unfold maxLen; omega) (by omega) (by have := hB.size; simp; omega) ?_; intro v' w1 hown' hgrow _; obtain ⟨g', cap', rfl⟩ := ownsRow_succ hown'; obtain ⟨hv1, hv2, hr2, hk2, hb2⟩ := hv.appended (by decide) hrow hB.size (Nat.le_refl _) hown' hgrow; have hc1 := hv1.cell; have hf1 := hv1.frozen)
    have hbu : (w1.setCell ⟨w.heap.size, 0, none⟩ (.slice (some ⟨g', 0, none⟩) (pre.length + 1) cap')).heap[w.heap.size + 1]? = W.heap[w.heap.size + 1]? := by
      rw [Below.heap_setCell _ _ _ _ (by simp)]
      rw [hgrow.block (w.heap.size + 1) (by simp; omega) (fun e => hne e.symm)]
      exact Below.heap_alloc _ _ _ hul
    exact ⟨hk2.from _, ⟨⟨⟨_, hv2, by simpa [encB] using hr2, trivial⟩, hB.trans hb2⟩, ⟨u0, hbu.trans hu⟩⟩, hbu⟩
  case done =>
    rintro D W hD ⟨⟨⟨v, hv, hrow, _⟩, hB⟩, ⟨u0, hu⟩⟩ hK
    have hc := hv.cell
    have hnum : (encN (2 * a)).map encB = nums .u8 ((encN (2 * a)).map fun b => (b.toNat : Int)) := by simp [nums, encB, Function.comp_def]
    rw [hnum] at hrow
    have hcv := own_string (src := 31) (dst := 9) (e := 5) Tryz.underlying31 Tryz.underlying5 Tryz.underlying9 hrow
    have hst : strOfNums ((encN (2 * a)).map fun b => (b.toNat : Int)) = bs (encN (2 * a)) := by simp [strOfNums, bs, Function.comp_def]
    rw [hst] at hcv
    have hz : numB a = encN (2 * a) := by unfold numB zz; rw [if_pos (by omega)]; simp
    have HZ := Lib.hid hz
    clear hz hst hnum
    gi_wp2
    refine ⟨by simp, .inl ⟨_, _, rfl, run_takeDeferred hK, ?_⟩⟩
    exact ⟨_, results_tmp rfl _ _ _, by rw [HZ.out]; rfl, hB.trans (belowK_b (w := w) (Nat.le_refl _) W D _ _ (by simp at hD; omega) hK rfl rfl)⟩
end Go.Proofs.YtnlgmekkjibpmaaGreatDoor
/- DERIVED. Text, sealed and Lay. -/
namespace Go.Proofs.YtnlgmekkjibpmaaGreatDoor
open Go Go.RowKit Go.Shelf
set_option linter.unusedVariables false
set_option linter.unusedSimpArgs false

theorem numB_length (a : Nat) (ha : a < 4611686018427387904) : (numB a).length ≤ 10 := by
  unfold numB zz; rw [if_pos (by omega)]
  exact encN_length 9 _ (by simp; omega)

/-- A number, and the text. -/
def textB (s : List UInt8) : List UInt8 := numB s.length ++ s
set_option maxHeartbeats 400000 in
theorem text_calls (s : ByteArray) (hs : s.size ≤ 1000000) (w : World) :
    Calls Tryz.prog 91 #[.string s] w fun e w' => e = .returned (.string (bs (textB s.data.toList))) ∧ Below w.heap.size w w' := by
  have hn := numB_length s.size (by omega)
  have hr := Lib.hid (show bs (numB s.size) ++ s = bs (textB s.data.toList) by rw [textB, ← bs_append, bs_of, len_toList])
  obtain ⟨o, ho⟩ : ∃ o, o = bs (numB s.size) := ⟨_, rfl⟩
  have h2 : o.size ≤ 10 := by rw [ho, bs_size]; exact hn
  have HO := Lib.hid ho
  clear ho hn
  go_enter Tryz.func91, Tryz.ntmps91
  go_wp2_with fail
  refine (num_calls s.size (by omega) _).mono ?_
  rintro e w' ⟨rfl, hb⟩
  rw [← HO.out]
  go_wp2
  go_ret
  exact ⟨by rw [HO.out, hr.out]; rfl, hb⟩

theorem sealed_calls (s : ByteArray) (hs : s.size ≤ 1000000) (w : World) :
    Calls Tryz.prog 90 #[.string s] w fun e w' => e = .returned (.string (bs (sealedB s.data.toList))) ∧ Below w.heap.size w w' := by
  obtain ⟨k, hk⟩ := sealed_f s (by omega)
  exact PWalFound.frame_sealed.calls k s _ w hk

/-- A frame. -/
def layB (p : List UInt8) : List UInt8 := sealedB (textB p)
set_option maxHeartbeats 400000 in
theorem lay_long (s : ByteArray) (hs : 4096 < s.size) (w : World) :
    Calls Tryz.prog 65 #[.string s] w fun e w' => e = .returned (.tuple #[.string ⟨#[]⟩, .int .i64 1]) ∧ Below w.heap.size w w' := by
  have h : (4096 : Int) < s.size := by omega
  go_enter Tryz.func65, Tryz.ntmps65
  go_wp2
  go_ret2
  exact ⟨rfl, Below.refl _ _⟩
set_option maxHeartbeats 400000 in
theorem lay_ok (s : ByteArray) (hs : s.size ≤ 4096) (w : World) :
    Calls Tryz.prog 65 #[.string s] w fun e w' => e = .returned (.tuple #[.string (bs (layB s.data.toList)), .int .i64 0]) ∧ Below w.heap.size w w' := by
  have h : ¬ (4096 : Int) < s.size := by omega
  have hn := numB_length s.size (by omega)
  have ht : (bs (textB s.data.toList)).size ≤ 1000000 := by rw [bs_size, textB, List.length_append, len_toList]; omega
  go_enter Tryz.func65, Tryz.ntmps65
  go_wp2_with fail
  refine (text_calls s (by omega) _).mono ?_
  rintro e w1 ⟨rfl, hb1⟩
  go_wp2_with fail
  refine (sealed_calls _ ht _).mono ?_
  rintro e w2 ⟨rfl, hb2⟩
  go_wp2
  go_ret2
  exact ⟨by rw [bs_toList]; rfl, hb1.trans (hb2.mono hb1.size)⟩
end Go.Proofs.YtnlgmekkjibpmaaGreatDoor
/- DERIVED. The reader, and Take. -/
namespace Go.Proofs.YtnlgmekkjibpmaaGreatDoor
open Go Go.RowKit Go.Shelf Go.Proofs.YtnlgmekkjibpmaaGreatDoorW.PrintWords
set_option linter.unusedVariables false
set_option linter.unusedSimpArgs false

/-- A reader at g. -/
structure Rd (w : World) (g : Nat) (s : ByteArray) (at_ : Nat) (bad : Bool) : Prop where
  out : w.heap[g]? = some (.cells #[.string s, .int .i64 (at_ : Int), .bool bad] 181 (0, 0))
theorem Rd.fr {w w' : World} {g : Nat} {s : ByteArray} {at_ : Nat} {bad : Bool} {S : List Nat} (h : Rd w g s at_ bad) (hf : Fr S w w') (hg : g ∉ S) : Rd w' g s at_ bad := ⟨(hf.block g (blk_lt h.out) hg).trans h.out⟩

set_option maxHeartbeats 400000 in
theorem rd_new (s : ByteArray) (w : World) :
    Calls Tryz.prog 105 #[.string s] w fun e w' => e = .returned (.pointer (some ⟨w.heap.size, 0, none⟩)) ∧ Rd w' w.heap.size s 0 false ∧ Fr [] w w' := by
  go_enter Tryz.func105, Tryz.ntmps105
  go_wp2
  go_ret
  exact ⟨rfl, ⟨heap_new _ _⟩, (Fr.refl _ _).alloc _⟩
set_option maxHeartbeats 400000 in
theorem rd_bad (g : Nat) (s : ByteArray) (at_ : Nat) (bad : Bool) (w : World) (h : Rd w g s at_ bad) :
    Calls Tryz.prog 107 #[.pointer (some ⟨g, 0, none⟩)] w fun e w' => e = .returned (.bool bad) ∧ w' = w := by
  have c := blk_cell (v := .bool bad) h.out (j := 2) rfl
  clear h
  go_enter Tryz.func107, Tryz.ntmps107
  go_wp2
  go_ret
  exact ⟨rfl, rfl⟩
set_option maxHeartbeats 400000 in
theorem rd_left (g : Nat) (s : ByteArray) (at_ : Nat) (bad : Bool) (w : World) (h : Rd w g s at_ bad) (ha : at_ ≤ s.size) (hs : s.size ≤ 9223372036854775807) :
    Calls Tryz.prog 108 #[.pointer (some ⟨g, 0, none⟩)] w fun e w' => e = .returned (.int .i64 ((s.size - at_ : Nat) : Int)) ∧ Rd w' g s at_ bad ∧ Fr [] w w' := by
  have c0 := blk_cell (v := .string s) h.out (j := 0) rfl
  have c1 := blk_cell (v := .int .i64 (at_ : Int)) h.out (j := 1) rfl
  have e := Lib.hid (show ((s.size - at_ : Nat) : Int) = (s.size : Int) - (at_ : Int) by omega)
  have ha' : (at_ : Int) ≤ s.size := by omega
  have H := Lib.hid h
  clear h ha
  go_enter Tryz.func108, Tryz.ntmps108
  go_wp2
  go_region
  all_goals go_wp2
  go_ret
  exact ⟨by rw [e.out]; rfl, ⟨H.out.out⟩, (Fr.refl _ _).drew⟩
/-- What a number taken up leaves: the place behind it, or a bad reader. -/
def numAt (at_ : Nat) : Option (Nat × Nat) → Nat
  | some r => at_ + r.2
  | none => at_
def numVal : Option (Nat × Nat) → Int
  | some r => unzz r.1
  | none => 0
theorem rd_num (g : Nat) (s : ByteArray) (at_ : Nat) (w : World) (h : Rd w g s at_ false) (ha : at_ ≤ s.size) (hs : s.size < 4611686018427387904) :
    Calls Tryz.prog 106 #[.pointer (some ⟨g, 0, none⟩)] w fun e w' => e = .returned (.int .i64 (numVal (decG 0 (s.data.toList.drop at_)))) ∧
      Rd w' g s (numAt at_ (decG 0 (s.data.toList.drop at_))) (decG 0 (s.data.toList.drop at_)).isNone ∧ Fr [g] w w' := by
  have hg := blk_lt h.out
  let w0 : World := { w with heap := w.heap.extract 0 g }
  have hsz : w0.heap.size = g := by simp [w0]; omega
  have hB : Below w0.heap.size w0 w := ⟨rfl, rfl, rfl, by rw [hsz]; omega, fun k hk => by
    rw [hsz] at hk
    simp only [w0, Array.getElem?_extract]
    rw [if_pos (by omega)]
    simp⟩
  have hI : PWalFound.IsS181 w0 w g s (at_ : Int) false := ⟨h.out, by omega⟩
  have hf := num_f s at_ hs ha
  refine (PWalFound.varint_Reader_Num.calls 40 g s _ _ _ _ _ _ w0 w hI hB hf).mono ?_
  rintro e w' ⟨rfl, hI', hB', hK⟩
  have hF : Fr [g] w w' := ⟨hB'.os.trans hB.os.symm, hB'.tape.trans hB.tape.symm, hB'.output.trans hB.output.symm, hK.1, fun k hk hn => hK.2 k hk (by simpa using hn) (by simp)⟩
  cases hd : decG 0 (s.data.toList.drop at_) with
  | none =>
    rw [hd] at hI'
    exact ⟨rfl, ⟨hI'.1⟩, hF⟩
  | some r =>
    rw [hd] at hI'
    refine ⟨?_, ⟨hI'.1⟩, hF⟩
    simp [readAns, numVal]
end Go.Proofs.YtnlgmekkjibpmaaGreatDoor
/- DERIVED. Take. -/
namespace Go.Proofs.YtnlgmekkjibpmaaGreatDoor
open Go Go.RowKit Go.Shelf
set_option linter.unusedVariables false
set_option linter.unusedSimpArgs false
attribute [local go_sem ↓] Go.wp_at_zero Go.wp_at_succ

theorem toList_data (s : ByteArray) : s.toList = s.data.toList := Lib.toList_data s
theorem ne_empty (s : ByteArray) (h : 0 < s.size) : s.toList.isEmpty = false := by
  rw [toList_data]
  have hl := len_toList s
  cases h1 : s.data.toList with
  | nil => rw [h1] at hl; simp at hl; omega
  | cons _ _ => rfl
theorem ext_bs (s : ByteArray) (a n : Nat) : s.extract a (a + n) = bs ((s.data.toList.drop a).take n) := by
  rw [← bs_of (s.extract a (a + n))]
  congr 1
  simp [ByteArray.data_extract, Array.toList_extract, List.extract_eq_take_drop]
/-- What Take answers: what the frame bears, how many bytes it has, a code. -/
def takeB (s : List UInt8) : List UInt8 × Nat × Nat :=
  match decG 0 s with
  | none => ([], 0, if s = [] ∨ s.length = 1 then 30 else 31)
  | some (u, k) =>
    if unzz u < 0 ∨ 4096 < unzz u then ([], 0, 31)
    else if s.length < k + (unzz u).toNat + 4 then ([], 0, 30)
    else if sealedB (s.take (k + (unzz u).toNat)) = s.take (k + (unzz u).toNat + 4) then ((s.drop k).take (unzz u).toNat, k + (unzz u).toNat + 4, 0)
    else ([], 0, 31)

def TakeOk (s : ByteArray) (w : World) (r : List UInt8 × Nat × Nat) : Prop :=
  Calls Tryz.prog 104 #[.string s] w fun e w' => e = .returned (.tuple #[.string (bs r.1), .int .i64 (r.2.1 : Int), .int .i64 (r.2.2 : Int)]) ∧ Fr [] w w'

theorem bs_nil : bs [] = ⟨#[]⟩ := rfl

set_option maxRecDepth 100000 in
set_option maxHeartbeats 1000000 in
theorem take_none_empty (s : ByteArray) (w : World) (h0 : s.size = 0) (hd : decG 0 s.data.toList = none) : TakeOk s w ([], 0, 30) := by
  unfold TakeOk
  rw [bs_nil]
  have e1 : s.toList.isEmpty = true := by rw [toList_data, List.isEmpty_iff_length_eq_zero, len_toList]; exact h0
  have hsz : s.size ≤ 0 := by omega
  have HD := Lib.hid hd
  clear h0 hd
  go_enter Tryz.func104, Tryz.ntmps104
  go_wp2_with fail
  refine (rd_new s _).mono ?_
  rintro e w1 ⟨rfl, hr1, hf1⟩
  go_wp2_with fail
  refine (rd_num _ s 0 _ hr1 (by omega) (by omega)).mono ?_
  rw [List.drop_zero, HD.out]
  rintro e w2 ⟨rfl, hr2, hf2⟩
  go_wp2_with fail
  refine (rd_left _ s _ _ _ hr2 (by simp [numAt]) (by omega)).mono ?_
  rintro e w3 ⟨rfl, hr3, hf3⟩
  simp only [numVal, numAt, Nat.sub_zero]
  go_wp2_with fail
  go_ret3
  refine ⟨rfl, Fr.trans ?_ hf3⟩
  have := blk_lt hr1.out
  exact ⟨hf2.os.trans hf1.os, hf2.tape.trans hf1.tape, hf2.output.trans hf1.output, Nat.le_trans hf1.size hf2.size, fun k hk hn => (hf2.block k (Nat.lt_of_lt_of_le hk hf1.size) (by simp; omega)).trans (hf1.block k hk hn)⟩
set_option maxRecDepth 100000 in
set_option maxHeartbeats 1000000 in
theorem take_none_one (s : ByteArray) (w : World) (h0 : s.size = 1) (h1 : 0 < s.size) (hb : 128 ≤ (s[0]'h1).toNat) (hd : decG 0 s.data.toList = none) : TakeOk s w ([], 0, 30) := by
  unfold TakeOk
  rw [bs_nil]
  have e1 : s.toList.isEmpty = false := ne_empty s h1
  have e2 : ((s.size : Int) == 1) = true := by simp; omega
  have hsz : s.size ≤ 1 := by omega
  have hb' : (128 : Int) ≤ (s[0]'h1).toNat := by omega
  have HD := Lib.hid hd
  clear h0 hd hb
  go_enter Tryz.func104, Tryz.ntmps104
  go_wp2_with fail
  refine (rd_new s _).mono ?_
  rintro e w1 ⟨rfl, hr1, hf1⟩
  go_wp2_with fail
  refine (rd_num _ s 0 _ hr1 (by omega) (by omega)).mono ?_
  rw [List.drop_zero, HD.out]
  rintro e w2 ⟨rfl, hr2, hf2⟩
  have hF : Fr [] w w2 := ⟨hf2.os.trans hf1.os, hf2.tape.trans hf1.tape, hf2.output.trans hf1.output, Nat.le_trans hf1.size hf2.size, fun k hk hn => (hf2.block k (Nat.lt_of_lt_of_le hk hf1.size) (by simp; omega)).trans (hf1.block k hk hn)⟩
  have hgl := blk_lt hr2.out
  go_wp2_with fail
  refine (rd_left _ s _ _ _ hr2 (by simp [numAt]) (by omega)).mono ?_
  rintro e w3 ⟨rfl, hr3, hf3⟩
  simp only [numVal, numAt, Nat.sub_zero]
  have rb := fun (W : World) (hW : W.heap = w3.heap) => rd_bad w.heap.size s 0 true W ⟨by rw [hW]; exact hr3.out⟩
  have RB := Lib.hid rb
  clear rb
  go_wp2_with (go_at_call 107; refine (RB.out _ (by exact rfl)).mono ?_; rintro e w' ⟨rfl, rfl⟩)
  go_ret3
  exact ⟨rfl, hF.trans hf3⟩

set_option maxRecDepth 100000 in
set_option maxHeartbeats 1000000 in
theorem take_none_more (s : ByteArray) (w : World) (h0 : 1 < s.size) (hsz : s.size ≤ 1000000) (hd : decG 0 s.data.toList = none) : TakeOk s w ([], 0, 31) := by
  unfold TakeOk
  rw [bs_nil]
  have e1 : s.toList.isEmpty = false := ne_empty s (by omega)
  have e2 : ((s.size : Int) == 1) = false := by simp; omega
  have HD := Lib.hid hd
  clear h0 hd
  go_enter Tryz.func104, Tryz.ntmps104
  go_wp2_with fail
  refine (rd_new s _).mono ?_
  rintro e w1 ⟨rfl, hr1, hf1⟩
  go_wp2_with fail
  refine (rd_num _ s 0 _ hr1 (by omega) (by omega)).mono ?_
  rw [List.drop_zero, HD.out]
  rintro e w2 ⟨rfl, hr2, hf2⟩
  have hF : Fr [] w w2 := ⟨hf2.os.trans hf1.os, hf2.tape.trans hf1.tape, hf2.output.trans hf1.output, Nat.le_trans hf1.size hf2.size, fun k hk hn => (hf2.block k (Nat.lt_of_lt_of_le hk hf1.size) (by simp; omega)).trans (hf1.block k hk hn)⟩
  have hgl := blk_lt hr2.out
  go_wp2_with fail
  refine (rd_left _ s _ _ _ hr2 (by simp [numAt]) (by omega)).mono ?_
  rintro e w3 ⟨rfl, hr3, hf3⟩
  simp only [numVal, numAt, Nat.sub_zero]
  have rb := fun (W : World) (hW : W.heap = w3.heap) => rd_bad w.heap.size s 0 true W ⟨by rw [hW]; exact hr3.out⟩
  have RB := Lib.hid rb
  clear rb
  go_wp2_with (go_at_call 107; refine (RB.out _ (by exact rfl)).mono ?_; rintro e w' ⟨rfl, rfl⟩)
  go_quiet ((go_at_call 107; exact Calls.quiet_of_same (RB.out _ (by exact rfl))))
  go_wp2_with fail
  go_ret3
  exact ⟨rfl, (hF.trans hf3).drewN _⟩
set_option maxRecDepth 100000 in
set_option maxHeartbeats 1000000 in
theorem take_some_neg (s : ByteArray) (w : World) (u k : Nat) (v : Int) (hsz : s.size ≤ 1000000) (hd : decG 0 s.data.toList = some (u, k)) (hv : unzz u = v) (hk1 : 0 < k) (hk2 : k ≤ s.size) (hneg : v < 0) : TakeOk s w ([], 0, 31) := by
  unfold TakeOk
  have e1 : s.toList.isEmpty = false := ne_empty s (by omega)
  have HD := Lib.hid hd
  have HV := Lib.hid hv
  clear hd hv
  have hng : ¬ 0 ≤ v := by omega
  by_cases h1 : s.size = 1
  all_goals
    obtain ⟨b1, hb1, hb2⟩ : ∃ b, ((s.size : Int) == 1) = b ∧ (b = true ∨ b = false) := ⟨_, rfl, by cases ((s.size : Int) == 1) <;> simp⟩
    obtain rfl | rfl := hb2
    all_goals first | (exfalso; simp at hb1; done) | (exfalso; simp at hb1; omega) | skip
    clear h1
    go_enter Tryz.func104, Tryz.ntmps104
    go_wp2_with fail
    refine (rd_new s _).mono ?_
    rintro e w1 ⟨rfl, hr1, hf1⟩
    go_wp2_with fail
    refine (rd_num _ s 0 _ hr1 (by omega) (by omega)).mono ?_
    rw [List.drop_zero, HD.out]
    rintro e w2 ⟨rfl, hr2, hf2⟩
    have hF : Fr [] w w2 := ⟨hf2.os.trans hf1.os, hf2.tape.trans hf1.tape, hf2.output.trans hf1.output, Nat.le_trans hf1.size hf2.size, fun k hk hn => (hf2.block k (Nat.lt_of_lt_of_le hk hf1.size) (by simp; omega)).trans (hf1.block k hk hn)⟩
    have hgl := blk_lt hr2.out
    simp only [numVal, numAt, Nat.zero_add] at hr2 ⊢
    rw [HV.out]
    go_wp2_with fail
    refine (rd_left _ s _ _ _ hr2 hk2 (by omega)).mono ?_
    rintro e w3 ⟨rfl, hr3, hf3⟩
    have rb := fun (W : World) (hW : W.heap = w3.heap) => rd_bad w.heap.size s k false W ⟨by rw [hW]; exact hr3.out⟩
    have rl := fun (W : World) (hW : W.heap = w3.heap) => rd_left w.heap.size s k false W ⟨by rw [hW]; exact hr3.out⟩ hk2 (by omega)
    have RB := Lib.hid rb
    have RL := Lib.hid rl
    clear rb rl
    go_wp2_with (go_at_call 107; refine (RB.out _ (by exact rfl)).mono ?_; rintro e w' ⟨rfl, rfl⟩)
    go_quiet ((go_at_call 107; exact Calls.quiet_of_same (RB.out _ (by exact rfl))))
    go_wp2_with fail
    go_ret3
    exact ⟨rfl, (hF.trans hf3).drewN _⟩
set_option maxRecDepth 100000 in
set_option maxHeartbeats 1000000 in
theorem take_some_big (s : ByteArray) (w : World) (u k : Nat) (v : Int) (hsz : s.size ≤ 1000000) (hd : decG 0 s.data.toList = some (u, k)) (hv : unzz u = v) (hk1 : 0 < k) (hk2 : k ≤ s.size) (hneg : 0 ≤ v) (hbig : 4096 < v) : TakeOk s w ([], 0, 31) := by
  unfold TakeOk
  have e1 : s.toList.isEmpty = false := ne_empty s (by omega)
  have HD := Lib.hid hd
  have HV := Lib.hid hv
  clear hd hv
  have hng : ¬ v < 0 := by omega
  have hng2 : ¬ v ≤ 4096 := by omega
  have hd1 : decide (v < 0) = false := by simpa using hneg
  have hd2 : decide (4096 < v) = true := by simpa using hbig
  by_cases h1 : s.size = 1
  all_goals
    obtain ⟨b1, hb1, hb2⟩ : ∃ b, ((s.size : Int) == 1) = b ∧ (b = true ∨ b = false) := ⟨_, rfl, by cases ((s.size : Int) == 1) <;> simp⟩
    obtain rfl | rfl := hb2
    all_goals first | (exfalso; simp at hb1; done) | (exfalso; simp at hb1; omega) | skip
    clear h1
    go_enter Tryz.func104, Tryz.ntmps104
    go_wp2_with fail
    refine (rd_new s _).mono ?_
    rintro e w1 ⟨rfl, hr1, hf1⟩
    go_wp2_with fail
    refine (rd_num _ s 0 _ hr1 (by omega) (by omega)).mono ?_
    rw [List.drop_zero, HD.out]
    rintro e w2 ⟨rfl, hr2, hf2⟩
    have hF : Fr [] w w2 := ⟨hf2.os.trans hf1.os, hf2.tape.trans hf1.tape, hf2.output.trans hf1.output, Nat.le_trans hf1.size hf2.size, fun k hk hn => (hf2.block k (Nat.lt_of_lt_of_le hk hf1.size) (by simp; omega)).trans (hf1.block k hk hn)⟩
    have hgl := blk_lt hr2.out
    simp only [numVal, numAt, Nat.zero_add] at hr2 ⊢
    rw [HV.out]
    go_wp2_with fail
    refine (rd_left _ s _ _ _ hr2 hk2 (by omega)).mono ?_
    rintro e w3 ⟨rfl, hr3, hf3⟩
    have rb := fun (W : World) (hW : W.heap = w3.heap) => rd_bad w.heap.size s k false W ⟨by rw [hW]; exact hr3.out⟩
    have rl := fun (W : World) (hW : W.heap = w3.heap) => rd_left w.heap.size s k false W ⟨by rw [hW]; exact hr3.out⟩ hk2 (by omega)
    have RB := Lib.hid rb
    have RL := Lib.hid rl
    clear rb rl
    go_wp2_with (go_at_call 107; refine (RB.out _ (by exact rfl)).mono ?_; rintro e w' ⟨rfl, rfl⟩)
    go_quiet ((go_at_call 107; exact Calls.quiet_of_same (RB.out _ (by exact rfl))))
    go_wp2_with fail
    go_ret3
    exact ⟨rfl, (hF.trans hf3).drewN _⟩
set_option maxRecDepth 100000 in
set_option maxHeartbeats 1000000 in
theorem take_some_short (s : ByteArray) (w : World) (u k : Nat) (v : Int) (hsz : s.size ≤ 1000000) (hd : decG 0 s.data.toList = some (u, k)) (hv : unzz u = v) (hk1 : 0 < k) (hk2 : k ≤ s.size) (hneg : 0 ≤ v) (hbig : v ≤ 4096) (hsh : s.size < k + v.toNat + 4) : TakeOk s w ([], 0, 30) := by
  unfold TakeOk
  have e1 : s.toList.isEmpty = false := ne_empty s (by omega)
  have HD := Lib.hid hd
  have HV := Lib.hid hv
  clear hd hv
  have hng : ¬ v < 0 := by omega
  have hs1 : ((s.size - k : Nat) : Int) < v + 4 := by omega
  by_cases h1 : s.size = 1
  all_goals
    obtain ⟨b1, hb1, hb2⟩ : ∃ b, ((s.size : Int) == 1) = b ∧ (b = true ∨ b = false) := ⟨_, rfl, by cases ((s.size : Int) == 1) <;> simp⟩
    obtain rfl | rfl := hb2
    all_goals first | (exfalso; simp at hb1; done) | (exfalso; simp at hb1; omega) | skip
    clear h1
    go_enter Tryz.func104, Tryz.ntmps104
    go_wp2_with fail
    refine (rd_new s _).mono ?_
    rintro e w1 ⟨rfl, hr1, hf1⟩
    go_wp2_with fail
    refine (rd_num _ s 0 _ hr1 (by omega) (by omega)).mono ?_
    rw [List.drop_zero, HD.out]
    rintro e w2 ⟨rfl, hr2, hf2⟩
    have hF : Fr [] w w2 := ⟨hf2.os.trans hf1.os, hf2.tape.trans hf1.tape, hf2.output.trans hf1.output, Nat.le_trans hf1.size hf2.size, fun k hk hn => (hf2.block k (Nat.lt_of_lt_of_le hk hf1.size) (by simp; omega)).trans (hf1.block k hk hn)⟩
    have hgl := blk_lt hr2.out
    simp only [numVal, numAt, Nat.zero_add] at hr2 ⊢
    rw [HV.out]
    go_wp2_with fail
    refine (rd_left _ s _ _ _ hr2 hk2 (by omega)).mono ?_
    rintro e w3 ⟨rfl, hr3, hf3⟩
    have hr3' : Rd w3 w.heap.size s k false := ⟨hr3.out⟩
    clear hr2 hr3 hf2 hr1
    go_wp2_with (first
      | (go_at_call 107; refine (rd_bad _ s k false _ (by assumption)).mono ?_; rintro e w' ⟨rfl, rfl⟩)
      | (go_at_call 108; refine (rd_left _ s k false _ (by assumption) hk2 (by omega)).mono ?_; rintro e w4 ⟨rfl, hr4, hf4⟩))
    go_ret3
    exact ⟨rfl, (hF.trans hf3).trans hf4⟩
set_option maxRecDepth 100000 in
set_option maxHeartbeats 1000000 in
theorem take_some_differs (s : ByteArray) (w : World) (u k : Nat) (n : Nat) (hsz : s.size ≤ 1000000) (hd : decG 0 s.data.toList = some (u, k)) (hv : unzz u = (n : Int)) (hk1 : 0 < k) (hk2 : k ≤ s.size) (hbig : n ≤ 4096) (hsh : k + n + 4 ≤ s.size) (hne : ¬ sealedB (s.data.toList.take (k + n)) = s.data.toList.take (k + n + 4)) : TakeOk s w ([], 0, 31) := by
  unfold TakeOk
  have e1 : s.toList.isEmpty = false := ne_empty s (by omega)
  have HD := Lib.hid hd
  have HV := Lib.hid hv
  clear hd hv
  have hs1 : ¬ ((s.size - k : Nat) : Int) < (n : Int) + 4 := by omega
  have hd1 : decide ((n : Int) < 0) = false := by simp
  have hd2 : decide ((4096 : Int) < (n : Int)) = false := by simp; omega
  have hh : (s.size : Int) - ((s.size - k : Nat) : Int) = (k : Int) := by omega
  have hA : (s.extract 0 (k + n)).size ≤ 1000000 := by rw [ByteArray.size_extract]; omega
  have hsh' : (k : Int) + (n : Int) + 4 ≤ (s.size : Int) := by omega
  have e2 : ((s.size : Int) == 1) = false := by simp; omega
  go_enter Tryz.func104, Tryz.ntmps104
  go_wp2_with fail
  refine (rd_new s _).mono ?_
  rintro e w1 ⟨rfl, hr1, hf1⟩
  go_wp2_with fail
  refine (rd_num _ s 0 _ hr1 (by omega) (by omega)).mono ?_
  rw [List.drop_zero, HD.out]
  rintro e w2 ⟨rfl, hr2, hf2⟩
  have hF : Fr [] w w2 := ⟨hf2.os.trans hf1.os, hf2.tape.trans hf1.tape, hf2.output.trans hf1.output, Nat.le_trans hf1.size hf2.size, fun k hk hn => (hf2.block k (Nat.lt_of_lt_of_le hk hf1.size) (by simp; omega)).trans (hf1.block k hk hn)⟩
  have hgl := blk_lt hr2.out
  simp only [numVal, numAt, Nat.zero_add] at hr2 ⊢
  rw [HV.out]
  go_wp2_with fail
  refine (rd_left _ s _ _ _ hr2 hk2 (by omega)).mono ?_
  rintro e w3 ⟨rfl, hr3, hf3⟩
  have hr3' : Rd w3 w.heap.size s k false := ⟨hr3.out⟩
  clear hr2 hr3 hf2 hr1
  go_wp2_with (first
    | (go_at_call 107; refine (rd_bad _ s k false _ (by assumption)).mono ?_; rintro e w' ⟨rfl, rfl⟩)
    | (go_at_call 108; refine (rd_left _ s k false _ (by assumption) hk2 (by omega)).mono ?_; rintro e w4 ⟨rfl, hr4, hf4⟩))
  have hr5 : Rd w4.drew w.heap.size s k false := ⟨hr4.out⟩
  have HA := Lib.hid hA
  clear hA
  have p1 : (0 : Int) ≤ (k : Int) + (n : Int) := by omega
  have p2 : (k : Int) + (n : Int) ≤ (s.size : Int) := by omega
  have p3 : (0 : Int) ≤ (k : Int) + (n : Int) + 4 := by omega
  have t1 : ((k : Int) + (n : Int)).toNat = k + n := by omega
  have t2 : ((k : Int) + (n : Int) + 4).toNat = k + n + 4 := by omega
  have ws1 : IntKind.i64.wrap ((k : Int) + (n : Int)) = (k : Int) + (n : Int) := IntWalk.i64_in _ (by omega)
  have ws2 : IntKind.i64.wrap ((k : Int) + (n : Int) + 4) = (k : Int) + (n : Int) + 4 := IntWalk.i64_in _ (by omega)
  go_region_held3 (fun _ => True) (trivial) ((first
    | (go_at_call 107; refine (rd_bad w.heap.size s k false w4.drew hr5).mono ?_; rintro e w' ⟨rfl, rfl⟩)
    | (go_at_call 90; refine (sealed_calls _ HA.out _).mono ?_; rintro e w5 ⟨rfl, hb5⟩)))
  clear ws1 ws2
  go_wp2
  all_goals rename_i hw
  · go_ret3
    exact ⟨rfl, ((hF.trans hf3).trans hf4).drew.trans (Fr.of_below hb5 _)⟩
  · exfalso
    simp [toList_data, bs_toList, Lib.extract_from_zero] at hw
    exact hne hw
set_option maxRecDepth 100000 in
set_option maxHeartbeats 1000000 in
theorem take_some_ok (s : ByteArray) (w : World) (u k : Nat) (n : Nat) (hsz : s.size ≤ 1000000) (hd : decG 0 s.data.toList = some (u, k)) (hv : unzz u = (n : Int)) (hk1 : 0 < k) (hk2 : k ≤ s.size) (hbig : n ≤ 4096) (hsh : k + n + 4 ≤ s.size) (hne : sealedB (s.data.toList.take (k + n)) = s.data.toList.take (k + n + 4)) : TakeOk s w ((s.data.toList.drop k).take n, k + n + 4, 0) := by
  unfold TakeOk
  have e1 : s.toList.isEmpty = false := ne_empty s (by omega)
  have HD := Lib.hid hd
  have HV := Lib.hid hv
  have HN := Lib.hid hne
  clear hd hv hne
  have hs1 : ¬ ((s.size - k : Nat) : Int) < (n : Int) + 4 := by omega
  have hd1 : decide ((n : Int) < 0) = false := by simp
  have hd2 : decide ((4096 : Int) < (n : Int)) = false := by simp; omega
  have hh : (s.size : Int) - ((s.size - k : Nat) : Int) = (k : Int) := by omega
  have hA : (s.extract 0 (k + n)).size ≤ 1000000 := by rw [ByteArray.size_extract]; omega
  have hsh' : (k : Int) + (n : Int) + 4 ≤ (s.size : Int) := by omega
  have e2 : ((s.size : Int) == 1) = false := by simp; omega
  go_enter Tryz.func104, Tryz.ntmps104
  go_wp2_with fail
  refine (rd_new s _).mono ?_
  rintro e w1 ⟨rfl, hr1, hf1⟩
  go_wp2_with fail
  refine (rd_num _ s 0 _ hr1 (by omega) (by omega)).mono ?_
  rw [List.drop_zero, HD.out]
  rintro e w2 ⟨rfl, hr2, hf2⟩
  have hF : Fr [] w w2 := ⟨hf2.os.trans hf1.os, hf2.tape.trans hf1.tape, hf2.output.trans hf1.output, Nat.le_trans hf1.size hf2.size, fun k hk hn => (hf2.block k (Nat.lt_of_lt_of_le hk hf1.size) (by simp; omega)).trans (hf1.block k hk hn)⟩
  have hgl := blk_lt hr2.out
  simp only [numVal, numAt, Nat.zero_add] at hr2 ⊢
  rw [HV.out]
  go_wp2_with fail
  refine (rd_left _ s _ _ _ hr2 hk2 (by omega)).mono ?_
  rintro e w3 ⟨rfl, hr3, hf3⟩
  have hr3' : Rd w3 w.heap.size s k false := ⟨hr3.out⟩
  clear hr2 hr3 hf2 hr1
  go_wp2_with (first
    | (go_at_call 107; refine (rd_bad _ s k false _ (by assumption)).mono ?_; rintro e w' ⟨rfl, rfl⟩)
    | (go_at_call 108; refine (rd_left _ s k false _ (by assumption) hk2 (by omega)).mono ?_; rintro e w4 ⟨rfl, hr4, hf4⟩))
  have hr5 : Rd w4.drew w.heap.size s k false := ⟨hr4.out⟩
  have HA := Lib.hid hA
  clear hA
  have p1 : (0 : Int) ≤ (k : Int) + (n : Int) := by omega
  have p2 : (k : Int) + (n : Int) ≤ (s.size : Int) := by omega
  have p3 : (0 : Int) ≤ (k : Int) + (n : Int) + 4 := by omega
  have t1 : ((k : Int) + (n : Int)).toNat = k + n := by omega
  have t2 : ((k : Int) + (n : Int) + 4).toNat = k + n + 4 := by omega
  have ws1 : IntKind.i64.wrap ((k : Int) + (n : Int)) = (k : Int) + (n : Int) := IntWalk.i64_in _ (by omega)
  have ws2 : IntKind.i64.wrap ((k : Int) + (n : Int) + 4) = (k : Int) + (n : Int) + 4 := IntWalk.i64_in _ (by omega)
  go_region_held3 (fun _ => True) (trivial) ((first
    | (go_at_call 107; refine (rd_bad w.heap.size s k false w4.drew hr5).mono ?_; rintro e w' ⟨rfl, rfl⟩)
    | (go_at_call 90; refine (sealed_calls _ HA.out _).mono ?_; rintro e w5 ⟨rfl, hb5⟩)))
  clear ws1 ws2
  go_wp2
  · exfalso
    have hw : (!((bs (sealedB (List.take (k + n) s.data.toList))).toList == (s.extract 0 (k + n + 4)).toList)) = true := by assumption
    rw [toList_data, toList_data, bs_toList, Lib.extract_from_zero, HN.out] at hw
    simp at hw
  go_ret3
  refine ⟨?_, ((hF.trans hf3).trans hf4).drew.trans (Fr.of_below hb5 _)⟩
  show Ending.returned (.tuple #[.string (s.extract k (k + n)), .int .i64 ((k : Int) + (n : Int) + 4), .int .i64 0]) = _
  rw [ext_bs]
  rfl

/-- Take, whatever the text. -/
theorem take_calls (s : ByteArray) (hsz : s.size ≤ 1000000) (w : World) :
    Calls Tryz.prog 104 #[.string s] w fun e w' => e = .returned (.tuple #[.string (bs (takeB s.data.toList).1), .int .i64 ((takeB s.data.toList).2.1 : Int), .int .i64 ((takeB s.data.toList).2.2 : Int)]) ∧ Fr [] w w' := by
  show TakeOk s w (takeB s.data.toList)
  have hl := len_toList s
  cases hd : decG 0 s.data.toList with
  | none =>
    have hr : takeB s.data.toList = ([], 0, if s.data.toList = [] ∨ s.data.toList.length = 1 then 30 else 31) := by unfold takeB; rw [hd]
    rw [hr]
    by_cases h0 : s.size = 0
    · rw [if_pos (.inl (List.eq_nil_of_length_eq_zero (by omega)))]
      exact take_none_empty s w h0 hd
    · by_cases h1 : s.size = 1
      · rw [if_pos (.inr (by omega))]
        have hlt : 0 < s.size := by omega
        refine take_none_one s w h1 hlt ?_ hd
        have e := drop_at s 0 hlt
        rw [List.drop_zero] at e
        have e2 : s.data.toList.drop 1 = [] := List.drop_eq_nil_of_le (by omega)
        rw [e2] at e
        rw [e] at hd
        unfold decG at hd
        rw [if_neg (by omega), if_neg (by omega)] at hd
        by_cases hb : (s.data.toList[0]'(by simpa using hlt)).toNat < 128
        · rw [if_pos hb, if_neg (by omega)] at hd
          cases hd
        · have : (s[0]'hlt) = (s.data.toList[0]'(by simpa using hlt)) := rfl
          rw [this]; omega
      · rw [if_neg (by
          rintro (h | h)
          · exact h0 (by rw [← hl, h]; rfl)
          · omega)]
        exact take_none_more s w (by omega) hsz hd
  | some r =>
    obtain ⟨u, k⟩ := r
    have hk := decG_count _ _ _ _ hd
    have hk1 : 0 < k := by omega
    have hk2 : k ≤ s.size := by omega
    unfold takeB
    rw [hd]
    dsimp only
    by_cases h1 : unzz u < 0
    · rw [if_pos (.inl h1)]
      exact take_some_neg s w u k (unzz u) hsz hd rfl hk1 hk2 h1
    · by_cases h2 : 4096 < unzz u
      · rw [if_pos (.inr h2)]
        exact take_some_big s w u k (unzz u) hsz hd rfl hk1 hk2 (by omega) h2
      · rw [if_neg (by omega)]
        by_cases h3 : s.data.toList.length < k + (unzz u).toNat + 4
        · rw [if_pos h3]
          exact take_some_short s w u k (unzz u) hsz hd rfl hk1 hk2 (by omega) (by omega) (by omega)
        · rw [if_neg h3]
          have hn : unzz u = ((unzz u).toNat : Int) := by omega
          by_cases h4 : sealedB (s.data.toList.take (k + (unzz u).toNat)) = s.data.toList.take (k + (unzz u).toNat + 4)
          · rw [if_pos h4]
            exact take_some_ok s w u k _ hsz hd hn hk1 hk2 (by omega) (by omega) h4
          · rw [if_neg h4]
            exact take_some_differs s w u k _ hsz hd hn hk1 hk2 (by omega) (by omega) h4
end Go.Proofs.YtnlgmekkjibpmaaGreatDoor
/- DERIVED. All: frames, one behind the other. -/
namespace Go.Proofs.YtnlgmekkjibpmaaGreatDoor
open Go Go.RowKit Go.Shelf Go.Proofs.YtnlgmekkjibpmaaGreatDoorW.PrintWords
set_option linter.unusedVariables false
set_option linter.unusedSimpArgs false

def allB : Nat → List UInt8 → List (List UInt8) × Nat × Nat
  | 0, _ => ([], 0, 0)
  | f + 1, s => if s = [] then ([], 0, 0) else
    if (takeB s).2.2 = 0 then ((takeB s).1 :: (allB f (s.drop (takeB s).2.1)).1, (takeB s).2.1 + (allB f (s.drop (takeB s).2.1)).2.1, (allB f (s.drop (takeB s).2.1)).2.2)
    else ([], 0, (takeB s).2.2)
theorem takeB_pos (s : List UInt8) (h : (takeB s).2.2 = 0) : 5 ≤ (takeB s).2.1 ∧ (takeB s).2.1 ≤ s.length := by
  unfold takeB at h ⊢
  split at h
  · simp at h
    split at h <;> simp at h
  · rename_i u k hd
    have hk := decG_count _ _ _ _ hd
    split at h
    · simp at h
    · split at h
      · simp at h
      · split at h
        · rename_i h1 h2 h3
          rw [if_neg h1, if_neg h2, if_pos h3]
          dsimp only
          omega
        · simp at h
def strV (x : List UInt8) : Value := .string (bs x)
theorem Fr.toBelow {a b : World} (h : Fr [] a b) : Below a.heap.size a b := h.below _ (Nat.le_refl _) (by simp)
theorem Tryz.info9 : (Tryz.prog.info? 9).map (fun i => (i.zero, i.size, i.bytes)) = some (some (.string ⟨#[]⟩), 1, 16) := by kernel_rfl

def joinAll0 (q : List UInt8 × Nat × Nat) (r : List (List UInt8) × Nat × Nat) : List (List UInt8) × Nat × Nat := (q.1 :: r.1, q.2.1 + r.2.1, r.2.2)
theorem own_fr {w w1 : World} {S : List Nat} {base n size : Nat} {e : TypeId} {v : Value} {xs : List Value} (h : w.ownsRow base e size v n xs) (hf : Fr S w w1) (hs : ∀ k, k ∈ S → v.ownBlock ≠ some k) : w1.ownsRow base e size v n xs :=
  own_move h (fun k hk => hf.block k (own_lt h k hk) (fun hm => hs k hm hk))
theorem all_zero (f : Nat) (s : List UInt8) (h : (takeB s).2.2 = 0) (hs : s ≠ []) : allB (f + 1) s = joinAll0 (takeB s) (allB f (s.drop (takeB s).2.1)) := by
  rw [allB, if_neg hs, if_pos h]; rfl
theorem all_err (f : Nat) (s : List UInt8) (h : ¬ (takeB s).2.2 = 0) (hs : s ≠ []) : allB (f + 1) s = ([], 0, (takeB s).2.2) := by
  rw [allB, if_neg hs, if_neg h]
theorem allB_fuel : ∀ (f g : Nat) (s : List UInt8), s.length ≤ f → s.length ≤ g → allB f s = allB g s
  | 0, g, s, h, _ => by
    have : s = [] := List.eq_nil_of_length_eq_zero (by omega)
    subst this
    cases g <;> simp [allB]
  | f + 1, 0, s, _, h => by
    have : s = [] := List.eq_nil_of_length_eq_zero (by omega)
    subst this
    simp [allB]
  | f + 1, g + 1, s, h1, h2 => by
    unfold allB
    by_cases hs : s = []
    · rw [if_pos hs, if_pos hs]
    · rw [if_neg hs, if_neg hs]
      by_cases hc : (takeB s).2.2 = 0
      · rw [if_pos hc, if_pos hc]
        have hp := takeB_pos s hc
        rw [allB_fuel f g (s.drop (takeB s).2.1) (by rw [List.length_drop]; omega) (by rw [List.length_drop]; omega)]
      · rw [if_neg hc, if_neg hc]

def joinAll (L : List (List UInt8)) (U : Nat) (r : List (List UInt8) × Nat × Nat) : List (List UInt8) × Nat × Nat := (L ++ r.1, U + r.2.1, r.2.2)

set_option maxRecDepth 100000 in
set_option maxHeartbeats 1000000 in
theorem all_calls (s : ByteArray) (hsz : s.size ≤ 1000000) (w : World) :
    Calls Tryz.prog 82 #[.string s] w fun e w' => ∃ v, e = .returned (.tuple #[v, .int .i64 ((allB s.size s.data.toList).2.1 : Int), .int .i64 ((allB s.size s.data.toList).2.2 : Int)]) ∧
      w'.ownsRow w.heap.size 9 1 v (allB s.size s.data.toList).1.length ((allB s.size s.data.toList).1.map strV) ∧ Below w.heap.size w w' := by
  obtain ⟨i0, hi, hz0, hz1, hz2⟩ := info_parts Tryz.info9
  obtain ⟨R, hR⟩ : ∃ R, R = allB s.size s.data.toList := ⟨_, rfl⟩
  rw [← hR]
  have HR := Lib.hid hR
  clear hR
  go_enter Tryz.func82, Tryz.ntmps82
  go_wp2
  go_loopw [2, 3, 4] (fun v used e wr => ∃ (L : List (List UInt8)) (U : Nat), U ≤ s.size ∧ L.length ≤ U ∧ used = .int .i64 (U : Int) ∧ e = .int .i64 0 ∧ wr.ownsRow w.heap.size 9 1 v L.length (L.map strV) ∧ Below w.heap.size w wr ∧
      Hid (R = joinAll L U (allB (s.size - U) (s.data.toList.drop U)))) (fun _ used _ _ => s.size - (intOf used).toNat)
  case atStart => exact ⟨[], 0, by omega, by simp, rfl, rfl, World.ownsRow_nil _ _ _ _, Below.refl _ _, HR.out.trans (by simp [joinAll])⟩
  case round =>
    obtain ⟨L, U, hU, hL, rfl, rfl, hown, hB, HJ⟩ := hrel
    by_cases hlt : U < s.size
    · have hlt' : (U : Int) < (s.size : Int) := by omega
      go_wp2_with fail
      refine (take_calls (s.extract U s.size) (by rw [ByteArray.size_extract]; omega) _).mono ?_
      have hx : (s.extract U s.size).data.toList = s.data.toList.drop U := by
        simp [ByteArray.data_extract, Array.toList_extract, List.extract_eq_take_drop]
        rw [List.take_of_length_le (by rw [List.length_drop, len_toList]; omega)]
      rw [hx]
      have hpos := takeB_pos (s.data.toList.drop U)
      rw [List.length_drop, len_toList] at hpos
      have hJ2 : Hid (allB (s.size - U) (s.data.toList.drop U) = allB (s.size - U - 1 + 1) (s.data.toList.drop U)) := by rw [show s.size - U - 1 + 1 = s.size - U by omega]; exact rfl
      have hne : s.data.toList.drop U ≠ [] := by
        intro h; have := congrArg List.length h; rw [List.length_drop, len_toList] at this; simp at this; omega
      have HE : Hid (R = joinAll L U (allB (s.size - U - 1 + 1) (s.data.toList.drop U))) := HJ.out.trans (by rw [hJ2.out])
      obtain ⟨q, hq⟩ : ∃ q, q = takeB (s.data.toList.drop U) := ⟨_, rfl⟩
      rw [← hq] at hpos ⊢
      have HQ := Lib.hid hq
      clear hq hx
      obtain ⟨p, n, c⟩ := q
      rintro e w1 ⟨rfl, hf1⟩
      dsimp only at hpos ⊢
      obtain ⟨ci, hci⟩ : ∃ ci : Int, ci = (c : Int) := ⟨_, rfl⟩
      rw [← hci]
      have hown1 : w1.ownsRow w.heap.size 9 1 u2 L.length (L.map strV) := own_fr hown hf1 (by simp)
      have hB1 : Below w.heap.size w w1 := hB.trans (hf1.toBelow.mono hB.size)
      by_cases hc : ci = 0
      · subst hc
        have hc0 : c = 0 := by omega
        obtain ⟨hn1, hn2⟩ := hpos hc0
        have HC := Lib.hid hc0
        have HCI := Lib.hid hci
        have hne' := hne
        have HN := Lib.hid hne
        clear hc0 hci hpos hne hne' hJ2 hown hB
        go_wp2_with (at_builtin; refine wpList_append_own _ rfl _ _ 26 rfl w.heap.size 9 i0 (.string ⟨#[]⟩) 1 16 Tryz.underlying26 hi hz0 hz1 hz2 rfl (by decide) _ _ _ rfl (hown1.alloc _) ⟨w1.heap.size, 0, none⟩ 1 1 [.string (bs p)] rfl rfl (cell_one_new _ _ _) (by simp [Value.oneCell']) (by unfold maxLen; omega) (by omega) (by have := hB1.size; simp; omega) ?_; intro v' w2 hown2 hgrow _)
        go_roundw
        case rel =>
          refine ⟨L ++ [p], U + n, by omega, by simp; omega, by go_num, rfl, by simpa [strV] using hown2, ?_, ?_⟩
          · exact (hB1.alloc hB1.size _).grown hgrow (by have := hB1.size; simp; omega) (fun k hk => own_base hown1 k hk)
          · have e1 := HE.out
            rw [all_zero _ _ (by rw [← HQ.out]; exact HC.out) HN.out, ← HQ.out, List.drop_drop] at e1
            dsimp only at e1
            rw [allB_fuel (s.size - U - 1) (s.size - (U + n)) _ (by rw [List.length_drop, len_toList]; omega) (by rw [List.length_drop, len_toList]; omega)] at e1
            show Hid _
            refine e1.trans ?_
            simp [joinAll, joinAll0]
            omega
        case measure => simp [intOf]; omega
      · have hc0 : ¬ c = 0 := by omega
        have hcb : (ci == 0) = false := by simpa using hc
        have HC := Lib.hid hc0
        have HCI := Lib.hid hci
        have HN := Lib.hid hne
        clear hc0 hci hpos hne hJ2 hown hB
        go_wp2
        have e1 := HE.out
        rw [all_err _ _ (by rw [← HQ.out]; exact HC.out) HN.out, ← HQ.out] at e1
        have e2 : R = (L, U, c) := by rw [e1]; simp [joinAll]
        rw [e2]
        go_ret3
        exact ⟨_, by rw [HCI.out]; rfl, hown1, hB1⟩
    · have hU' : U = s.size := by omega
      have hnl : ¬ (U : Int) < (s.size : Int) := by omega
      have HU := Lib.hid hU'
      clear hU'
      go_wp2
      have e1 := HJ.out
      rw [HU.out, List.drop_eq_nil_of_le (by rw [len_toList]; omega)] at e1
      have e2 : R = (L, U, 0) := by rw [e1, Nat.sub_self, HU.out]; simp [joinAll, allB]
      rw [e2]
      go_ret3
      exact ⟨_, rfl, hown, hB⟩
end Go.Proofs.YtnlgmekkjibpmaaGreatDoor
