/- DERIVED. Contracts and plain laws under the statement: one merged text. -/
import Derived.Test.YtnlgmekkjibpmaaGreatDoorMc
import Derived.BigQuiet
/- DERIVED. wal: what is cut off a log's records (slices.DeleteFunc). -/
namespace Go.Proofs.YtnlgmekkjibpmaaGreatDoor
open Go Go.RowKit Go.Shelf Go.Proofs.YtnlgmekkjibpmaaGreatDoorW.PrintWords
set_option linter.unusedVariables false
set_option linter.unusedSimpArgs false

set_option maxRecDepth 100000 in
set_option maxHeartbeats 1000000 in
theorem del_calls (x : Ent) (c : Nat) (seq : Nat) (w : World) (hc : w.cell? ⟨c, 0, none⟩ = some (.int .i64 (seq : Int))) :
    Calls Tryz.prog 85 #[entV x, .pointer (some ⟨c, 0, none⟩)] w fun e w' => e = .returned (.bool (decide (x.1 ≤ seq))) ∧ Fr [] w w' := by
  have hc2 := fun o => cell_alloc w o hc
  obtain ⟨n, l⟩ := x
  have he : entV (n, l) = .agg #[.int .i64 (n : Int), .string (bs l)] := rfl
  rw [he]
  dsimp only
  obtain ⟨bl, hbl⟩ : ∃ bl, bl = bs l := ⟨_, rfl⟩
  rw [← hbl]
  clear hbl
  go_enter Tryz.func85, Tryz.ntmps85
  go_wp2
  go_ret
  exact ⟨rfl, (Fr.refl _ _).alloc _⟩

def AllGt (seq : Nat) (E : List Ent) : Prop := ∀ x ∈ E, seq < x.1
def IdxOk (seq : Nat) (E : List Ent) (i : Int) : Prop := (i = -1 ∧ AllGt seq E) ∨ ∃ k, ∃ h : k < E.length, i = (k : Int) ∧ (E[k]'h).1 ≤ seq ∧ AllGt seq (E.take k)
abbrev delF (c : Nat) : Value := .func (.func 85) #[] #[.pointer (some ⟨c, 0, none⟩)]

set_option maxRecDepth 100000 in
set_option maxHeartbeats 1000000 in
theorem idx_calls (g cap c : Nat) (E : List Ent) (seq : Nat) (w : World) (hl : E.length ≤ 1000000) (hblk : w.heap[g]? = some (.cells (entsC E).toArray 60 (0, 0))) (hc : w.cell? ⟨c, 0, none⟩ = some (.int .i64 (seq : Int))) :
    Calls Tryz.prog 109 #[.slice (some ⟨g, 0, none⟩) E.length cap, delF c] w fun e w' => ∃ i : Int, e = .returned (.int .i64 i) ∧ Fr [] w w' ∧
      IdxOk seq E i := by
  have HB := Lib.hid hblk
  have HC := Lib.hid hc
  have hgl := blk_lt hblk
  have hcl := World.block_lt_of_cell? w _ hc
  clear hblk hc
  go_enter Tryz.func109, Tryz.ntmps109
  go_wp2
  go_loopw [8] (fun i wr => ∃ k : Nat, k ≤ E.length ∧ i = .int .i64 (k : Int) ∧ Fr [] w wr ∧ Hid (AllGt seq (E.take k))) (fun i _ => E.length - (intOf i).toNat)
  case atStart => exact ⟨0, by omega, rfl, Fr.refl _ _, by intro x hx; simp at hx⟩
  case round =>
    obtain ⟨k, hk, rfl, hF, HJ⟩ := hrel
    by_cases hlt : k < E.length
    · have hb := (hF.block _ hgl (by simp)).trans HB.out
      have c0 : wr.cell? ⟨g, k * 2, none⟩ = some (.int .i64 ((E[k]'hlt).1 : Int)) := blk_cell hb (by rw [Nat.mul_comm]; simpa using entsC_at0 E k hlt)
      have c1 : wr.cell? ⟨g, k * 2 + 1, none⟩ = some (.string (bs (E[k]'hlt).2)) := blk_cell hb (by rw [Nat.mul_comm]; simpa using entsC_at1 E k hlt)
      have hcc : wr.cell? ⟨c, 0, none⟩ = some (.int .i64 (seq : Int)) := by rw [World.cell?_of_block (hF.block c hcl (by simp))]; exact HC.out
      obtain ⟨x, hx⟩ : ∃ x, x = E[k]'hlt := ⟨_, rfl⟩
      rw [← hx] at c0 c1
      have HX := Lib.hid hx
      clear hb hx
      go_wp2_with fail
      refine (del_calls x c seq _ hcc).mono ?_
      rintro e w3 ⟨rfl, hf3⟩
      by_cases hle : x.1 ≤ seq
      · have hd : decide (x.1 ≤ seq) = true := by simpa using by omega
        rw [hd]
        go_wp2
        go_ret
        exact ⟨k, rfl, hF.trans hf3, Or.inr ⟨k, hlt, rfl, by rw [← HX.out]; exact hle, HJ.out⟩⟩
      · have hd : decide (x.1 ≤ seq) = false := by simpa using by omega
        rw [hd]
        go_wp2
        case roundEnd =>
          refine ⟨⟨k + 1, by omega, by go_num, hF.trans hf3, ?_⟩, by simp [intOf]; omega⟩
          intro y hy
          rw [List.take_add_one, List.getElem?_eq_getElem hlt] at hy
          rcases List.mem_append.1 hy with hy | hy
          · exact HJ.out y hy
          · simp at hy
            rw [hy, ← HX.out]; omega
    · have hnl : ¬ (k : Int) < (E.length : Int) := by omega
      have hkn := Lib.hid (show k = E.length by omega)
      go_wp2
      go_ret
      refine ⟨-1, rfl, hF, Or.inl ⟨rfl, fun x hx => HJ.out x (by rw [hkn.out, List.take_length]; exact hx)⟩⟩
end Go.Proofs.YtnlgmekkjibpmaaGreatDoor
/- DERIVED. wal: slices.DeleteFunc, whole. -/
namespace Go.Proofs.YtnlgmekkjibpmaaGreatDoor
open Go Go.RowKit Go.Shelf Go.Proofs.YtnlgmekkjibpmaaGreatDoorW.PrintWords
set_option linter.unusedVariables false
set_option linter.unusedSimpArgs false

theorem entsC_take (E : List Ent) (k : Nat) (h : k ≤ E.length) : (entsC E).take (2 * k) = entsC (E.take k) := by
  have e : entsC E = entsC (E.take k) ++ entsC (E.drop k) := by rw [← entsC_append, List.take_append_drop]
  rw [e]
  exact List.take_left' (by rw [entsC_length, List.length_take, Nat.min_eq_left h])

theorem drop_next {a b : List Value} {j : Nat} (h : a.drop (2 * j) = b.drop (2 * j)) : a.drop (2 * (j + 1)) = b.drop (2 * (j + 1)) := by
  have := congrArg (List.drop 2) h
  simpa [List.drop_drop, Nat.mul_add] using this

theorem zeroEnt (w : World) : (zeroValue 60).run Tryz.prog w = .ok (.agg #[.int .i64 0, .string ⟨#[]⟩]) w := by kernel_rfl
theorem heap_setCells (g : Nat) (t : TypeId) : ∀ (vs : List Value) (o : Nat) (w : World) (cs : Array Value), w.heap[g]? = some (.cells cs t (0, 0)) →
    ∃ cs' : Array Value, (w.setCells g o vs).heap[g]? = some (.cells cs' t (0, 0)) ∧ cs'.toList.take o = cs.toList.take o ∧ Fr [g] w (w.setCells g o vs)
  | [], o, w, cs, h => ⟨cs, h, rfl, Fr.refl _ _⟩
  | v :: vs, o, w, cs, h => by
    obtain ⟨cs', h1, h2, h3⟩ := heap_setCells g t vs (o + 1) _ _ (blk_set h o v)
    refine ⟨cs', h1, ?_, ((Fr.refl [g] w).setCell (.inl (by simp)) v).trans h3⟩
    have := congrArg (List.take o) h2
    rw [List.take_take, List.take_take, Nat.min_eq_left (by omega), Array.toList_setIfInBounds, List.take_set_of_le (by omega)] at this
    exact this
theorem run_clear_ent (w : World) (g k n c : Nat) (cs : Array Value) (h : w.heap[g]? = some (.cells cs 60 (0, 0))) (hs : 2 * (k + n) ≤ cs.size) (hn : 0 < n) :
    ∃ w', (∀ ty, (Builtin.clear_ #[61] ty #[.slice (some ⟨g, k * 2, none⟩) n c]).run Tryz.prog w = .ok (.tuple #[]) w') ∧ Fr [g] w w' ∧ ∃ cs' : Array Value, w'.heap[g]? = some (.cells cs' 60 (0, 0)) ∧ cs'.toList.take (2 * k) = cs.toList.take (2 * k) := by
  have hz : (Builtin.zeroCells (Value.agg #[.int .i64 0, .string ⟨#[]⟩]).cells n).toList.length = n * 2 := by simp [Builtin.zeroCells, Value.cells]
  have h1 : ∀ v ∈ (Builtin.zeroCells (Value.agg #[.int .i64 0, .string ⟨#[]⟩]).cells n).toList, v.oneCell' = true := by
    intro v hv
    simp only [Builtin.zeroCells, Value.cells, Array.toList_map, List.mem_map] at hv
    obtain ⟨i, _, rfl⟩ := hv
    have : i % 2 = 0 ∨ i % 2 = 1 := by omega
    rcases this with e | e <;> simp [e, Value.oneCell']
  obtain ⟨cs', e1, e2, e3⟩ := heap_setCells g 60 (Builtin.zeroCells (Value.agg #[.int .i64 0, .string ⟨#[]⟩]).cells n).toList (k * 2) w cs h
  have hst := run_storeCells_cells (P := Tryz.prog) g (k * 2) (Builtin.zeroCells (Value.agg #[.int .i64 0, .string ⟨#[]⟩]).cells n).toList 0 w
    (fun j hj => by rw [hz] at hj; rw [blk_cell h (Array.getElem?_eq_getElem (by omega))]; rfl) (fun j _ => blk_free h _) h1
  simp only [Nat.add_zero] at hst
  refine ⟨_, fun ty => ?_, e3, cs', e1, by rw [Nat.mul_comm 2 k]; exact e2⟩
  obtain ⟨m, rfl⟩ : ∃ m, n = m + 1 := ⟨n - 1, by omega⟩
  simp [Builtin.clear_, run_underlying Tryz.underlying61, zeroEnt, hst]

def keptF (seq : Nat) (E : List Ent) : List Ent := E.filter fun x => decide (seq < x.1)
theorem keptF_all {seq : Nat} {E : List Ent} (h : AllGt seq E) : keptF seq E = E := List.filter_eq_self.2 fun x hx => by simpa using h x hx
theorem keptF_le (seq : Nat) (E : List Ent) : (keptF seq E).length ≤ E.length := List.length_filter_le _ _
theorem keptF_next {seq : Nat} {E : List Ent} {j : Nat} (h : j < E.length) : keptF seq (E.take (j + 1)) = if seq < (E[j]'h).1 then keptF seq (E.take j) ++ [E[j]'h] else keptF seq (E.take j) := by
  unfold keptF
  rw [List.take_add_one, List.getElem?_eq_getElem h, List.filter_append]
  by_cases hc : seq < (E[j]'h).1 <;> simp [hc]

set_option maxRecDepth 100000 in
set_option maxHeartbeats 1000000 in
theorem delf_calls (g c : Nat) (E : List Ent) (seq : Nat) (w : World) (hl : E.length ≤ 1000000) (hblk : w.heap[g]? = some (.cells (entsC E).toArray 60 (0, 0))) (hc : w.cell? ⟨c, 0, none⟩ = some (.int .i64 (seq : Int))) (hcg : c ≠ g) :
    Calls Tryz.prog 84 #[.slice (some ⟨g, 0, none⟩) E.length E.length, delF c] w fun e w' => e = .returned (.slice (some ⟨g, 0, none⟩) (keptF seq E).length E.length) ∧ Fr [g] w w' ∧
      ∃ cs : Array Value, w'.heap[g]? = some (.cells cs 60 (0, 0)) ∧ cs.toList.take (2 * (keptF seq E).length) = entsC (keptF seq E) := by
  have HB := Lib.hid hblk
  have HC := Lib.hid hc
  have hgl := blk_lt hblk
  have hcl := World.block_lt_of_cell? w _ hc
  obtain ⟨R, hR⟩ : ∃ R, R = keptF seq E := ⟨_, rfl⟩
  rw [← hR]
  have HR := Lib.hid hR
  clear hblk hc hR
  go_enter Tryz.func84, Tryz.ntmps84
  go_wp2_with fail
  refine (idx_calls g _ c E seq _ hl HB.out HC.out).mono ?_
  rintro e w1 ⟨i, rfl, hf1, hix⟩
  rcases hix with ⟨rfl, hall⟩ | ⟨k, hk, rfl, hle, hgt⟩
  · have e1 : R = E := HR.out.trans (keptF_all hall)
    subst e1
    go_wp2
    go_ret
    exact ⟨rfl, hf1.mono (by simp), _, (hf1.block _ hgl (by simp)).trans HB.out, by rw [← entsC_length]; simp⟩
  · have hb1 := (hf1.block _ hgl (by simp)).trans HB.out
    have hk0 : ¬ ((k : Int) = -1) := by omega
    have HLE := Lib.hid hle
    have HGT := Lib.hid hgt
    clear hle hgt
    go_wp2
    go_loopw [5, 6] (fun i j wr => ∃ (jn : Nat) (cs : Array Value), jn ≤ E.length ∧ i = .int .i64 ((keptF seq (E.take jn)).length : Int) ∧ j = .int .i64 (jn : Int) ∧ (keptF seq (E.take jn)).length < jn ∧ wr.heap[g]? = some (.cells cs 60 (0, 0)) ∧ cs.size = 2 * E.length ∧ Fr [g] w wr ∧
        Hid (cs.toList.take (2 * (keptF seq (E.take jn)).length) = entsC (keptF seq (E.take jn)) ∧ cs.toList.drop (2 * jn) = (entsC E).drop (2 * jn))) (fun _ j _ => E.length - (intOf j).toNat)
    case atStart =>
      have e0 : keptF seq (E.take k) = E.take k := keptF_all HGT.out
      have e1 : keptF seq (E.take (k + 1)) = E.take k := by rw [keptF_next hk, if_neg (by have := HLE.out; omega), e0]
      have el : (keptF seq (E.take (k + 1))).length = k := by rw [e1, List.length_take]; omega
      refine ⟨k + 1, (entsC E).toArray, by omega, by rw [el], by go_num, by omega, hb1, by simp [entsC_length], hf1.mono (by simp), ?_, rfl⟩
      rw [e1, List.length_take, Nat.min_eq_left (by omega)]
      exact entsC_take E k (by omega)
    case round =>
      obtain ⟨jn, cs, hj, rfl, rfl, hij, hcs, hsz, hF, HT⟩ := hrel
      by_cases hlt : jn < E.length
      · have HCS := Lib.hid hcs
        have q0 : cs[jn * 2]? = some (.int .i64 ((E[jn]'hlt).1 : Int)) := by
          have := congrArg (fun l => l[0]?) HT.out.2
          simp only [List.getElem?_drop, Nat.add_zero] at this
          rw [entsC_at0 E jn hlt] at this
          rw [Nat.mul_comm]; simpa using this
        have q1 : cs[jn * 2 + 1]? = some (.string (bs (E[jn]'hlt).2)) := by
          have := congrArg (fun l => l[1]?) HT.out.2
          simp only [List.getElem?_drop] at this
          rw [entsC_at1 E jn hlt] at this
          rw [Nat.mul_comm]; simpa using this
        have c0 := blk_cell hcs q0
        have c1 := blk_cell hcs q1
        have hcc : wr.cell? ⟨c, 0, none⟩ = some (.int .i64 (seq : Int)) := by rw [World.cell?_of_block (hF.block c hcl (by simpa using hcg))]; exact HC.out
        obtain ⟨x, hx⟩ : ∃ x, x = E[jn]'hlt := ⟨_, rfl⟩
        have HX := Lib.hid hx
        rw [← hx] at c0 c1
        clear hx hcs q0 q1
        obtain ⟨il, hil⟩ : ∃ il, il = (keptF seq (E.take jn)).length := ⟨_, rfl⟩
        have hnx := @keptF_next seq E jn hlt
        rw [← HX.out] at hnx
        have HNX := Lib.hid hnx
        rw [← hil] at hij HT ⊢
        have HIL := Lib.hid hil
        clear hnx hil
        have hin : il < E.length := by omega
        go_wp2_with fail
        have ha0 := heap_new wr (.cells #[.int .i64 (x.1 : Int), .string (bs x.2)] 60)
        have hcc2 := cell_alloc wr (.cells #[.int .i64 (x.1 : Int), .string (bs x.2)] 60) hcc
        have hg2 := blk_alloc wr (.cells #[.int .i64 (x.1 : Int), .string (bs x.2)] 60) HCS.out
        have hF2 := hF.alloc (.cells #[.int .i64 (x.1 : Int), .string (bs x.2)] 60)
        refine (del_calls x c seq _ hcc2).mono ?_
        rintro e w3 ⟨rfl, hf3⟩
        have hb3 := (hf3.block _ (blk_lt ha0) (by simp)).trans ha0
        have hg3 := (hf3.block _ (blk_lt hg2) (by simp)).trans hg2
        have hF3 : Fr [g] w w3 := hF2.trans (hf3.mono (by simp))
        have HF3 := Lib.hid hF3
        have d0 : w3.cell? ⟨wr.heap.size, 0, none⟩ = some (.int .i64 (x.1 : Int)) := blk_cell hb3 rfl
        have d1 : w3.cell? ⟨wr.heap.size, 1, none⟩ = some (.string (bs x.2)) := blk_cell hb3 rfl
        clear ha0 hcc2 hg2 hF2 hf3 hb3 hF3
        by_cases hle : x.1 ≤ seq
        · have hd : decide (x.1 ≤ seq) = true := by simpa using by omega
          rw [hd]
          have e1 := HNX.out
          rw [if_neg (by omega)] at e1
          have HE1 := Lib.hid e1
          clear e1 HNX
          go_wp2
          refine ⟨?_, ?measure⟩
          iterate 23 apply Exists.intro
          refine ⟨?rel, by rfl⟩
          case rel =>
            refine ⟨jn + 1, cs, by omega, ?_, by go_num, ?_, hg3, hsz, HF3.out, ?_⟩
            · rw [HE1.out, HIL.out]
            · rw [HE1.out, ← HIL.out]; omega
            · rw [HE1.out, ← HIL.out]
              exact ⟨by rw [HT.out.1], drop_next HT.out.2⟩
          case measure => simp [intOf]; omega
        · have hd : decide (x.1 ≤ seq) = false := by simpa using by omega
          rw [hd]
          have e1 := HNX.out
          rw [if_pos (by omega)] at e1
          have HE1 := Lib.hid e1
          have l0 : il * 2 < cs.size := by rw [hsz]; omega
          have l1 : il * 2 + 1 < cs.size := by rw [hsz]; omega
          have c0 : w3.cell? ⟨g, il * 2, none⟩ = some (cs[il * 2]'l0) := blk_cell hg3 (Array.getElem?_eq_getElem l0)
          have f0 := blk_free hg3 (il * 2)
          have hst := fun u => blk_set hg3 (il * 2) u
          have c1 : ∀ u, (w3.setCell ⟨g, il * 2, none⟩ u).cell? ⟨g, il * 2 + 1, none⟩ = some (cs[il * 2 + 1]'l1) := fun u => blk_cell (hst u) (by
            rw [Array.getElem?_setIfInBounds_ne (by omega), Array.getElem?_eq_getElem l1])
          have f1 := fun u => blk_free (hst u) (il * 2 + 1)
          clear e1 HNX
          go_wp2
          refine ⟨?_, ?measure⟩
          iterate 23 apply Exists.intro
          refine ⟨?rel, by rfl⟩
          case rel =>
            refine ⟨jn + 1, _, by omega, ?_, by go_num, ?_, blk_set (hst _) _ _, by simpa using hsz, (HF3.out.setCell (.inl (by simp)) _).setCell (.inl (by simp)) _, ?_⟩
            · rw [HE1.out, List.length_append, ← HIL.out]; go_num
            · rw [HE1.out, List.length_append, ← HIL.out]; simp; omega
            · rw [HE1.out, List.length_append, ← HIL.out]
              refine ⟨?_, ?_⟩
              · rw [show [x].length = 1 from rfl, set_two cs _ il HT.out.1 l1, entsC_append]
                simp [entsC, entC]
              · rw [Array.toList_setIfInBounds, Array.toList_setIfInBounds, List.drop_set_of_lt (by omega), List.drop_set_of_lt (by omega)]
                exact drop_next HT.out.2
          case measure => simp [intOf]; omega
      · have hjn : jn = E.length := by omega
        subst hjn
        have hnl : ¬ ((E.length : Nat) : Int) < (E.length : Int) := by omega
        rw [List.take_length, ← HR.out] at hij HT ⊢
        have HT1 := Lib.hid HT.out.1
        clear HT
        obtain ⟨w4, hcl4, hF4, cs4, hcs4, htk4⟩ := run_clear_ent wr g R.length (E.length - R.length) (E.length - R.length) cs hcs (by omega) (by omega)
        go_wp2_with fail
        go_ret
        exact ⟨rfl, hF.trans hF4, cs4, hcs4, htk4.trans HT1.out⟩
end Go.Proofs.YtnlgmekkjibpmaaGreatDoor
/- DERIVED. wal: log. -/
namespace Go.Proofs.YtnlgmekkjibpmaaGreatDoor
open Go Go.RowKit Go.Shelf Go.Proofs.YtnlgmekkjibpmaaGreatDoorW.PrintWords
set_option linter.unusedVariables false
set_option linter.unusedSimpArgs false

theorem EV.mono {k l e : Nat} {v : Value} (h : EV k v e) (hk : k ≤ l) : EV l v e := by
  cases h with
  | none => exact .none l
  | chain ds e h1 h2 h3 => exact .chain l ds e h1 (by omega) h3
/-- The order of a log's entries. -/
def Ordered (E : List Ent) (seq : Nat) : Prop := ∀ i, (h : i < E.length) → (E[i]'h).1 = (E[0]'(by omega)).1 + i ∧ 1 ≤ (E[i]'h).1 ∧ (E[0]'(by omega)).1 ≤ seq + 1
open Classical in
noncomputable def Dk.log (D : Dk) (seq : Nat) : List Ent × Nat × Dk :=
  if (D.load .log).2.2 ≠ 0 then ([], (D.load .log).2.2, D)
  else match parseB (allF (D.load .log).1).1 with
    | none => ([], 110, D)
    | some E =>
      if (allF (D.load .log).1).2.2 = 31 then ([], 110, D)
      else if ¬ Ordered E seq then ([], 110, D)
      else if (allF (D.load .log).1).2.2 ≠ 0 then
        (if (D.renew .log ((D.load .log).1.take (allF (D.load .log).1).2.1)).1 ≠ 0 then ([], D.renew .log ((D.load .log).1.take (allF (D.load .log).1).2.1)) else (keptF seq E, D.renew .log ((D.load .log).1.take (allF (D.load .log).1).2.1)))
      else (keptF seq E, 0, D)

def LogRow (K : List Ent) (w : World) (v : Value) : Prop :=
  ∃ (g c : Nat) (cs : Array Value), v = .slice (some ⟨g, 0, none⟩) K.length c ∧ w.heap[g]? = some (.cells cs 60 (0, 0)) ∧ cs.toList.take (2 * K.length) = entsC K
/-- What log answers. -/
def Logged (R : List Ent × Nat × Dk) (w : World) (v r : Value) : Prop := EV 2 r R.2.1 ∧ (R.2.1 = 0 → LogRow R.1 w v)

theorem parseB_mem : ∀ (L : List (List UInt8)) (E : List Ent), parseB L = some E → ∀ x ∈ E, x.1 ≤ 1099511627776
  | [], E, h, x, hx => by cases h; cases hx
  | s :: L, E, h, x, hx => by
    unfold parseB at h
    cases hb : entB s with
    | none => rw [hb] at h; cases h
    | some y =>
      rw [hb] at h
      cases hp : parseB L with
      | none => rw [hp] at h; cases h
      | some F =>
        rw [hp] at h
        cases h
        rcases List.mem_cons.1 hx with rfl | hx
        · unfold entB at hb
          cases hd : decG 0 s with
          | none => rw [hd] at hb; cases hb
          | some uk =>
            obtain ⟨u, k⟩ := uk
            rw [hd] at hb
            dsimp only at hb
            split at hb
            · cases hb
            · cases hb
              dsimp only
              omega
        · exact parseB_mem L F hp x hx

theorem doing_ev (r : Value) (e : Nat) (h : EV 1 r e) (he : e ≠ 0) : EV 2 (.iface 74 (.agg #[.string ⟨#[109, 101, 110, 100]⟩, r])) e := by
  cases h with
  | none => exact absurd rfl he
  | chain ds e h1 h2 h3 =>
    have : EV 2 (chainV (⟨#[109, 101, 110, 100]⟩ :: ds) e) e := .chain 2 _ e (by simp) (by simp; omega) h3
    unfold chainV at this
    exact this
end Go.Proofs.YtnlgmekkjibpmaaGreatDoor
/- DERIVED. wal: log, its walk. -/
namespace Go.Proofs.YtnlgmekkjibpmaaGreatDoor
open Go Go.RowKit Go.Shelf Go.Proofs.YtnlgmekkjibpmaaGreatDoorW.PrintWords
set_option linter.unusedVariables false
set_option linter.unusedSimpArgs false

set_option maxRecDepth 100000 in
set_option maxHeartbeats 2000000 in
theorem log_calls (p m : Nat) (D : Dk) (seq : Nat) (hq : seq ≤ 1099511627776) (w : World) (h : DkIs w p m D) (h2 : D.acts ≤ 900000) :
    Calls Tryz.prog 63 #[.pointer (some ⟨p, 0, none⟩), .int .i64 (seq : Int)] w fun ev w' => ∃ v r, ev = .returned (.tuple #[v, r]) ∧ Logged (D.log seq) w' v r ∧ DkIs w' p m (D.log seq).2.2 ∧ Fr [p, m] w w' := by
  have H := Lib.hid h
  have hdl := h.lt
  have hll := load_len D .log h.wf
  obtain ⟨R, hR⟩ : ∃ R, R = D.log seq := ⟨_, rfl⟩
  rw [← hR]
  unfold Dk.log at hR
  have HR := Lib.hid hR
  clear h hR
  go_enter Tryz.func63, Tryz.ntmps63
  go_wp2_with fail
  obtain ⟨w0, hw0⟩ : ∃ w0, w0 = w.alloc (.cells #[.int .i64 (seq : Int)] 3) := ⟨_, rfl⟩
  have hf0 : Fr [] w w0 := by rw [hw0]; exact (Fr.refl _ _).alloc _
  have hb0 : w0.heap[w.heap.size]? = some (.cells #[.int .i64 (seq : Int)] 3 (0, 0)) := by rw [hw0]; exact heap_new _ _
  have hl0 := blk_lt hb0
  rw [← hw0]
  clear hw0
  have HD0 := Lib.hid (H.out.fr hf0 (by simp) (by simp))
  refine (load_calls p m D .log _ (isNm .log) _ HD0.out).mono ?_
  obtain ⟨Q, hQ⟩ : ∃ Q, Q = D.load .log := ⟨_, rfl⟩
  rw [← hQ] at HR hll ⊢
  clear hQ
  obtain ⟨s, ok, ec⟩ := Q
  dsimp only at HR hll ⊢
  rintro e w1 ⟨v1, rfl, hev, hf1⟩
  have HD1 := Lib.hid (HD0.out.fr hf1 (by simp) (by simp))
  have hb1 := (hf1.block _ hl0 (by simp)).trans hb0
  have hF1 := hf0.trans hf1
  have HF1 := Lib.hid hF1
  clear hf0 hf1 hb0 HD0 hF1
  have hsl := HF1.out.size
  rcases hev.ne with ⟨rfl, rfl⟩ | ⟨he, tt, u, rfl⟩
  · have e1 := HR.out
    rw [if_neg (by simp)] at e1
    have HR1 := Lib.hid e1
    clear HR e1 hev
    have hll' : s.length ≤ 1000000 := by omega
    have hends : (allF s).1.length ≤ s.length ∧ (∀ x ∈ (allF s).1, x.length ≤ s.length) ∧ (allF s).2.1 ≤ s.length := all_ends s.length s
    go_wp2_with fail
    refine (allF_calls s hll' _).mono ?_
    obtain ⟨Q, hQ⟩ : ∃ Q, Q = allF s := ⟨_, rfl⟩
    rw [← hQ] at HR1 hends ⊢
    clear hQ
    obtain ⟨L, used, ae⟩ := Q
    dsimp only at HR1 hends ⊢
    rintro e w2 ⟨v2, rfl, hrow, hb2⟩
    have hF2 : Fr [] w w2 := HF1.out.trans (Fr.of_below hb2 _)
    have hblk2 := (hb2.block _ (blk_lt hb1)).trans hb1
    have HROW := Lib.hid hrow
    have HF2 := Lib.hid hF2
    have HD2 := Lib.hid (HD1.out.fr (Fr.of_below hb2 []) (by simp) (by simp))
    have HP := Lib.hid (show ∀ j, (h : j < L.length) → (L[j]'h).length ≤ 1000000 from fun j h => Nat.le_trans (hends.2.1 _ (List.getElem_mem h)) hll')
    have hLm : L.length ≤ 1000000 := by omega
    clear hrow hb2 hF2 hb1 HD1
    go_wp2_with fail
    refine (parse_calls _ _ L hLm HP.out _ HROW.out).mono ?_
    rintro e w3 ⟨v3, r3, rfl, hb3, hpar⟩
    have hF3 : Fr [] w w3 := HF2.out.trans (Fr.of_below hb3 _)
    have hblk3 := (hb3.block _ (blk_lt hblk2)).trans hblk2
    have HF3 := Lib.hid hF3
    have HD3 := Lib.hid (HD2.out.fr (Fr.of_below hb3 []) (by simp) (by simp))
    have hm2 := HF2.out.size
    have hg0 := blk_lt hblk2
    clear hF3 hb3 hblk2 HD2 HF2 HF1
    rcases hpar with ⟨hp, rfl, hev3⟩ | ⟨E, g, hp, hE, rfl, rfl, hg, hblk⟩
    · rw [hp] at HR1
      have e1 := HR1.out
      dsimp only at e1
      subst e1
      rcases hev3.ne with ⟨_, h0⟩ | ⟨_, tt, u, rfl⟩
      · cases h0
      go_wp2_with fail
      refine (failed_any _ 110 _).mono ?_
      rintro e w6 ⟨v5, rfl, hev5, rfl⟩
      go_wp2
      go_ret2
      exact ⟨_, _, rfl, ⟨hev5.mono (by omega), fun h => by cases h⟩, HD3.out, HF3.out.mono (by simp)⟩
    · rw [hp] at HR1
      have e1 := HR1.out
      dsimp only at e1
      have HR2 := Lib.hid e1
      clear HR1 e1
      by_cases h31 : ae = 31
      · have e1 := HR2.out
        rw [if_pos h31] at e1
        subst e1
        subst h31
        go_wp2_with fail
        refine (failed_any _ 110 _).mono ?_
        rintro e w6 ⟨v5, rfl, hev5, rfl⟩
        go_wp2
        go_ret2
        exact ⟨_, _, rfl, ⟨hev5.mono (by omega), fun h => by cases h⟩, HD3.out, HF3.out.mono (by simp)⟩
      · have e1 := HR2.out
        rw [if_neg h31] at e1
        have HR3 := Lib.hid e1
        clear HR2 e1
        have hai' : ((ae : Int) == 31) = false := by simpa using (by omega : ¬ (ae : Int) = 31)
        have HMEM := Lib.hid (parseB_mem L E hp)
        have HBLK := Lib.hid hblk
        have HBLQ := Lib.hid hblk3
        have hgl := blk_lt hblk
        have hql := blk_lt hblk3
        have hEm : E.length ≤ 1000000 := by omega
        have hneq : w.heap.size ≠ g := by omega
        clear hblk hblk3 h31 hp
        go_wp2
        go_loopw [45] (fun i wr => ∃ k : Nat, k ≤ E.length ∧ i = .int .i64 (k : Int) ∧ Fr [] w3 wr ∧ Hid (∀ j, (h : j < E.length) → j < k → (E[j]'h).1 = (E[0]'(by omega)).1 + j ∧ 1 ≤ (E[j]'h).1 ∧ (E[0]'(by omega)).1 ≤ seq + 1)) (fun i _ => E.length - (intOf i).toNat)
        case atStart => exact ⟨0, by omega, rfl, Fr.refl _ _, fun j h h0 => by omega⟩
        case round =>
          obtain ⟨k, hk, rfl, hF, HJ⟩ := hrel
          by_cases hlt : k < E.length
          · have h0 : 0 < E.length := by omega
            have hb := (hF.block _ hgl (by simp)).trans HBLK.out
            have hbq := (hF.block _ hql (by simp)).trans HBLQ.out
            have c0 : wr.cell? ⟨g, k * 2, none⟩ = some (.int .i64 ((E[k]'hlt).1 : Int)) := blk_cell hb (by rw [Nat.mul_comm]; simpa using entsC_at0 E k hlt)
            have c1 : wr.cell? ⟨g, k * 2 + 1, none⟩ = some (.string (bs (E[k]'hlt).2)) := blk_cell hb (by rw [Nat.mul_comm]; simpa using entsC_at1 E k hlt)
            have cz : wr.cell? ⟨g, 0, none⟩ = some (.int .i64 ((E[0]'h0).1 : Int)) := blk_cell hb (by simpa using entsC_at0 E 0 h0)
            have cq : wr.cell? ⟨w.heap.size, 0, none⟩ = some (.int .i64 (seq : Int)) := blk_cell hbq rfl
            have bx := HMEM.out _ (List.getElem_mem hlt)
            have bz := HMEM.out _ (List.getElem_mem h0)
            obtain ⟨y, hy⟩ : ∃ y, y = (E[k]'hlt).2 := ⟨_, rfl⟩
            rw [← hy] at c1
            obtain ⟨xn, hx⟩ : ∃ xn, xn = (E[k]'hlt).1 := ⟨_, rfl⟩
            obtain ⟨zn, hz⟩ : ∃ zn, zn = (E[0]'h0).1 := ⟨_, rfl⟩
            rw [← hx] at c0 bx
            rw [← hz] at cz bz
            have HX := Lib.hid hx
            have HZ := Lib.hid hz
            have cz2 := fun o => cell_alloc wr o cz
            have cq2 := fun o => cell_alloc wr o cq
            have cx2 : (wr.alloc (.cells #[.int .i64 (xn : Int), .string (bs y)] 60)).cell? ⟨wr.heap.size, 0, none⟩ = some (.int .i64 (xn : Int)) := blk_cell (heap_new _ _) rfl
            clear hb hbq hx hz hy
            have hh0 : (0 : Int) < (L.length : Int) := by omega
            have hh1 : 0 < L.length := by omega
            have w1 : IntKind.i64.wrap ((zn : Int) + (k : Int)) = (zn : Int) + (k : Int) := IntWalk.i64_in _ (by omega)
            have w2' : IntKind.i64.wrap ((seq : Int) + 1) = (seq : Int) + 1 := IntWalk.i64_in _ (by omega)
            by_cases g1 : xn = zn + k
            · have t1 : ((xn : Int) != (zn : Int) + (k : Int)) = false := by rw [g1]; simp
              have G1 := Lib.hid g1
              clear g1
              by_cases g2 : xn < 1
              · have t2 : (xn : Int) < 1 := by omega
                have G2 := Lib.hid g2
                have e1 := HR3.out
                rw [if_pos (fun hO => by have := hO k hlt; rw [← HX.out, ← HZ.out] at this; omega)] at e1
                subst e1
                clear HR3
                go_wp2_with fail
                go_quiet (fail)
                go_wp2_with fail
                refine (failed_any _ 110 _).mono ?_
                rintro e w6 ⟨v5, rfl, hev5, rfl⟩
                go_wp2
                go_ret2
                exact ⟨_, _, rfl, ⟨hev5.mono (by omega), fun h => by cases h⟩, HD3.out.fr (((hF.alloc _).drewN _)) (by simp) (by simp), (HF3.out.trans ((hF.alloc _).drewN _)).mono (by simp)⟩
              · have t2 : decide ((xn : Int) < 1) = false := by simpa using by omega
                by_cases g3 : seq + 1 < zn
                · have t3 : (seq : Int) + 1 < (zn : Int) := by omega
                  have e1 := HR3.out
                  rw [if_pos (fun hO => by have := hO k hlt; rw [← HX.out, ← HZ.out] at this; omega)] at e1
                  subst e1
                  clear HR3
                  go_wp2_with fail
                  go_quiet (fail)
                  go_wp2_with fail
                  refine (failed_any _ 110 _).mono ?_
                  rintro e w6 ⟨v5, rfl, hev5, rfl⟩
                  go_wp2
                  go_ret2
                  exact ⟨_, _, rfl, ⟨hev5.mono (by omega), fun h => by cases h⟩, HD3.out.fr (((hF.alloc _).drewN _)) (by simp) (by simp), (HF3.out.trans ((hF.alloc _).drewN _)).mono (by simp)⟩
                · have t3 : decide ((seq : Int) + 1 < (zn : Int)) = false := by simpa using by omega
                  go_wp2_with fail
                  go_quiet (fail)
                  go_wp2_with fail
                  refine ⟨⟨k + 1, by omega, by go_num, (hF.alloc _).drewN _, ?_⟩, by simp [intOf]; omega⟩
                  intro j h hj
                  by_cases hjk : j < k
                  · exact HJ.out j h hjk
                  · obtain rfl : j = k := by omega
                    rw [← HX.out, ← HZ.out]
                    have := G1.out
                    simp only [decide_eq_false_iff_not] at t2 t3
                    omega
            · have t1 : ((xn : Int) != (zn : Int) + (k : Int)) = true := by simpa using by omega
              have e1 := HR3.out
              rw [if_pos (fun hO => by have := hO k hlt; rw [← HX.out, ← HZ.out] at this; omega)] at e1
              subst e1
              clear HR3
              go_wp2_with fail
              go_quiet (fail)
              go_wp2_with fail
              refine (failed_any _ 110 _).mono ?_
              rintro e w6 ⟨v5, rfl, hev5, rfl⟩
              go_wp2
              go_ret2
              exact ⟨_, _, rfl, ⟨hev5.mono (by omega), fun h => by cases h⟩, HD3.out.fr (((hF.alloc _).drewN _)) (by simp) (by simp), (HF3.out.trans ((hF.alloc _).drewN _)).mono (by simp)⟩
          · have hkn : k = E.length := by omega
            have hO : Ordered E seq := fun j h => HJ.out j h (by omega)
            have e1 := HR3.out
            rw [if_neg (by simpa using hO)] at e1
            have HR4 := Lib.hid e1
            have hbg := (hF.block _ hgl (by simp)).trans HBLK.out
            have hbq := (hF.block _ hql (by simp)).trans HBLQ.out
            have HDr := Lib.hid (HD3.out.fr hF (by simp) (by simp))
            have HFr := Lib.hid (HF3.out.trans hF)
            have hul := hends.2.2
            clear HR3 e1 HJ hF HF3 HD3 HMEM HROW HP hO
            have HBG := Lib.hid hbg
            have HBQ := Lib.hid hbq
            clear hbg hbq
            have hnl : ¬ (k : Int) < (L.length : Int) := by omega
            by_cases hae : ae = 0
            · subst hae
              have e1 := HR4.out
              rw [if_neg (by simp)] at e1
              subst e1
              clear HR4
              have hdf := delf_calls g w.heap.size E seq wr hEm HBG.out (blk_cell HBQ.out rfl) hneq
              rw [hE] at hdf
              go_wp2_with fail
              refine hdf.mono ?_
              rintro e w4 ⟨rfl, hf4, cs4, hcs4, htk4⟩
              go_wp2_with fail
              go_ret2
              exact ⟨_, _, rfl, ⟨.none 2, fun _ => ⟨g, _, cs4, rfl, hcs4, htk4⟩⟩, HDr.out.fr hf4 (by simp; omega) (by simp; omega), ⟨hf4.os.trans HFr.out.os, hf4.tape.trans HFr.out.tape, hf4.output.trans HFr.out.output, Nat.le_trans HFr.out.size hf4.size, fun b hb hn => (hf4.block b (Nat.lt_of_lt_of_le hb HFr.out.size) (by simp; omega)).trans (HFr.out.block b hb (by simp))⟩⟩
            · have e1 := HR4.out
              rw [if_pos hae] at e1
              have HR5 := Lib.hid e1
              clear HR4 e1
              have hae' : ((ae : Int) == 0) = false := by simpa using (by omega : ¬ (ae : Int) = 0)
              have hui : (used : Int) ≤ ((bs s).size : Int) := by rw [bs_size]; omega
              have hu0 : (0 : Int) ≤ (used : Int) := by omega
              have hcut : ((bs s).extract 0 used).data.toList = s.take used := by
                have := ext_bs (bs s) 0 used
                rw [Nat.zero_add] at this
                rw [this, bs_toList, bs_toList, List.drop_zero]
              have hcs : ((bs s).extract 0 used).size ≤ 140737488355328 := by rw [ByteArray.size_extract, bs_size]; omega
              have hrn := renew_calls p m D .log (bs Nm.log.l) ((bs s).extract 0 used) (isNm .log) wr HDr.out h2 hcs
              rw [hcut] at hrn
              obtain ⟨RR, hRR⟩ : ∃ RR, RR = D.renew .log (s.take used) := ⟨_, rfl⟩
              rw [← hRR] at HR5 hrn
              clear hcut hRR
              go_wp2_with fail
              refine hrn.mono ?_
              clear hrn
              rintro e w4 ⟨v4, rfl, hev4, hD4, hf4⟩
              have hgp : g ≠ p ∧ g ≠ m := by omega
              have hqp : w.heap.size ≠ p ∧ w.heap.size ≠ m := by omega
              have hbg4 := (hf4.block _ (blk_lt HBG.out) (by simp; omega)).trans HBG.out
              have hbq4 := (hf4.block _ (blk_lt HBQ.out) (by simp; omega)).trans HBQ.out
              have hF4 : Fr [p, m] w w4 := (HFr.out.mono (by simp)).trans hf4
              rcases hev4.ne with ⟨rfl, he⟩ | ⟨he, tt, u, rfl⟩
              · have e1 := HR5.out
                rw [if_neg (by simpa using he)] at e1
                subst e1
                clear HR5
                have hdf := delf_calls g w.heap.size E seq w4 hEm hbg4 (blk_cell hbq4 rfl) hneq
                rw [hE] at hdf
                clear hbg4 hbq4
                go_wp2_with fail
                refine hdf.mono ?_
                rintro e w5 ⟨rfl, hf5, cs4, hcs4, htk4⟩
                go_wp2_with fail
                go_ret2
                exact ⟨_, _, rfl, ⟨by rw [he]; exact .none 2, fun _ => ⟨g, _, cs4, rfl, hcs4, htk4⟩⟩, hD4.fr hf5 (by simp; omega) (by simp; omega), ⟨hf5.os.trans hF4.os, hf5.tape.trans hF4.tape, hf5.output.trans hF4.output, Nat.le_trans hF4.size hf5.size, fun b hb hn => (hf5.block b (Nat.lt_of_lt_of_le hb hF4.size) (by simp; omega)).trans (hF4.block b hb hn)⟩⟩
              · have e1 := HR5.out
                rw [if_pos he] at e1
                subst e1
                clear HR5 hbg4 hbq4
                go_wp2_with fail
                go_ret2
                exact ⟨_, _, rfl, ⟨doing_ev _ _ hev4 he, fun h => absurd h he⟩, hD4, hF4⟩
  · have e1 := HR.out
    rw [if_pos he] at e1
    subst e1
    go_wp2
    go_ret2
    exact ⟨_, _, rfl, ⟨hev.mono (by omega), fun h => absurd h he⟩, HD1.out, HF1.out.mono (by simp)⟩
end Go.Proofs.YtnlgmekkjibpmaaGreatDoor
/- DERIVED. wal: open. -/
namespace Go.Proofs.YtnlgmekkjibpmaaGreatDoor
open Go Go.RowKit Go.Shelf Go.Proofs.YtnlgmekkjibpmaaGreatDoorW.PrintWords
set_option linter.unusedVariables false
set_option linter.unusedSimpArgs false

theorem snap_le (D : Dk) : D.snap.1.1 ≤ 1099511627776 := by
  unfold Dk.snap
  split
  · simp
  · split
    · simp
    · cases hp : parseB (allF (D.load .snap).1).1 with
      | none => simp
      | some E =>
        cases E with
        | nil => simp
        | cons x E => exact parseB_mem _ _ hp x (by simp)

noncomputable def Dk.opn1 (D : Dk) : Ent × List Ent × Nat × Dk :=
  if D.snap.2 ≠ 0 then (D.snap.1, [], D.snap.2, D) else (D.snap.1, D.log D.snap.1.1)
noncomputable def Dk.opn (D : Dk) : Ent × List Ent × Nat × Dk :=
  if (D.f .new).isSome then (if (D.remove .new).1 ≠ 0 then ((0, []), [], D.remove .new) else (D.remove .new).2.opn1)
  else D.opn1

def Opened (R : Ent × List Ent × Nat × Dk) (w : World) (v r : Value) : Prop := EV 2 r R.2.2.1 ∧ (R.2.2.1 = 0 → LogRow R.2.1 w v)

set_option maxRecDepth 100000 in
set_option maxHeartbeats 2000000 in
theorem open_calls (p m : Nat) (D : Dk) (w : World) (h : DkIs w p m D) (h2 : D.acts ≤ 800000) :
    Calls Tryz.prog 33 #[.pointer (some ⟨p, 0, none⟩)] w fun ev w' => ∃ v r, ev = .returned (.tuple #[entV D.opn.1, v, r]) ∧ Opened D.opn w' v r ∧ DkIs w' p m D.opn.2.2.2 ∧ Fr [p, m] w w' := by
  have H := Lib.hid h
  have hdl := h.lt
  have hnl := names_len D.f
  have hmem := mem_names D.f .new
  have hrem := remove_acts D .new
  obtain ⟨R, hR⟩ : ∃ R, R = D.opn := ⟨_, rfl⟩
  rw [← hR]
  unfold Dk.opn at hR
  have HR := Lib.hid hR
  clear h hR
  go_enter Tryz.func33, Tryz.ntmps33
  go_wp2_with fail
  obtain ⟨w0, hw0⟩ : ∃ w0, w0 = w.alloc (.cells #[.int .i64 0, .string ⟨#[]⟩] 60) := ⟨_, rfl⟩
  have hf0 : Fr [] w w0 := by rw [hw0]; exact (Fr.refl _ _).alloc _
  have hb0 : w0.heap[w.heap.size]? = some (.cells #[.int .i64 0, .string ⟨#[]⟩] 60 (0, 0)) := by rw [hw0]; exact heap_new _ _
  have hl0 := blk_lt hb0
  rw [← hw0]
  clear hw0
  have HD0 := Lib.hid (H.out.fr hf0 (by simp) (by simp))
  refine (disk_list p m D _ HD0.out).mono ?_
  rintro e w1 ⟨v1, rfl, hrow, hb⟩
  have hf1 : Fr [] w0 w1 := Fr.of_below hb []
  have HD1 := Lib.hid (HD0.out.fr hf1 (by simp) (by simp))
  have hb1 := (hf1.block _ hl0 (by simp)).trans hb0
  have HF1 := Lib.hid (hf0.trans hf1)
  go_wp2_with fail
  refine (contains_calls _ v1 (names D.f) .new _ (isNm .new) _ hnl hrow).mono ?_
  rintro e w2 ⟨rfl, rfl⟩
  rw [hmem]
  clear hrow hb HD0 hf0 hb0 hf1
  cases hx : (D.f .new).isSome with
  | false =>
    have e1 := HR.out
    rw [hx, if_neg (by simp)] at e1
    unfold Dk.opn1 at e1
    have HRW := Lib.hid e1
    have hacts : D.acts ≤ 900000 := by omega
    have HDW := HD1
    have HFW := Lib.hid (HF1.out.mono (T := [p, m]) (by simp))
    have hbW := hb1
    have HBW := Lib.hid hb1
    clear HR e1 HF1 HD1 hb1
    clear hbW
    go_wp2_with fail
    refine (snap_calls p m D _ HDW.out).mono ?_
    rintro e w4 ⟨v4, rfl, hev4, hf4⟩
    have hsl := snap_le D
    have HD4 := Lib.hid (HDW.out.fr hf4 (by simp) (by simp))
    have hb4 := (hf4.block _ (blk_lt HBW.out) (by simp)).trans HBW.out
    have HF4 := Lib.hid (HFW.out.trans (hf4.mono (by simp)))
    clear hf4
    obtain ⟨sn, hsn⟩ : ∃ sn, sn = Dk.snap D := ⟨_, rfl⟩
    rw [← hsn] at hev4 HRW hsl ⊢
    clear hsn
    obtain ⟨⟨an, al⟩, ac⟩ := sn
    dsimp only at hev4 HRW hsl ⊢
    have P4 := pair_of hb4
    obtain ⟨c0, g0, c1, g1, st1⟩ : _ ∧ _ ∧ _ ∧ _ ∧ _ := ⟨P4.c0, P4.f0, P4.c1, P4.f1, P4.st⟩
    have hlt4 := blk_lt hb4
    have he : entV (an, al) = .agg #[.int .i64 (an : Int), .string (bs al)] := rfl
    rw [he]
    clear he P4 hb4
    obtain ⟨w5, hw5⟩ : ∃ w5, w5 = (w4.setCell ⟨w.heap.size, 0, none⟩ (.int .i64 (an : Int))).setCell ⟨w.heap.size, 1, none⟩ (.string (bs al)) := ⟨_, rfl⟩
    have hb5 := st1 (.int .i64 (an : Int)) (.string (bs al))
    rw [← hw5] at hb5
    have hf5 : Fr [w.heap.size] w4 w5 := by rw [hw5]; exact ((Fr.refl _ _).setCell (.inl (by simp)) _).setCell (.inl (by simp)) _
    have HW5 := Lib.hid hw5
    have HF5 : Hid (Fr [p, m] w w5) := by rw [hw5]; exact (HF4.out.setCell (.inr (Nat.le_refl _)) _).setCell (.inr (Nat.le_refl _)) _
    have HD5 := Lib.hid (HD4.out.fr hf5 (by simp; omega) (by simp; omega))
    have HB5 := Lib.hid hb5
    clear hw5 hb5 hf5 st1 HF4 HD4
    rcases hev4.ne with ⟨rfl, rfl⟩ | ⟨hen, tt, u, rfl⟩
    · have e1 := HRW.out
      rw [if_neg (by simp)] at e1
      have hlg := log_calls p m D an hsl w5 HD5.out hacts
      have cs5 : w5.cell? ⟨w.heap.size, 0, none⟩ = some (.int .i64 (an : Int)) := blk_cell HB5.out rfl
      obtain ⟨lg, hlgd⟩ : ∃ lg, lg = Dk.log D an := ⟨_, rfl⟩
      rw [← hlgd] at hlg e1
      have HR6 := Lib.hid e1
      clear hlgd e1 HRW
      rw [HW5.out] at hlg cs5
      go_wp2_with fail
      refine hlg.mono ?_
      rw [← HW5.out]
      clear hlg
      rintro e w6 ⟨v6, r6, rfl, hlo, hD6, hf6⟩
      have hb6 := (hf6.block _ (blk_lt HB5.out) (by simp; omega)).trans HB5.out
      have hF6 := HF5.out.trans hf6
      have e1 := HR6.out
      subst e1
      go_wp2_with fail
      refine bodyPost_ret (results_ctt rfl _ _ w.heap.size _ _ _ _ rfl hb6 rfl rfl Tryz.sizeEnt) rfl ?_
      exact ⟨_, _, rfl, hlo, hD6, hF6⟩
    · have e1 := HRW.out
      rw [if_pos hen] at e1
      subst e1
      go_wp2_with fail
      rw [← HW5.out]
      refine bodyPost_ret (results_ctt rfl _ _ w.heap.size _ _ _ _ rfl HB5.out rfl rfl Tryz.sizeEnt) rfl ?_
      exact ⟨_, _, rfl, ⟨hev4.mono (by omega), fun h => absurd h hen⟩, HD5.out, HF5.out⟩
  | true =>
    have e1 := HR.out
    rw [hx, if_pos rfl] at e1
    have HR1 := Lib.hid e1
    clear HR e1
    go_wp2_with fail
    refine (disk_remove p m D .new _ (isNm .new) _ HD1.out (by omega)).mono ?_
    obtain ⟨rm, hrm⟩ : ∃ rm, rm = D.remove .new := ⟨_, rfl⟩
    rw [← hrm] at HR1 hrem ⊢
    clear hrm
    obtain ⟨rc, D2⟩ := rm
    dsimp only at HR1 hrem ⊢
    rintro e w3 ⟨rfl, hD3, hf3⟩
    have hb3 := (hf3.block _ (blk_lt hb1) (by simp; omega)).trans hb1
    have HD3 := Lib.hid hD3
    have HF3 := Lib.hid ((HF1.out.mono (T := [p, m]) (by simp)).trans hf3)
    clear hD3 hf3 HF1 HD1 hb1
    go_wp2_with fail
    refine (failed_any _ rc _).mono ?_
    rintro e w3' ⟨v3, rfl, hev3, rfl⟩
    rcases hev3.ne with ⟨rfl, hrc⟩ | ⟨hrc, tt, u, rfl⟩
    rotate_left
    · have e1 := HR1.out
      rw [if_pos hrc] at e1
      subst e1
      go_wp2_with fail
      refine bodyPost_ret (results_ctt rfl _ _ w.heap.size _ _ _ _ rfl hb3 rfl rfl Tryz.sizeEnt) rfl ?_
      exact ⟨_, _, rfl, ⟨hev3.mono (by omega), fun h => absurd h hrc⟩, HD3.out, HF3.out⟩
    have e1 := HR1.out
    rw [if_neg (by simpa using hrc)] at e1
    unfold Dk.opn1 at e1
    have HRW := Lib.hid e1
    have hacts : D2.acts ≤ 900000 := by omega
    have HDW := HD3
    have HFW := HF3
    have hbW := hb3
    have HBW := Lib.hid hb3
    clear HR1 e1 HF3 HD3 hb3
    clear hbW
    go_wp2_with fail
    refine (snap_calls p m D2 _ HDW.out).mono ?_
    rintro e w4 ⟨v4, rfl, hev4, hf4⟩
    have hsl := snap_le D2
    have HD4 := Lib.hid (HDW.out.fr hf4 (by simp) (by simp))
    have hb4 := (hf4.block _ (blk_lt HBW.out) (by simp)).trans HBW.out
    have HF4 := Lib.hid (HFW.out.trans (hf4.mono (by simp)))
    clear hf4
    obtain ⟨sn, hsn⟩ : ∃ sn, sn = Dk.snap D2 := ⟨_, rfl⟩
    rw [← hsn] at hev4 HRW hsl ⊢
    clear hsn
    obtain ⟨⟨an, al⟩, ac⟩ := sn
    dsimp only at hev4 HRW hsl ⊢
    have P4 := pair_of hb4
    obtain ⟨c0, g0, c1, g1, st1⟩ : _ ∧ _ ∧ _ ∧ _ ∧ _ := ⟨P4.c0, P4.f0, P4.c1, P4.f1, P4.st⟩
    have hlt4 := blk_lt hb4
    have he : entV (an, al) = .agg #[.int .i64 (an : Int), .string (bs al)] := rfl
    rw [he]
    clear he P4 hb4
    obtain ⟨w5, hw5⟩ : ∃ w5, w5 = (w4.setCell ⟨w.heap.size, 0, none⟩ (.int .i64 (an : Int))).setCell ⟨w.heap.size, 1, none⟩ (.string (bs al)) := ⟨_, rfl⟩
    have hb5 := st1 (.int .i64 (an : Int)) (.string (bs al))
    rw [← hw5] at hb5
    have hf5 : Fr [w.heap.size] w4 w5 := by rw [hw5]; exact ((Fr.refl _ _).setCell (.inl (by simp)) _).setCell (.inl (by simp)) _
    have HW5 := Lib.hid hw5
    have HF5 : Hid (Fr [p, m] w w5) := by rw [hw5]; exact (HF4.out.setCell (.inr (Nat.le_refl _)) _).setCell (.inr (Nat.le_refl _)) _
    have HD5 := Lib.hid (HD4.out.fr hf5 (by simp; omega) (by simp; omega))
    have HB5 := Lib.hid hb5
    clear hw5 hb5 hf5 st1 HF4 HD4
    rcases hev4.ne with ⟨rfl, rfl⟩ | ⟨hen, tt, u, rfl⟩
    · have e1 := HRW.out
      rw [if_neg (by simp)] at e1
      have hlg := log_calls p m D2 an hsl w5 HD5.out hacts
      have cs5 : w5.cell? ⟨w.heap.size, 0, none⟩ = some (.int .i64 (an : Int)) := blk_cell HB5.out rfl
      obtain ⟨lg, hlgd⟩ : ∃ lg, lg = Dk.log D2 an := ⟨_, rfl⟩
      rw [← hlgd] at hlg e1
      have HR6 := Lib.hid e1
      clear hlgd e1 HRW
      rw [HW5.out] at hlg cs5
      go_wp2_with fail
      refine hlg.mono ?_
      rw [← HW5.out]
      clear hlg
      rintro e w6 ⟨v6, r6, rfl, hlo, hD6, hf6⟩
      have hb6 := (hf6.block _ (blk_lt HB5.out) (by simp; omega)).trans HB5.out
      have hF6 := HF5.out.trans hf6
      have e1 := HR6.out
      subst e1
      go_wp2_with fail
      refine bodyPost_ret (results_ctt rfl _ _ w.heap.size _ _ _ _ rfl hb6 rfl rfl Tryz.sizeEnt) rfl ?_
      exact ⟨_, _, rfl, hlo, hD6, hF6⟩
    · have e1 := HRW.out
      rw [if_pos hen] at e1
      subst e1
      go_wp2_with fail
      rw [← HW5.out]
      refine bodyPost_ret (results_ctt rfl _ _ w.heap.size _ _ _ _ rfl HB5.out rfl rfl Tryz.sizeEnt) rfl ?_
      exact ⟨_, _, rfl, ⟨hev4.mono (by omega), fun h => absurd h hen⟩, HD5.out, HF5.out⟩
end Go.Proofs.YtnlgmekkjibpmaaGreatDoor
/- DERIVED. wal: Open. -/
namespace Go.Proofs.YtnlgmekkjibpmaaGreatDoor
open Go Go.RowKit Go.Shelf Go.Proofs.YtnlgmekkjibpmaaGreatDoorW.PrintWords
set_option linter.unusedVariables false
set_option linter.unusedSimpArgs false

theorem code_ev {v : Value} {e : Nat} (h : EV 2 v e) (w : World) (hg : G w) :
    Calls Tryz.prog 34 #[v] w fun ev w' => ev = .returned (.int .i64 (e : Int)) ∧ Fr [] w w' := by
  cases h with
  | none => exact code_nil w
  | chain ds e h1 h2 h3 =>
    match ds, h1, h2 with
    | [d], _, _ => exact code_chain1 d e w hg
    | [d, d'], _, _ => exact code_chain2 d d' e w hg

theorem EV.ne2 {k e : Nat} {v : Value} (h : EV k v e) : (v = .nilIface ∧ e = 0) ∨ (e ≠ 0 ∧ ∃ t u, v = .iface t u) := h.ne
/-- A wal in memory. -/
structure Wl (w : World) (b p : Nat) (seq err : Nat) : Prop where
  out : w.heap[b]? = some (.cells #[.pointer (some ⟨p, 0, none⟩), .int .i64 (seq : Int), .int .i64 (err : Int)] 68 (0, 0))
theorem Wl.fr {w w' : World} {b p seq err : Nat} {S : List Nat} (h : Wl w b p seq err) (hf : Fr S w w') (hb : b ∉ S) : Wl w' b p seq err := ⟨(hf.block b (blk_lt h.out) hb).trans h.out⟩

def lastSeq (a : Nat) (K : List Ent) : Nat := (K.getLast?.map (·.1)).getD a
theorem lastSeq_take {a : Nat} {K : List Ent} {k : Nat} (h : k < K.length) : lastSeq a (K.take (k + 1)) = (K[k]'h).1 := by
  unfold lastSeq
  rw [List.take_add_one, List.getElem?_eq_getElem h]
  show (Option.map _ ((List.take k K ++ [K[k]]).getLast?)).getD a = _
  rw [List.getLast?_concat]
  rfl
theorem results_tmp4 {fn : Func} {t u v x : Tmp} (h : fn.results = #[.tmp t, .tmp u, .tmp v, .tmp x]) (tmps : Array Value) (P : Program) (w : World) :
    (results fn tmps).run P w = .ok (.tuple #[tmps.getD t undef, tmps.getD u undef, tmps.getD v undef, tmps.getD x undef]) w := by
  simp [results, h]
def textsV (K : List Ent) : List Value := K.map fun x => .string (bs x.2)

theorem parseB_len : ∀ (L : List (List UInt8)) (E : List Ent), parseB L = some E → E.length = L.length
  | [], E, h => by cases h; rfl
  | s :: L, E, h => by
    unfold parseB at h
    cases hb : entB s with
    | none => rw [hb] at h; cases h
    | some y =>
      rw [hb] at h
      cases hp : parseB L with
      | none => rw [hp] at h; cases h
      | some F =>
        rw [hp] at h
        cases h
        simp [parseB_len L F hp]
theorem log_len (D : Dk) (hw : D.wf) (seq : Nat) : (D.log seq).1.length ≤ 65536 := by
  have hl := load_len D .log hw
  have ha := (all_ends (D.load .log).1.length (D.load .log).1).1
  unfold Dk.log
  split
  · simp
  · cases hp : parseB (allF (D.load .log).1).1 with
    | none => simp
    | some E =>
      have h1 := parseB_len _ _ hp
      have h2 := keptF_le seq E
      have h3 : E.length ≤ 65536 := by rw [h1]; exact Nat.le_trans ha hl
      dsimp only
      split
      · simp
      · split
        · simp
        · split
          · split
            · simp
            · dsimp only; omega
          · dsimp only; omega
theorem opn1_len (D : Dk) (hw : D.wf) : D.opn1.2.1.length ≤ 65536 := by
  unfold Dk.opn1
  split
  · simp
  · exact log_len D hw _
theorem remove_wf (D : Dk) (hw : D.wf) (n : Nm) : (D.remove n).2.wf := by
  unfold Dk.remove Dk.doing
  split
  · exact hw
  · split
    · exact hw
    · unfold Dk.rem0
      split
      · exact hw
      · exact Dk.wf_del (D := D.tick) hw n
theorem opn_len (D : Dk) (hw : D.wf) : D.opn.2.1.length ≤ 65536 := by
  unfold Dk.opn
  split
  · split
    · simp
    · exact opn1_len _ (remove_wf D hw _)
  · exact opn1_len D hw
theorem own_ne {w : World} {base n size k : Nat} {e t : TypeId} {v : Value} {xs : List Value} {cs : Array Value} {fr : Nat × Nat} (h : w.ownsRow base e size v n xs) (hk : w.heap[k]? = some (.cells cs t fr)) (ht : t ≠ e) : v.ownBlock ≠ some k := by
  rcases h.2 with ⟨rfl, _⟩ | ⟨g, cap, cur, rfl, hb, hh, _⟩
  · simp [Value.ownBlock]
  · intro he
    have : g = k := by simpa [Value.ownBlock] using he
    subst this
    rw [hk] at hh
    cases hh
    exact ht rfl
theorem grown_blk {a c : World} {row : Option Nat} (hg : a.grownBy c row) {k : Nat} {o : Obj} (h : a.heap[k]? = some o) (hn : row ≠ some k) : c.heap[k]? = some o :=
  (hg.block k (blk_lt h) (fun e => hn e.symm)).trans h
noncomputable def Dk.Open (D : Dk) : Option (Ent × List Ent) × Nat × Dk :=
  if D.off = true then (none, 100, D)
  else if D.opn.2.2.1 ≠ 0 then (none, D.opn.2.2.1, D.opn.2.2.2)
  else (some (D.opn.1, D.opn.2.1), 0, D.opn.2.2.2)
def OpenOut (o : Option (Ent × List Ent)) (c p B : Nat) (w : World) (e : Ending) : Prop :=
  match o with
  | none => e = .returned (.tuple #[.pointer none, .string ⟨#[]⟩, .slice none 0 0, .int .i64 (c : Int)])
  | some (a, K) => ∃ b v, e = .returned (.tuple #[.pointer (some ⟨b, 0, none⟩), .string (bs a.2), v, .int .i64 (c : Int)]) ∧ B ≤ b ∧ Wl w b p (lastSeq a.1 K) 0 ∧ w.ownsRow B 9 1 v K.length (textsV K)

set_option maxRecDepth 100000 in
set_option maxHeartbeats 2000000 in
theorem Open_calls (p m : Nat) (D : Dk) (w : World) (h : DkIs w p m D) (h2 : D.acts ≤ 800000) (hg : G w) (hp0 : p ≠ 0) (hm0 : m ≠ 0) :
    Calls Tryz.prog 10 #[.pointer (some ⟨p, 0, none⟩)] w fun ev w' => OpenOut D.Open.1 D.Open.2.1 p w.heap.size w' ev ∧ DkIs w' p m D.Open.2.2 ∧ Fr [p, m] w w' := by
  obtain ⟨i0, hi, hz0, hz1, hz2⟩ := info_parts Tryz.info9
  have H := Lib.hid h
  have hdl := h.lt
  obtain ⟨R, hR⟩ : ∃ R, R = D.Open := ⟨_, rfl⟩
  rw [← hR]
  unfold Dk.Open at hR
  have HR := Lib.hid hR
  have HG := Lib.hid hg
  have hkl := opn_len D h.wf
  clear h hR hg
  go_enter Tryz.func10, Tryz.ntmps10
  go_wp2_with fail
  refine (disk_off p m D _ H.out).mono ?_
  rintro e w1 ⟨rfl, rfl⟩
  cases hx : D.off with
  | true =>
    have e1 := HR.out
    rw [if_pos hx] at e1
    subst e1
    go_wp2_with fail
    ((try simp only [Exit.inBlock, Exit.then]); refine bodyPost_ret (results_tmp4 rfl _ _ _) rfl ?_)
    exact ⟨rfl, H.out, Fr.refl _ _⟩
  | false =>
    have e1 := HR.out
    rw [hx, if_neg (by simp)] at e1
    have HR1 := Lib.hid e1
    clear HR e1
    go_wp2_with fail
    refine (open_calls p m D _ H.out h2).mono ?_
    obtain ⟨Q, hQ⟩ : ∃ Q, Q = D.opn := ⟨_, rfl⟩
    rw [← hQ] at HR1 hkl ⊢
    clear hQ
    obtain ⟨⟨an, al⟩, K, c, D2⟩ := Q
    dsimp only at HR1 hkl ⊢
    rintro e w2 ⟨v2, r2, rfl, ⟨hev, hrow⟩, hD2, hf2⟩
    dsimp only at hev hrow hD2
    have he : entV (an, al) = .agg #[.int .i64 (an : Int), .string (bs al)] := rfl
    rw [he]
    clear he
    have hG2 := Lib.hid (HG.out.fr hf2 (by simp; omega))
    have HD2 := Lib.hid hD2
    have HF2 := Lib.hid hf2
    have hsl2 := hf2.size
    clear hD2 hf2
    obtain ⟨bl, hbl⟩ : ∃ bl, bl = bs al := ⟨_, rfl⟩
    rw [← hbl]
    have HBL := Lib.hid hbl
    clear hbl
    rcases hev.ne2 with ⟨rfl, rfl⟩ | ⟨hen, tt, u, rfl⟩
    · have e1 := HR1.out
      rw [if_neg (by simp)] at e1
      subst e1
      obtain ⟨g, gc, cs, rfl, hcs, htk⟩ := hrow rfl
      have hgl := blk_lt hcs
      have HCS := Lib.hid hcs
      have HTK := Lib.hid htk
      clear hev hrow hcs htk HR1
      go_wp2_with fail
      obtain ⟨w5, hw5⟩ : ∃ w5, w5 = (w2.alloc (.cells #[.int .i64 (an : Int), .string bl] 60)).alloc (.cells #[.pointer (some ⟨p, 0, none⟩), .int .i64 (an : Int), .int .i64 0] 68) := ⟨_, rfl⟩
      have hf5 : Fr [] w2 w5 := by rw [hw5]; exact ((Fr.refl _ _).alloc _).alloc _
      have hx5 : w5.heap[w2.heap.size]? = some (.cells #[.int .i64 (an : Int), .string bl] 60 (0, 0)) := by rw [hw5]; exact blk_alloc _ _ (heap_new _ _)
      have hb5 : w5.heap[w2.heap.size + 1]? = some (.cells #[.pointer (some ⟨p, 0, none⟩), .int .i64 (an : Int), .int .i64 0] 68 (0, 0)) := by
        have := heap_new (w2.alloc (.cells #[.int .i64 (an : Int), .string bl] 60)) (.cells #[.pointer (some ⟨p, 0, none⟩), .int .i64 (an : Int), .int .i64 0] 68)
        rw [hw5]
        simpa using this
      have hs5 : w5.heap.size = w2.heap.size + 2 := by rw [hw5]; simp
      rw [← hw5]
      clear hw5
      have hg5 := (hf5.block _ hgl (by simp)).trans HCS.out
      have HF5 := Lib.hid hf5
      have HX5 := Lib.hid hx5
      have HG5 := Lib.hid hg5
      obtain ⟨bw, hbw⟩ : ∃ bw, bw = w2.heap.size + 1 := ⟨_, rfl⟩
      rw [← hbw] at hb5 ⊢
      have hgb : g ≠ bw := by omega
      have hbl := blk_lt hb5
      have hbase : w1.heap.size ≤ bw := by omega
      have hxb : w2.heap.size ≠ bw := by omega
      have hbw2 : w2.heap.size ≤ bw := by omega
      have HBW := Lib.hid hbw
      clear hf5 hx5 hg5 hbw
      go_loopw [10, 36] (fun out i wr => ∃ k : Nat, k ≤ K.length ∧ i = .int .i64 (k : Int) ∧ Fr [bw] w5 wr ∧ Wl wr bw p (lastSeq an (K.take k)) 0 ∧ wr.ownsRow w5.heap.size 9 1 out k (textsV (K.take k))) (fun _ i _ => K.length - (intOf i).toNat)
      case atStart => exact ⟨0, by omega, rfl, Fr.refl _ _, ⟨by simpa [lastSeq] using hb5⟩, World.ownsRow_nil _ _ _ _⟩
      case round =>
        obtain ⟨k, hk, rfl, hF, hW, hown⟩ := hrel
        by_cases hlt : k < K.length
        · have hgr := (hF.block _ (blk_lt HG5.out) (by simpa using hgb)).trans HG5.out
          have q0 := congrArg (fun l => l[2 * k]?) HTK.out
          have q1 := congrArg (fun l => l[2 * k + 1]?) HTK.out
          rw [entsC_at0 K k hlt, List.getElem?_take, if_pos (by omega)] at q0
          rw [entsC_at1 K k hlt, List.getElem?_take, if_pos (by omega)] at q1
          have c0 : wr.cell? ⟨g, k * 2, none⟩ = some (.int .i64 ((K[k]'hlt).1 : Int)) := blk_cell hgr (by rw [Nat.mul_comm]; simpa using q0)
          have c1 : wr.cell? ⟨g, k * 2 + 1, none⟩ = some (.string (bs (K[k]'hlt).2)) := blk_cell hgr (by rw [Nat.mul_comm]; simpa using q1)
          have hls := @lastSeq_take an K k hlt
          have htx : textsV (K.take (k + 1)) = textsV (K.take k) ++ [.string (bs (K[k]'hlt).2)] := by
            unfold textsV
            rw [List.take_add_one, List.getElem?_eq_getElem hlt, List.map_append]
            rfl
          obtain ⟨xn, hxn⟩ : ∃ xn, xn = (K[k]'hlt).1 := ⟨_, rfl⟩
          obtain ⟨xt, hxt⟩ : ∃ xt, xt = bs (K[k]'hlt).2 := ⟨_, rfl⟩
          rw [← hxn] at c0 hls
          rw [← hxt] at c1 htx
          have HLS := Lib.hid hls
          have HTX := Lib.hid htx
          have hcn := cell_one_new (wr.alloc (.cells #[.int .i64 (xn : Int), .string xt] 60)) (.string xt) 9
          rw [show (wr.alloc (.cells #[.int .i64 (xn : Int), .string xt] 60)).heap.size = wr.heap.size + 1 by simp] at hcn
          have HCN := Lib.hid hcn
          have hx7 := blk_alloc _ (.cells #[.string xt] 9) (heap_new wr (.cells #[.int .i64 (xn : Int), .string xt] 60))
          have hb7 := blk_alloc _ (.cells #[.string xt] 9) (blk_alloc wr (.cells #[.int .i64 (xn : Int), .string xt] 60) hW.out)
          have hown7 := (hown.alloc (.cells #[.int .i64 (xn : Int), .string xt] 60)).alloc (.cells #[.string xt] 9)
          have hn1 := own_ne hown7 hx7 (by decide)
          have hn2 := own_ne hown7 hb7 (by decide)
          have HX7 := Lib.hid hx7
          have HB7 := Lib.hid hb7
          have hF7 := Lib.hid ((hF.alloc (.cells #[.int .i64 (xn : Int), .string xt] 60)).alloc (.cells #[.string xt] 9))
          have hsz7 := hF.size
          have hnb := own_base hown7
          have HNB := Lib.hid hnb
          clear hls htx hcn hgr q0 q1 hxn hxt hx7 hb7 hF hW hown hnb
          go_wp2_with (at_builtin; go_loud (refine wpList_append_own _ rfl _ _ 26 rfl w5.heap.size 9 i0 (.string ⟨#[]⟩) 1 16 Tryz.underlying26 hi hz0 hz1 hz2 rfl (by decide) _ _ _ rfl hown7 ⟨wr.heap.size + 1, 0, none⟩ 1 1 [.string xt] rfl rfl HCN.out (by simp [Value.oneCell']) (by unfold maxLen; omega) (by omega) (by simp; omega) ?_); intro v' w8 hown8 hgrow _; have hx8 := grown_blk hgrow HX7.out hn1; have hb8 := grown_blk hgrow HB7.out hn2; have y0 : w8.cell? ⟨wr.heap.size, 0, none⟩ = some (.int .i64 (xn : Int)) := blk_cell hx8 rfl; have z1 := blk_cell (v := .int .i64 (lastSeq an (K.take k) : Int)) hb8 (j := 1) rfl; have z2 := blk_free hb8 1; have z3 := Lib.hid (blk_set hb8 1 (.int .i64 (xn : Int))); have HB8 := Lib.hid hb8; clear hx8 hb8)
          case roundEnd =>
            refine ⟨⟨k + 1, by omega, by go_num, (hF7.out.grown hgrow (fun j hj => .inr (HNB.out j hj))).setCell (.inl (by simp)) _, ⟨by rw [HLS.out]; exact z3.out⟩, ?_⟩, by simp [intOf]; omega⟩
            rw [HTX.out]
            exact own_fr hown8 ((Fr.refl [bw] _).setCell (.inl (by simp)) _) (fun j hj => by
              rw [List.mem_singleton.1 hj]
              exact own_ne hown8 HB8.out (by decide))
        · have hkn : k = K.length := by omega
          subst hkn
          rw [List.take_length] at hW hown
          have hxw := (hF.block _ (blk_lt HX5.out) (by simpa using hxb)).trans HX5.out
          have x1 : wr.cell? ⟨w2.heap.size, 1, none⟩ = some (.string bl) := blk_cell hxw rfl
          have HW := Lib.hid hW
          have HOWN := Lib.hid hown
          have hnl : ¬ ((K.length : Nat) : Int) < (K.length : Int) := by omega
          clear hW hown hxw
          go_wp2_with fail
          go_quiet (fail)
          go_wp2_with fail
          ((try simp only [Exit.inBlock, Exit.then]); refine bodyPost_ret (results_tmp4 rfl _ _ _) rfl ?_)
          have hF6 : Fr [bw] w2 (wr.drewN nq) := (HF5.out.mono (by simp)).trans (hF.drewN nq)
          have hpm : p ≠ bw ∧ m ≠ bw := by have := HD2.out.lt; omega
          have hF7 : Fr [p, m] w1 (wr.drewN nq) := ⟨hF6.os.trans HF2.out.os, hF6.tape.trans HF2.out.tape, hF6.output.trans HF2.out.output, Nat.le_trans HF2.out.size hF6.size, fun b hb hn => (hF6.block b (Nat.lt_of_lt_of_le hb HF2.out.size) (by simp; omega)).trans (HF2.out.block b hb hn)⟩
          refine ⟨⟨bw, _, by rw [← HBL.out]; rfl, hbase, ⟨HW.out.out⟩, ownsRow_base_a (own_fr HOWN.out ((Fr.refl [] wr).drewN nq) (by simp)) (by have := HF5.out.size; omega)⟩, HD2.out.fr hF6 (by simp; omega) (by simp; omega), hF7⟩
    · have e1 := HR1.out
      rw [if_pos hen] at e1
      subst e1
      go_wp2_with fail
      refine (code_ev hev _ ?_).mono ?_
      · exact hG2.out.fr ((Fr.refl [] _).alloc _) (by simp)
      rintro e w3 ⟨rfl, hf3⟩
      go_wp2_with fail
      ((try simp only [Exit.inBlock, Exit.then]); refine bodyPost_ret (results_tmp4 rfl _ _ _) rfl ?_)
      have hf4 := ((Fr.refl [] w2).alloc _).trans hf3
      exact ⟨rfl, HD2.out.fr hf4 (by simp) (by simp), HF2.out.trans (hf4.mono (by simp))⟩
end Go.Proofs.YtnlgmekkjibpmaaGreatDoor
