/- DERIVED. Contracts and plain laws under the statement: one merged text. -/
import Derived.WalkKit
import Derived.Deep.Draws
import Derived.Below
import Derived.ChangeMaps
import Derived.Test.YtnlgmekkjibpmaaGreatDoorProg
import Derived.Lib.Hide
import Derived.Maps.OwnSet
import Derived.Sort.KeysCollected
import Derived.StringKeys
import Derived.WalkSpells
import Derived.WalkLawsBesides
import Derived.Outline
import Derived.RegionTactic
import Derived.ChangeAlike
import Derived.Deep.RegionWith
import Derived.OneCell
import Derived.Deep.RegionHeld3
import Derived.Shelf.Abstract
import Derived.Test.YtnlgmekkjibpmaaGreatDoorIter
import Derived.TacticsInMore
import Derived.OwnWalkIn
import Derived.Test.YtnlgmekkjibpmaaGreatDoorPWalFoundx9
import Derived.Laws.BitsAllLaws
import Derived.RangeFuncNested
import Derived.RangeFuncLeaves
/- DERIVED. Frames: what a call leaves as it was, but for a list of blocks; blocks of cells known whole. -/
namespace Go.Proofs.YtnlgmekkjibpmaaGreatDoor
open Go Go.RowKit
set_option linter.unusedVariables false
set_option linter.unusedSimpArgs false

/-- w' is w, but for new blocks and the blocks of S. -/
structure Fr (S : List Nat) (w w' : World) : Prop where
  os : w'.os = w.os
  tape : w'.tape = w.tape
  output : w'.output = w.output
  size : w.heap.size ≤ w'.heap.size
  block : ∀ k, k < w.heap.size → k ∉ S → w'.heap[k]? = w.heap[k]?

namespace Fr
theorem refl (S : List Nat) (w : World) : Fr S w w := ⟨rfl, rfl, rfl, Nat.le_refl _, fun _ _ _ => rfl⟩
theorem trans {S : List Nat} {a b c : World} (h : Fr S a b) (k : Fr S b c) : Fr S a c :=
  ⟨k.os.trans h.os, k.tape.trans h.tape, k.output.trans h.output, Nat.le_trans h.size k.size,
   fun i hi hs => (k.block i (Nat.lt_of_lt_of_le hi h.size) hs).trans (h.block i hi hs)⟩
theorem mono {S T : List Nat} {a b : World} (h : Fr S a b) (hs : ∀ k, k ∈ S → k ∈ T) : Fr T a b :=
  ⟨h.os, h.tape, h.output, h.size, fun k hk hn => h.block k hk (fun hm => hn (hs k hm))⟩
theorem of_below {a b : World} (h : Below a.heap.size a b) (S : List Nat) : Fr S a b :=
  ⟨h.os, h.tape, h.output, h.size, fun k hk _ => h.block k hk⟩
theorem below {a b : World} {S : List Nat} (h : Fr S a b) (B : Nat) (hB : B ≤ a.heap.size) (hs : ∀ k, k ∈ S → B ≤ k) : Below B a b :=
  ⟨h.os, h.tape, h.output, h.size, fun k hk => h.block k (Nat.lt_of_lt_of_le hk hB) (fun hm => by have := hs k hm; omega)⟩
theorem drewN {S : List Nat} {a b : World} (h : Fr S a b) (n : Nat) : Fr S a (b.drewN n) := ⟨h.os, h.tape, h.output, h.size, h.block⟩
theorem drew {S : List Nat} {a b : World} (h : Fr S a b) : Fr S a b.drew := ⟨h.os, h.tape, h.output, h.size, h.block⟩
theorem alloc {S : List Nat} {a b : World} (h : Fr S a b) (o : Obj) : Fr S a (b.alloc o) :=
  ⟨h.os, h.tape, h.output, Nat.le_trans h.size (by simp), fun i hi hs => (Below.heap_alloc b o i (Nat.lt_of_lt_of_le hi h.size)).trans (h.block i hi hs)⟩
theorem setCell {S : List Nat} {a b : World} (h : Fr S a b) {p : Addr} (hp : p.block ∈ S ∨ a.heap.size ≤ p.block) (u : Value) : Fr S a (b.setCell p u) :=
  ⟨h.os, h.tape, h.output, by simpa [World.setCell] using h.size, fun i hi hs => (Below.heap_setCell b p u i (by
    rintro rfl
    rcases hp with hp | hp
    · exact hs hp
    · omega)).trans (h.block i hi hs)⟩
theorem grown {S : List Nat} {a b c : World} (h : Fr S a b) {row : Option Nat} (hg : b.grownBy c row) (hr : ∀ k, row = some k → k ∈ S ∨ a.heap.size ≤ k) : Fr S a c :=
  ⟨hg.os.trans h.os, hg.tape.trans h.tape, hg.output.trans h.output, Nat.le_trans h.size hg.size, fun i hi hs =>
    (hg.block i (Nat.lt_of_lt_of_le hi h.size) (fun e => by
      rcases hr i e.symm with h1 | h1
      · exact hs h1
      · omega)).trans (h.block i hi hs)⟩
end Fr

section
variable {w : World} {b : Nat} {cs : Array Value} {t : TypeId}
theorem cell_alloc (w : World) (o : Obj) {a : Addr} {u : Value} (h : w.cell? a = some u) : (w.alloc o).cell? a = some u := by
  rw [World.cell?_alloc_lt _ _ _ (World.block_lt_of_cell? w a h)]; exact h
theorem blk_alloc (w : World) (o : Obj) {b : Nat} {x : Obj} (h : w.heap[b]? = some x) : (w.alloc o).heap[b]? = some x :=
  (Below.heap_alloc w o b (Array.getElem?_eq_some_iff.1 h).1).trans h
theorem blk_lt {o : Obj} (h : w.heap[b]? = some o) : b < w.heap.size := (Array.getElem?_eq_some_iff.1 h).1
theorem blk_cell (h : w.heap[b]? = some (.cells cs t (0, 0))) {j : Nat} {v : Value} (hj : cs[j]? = some v) : w.cell? ⟨b, j, none⟩ = some v := by
  simp [World.cell?, h, hj]
theorem blk_free (h : w.heap[b]? = some (.cells cs t (0, 0))) (j : Nat) : w.frozen? ⟨b, j, none⟩ = false := by
  simp [World.frozen?, h]
theorem blk_set (h : w.heap[b]? = some (.cells cs t (0, 0))) (j : Nat) (u : Value) : (w.setCell ⟨b, j, none⟩ u).heap[b]? = some (.cells (cs.setIfInBounds j u) t (0, 0)) := by
  have hb := blk_lt h
  simp [World.setCell, Array.getElem?_modify, h]
end

/-- A captured variable in its box. -/
structure Cap (w : World) (b : Nat) (v : Value) (t : TypeId) : Prop where
  out : w.heap[b]? = some (.cells #[v] t (0, 0))
theorem Cap.fr {w w' : World} {b : Nat} {v : Value} {t : TypeId} {S : List Nat} (h : Cap w b v t) (hf : Fr S w w') (hb : b ∉ S) : Cap w' b v t :=
  ⟨(hf.block b (blk_lt h.out) hb).trans h.out⟩
theorem heap_new (w : World) (o : Obj) : (w.alloc o).heap[w.heap.size]? = some o := (MapKept.heap_alloc w o).1
theorem caps3 (w : World) (v1 v2 v3 : Value) (t1 t2 t3 : TypeId) :
    Fr [] w (((w.alloc (.cells #[v1] t1)).alloc (.cells #[v2] t2)).alloc (.cells #[v3] t3)) ∧ Cap (((w.alloc (.cells #[v1] t1)).alloc (.cells #[v2] t2)).alloc (.cells #[v3] t3)) w.heap.size v1 t1 ∧
    Cap (((w.alloc (.cells #[v1] t1)).alloc (.cells #[v2] t2)).alloc (.cells #[v3] t3)) (w.heap.size + 1) v2 t2 ∧ Cap (((w.alloc (.cells #[v1] t1)).alloc (.cells #[v2] t2)).alloc (.cells #[v3] t3)) (w.heap.size + 1 + 1) v3 t3 := by
  refine ⟨(((Fr.refl _ _).alloc _).alloc _).alloc _, ⟨blk_alloc _ _ (blk_alloc _ _ (heap_new _ _))⟩, ⟨blk_alloc _ _ ?_⟩, ⟨?_⟩⟩
  · have := heap_new (w.alloc (.cells #[v1] t1)) (.cells #[v2] t2)
    simpa using this
  · have := heap_new ((w.alloc (.cells #[v1] t1)).alloc (.cells #[v2] t2)) (.cells #[v3] t3)
    simpa using this
theorem caps2 (w : World) (v1 v2 : Value) (t1 t2 : TypeId) :
    Fr [] w ((w.alloc (.cells #[v1] t1)).alloc (.cells #[v2] t2)) ∧ Cap ((w.alloc (.cells #[v1] t1)).alloc (.cells #[v2] t2)) w.heap.size v1 t1 ∧
    Cap ((w.alloc (.cells #[v1] t1)).alloc (.cells #[v2] t2)) (w.heap.size + 1) v2 t2 := by
  refine ⟨((Fr.refl _ _).alloc _).alloc _, ⟨blk_alloc _ _ (heap_new _ _)⟩, ⟨?_⟩⟩
  have := heap_new (w.alloc (.cells #[v1] t1)) (.cells #[v2] t2)
  simpa using this
end Go.Proofs.YtnlgmekkjibpmaaGreatDoor
/- DERIVED. The disk, plainly: three names, each with a file or none; how a disk of the program stands in memory. -/
namespace Go.Proofs.YtnlgmekkjibpmaaGreatDoor
open Go Go.RowKit Go.Maps Go.WideMaps
set_option linter.unusedVariables false
set_option linter.unusedSimpArgs false

/-- A string out of a list of bytes. -/
def bs (l : List UInt8) : ByteArray := ⟨l.toArray⟩
theorem bs_toList (l : List UInt8) : (bs l).data.toList = l := by simp [bs]
theorem bs_size (l : List UInt8) : (bs l).size = l.length := by simp [bs, ByteArray.size]
theorem bs_of (s : ByteArray) : bs s.data.toList = s := by cases s; simp [bs]
theorem bs_append (a b : List UInt8) : bs a ++ bs b = bs (a ++ b) := by
  apply ByteArray.ext
  simp [bs]
theorem bs_inj {a b : List UInt8} (h : bs a = bs b) : a = b := by simpa [bs] using h

structure Fl where
  bytes : List UInt8
  synced : Nat

inductive Nm where
  | log | new | snap
instance : DecidableEq Nm := fun a b => by cases a <;> cases b <;> first | exact isTrue rfl | exact isFalse (by intro h; cases h)

def Nm.l : Nm → List UInt8
  | .log => [108, 111, 103]
  | .new => [110, 101, 119]
  | .snap => [115, 110, 97, 112]

structure Dk where
  f : Nm → Option Fl
  acts : Nat
  armed : Nat
  off : Bool

def upd (f : Nm → Option Fl) (n : Nm) (x : Option Fl) : Nm → Option Fl := fun k => if k = n then x else f k
theorem upd_same (f : Nm → Option Fl) (n : Nm) (x : Option Fl) : upd f n x n = x := by simp [upd]
theorem upd_other (f : Nm → Option Fl) (n k : Nm) (x : Option Fl) (h : k ≠ n) : upd f n x k = f k := by simp [upd, h]

def Fl.zero : Fl := ⟨[], 0⟩
def fd (x : Fl) : DataW Unit := .agg [.lit (.string x.bytes), .lit (.int .i64 x.synced)]
def fv (x : Fl) : Value := .agg #[.string (bs x.bytes), .int .i64 x.synced]
def fileR : Value → Option (DataW Unit × List MemPlace)
  | .agg cs => match cs.toList with
    | [.string s, .int .i64 n] => some (.agg [.lit (.string s.data.toList), .lit (.int .i64 n)], [])
    | _ => none
  | _ => none
theorem fileR_mk (x : Fl) : fileR (fv x) = some (fd x, []) := by simp [fileR, fv, fd, bs_toList]
theorem fileR_inv {v : Value} {x : Fl} {ps : List MemPlace} (h : fileR v = some (fd x, ps)) : v = fv x := by
  unfold fileR at h
  split at h
  · rename_i cs
    split at h
    · rename_i s n hcs
      obtain ⟨cs⟩ := cs
      simp only at hcs
      subst hcs
      simp only [fd, Option.some.injEq, Prod.mk.injEq, DataW.agg.injEq, List.cons.injEq, DataW.lit.injEq, Lit.string.injEq, Lit.int.injEq, and_true, true_and] at h
      obtain ⟨⟨h1, h2⟩, _⟩ := h
      rw [fv, ← h1, ← h2, bs_of]
    · cases h
  · cases h

def ent (f : Nm → Option Fl) (n : Nm) : List (Lit × DataW Unit) := match f n with | some x => [(.string n.l, fd x)] | none => []
/-- What a map of files reads as. -/
def dat (f : Nm → Option Fl) : DataW Unit := .map (ent f .log ++ (ent f .new ++ ent f .snap))

theorem dat_has (f : Nm → Option Fl) (n : Nm) : Maps.has (dat f) (.string n.l) = (f n).isSome := by
  unfold dat ent
  cases n <;> cases f .log <;> cases f .new <;> cases f .snap <;> rfl
theorem dat_at (f : Nm → Option Fl) (n : Nm) : (dat f).atKey (.string n.l) (fd Fl.zero) = fd ((f n).getD Fl.zero) := by
  unfold dat ent
  cases n <;> cases f .log <;> cases f .new <;> cases f .snap <;> rfl
theorem dat_put (f : Nm → Option Fl) (n : Nm) (x : Fl) : (dat f).put (.string n.l) (fd x) = dat (upd f n (some x)) := by
  unfold dat ent upd
  cases n <;> cases f .log <;> cases f .new <;> cases f .snap <;> rfl
theorem dat_del (f : Nm → Option Fl) (n : Nm) : (dat f).del (.string n.l) = dat (upd f n none) := by
  unfold dat ent upd
  cases n <;> cases f .log <;> cases f .new <;> cases f .snap <;> rfl
theorem dat_size (f : Nm → Option Fl) : Maps.size (dat f) ≤ 3 := by
  unfold dat ent
  cases f .log <;> cases f .new <;> cases f .snap <;> simp [Maps.size]

def names (f : Nm → Option Fl) : List Nm := [Nm.log, Nm.new, Nm.snap].filter fun n => (f n).isSome
theorem dat_keys (f : Nm → Option Fl) : strKeys (dat f) = (names f).map Nm.l := by
  unfold dat ent names
  cases h1 : f .log <;> cases h2 : f .new <;> cases h3 : f .snap <;> simp [h1, h2, h3] <;> rfl

/-- A file that may be. -/
def Dk.wf (D : Dk) : Prop := ∀ n x, D.f n = some x → x.bytes.length ≤ 65536 ∧ x.synced ≤ x.bytes.length

theorem ownsMap_tight {w : World} {P : Program} {k : TypeId} {R : Value → Option (DataW Unit × List MemPlace)} {b n : Nat} {D : DataW Unit} (h : w.ownsMap P k R b n D) : w.ownsMap P k R b (Maps.size D) D := by
  obtain ⟨es, clock, hb, F, hs, rfl⟩ := h
  exact ⟨es, clock, hb, F, by simp [Maps.size, length_sorted], rfl⟩

/-- THE DISK AT p, ITS MAP AT m, READS AS D. -/
structure DkIs (w : World) (p m : Nat) (D : Dk) : Prop where
  box : w.heap[p]? = some (.cells #[.map (some m), .int .i64 D.acts, .int .i64 D.armed, .bool D.off] 58 (0, 0))
  map : w.ownsMap Tryz.prog 9 fileR m 3 (dat D.f)
  wf : D.wf

theorem DkIs.fr {w w' : World} {p m : Nat} {D : Dk} {S : List Nat} (h : DkIs w p m D) (hf : Fr S w w') (hp : p ∉ S) (hm : m ∉ S) : DkIs w' p m D := by
  refine ⟨(hf.block p (blk_lt h.box) hp).trans h.box, ?_, h.wf⟩
  obtain ⟨es, clock, hb, F, hs, hD⟩ := h.map
  exact ⟨es, clock, (hf.block m (blk_lt hb) hm).trans hb, F, hs, hD⟩

theorem ownsMap_blk {w w' : World} {P : Program} {k : TypeId} {R : Value → Option (DataW Unit × List MemPlace)} {b n : Nat} {D : DataW Unit} (h : w.ownsMap P k R b n D) (hb : w'.heap[b]? = w.heap[b]?) : w'.ownsMap P k R b n D := by
  obtain ⟨es, clock, hb0, F, hs, hD⟩ := h
  exact ⟨es, clock, hb.trans hb0, F, hs, hD⟩
theorem ne_cells_map {w : World} {p m : Nat} {cs : Array Value} {t : TypeId} {fr : Nat × Nat} {P : Program} {k : TypeId} {R : Value → Option (DataW Unit × List MemPlace)} {n : Nat} {D : DataW Unit} (h : w.heap[p]? = some (.cells cs t fr)) (hm : w.ownsMap P k R m n D) : p ≠ m := by
  obtain ⟨es, clock, hb, _⟩ := hm
  rintro rfl
  rw [h] at hb
  cases hb

theorem keyNm (n : Nm) : keyOf Tryz.prog 9 (.string (bs n.l)) = some (.string n.l) := by
  have := keyOf_string_mk (P := Tryz.prog) Tryz.underlying9 (s := bs n.l) (by rw [bs_size]; cases n <;> simp [Nm.l, maxLen])
  rwa [bs_toList] at this
theorem zeroFile (w : World) : (zeroValue 82).run Tryz.prog w = .ok (fv Fl.zero) w := by
  have : (zeroValue 82).run Tryz.prog w = .ok (.agg #[.string ⟨#[]⟩, .int .i64 0]) w := by kernel_rfl
  rw [this]; rfl

/-- the look-up, as an equation -/
theorem look_run {w : World} {m k : Nat} {f : Nm → Option Fl} (h : w.ownsMap Tryz.prog 9 fileR m k (dat f)) (n : Nm) (W : World) (hW : W.heap[m]? = w.heap[m]?) :
    (Instr.lookup 56 (.map (some m)) (.string (bs n.l)) true).run Tryz.prog W = .ok (.tuple #[fv ((f n).getD Fl.zero), .bool (f n).isSome]) W := by
  obtain ⟨v, ps, hrun, hv⟩ := (ownsMap_blk h hW).look_ok (string_keyed Tryz.underlying9) Tryz.underlying56 (zeroFile W) (fileR_mk Fl.zero) (keyNm n)
  rw [dat_at] at hv
  rw [hrun, fileR_inv hv, dat_has]
theorem len_run {w : World} {m : Nat} {f : Nm → Option Fl} (h : w.ownsMap Tryz.prog 9 fileR m 3 (dat f)) (ty : TypeId) (W : World) (hW : W.heap[m]? = w.heap[m]?) :
    (Builtin.len_ #[56] ty #[.map (some m)]).run Tryz.prog W = .ok (.int .i64 (Maps.size (dat f))) W := (ownsMap_blk h hW).len Tryz.underlying56 ty

theorem Fr.of_grown {w w' : World} {m : Nat} (h : w.grownBy w' (some m)) : Fr [m] w w' :=
  ⟨h.os, h.tape, h.output, h.size, fun k hk hn => h.block k hk (fun e => hn (by cases e; simp))⟩
theorem upd_run {W : World} {m k : Nat} {f : Nm → Option Fl} (h : W.ownsMap Tryz.prog 9 fileR m k (dat f)) (n : Nm) (x : Fl) :
    ∃ W1, (Instr.mapUpdate 56 (.map (some m)) (.string (bs n.l)) (fv x)).run Tryz.prog W = .ok () W1 ∧ W1.ownsMap Tryz.prog 9 fileR m 3 (dat (upd f n (some x))) ∧ Fr [m] W W1 := by
  obtain ⟨W1, h1, h2, h3⟩ := (ownsMap_tight h).update (string_keyed Tryz.underlying9) Tryz.underlying56 (by have := dat_size f; simp only [maxLen]; omega) (keyNm n) (fileR_mk x)
  rw [dat_put] at h2
  exact ⟨W1, h1, (ownsMap_tight h2).mono (dat_size _), Fr.of_grown h3⟩
theorem del_run {W : World} {m k : Nat} {f : Nm → Option Fl} (h : W.ownsMap Tryz.prog 9 fileR m k (dat f)) (n : Nm) (ty : TypeId) :
    ∃ W1, (Builtin.delete_ #[56, 9] ty #[.map (some m), .string (bs n.l)]).run Tryz.prog W = .ok (.tuple #[]) W1 ∧ W1.ownsMap Tryz.prog 9 fileR m 3 (dat (upd f n none)) ∧ Fr [m] W W1 := by
  obtain ⟨W1, h1, h2, h3⟩ := h.drop (string_keyed Tryz.underlying9) Tryz.underlying56 (keyNm n) ty
  rw [dat_del] at h2
  exact ⟨W1, h1, (ownsMap_tight h2).mono (dat_size _), Fr.of_grown h3.grown⟩

theorem DkIs.turn {w w' : World} {p m : Nat} {D : Dk} {f : Nm → Option Fl} (h : DkIs w p m D) (hf : Fr [m] w w') (ho : w'.ownsMap Tryz.prog 9 fileR m 3 (dat f)) (hw : ({ D with f := f } : Dk).wf) :
    DkIs w' p m { D with f := f } :=
  ⟨(hf.block p (blk_lt h.box) (by simpa using ne_cells_map h.box h.map)).trans h.box, ho, hw⟩
theorem Dk.wf_upd {D : Dk} (h : D.wf) (n : Nm) (x : Fl) (h1 : x.bytes.length ≤ 65536) (h2 : x.synced ≤ x.bytes.length) : ({ D with f := upd D.f n (some x) } : Dk).wf := by
  intro k y hy
  simp only [upd] at hy
  split at hy
  · injection hy with hy; subst hy; exact ⟨h1, h2⟩
  · exact h k y hy
theorem Dk.wf_del {D : Dk} (h : D.wf) (n : Nm) : ({ D with f := upd D.f n none } : Dk).wf := by
  intro k y hy
  simp only [upd] at hy
  split at hy
  · cases hy
  · exact h k y hy
theorem Dk.wf_get {D : Dk} (h : D.wf) (n : Nm) : ((D.f n).getD Fl.zero).bytes.length ≤ 65536 ∧ ((D.f n).getD Fl.zero).synced ≤ ((D.f n).getD Fl.zero).bytes.length := by
  cases h1 : D.f n with
  | none => simp [Fl.zero]
  | some x => exact h n x h1

/-- A name, as the program's text has it. -/
structure IsNm (nm : ByteArray) (n : Nm) : Prop where
  eq : nm = bs n.l
  ne : nm.toList.isEmpty = false
  ne' : ¬ nm.toList = []
  le : nm.size ≤ 12
theorem isNm (n : Nm) : IsNm (bs n.l) n := ⟨rfl, by cases n <;> decide +kernel, by cases n <;> decide +kernel, by cases n <;> decide⟩
end Go.Proofs.YtnlgmekkjibpmaaGreatDoor
/- DERIVED. The program's disk: what its closures do. -/
namespace Go.Proofs.YtnlgmekkjibpmaaGreatDoor
open Go Go.RowKit Go.Maps Go.WideMaps
set_option linter.unusedVariables false
set_option linter.unusedSimpArgs false


set_option maxRecDepth 100000 in
set_option maxHeartbeats 400000 in
theorem append_full (p m bd bn bs_ : Nat) (D : Dk) (n : Nm) (nm s : ByteArray) (hnm : IsNm nm n) (w : World) (h : DkIs w p m D)
    (hd : Cap w bd (.pointer (some ⟨p, 0, none⟩)) 23) (hn : Cap w bn (.string nm) 9) (hs : Cap w bs_ (.string s) 9)
    (hl : s.size ≤ 140737488355328) (hfull : 65536 < ((D.f n).getD Fl.zero).bytes.length + s.size) :
    Calls Tryz.prog 44 #[.pointer (some ⟨bd, 0, none⟩), .pointer (some ⟨bn, 0, none⟩), .pointer (some ⟨bs_, 0, none⟩)] w fun e w' => e = .returned (.int .i64 102) ∧ Fr [] w w' := by
  have c1 := cell_of_one hd.out
  have c2 := cell_of_one hn.out
  have c3 := cell_of_one hs.out
  have c0 := blk_cell (v := .map (some m)) h.box (j := 0) rfl
  have hm := h.map
  obtain ⟨old, hold⟩ : ∃ x, (D.f n).getD Fl.zero = x := ⟨_, rfl⟩
  have hb : old.bytes.length ≤ 65536 := by rw [← hold]; exact (Dk.wf_get h.wf n).1
  have k1 := fun W => look_run hm n W
  rw [← hnm.eq] at k1
  rw [hold] at k1 hfull
  obtain ⟨o, ho⟩ : ∃ o, o = bs old.bytes := ⟨_, rfl⟩
  have ho2 : o.size = old.bytes.length := by rw [ho, bs_size]
  simp only [fv, ← ho] at k1
  rw [← ho2] at hfull hb
  have hl0 := fun W => len_run hm 3 W
  have hsz := dat_size D.f
  obtain ⟨z, hz⟩ : ∃ z, Maps.size (dat D.f) = z := ⟨_, rfl⟩
  rw [hz] at hl0 hsz
  have hmlt := hm.lt
  have hal : ∀ o, (w.alloc o).heap[m]? = w.heap[m]? := fun o => Below.heap_alloc w o m hmlt
  have hdr : ∀ W : World, W.drew.heap = W.heap := fun _ => rfl
  have q0 := fun o => cell_alloc w o c0
  have q1 := fun o => cell_alloc w o c1
  have q2 := fun o => cell_alloc w o c2
  have q3 := fun o => cell_alloc w o c3
  have e1 := hnm.ne
  have e2 := hnm.ne'
  have e3 : (nm.size : Int) ≤ 12 := by have := hnm.le; omega
  have t1 : 65536 - (o.size : Int) < s.size := by omega
  have hz2 : (z : Int) < 4 := by omega
  clear hold ho ho2 hz hm h hnm hd hn hs
  obtain ⟨b, hbb⟩ : ∃ b, (D.f n).isSome = b := ⟨_, rfl⟩
  rw [hbb] at k1
  clear hbb
  cases b
  all_goals
    go_enter Tryz.func44, Tryz.ntmps44
    go_wp2
    go_region
    all_goals go_wp2
    go_ret
    exact ⟨rfl, ((Fr.refl _ _).alloc _).drew⟩

set_option maxRecDepth 100000 in
set_option maxHeartbeats 400000 in
theorem append_ok (p m bd bn bs_ : Nat) (D : Dk) (n : Nm) (nm s : ByteArray) (hnm : IsNm nm n) (w : World) (h : DkIs w p m D)
    (hd : Cap w bd (.pointer (some ⟨p, 0, none⟩)) 23) (hn : Cap w bn (.string nm) 9) (hs : Cap w bs_ (.string s) 9)
    (hl : s.size ≤ 140737488355328) (hfull : ((D.f n).getD Fl.zero).bytes.length + s.size ≤ 65536) :
    Calls Tryz.prog 44 #[.pointer (some ⟨bd, 0, none⟩), .pointer (some ⟨bn, 0, none⟩), .pointer (some ⟨bs_, 0, none⟩)] w fun e w' => e = .returned (.int .i64 0) ∧
      DkIs w' p m { D with f := upd D.f n (some ⟨((D.f n).getD Fl.zero).bytes ++ s.data.toList, ((D.f n).getD Fl.zero).synced⟩) } ∧ Fr [m] w w' := by
  have c1 := cell_of_one hd.out
  have c2 := cell_of_one hn.out
  have c3 := cell_of_one hs.out
  have c0 := blk_cell (v := .map (some m)) h.box (j := 0) rfl
  have hm := h.map
  obtain ⟨old, hold⟩ : ∃ x, (D.f n).getD Fl.zero = x := ⟨_, rfl⟩
  have k1 := fun W => look_run hm n W
  rw [← hnm.eq] at k1
  rw [hold] at k1 hfull
  obtain ⟨o, ho⟩ : ∃ o, o = bs old.bytes := ⟨_, rfl⟩
  have ho2 : o.size = old.bytes.length := by rw [ho, bs_size]
  simp only [fv, ← ho] at k1
  rw [← ho2] at hfull
  have hl0 := fun W => len_run hm 3 W
  have hsz := dat_size D.f
  obtain ⟨z, hz⟩ : ∃ z, Maps.size (dat D.f) = z := ⟨_, rfl⟩
  rw [hz] at hl0 hsz
  have hmlt := hm.lt
  have hal : ∀ o, (w.alloc o).heap[m]? = w.heap[m]? := fun o => Below.heap_alloc w o m hmlt
  have hdr : ∀ W : World, W.drew.heap = W.heap := fun _ => rfl
  have q0 := fun o => cell_alloc w o c0
  have q1 := fun o => cell_alloc w o c1
  have q2 := fun o => cell_alloc w o c2
  have q3 := fun o => cell_alloc w o c3
  have e1 := hnm.ne
  have e2 := hnm.ne'
  have e3 : (nm.size : Int) ≤ 12 := by have := hnm.le; omega
  have t1 : (s.size : Int) ≤ 65536 - (o.size : Int) := by omega
  have hz2 : (z : Int) < 4 := by omega
  have hX : ((w.alloc (.cells #[.string (o ++ s), .int .i64 old.synced] 82)).drew.drew).ownsMap Tryz.prog 9 fileR m 3 (dat D.f) := ownsMap_blk hm (Below.heap_alloc w _ m hmlt)
  obtain ⟨W1, hrun, hown1, hf1⟩ := upd_run hX n ⟨old.bytes ++ s.data.toList, old.synced⟩
  rw [← hnm.eq] at hrun
  simp only [fv, ← bs_append, bs_of, ← ho] at hrun
  have H := Lib.hid h
  have hF : Fr [m] w W1 := (((Fr.refl _ _).alloc _).drew.drew).trans hf1
  have hg := Dk.wf_get h.wf n
  have HW := Lib.hid (h.turn hF hown1 (Dk.wf_upd h.wf n _ (by simp only [List.length_append, Array.length_toList]; rw [← ho2]; exact hfull) (by rw [hold] at hg; simp only [List.length_append]; omega)))
  rw [← hold] at HW
  clear hold ho ho2 hz hm h hnm hd hn hs hX hf1 hown1 hg
  obtain ⟨b, hbb⟩ : ∃ b, (D.f n).isSome = b := ⟨_, rfl⟩
  rw [hbb] at k1
  clear hbb
  cases b
  all_goals
    go_enter Tryz.func44, Tryz.ntmps44
    go_wp2
    go_region
    all_goals go_wp2
    go_region
    all_goals go_wp2
    go_ret
    exact ⟨rfl, HW.out, hF⟩
end Go.Proofs.YtnlgmekkjibpmaaGreatDoor
/- DERIVED. The program's disk: the closures of Sync, Remove, Rename, and 'with'. -/
namespace Go.Proofs.YtnlgmekkjibpmaaGreatDoor
open Go Go.RowKit Go.Maps Go.WideMaps
set_option linter.unusedVariables false
set_option linter.unusedSimpArgs false

set_option maxRecDepth 100000 in
set_option maxHeartbeats 400000 in
theorem with1_none (p m bd bn ba : Nat) (D : Dk) (n : Nm) (nm : ByteArray) (hnm : IsNm nm n) (w : World) (h : DkIs w p m D)
    (hd : Cap w bd (.pointer (some ⟨p, 0, none⟩)) 23) (hn : Cap w bn (.string nm) 9)
    (hno : D.f n = none) :
    Calls Tryz.prog 93 #[.pointer (some ⟨bd, 0, none⟩), .pointer (some ⟨bn, 0, none⟩), .pointer (some ⟨ba, 0, none⟩)] w fun e w' => e = .returned (.int .i64 101) ∧ Fr [] w w' := by
  have c1 := cell_of_one hd.out
  have c2 := cell_of_one hn.out
  have c0 := blk_cell (v := .map (some m)) h.box (j := 0) rfl
  have hm := h.map
  have k1 := fun W => look_run hm n W
  rw [← hnm.eq, hno] at k1
  simp only [fv, Option.getD_none, Option.isSome_none, Fl.zero] at k1
  have hmlt := hm.lt
  have hal : ∀ o, (w.alloc o).heap[m]? = w.heap[m]? := fun o => Below.heap_alloc w o m hmlt
  have hdr : ∀ W : World, W.drew.heap = W.heap := fun _ => rfl
  have q0 := fun o => cell_alloc w o c0
  have q1 := fun o => cell_alloc w o c1
  have q2 := fun o => cell_alloc w o c2
  clear hno hm h hnm hd hn
  go_enter Tryz.func93, Tryz.ntmps93
  go_wp2
  go_region
  all_goals go_wp2
  go_ret
  exact ⟨rfl, ((Fr.refl _ _).alloc _).drew⟩

set_option maxRecDepth 100000 in
set_option maxHeartbeats 400000 in
theorem with1_some (p m bd bn ba : Nat) (D : Dk) (n : Nm) (nm : ByteArray) (hnm : IsNm nm n) (g : Nat) (lb : Array Value) (eg : ∀ args w, (callFunc g args).run Tryz.prog w = .ok (.enter g args) w) (w : World) (h : DkIs w p m D)
    (hd : Cap w bd (.pointer (some ⟨p, 0, none⟩)) 23) (hn : Cap w bn (.string nm) 9) (ha : Cap w ba (.func (.func g) #[] lb) 110)
    (x : Fl) (hx : D.f n = some x) (R : Int → World → Prop)
    (hact : ∀ W, Fr [] w W → Calls Tryz.prog g (#[fv x] ++ lb) W fun e w' => ∃ c, e = .returned (.int .i64 c) ∧ R c w') :
    Calls Tryz.prog 93 #[.pointer (some ⟨bd, 0, none⟩), .pointer (some ⟨bn, 0, none⟩), .pointer (some ⟨ba, 0, none⟩)] w fun e w' => ∃ c, e = .returned (.int .i64 c) ∧ R c w' := by
  have c1 := cell_of_one hd.out
  have c2 := cell_of_one hn.out
  have c3 := cell_of_one ha.out
  have c0 := blk_cell (v := .map (some m)) h.box (j := 0) rfl
  have hm := h.map
  have k1 := fun W => look_run hm n W
  rw [← hnm.eq, hx] at k1
  simp only [fv, Option.getD_some, Option.isSome_some] at k1
  obtain ⟨o, ho⟩ : ∃ o, o = bs x.bytes := ⟨_, rfl⟩
  rw [← ho] at k1
  have hmlt := hm.lt
  have hal : ∀ o, (w.alloc o).heap[m]? = w.heap[m]? := fun o => Below.heap_alloc w o m hmlt
  have hdr : ∀ W : World, W.drew.heap = W.heap := fun _ => rfl
  have q0 := fun o => cell_alloc w o c0
  have q1 := fun o => cell_alloc w o c1
  have q2 := fun o => cell_alloc w o c2
  have q3 := fun o => cell_alloc w o c3
  have HA := Lib.hid (hact ((w.alloc (.cells #[.string o, .int .i64 x.synced] 82)).drew) (((Fr.refl _ _).alloc _).drew))
  simp only [fv, ← ho] at HA
  clear hx hm h hnm hd hn hact ho ha
  go_enter Tryz.func93, Tryz.ntmps93
  go_wp2
  go_region
  all_goals go_wp2_with fail
  refine HA.out.mono ?_
  rintro e w' ⟨c, rfl, hR⟩
  go_wp2
  go_ret
  exact ⟨c, rfl, hR⟩

set_option maxRecDepth 100000 in
set_option maxHeartbeats 400000 in
theorem sync1_any (p m bd bn : Nat) (D : Dk) (n : Nm) (nm : ByteArray) (hnm : IsNm nm n) (w : World) (h : DkIs w p m D)
    (hd : Cap w bd (.pointer (some ⟨p, 0, none⟩)) 23) (hn : Cap w bn (.string nm) 9) (x : Fl) (hx : D.f n = some x) :
    Calls Tryz.prog 68 #[fv x, .pointer (some ⟨bd, 0, none⟩), .pointer (some ⟨bn, 0, none⟩)] w fun e w' => ∃ c, e = .returned (.int .i64 c) ∧ c = 0 ∧
      DkIs w' p m { D with f := upd D.f n (some ⟨x.bytes, x.bytes.length⟩) } ∧ Fr [m] w w' := by
  have c1 := cell_of_one hd.out
  have c2 := cell_of_one hn.out
  have c0 := blk_cell (v := .map (some m)) h.box (j := 0) rfl
  have hm := h.map
  obtain ⟨o, ho⟩ : ∃ o, o = bs x.bytes := ⟨_, rfl⟩
  have ho2 : x.bytes.length = o.size := by rw [ho, bs_size]
  have hb := (h.wf n x hx).1
  have hmlt := hm.lt
  have q0 := fun o => cell_alloc w o c0
  have q1 := fun o => cell_alloc w o c1
  have q2 := fun o => cell_alloc w o c2
  have hX : ((w.alloc (.cells #[.string o, .int .i64 o.size] 82)).drew).ownsMap Tryz.prog 9 fileR m 3 (dat D.f) := ownsMap_blk hm (Below.heap_alloc w _ m hmlt)
  obtain ⟨W1, hrun, hown1, hf1⟩ := upd_run hX n ⟨x.bytes, x.bytes.length⟩
  have hF : Fr [m] w W1 := (((Fr.refl _ _).alloc _).drew).trans hf1
  have HW := Lib.hid (h.turn hF hown1 (Dk.wf_upd h.wf n _ hb (Nat.le_refl _)))
  rw [← hnm.eq] at hrun
  simp only [fv, ← ho, ho2] at hrun
  rw [ho2] at hb
  unfold fv
  rw [← ho]
  clear hx hm h hnm hd hn hX hf1 hown1 ho ho2
  go_enter Tryz.func68, Tryz.ntmps68
  go_wp2
  go_region
  all_goals go_wp2
  go_ret
  exact ⟨0, rfl, rfl, HW.out, hF⟩

set_option maxRecDepth 100000 in
set_option maxHeartbeats 400000 in
theorem remove1_any (p m bd bn : Nat) (D : Dk) (n : Nm) (nm : ByteArray) (hnm : IsNm nm n) (w : World) (h : DkIs w p m D)
    (hd : Cap w bd (.pointer (some ⟨p, 0, none⟩)) 23) (hn : Cap w bn (.string nm) 9) (x : Fl) :
    Calls Tryz.prog 73 #[fv x, .pointer (some ⟨bd, 0, none⟩), .pointer (some ⟨bn, 0, none⟩)] w fun e w' => ∃ c, e = .returned (.int .i64 c) ∧ c = 0 ∧
      DkIs w' p m { D with f := upd D.f n none } ∧ Fr [m] w w' := by
  have c1 := cell_of_one hd.out
  have c2 := cell_of_one hn.out
  have c0 := blk_cell (v := .map (some m)) h.box (j := 0) rfl
  have hm := h.map
  obtain ⟨o, ho⟩ : ∃ o, o = bs x.bytes := ⟨_, rfl⟩
  have hmlt := hm.lt
  have q0 := fun o => cell_alloc w o c0
  have q1 := fun o => cell_alloc w o c1
  have q2 := fun o => cell_alloc w o c2
  have hX : ((w.alloc (.cells #[.string o, .int .i64 x.synced] 82)).drew).ownsMap Tryz.prog 9 fileR m 3 (dat D.f) := ownsMap_blk hm (Below.heap_alloc w _ m hmlt)
  obtain ⟨W1, hrun, hown1, hf1⟩ := del_run hX n 0
  have hF : Fr [m] w W1 := (((Fr.refl _ _).alloc _).drew).trans hf1
  have HW := Lib.hid (h.turn hF hown1 (Dk.wf_del h.wf n))
  rw [← hnm.eq] at hrun
  unfold fv
  rw [← ho]
  clear hm h hnm hd hn hX hf1 hown1 ho
  go_enter Tryz.func73, Tryz.ntmps73
  go_wp2
  go_region
  all_goals go_wp2
  go_ret
  exact ⟨0, rfl, rfl, HW.out, hF⟩

set_option maxRecDepth 100000 in
set_option maxHeartbeats 400000 in
theorem rename1_any (p m bd bt bf : Nat) (D : Dk) (nf nt : Nm) (mf mt : ByteArray) (hnf : IsNm mf nf) (hnt : IsNm mt nt) (w : World) (h : DkIs w p m D)
    (ht : Cap w bt (.string mt) 9) (hd : Cap w bd (.pointer (some ⟨p, 0, none⟩)) 23) (hn : Cap w bf (.string mf) 9) (x : Fl) (hx : D.f nf = some x) :
    Calls Tryz.prog 94 #[fv x, .pointer (some ⟨bt, 0, none⟩), .pointer (some ⟨bd, 0, none⟩), .pointer (some ⟨bf, 0, none⟩)] w fun e w' => ∃ c, e = .returned (.int .i64 c) ∧ c = 0 ∧
      DkIs w' p m { D with f := upd (upd D.f nf none) nt (some x) } ∧ Fr [m] w w' := by
  have c1 := cell_of_one hd.out
  have c2 := cell_of_one hn.out
  have c3 := cell_of_one ht.out
  have c0 := blk_cell (v := .map (some m)) h.box (j := 0) rfl
  have hm := h.map
  have hpm := ne_cells_map h.box hm
  have h1m := ne_cells_map hd.out hm
  have h2m := ne_cells_map hn.out hm
  have h3m := ne_cells_map ht.out hm
  obtain ⟨o, ho⟩ : ∃ o, o = bs x.bytes := ⟨_, rfl⟩
  have hmlt := hm.lt
  have q0 := fun o => cell_alloc w o c0
  have q1 := fun o => cell_alloc w o c1
  have q2 := fun o => cell_alloc w o c2
  have q3 := fun o => cell_alloc w o c3
  have hX : ((w.alloc (.cells #[.string o, .int .i64 x.synced] 82)).drew).ownsMap Tryz.prog 9 fileR m 3 (dat D.f) := ownsMap_blk hm (Below.heap_alloc w _ m hmlt)
  obtain ⟨W1, hrun, hown1, hf1⟩ := del_run hX nf 0
  have hF : Fr [m] w W1 := (((Fr.refl _ _).alloc _).drew).trans hf1
  have hY : (W1.drew).ownsMap Tryz.prog 9 fileR m 3 (dat (upd D.f nf none)) := hown1
  obtain ⟨W2, hrun2, hown2, hf2⟩ := upd_run hY nt x
  have hF2 : Fr [m] w W2 := hF.drew.trans hf2
  have HW := Lib.hid (h.turn hF2 hown2 (Dk.wf_upd (Dk.wf_del h.wf nf) nt x (h.wf nf x hx).1 (h.wf nf x hx).2))
  have keep : ∀ {b : Nat} {v : Value}, b ≠ m → w.cell? ⟨b, 0, none⟩ = some v → W1.cell? ⟨b, 0, none⟩ = some v := fun hb hc =>
    (World.cell?_of_block (hF.block _ (World.block_lt_of_cell? w _ hc) (by simpa using hb))).trans hc
  have r0 := keep hpm c0
  have r1 := keep h1m c1
  have r2 := keep h2m c2
  have r3 := keep h3m c3
  have hsz : w.heap.size < W1.heap.size := by have := hf1.size; simp at this; omega
  have r4 : W1.cell? ⟨w.heap.size, 0, none⟩ = some (.string o) := by
    have h1 := hf1.block w.heap.size (by simp) (by simp; omega)
    rw [show (w.alloc (.cells #[.string o, .int .i64 x.synced] 82)).drew.heap[w.heap.size]? = some (.cells #[.string o, .int .i64 x.synced] 82 (0, 0)) from (MapKept.heap_alloc w _).1] at h1
    exact blk_cell h1 rfl
  have r5 : W1.cell? ⟨w.heap.size, 1, none⟩ = some (.int .i64 x.synced) := by
    have h1 := hf1.block w.heap.size (by simp) (by simp; omega)
    rw [show (w.alloc (.cells #[.string o, .int .i64 x.synced] 82)).drew.heap[w.heap.size]? = some (.cells #[.string o, .int .i64 x.synced] 82 (0, 0)) from (MapKept.heap_alloc w _).1] at h1
    exact blk_cell h1 rfl
  rw [← hnf.eq] at hrun
  rw [← hnt.eq] at hrun2
  simp only [fv, ← ho] at hrun2
  unfold fv
  rw [← ho]
  have e1 := hnt.ne
  have e2 := hnt.ne'
  have e3 : (mt.size : Int) ≤ 12 := by have := hnt.le; omega
  clear hm h hnf hnt hd hn ht hX hY hf1 hown1 ho hF hf2 hown2 keep hx hpm h1m h2m h3m hsz
  go_enter Tryz.func94, Tryz.ntmps94
  go_wp2
  go_region
  all_goals go_wp2
  go_region
  all_goals go_wp2
  go_ret
  exact ⟨0, rfl, rfl, HW.out, hF2⟩

/-! #### do: the disk's acts -/
set_option maxHeartbeats 400000 in
theorem do_off (p : Nat) (mp : Value) (acts armed : Int) (fv : Value) (w : World) (h : w.heap[p]? = some (.cells #[mp, .int .i64 acts, .int .i64 armed, .bool true] 58 (0, 0))) :
    Calls Tryz.prog 43 #[.pointer (some ⟨p, 0, none⟩), fv] w fun e w' => e = .returned (.int .i64 100) ∧ w' = w := by
  have c3 := blk_cell (v := .bool true) h (j := 3) rfl
  clear h
  go_enter Tryz.func43, Tryz.ntmps43
  go_wp2
  go_ret
  exact ⟨rfl, rfl⟩

set_option maxHeartbeats 400000 in
theorem do_dies (p : Nat) (mp : Value) (acts armed : Int) (fv : Value) (w : World) (h : w.heap[p]? = some (.cells #[mp, .int .i64 acts, .int .i64 armed, .bool false] 58 (0, 0))) (h1 : 0 ≤ acts) (h2 : acts ≤ 1000000) (ha : (acts + 1 == armed) = true) :
    Calls Tryz.prog 43 #[.pointer (some ⟨p, 0, none⟩), fv] w fun e w' => e = .returned (.int .i64 100) ∧ w'.heap[p]? = some (.cells #[mp, .int .i64 (acts + 1), .int .i64 armed, .bool true] 58 (0, 0)) ∧ Fr [p] w w' := by
  have c3 := blk_cell (v := .bool false) h (j := 3) rfl
  have c2 := blk_cell (v := .int .i64 armed) h (j := 2) rfl
  have c1 := blk_cell (v := .int .i64 acts) h (j := 1) rfl
  have f3 := blk_free h 3
  have f1 := blk_free h 1
  have H := Lib.hid h
  clear h
  go_enter Tryz.func43, Tryz.ntmps43
  go_wp2
  go_region
  all_goals go_wp2
  go_ret
  refine ⟨rfl, ?_, ?_⟩
  · have := blk_set (blk_set H.out 1 (.int .i64 (acts + 1))) 3 (.bool true)
    simp at this; exact this
  · exact (((Fr.refl _ _).setCell (by simp) _).setCell (by simp) _).drew

set_option maxHeartbeats 400000 in
theorem do_on (p : Nat) (mp : Value) (acts armed : Int) (g : Nat) (lb : Array Value) (eg : ∀ args w, (callFunc g args).run Tryz.prog w = .ok (.enter g args) w)
    (w : World) (h : w.heap[p]? = some (.cells #[mp, .int .i64 acts, .int .i64 armed, .bool false] 58 (0, 0))) (h1 : 0 ≤ acts) (h2 : acts ≤ 1000000) (ha : (acts + 1 == armed) = false)
    (R : Int → World → Prop)
    (hact : ∀ W, W.heap[p]? = some (.cells #[mp, .int .i64 (acts + 1), .int .i64 armed, .bool false] 58 (0, 0)) → Fr [p] w W → Calls Tryz.prog g lb W fun e w' => ∃ c, e = .returned (.int .i64 c) ∧ R c w') :
    Calls Tryz.prog 43 #[.pointer (some ⟨p, 0, none⟩), .func (.func g) #[] lb] w fun e w' => ∃ c, e = .returned (.int .i64 c) ∧ R c w' := by
  have c3 := blk_cell (v := .bool false) h (j := 3) rfl
  have c2 := blk_cell (v := .int .i64 armed) h (j := 2) rfl
  have c1 := blk_cell (v := .int .i64 acts) h (j := 1) rfl
  have f3 := blk_free h 3
  have f1 := blk_free h 1
  have hB := blk_set (blk_set h 1 (.int .i64 (acts + 1))) 3 (.bool false)
  have HA := Lib.hid (hact (((w.setCell ⟨p, 1, none⟩ (.int .i64 (acts + 1))).setCell ⟨p, 3, none⟩ (.bool false)).drew) (by have h9 := hB; simp at h9; exact h9) ((((Fr.refl _ _).setCell (by simp) _).setCell (by simp) _).drew))
  clear h hact hB
  go_enter Tryz.func43, Tryz.ntmps43
  go_wp2
  go_region
  all_goals go_wp2_with fail
  refine HA.out.mono ?_
  rintro e w' ⟨c, rfl, hR⟩
  go_wp2
  go_ret
  exact ⟨c, rfl, hR⟩
end Go.Proofs.YtnlgmekkjibpmaaGreatDoor
/- DERIVED. The program's disk: its methods, by one plain account of a disk. -/
namespace Go.Proofs.YtnlgmekkjibpmaaGreatDoor
open Go Go.RowKit Go.Maps Go.WideMaps Go.Shelf
set_option linter.unusedVariables false
set_option linter.unusedSimpArgs false

def Dk.tick (D : Dk) : Dk := { D with acts := D.acts + 1, off := decide (D.acts + 1 = D.armed) }
def Dk.doing (D : Dk) (f : Dk → Nat × Dk) : Nat × Dk := if D.off = true then (100, D) else if D.acts + 1 = D.armed then (100, D.tick) else f D.tick
def Dk.app0 (n : Nm) (s : List UInt8) (D : Dk) : Nat × Dk :=
  if 65536 < ((D.f n).getD Fl.zero).bytes.length + s.length then (102, D)
  else (0, { D with f := upd D.f n (some ⟨((D.f n).getD Fl.zero).bytes ++ s, ((D.f n).getD Fl.zero).synced⟩) })
def Dk.sync0 (n : Nm) (D : Dk) : Nat × Dk := match D.f n with | none => (101, D) | some x => (0, { D with f := upd D.f n (some ⟨x.bytes, x.bytes.length⟩) })
def Dk.rem0 (n : Nm) (D : Dk) : Nat × Dk := match D.f n with | none => (101, D) | some _ => (0, { D with f := upd D.f n none })
def Dk.ren0 (nf nt : Nm) (D : Dk) : Nat × Dk := match D.f nf with | none => (101, D) | some x => (0, { D with f := upd (upd D.f nf none) nt (some x) })
def Dk.append (D : Dk) (n : Nm) (s : List UInt8) : Nat × Dk := D.doing (Dk.app0 n s)
def Dk.sync (D : Dk) (n : Nm) : Nat × Dk := D.doing (Dk.sync0 n)
def Dk.remove (D : Dk) (n : Nm) : Nat × Dk := D.doing (Dk.rem0 n)
def Dk.rename (D : Dk) (nf nt : Nm) : Nat × Dk := D.doing (Dk.ren0 nf nt)

theorem DkIs.lt {w : World} {p m : Nat} {D : Dk} (h : DkIs w p m D) : p < w.heap.size ∧ m < w.heap.size ∧ p ≠ m :=
  ⟨blk_lt h.box, h.map.lt, ne_cells_map h.box h.map⟩
theorem DkIs.ticked {w w' : World} {p m : Nat} {D : Dk} (h : DkIs w p m D) (hf : Fr [p] w w') (hb : w'.heap[p]? = some (.cells #[.map (some m), .int .i64 ((D.acts : Int) + 1), .int .i64 D.armed, .bool (decide (D.acts + 1 = D.armed))] 58 (0, 0))) :
    DkIs w' p m D.tick := by
  have hl := h.lt
  exact ⟨by rw [hb]; rfl, ownsMap_blk h.map (hf.block m hl.2.1 (by simpa using Ne.symm hl.2.2)), h.wf⟩

/-- what a call of do comes to, the closure's own answer given -/
theorem do_any (p m : Nat) (D : Dk) (f : Dk → Nat × Dk) (g : Nat) (lb : Array Value) (eg : ∀ args w, (callFunc g args).run Tryz.prog w = .ok (.enter g args) w)
    (w : World) (h : DkIs w p m D) (h2 : D.acts ≤ 1000000)
    (hact : ∀ W, D.off = false → D.acts + 1 ≠ D.armed → DkIs W p m D.tick → Fr [p] w W → Calls Tryz.prog g lb W fun e w' => ∃ c : Int, e = .returned (.int .i64 c) ∧ c = (f D.tick).1 ∧ DkIs w' p m (f D.tick).2 ∧ Fr [m] W w') :
    Calls Tryz.prog 43 #[.pointer (some ⟨p, 0, none⟩), .func (.func g) #[] lb] w fun e w' => ∃ c : Int, e = .returned (.int .i64 c) ∧ c = (D.doing f).1 ∧ DkIs w' p m (D.doing f).2 ∧ Fr [p, m] w w' := by
  by_cases hoff : D.off = true
  · have hb := h.box
    rw [hoff] at hb
    refine (do_off p _ _ _ _ w hb).mono ?_
    rintro e w' ⟨rfl, rfl⟩
    simp only [Dk.doing, hoff, if_true]
    exact ⟨100, rfl, rfl, h, Fr.refl _ _⟩
  · have hoff' : D.off = false := by simpa using hoff
    have hb := h.box
    rw [hoff'] at hb
    by_cases ha : D.acts + 1 = D.armed
    · refine (do_dies p _ _ _ _ w hb (by omega) (by omega) (by simpa using by omega)).mono ?_
      rintro e w' ⟨rfl, hb', hf⟩
      simp only [Dk.doing, hoff, ha, if_true, if_false]
      refine ⟨100, rfl, rfl, h.ticked hf (by rw [hb']; simp [ha]), hf.mono (by simp)⟩
    · refine (do_on p _ _ _ g lb eg w hb (by omega) (by omega) (by simpa using by omega) (fun c w' => c = (f D.tick).1 ∧ DkIs w' p m (f D.tick).2 ∧ Fr [p, m] w w') ?_).mono ?_
      · intro W hW hF
        refine (hact W hoff' ha (h.ticked hF (by rw [hW]; simp [ha])) hF).mono ?_
        rintro e w' ⟨c, he, hc, hD, hm⟩
        exact ⟨c, he, hc, hD, (hF.mono (by simp)).trans (hm.mono (by simp))⟩
      · rintro e w' ⟨c, he, hR⟩
        refine ⟨c, he, ?_⟩
        simp only [Dk.doing, hoff, ha, if_false]
        exact hR

theorem app0_full {n : Nm} {s : ByteArray} {D : Dk} (h : 65536 < ((D.f n).getD Fl.zero).bytes.length + s.size) : Dk.app0 n s.data.toList D = (102, D) := by
  unfold Dk.app0; rw [if_pos (by simpa using h)]
theorem app0_ok {n : Nm} {s : ByteArray} {D : Dk} (h : ¬ 65536 < ((D.f n).getD Fl.zero).bytes.length + s.size) : Dk.app0 n s.data.toList D = (0, { D with f := upd D.f n (some ⟨((D.f n).getD Fl.zero).bytes ++ s.data.toList, ((D.f n).getD Fl.zero).synced⟩) }) := by
  unfold Dk.app0; rw [if_neg (by simpa using h)]

set_option maxHeartbeats 400000 in
theorem disk_append (p m : Nat) (D : Dk) (n : Nm) (nm s : ByteArray) (hnm : IsNm nm n) (w : World) (h : DkIs w p m D) (h2 : D.acts ≤ 1000000) (hl : s.size ≤ 140737488355328) :
    Calls Tryz.prog 17 #[.pointer (some ⟨p, 0, none⟩), .string nm, .string s] w fun e w' => e = .returned (.int .i64 (D.append n s.data.toList).1) ∧ DkIs w' p m (D.append n s.data.toList).2 ∧ Fr [p, m] w w' := by
  have hlt := h.lt
  have H := Lib.hid h
  have HN := Lib.hid hnm
  clear h hnm
  go_enter Tryz.func17, Tryz.ntmps17
  go_wp2_with fail
  obtain ⟨hF, hd, hn, hs⟩ := caps3 w (.pointer (some ⟨p, 0, none⟩)) (.string nm) (.string s) 23 9 9
  refine (do_any p m D (Dk.app0 n s.data.toList) _ _ (enters_of Tryz.func44 (by kernel_rfl) rfl) _ (H.out.fr hF (by simp) (by simp)) h2 ?_).mono ?_
  · intro W hoff ha hD hFW
    have hd' := hd.fr hFW (by simp; omega)
    have hn' := hn.fr hFW (by simp; omega)
    have hs' := hs.fr hFW (by simp; omega)
    have e : (D.tick.f n).getD Fl.zero = (D.f n).getD Fl.zero := rfl
    by_cases hfull : 65536 < ((D.tick.f n).getD Fl.zero).bytes.length + s.size
    · refine (append_full p m _ _ _ D.tick n nm s HN.out W hD hd' hn' hs' hl hfull).mono ?_
      rintro e w' ⟨rfl, hf⟩
      rw [app0_full hfull]
      exact ⟨102, rfl, rfl, hD.fr hf (by simp) (by simp), hf.mono (by simp)⟩
    · refine (append_ok p m _ _ _ D.tick n nm s HN.out W hD hd' hn' hs' hl (by omega)).mono ?_
      rintro e w' ⟨rfl, hD', hf⟩
      rw [app0_ok hfull]
      exact ⟨0, rfl, rfl, hD', hf⟩
  · rintro e w' ⟨c, rfl, rfl, hD, hf⟩
    go_wp2
    go_ret
    exact ⟨rfl, hD, (hF.mono (by simp)).trans hf⟩

set_option maxHeartbeats 400000 in
theorem with_any (p m : Nat) (D : Dk) (n : Nm) (nm : ByteArray) (hnm : IsNm nm n) (fw : Dk → Nat × Dk) (g : Nat) (lb : Array Value) (eg : ∀ args w, (callFunc g args).run Tryz.prog w = .ok (.enter g args) w)
    (w : World) (h : DkIs w p m D) (h2 : D.acts ≤ 1000000) (hnone : D.tick.f n = none → fw D.tick = (101, D.tick))
    (hact : ∀ W x, D.tick.f n = some x → DkIs W p m D.tick → Fr [p] w W → Calls Tryz.prog g (#[fv x] ++ lb) W fun e w' => ∃ c : Int, e = .returned (.int .i64 c) ∧ c = (fw D.tick).1 ∧ DkIs w' p m (fw D.tick).2 ∧ Fr [m] W w') :
    Calls Tryz.prog 67 #[.pointer (some ⟨p, 0, none⟩), .string nm, .func (.func g) #[] lb] w fun e w' => e = .returned (.int .i64 (D.doing fw).1) ∧ DkIs w' p m (D.doing fw).2 ∧ Fr [p, m] w w' := by
  have hlt := h.lt
  have H := Lib.hid h
  have HN := Lib.hid hnm
  have HA := Lib.hid hact
  have HO := Lib.hid hnone
  have EG := Lib.hid eg
  clear h hnm hact hnone eg
  go_enter Tryz.func67, Tryz.ntmps67
  go_wp2_with fail
  obtain ⟨hF, hd, hn, hs⟩ := caps3 w (.pointer (some ⟨p, 0, none⟩)) (.string nm) (.func (.func g) #[] lb) 23 9 110
  refine (do_any p m D fw _ _ (enters_of Tryz.func93 (by kernel_rfl) rfl) _ (H.out.fr hF (by simp) (by simp)) h2 ?_).mono ?_
  · intro W hoff ha hD hFW
    have hd' := hd.fr hFW (by simp; omega)
    have hn' := hn.fr hFW (by simp; omega)
    have hs' := hs.fr hFW (by simp; omega)
    cases hx : D.tick.f n with
    | none =>
      refine (with1_none p m _ _ _ D.tick n nm HN.out W hD hd' hn' hx).mono ?_
      rintro e w' ⟨rfl, hf⟩
      rw [HO.out hx]
      exact ⟨101, rfl, rfl, hD.fr hf (by simp) (by simp), hf.mono (by simp)⟩
    | some x =>
      refine (with1_some p m _ _ _ D.tick n nm HN.out g lb EG.out W hD hd' hn' hs' x hx (fun c w' => c = (fw D.tick).1 ∧ DkIs w' p m (fw D.tick).2 ∧ Fr [m] W w') ?_).mono ?_
      · intro W2 hf2
        refine (HA.out W2 x hx (hD.fr hf2 (by simp) (by simp)) ((hF.mono (by simp)).trans (hFW.trans (hf2.mono (by simp))))).mono ?_
        rintro e w' ⟨c, he, hc, hD2, hf⟩
        exact ⟨c, he, hc, hD2, (hf2.mono (by simp)).trans hf⟩
      · rintro e w' ⟨c, he, hR⟩
        exact ⟨c, he, hR⟩
  · rintro e w' ⟨c, rfl, rfl, hD, hf⟩
    go_wp2
    go_ret
    exact ⟨rfl, hD, (hF.mono (by simp)).trans hf⟩

set_option maxHeartbeats 400000 in
theorem disk_sync (p m : Nat) (D : Dk) (n : Nm) (nm : ByteArray) (hnm : IsNm nm n) (w : World) (h : DkIs w p m D) (h2 : D.acts ≤ 1000000) :
    Calls Tryz.prog 38 #[.pointer (some ⟨p, 0, none⟩), .string nm] w fun e w' => e = .returned (.int .i64 (D.sync n).1) ∧ DkIs w' p m (D.sync n).2 ∧ Fr [p, m] w w' := by
  have hlt := h.lt
  have H := Lib.hid h
  have HN := Lib.hid hnm
  clear h hnm
  go_enter Tryz.func38, Tryz.ntmps38
  go_wp2_with fail
  obtain ⟨hF, hd, hn⟩ := caps2 w (.pointer (some ⟨p, 0, none⟩)) (.string nm) 23 9
  refine (with_any p m D n nm HN.out (Dk.sync0 n) _ _ (enters_of Tryz.func68 (by kernel_rfl) rfl) _ (H.out.fr hF (by simp) (by simp)) h2 (fun hx => by simp [Dk.sync0, hx]) ?_).mono ?_
  · intro W x hx hD hFW
    refine (sync1_any p m _ _ D.tick n nm HN.out W hD (hd.fr hFW (by simp; omega)) (hn.fr hFW (by simp; omega)) x hx).mono ?_
    rintro e w' ⟨c, he, rfl, hD', hf⟩
    simp only [Dk.sync0, hx]
    exact ⟨0, he, rfl, hD', hf⟩
  · rintro e w' ⟨rfl, hD, hf⟩
    go_wp2
    go_ret
    exact ⟨rfl, hD, (hF.mono (by simp)).trans hf⟩

set_option maxHeartbeats 400000 in
theorem disk_remove (p m : Nat) (D : Dk) (n : Nm) (nm : ByteArray) (hnm : IsNm nm n) (w : World) (h : DkIs w p m D) (h2 : D.acts ≤ 1000000) :
    Calls Tryz.prog 42 #[.pointer (some ⟨p, 0, none⟩), .string nm] w fun e w' => e = .returned (.int .i64 (D.remove n).1) ∧ DkIs w' p m (D.remove n).2 ∧ Fr [p, m] w w' := by
  have hlt := h.lt
  have H := Lib.hid h
  have HN := Lib.hid hnm
  clear h hnm
  go_enter Tryz.func42, Tryz.ntmps42
  go_wp2_with fail
  obtain ⟨hF, hd, hn⟩ := caps2 w (.pointer (some ⟨p, 0, none⟩)) (.string nm) 23 9
  refine (with_any p m D n nm HN.out (Dk.rem0 n) _ _ (enters_of Tryz.func73 (by kernel_rfl) rfl) _ (H.out.fr hF (by simp) (by simp)) h2 (fun hx => by simp [Dk.rem0, hx]) ?_).mono ?_
  · intro W x hx hD hFW
    refine (remove1_any p m _ _ D.tick n nm HN.out W hD (hd.fr hFW (by simp; omega)) (hn.fr hFW (by simp; omega)) x).mono ?_
    rintro e w' ⟨c, he, rfl, hD', hf⟩
    simp only [Dk.rem0, hx]
    exact ⟨0, he, rfl, hD', hf⟩
  · rintro e w' ⟨rfl, hD, hf⟩
    go_wp2
    go_ret
    exact ⟨rfl, hD, (hF.mono (by simp)).trans hf⟩
end Go.Proofs.YtnlgmekkjibpmaaGreatDoor
/- DERIVED. The program's disk: Rename, Read, and what only looks. -/
namespace Go.Proofs.YtnlgmekkjibpmaaGreatDoor
open Go Go.RowKit Go.Maps Go.WideMaps Go.Shelf
set_option linter.unusedVariables false
set_option linter.unusedSimpArgs false

set_option maxHeartbeats 400000 in
theorem disk_rename (p m : Nat) (D : Dk) (nf nt : Nm) (mf mt : ByteArray) (hnf : IsNm mf nf) (hnt : IsNm mt nt) (w : World) (h : DkIs w p m D) (h2 : D.acts ≤ 1000000) :
    Calls Tryz.prog 69 #[.pointer (some ⟨p, 0, none⟩), .string mf, .string mt] w fun e w' => e = .returned (.int .i64 (D.rename nf nt).1) ∧ DkIs w' p m (D.rename nf nt).2 ∧ Fr [p, m] w w' := by
  have hlt := h.lt
  have H := Lib.hid h
  have HN := Lib.hid hnf
  have HT := Lib.hid hnt
  clear h hnf hnt
  go_enter Tryz.func69, Tryz.ntmps69
  go_wp2_with fail
  obtain ⟨hF, hd, hn, ht⟩ := caps3 w (.pointer (some ⟨p, 0, none⟩)) (.string mf) (.string mt) 23 9 9
  refine (with_any p m D nf mf HN.out (Dk.ren0 nf nt) _ _ (enters_of Tryz.func94 (by kernel_rfl) rfl) _ (H.out.fr hF (by simp) (by simp)) h2 (fun hx => by simp [Dk.ren0, hx]) ?_).mono ?_
  · intro W x hx hD hFW
    refine (rename1_any p m _ _ _ D.tick nf nt mf mt HN.out HT.out W hD (ht.fr hFW (by simp; omega)) (hd.fr hFW (by simp; omega)) (hn.fr hFW (by simp; omega)) x hx).mono ?_
    rintro e w' ⟨c, he, rfl, hD', hf⟩
    simp only [Dk.ren0, hx]
    exact ⟨0, he, rfl, hD', hf⟩
  · rintro e w' ⟨rfl, hD, hf⟩
    go_wp2
    go_ret
    exact ⟨rfl, hD, (hF.mono (by simp)).trans hf⟩

def Dk.read (D : Dk) (n : Nm) : List UInt8 × Nat := if D.off = true then ([], 100) else match D.f n with | none => ([], 101) | some x => (x.bytes, 0)

set_option maxRecDepth 100000 in
set_option maxHeartbeats 400000 in
theorem disk_read (p m : Nat) (D : Dk) (n : Nm) (nm : ByteArray) (hnm : IsNm nm n) (w : World) (h : DkIs w p m D) :
    Calls Tryz.prog 58 #[.pointer (some ⟨p, 0, none⟩), .string nm] w fun e w' => e = .returned (.tuple #[.string (bs (D.read n).1), .int .i64 (D.read n).2]) ∧ Fr [] w w' := by
  by_cases hoff : D.off = true
  · have hb := h.box
    rw [hoff] at hb
    have c3 := blk_cell (v := .bool true) hb (j := 3) rfl
    have hr : D.read n = ([], 100) := by simp [Dk.read, hoff]
    rw [hr]
    clear hb hoff h hnm hr
    go_enter Tryz.func58, Tryz.ntmps58
    go_wp2
    go_ret2
    exact ⟨rfl, Fr.refl _ _⟩
  · have hoff' : D.off = false := by simpa using hoff
    have hb := h.box
    rw [hoff'] at hb
    have c3 := blk_cell (v := .bool false) hb (j := 3) rfl
    have c0 := blk_cell (v := .map (some m)) hb (j := 0) rfl
    have hm := h.map
    have k1 := look_run hm n w rfl
    rw [← hnm.eq] at k1
    cases hx : D.f n with
    | none =>
      have hr : D.read n = ([], 101) := by simp [Dk.read, hoff', hx]
      rw [hr]
      simp only [hx, fv, Option.getD_none, Option.isSome_none, Fl.zero] at k1
      clear hb hoff hoff' h hnm hr hx hm
      go_enter Tryz.func58, Tryz.ntmps58
      go_wp2
      go_ret2
      exact ⟨rfl, (Fr.refl _ _).alloc _⟩
    | some x =>
      have hr : D.read n = (x.bytes, 0) := by simp [Dk.read, hoff', hx]
      rw [hr]
      obtain ⟨o, ho⟩ : ∃ o, o = bs x.bytes := ⟨_, rfl⟩
      simp only [hx, fv, Option.getD_some, Option.isSome_some, ← ho] at k1 ⊢
      clear hb hoff hoff' h hnm hr hx hm ho
      go_enter Tryz.func58, Tryz.ntmps58
      go_wp2
      go_ret2
      exact ⟨rfl, (Fr.refl _ _).alloc _⟩

set_option maxHeartbeats 400000 in
theorem disk_off (p m : Nat) (D : Dk) (w : World) (h : DkIs w p m D) :
    Calls Tryz.prog 27 #[.pointer (some ⟨p, 0, none⟩)] w fun e w' => e = .returned (.bool D.off) ∧ w' = w := by
  have c := blk_cell (v := .bool D.off) h.box (j := 3) rfl
  clear h
  go_enter Tryz.func27, Tryz.ntmps27
  go_wp2
  go_ret
  exact ⟨rfl, rfl⟩
set_option maxHeartbeats 400000 in
theorem disk_acts (p m : Nat) (D : Dk) (w : World) (h : DkIs w p m D) :
    Calls Tryz.prog 25 #[.pointer (some ⟨p, 0, none⟩)] w fun e w' => e = .returned (.int .i64 D.acts) ∧ w' = w := by
  have c := blk_cell (v := .int .i64 D.acts) h.box (j := 1) rfl
  clear h
  go_enter Tryz.func25, Tryz.ntmps25
  go_wp2
  go_ret
  exact ⟨rfl, rfl⟩

def Dk.arm (D : Dk) (n : Int) : Nat × Dk := if n < 0 ∨ 1099511627776 < n then (1, D) else (0, { D with armed := if n = 0 then 0 else D.acts + n.toNat })

set_option maxHeartbeats 400000 in
theorem disk_arm (p m : Nat) (D : Dk) (n : Int) (w : World) (h : DkIs w p m D) (h2 : D.acts ≤ 1000000) :
    Calls Tryz.prog 26 #[.pointer (some ⟨p, 0, none⟩), .int .i64 n] w fun e w' => e = .returned (.int .i64 (D.arm n).1) ∧ DkIs w' p m (D.arm n).2 ∧ Fr [p] w w' := by
  have hlt := h.lt
  have c1 := blk_cell (v := .int .i64 D.acts) h.box (j := 1) rfl
  have c2 := blk_cell (v := .int .i64 D.armed) h.box (j := 2) rfl
  have f2 := blk_free h.box 2
  have s1 := blk_set h.box 2 (.int .i64 0)
  have s2 := fun v => blk_set s1 2 v
  have H := Lib.hid h
  have S1 := Lib.hid s1
  have S2 := Lib.hid s2
  obtain ⟨a, ha⟩ : ∃ a, a = D.acts := ⟨_, rfl⟩
  rw [← ha] at c1 h2
  clear h s1 s2
  have turn : ∀ (w' : World) (k : Nat), Fr [p] w w' → w'.heap[p]? = some (.cells #[.map (some m), .int .i64 D.acts, .int .i64 k, .bool D.off] 58 (0, 0)) → DkIs w' p m { D with armed := k } := fun w' k hf hb =>
    ⟨hb, ownsMap_blk H.out.map (hf.block m hlt.2.1 (by simpa using Ne.symm hlt.2.2)), H.out.wf⟩
  have T := Lib.hid turn
  clear turn
  by_cases hlo : n < 0
  · have hr := Lib.hid (show D.arm n = (1, D) by simp [Dk.arm, hlo])
    have HA := Lib.hid ha
    clear ha
    go_enter Tryz.func26, Tryz.ntmps26
    go_wp2
    go_ret
    rw [hr.out]
    exact ⟨rfl, H.out, Fr.refl _ _⟩
  · by_cases hhi : 1099511627776 < n
    · have hr := Lib.hid (show D.arm n = (1, D) by simp [Dk.arm, hhi])
      have HA := Lib.hid ha
      clear ha
      go_enter Tryz.func26, Tryz.ntmps26
      go_wp2
      go_ret
      rw [hr.out]
      exact ⟨rfl, H.out, Fr.refl _ _⟩
    · by_cases h0 : n = 0
      · subst h0
        have hr := Lib.hid (show D.arm 0 = (0, { D with armed := 0 }) by simp [Dk.arm])
        have HA := Lib.hid ha
        clear ha
        go_enter Tryz.func26, Tryz.ntmps26
        go_wp2
        go_ret
        rw [hr.out]
        have hF : Fr [p] w (w.setCell ⟨p, 2, none⟩ (.int .i64 0)) := (Fr.refl _ _).setCell (by simp) _
        exact ⟨rfl, T.out _ 0 hF S1.out, hF⟩
      · have hr := Lib.hid (show D.arm n = (0, { D with armed := a + n.toNat }) by simp [Dk.arm, hlo, hhi, h0, ha])
        have hpos : 0 < n := by omega
        obtain ⟨k, rfl⟩ := Int.eq_ofNat_of_zero_le (show 0 ≤ n by omega)
        have HA := Lib.hid ha
        clear ha h0
        go_enter Tryz.func26, Tryz.ntmps26
        go_wp2
        go_ret
        rw [hr.out]
        refine ⟨rfl, T.out _ (a + k) ?_ ?_, ?_⟩
        · exact ((Fr.refl _ _).setCell (by simp) _).setCell (by simp) _
        · have := S2.out (.int .i64 ((a : Int) + k))
          simpa [HA.out] using this
        · exact ((Fr.refl _ _).setCell (by simp) _).setCell (by simp) _

def Dk.empty : Dk := ⟨fun _ => none, 0, 0, false⟩
set_option maxHeartbeats 400000 in
theorem disk_new (w : World) :
    Calls Tryz.prog 9 #[] w fun e w' => ∃ p m, e = .returned (.pointer (some ⟨p, 0, none⟩)) ∧ w.heap.size ≤ p ∧ w.heap.size ≤ m ∧ DkIs w' p m Dk.empty ∧ Below w.heap.size w w' := by
  have hmm := @run_makeMap Tryz.prog
  go_enter Tryz.func9, Tryz.ntmps9
  go_wp2
  go_ret
  refine ⟨w.heap.size + 1, w.heap.size, rfl, by omega, by omega, ⟨?_, ?_, fun n x hx => by cases hx⟩, ((Below.refl _ _).alloc (Nat.le_refl _) _).alloc (by simp) _⟩
  · have := heap_new (w.alloc (.map #[] 0)) (.cells #[.map (some w.heap.size), .int .i64 0, .int .i64 0, .bool false] 58)
    simp only [World.size_alloc] at this
    exact this
  · exact ownsMap_blk ((World.ownsMap_made w _ _ _).mono (by omega)) (Below.heap_alloc _ _ _ (by simp))
end Go.Proofs.YtnlgmekkjibpmaaGreatDoor
/- DERIVED. The program's disk: List. -/
namespace Go.Proofs.YtnlgmekkjibpmaaGreatDoor
open Go Go.RowKit Go.Maps Go.WideMaps Go.Shelf Go.Sort
set_option linter.unusedVariables false
set_option linter.unusedSimpArgs false

theorem names_sorted (f : Nm → Option Fl) : ((names f).map Nm.l).mergeSort leB = (names f).map Nm.l := by
  apply List.mergeSort_of_pairwise
  unfold names
  cases h1 : f .log <;> cases h2 : f .new <;> cases h3 : f .snap <;> simp [h1, h2, h3, Nm.l] <;> decide

def strs (l : List Nm) : List Value := l.map fun n => .string (bs n.l)

set_option maxHeartbeats 1000000 in
theorem disk_list (p m : Nat) (D : Dk) (w : World) (h : DkIs w p m D) :
    Calls Tryz.prog 41 #[.pointer (some ⟨p, 0, none⟩)] w fun e w' => ∃ v, e = .returned v ∧ w'.ownsRow w.heap.size 9 1 v (names D.f).length (strs (names D.f)) ∧ Below w.heap.size w w' := by
  have c0 := blk_cell (v := .map (some m)) h.box (j := 0) rfl
  have HM := Lib.hid h.map
  have hs := dat_size D.f
  clear h
  refine (callsIn_wide (n := 6)).1 ?_
  have hfK : Fence.wide.fn 72 := trivial
  have hfS : Fence.wide.fn 71 := trivial
  refine callsIn_of_wp Tryz.func41 rfl trivial ?_ rfl
  simp only [Tryz.ntmps41, List.size_toArray, List.length_cons, List.length_nil, Nat.reduceAdd, Nat.reduceSub, Array.replicate_succ, Array.replicate_zero, List.push_toArray, List.append_toArray, List.nil_append, List.cons_append]
  gi_wp2_with (first
    | (gi_at_call 72; refine (Tryz.maps_Keys_72 _ _).mono ?_; rintro e w' ⟨rfl, rfl⟩)
    | (gi_at_call 71; refine (Tryz.slices_Sorted_keys_71_72 m 3 (dat D.f) fileR w HM.out (by simp only [maxLen]; omega) (by omega)).mono ?_; rintro e w' ⟨v, ss, rfl, hS, hrow, hnil, hb⟩))
  go_ret
  rw [dat_keys] at hS
  have hsort : ss.mergeSort (fun x y => decide (x ≤ y)) = (names D.f).map Nm.l := (mergeSort_of_perm hS).trans (names_sorted D.f)
  rw [hsort] at hrow
  have hlen : ss.length = (names D.f).length := by rw [hS.length_eq, List.length_map]
  rw [hlen] at hrow
  refine ⟨v, rfl, ?_, ((Below.refl _ w).alloc (Nat.le_refl _) _).trans (hb.mono (by simp))⟩
  have := ownsRow_base_a hrow (show w.heap.size ≤ _ by simp)
  have he : ((names D.f).map Nm.l).map encStr = strs (names D.f) := by simp [strs, encStr, bs]
  rwa [he] at this
end Go.Proofs.YtnlgmekkjibpmaaGreatDoor
/- DERIVED. Plain: bytes, sums, numbers in base 128; what the printed functions of layers 1 to 3 come to. -/
namespace Go.Proofs.YtnlgmekkjibpmaaGreatDoor
open Go Go.RowKit Go.Proofs.YtnlgmekkjibpmaaGreatDoorW.PrintWords Go.Proofs.YtnlgmekkjibpmaaGreatDoorW.PrintLast Go.Proofs.YtnlgmekkjibpmaaGreatDoorW.PrintMore Go.Proofs.YtnlgmekkjibpmaaGreatDoor.PWalFound
set_option linter.unusedVariables false
set_option linter.unusedSimpArgs false

/-! #### the sum -/
def adl (a b : Nat) : List UInt8 → Nat × Nat
  | [] => (a, b)
  | c :: l => adl ((a + c.toNat) % 65521) ((b + (a + c.toNat) % 65521) % 65521) l
theorem adl_lt : ∀ (l : List UInt8) (a b : Nat), a < 65521 → b < 65521 → (adl a b l).1 < 65521 ∧ (adl a b l).2 < 65521
  | [], a, b, ha, hb => ⟨ha, hb⟩
  | c :: l, a, b, ha, hb => adl_lt l _ _ (Nat.mod_lt _ (by omega)) (Nat.mod_lt _ (by omega))
def sumB (l : List UInt8) : Nat := (adl 1 0 l).2 * 65536 + (adl 1 0 l).1
def be4 (n : Nat) : List UInt8 := [UInt8.ofNat (n / 16777216 % 256), UInt8.ofNat (n / 65536 % 256), UInt8.ofNat (n / 256 % 256), UInt8.ofNat (n % 256)]
def sealedB (l : List UInt8) : List UInt8 := l ++ be4 (sumB l)
theorem sealedB_length (l : List UInt8) : (sealedB l).length = l.length + 4 := by simp [sealedB, be4]

theorem rest_int (x : Nat) (hx : x < 9223372036854775808) : adler_rest_int.f (x : Int) = some ((x % 65521 : Nat) : Int) := by
  unfold adler_rest_int.f
  have h : Int.tmod (x : Int) 65521 = ((x % 65521 : Nat) : Int) := by rw [Int.tmod_eq_emod_of_nonneg (by omega)]; omega
  rw [h, if_neg (by omega)]
theorem rest_u32 (x : Nat) (hx : x < 9223372036854775808) : adler_rest_uint32.f (x : Int) = some ((x % 65521 : Nat) : Int) := by
  unfold adler_rest_uint32.f
  have hw : wrap64 (x : Int) = x := by unfold wrap64; omega
  have h : Int.tmod (x : Int) 65521 = ((x % 65521 : Nat) : Int) := by rw [Int.tmod_eq_emod_of_nonneg (by omega)]; omega
  rw [hw, h, if_neg (by omega)]
theorem of_one : adler_of.f 1 = some (1, 0) := by
  unfold adler_of.f
  have h : Go.bits .and .u32 1 65535 = ((1 : Nat) : Int) := by decide +kernel
  rw [h, rest_u32 1 (by omega)]
  simp only [Option.bind_some]
  rw [show ((1 : Int) / 65536) = ((0 : Nat) : Int) from by decide, rest_u32 0 (by omega)]
  rfl
theorem pair_sum (a b : Nat) (ha : a < 65521) (hb : b < 65521) : adler_pair_sum.f (a : Int) (b : Int) = some ((b * 65536 + a : Nat) : Int) := by
  unfold adler_pair_sum.f
  rw [rest_int b (by omega)]
  simp only [Option.bind_some]
  rw [rest_int a (by omega)]
  simp only [Option.bind_some, Option.some.injEq]
  rw [Nat.mod_eq_of_lt ha, Nat.mod_eq_of_lt hb]
  have e1 : (((b : Int) % 4294967296) * 65536) % 4294967296 = ((b * 65536 : Nat) : Int) := by omega
  have e2 : (a : Int) % 4294967296 = (a : Int) := by omega
  rw [e1, e2, u32_or_nat _ _ (by omega) (by omega), nat_join 16 _ _ (by omega) (by omega)]
theorem bt_get (s : ByteArray) (i : Nat) (h : i < s.size) : bt s (i : Int) = ((s.data.toList[i]'(by simpa using h)).toNat : Int) := by
  unfold bt
  rw [dif_pos (by simpa using h)]
  rfl
theorem wn (x : Nat) (hx : x < 9223372036854775808) : wrap64 (x : Int) = x := by unfold wrap64; omega
theorem wn_add (a b : Nat) (h : a + b < 9223372036854775808) : wrap64 ((a : Int) + (b : Int)) = ((a + b : Nat) : Int) := by rw [← Int.natCast_add]; exact wn _ h
theorem wn_succ (a : Nat) (h : a + 1 < 9223372036854775808) : wrap64 ((a : Int) + 1) = ((a + 1 : Nat) : Int) := wn_add a 1 h
theorem len_toList (s : ByteArray) : s.data.toList.length = s.size := Array.length_toList
theorem drop_at (s : ByteArray) (i : Nat) (h : i < s.size) : s.data.toList.drop i = s.data.toList[i]'(by simpa using h) :: s.data.toList.drop (i + 1) := List.drop_eq_getElem_cons _

theorem add_loop (s : ByteArray) (hs : s.size < 9223372036854775807) (d : Nat) : ∀ (k i : Nat) (a b : Nat), i + d = s.size → d < k → a < 65521 → b < 65521 →
    adler_Add.l0 k s (s.size : Int) (i : Int) (a : Int) (b : Int) = some (((adl a b (s.data.toList.drop i)).2 * 65536 + (adl a b (s.data.toList.drop i)).1 : Nat) : Int) := by
  induction d with
  | zero =>
    intro k i a b hi hk ha hb
    obtain ⟨k, rfl⟩ : ∃ m, k = m + 1 := ⟨k - 1, by omega⟩
    simp only [adler_Add.l0]
    rw [if_neg (by omega), pair_sum a b ha hb]
    have : s.data.toList.drop i = [] := List.drop_eq_nil_of_le (by rw [len_toList]; omega)
    rw [this, adl]
    rw [Option.bind_some]
  | succ d ih =>
    intro k i a b hi hk ha hb
    obtain ⟨k, rfl⟩ : ∃ m, k = m + 1 := ⟨k - 1, by omega⟩
    have hlt : i < s.size := by omega
    have hc := UInt8.toNat_lt (s.data.toList[i]'(by simpa using hlt))
    simp only [adler_Add.l0]
    rw [if_pos (by omega), if_pos (by omega), if_pos (by omega), bt_get s i hlt]
    generalize hcc : s.data.toList[i]'(by simpa using hlt) = c at hc ⊢
    rw [wn _ (by omega), wn_add _ _ (by omega), rest_int _ (by omega)]
    rw [Option.bind_some]
    have hm : (a + c.toNat) % 65521 < 65521 := Nat.mod_lt _ (by omega)
    have hadl : adl a b (c :: s.data.toList.drop (i + 1)) = adl ((a + c.toNat) % 65521) ((b + (a + c.toNat) % 65521) % 65521) (s.data.toList.drop (i + 1)) := by rw [adl]
    generalize (a + c.toNat) % 65521 = m at hm hadl ⊢
    rw [wn_add _ _ (by omega), rest_int _ (by omega)]
    rw [Option.bind_some]
    have hm2 : (b + m) % 65521 < 65521 := Nat.mod_lt _ (by omega)
    generalize (b + m) % 65521 = m2 at hm2 hadl ⊢
    rw [wn_succ i (by omega), ih k (i + 1) _ _ (by omega) (by omega) hm hm2, drop_at s i hlt, hcc, hadl]

theorem sealed_f (s : ByteArray) (hs : s.size + 4 ≤ 9223372036854775807) : ∃ k, frame_sealed.f k s = some (bs (sealedB s.data.toList)) := by
  refine ⟨s.size + 1, ?_⟩
  unfold frame_sealed.f adler_Sum.f adler_Add.f
  rw [of_one]
  rw [Option.bind_some]
  have h := add_loop s (by omega) s.size (s.size + 1) 0 1 0 (by omega) (by omega) (by omega) (by omega)
  simp only [List.drop_zero] at h
  have hlt := adl_lt s.data.toList 1 0 (by omega) (by omega)
  rw [show ((1 : Nat) : Int) = 1 from rfl, show ((0 : Nat) : Int) = 0 from rfl] at h
  rw [h]
  rw [Option.bind_some]
  obtain ⟨n, hn⟩ : ∃ n, n = (adl 1 0 s.data.toList).2 * 65536 + (adl 1 0 s.data.toList).1 := ⟨_, rfl⟩
  rw [← hn, Option.bind_some]
  have hs4 : strOfNums [(n : Int) / 16777216 % 256, (n : Int) / 65536 % 256, (n : Int) / 256 % 256, (n : Int) % 256] = bs (be4 n) := by
    have a1 : ((n : Int) / 16777216 % 256).toNat = n / 16777216 % 256 := by omega
    have a2 : ((n : Int) / 65536 % 256).toNat = n / 65536 % 256 := by omega
    have a3 : ((n : Int) / 256 % 256).toNat = n / 256 % 256 := by omega
    have a4 : ((n : Int) % 256).toNat = n % 256 := by omega
    unfold strOfNums bs be4
    simp only [List.map_cons, List.map_nil, a1, a2, a3, a4]
  rw [Option.bind_some, hs4, bs_size, if_pos (by simp [be4]; omega)]
  simp only [Option.some.injEq]
  have e : sealedB s.data.toList = s.data.toList ++ be4 n := by rw [hn]; rfl
  rw [e, ← bs_append, bs_of]
end Go.Proofs.YtnlgmekkjibpmaaGreatDoor
/- DERIVED. Plain: a number taken up from a text, as the printed function of layer 1 does it. -/
namespace Go.Proofs.YtnlgmekkjibpmaaGreatDoor
open Go Go.RowKit Go.Proofs.YtnlgmekkjibpmaaGreatDoorW.PrintWords Go.Proofs.YtnlgmekkjibpmaaGreatDoorW.PrintLast Go.Proofs.YtnlgmekkjibpmaaGreatDoorW.PrintMore Go.Proofs.YtnlgmekkjibpmaaGreatDoor.PWalFound
set_option linter.unusedVariables false
set_option linter.unusedSimpArgs false

/-- What bytes say from the i-th digit on: the value, and how many bytes there are in all. -/
def decG (i : Nat) : List UInt8 → Option (Nat × Nat)
  | [] => none
  | b :: l =>
    if 10 ≤ i then none
    else if i = 9 ∧ 1 < b.toNat then none
    else if b.toNat < 128 then (if b.toNat = 0 ∧ 0 < i then none else some (b.toNat * 128 ^ i, i + 1))
    else (decG (i + 1) l).map fun r => ((b.toNat - 128) * 128 ^ i + r.1, r.2)
def unzz (u : Nat) : Int := if u % 2 = 0 then ((u / 2 : Nat) : Int) else -((u / 2 : Nat) : Int) - 1

theorem p128 (i : Nat) : 128 ^ i = 2 ^ (7 * i) := by rw [show (128 : Nat) = 2 ^ 7 from rfl, ← Nat.pow_mul]
theorem p128_le {i : Nat} (h : i ≤ 9) : 128 ^ i ≤ 9223372036854775808 := by
  rw [p128]; exact Nat.le_trans (Nat.pow_le_pow_right (by omega) (show 7 * i ≤ 63 by omega)) (by decide)
theorem andNot128 (b : Nat) (h : b < 256) : Go.bits .andNot .u8 (b : Int) 128 = ((b % 128 : Nat) : Int) := by
  have := u8_andNot_nat b 128 h (by omega)
  rw [show ((128 : Nat) : Int) = 128 from rfl] at this
  rw [this, show 255 - 128 = 2 ^ 7 - 1 from rfl, Nat.and_two_pow_sub_one_eq_mod]
theorem shl_digit (d i : Nat) (h : d * 128 ^ i < 18446744073709551616) (hi : i ≤ 9) : shl .u64 (d : Int) ((7 * i : Nat) : Int) = ((d * 128 ^ i : Nat) : Int) := by
  unfold shl
  rw [Int.toNat_natCast, show min (7 * i) IntKind.u64.bits = 7 * i from Nat.min_eq_left (by show 7 * i ≤ 64; omega)]
  have : (d : Int) * 2 ^ (7 * i) = ((d * 128 ^ i : Nat) : Int) := by rw [p128]; simp
  rw [this]
  unfold IntKind.wrap
  simp only [IntKind.bits, IntKind.signed]
  generalize d * 128 ^ i = x at h
  simp
  omega
theorem or_digit (x d i : Nat) (hx : x < 128 ^ i) (h : x + d * 128 ^ i < 18446744073709551616) (hi : i ≤ 9) : Go.bits .or .u64 (x : Int) ((d * 128 ^ i : Nat) : Int) = ((x + d * 128 ^ i : Nat) : Int) := by
  rw [u64_or_nat _ _ (by omega) (by omega), Nat.or_comm]
  rw [p128] at hx ⊢
  rw [nat_join (7 * i) _ _ (Nat.mul_mod_left _ _) hx, Nat.add_comm]
theorem unzz_bits (u : Nat) (h : u < 18446744073709551616) : Go.bits .xor .i64 (wrap64 ((u : Int) / 2)) (wrap64 (-(wrap64 (Go.bits .and .u64 (u : Int) 1)))) = unzz u := by
  have h1 : Go.bits .and .u64 (u : Int) 1 = ((u % 2 : Nat) : Int) := by
    have := u64_and_nat u 1 h (by omega)
    rw [show ((1 : Nat) : Int) = 1 from rfl] at this
    rw [this, show (1 : Nat) = 2 ^ 1 - 1 from rfl, Nat.and_two_pow_sub_one_eq_mod]
  have h2 : wrap64 ((u : Int) / 2) = ((u / 2 : Nat) : Int) := by
    rw [show (u : Int) / 2 = ((u / 2 : Nat) : Int) by omega]; exact wn _ (by omega)
  rw [h1, h2, wn _ (by omega)]
  unfold unzz
  rcases Nat.mod_two_eq_zero_or_one u with h0 | h0
  · rw [h0, if_pos rfl]
    have : wrap64 (-((0 : Nat) : Int)) = ((0 : Nat) : Int) := by unfold wrap64; omega
    rw [this]
    generalize hu : u / 2 = v
    have hv : v < 9223372036854775808 := by omega
    show IntKind.i64.wrap ((BitVec.ofInt 64 (v : Int) ^^^ BitVec.ofInt 64 ((0 : Nat) : Int)).toNat : Int) = _
    rw [show BitVec.ofInt 64 ((0 : Nat) : Int) = 0#64 from rfl, BitVec.xor_zero, BitVec.ofInt_natCast, BitVec.toNat_ofNat, Nat.mod_eq_of_lt (by omega), IntKind.wrap_i64]
    omega
  · rw [h0, if_neg (by omega)]
    have : wrap64 (-((1 : Nat) : Int)) = -1 := by unfold wrap64; omega
    rw [this]
    generalize hu : u / 2 = v
    have hv : v < 9223372036854775808 := by omega
    show IntKind.i64.wrap ((BitVec.ofInt 64 (v : Int) ^^^ BitVec.ofInt 64 (-1)).toNat : Int) = _
    rw [show BitVec.ofInt 64 (-1) = BitVec.allOnes 64 from rfl, BitVec.xor_allOnes, BitVec.toNat_not, BitVec.ofInt_natCast, BitVec.toNat_ofNat, Nat.mod_eq_of_lt (by omega), IntKind.wrap_i64]
    omega

theorem decG_count : ∀ (l : List UInt8) (i u c : Nat), decG i l = some (u, c) → i < c ∧ c ≤ i + l.length ∧ c ≤ 10
  | [], i, u, c, h => by simp [decG] at h
  | b :: l, i, u, c, h => by
    unfold decG at h
    split at h
    · cases h
    · split at h
      · cases h
      · split at h
        · split at h
          · cases h
          · injection h with h; injection h with h1 h2; subst h2; simp; omega
        · cases hr : decG (i + 1) l with
          | none => rw [hr] at h; cases h
          | some r =>
            obtain ⟨u', c'⟩ := r
            rw [hr] at h
            simp only [Option.map_some, Option.some.injEq, Prod.mk.injEq] at h
            obtain ⟨h1, rfl⟩ := h
            have := decG_count l (i + 1) u' c' hr
            simp only [List.length_cons]
            omega

/-- What the reader answers: the number, its place behind, whether it is bad. -/
def readAns (s : ByteArray) (at_ : Nat) (x : Nat) : Option (Nat × Nat) → Int × ByteArray × Int × Bool
  | some (u, c) => (unzz (x + u), s, ((at_ + c : Nat) : Int), false)
  | none => (0, s, (at_ : Int), true)

theorem digit_bound (b x i : Nat) (hx : x < 128 ^ i) (hi9 : i ≤ 9) (hb : ¬ (i = 9 ∧ 1 < b)) (hc : b < 256) : x + (b % 128) * 128 ^ i < 18446744073709551616 ∧ (i ≤ 8 → x + (b % 128) * 128 ^ i < 128 ^ (i + 1)) := by
  have h1 : (128 : Nat) ^ (i + 1) = 128 ^ i * 128 := Nat.pow_succ ..
  have h3 : (b % 128) * 128 ^ i ≤ 127 * 128 ^ i := Nat.mul_le_mul_right _ (by omega)
  constructor
  · by_cases h9 : i = 9
    · subst h9
      have : b % 128 ≤ 1 := by omega
      have h1 : (128 : Nat) ^ 9 = 9223372036854775808 := by decide
      rw [h1] at hx ⊢
      omega
    · have h2 := p128_le (show i + 1 ≤ 9 by omega)
      omega
  · intro _
    omega
theorem wrap_u64_small (d : Nat) (h : d < 18446744073709551616) : IntKind.u64.wrap (d : Int) = (d : Int) := by
  unfold IntKind.wrap; simp [IntKind.bits, IntKind.signed]; omega
theorem acc_step (b x i : Nat) (hx : x < 128 ^ i) (hi9 : i ≤ 9) (hb : ¬ (i = 9 ∧ 1 < b)) (hc : b < 256) :
    Go.bits .or .u64 (x : Int) (shl .u64 (IntKind.u64.wrap (Go.bits .andNot .u8 (b : Int) 128)) (wrap64 (7 * (i : Int)))) = ((x + (b % 128) * 128 ^ i : Nat) : Int) := by
  have hd := digit_bound b x i hx hi9 hb hc
  have hw7 : wrap64 (7 * (i : Int)) = ((7 * i : Nat) : Int) := by rw [show 7 * (i : Int) = ((7 * i : Nat) : Int) by omega]; exact wn _ (by omega)
  rw [andNot128 _ hc, wrap_u64_small _ (by omega), hw7, shl_digit _ _ (by omega) hi9, or_digit _ _ _ hx hd.1 hi9]

theorem j2_bad (k x i at_ : Nat) (s : ByteArray) (b : UInt8) (l : List UInt8) (hi9 : i ≤ 9) (hb : i = 9 ∧ 1 < b.toNat) :
    varint_Reader_Num.j2 (k + 1) (x : Int) (i : Int) (b.toNat : Int) true s (at_ : Int) false = some (readAns s at_ x (decG i (b :: l))) := by
  unfold varint_Reader_Num.j2 decG
  rw [if_pos rfl, if_neg (show ¬ 10 ≤ i by omega), if_pos hb]
  rfl
theorem j2_good (k x i at_ : Nat) (s : ByteArray) (b : UInt8) (l : List UInt8) (hx : x < 128 ^ i) (hi9 : i ≤ 9) (hat : at_ < 4611686018427387904) (hb : ¬ (i = 9 ∧ 1 < b.toNat))
    (hnext : i ≤ 8 → ∀ x' : Nat, x' < 128 ^ (i + 1) → varint_Reader_Num.l0 k (x' : Int) ((i + 1 : Nat) : Int) s (at_ : Int) false = some (readAns s at_ x' (decG (i + 1) l))) :
    varint_Reader_Num.j2 (k + 1) (x : Int) (i : Int) (b.toNat : Int) false s (at_ : Int) false = some (readAns s at_ x (decG i (b :: l))) := by
  have hc := UInt8.toNat_lt b
  have hd := digit_bound b.toNat x i hx hi9 hb hc
  have hor := acc_step b.toNat x i hx hi9 hb hc
  have hw7 : 0 ≤ wrap64 (7 * (i : Int)) := by rw [show 7 * (i : Int) = ((7 * i : Nat) : Int) by omega, wn _ (by omega)]; omega
  have hwi : wrap64 ((i : Int) + 1) = ((i + 1 : Nat) : Int) := wn_succ i (by omega)
  unfold varint_Reader_Num.j2 decG
  rw [if_neg (by simp), if_pos hw7, if_neg (show ¬ 10 ≤ i by omega), if_neg hb, hor]
  clear hor hw7
  generalize hB : b.toNat = n at *
  by_cases h128 : n < 128
  · have hmod : n % 128 = n := Nat.mod_eq_of_lt h128
    rw [hmod] at hd ⊢
    have hend : some (Go.bits .xor .i64 (wrap64 (((x + n * 128 ^ i : Nat) : Int) / 2)) (wrap64 (-(wrap64 (Go.bits .and .u64 ((x + n * 128 ^ i : Nat) : Int) 1)))), s, wrap64 ((at_ : Int) + wrap64 ((i : Int) + 1)), false) = some (readAns s at_ x (some (n * 128 ^ i, i + 1))) := by
      rw [unzz_bits _ hd.1, hwi, wn_add _ _ (by omega)]
      rfl
    rw [if_pos (show (n : Int) < 128 by omega), if_pos h128]
    by_cases hb0 : n = 0
    · rw [if_pos (show (n : Int) = 0 by omega)]
      by_cases hi0 : 0 < i
      · rw [if_pos (show (i : Int) > 0 by omega), if_pos ⟨hb0, hi0⟩]
        rfl
      · rw [if_neg (show ¬ (i : Int) > 0 by omega), if_neg (show ¬ (n = 0 ∧ 0 < i) by omega)]
        exact hend
    · rw [if_neg (show ¬ (n : Int) = 0 by omega), if_neg (show ¬ (n = 0 ∧ 0 < i) by omega)]
      exact hend
  · rw [if_neg (show ¬ (n : Int) < 128 by omega), if_neg h128, hwi]
    have hmod : n % 128 = n - 128 := by omega
    rw [hnext (by omega) _ (hd.2 (by omega)), hmod]
    cases decG (i + 1) l with
    | none => rfl
    | some r => simp only [readAns, Option.map_some, Nat.add_assoc]

theorem num_loop (s : ByteArray) (at_ : Nat) (hs : s.size < 4611686018427387904) (d : Nat) : ∀ (k i x : Nat), i + d = 10 → at_ + i ≤ s.size → 3 * d + 3 ≤ k → x < 128 ^ i →
    varint_Reader_Num.l0 k (x : Int) (i : Int) s (at_ : Int) false = some (readAns s at_ x (decG i (s.data.toList.drop (at_ + i)))) := by
  induction d with
  | zero =>
    intro k i x hi ha hk hx
    obtain rfl : i = 10 := by omega
    obtain ⟨k, rfl⟩ : ∃ m, k = m + 2 := ⟨k - 2, by omega⟩
    have e : readAns s at_ x (decG 10 (s.data.toList.drop (at_ + 10))) = (0, s, (at_ : Int), true) := by
      cases h : s.data.toList.drop (at_ + 10) <;> simp [decG, readAns]
    rw [e]
    unfold varint_Reader_Num.l0
    rw [if_neg (by simp)]
    unfold varint_Reader_Left.f
    rw [Option.bind_some]
    unfold varint_Reader_Num.j1 varint_Reader_spoil.f
    simp
  | succ d ih =>
    intro k i x hi ha hk hx
    obtain ⟨k, rfl⟩ : ∃ m, k = m + 3 := ⟨k - 3, by omega⟩
    have hi9 : i ≤ 9 := by omega
    have hleft : wrap64 ((s.size : Int) - (at_ : Int)) = ((s.size - at_ : Nat) : Int) := by
      rw [show (s.size : Int) - (at_ : Int) = ((s.size - at_ : Nat) : Int) by omega]; exact wn _ (by omega)
    unfold varint_Reader_Num.l0
    rw [if_neg (by simp)]
    unfold varint_Reader_Left.f
    rw [Option.bind_some]
    dsimp only
    rw [hleft]
    by_cases hlt : at_ + i < s.size
    · rw [if_pos (by omega), drop_at s _ hlt]
      have hbt := bt_get s (at_ + i) hlt
      generalize (s.data.toList[at_ + i]'(by simpa using hlt)) = b at hbt ⊢
      have hgood := fun hb => j2_good k x i at_ s b (s.data.toList.drop (at_ + i + 1)) hx hi9 (by omega) hb (fun h8 x' hx' => by
        have := ih k (i + 1) x' (by omega) (by omega) (by omega) hx'
        rwa [show at_ + (i + 1) = at_ + i + 1 by omega] at this)
      have hbad := fun hb => j2_bad k x i at_ s b (s.data.toList.drop (at_ + i + 1)) hi9 hb
      unfold varint_Reader_Num.j1
      rw [if_pos (by simp; omega), wn_add _ _ (by omega), if_pos (by omega), if_pos (by omega), hbt]
      by_cases h9 : i = 9
      · rw [if_pos (by omega)]
        by_cases hb1 : 1 < b.toNat
        · rw [show decide ((b.toNat : Int) > 1) = true by simp; omega]
          exact hbad ⟨h9, hb1⟩
        · rw [show decide ((b.toNat : Int) > 1) = false by simp; omega]
          exact hgood (by omega)
      · rw [if_neg (by omega)]
        exact hgood (by omega)
    · rw [if_neg (by omega)]
      have : s.data.toList.drop (at_ + i) = [] := List.drop_eq_nil_of_le (by rw [len_toList]; omega)
      rw [this]
      unfold varint_Reader_Num.j1 varint_Reader_spoil.f decG
      simp [readAns]

theorem num_f (s : ByteArray) (at_ : Nat) (hs : s.size < 4611686018427387904) (ha : at_ ≤ s.size) :
    varint_Reader_Num.f 40 s (at_ : Int) false = some (readAns s at_ 0 (decG 0 (s.data.toList.drop at_))) := by
  unfold varint_Reader_Num.f
  have := num_loop s at_ hs 10 40 0 0 rfl (by omega) (by omega) (by simp)
  exact this
end Go.Proofs.YtnlgmekkjibpmaaGreatDoor
/- DERIVED. A range over a function whose iterator keeps its own state in one captured box, and whose body never leaves the loop by a jump. -/
namespace Go.Proofs.YtnlgmekkjibpmaaGreatDoor
open Go Go.RowKit
set_option linter.unusedVariables false
set_option linter.unusedSimpArgs false

/-- What a round's body owes: it goes on; the blocks that are no cells, the invariant, the iterator's box. -/
def rfPost {α : Type} (B bu : Nat) (I : List α → World → Prop) (xs : List α) (W : World) : Exit → Act → World → Prop
  | .normal, _, W' => KeepsFrom B W W' ∧ I xs W' ∧ W'.heap[bu]? = W.heap[bu]?
  | _, _, _ => False

variable {F : Fence} {n : Nat} {P : Program} {w : World}

theorem wpIn_rangeBox {α : Type} {g : Operand} {ps : Array Tmp} {assign body : Code} {Q : Exit → Act → World → Prop} {a : Act} (hro : F.round = none) (h1 : 1 ≤ n) {gf : Nat} {lb : Array Value}
    (hg : a.eval g = .func (.func gf) #[] lb) (hFg : F.fn gf) (eg : ∀ args w, (callFunc gf args).run P w = .ok (.enter gf args) w) {encs : α → Array Value} {bu : Nat} {xs : List α}
    (hseq : ∀ (l : Nat) (J : List α → World → Prop) (W : World), W.heap[bu]? = w.heap[bu]? → (∀ pre W u, J pre W → J pre (W.setCell ⟨bu, 0, none⟩ u)) →
      (∀ pre x W1, J pre W1 → pre.length < xs.length → YieldAt F (n - 1 - 1) P l (encs x) W1 fun e W' => e = .returned (.bool true) ∧ J (pre ++ [x]) W' ∧ W'.heap[bu]? = W1.heap[bu]?) →
      J [] W → CallsIn F (n - 1) P gf (#[.func (.yield l) #[] #[]] ++ lb) W fun e W' => (∃ v, e = .returned v) ∧ J xs W')
    (hbu : bu < w.heap.size) (hps : ∀ x, (encs x).size = ps.size)
    (I : List α → World → Prop) (hI : OwnFrom w.heap.size I) (hIs : ∀ pre W u, I pre W → I pre (W.setCell ⟨bu, 0, none⟩ u)) (h0 : I [] w) (a₁ : α → Act)
    (hassign : ∀ (l : Nat) (x : α) (W : World) (K : Act → World → Prop), K (a₁ x) W → assign.wpIn (F.inRound l) (n - 1 - 1) P (Exit.then K (fun _ _ _ => False)) { tmps := (ps.zip (encs x)).foldl (fun t (p, v) => t.setIfInBounds p v) a.tmps, defers := [] } W)
    (hbody : ∀ (l : Nat) (pre : List α) (x : α) (W : World), I pre W → pre.length < xs.length → body.wpIn (F.inRound l) (n - 1 - 1) P (rfPost w.heap.size bu I (pre ++ [x]) W) (a₁ x) W)
    (hdone : ∀ (D : Nat) (W : World), w.heap.size ≤ D → I xs W → W.heap[D]? = some (.deferred (some [])) → Q .normal { a with defers := { target := .collected D, args := #[] } :: a.defers } W) :
    (Code.rangeFunc g ps assign body).wpIn F n P Q a w := by
  refine wpIn_rangeFunc ?_
  intro fn hfn
  rw [hro]
  obtain ⟨rec, hrec⟩ : ∃ rec : LoopState → Loop, rec = fun st => { state := st, pending := none, fn, tmps := a.tmps, params := ps, assign, body, defers := w.heap.size } := ⟨_, rfl⟩
  obtain ⟨W1, hW1⟩ : ∃ W1, (w.alloc (.deferred (some []))).alloc (.loop (rec .ready)) = W1 := ⟨_, rfl⟩
  have hL : W1.heap[w.heap.size + 1]? = some (.loop (rec .ready)) := by
    have h2 := World.alloc_heap_new (w.alloc (.deferred (some []))) (.loop (rec .ready))
    rw [World.size_alloc, hW1] at h2
    exact h2
  have hK : W1.heap[w.heap.size]? = some (.deferred (some [])) := by rw [← hW1]; exact (Below.heap_alloc _ _ _ (by simp)).trans (World.alloc_heap_new w _)
  have hB : W1.heap[bu]? = w.heap[bu]? := by rw [← hW1]; exact (Below.heap_alloc _ _ _ (by simp; omega)).trans (Below.heap_alloc _ _ _ hbu)
  have hI1 : I [] W1 := by rw [← hW1]; exact hI.alloc _ (hI.alloc _ h0)
  refine ⟨w.heap.size + 1, [{ target := .collected w.heap.size, args := #[] }], W1, { target := .fn (.func gf) lb, args := #[.func (.yield (w.heap.size + 1)) #[] #[]] }, W1, gf,
    #[.func (.yield (w.heap.size + 1)) #[] #[]] ++ lb, W1, ?_, ?_, ?_, ?_, fun _ => h1, ?_⟩
  · rw [← hW1, hrec]; exact run_enterLoop_outer _ _ _ _ _
  · simp only [resolve, hg]
    simp [go_sem]
  · intro f' hf'; simp [Target.leads] at hf'; subst hf'; exact hFg
  · simp [invoke, go_sem, eg]
  · refine (hseq (w.heap.size + 1) (fun pre W => I pre W ∧ W.heap[w.heap.size + 1]? = some (.loop (rec .ready)) ∧ W.heap[w.heap.size]? = some (.deferred (some []))) W1 hB ?_ ?_ ⟨hI1, hL, hK⟩).mono ?_
    · rintro pre W u ⟨hi, hl, hk⟩
      exact ⟨hIs pre W u hi, (Below.heap_setCell W _ u _ (by simp; omega)).trans hl, (Below.heap_setCell W _ u _ (by simp; omega)).trans hk⟩
    · rintro pre x W ⟨hi, hl, hk⟩ hlen
      have hlt : w.heap.size + 1 < W.heap.size := (Array.getElem?_eq_some_iff.1 hl).1
      have hy := run_yield (P := P) (args := encs x) hl (by rw [hrec]; exact hps x)
      rw [hrec] at hy
      refine ⟨fn, _, assign, body, hy, roundIn_of_wpIn hfn (hassign _ x W _ ?_)⟩
      refine ⟨_, run_beginRound hl (by rw [hrec]), ?_⟩
      have hl2 : (W.putObj (w.heap.size + 1) (.loop { rec .ready with state := .busy })).heap[w.heap.size + 1]? = some (.loop { rec .ready with state := .busy }) := World.putObj_heap_same hlt
      have hk2 : (W.putObj (w.heap.size + 1) (.loop { rec .ready with state := .busy })).heap[w.heap.size]? = some (.deferred (some [])) := (World.putObj_heap_other (by omega)).trans hk
      refine wpIn_mono (hbody _ pre x _ (hI.putObj _ hi (by omega) hl rfl) hlen) ?_
      rintro e a3 W3 hp
      cases e with
      | normal =>
        obtain ⟨hk3, hi3, hb3⟩ := hp
        have hl3 := hk3.same _ _ (by omega) hl2 rfl
        have hr := run_endRound (P := P) none hl3
        refine ⟨_, _, hr, rfl, ⟨hI.putObj _ hi3 (by omega) hl3 rfl, ?_, (World.putObj_heap_other (by omega)).trans (hk3.same _ _ (Nat.le_refl _) hk2 rfl)⟩, ?_⟩
        · rw [World.putObj_heap_same (Array.getElem?_eq_some_iff.1 hl3).1, hrec]; rfl
        · rw [World.putObj_heap_other (by omega), hb3, World.putObj_heap_other (by omega)]
      | _ => exact hp.elim
    · rintro e W2 ⟨⟨v, rfl⟩, hi, hl, hk⟩
      refine ⟨none, W2.putObj (w.heap.size + 1) (.loop { rec .ready with state := .exhausted }), ?_, hdone _ _ (Nat.le_refl _) (hI.putObj _ hi (by omega) hl rfl) ((World.putObj_heap_other (by omega)).trans hk)⟩
      have := run_endLoop (P := P) hl (by rw [hrec]; simp)
      rw [hrec] at this ⊢
      exact this
end Go.Proofs.YtnlgmekkjibpmaaGreatDoor
