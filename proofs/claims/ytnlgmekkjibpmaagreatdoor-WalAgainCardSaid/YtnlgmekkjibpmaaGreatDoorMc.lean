/- DERIVED. Contracts and plain laws under the statement: one merged text. -/
import Derived.Test.YtnlgmekkjibpmaaGreatDoorMa
import Derived.Test.YtnlgmekkjibpmaaGreatDoorProg
import Derived.WalkKit
import Derived.LaidEql
import Derived.Stop.Asserts
import Derived.RowKitTokens
import Derived.Lib.Hide
import Derived.Outline
import Derived.WalkSpells
import Derived.Test.YtnlgmekkjibpmaaGreatDoorMb
import Derived.OwnWalk
import Derived.LoopTactic
/- DERIVED. errors.As at a *failure: the error's own chain of 'doing's is gone down. -/
namespace Go.Proofs.YtnlgmekkjibpmaaGreatDoor
open Go Go.RowKit Go.Extern.Stop Go.Stop Go.Extern
set_option linter.unusedVariables false
set_option linter.unusedSimpArgs false

theorem as_nil (t : Value) (w : World) :
    Calls Tryz.prog 64 #[.nilIface, t] w fun e w' => e = .returned (.bool false) ∧ w' = w := by
  go_enter Tryz.func64, Tryz.ntmps64
  go_wp2
  go_ret
  exact ⟨rfl, rfl⟩

theorem ex_valueOf (t : Addr) (w : World) : (ReflectliteValue.unpack (.iface 108 (.pointer (some t)))).run Tryz.prog w
    = .ok (.agg #[.pointer (some ⟨1, 108, none⟩), .pointer (some ⟨w.heap.size, 0, none⟩), .int .u64 150]) (w.alloc (.cells #[.pointer (some t)] 108)) := by kernel_rfl
theorem ex_type (a : Addr) (w : World) : (ReflectliteValue.methodAny (ReflectliteValue.valueError "reflectlite.Value.Type" 0) (fun t _ _ _ => ReflectliteType.toType t) #[.agg #[.pointer (some ⟨1, 108, none⟩), .pointer (some a), .int .u64 150]]).run Tryz.prog w
    = .ok (.iface 156 (.agg #[.pointer (some ⟨1, 108, none⟩)])) w := by kernel_rfl
theorem ex_kindP (w : World) : ((ReflectliteType.abiMethod fun t => (fun a : Nat => Value.int IntKind.u8 (a : Int)) <$> Rtype.kind t) #[.pointer (some ⟨1, 108, none⟩)]).run Tryz.prog w = .ok (.int .u8 22) w := by kernel_rfl
theorem ex_kindE (w : World) : ((ReflectliteType.abiMethod fun t => (fun a : Nat => Value.int IntKind.u8 (a : Int)) <$> Rtype.kind t) #[.pointer (some ⟨1, 106, none⟩)]).run Tryz.prog w = .ok (.int .u8 2) w := by kernel_rfl
theorem ex_rlm (z : Sem Value) (f : TypeId → Addr → Nat → Nat → Sem Value) (v : Value) :
    ReflectliteValue.method z f #[v] = (do match ← ReflectliteValue.parts v with | none => z | some (t, a, fl) => f t a fl (fl % 32)) := rfl
theorem ex_partsP (a : Addr) (w : World) : (ReflectliteValue.parts (.agg #[.pointer (some ⟨1, 108, none⟩), .pointer (some a), .int .u64 150])).run Tryz.prog w = .ok (some (108, a, 150)) w := by kernel_rfl
theorem ex_isNil (a p : Addr) (W : World) (ha : W.cell? a = some (.pointer (some p))) :
    (ReflectliteValue.method (ReflectliteValue.valueError "reflectlite.Value.IsNil" 0) ReflectliteValue.isNil #[.agg #[.pointer (some ⟨1, 108, none⟩), .pointer (some a), .int .u64 150]]).run Tryz.prog W = .ok (.bool false) W := by
  rw [ex_rlm]
  simp only [Sem.run_bind, ex_partsP, Result.andThen]
  simp [ReflectliteValue.isNil, loadVar, isAgg, underlying, Tryz.underlying108, ha, Result.andThen]
theorem ex_elem (w : World) : (ReflectliteType.method ReflectliteType.elem #[.agg #[.pointer (some ⟨1, 108, none⟩)]]).run Tryz.prog w = .ok (.iface 156 (.agg #[.pointer (some ⟨1, 106, none⟩)])) w := by kernel_rfl
theorem ex_implements (w : World) : (ReflectliteType.relation "Implements" ReflectliteType.implements_ #[.agg #[.pointer (some ⟨1, 106, none⟩)], .iface 156 (.agg #[.pointer (some ⟨1, 63, none⟩)])]).run Tryz.prog w = .ok (.bool true) w := by kernel_rfl
theorem ex_typeOfF (v : Value) (w : World) : (ReflectliteType.typeOf #[.iface 106 v]).run Tryz.prog w = .ok (.iface 156 (.agg #[.pointer (some ⟨1, 106, none⟩)])) w := by kernel_rfl
theorem ex_typeOfD (v : Value) (w : World) : (ReflectliteType.typeOf #[.iface 74 v]).run Tryz.prog w = .ok (.iface 156 (.agg #[.pointer (some ⟨1, 74, none⟩)])) w := by kernel_rfl
theorem ex_assignF (w : World) : (ReflectliteType.relation "AssignableTo" ReflectliteType.assignableTo #[.agg #[.pointer (some ⟨1, 106, none⟩)], .iface 156 (.agg #[.pointer (some ⟨1, 106, none⟩)])]).run Tryz.prog w = .ok (.bool true) w := by kernel_rfl
theorem ex_assignD (w : World) : (ReflectliteType.relation "AssignableTo" ReflectliteType.assignableTo #[.agg #[.pointer (some ⟨1, 74, none⟩)], .iface 156 (.agg #[.pointer (some ⟨1, 106, none⟩)])]).run Tryz.prog w = .ok (.bool false) w := by kernel_rfl
theorem ex_valueOfF (e : Int) (w : World) : (ReflectliteValue.unpack (.iface 106 (.int .i64 e))).run Tryz.prog w
    = .ok (.agg #[.pointer (some ⟨1, 106, none⟩), .pointer (some ⟨w.heap.size, 0, none⟩), .int .u64 130]) (w.alloc (.cells #[.int .i64 e] 106)) := by kernel_rfl

theorem ex_elemOf (w : World) : (Rtype.elem? 108).run Tryz.prog w = .ok (some 106) w := by kernel_rfl
theorem ex_mk (p : Addr) (w : World) : (ReflectliteValue.mk 106 p ReflectliteValue.flagAddr).run Tryz.prog w = .ok (.agg #[.pointer (some ⟨1, 106, none⟩), .pointer (some p), .int .u64 386]) w := by kernel_rfl
theorem ex_elemV (a p : Addr) (W : World) (ha : W.cell? a = some (.pointer (some p))) :
    (ReflectliteValue.method (ReflectliteValue.valueError "reflectlite.Value.Elem" 0) ReflectliteValue.elem #[.agg #[.pointer (some ⟨1, 108, none⟩), .pointer (some a), .int .u64 150]]).run Tryz.prog W
      = .ok (.agg #[.pointer (some ⟨1, 106, none⟩), .pointer (some p), .int .u64 386]) W := by
  rw [ex_rlm]
  simp only [Sem.run_bind, ex_partsP, Result.andThen]
  simp [ReflectliteValue.elem, loadVar, isAgg, underlying, Tryz.underlying108, ha, Result.andThen, ex_elemOf, ex_mk]
theorem ex_rls (v x : Value) : ReflectliteValue.set #[v, x] = (do
    let (some (dst, a, fl), some (src, b, _)) := (← ReflectliteValue.parts v, ← ReflectliteValue.parts x)
      | unsupported (.noEntry "extern/(internal/reflectlite.Value).Set.zeroValue")
    if fl / ReflectliteValue.flagAddr % 2 == 0 then unsupported (.noEntry "extern/(internal/reflectlite.Value).Set.unaddressable")
    let val ← loadVar src b
    if ← Rtype.directlyAssignable dst src then storeVar dst a val
    else if ← Rtype.implements dst src then
      if (← Rtype.kind src) == 20 then
        match val with
        | .nilIface => unsupported (.noEntry "extern/reflectlite: a nil value of one interface type handed on as a value of another")
        | _ => storeVar dst a val
      else storeVar dst a (.iface src val)
    else panicString ("reflectlite.Set: value of type " ++ (← Rtype.spelt src) ++ " is not assignable to type " ++ (← Rtype.spelt dst))
    pure (.tuple #[])) := rfl
theorem ex_partsA (a : Addr) (w : World) : (ReflectliteValue.parts (.agg #[.pointer (some ⟨1, 106, none⟩), .pointer (some a), .int .u64 386])).run Tryz.prog w = .ok (some (106, a, 386)) w := by kernel_rfl
theorem ex_partsF (a : Addr) (w : World) : (ReflectliteValue.parts (.agg #[.pointer (some ⟨1, 106, none⟩), .pointer (some a), .int .u64 130])).run Tryz.prog w = .ok (some (106, a, 130)) w := by kernel_rfl
theorem ex_direct (w : World) : (Rtype.directlyAssignable 106 106).run Tryz.prog w = .ok true w := by kernel_rfl
theorem ex_size (w : World) : (sizeOf 106).run Tryz.prog w = .ok 1 w := by kernel_rfl
theorem ex_set (ta b : Addr) (e : Int) (old : Value) (W : World) (hb : W.cell? b = some (.int .i64 e)) (ht : W.cell? ta = some old) (hf : W.frozen? ta = false) :
    (ReflectliteValue.set #[.agg #[.pointer (some ⟨1, 106, none⟩), .pointer (some ta), .int .u64 386], .agg #[.pointer (some ⟨1, 106, none⟩), .pointer (some b), .int .u64 130]]).run Tryz.prog W
      = .ok (.tuple #[]) (W.setCell ta (.int .i64 e)) := by
  rw [ex_rls]
  simp only [Sem.run_bind, ex_partsA, ex_partsF, Result.andThen]
  simp [ReflectliteValue.flagAddr, loadVar, isAgg, underlying, Tryz.underlying106, hb, Result.andThen, ex_direct, storeVar, Value.cells, storeCells, Addr.add]
  rw [run_store Tryz.prog W ta _ _ (by rfl)]
  simp [ht, hf]

end Go.Proofs.YtnlgmekkjibpmaaGreatDoor
/- DERIVED. errors.as and errors.As by their walks. -/
namespace Go.Proofs.YtnlgmekkjibpmaaGreatDoor
open Go Go.RowKit Go.Extern.Stop Go.Stop Go.Extern
set_option linter.unusedVariables false
set_option linter.unusedSimpArgs false

theorem mt_assignableTo (h : Value) (w : World) : (Go.method 333 156 (.agg #[h]) "AssignableTo").run Tryz.prog w = .ok (169, .agg #[h]) w := by kernel_rfl
theorem mt_implements (h : Value) (w : World) : (Go.method 333 156 (.agg #[h]) "Implements").run Tryz.prog w = .ok (172, .agg #[h]) w := by kernel_rfl
theorem mt_elem (h : Value) (w : World) : (Go.method 333 156 (.agg #[h]) "Elem").run Tryz.prog w = .ok (171, .agg #[h]) w := by kernel_rfl

theorem ta_as (v : Value) (w : World) : (Instr.typeAssert (.iface 74 v) 63 161 true).run Tryz.prog w = .ok (.tuple #[.nilIface, .bool false]) w :=
  run_typeAssert_lacksB Tryz.underlying161 (by kernel_rfl) (by kernel_rfl) v _ w
theorem ta_unwrap (v : Value) (w : World) : (Instr.typeAssert (.iface 74 v) 63 164 true).run Tryz.prog w = .ok (.tuple #[.iface 74 v, .bool true]) w :=
  run_typeAssert_hasB Tryz.underlying164 (by kernel_rfl) v _ w
theorem mt_unwrap (x y : Value) (w : World) : (Go.method 333 74 (.agg #[x, y]) "Unwrap").run Tryz.prog w = .ok (163, .agg #[x, y]) w := by kernel_rfl
/-- errors.As's loop: the chain. -/
def chainV : List ByteArray → Int → Value
  | [], e => .iface 106 (.int .i64 e)
  | d :: ds, e => .iface 74 (.agg #[.string d, chainV ds e])


def vP (a : Addr) : Value := .agg #[.pointer (some ⟨1, 108, none⟩), .pointer (some a), .int .u64 150]

set_option maxRecDepth 100000 in
set_option maxHeartbeats 1000000 in
theorem as_hit0 (e : Int) (t a : Addr) (old tgt : Value) (w : World) (ht0 : w.cell? t = some old) (hf0 : w.frozen? t = false) (ha : w.cell? a = some (.pointer (some t))) :
    Calls Tryz.prog 89 #[.iface 106 (.int .i64 e), tgt, .agg #[.pointer (some ⟨1, 108, none⟩), .pointer (some a), .int .u64 150], .iface 156 (.agg #[.pointer (some ⟨1, 106, none⟩)])] w fun ev w' => ev = .returned (.bool true) ∧ w'.cell? t = some (.int .i64 e) ∧ Fr [t.block] w w' := by
  have hTO := @run_callFunc_extern Tryz.prog 110 _ ReflectliteType.typeOf Tryz.func110 (by kernel_rfl) (by kernel_rfl) (by kernel_rfl) (by kernel_rfl)
  have hAT := @run_callFunc_extern Tryz.prog 169 _ (ReflectliteType.relation "AssignableTo" ReflectliteType.assignableTo) Tryz.func169 (by kernel_rfl) (by kernel_rfl) (by kernel_rfl) (by kernel_rfl)
  have hVE := @run_callFunc_extern Tryz.prog 111 _ (ReflectliteValue.method (ReflectliteValue.valueError "reflectlite.Value.Elem" 0) ReflectliteValue.elem) Tryz.func111 (by kernel_rfl) (by kernel_rfl) (by kernel_rfl) (by kernel_rfl)
  have hVO := @run_callFunc_extern Tryz.prog 86 _ (fun args => ReflectliteValue.unpack (args.getD 0 (.tuple #[]))) Tryz.func86 (by kernel_rfl) (by kernel_rfl) (by kernel_rfl) (by kernel_rfl)
  have hSE := @run_callFunc_extern Tryz.prog 112 _ ReflectliteValue.set Tryz.func112 (by kernel_rfl) (by kernel_rfl) (by kernel_rfl) (by kernel_rfl)
  have mA := mt_assignableTo
  have fT := ex_typeOfF
  have fA := ex_assignF
  have fV := ex_valueOfF
  have fE := fun W h => ex_elemV a t W h
  have q1 := fun o => cell_alloc w o ha
  have r1 := fun o o' => cell_alloc _ o' (cell_alloc w o ha)
  have r2 := fun o o' o'' => cell_alloc _ o'' (cell_alloc _ o' (cell_alloc w o ha))
  have htl := World.block_lt_of_cell? w t ht0
  have st := fun (b : Addr) (W : World) (hb : W.cell? b = some (.int .i64 e)) (ht : W.cell? t = some old) (hf : W.frozen? t = false) => ex_set t b e old W hb ht hf
  have q2 := fun o => cell_alloc w o ht0
  have q3 := fun o o' => cell_alloc _ o' (cell_alloc w o ht0)
  have q4 := fun o o' o'' => cell_alloc _ o'' (cell_alloc _ o' (cell_alloc w o ht0))
  have q5 := fun o o' o'' o3 => cell_alloc _ o3 (cell_alloc _ o'' (cell_alloc _ o' (cell_alloc w o ht0)))
  have f1 : ∀ o, (w.alloc o).frozen? t = false := fun o => by rw [World.frozen?_alloc_old _ _ t (Nat.ne_of_lt htl)]; exact hf0
  have f2 : ∀ o o', ((w.alloc o).alloc o').frozen? t = false := fun o o' => by rw [World.frozen?_alloc_old _ _ t (by simp; omega)]; exact f1 o
  have f3 : ∀ o o' o'', (((w.alloc o).alloc o').alloc o'').frozen? t = false := fun o o' o'' => by rw [World.frozen?_alloc_old _ _ t (by simp; omega)]; exact f2 o o'
  have f4 : ∀ o o' o'' o3, ((((w.alloc o).alloc o').alloc o'').alloc o3).frozen? t = false := fun o o' o'' o3 => by rw [World.frozen?_alloc_old _ _ t (by simp; omega)]; exact f3 o o' o''
  go_enter Tryz.func89, Tryz.ntmps89
  go_wp2
  refine wp_loop_rounds 1 ?_
  rw [rounds_succ]
  go_wp2
  go_ret
  exact ⟨rfl, World.cell?_setCell_same' _ _ _ (by simp [q2, q3, q4, q5]), by
    refine Fr.setCell ?_ (by simp) _
    repeat (first | exact Fr.refl _ _ | refine Fr.alloc ?_ _)⟩
set_option maxRecDepth 100000 in
set_option maxHeartbeats 1000000 in
theorem as_hit1 (d : ByteArray) (e : Int) (t a : Addr) (old tgt : Value) (w : World) (ht0 : w.cell? t = some old) (hf0 : w.frozen? t = false) (ha : w.cell? a = some (.pointer (some t))) :
    Calls Tryz.prog 89 #[.iface 74 (.agg #[.string d, .iface 106 (.int .i64 e)]), tgt, .agg #[.pointer (some ⟨1, 108, none⟩), .pointer (some a), .int .u64 150], .iface 156 (.agg #[.pointer (some ⟨1, 106, none⟩)])] w fun ev w' => ev = .returned (.bool true) ∧ w'.cell? t = some (.int .i64 e) ∧ Fr [t.block] w w' := by
  have hTO := @run_callFunc_extern Tryz.prog 110 _ ReflectliteType.typeOf Tryz.func110 (by kernel_rfl) (by kernel_rfl) (by kernel_rfl) (by kernel_rfl)
  have hAT := @run_callFunc_extern Tryz.prog 169 _ (ReflectliteType.relation "AssignableTo" ReflectliteType.assignableTo) Tryz.func169 (by kernel_rfl) (by kernel_rfl) (by kernel_rfl) (by kernel_rfl)
  have hVE := @run_callFunc_extern Tryz.prog 111 _ (ReflectliteValue.method (ReflectliteValue.valueError "reflectlite.Value.Elem" 0) ReflectliteValue.elem) Tryz.func111 (by kernel_rfl) (by kernel_rfl) (by kernel_rfl) (by kernel_rfl)
  have hVO := @run_callFunc_extern Tryz.prog 86 _ (fun args => ReflectliteValue.unpack (args.getD 0 (.tuple #[]))) Tryz.func86 (by kernel_rfl) (by kernel_rfl) (by kernel_rfl) (by kernel_rfl)
  have hSE := @run_callFunc_extern Tryz.prog 112 _ ReflectliteValue.set Tryz.func112 (by kernel_rfl) (by kernel_rfl) (by kernel_rfl) (by kernel_rfl)
  have mA := mt_assignableTo
  have fT := ex_typeOfF
  have fA := ex_assignF
  have gT := ex_typeOfD
  have gA := ex_assignD
  have t1 := ta_as
  have t2 := ta_unwrap
  have mU := mt_unwrap
  have fV := ex_valueOfF
  have fE := fun W h => ex_elemV a t W h
  have q1 := fun o => cell_alloc w o ha
  have r1 := fun o o' => cell_alloc _ o' (cell_alloc w o ha)
  have r2 := fun o o' o'' => cell_alloc _ o'' (cell_alloc _ o' (cell_alloc w o ha))
  have htl := World.block_lt_of_cell? w t ht0
  have st := fun (b : Addr) (W : World) (hb : W.cell? b = some (.int .i64 e)) (ht : W.cell? t = some old) (hf : W.frozen? t = false) => ex_set t b e old W hb ht hf
  have q2 := fun o => cell_alloc w o ht0
  have q3 := fun o o' => cell_alloc _ o' (cell_alloc w o ht0)
  have q4 := fun o o' o'' => cell_alloc _ o'' (cell_alloc _ o' (cell_alloc w o ht0))
  have q5 := fun o o' o'' o3 => cell_alloc _ o3 (cell_alloc _ o'' (cell_alloc _ o' (cell_alloc w o ht0)))
  have f1 : ∀ o, (w.alloc o).frozen? t = false := fun o => by rw [World.frozen?_alloc_old _ _ t (Nat.ne_of_lt htl)]; exact hf0
  have f2 : ∀ o o', ((w.alloc o).alloc o').frozen? t = false := fun o o' => by rw [World.frozen?_alloc_old _ _ t (by simp; omega)]; exact f1 o
  have f3 : ∀ o o' o'', (((w.alloc o).alloc o').alloc o'').frozen? t = false := fun o o' o'' => by rw [World.frozen?_alloc_old _ _ t (by simp; omega)]; exact f2 o o'
  have f4 : ∀ o o' o'' o3, ((((w.alloc o).alloc o').alloc o'').alloc o3).frozen? t = false := fun o o' o'' o3 => by rw [World.frozen?_alloc_old _ _ t (by simp; omega)]; exact f3 o o' o''
  go_enter Tryz.func89, Tryz.ntmps89
  go_wp2
  refine wp_loop_rounds 2 ?_
  rw [rounds_succ]
  go_wp2
  rw [rounds_succ]
  go_wp2
  go_ret
  exact ⟨rfl, World.cell?_setCell_same' _ _ _ (by simp [q2, q3, q4, q5]), by
    refine Fr.setCell ?_ (by simp) _
    repeat (first | exact Fr.refl _ _ | refine Fr.alloc ?_ _)⟩
set_option maxRecDepth 100000 in
set_option maxHeartbeats 1000000 in
theorem as_hit2 (d d' : ByteArray) (e : Int) (t a : Addr) (old tgt : Value) (w : World) (ht0 : w.cell? t = some old) (hf0 : w.frozen? t = false) (ha : w.cell? a = some (.pointer (some t))) :
    Calls Tryz.prog 89 #[.iface 74 (.agg #[.string d, .iface 74 (.agg #[.string d', .iface 106 (.int .i64 e)])]), tgt, .agg #[.pointer (some ⟨1, 108, none⟩), .pointer (some a), .int .u64 150], .iface 156 (.agg #[.pointer (some ⟨1, 106, none⟩)])] w fun ev w' => ev = .returned (.bool true) ∧ w'.cell? t = some (.int .i64 e) ∧ Fr [t.block] w w' := by
  have hTO := @run_callFunc_extern Tryz.prog 110 _ ReflectliteType.typeOf Tryz.func110 (by kernel_rfl) (by kernel_rfl) (by kernel_rfl) (by kernel_rfl)
  have hAT := @run_callFunc_extern Tryz.prog 169 _ (ReflectliteType.relation "AssignableTo" ReflectliteType.assignableTo) Tryz.func169 (by kernel_rfl) (by kernel_rfl) (by kernel_rfl) (by kernel_rfl)
  have hVE := @run_callFunc_extern Tryz.prog 111 _ (ReflectliteValue.method (ReflectliteValue.valueError "reflectlite.Value.Elem" 0) ReflectliteValue.elem) Tryz.func111 (by kernel_rfl) (by kernel_rfl) (by kernel_rfl) (by kernel_rfl)
  have hVO := @run_callFunc_extern Tryz.prog 86 _ (fun args => ReflectliteValue.unpack (args.getD 0 (.tuple #[]))) Tryz.func86 (by kernel_rfl) (by kernel_rfl) (by kernel_rfl) (by kernel_rfl)
  have hSE := @run_callFunc_extern Tryz.prog 112 _ ReflectliteValue.set Tryz.func112 (by kernel_rfl) (by kernel_rfl) (by kernel_rfl) (by kernel_rfl)
  have mA := mt_assignableTo
  have fT := ex_typeOfF
  have fA := ex_assignF
  have gT := ex_typeOfD
  have gA := ex_assignD
  have t1 := ta_as
  have t2 := ta_unwrap
  have mU := mt_unwrap
  have fV := ex_valueOfF
  have fE := fun W h => ex_elemV a t W h
  have q1 := fun o => cell_alloc w o ha
  have r1 := fun o o' => cell_alloc _ o' (cell_alloc w o ha)
  have r2 := fun o o' o'' => cell_alloc _ o'' (cell_alloc _ o' (cell_alloc w o ha))
  have htl := World.block_lt_of_cell? w t ht0
  have st := fun (b : Addr) (W : World) (hb : W.cell? b = some (.int .i64 e)) (ht : W.cell? t = some old) (hf : W.frozen? t = false) => ex_set t b e old W hb ht hf
  have q2 := fun o => cell_alloc w o ht0
  have q3 := fun o o' => cell_alloc _ o' (cell_alloc w o ht0)
  have q4 := fun o o' o'' => cell_alloc _ o'' (cell_alloc _ o' (cell_alloc w o ht0))
  have q5 := fun o o' o'' o3 => cell_alloc _ o3 (cell_alloc _ o'' (cell_alloc _ o' (cell_alloc w o ht0)))
  have f1 : ∀ o, (w.alloc o).frozen? t = false := fun o => by rw [World.frozen?_alloc_old _ _ t (Nat.ne_of_lt htl)]; exact hf0
  have f2 : ∀ o o', ((w.alloc o).alloc o').frozen? t = false := fun o o' => by rw [World.frozen?_alloc_old _ _ t (by simp; omega)]; exact f1 o
  have f3 : ∀ o o' o'', (((w.alloc o).alloc o').alloc o'').frozen? t = false := fun o o' o'' => by rw [World.frozen?_alloc_old _ _ t (by simp; omega)]; exact f2 o o'
  have f4 : ∀ o o' o'' o3, ((((w.alloc o).alloc o').alloc o'').alloc o3).frozen? t = false := fun o o' o'' o3 => by rw [World.frozen?_alloc_old _ _ t (by simp; omega)]; exact f3 o o' o''
  go_enter Tryz.func89, Tryz.ntmps89
  go_wp2
  refine wp_loop_rounds 3 ?_
  rw [rounds_succ]
  go_wp2
  rw [rounds_succ]
  go_wp2
  rw [rounds_succ]
  go_wp2
  go_ret
  exact ⟨rfl, World.cell?_setCell_same' _ _ _ (by simp [q2, q3, q4, q5]), by
    refine Fr.setCell ?_ (by simp) _
    repeat (first | exact Fr.refl _ _ | refine Fr.alloc ?_ _)⟩
end Go.Proofs.YtnlgmekkjibpmaaGreatDoor
/- DERIVED. errors.As at a *failure, and code. -/
namespace Go.Proofs.YtnlgmekkjibpmaaGreatDoor
open Go Go.RowKit Go.Extern.Stop Go.Stop Go.Extern
set_option linter.unusedVariables false
set_option linter.unusedSimpArgs false

/-- The library's variable errors.errorType as it is laid. -/
def G (w : World) : Prop := w.cell? ⟨0, 0, none⟩ = some (.iface 156 (.agg #[.pointer (some ⟨1, 63, none⟩)]))
theorem G.fr {w w' : World} {S : List Nat} (h : G w) (hf : Fr S w w') (hs : 0 ∉ S) : G w' := by
  unfold G at *
  rw [World.cell?_of_block (hf.block 0 (World.block_lt_of_cell? w _ h) hs)]; exact h
theorem mt_kind (h : Value) (w : World) : (Go.method 333 156 (.agg #[h]) "Kind").run Tryz.prog w = .ok (159, h) w := by kernel_rfl

set_option maxRecDepth 100000 in
set_option maxHeartbeats 1000000 in
theorem As_of (tt : TypeId) (v : Value) (e : Int) (t : Addr) (old : Value) (w : World) (hg : G w) (ht0 : w.cell? t = some old) (hf0 : w.frozen? t = false)
    (hc : ∀ (W : World) (a : Addr) (tgt : Value), W.cell? t = some old → W.frozen? t = false → W.cell? a = some (.pointer (some t)) →
      Calls Tryz.prog 89 #[.iface tt v, tgt, .agg #[.pointer (some ⟨1, 108, none⟩), .pointer (some a), .int .u64 150], .iface 156 (.agg #[.pointer (some ⟨1, 106, none⟩)])] W fun ev w' => ev = .returned (.bool true) ∧ w'.cell? t = some (.int .i64 e) ∧ Fr [t.block] W w') :
    Calls Tryz.prog 64 #[.iface tt v, .iface 108 (.pointer (some t))] w fun ev w' => ev = .returned (.bool true) ∧ w'.cell? t = some (.int .i64 e) ∧ Fr [t.block] w w' := by
  have hVO := @run_callFunc_extern Tryz.prog 86 _ (fun args => ReflectliteValue.unpack (args.getD 0 (.tuple #[]))) Tryz.func86 (by kernel_rfl) (by kernel_rfl) (by kernel_rfl) (by kernel_rfl)
  have hTY := @run_callFunc_extern Tryz.prog 87 _ (ReflectliteValue.methodAny (ReflectliteValue.valueError "reflectlite.Value.Type" 0) (fun t _ _ _ => ReflectliteType.toType t)) Tryz.func87 (by kernel_rfl) (by kernel_rfl) (by kernel_rfl) (by kernel_rfl)
  have hIN := @run_callFunc_extern Tryz.prog 88 _ (ReflectliteValue.method (ReflectliteValue.valueError "reflectlite.Value.IsNil" 0) ReflectliteValue.isNil) Tryz.func88 (by kernel_rfl) (by kernel_rfl) (by kernel_rfl) (by kernel_rfl)
  have hKI := @run_callFunc_extern Tryz.prog 159 _ (ReflectliteType.abiMethod fun t => do pure (.int .u8 (← Rtype.kind t))) Tryz.func159 (by kernel_rfl) (by kernel_rfl) (by kernel_rfl) (by kernel_rfl)
  have hEL := @run_callFunc_extern Tryz.prog 171 _ (ReflectliteType.method ReflectliteType.elem) Tryz.func171 (by kernel_rfl) (by kernel_rfl) (by kernel_rfl) (by kernel_rfl)
  have hIM := @run_callFunc_extern Tryz.prog 172 _ (ReflectliteType.relation "Implements" ReflectliteType.implements_) Tryz.func172 (by kernel_rfl) (by kernel_rfl) (by kernel_rfl) (by kernel_rfl)
  have mK := mt_kind
  have mE := mt_elem
  have mI := mt_implements
  have fV := ex_valueOf
  have fT := ex_type
  have kP := ex_kindP
  have kE := ex_kindE
  have fE := ex_elem
  have fI := ex_implements
  have fN := fun a W h => ex_isNil a t W h
  have hg0 : w.cell? ⟨0, 0, none⟩ = some (.iface 156 (.agg #[.pointer (some ⟨1, 63, none⟩)])) := hg
  have g1 := fun o => cell_alloc w o hg0
  have g2 := fun o o' => cell_alloc _ o' (cell_alloc w o hg0)
  have q1 := fun o => cell_alloc w o ht0
  have q2 := fun o o' => cell_alloc _ o' (cell_alloc w o ht0)
  have htl := World.block_lt_of_cell? w t ht0
  have f2 : ∀ o o', ((w.alloc o).alloc o').frozen? t = false := fun o o' => by rw [World.frozen?_alloc_old _ _ t (by simp; omega), World.frozen?_alloc_old _ _ t (Nat.ne_of_lt htl)]; exact hf0
  have a2 : ∀ o', ((w.alloc (.cells #[.pointer (some t)] 108)).alloc o').cell? ⟨w.heap.size, 0, none⟩ = some (.pointer (some t)) := fun o' => cell_alloc _ _ (blk_cell (heap_new _ _) rfl)
  have A2 := Lib.hid a2
  have HC := Lib.hid hc
  clear hc a2
  go_enter Tryz.func64, Tryz.ntmps64
  go_wp2_with fail
  refine (HC.out _ ⟨w.heap.size, 0, none⟩ _ (by exact q2 _ _) (by exact f2 _ _) (by exact A2.out _)).mono ?_
  rintro ev w' ⟨rfl, hct, hf⟩
  go_wp2
  go_ret
  exact ⟨rfl, hct, (((Fr.refl _ _).alloc _).alloc _).trans hf⟩

/-- code, of nothing. -/
theorem code_nil (w : World) : Calls Tryz.prog 34 #[.nilIface] w fun ev w' => ev = .returned (.int .i64 0) ∧ Fr [] w w' := by
  go_enter Tryz.func34, Tryz.ntmps34
  go_wp2_with fail
  refine (as_nil _ _).mono ?_
  rintro ev w' ⟨rfl, rfl⟩
  go_wp2
  go_ret
  exact ⟨rfl, (Fr.refl _ _).alloc _⟩

set_option maxRecDepth 100000 in
set_option maxHeartbeats 1000000 in
theorem code_of (tt : TypeId) (v : Value) (e : Int) (w : World) (hg : G w)
    (hc : ∀ (t : Addr) (old : Value) (W : World) (a : Addr) (tgt : Value), W.cell? t = some old → W.frozen? t = false → W.cell? a = some (.pointer (some t)) →
      Calls Tryz.prog 89 #[.iface tt v, tgt, .agg #[.pointer (some ⟨1, 108, none⟩), .pointer (some a), .int .u64 150], .iface 156 (.agg #[.pointer (some ⟨1, 106, none⟩)])] W fun ev w' => ev = .returned (.bool true) ∧ w'.cell? t = some (.int .i64 e) ∧ Fr [t.block] W w') :
    Calls Tryz.prog 34 #[.iface tt v] w fun ev w' => ev = .returned (.int .i64 e) ∧ Fr [] w w' := by
  have HG := Lib.hid hg
  have HC := Lib.hid hc
  clear hc hg
  go_enter Tryz.func34, Tryz.ntmps34
  go_wp2_with fail
  refine (As_of tt v e ⟨w.heap.size, 0, none⟩ (.int .i64 0) _ (HG.out.fr ((Fr.refl [] _).alloc _) (by simp)) (blk_cell (heap_new _ _) rfl) (blk_free (heap_new _ _) 0) (fun W a tgt => HC.out _ _ W a tgt)).mono ?_
  rintro ev w' ⟨rfl, hct, hf⟩
  go_wp2
  go_ret
  refine ⟨rfl, ?_⟩
  exact ⟨hf.os, hf.tape, hf.output, Nat.le_trans (by simp) hf.size, fun k hk _ => (hf.block k (by simp; omega) (by simp; omega)).trans (Below.heap_alloc _ _ _ hk)⟩
theorem code_chain1 (d : ByteArray) (e : Int) (w : World) (hg : G w) :
    Calls Tryz.prog 34 #[chainV [d] e] w fun ev w' => ev = .returned (.int .i64 e) ∧ Fr [] w w' :=
  code_of _ _ e w hg fun t old W a tgt h1 h2 h3 => as_hit1 d e t a old tgt W h1 h2 h3
theorem code_chain2 (d d' : ByteArray) (e : Int) (w : World) (hg : G w) :
    Calls Tryz.prog 34 #[chainV [d, d'] e] w fun ev w' => ev = .returned (.int .i64 e) ∧ Fr [] w w' :=
  code_of _ _ e w hg fun t old W a tgt h1 h2 h3 => as_hit2 d d' e t a old tgt W h1 h2 h3
end Go.Proofs.YtnlgmekkjibpmaaGreatDoor
/- DERIVED. slices.Contains over names. -/
namespace Go.Proofs.YtnlgmekkjibpmaaGreatDoor
open Go Go.RowKit Go.Shelf
set_option linter.unusedVariables false
set_option linter.unusedSimpArgs false

theorem nm_eq {a b : Nm} : (bs a.l == bs b.l) = decide (a = b) := by cases a <;> cases b <;> decide

set_option maxRecDepth 100000 in
set_option maxHeartbeats 1000000 in
theorem index_some (g c : Nat) (L : List Nm) (n : Nm) (nm : ByteArray) (hnm : IsNm nm n) (w : World) (hl : L.length ≤ 3) (hc : ∀ j, (h : j < L.length) → w.cell? ⟨g, j, none⟩ = some (.string (bs (L[j]'h).l))) :
    Calls Tryz.prog 70 #[.slice (some ⟨g, 0, none⟩) L.length c, .string nm] w fun e w' => ∃ i : Int, e = .returned (.int .i64 i) ∧ (0 ≤ i ↔ n ∈ L) ∧ w' = w := by
  have HC := Lib.hid hc
  have HN := Lib.hid hnm.eq
  clear hc hnm
  go_enter Tryz.func70, Tryz.ntmps70
  go_wp2
  go_loop [5, 8] (fun _ i => ∃ k : Nat, k ≤ L.length ∧ i = .int .i64 (k : Int) ∧ Hid (∀ j, (h : j < L.length) → j < k → L[j]'h ≠ n)) (fun _ i => L.length - (intOf i).toNat)
  case atStart => exact ⟨0, by omega, rfl, fun j h h0 => by omega⟩
  case round =>
    obtain ⟨k, hk, rfl, HJ⟩ := hrel
    by_cases hlt : k < L.length
    · have hcell := HC.out k hlt
      go_wp2
      · go_ret
        have hw : (nm.toList == (bs (L[k]'hlt).l).toList) = true := by assumption
        refine ⟨k, rfl, ⟨fun _ => ?_, fun _ => by omega⟩, rfl⟩
        have e : L[k]'hlt = n := by
          rw [HN.out] at hw
          revert hw
          generalize L[k]'hlt = q
          cases q <;> cases n <;> decide +kernel
        rw [← e]; exact List.getElem_mem hlt
      · have hw : (nm.toList == (bs (L[k]'hlt).l).toList) = false := by assumption
        refine ⟨⟨k + 1, by omega, by go_num, fun j h h0 => ?_⟩, by simp [intOf]; omega⟩
        by_cases hj : j < k
        · exact HJ.out j h hj
        · obtain rfl : j = k := by omega
          rw [HN.out] at hw
          revert hw
          generalize L[j]'h = q
          cases q <;> cases n <;> decide +kernel
    · go_wp2
      go_ret
      refine ⟨-1, rfl, ⟨fun h => by omega, fun h => ?_⟩, rfl⟩
      obtain ⟨j, hj, e⟩ := List.getElem_of_mem h
      exact absurd e (HJ.out j hj (by omega))

set_option maxRecDepth 100000 in
set_option maxHeartbeats 1000000 in
theorem index_none (c : Nat) (nm : ByteArray) (w : World) :
    Calls Tryz.prog 70 #[.slice none 0 c, .string nm] w fun e w' => ∃ i : Int, e = .returned (.int .i64 i) ∧ i < 0 ∧ w' = w := by
  go_enter Tryz.func70, Tryz.ntmps70
  go_wp2
  go_loop [5, 8] (fun _ i => i = .int .i64 0) (fun _ _ => 0)
  case atStart => rfl
  case round =>
    subst hrel
    go_wp2
    go_ret
    exact ⟨-1, rfl, by omega, rfl⟩

theorem contains_calls (base : Nat) (v : Value) (L : List Nm) (n : Nm) (nm : ByteArray) (hnm : IsNm nm n) (w : World) (hl : L.length ≤ 3) (hown : w.ownsRow base 9 1 v L.length (strs L)) :
    Calls Tryz.prog 40 #[v, .string nm] w fun e w' => e = .returned (.bool (decide (n ∈ L))) ∧ w' = w := by
  rcases hown.2 with ⟨rfl, hn⟩ | ⟨g, cap, cur, rfl, _⟩
  · have hL : L = [] := by simpa [strs] using hn
    subst hL
    go_enter Tryz.func40, Tryz.ntmps40
    go_wp2_with fail
    refine (index_none 0 nm _).mono ?_
    rintro e w' ⟨i, rfl, hi, rfl⟩
    go_wp2
    go_ret
    exact ⟨by simp; omega, rfl⟩
  · have hc : ∀ j, (h : j < L.length) → w.cell? ⟨g, j, none⟩ = some (.string (bs (L[j]'h).l)) := fun j h => by
      rw [hown.cellAt j (by omega)]
      simp [strs, h]
    have HL := Lib.hid hl
    have HC := Lib.hid hc
    have HN := Lib.hid hnm
    obtain ⟨b, hb⟩ : ∃ b, b = decide (n ∈ L) := ⟨_, rfl⟩
    rw [← hb]
    have HB := Lib.hid hb
    clear hown hc hnm hb hl
    go_enter Tryz.func40, Tryz.ntmps40
    go_wp2_with fail
    refine (index_some g cap L n nm HN.out _ HL.out HC.out).mono ?_
    rintro e w' ⟨i, rfl, hi, rfl⟩
    have HI := Lib.hid hi
    clear hi
    go_wp2
    go_ret
    refine ⟨?_, rfl⟩
    rw [HB.out]
    simp [HI.out]
theorem mem_names (f : Nm → Option Fl) (n : Nm) : decide (n ∈ names f) = (f n).isSome := by
  unfold names
  cases n <;> cases h1 : f .log <;> cases h2 : f .new <;> cases h3 : f .snap <;> simp [h1, h2, h3]
theorem names_len (f : Nm → Option Fl) : (names f).length ≤ 3 := by
  unfold names
  exact Nat.le_trans (List.length_filter_le _ _) (by simp)
end Go.Proofs.YtnlgmekkjibpmaaGreatDoor
/- DERIVED. wal: failed, made, renew, load. -/
namespace Go.Proofs.YtnlgmekkjibpmaaGreatDoor
open Go Go.RowKit Go.Shelf
set_option linter.unusedVariables false
set_option linter.unusedSimpArgs false

theorem failed_ok (d : ByteArray) (w : World) : Calls Tryz.prog 36 #[.string d, .int .i64 0] w fun ev w' => ev = .returned .nilIface ∧ w' = w := by
  go_enter Tryz.func36, Tryz.ntmps36
  go_wp2
  go_ret
  exact ⟨rfl, rfl⟩
theorem failed_err (d : ByteArray) (e : Int) (he : (e == 0) = false) (w : World) : Calls Tryz.prog 36 #[.string d, .int .i64 e] w fun ev w' => ev = .returned (chainV [d] e) ∧ w' = w := by
  unfold chainV chainV
  go_enter Tryz.func36, Tryz.ntmps36
  go_wp2
  go_ret
  exact ⟨rfl, rfl⟩

/-- An error value of a code. -/
inductive EV : Nat → Value → Nat → Prop
  | none (k : Nat) : EV k .nilIface 0
  | chain (k : Nat) (ds : List ByteArray) (e : Nat) (h1 : 1 ≤ ds.length) (hk : ds.length ≤ k) (he : e ≠ 0) : EV k (chainV ds e) e

theorem failed_any (d : ByteArray) (e : Nat) (w : World) : Calls Tryz.prog 36 #[.string d, .int .i64 (e : Int)] w fun ev w' => ∃ v, ev = .returned v ∧ EV 1 v e ∧ w' = w := by
  by_cases h : e = 0
  · subst h
    exact (failed_ok d w).mono fun _ _ ⟨h1, h2⟩ => ⟨_, h1, .none 1, h2⟩
  · exact (failed_err d e (by simpa using h) w).mono fun _ _ ⟨h1, h2⟩ => ⟨_, h1, .chain 1 [d] e (by simp) (by simp) h, h2⟩

def madeB (seq : Nat) (text : List UInt8) : List UInt8 × Nat :=
  if 4096 < (numB seq).length + text.length ∨ 1099511627776 < seq then ([], 111) else (layB (numB seq ++ text), 0)

set_option maxRecDepth 100000 in
set_option maxHeartbeats 1000000 in
theorem made_calls (seq : Nat) (hq : seq ≤ 1099511627777) (text : ByteArray) (ht : text.size ≤ 100000) (w : World) :
    Calls Tryz.prog 35 #[.int .i64 (seq : Int), .string text] w fun ev w' => ev = .returned (.tuple #[.string (bs (madeB seq text.data.toList).1), .int .i64 ((madeB seq text.data.toList).2 : Int)]) ∧ Fr [] w w' := by
  have hn := numB_length seq (by omega)
  obtain ⟨o, ho⟩ : ∃ o, o = bs (numB seq) := ⟨_, rfl⟩
  have ho2 : o.size = (numB seq).length := by rw [ho, bs_size]
  have hol : (o ++ text).data.toList = numB seq ++ text.data.toList := by rw [ho, ← bs_of text, bs_append, bs_toList, bs_toList]
  have hos : (o ++ text).size = o.size + text.size := by rw [← len_toList, hol, List.length_append, len_toList]; omega
  have hob : o.size ≤ 10 := by omega
  have HO := Lib.hid ho
  have HO2 := Lib.hid ho2
  have HOL := Lib.hid hol
  have HOS := Lib.hid hos
  have hlt := len_toList text
  have HLT := Lib.hid hlt
  by_cases hlong : 4096 < (o ++ text).size
  · have hm : madeB seq text.data.toList = ([], 111) := by unfold madeB; rw [if_pos (.inl (by rw [hlt]; omega))]
    rw [hm]
    clear ho ho2 hol hos hlt hn hm
    go_enter Tryz.func35, Tryz.ntmps35
    go_wp2_with fail
    refine (num_calls seq (by omega) _).mono ?_
    rintro e w1 ⟨rfl, hb1⟩
    rw [← HO.out]
    go_wp2_with fail
    refine (lay_long _ hlong _).mono ?_
    rintro e w2 ⟨rfl, hb2⟩
    go_wp2
    go_ret2
    exact ⟨rfl, (Fr.of_below hb1 _).trans (Fr.of_below hb2 _)⟩
  · by_cases hq2 : 1099511627776 < seq
    · have hm : madeB seq text.data.toList = ([], 111) := by unfold madeB; rw [if_pos (.inr hq2)]
      rw [hm]
      have hq3 : (1099511627776 : Int) < (seq : Int) := by omega
      clear ho ho2 hol hos hlt hn hm
      go_enter Tryz.func35, Tryz.ntmps35
      go_wp2_with fail
      refine (num_calls seq (by omega) _).mono ?_
      rintro e w1 ⟨rfl, hb1⟩
      rw [← HO.out]
      go_wp2_with fail
      refine (lay_ok _ (by omega) _).mono ?_
      rintro e w2 ⟨rfl, hb2⟩
      go_wp2
      go_ret2
      exact ⟨rfl, (Fr.of_below hb1 _).trans (Fr.of_below hb2 _)⟩
    · have hm : madeB seq text.data.toList = (layB (numB seq ++ text.data.toList), 0) := by unfold madeB; rw [if_neg (by rw [hlt]; omega)]
      rw [hm]
      have hq3 : ¬ (1099511627776 : Int) < (seq : Int) := by omega
      clear ho ho2 hol hos hlt hn hm
      go_enter Tryz.func35, Tryz.ntmps35
      go_wp2_with fail
      refine (num_calls seq (by omega) _).mono ?_
      rintro e w1 ⟨rfl, hb1⟩
      rw [← HO.out]
      go_wp2_with fail
      refine (lay_ok _ (by omega) _).mono ?_
      rintro e w2 ⟨rfl, hb2⟩
      rw [HOL.out]
      go_wp2
      go_ret2
      exact ⟨rfl, (Fr.of_below hb1 _).trans (Fr.of_below hb2 _)⟩
end Go.Proofs.YtnlgmekkjibpmaaGreatDoor
/- DERIVED. wal: renew, load. -/
namespace Go.Proofs.YtnlgmekkjibpmaaGreatDoor
open Go Go.RowKit Go.Shelf
set_option linter.unusedVariables false
set_option linter.unusedSimpArgs false

theorem doing_acts (D : Dk) (f : Dk → Nat × Dk) (hf : ∀ E, (f E).2.acts = E.acts) : (D.doing f).2.acts ≤ D.acts + 1 := by
  unfold Dk.doing
  split
  · show D.acts ≤ _; omega
  · split
    · simp [Dk.tick]
    · rw [hf]; simp [Dk.tick]
theorem append_acts (D : Dk) (n : Nm) (s : List UInt8) : (D.append n s).2.acts ≤ D.acts + 1 :=
  doing_acts D _ fun E => by unfold Dk.app0; split <;> rfl
theorem sync_acts (D : Dk) (n : Nm) : (D.sync n).2.acts ≤ D.acts + 1 :=
  doing_acts D _ fun E => by unfold Dk.sync0; split <;> rfl
theorem remove_acts (D : Dk) (n : Nm) : (D.remove n).2.acts ≤ D.acts + 1 :=
  doing_acts D _ fun E => by unfold Dk.rem0; split <;> rfl
theorem rename_acts (D : Dk) (a b : Nm) : (D.rename a b).2.acts ≤ D.acts + 1 :=
  doing_acts D _ fun E => by unfold Dk.ren0; split <;> rfl

def Dk.renew (D : Dk) (n : Nm) (s : List UInt8) : Nat × Dk :=
  if (D.append .new s).1 ≠ 0 then D.append .new s
  else if ((D.append .new s).2.sync .new).1 ≠ 0 then (D.append .new s).2.sync .new
  else ((D.append .new s).2.sync .new).2.rename .new n
theorem renew_acts (D : Dk) (n : Nm) (s : List UInt8) : (D.renew n s).2.acts ≤ D.acts + 3 := by
  have h1 := append_acts D .new s
  have h2 := sync_acts (D.append .new s).2 .new
  have h3 := rename_acts ((D.append .new s).2.sync .new).2 .new n
  unfold Dk.renew
  split
  · omega
  · split <;> omega

theorem EV.ne {k e : Nat} {v : Value} (h : EV k v e) : (v = .nilIface ∧ e = 0) ∨ (e ≠ 0 ∧ ∃ t u, v = .iface t u) := by
  cases h with
  | none => exact .inl ⟨rfl, rfl⟩
  | chain ds e h1 hk he =>
    cases ds with
    | nil => simp at h1
    | cons d ds => exact .inr ⟨he, _, _, by unfold chainV; rfl⟩

set_option maxRecDepth 100000 in
set_option maxHeartbeats 1000000 in
theorem renew_calls (p m : Nat) (D : Dk) (n : Nm) (nm s : ByteArray) (hnm : IsNm nm n) (w : World) (h : DkIs w p m D) (h2 : D.acts ≤ 900000) (hl : s.size ≤ 140737488355328) :
    Calls Tryz.prog 39 #[.pointer (some ⟨p, 0, none⟩), .string nm, .string s] w fun ev w' => ∃ v, ev = .returned v ∧ EV 1 v (D.renew n s.data.toList).1 ∧ DkIs w' p m (D.renew n s.data.toList).2 ∧ Fr [p, m] w w' := by
  have H := Lib.hid h
  have HN := Lib.hid hnm
  have ha1 := append_acts D .new s.data.toList
  have ha2 := sync_acts (D.append .new s.data.toList).2 .new
  obtain ⟨R, hR⟩ : ∃ R, R = D.renew n s.data.toList := ⟨_, rfl⟩
  rw [← hR]
  unfold Dk.renew at hR
  have HR := Lib.hid hR
  clear h hnm hR
  go_enter Tryz.func39, Tryz.ntmps39
  go_wp2_with fail
  refine (disk_append p m D .new _ s (isNm .new) _ H.out (by omega) hl).mono ?_
  rintro e w1 ⟨rfl, hD1, hf1⟩
  go_wp2_with fail
  refine (failed_any _ (D.append .new s.data.toList).1 _).mono ?_
  rintro e w2 ⟨v1, rfl, hev, rfl⟩
  rcases hev.ne with ⟨rfl, he⟩ | ⟨he, tt, u, rfl⟩
  · have HD1 := Lib.hid hD1
    clear hD1
    go_wp2_with fail
    refine (disk_sync p m _ .new _ (isNm .new) _ HD1.out (by omega)).mono ?_
    rintro e w3 ⟨rfl, hD3, hf3⟩
    go_wp2_with fail
    refine (failed_any _ ((D.append .new s.data.toList).2.sync .new).1 _).mono ?_
    rintro e w4 ⟨v2, rfl, hev2, rfl⟩
    rcases hev2.ne with ⟨rfl, he2⟩ | ⟨he2, tt, u, rfl⟩
    · have HD3 := Lib.hid hD3
      clear hD3
      go_wp2_with fail
      refine (disk_rename p m _ .new n _ nm (isNm .new) HN.out _ HD3.out (by omega)).mono ?_
      rintro e w5 ⟨rfl, hD5, hf5⟩
      go_wp2_with fail
      refine (failed_any _ (((D.append .new s.data.toList).2.sync .new).2.rename .new n).1 _).mono ?_
      rintro e w6 ⟨v3, rfl, hev3, rfl⟩
      have e1 := HR.out
      rw [if_neg (by simpa using he), if_neg (by simpa using he2)] at e1
      subst e1
      go_wp2
      go_ret
      exact ⟨_, rfl, hev3, hD5, (hf1.trans hf3).trans hf5⟩
    · have e1 := HR.out
      rw [if_neg (by simpa using he), if_pos he2] at e1
      subst e1
      go_wp2
      go_ret
      exact ⟨_, rfl, hev2, hD3, hf1.trans hf3⟩
  · have e1 := HR.out
    rw [if_pos he] at e1
    subst e1
    go_wp2
    go_ret
    exact ⟨_, rfl, hev, hD1, hf1⟩

def Dk.load (D : Dk) (n : Nm) : List UInt8 × Bool × Nat := if (D.f n).isSome then ((D.read n).1, true, (D.read n).2) else ([], false, 0)

set_option maxRecDepth 100000 in
set_option maxHeartbeats 1000000 in
theorem load_calls (p m : Nat) (D : Dk) (n : Nm) (nm : ByteArray) (hnm : IsNm nm n) (w : World) (h : DkIs w p m D) :
    Calls Tryz.prog 81 #[.pointer (some ⟨p, 0, none⟩), .string nm] w fun ev w' => ∃ v, ev = .returned (.tuple #[.string (bs (D.load n).1), .bool (D.load n).2.1, v]) ∧ EV 1 v (D.load n).2.2 ∧ Fr [] w w' := by
  have hlt := h.lt
  have H := Lib.hid h
  have HN := Lib.hid hnm
  have hnl := names_len D.f
  have hmem := mem_names D.f n
  obtain ⟨R, hR⟩ : ∃ R, R = D.load n := ⟨_, rfl⟩
  rw [← hR]
  unfold Dk.load at hR
  have HR := Lib.hid hR
  clear h hnm hR
  go_enter Tryz.func81, Tryz.ntmps81
  go_wp2_with fail
  refine (disk_list p m D _ H.out).mono ?_
  rintro e w1 ⟨v, rfl, hrow, hb⟩
  go_wp2_with fail
  refine (contains_calls _ v (names D.f) n nm HN.out _ hnl hrow).mono ?_
  rintro e w2 ⟨rfl, rfl⟩
  rw [hmem]
  have hf : Fr [] w w2 := Fr.of_below hb []
  cases hx : (D.f n).isSome with
  | false =>
    rw [hx] at HR
    have e1 := HR.out
    rw [if_neg (by simp)] at e1
    subst e1
    clear hrow hb
    go_wp2
    go_ret3
    exact ⟨_, rfl, .none 1, hf⟩
  | true =>
    rw [hx] at HR
    have e1 := HR.out
    rw [if_pos rfl] at e1
    subst e1
    have HD := Lib.hid (H.out.fr hf (by simp) (by simp))
    clear hrow hb
    go_wp2_with fail
    refine (disk_read p m D n nm HN.out _ HD.out).mono ?_
    rintro e w3 ⟨rfl, hf3⟩
    go_wp2_with fail
    refine (failed_any _ (D.read n).2 _).mono ?_
    rintro e w4 ⟨v3, rfl, hev3, rfl⟩
    go_wp2
    go_ret3
    exact ⟨_, rfl, hev3, hf.trans hf3⟩
end Go.Proofs.YtnlgmekkjibpmaaGreatDoor
/- DERIVED. wal: parse. -/
namespace Go.Proofs.YtnlgmekkjibpmaaGreatDoor
open Go Go.RowKit Go.Shelf
set_option linter.unusedVariables false
set_option linter.unusedSimpArgs false

abbrev Ent := Nat × List UInt8
def entC (x : Ent) : List Value := [.int .i64 (x.1 : Int), .string (bs x.2)]
def entsC (L : List Ent) : List Value := L.flatMap entC
theorem entsC_length (L : List Ent) : (entsC L).length = 2 * L.length := by
  induction L with
  | nil => rfl
  | cons x L ih => simp only [entsC, List.flatMap_cons, List.length_append, entC, List.length_cons, List.length_nil] at ih ⊢; omega
theorem entsC_append (L M : List Ent) : entsC (L ++ M) = entsC L ++ entsC M := by simp [entsC]
theorem entsC_at0 (L : List Ent) (j : Nat) (h : j < L.length) : (entsC L)[2 * j]? = some (.int .i64 ((L[j]'h).1 : Int)) := by
  induction L generalizing j with
  | nil => simp at h
  | cons x L ih =>
    cases j with
    | zero => simp [entsC, entC]
    | succ j =>
      have := ih j (by simpa using h)
      simp only [entsC, List.flatMap_cons, entC] at this ⊢
      rw [show 2 * (j + 1) = 2 * j + 2 by omega]
      simpa using this
theorem entsC_at1 (L : List Ent) (j : Nat) (h : j < L.length) : (entsC L)[2 * j + 1]? = some (.string (bs (L[j]'h).2)) := by
  induction L generalizing j with
  | nil => simp at h
  | cons x L ih =>
    cases j with
    | zero => simp [entsC, entC]
    | succ j =>
      have := ih j (by simpa using h)
      simp only [entsC, List.flatMap_cons, entC] at this ⊢
      rw [show 2 * (j + 1) + 1 = 2 * j + 1 + 2 by omega]
      simpa using this

def entB (s : List UInt8) : Option Ent :=
  match decG 0 s with
  | none => none
  | some (u, k) => if unzz u < 0 ∨ 1099511627776 < unzz u then none else some ((unzz u).toNat, s.drop k)
def parseB : List (List UInt8) → Option (List Ent)
  | [] => some []
  | s :: l => match entB s with
    | none => none
    | some x => (parseB l).map (x :: ·)

theorem Tryz.infoEnt : (Tryz.prog.info? 60).map (fun i => (i.zero, i.size, i.bytes)) = some (some (.agg #[.int .i64 0, .string ⟨#[]⟩]), 2, 24) := by kernel_rfl
theorem parseB_fail {L : List (List UInt8)} {k : Nat} (h : k < L.length) (hb : entB (L[k]'h) = none) (E : List Ent) (hp : parseB L = (parseB (L.drop k)).map (E ++ ·)) : parseB L = none := by
  rw [hp, List.drop_eq_getElem_cons h]
  simp [parseB, hb]
theorem parseB_next {L : List (List UInt8)} {k : Nat} {x : Ent} (h : k < L.length) (hb : entB (L[k]'h) = some x) (E : List Ent) (hp : parseB L = (parseB (L.drop k)).map (E ++ ·)) : parseB L = (parseB (L.drop (k + 1))).map ((E ++ [x]) ++ ·) := by
  rw [hp, List.drop_eq_getElem_cons h]
  cases hx : parseB (List.drop (k + 1) L) <;> simp [parseB, hb, hx]

theorem set_two (cs : Array Value) (l : List Value) (k : Nat) (h : cs.toList.take (2 * k) = l) (hk : k * 2 + 1 < cs.size) (a b : Value) :
    ((cs.setIfInBounds (k * 2) a).setIfInBounds (k * 2 + 1) b).toList.take (2 * (k + 1)) = l ++ [a, b] := by
  have hl : cs.toList.length = cs.size := by simp
  rw [Array.toList_setIfInBounds, Array.toList_setIfInBounds, show 2 * (k + 1) = (k * 2 + 1) + 1 by omega, List.take_add_one, List.take_add_one, List.getElem?_set_self (by simp; omega), List.getElem?_set_ne (by omega), List.getElem?_set_self (by omega),
    List.take_set_of_le (by omega), List.take_set_of_le (by omega), show k * 2 = 2 * k by omega, h]
  simp
theorem ext_drop (s : ByteArray) (k : Nat) (hk : k ≤ s.size) : s.extract (s.size - (s.size - k)) s.size = bs (s.data.toList.drop k) := by
  have e := ext_bs s k (s.size - k)
  rw [show k + (s.size - k) = s.size by omega] at e
  rw [show s.size - (s.size - k) = k by omega, e, List.take_of_length_le (by rw [List.length_drop, len_toList]; omega)]

/-- What parse answers. -/
def Parsed (L : List (List UInt8)) (B : Nat) (w : World) (v r : Value) : Prop :=
  (parseB L = none ∧ v = .slice none 0 0 ∧ EV 1 r 110) ∨ ∃ (E : List Ent) (g : Nat), parseB L = some E ∧ E.length = L.length ∧ r = .nilIface ∧ v = .slice (some ⟨g, 0, none⟩) E.length E.length ∧ B ≤ g ∧ w.heap[g]? = some (.cells (entsC E).toArray 60 (0, 0))
def ParseOk (L : List (List UInt8)) (w : World) (v : Value) : Prop :=
  Calls Tryz.prog 83 #[v] w fun e w' => ∃ v r, e = .returned (.tuple #[v, r]) ∧ Below w.heap.size w w' ∧ Parsed L w.heap.size w' v r

set_option maxRecDepth 100000 in
set_option maxHeartbeats 1000000 in
theorem parse_some (g0 c : Nat) (L : List (List UInt8)) (hl : L.length ≤ 1000000) (hss : ∀ j, (h : j < L.length) → (L[j]'h).length ≤ 1000000) (w : World)
    (hc : ∀ j, (h : j < L.length) → w.cell? ⟨g0, j, none⟩ = some (.string (bs (L[j]'h)))) : ParseOk L w (.slice (some ⟨g0, 0, none⟩) L.length c) := by
  obtain ⟨i0, hi, hz0, hz1, hz2⟩ := info_parts Tryz.infoEnt
  unfold ParseOk
  have HC := Lib.hid hc
  have HS := Lib.hid hss
  clear hc hss
  go_enter Tryz.func83, Tryz.ntmps83
  go_wp2_with (at_make; go_loud (refine wpList_make_full _ rfl _ _ 61 rfl w.heap.size 60 i0 _ 2 Tryz.underlying61 hi hz0 hz1 _ _ _ _ L.length rfl rfl rfl rfl (by rw [hz2]; omega) (by unfold maxLen; omega) (Nat.le_refl _) ?_))
  intro w1 hown1 hgrow1
  go_wp2
  go_loopw [14] (fun i wr => ∃ (k : Nat) (E : List Ent) (cs : Array Value), k ≤ L.length ∧ i = .int .i64 (k : Int) ∧ E.length = k ∧ wr.heap[w.heap.size]? = some (.cells cs 60 (0, 0)) ∧ cs.size = 2 * L.length ∧ cs.toList.take (2 * k) = entsC E ∧ Below w.heap.size w wr ∧
      Hid (parseB L = (parseB (L.drop k)).map (E ++ ·))) (fun i _ => L.length - (intOf i).toNat)
  case atStart =>
    obtain ⟨cs, hcs, hsz⟩ : ∃ cs : Array Value, w1.heap[w.heap.size]? = some (.cells cs 60 (0, 0)) ∧ cs.size = 2 * L.length := by
      rcases hown1.2 with ⟨h, _⟩ | ⟨g', cap', cur, h, _, hg, _, _, hs, _⟩
      · cases h
      · cases h
        exact ⟨cur, hg, by omega⟩
    exact ⟨0, [], cs, by omega, rfl, rfl, hcs, hsz, by simp [entsC], (Below.refl _ _).grown hgrow1 (Nat.le_refl _) (by simp), by
      show parseB L = _
      cases h : parseB L <;> simp [h]⟩
  case round =>
    obtain ⟨k, E, cs, hk, rfl, hE, hcs, hsz, htk, hB, HP⟩ := hrel
    by_cases hlt : k < L.length
    · have hcell : wr.cell? ⟨g0, k, none⟩ = some (.string (bs (L[k]'hlt))) := by
        have h0 := HC.out k hlt
        rw [World.cell?_of_block (hB.block g0 (World.block_lt_of_cell? w _ h0))]; exact h0
      have hwl := blk_lt hcs
      have hsl := HS.out k hlt
      obtain ⟨S, hS⟩ : ∃ S, S = bs (L[k]'hlt) := ⟨_, rfl⟩
      rw [← hS] at hcell
      have hSl : S.data.toList = L[k]'hlt := by rw [hS, bs_toList]
      have hSz : S.size ≤ 1000000 := by rw [← len_toList, hSl]; exact hsl
      have HSL := Lib.hid hSl
      have hpn := fun hb => parseB_fail hlt hb E HP.out
      have hps := fun x hb => @parseB_next L k x hlt hb E HP.out
      unfold entB at hpn hps
      rw [← hSl] at hpn hps
      have HPN := Lib.hid hpn
      have HPS := Lib.hid hps
      have hbb := hB.size
      have HCS := Lib.hid hcs
      have HTK := Lib.hid htk
      have HSZ := Lib.hid hsz
      clear hS hSl hpn hps hsl hcs htk hsz
      go_wp2_with fail
      refine (rd_new S _).mono ?_
      rintro e w3 ⟨rfl, hr3, hf3⟩
      go_wp2_with fail
      refine (rd_num _ S 0 _ hr3 (by omega) (by omega)).mono ?_
      rw [List.drop_zero]
      rintro e w4 ⟨rfl, hr4, hf4⟩
      have hB4 : Below w.heap.size w w4 := (hB.trans (hf3.below _ hB.size (by simp))).trans (hf4.below _ (Nat.le_trans hB.size hf3.size) (by simp; exact hB.size))
      have hf34 : Fr [] wr w4 := ⟨hf4.os.trans hf3.os, hf4.tape.trans hf3.tape, hf4.output.trans hf3.output, Nat.le_trans hf3.size hf4.size, fun k hk hn => (hf4.block k (Nat.lt_of_lt_of_le hk hf3.size) (by simp; omega)).trans (hf3.block k hk hn)⟩
      cases hd : decG 0 S.data.toList with
      | none =>
        rw [hd] at hr4 HPN HPS
        have h0 := HPN.out rfl
        have HR4 := Lib.hid hr4
        simp only [numVal, numAt, Option.isNone] at hr4 ⊢
        go_wp2_with fail
        refine (rd_bad _ S _ _ _ hr4).mono ?_
        rintro e w5 ⟨rfl, rfl⟩
        go_wp2_with fail
        refine (failed_any _ 110 _).mono ?_
        rintro e w6 ⟨v1, rfl, hev, rfl⟩
        go_wp2
        go_ret2
        exact ⟨_, _, rfl, hB4, Or.inl ⟨h0, rfl, hev⟩⟩
      | some uk =>
        obtain ⟨u, kk⟩ := uk
        rw [hd] at hr4 HPN HPS
        have hck := decG_count _ _ _ _ hd
        rw [len_toList] at hck
        simp only [numVal, numAt, Option.isNone] at hr4 ⊢
        obtain ⟨nv, hnv⟩ : ∃ nv, nv = unzz u := ⟨_, rfl⟩
        simp only [← hnv] at HPN HPS ⊢
        clear hnv hd
        by_cases hbad : nv < 0 ∨ 1099511627776 < nv
        · have h0 := HPN.out (by rw [if_pos hbad])
          have HR4 := Lib.hid hr4
          rcases hbad with hb1 | hb1
          · go_wp2_with fail
            refine (rd_bad _ S _ _ _ HR4.out).mono ?_
            rintro e w5 ⟨rfl, rfl⟩
            go_wp2_with fail
            refine (failed_any _ 110 _).mono ?_
            rintro e w6 ⟨v1, rfl, hev, rfl⟩
            go_wp2
            go_ret2
            exact ⟨_, _, rfl, hB4, Or.inl ⟨h0, rfl, hev⟩⟩
          · have hb2 : ¬ nv < 0 := by omega
            go_wp2_with fail
            refine (rd_bad _ S _ _ _ HR4.out).mono ?_
            rintro e w5 ⟨rfl, rfl⟩
            go_wp2_with fail
            refine (failed_any _ 110 _).mono ?_
            rintro e w6 ⟨v1, rfl, hev, rfl⟩
            go_wp2
            go_ret2
            exact ⟨_, _, rfl, hB4, Or.inl ⟨h0, rfl, hev⟩⟩
        · have h0 := HPS.out _ (by rw [if_neg hbad])
          have hb1 : ¬ nv < 0 := by omega
          have hb2 : ¬ 1099511627776 < nv := by omega
          have HR4 := Lib.hid hr4
          have HB := Lib.hid hbad
          have H0 := Lib.hid h0
          clear hbad h0
          have hcs4 := (hf34.block _ hwl (by simp)).trans HCS.out
          go_wp2_with fail
          refine (rd_bad _ S _ _ _ HR4.out).mono ?_
          rintro e w5 ⟨rfl, rfl⟩
          go_wp2_with fail
          refine (rd_left _ S _ _ _ HR4.out (by omega) (by omega)).mono ?_
          rintro e w6 ⟨rfl, hr6, hf6⟩
          have hcs6 := (hf6.block _ (blk_lt hcs4) (by simp)).trans hcs4
          have hsub : (S.size : Int) - ((S.size - (0 + kk) : Nat) : Int) = (kk : Int) := by omega
          have hkk : (kk : Int) ≤ (S.size : Int) := by omega
          have l0 : k * 2 < cs.size := by rw [HSZ.out]; omega
          have l1 : k * 2 + 1 < cs.size := by rw [HSZ.out]; omega
          have c0 : w6.cell? ⟨w.heap.size, k * 2, none⟩ = some (cs[k * 2]'l0) := blk_cell hcs6 (Array.getElem?_eq_getElem l0)
          have f0 := blk_free hcs6 (k * 2)
          have hst := fun u => blk_set hcs6 (k * 2) u
          have c1 : ∀ u, (w6.setCell ⟨w.heap.size, k * 2, none⟩ u).cell? ⟨w.heap.size, k * 2 + 1, none⟩ = some (cs[k * 2 + 1]'l1) := fun u => blk_cell (hst u) (by
            rw [Array.getElem?_setIfInBounds_ne (by omega), Array.getElem?_eq_getElem l1])
          have f1 := fun u => blk_free (hst u) (k * 2 + 1)
          have hB6 : Below w.heap.size w w6 := hB4.trans (hf6.below _ hB4.size (by simp))
          obtain ⟨wz, hwz⟩ : ∃ wz, wz = (w6.setCell ⟨w.heap.size, k * 2, none⟩ (.int .i64 nv)).setCell ⟨w.heap.size, k * 2 + 1, none⟩ (.string (S.extract (S.size - (S.size - kk)) S.size)) := ⟨_, rfl⟩
          have HWZ := Lib.hid hwz
          clear hwz
          go_wp2
          case roundEnd =>
            refine ⟨⟨k + 1, E ++ [(nv.toNat, S.data.toList.drop kk)], _, by omega, by go_num, by simp [hE], blk_set (hst _) _ _, by simpa using HSZ.out, ?_, ?_, H0.out⟩, by simp [intOf]; omega⟩
            · rw [set_two cs _ k HTK.out l1, entsC_append, ext_drop S kk (by omega)]
              simp [entsC, entC, Int.toNat_of_nonneg (show 0 ≤ nv by omega)]
            · exact hB6.trans ((Fr.refl [w.heap.size] w6).setCell (p := ⟨w.heap.size, k * 2, none⟩) (.inl (by simp)) _ |>.setCell (p := ⟨w.heap.size, k * 2 + 1, none⟩) (.inl (by simp)) _ |>.below _ hB6.size (by simp))
    · have hkn : k = L.length := by omega
      have hnl : ¬ (k : Int) < (L.length : Int) := by omega
      have HK := Lib.hid hkn
      clear hkn
      go_wp2
      go_ret2
      refine ⟨_, _, rfl, hB, Or.inr ⟨E, w.heap.size, ?_, by rw [hE, HK.out], rfl, ?_, Nat.le_refl _, ?_⟩⟩
      · have := HP.out
        rw [HK.out, List.drop_length] at this
        simpa [parseB] using this
      · rw [hE, HK.out]; rfl
      · rw [hcs, ← htk, List.take_of_length_le (by simp; omega)]

set_option maxRecDepth 100000 in
set_option maxHeartbeats 1000000 in
theorem parse_none (c : Nat) (w : World) : ParseOk [] w (.slice none 0 c) := by
  have hmk : ∀ w, (Instr.makeSlice 61 (.int .i64 0) (.int .i64 0)).run Tryz.prog w = .ok (.slice (some ⟨w.heap.size, 0, none⟩) 0 0) (w.alloc (.cells #[] 60)) := fun _ => by kernel_rfl
  unfold ParseOk
  go_enter Tryz.func83, Tryz.ntmps83
  go_wp2
  go_loopw [14] (fun i wr => i = .int .i64 0 ∧ wr = w.alloc (.cells #[] 60)) (fun _ _ => 0)
  case atStart => exact ⟨rfl, rfl⟩
  case round =>
    obtain ⟨rfl, rfl⟩ := hrel
    go_wp2
    go_ret2
    exact ⟨_, _, rfl, (Below.refl _ w).alloc (Nat.le_refl _) _, Or.inr ⟨[], w.heap.size, rfl, rfl, rfl, rfl, Nat.le_refl _, heap_new _ _⟩⟩

theorem parse_calls (base : Nat) (v : Value) (L : List (List UInt8)) (hl : L.length ≤ 1000000) (hss : ∀ j, (h : j < L.length) → (L[j]'h).length ≤ 1000000) (w : World)
    (hown : w.ownsRow base 9 1 v L.length (L.map strV)) : ParseOk L w v := by
  rcases hown.2 with ⟨rfl, hn⟩ | ⟨g, cap, cur, rfl, _⟩
  · have hL : L = [] := by simpa using hn
    subst hL
    exact parse_none 0 w
  · refine parse_some g cap L hl hss w fun j h => ?_
    rw [hown.cellAt j (by omega)]
    simp [strV, h]
end Go.Proofs.YtnlgmekkjibpmaaGreatDoor
/- DERIVED. wal: snap. -/
namespace Go.Proofs.YtnlgmekkjibpmaaGreatDoor
open Go Go.RowKit Go.Shelf Go.Proofs.YtnlgmekkjibpmaaGreatDoorW.PrintWords
set_option linter.unusedVariables false
set_option linter.unusedSimpArgs false

/-- A new cell pair, ready to be written. -/
structure Pair (W : World) (b : Nat) (t : TypeId) (x y : Value) : Prop where
  out : W.heap[b]? = some (.cells #[x, y] t (0, 0))
  c0 : W.cell? ⟨b, 0, none⟩ = some x
  f0 : W.frozen? ⟨b, 0, none⟩ = false
  c1 : ∀ u, (W.setCell ⟨b, 0, none⟩ u).cell? ⟨b, 1, none⟩ = some y
  f1 : ∀ u, (W.setCell ⟨b, 0, none⟩ u).frozen? ⟨b, 1, none⟩ = false
  st : ∀ u v, ((W.setCell ⟨b, 0, none⟩ u).setCell ⟨b, 1, none⟩ v).heap[b]? = some (.cells #[u, v] t (0, 0))
theorem pair_of {W : World} {b : Nat} {t : TypeId} {x y : Value} (h : W.heap[b]? = some (.cells #[x, y] t (0, 0))) : Pair W b t x y :=
  ⟨h, blk_cell h rfl, blk_free h 0, fun u => blk_cell (blk_set h 0 u) rfl, fun u => blk_free (blk_set h 0 u) 1, fun u v => blk_set (blk_set h 0 u) 1 v⟩

def allF (s : List UInt8) : List (List UInt8) × Nat × Nat := allB s.length s
theorem all_ends : ∀ (f : Nat) (s : List UInt8), (allB f s).1.length ≤ f ∧ (∀ x ∈ (allB f s).1, x.length ≤ s.length) ∧ (allB f s).2.1 ≤ s.length
  | 0, s => by simp [allB]
  | f + 1, s => by
    unfold allB
    by_cases hs : s = []
    · rw [if_pos hs]; simp
    · rw [if_neg hs]
      by_cases hc : (takeB s).2.2 = 0
      · rw [if_pos hc]
        have hp := takeB_pos s hc
        obtain ⟨h1, h2, h3⟩ := all_ends f (s.drop (takeB s).2.1)
        rw [List.length_drop] at h2 h3
        refine ⟨by simp; omega, ?_, by dsimp only; omega⟩
        intro x hx
        rcases List.mem_cons.1 hx with rfl | hx
        · have ht : (takeB s).1.length ≤ s.length := by
            unfold takeB
            split
            · simp
            · split
              · simp
              · split
                · simp
                · split
                  · simp [List.length_take, List.length_drop]; omega
                  · simp
          exact ht
        · exact Nat.le_trans (h2 x hx) (by omega)
      · rw [if_neg hc]; simp
theorem allF_calls (s : List UInt8) (hsz : s.length ≤ 1000000) (w : World) :
    Calls Tryz.prog 82 #[.string (bs s)] w fun e w' => ∃ v, e = .returned (.tuple #[v, .int .i64 ((allF s).2.1 : Int), .int .i64 ((allF s).2.2 : Int)]) ∧
      w'.ownsRow w.heap.size 9 1 v (allF s).1.length ((allF s).1.map strV) ∧ Below w.heap.size w w' := by
  have h := all_calls (bs s) (by rw [bs_size]; exact hsz) w
  rw [bs_size, bs_toList] at h
  exact h
theorem load_len (D : Dk) (n : Nm) (hw : D.wf) : (D.load n).1.length ≤ 65536 := by
  unfold Dk.load Dk.read
  have h := (D.wf_get hw n).1
  split
  · split
    · simp
    · cases hx : D.f n with
      | none => simp
      | some x => simpa [hx] using h
  · simp

def Dk.snap (D : Dk) : Ent × Nat :=
  if (D.load .snap).2.1 = false ∨ (D.load .snap).2.2 ≠ 0 then ((0, []), (D.load .snap).2.2)
  else if (allF (D.load .snap).1).2.2 ≠ 0 ∨ (allF (D.load .snap).1).1.length ≠ 1 then ((0, []), 110)
  else match parseB (allF (D.load .snap).1).1 with
    | none => ((0, []), 110)
    | some E => (E.headD (0, []), 0)
def entV (x : Ent) : Value := .agg (entC x).toArray

theorem Tryz.sizeEnt : (Tryz.prog.info? 60).map (·.size) = some 2 := by kernel_rfl

set_option maxRecDepth 100000 in
set_option maxHeartbeats 1000000 in
theorem snap_calls (p m : Nat) (D : Dk) (w : World) (h : DkIs w p m D) :
    Calls Tryz.prog 62 #[.pointer (some ⟨p, 0, none⟩)] w fun ev w' => ∃ v, ev = .returned (.tuple #[entV D.snap.1, v]) ∧ EV 1 v D.snap.2 ∧ Fr [] w w' := by
  have H := Lib.hid h
  have hll := load_len D .snap h.wf
  obtain ⟨R, hR⟩ : ∃ R, R = D.snap := ⟨_, rfl⟩
  rw [← hR]
  unfold Dk.snap at hR
  have HR := Lib.hid hR
  clear h hR
  go_enter Tryz.func62, Tryz.ntmps62
  go_wp2_with fail
  obtain ⟨w0, hw0⟩ : ∃ w0, w0 = w.alloc (.cells #[.int .i64 0, .string ⟨#[]⟩] 60) := ⟨_, rfl⟩
  have hf0 : Fr [] w w0 := by rw [hw0]; exact (Fr.refl _ _).alloc _
  have hb0 : w0.heap[w.heap.size]? = some (.cells #[.int .i64 0, .string ⟨#[]⟩] 60 (0, 0)) := by rw [hw0]; exact heap_new _ _
  have hl0 := blk_lt hb0
  rw [← hw0]
  clear hw0
  refine (load_calls p m D .snap _ (isNm .snap) _ (H.out.fr hf0 (by simp) (by simp))).mono ?_
  obtain ⟨Q, hQ⟩ : ∃ Q, Q = D.load .snap := ⟨_, rfl⟩
  rw [← hQ] at HR hll ⊢
  clear hQ
  obtain ⟨s, ok, ec⟩ := Q
  dsimp only at HR hll ⊢
  rintro e w1 ⟨v1, rfl, hev, hf1⟩
  have hb1 := (hf1.block _ hl0 (by simp)).trans hb0
  have P1 := pair_of hb1
  obtain ⟨c0, g0, c1, g1, st1⟩ : _ ∧ _ ∧ _ ∧ _ ∧ _ := ⟨P1.c0, P1.f0, P1.c1, P1.f1, P1.st⟩
  have hF1 : Fr [] w w1 := hf0.trans hf1
  have HF1 := Lib.hid hF1
  clear hF1 hf1 hf0 hb0 P1
  have hsl := HF1.out.size
  cases ok with
  | false =>
    have e1 := HR.out
    rw [if_pos (.inl rfl)] at e1
    subst e1
    clear hb1
    go_wp2
    refine bodyPost_ret (results_ct rfl _ _ w.heap.size _ _ _ _ rfl (st1 _ _) rfl rfl Tryz.sizeEnt) rfl ?_
    exact ⟨_, rfl, hev, (HF1.out.setCell (.inr (Nat.le_refl _)) _).setCell (.inr (Nat.le_refl _)) _⟩
  | true =>
    rcases hev.ne with ⟨rfl, rfl⟩ | ⟨he, tt, u, rfl⟩
    · have e1 := HR.out
      rw [if_neg (by simp)] at e1
      have HR1 := Lib.hid e1
      clear HR e1 c0 g0 c1 g1 st1 hev
      have hll' : s.length ≤ 1000000 := by omega
      have hends := all_ends s.length s
      have hends : (allF s).1.length ≤ s.length ∧ (∀ x ∈ (allF s).1, x.length ≤ s.length) := ⟨hends.1, hends.2.1⟩
      go_wp2_with fail
      refine (allF_calls s hll' _).mono ?_
      obtain ⟨Q, hQ⟩ : ∃ Q, Q = allF s := ⟨_, rfl⟩
      rw [← hQ] at HR1 hends ⊢
      clear hQ
      obtain ⟨L, used, ae⟩ := Q
      dsimp only at HR1 hends ⊢
      rintro e w2 ⟨v2, rfl, hrow, hb2⟩
      have hF2 : Fr [] w w2 := HF1.out.trans (Fr.of_below hb2 _)
      have hblk2 := (hb2.block _ (blk_lt hb1)).trans hb1
      have P2 := pair_of hblk2
      obtain ⟨c0, g0, c1, g1, st1⟩ : _ ∧ _ ∧ _ ∧ _ ∧ _ := ⟨P2.c0, P2.f0, P2.c1, P2.f1, P2.st⟩
      obtain ⟨ca, ccap, hv2⟩ : ∃ a c, v2 = .slice a L.length c := by
        rcases hrow.2 with ⟨h, hn⟩ | ⟨g, cap, cur, h, _⟩
        · have : L.length = 0 := by simpa using hn
          exact ⟨none, 0, by rw [h, this]⟩
        · exact ⟨_, _, h⟩
      subst hv2
      have HROW := Lib.hid hrow
      have HF2 := Lib.hid hF2
      clear P2 hrow hb2 hF2 hb1
      by_cases hae : ae = 0
      · subst hae
        by_cases hL : L.length = 1
        · have e1 := HR1.out
          rw [if_neg (by simp [hL])] at e1
          have HR2 := Lib.hid e1
          have HL := Lib.hid hL
          have hLi : ((L.length : Int) == 1) = true := by simp [hL]
          have HP := Lib.hid (show ∀ j, (h : j < L.length) → (L[j]'h).length ≤ 1000000 from fun j h => Nat.le_trans (hends.2 _ (List.getElem_mem h)) hll')
          have hLm : L.length ≤ 1000000 := by omega
          clear HR1 e1 c0 g0 c1 g1 st1 hL
          go_wp2_with fail
          refine (parse_calls _ _ L hLm HP.out _ HROW.out).mono ?_
          rintro e w3 ⟨v3, r3, rfl, hb3, hpar⟩
          have hF3 : Fr [] w w3 := HF2.out.trans (Fr.of_below hb3 _)
          have hblk3 := (hb3.block _ (blk_lt hblk2)).trans hblk2
          have HF3 := Lib.hid hF3
          have P3 := pair_of hblk3
          obtain ⟨c0, g0, c1, g1, st1⟩ : _ ∧ _ ∧ _ ∧ _ ∧ _ := ⟨P3.c0, P3.f0, P3.c1, P3.f1, P3.st⟩
          clear P3 hF3 hb3 hblk3
          rcases hpar with ⟨hp, rfl, hev3⟩ | ⟨E, g, hp, hE, rfl, rfl, hg, hblk⟩
          · rw [hp] at HR2
            have e1 := HR2.out
            dsimp only at e1
            subst e1
            rcases hev3.ne with ⟨_, h0⟩ | ⟨_, tt, u, rfl⟩
            · cases h0
            go_wp2
            refine bodyPost_ret (results_ct rfl _ _ w.heap.size _ _ _ _ rfl (st1 _ _) rfl rfl Tryz.sizeEnt) rfl ?_
            exact ⟨_, rfl, hev3, (HF3.out.setCell (.inr (Nat.le_refl _)) _).setCell (.inr (Nat.le_refl _)) _⟩
          · rw [hp] at HR2
            have e1 := HR2.out
            dsimp only at e1
            subst e1
            rw [HL.out] at hE
            obtain ⟨x, rfl⟩ := List.length_eq_one_iff.1 hE
            have hx0 : w3.cell? ⟨g, 0, none⟩ = some (.int .i64 (x.1 : Int)) := blk_cell hblk rfl
            have hx1 : w3.cell? ⟨g, 1, none⟩ = some (.string (bs x.2)) := blk_cell hblk rfl
            clear hblk
            go_wp2
            refine bodyPost_ret (results_ct rfl _ _ w.heap.size _ _ _ _ rfl (st1 _ _) rfl rfl Tryz.sizeEnt) rfl ?_
            exact ⟨_, rfl, .none 1, (HF3.out.setCell (.inr (Nat.le_refl _)) _).setCell (.inr (Nat.le_refl _)) _⟩
        · have e1 := HR1.out
          rw [if_pos (.inr hL)] at e1
          subst e1
          have hL' : ((L.length : Int) == 1) = false := by simpa using (by omega : ¬ (L.length : Int) = 1)
          go_wp2_with fail
          refine (failed_any _ 110 _).mono ?_
          rintro e w6 ⟨v3, rfl, hev3, rfl⟩
          go_wp2
          refine bodyPost_ret (results_ct rfl _ _ w.heap.size _ _ _ _ rfl (st1 _ _) rfl rfl Tryz.sizeEnt) rfl ?_
          exact ⟨_, rfl, hev3, (HF2.out.setCell (.inr (Nat.le_refl _)) _).setCell (.inr (Nat.le_refl _)) _⟩
      · have e1 := HR1.out
        rw [if_pos (.inl hae)] at e1
        subst e1
        obtain ⟨ai, hai⟩ : ∃ ai : Int, ai = (ae : Int) := ⟨_, rfl⟩
        rw [← hai]
        have hai' : (ai == 0) = false := by simpa using (by omega : ¬ ai = 0)
        go_wp2_with fail
        refine (failed_any _ 110 _).mono ?_
        rintro e w6 ⟨v3, rfl, hev3, rfl⟩
        go_wp2
        refine bodyPost_ret (results_ct rfl _ _ w.heap.size _ _ _ _ rfl (st1 _ _) rfl rfl Tryz.sizeEnt) rfl ?_
        exact ⟨_, rfl, hev3, (HF2.out.setCell (.inr (Nat.le_refl _)) _).setCell (.inr (Nat.le_refl _)) _⟩
    · have e1 := HR.out
      rw [if_pos (.inr he)] at e1
      subst e1
      clear hb1
      go_wp2
      refine bodyPost_ret (results_ct rfl _ _ w.heap.size _ _ _ _ rfl (st1 _ _) rfl rfl Tryz.sizeEnt) rfl ?_
      exact ⟨_, rfl, hev, (HF1.out.setCell (.inr (Nat.le_refl _)) _).setCell (.inr (Nat.le_refl _)) _⟩
end Go.Proofs.YtnlgmekkjibpmaaGreatDoor
