/- DERIVED. Contracts and plain laws under the statement: one merged text. -/
import Derived.Test.YtnlgmekkjibpmaaGreatDoorMe
import Derived.Outline
import Derived.Test.YtnlgmekkjibpmaaGreatDoorRows
import Derived.Test.YtnlgmekkjibpmaaGreatDoorMc
import Derived.ChangeSame
import Derived.ChangeVars
import Derived.JoinedOf
import Derived.RowKit
import Derived.RowKitTokens
import Derived.LaidLaws
import Derived.LaidHandle
import Derived.Stop.Joined
import Derived.Carry
/- DERIVED. wal, plainly: frames are read as they were laid; what is torn off a frame is seen to be torn. -/
namespace Go.Proofs.YtnlgmekkjibpmaaGreatDoor
set_option linter.unusedVariables false
set_option linter.unusedSimpArgs false

theorem ofNat_toNat {n : Nat} (h : n < 256) : (UInt8.ofNat n).toNat = n := by rw [UInt8.toNat_ofNat']; exact Nat.mod_eq_of_lt h

theorem dec_enc (k : Nat) : ∀ (u i : Nat) (r : List UInt8), u < 128 ^ k → i + k ≤ 9 → (i = 0 ∨ u ≠ 0) → decG i (encN u ++ r) = some (u * 128 ^ i, i + (encN u).length) := by
  induction k with
  | zero =>
    intro u i r hu hi h0
    have hu0 : u = 0 := by simpa using hu
    subst hu0
    obtain rfl : i = 0 := by rcases h0 with h | h; exact h; exact absurd rfl h
    rw [encN_small (by omega)]
    simp [decG]
  | succ k ih =>
    intro u i r hu hi h0
    by_cases h : u < 128
    · rw [encN_small h]
      have e := ofNat_toNat (n := u) (by omega)
      rw [List.singleton_append, decG, e, if_neg (by omega), if_neg (by omega), if_pos h, if_neg (by rcases h0 with h0 | h0 <;> omega)]
      rfl
    · rw [encN_big h, List.cons_append, decG]
      have e := ofNat_toNat (n := u % 128 + 128) (by omega)
      rw [e, if_neg (by omega), if_neg (by omega), if_neg (by omega)]
      rw [ih (u / 128) (i + 1) r (by rw [Nat.div_lt_iff_lt_mul (by omega)]; rw [Nat.pow_succ] at hu; exact hu) (by omega) (.inr (by omega))]
      simp only [Option.map_some, List.length_cons, Option.some.injEq, Prod.mk.injEq]
      constructor
      · rw [Nat.add_sub_cancel, Nat.pow_succ, Nat.mul_comm (128 ^ i) 128, ← Nat.mul_assoc, ← Nat.add_mul]
        congr 1
        omega
      · omega
theorem dec_torn (k : Nat) : ∀ (u i j : Nat), u < 128 ^ k → i + k ≤ 9 → j < (encN u).length → decG i ((encN u).take j) = none := by
  induction k with
  | zero =>
    intro u i j hu hi hj
    have hu0 : u = 0 := by simpa using hu
    subst hu0
    rw [encN_small (by omega)] at hj ⊢
    obtain rfl : j = 0 := by simpa using hj
    rfl
  | succ k ih =>
    intro u i j hu hi hj
    by_cases h : u < 128
    · rw [encN_small h] at hj ⊢
      obtain rfl : j = 0 := by simpa using hj
      rfl
    · rw [encN_big h] at hj ⊢
      cases j with
      | zero => rfl
      | succ j =>
        rw [List.take_succ_cons, decG]
        have e := ofNat_toNat (n := u % 128 + 128) (by omega)
        rw [e, if_neg (by omega), if_neg (by omega), if_neg (by omega)]
        rw [ih (u / 128) (i + 1) j (by rw [Nat.div_lt_iff_lt_mul (by omega)]; rw [Nat.pow_succ] at hu; exact hu) (by omega) (by simpa using hj)]
        rfl

theorem zz_nat (n : Nat) : zz (n : Int) = 2 * n := by unfold zz; rw [if_pos (by omega)]; simp
theorem unzz_zz (n : Nat) : unzz (2 * n) = (n : Int) := by
  unfold unzz; rw [if_pos (by omega)]; congr 1; omega
theorem numB_len (n k : Nat) (h : 2 * n < 128 ^ (k + 1)) : (numB (n : Int)).length ≤ k + 1 := by
  unfold numB; rw [zz_nat]; exact encN_length k _ h
theorem numB_pos (n : Nat) : 1 ≤ (numB (n : Int)).length := by
  unfold numB; rw [encN]; split <;> simp
theorem dec_num (n : Nat) (h : n ≤ 2199023255552) (r : List UInt8) : decG 0 (numB (n : Int) ++ r) = some (2 * n, (numB (n : Int)).length) := by
  unfold numB
  rw [zz_nat, dec_enc 9 (2 * n) 0 r (by rw [show (128 : Nat) ^ 9 = 9223372036854775808 by decide]; omega) (by omega) (.inl rfl)]
  simp

theorem layB_eq (p : List UInt8) : layB p = numB (p.length : Int) ++ (p ++ be4 (sumB (textB p))) := by
  simp [layB, sealedB, textB]
theorem layB_length (p : List UInt8) : (layB p).length = (numB (p.length : Int)).length + p.length + 4 := by
  rw [layB_eq]; simp [be4]; omega
theorem take_lay (p r : List UInt8) (h : p.length ≤ 4096) : takeB (layB p ++ r) = (p, (layB p).length, 0) := by
  unfold takeB
  have hl := layB_length p
  rw [show layB p ++ r = numB (p.length : Int) ++ ((p ++ be4 (sumB (textB p))) ++ r) by rw [layB_eq, List.append_assoc], dec_num _ (by omega)]
  simp only [unzz_zz, Int.toNat_natCast]
  rw [if_neg (by omega), if_neg (by simp [be4]; omega)]
  have e1 : (numB (p.length : Int) ++ ((p ++ be4 (sumB (textB p))) ++ r)).take ((numB (p.length : Int)).length + p.length) = textB p := by
    rw [show numB (p.length : Int) ++ ((p ++ be4 (sumB (textB p))) ++ r) = textB p ++ (be4 (sumB (textB p)) ++ r) by simp [textB]]
    exact List.take_left' (by simp [textB])
  have e2 : (numB (p.length : Int) ++ ((p ++ be4 (sumB (textB p))) ++ r)).take ((numB (p.length : Int)).length + p.length + 4) = layB p := by
    rw [show numB (p.length : Int) ++ ((p ++ be4 (sumB (textB p))) ++ r) = layB p ++ r by rw [layB_eq]; simp]
    exact List.take_left' (by omega)
  rw [e1, e2, if_pos (show sealedB (textB p) = layB p from rfl), hl]
  congr 1
  rw [List.drop_left, List.append_assoc]
  exact List.take_left' rfl
theorem take_torn (p : List UInt8) (h : p.length ≤ 4096) (j : Nat) (hj : j < (layB p).length) : takeB ((layB p).take j) = ([], 0, 30) := by
  unfold takeB
  have hl := layB_length p
  have hk : (numB (p.length : Int)).length ≤ 2 := numB_len _ 1 (by rw [show (128 : Nat) ^ (1 + 1) = 16384 by decide]; omega)
  have hk1 := numB_pos p.length
  by_cases hjk : j < (numB (p.length : Int)).length
  · have e : (layB p).take j = (numB (p.length : Int)).take j := by rw [layB_eq, List.take_append_of_le_length (by omega)]
    rw [e]
    unfold numB at hjk ⊢
    rw [zz_nat] at hjk ⊢
    rw [dec_torn 9 (2 * p.length) 0 j (by rw [show (128 : Nat) ^ 9 = 9223372036854775808 by decide]; omega) (by omega) hjk]
    simp only
    rw [if_pos]
    unfold numB at hk
    rw [zz_nat] at hk
    by_cases h0 : j = 0
    · left; simp [h0]
    · right; rw [List.length_take]; omega
  · have e : (layB p).take j = numB (p.length : Int) ++ (p ++ be4 (sumB (textB p))).take (j - (numB (p.length : Int)).length) := by
      rw [layB_eq, List.take_append, List.take_of_length_le (by omega)]
    rw [e, dec_num _ (by omega)]
    simp only [unzz_zz, Int.toNat_natCast]
    rw [if_neg (by omega), if_pos (by rw [← e, List.length_take]; omega)]

/-- An entry that may be laid. -/
def Ent.ok (x : Ent) : Prop := (numB (x.1 : Int)).length + x.2.length ≤ 4096 ∧ x.1 ≤ 1099511627776
def pl (x : Ent) : List UInt8 := numB (x.1 : Int) ++ x.2
def fr (x : Ent) : List UInt8 := layB (pl x)
def flat (E : List Ent) : List UInt8 := (E.map fr).flatten
theorem pl_le {x : Ent} (h : x.ok) : (pl x).length ≤ 4096 := by rw [pl, List.length_append]; exact h.1
theorem fr_len (x : Ent) : 6 ≤ (fr x).length := by
  have h1 := numB_pos (pl x).length
  have h2 := numB_pos x.1
  have h3 : (pl x).length = (numB (x.1 : Int)).length + x.2.length := by rw [pl, List.length_append]
  rw [fr, layB_length]; omega
theorem fr_le {x : Ent} (h : x.ok) : (fr x).length ≤ x.2.length + 12 := by
  have h1 : (numB ((pl x).length : Int)).length ≤ 2 := numB_len _ 1 (by rw [show (128 : Nat) ^ (1 + 1) = 16384 by decide]; have := pl_le h; omega)
  have h2 : (numB (x.1 : Int)).length ≤ 6 := numB_len _ 5 (by rw [show (128 : Nat) ^ (5 + 1) = 4398046511104 by decide]; have := h.2; omega)
  have h3 : (pl x).length = (numB (x.1 : Int)).length + x.2.length := by rw [pl, List.length_append]
  rw [fr, layB_length]; omega
theorem ent_pl {x : Ent} (h : x.ok) : entB (pl x) = some x := by
  unfold entB pl
  rw [dec_num _ (by have := h.2; omega)]
  simp only [unzz_zz, Int.toNat_natCast]
  have := h.2
  rw [if_neg (by omega), List.drop_left]
theorem parse_pl : ∀ (E : List Ent), (∀ x ∈ E, x.ok) → parseB (E.map pl) = some E
  | [], _ => rfl
  | x :: E, h => by
    rw [List.map_cons, parseB, ent_pl (h x (by simp)), parse_pl E fun y hy => h y (by simp [hy])]
    rfl
theorem all_flat : ∀ (E : List Ent) (t : List UInt8) (x : Ent) (j f : Nat), (∀ x ∈ E, x.ok) → x.ok → t = (fr x).take j → j < (fr x).length → (flat E ++ t).length ≤ f →
    allB f (flat E ++ t) = (E.map pl, (flat E).length, if t = [] then 0 else 30)
  | [], t, x, j, f, hE, hx, ht, hj, hf => by
    simp only [flat, List.map_nil, List.flatten_nil, List.nil_append, List.length_nil]
    cases f with
    | zero =>
      have : t = [] := List.eq_nil_of_length_eq_zero (by simp [flat] at hf; simpa using hf)
      simp [allB, this]
    | succ f =>
      rw [allB]
      by_cases h0 : t = []
      · rw [if_pos h0, if_pos h0]
      · rw [if_neg h0, if_neg h0]
        have : takeB t = ([], 0, 30) := by rw [ht]; exact take_torn (pl x) (pl_le hx) j hj
        rw [this]
        simp
  | y :: E, t, x, j, f, hE, hx, ht, hj, hf => by
    have e : flat (y :: E) ++ t = layB (pl y) ++ (flat E ++ t) := by simp [flat, fr]
    have hy := hE y (by simp)
    have hfl := fr_len y
    have hln : (flat (y :: E)).length = (fr y).length + (flat E).length := by simp [flat]
    rw [e] at hf ⊢
    rw [List.length_append] at hf
    have hfr : (layB (pl y)).length = (fr y).length := rfl
    rw [hfr] at hf
    cases f with
    | zero => omega
    | succ f =>
      rw [allB, if_neg (by intro h0; have := congrArg List.length h0; simp only [List.length_append, List.length_nil] at this; omega)]
      rw [take_lay _ _ (pl_le hy)]
      simp only [List.drop_left, if_true]
      rw [all_flat E t x j f (fun z hz => hE z (by simp [hz])) hx ht hj (by omega)]
      simp only [List.map_cons, hln, hfr]

theorem made_ok {x : Ent} (h : x.ok) : madeB x.1 x.2 = (fr x, 0) := by
  have h1 := h.1; have h2 := h.2
  unfold madeB
  rw [if_neg (by omega)]
  rfl
theorem flat_append (E F : List Ent) : flat (E ++ F) = flat E ++ flat F := by simp [flat]
theorem flat_one (x : Ent) : flat [x] = fr x := by simp [flat]
end Go.Proofs.YtnlgmekkjibpmaaGreatDoor
/- DERIVED. wal, plainly: what a disk bears, and what each call makes of it, the power going off or not. -/
namespace Go.Proofs.YtnlgmekkjibpmaaGreatDoor
set_option linter.unusedVariables false
set_option linter.unusedSimpArgs false

structure Has (a : Ent) (E : List Ent) (q : Nat) : Prop where
  run : ∃ e0, 1 ≤ e0 ∧ e0 ≤ a.1 + 1 ∧ a.1 + 1 ≤ e0 + E.length ∧ q + 1 = e0 + E.length ∧ ∀ i, (h : i < E.length) → (E[i]'h).1 = e0 + i
  ok : ∀ x ∈ E, x.ok
  aok : a.ok
theorem Has.le {a : Ent} {E : List Ent} {q : Nat} (h : Has a E q) : a.1 ≤ q := by
  obtain ⟨e0, h1, h2, h3, h4, _⟩ := h.run; omega
theorem Has.none : Has (0, []) [] 0 := ⟨⟨1, by simp, by simp, by simp, by simp, fun i h => by simp at h⟩, fun x h => by simp at h, by unfold Ent.ok; decide +kernel⟩
theorem Has.append {a : Ent} {E : List Ent} {q : Nat} (h : Has a E q) {x : Ent} (hx : x.ok) (hq : x.1 = q + 1) : Has a (E ++ [x]) (q + 1) := by
  obtain ⟨e0, h1, h2, h3, h4, h5⟩ := h.run
  refine ⟨⟨e0, h1, h2, by simp; omega, by simp; omega, fun i hi => ?_⟩, fun y hy => ?_, h.aok⟩
  · by_cases hlt : i < E.length
    · rw [List.getElem_append_left hlt]; exact h5 i hlt
    · have : i = E.length := by simp at hi; omega
      subst this
      simp; omega
  · simp at hy
    rcases hy with hy | rfl
    · exact h.ok y hy
    · exact hx
theorem Has.check {a : Ent} {E : List Ent} {q : Nat} (h : Has a E q) {x : Ent} (hx : x.ok) (hq : x.1 = q) : Has x E q ∧ Has x [] q := by
  obtain ⟨e0, h1, h2, h3, h4, h5⟩ := h.run
  exact ⟨⟨⟨e0, h1, by omega, by omega, h4, h5⟩, h.ok, hx⟩, ⟨⟨q + 1, by omega, by omega, by simp; omega, by simp, fun i h => by simp at h⟩, fun x h => by simp at h, hx⟩⟩
theorem Has.ordered {a : Ent} {E : List Ent} {q : Nat} (h : Has a E q) : Ordered E a.1 := by
  obtain ⟨e0, h1, h2, h3, h4, h5⟩ := h.run
  intro i hi
  have := h5 i hi
  have := h5 0 (by omega)
  omega
theorem Has.mem {a : Ent} {E : List Ent} {q : Nat} (h : Has a E q) {x : Ent} (hx : x ∈ E) : x.1 ≤ q := by
  obtain ⟨e0, h1, h2, h3, h4, h5⟩ := h.run
  obtain ⟨i, hi, rfl⟩ := List.mem_iff_getElem.1 hx
  have := h5 i hi
  omega
theorem Has.kept_end {a : Ent} {E : List Ent} {q : Nat} (h : Has a E q) (hq : a.1 = q) : keptF a.1 E = [] := by
  unfold keptF
  rw [List.filter_eq_nil_iff]
  intro x hx
  have := h.mem hx
  simp; omega
theorem Has.kept_next {a : Ent} {E : List Ent} {q : Nat} (h : Has a E q) {x : Ent} (hq : x.1 = q + 1) : keptF a.1 (E ++ [x]) = keptF a.1 E ++ [x] := by
  have := h.le
  unfold keptF
  rw [List.filter_append]
  congr 1
  simp; omega
theorem Has.last {a : Ent} {E : List Ent} {q : Nat} (h : Has a E q) : lastSeq a.1 (keptF a.1 E) = q := by
  obtain ⟨e0, h1, h2, h3, h4, h5⟩ := h.run
  rcases List.eq_nil_or_concat E with rfl | ⟨F, x, rfl⟩
  · simp [keptF, lastSeq] at h3 h4 ⊢; omega
  · have hx : x.1 = q := by
      have := h5 F.length (by simp)
      simp at this h4
      omega
    by_cases hq : a.1 = q
    · rw [h.kept_end hq]; simp [lastSeq, hq]
    · have hle := h.le
      unfold keptF
      rw [List.concat_eq_append, List.filter_append]
      have : List.filter (fun x => decide (a.1 < x.1)) [x] = [x] := by simp; omega
      rw [this]
      unfold lastSeq
      rw [List.getLast?_concat]
      simpa using hx

def SnapIs (D : Dk) (a : Ent) : Prop := (D.f .snap = none ∧ a = (0, [])) ∨ D.f .snap = some ⟨fr a, (fr a).length⟩
def LogIs (D : Dk) (E : List Ent) (t : List UInt8) : Prop :=
  (D.f .log = none ∧ E = [] ∧ t = []) ∨ ∃ s, D.f .log = some ⟨flat E ++ t, s⟩ ∧ (flat E).length ≤ s ∧ s ≤ (flat E ++ t).length
theorem SnapIs.same {D D' : Dk} {a : Ent} (h : SnapIs D a) (hf : D'.f .snap = D.f .snap) : SnapIs D' a := by
  unfold SnapIs at h ⊢; rw [hf]; exact h
theorem LogIs.same {D D' : Dk} {E : List Ent} {t : List UInt8} (h : LogIs D E t) (hf : D'.f .log = D.f .log) : LogIs D' E t := by
  unfold LogIs at h ⊢; rw [hf]; exact h

theorem doing_cases (D : Dk) (f : Dk → Nat × Dk) (hoff : D.off = false) :
    (D.doing f = (100, D.tick) ∧ D.armed ≠ 0 ∧ D.tick.off = true) ∨ (D.doing f = f D.tick ∧ D.tick.off = false) := by
  unfold Dk.doing
  rw [if_neg (by simp [hoff])]
  by_cases h : D.acts + 1 = D.armed
  · left; rw [if_pos h]; exact ⟨rfl, by omega, by simp [Dk.tick, h]⟩
  · right; rw [if_neg h]; exact ⟨rfl, by simp [Dk.tick, h]⟩
theorem append_cases0 (D : Dk) (n : Nm) (s : List UInt8) (hoff : D.off = false) (hs : ((D.f n).getD Fl.zero).bytes.length + s.length ≤ 65536) :
    ((D.append n s).1 = 100 ∧ D.armed ≠ 0 ∧ (D.append n s).2.off = true ∧ (D.append n s).2.f = D.f) ∨
    ((D.append n s).1 = 0 ∧ (D.append n s).2.off = false ∧ (D.append n s).2.armed = D.armed ∧
      (D.append n s).2.f = upd D.f n (some ⟨((D.f n).getD Fl.zero).bytes ++ s, ((D.f n).getD Fl.zero).synced⟩)) := by
  unfold Dk.append
  rcases doing_cases D (Dk.app0 n s) hoff with ⟨h, h1, h2⟩ | ⟨h, h2⟩
  · left; rw [h]; exact ⟨rfl, h1, h2, rfl⟩
  · right
    rw [h]
    have : ¬ 65536 < ((D.tick.f n).getD Fl.zero).bytes.length + s.length := by show ¬ 65536 < ((D.f n).getD Fl.zero).bytes.length + s.length; omega
    unfold Dk.app0
    rw [if_neg this]
    exact ⟨rfl, h2, rfl, rfl⟩
theorem sync_cases0 (D : Dk) (n : Nm) (x : Fl) (hoff : D.off = false) (hx : D.f n = some x) :
    ((D.sync n).1 = 100 ∧ D.armed ≠ 0 ∧ (D.sync n).2.off = true ∧ (D.sync n).2.f = D.f) ∨
    ((D.sync n).1 = 0 ∧ (D.sync n).2.off = false ∧ (D.sync n).2.armed = D.armed ∧ (D.sync n).2.f = upd D.f n (some ⟨x.bytes, x.bytes.length⟩)) := by
  unfold Dk.sync
  rcases doing_cases D (Dk.sync0 n) hoff with ⟨h, h1, h2⟩ | ⟨h, h2⟩
  · left; rw [h]; exact ⟨rfl, h1, h2, rfl⟩
  · right
    rw [h]
    have : D.tick.f n = some x := hx
    unfold Dk.sync0
    rw [this]
    exact ⟨rfl, h2, rfl, rfl⟩
theorem remove_cases0 (D : Dk) (n : Nm) (hoff : D.off = false) (hx : (D.f n).isSome = true) :
    ((D.remove n).1 = 100 ∧ D.armed ≠ 0 ∧ (D.remove n).2.off = true ∧ (D.remove n).2.f = D.f) ∨
    ((D.remove n).1 = 0 ∧ (D.remove n).2.off = false ∧ (D.remove n).2.armed = D.armed ∧ (D.remove n).2.f = upd D.f n none) := by
  obtain ⟨x, hx⟩ := Option.isSome_iff_exists.1 hx
  unfold Dk.remove
  rcases doing_cases D (Dk.rem0 n) hoff with ⟨h, h1, h2⟩ | ⟨h, h2⟩
  · left; rw [h]; exact ⟨rfl, h1, h2, rfl⟩
  · right
    rw [h]
    have : D.tick.f n = some x := hx
    unfold Dk.rem0
    rw [this]
    exact ⟨rfl, h2, rfl, rfl⟩
theorem rename_cases0 (D : Dk) (a b : Nm) (x : Fl) (hoff : D.off = false) (hx : D.f a = some x) :
    ((D.rename a b).1 = 100 ∧ D.armed ≠ 0 ∧ (D.rename a b).2.off = true ∧ (D.rename a b).2.f = D.f) ∨
    ((D.rename a b).1 = 0 ∧ (D.rename a b).2.off = false ∧ (D.rename a b).2.armed = D.armed ∧ (D.rename a b).2.f = upd (upd D.f a none) b (some x)) := by
  unfold Dk.rename
  rcases doing_cases D (Dk.ren0 a b) hoff with ⟨h, h1, h2⟩ | ⟨h, h2⟩
  · left; rw [h]; exact ⟨rfl, h1, h2, rfl⟩
  · right
    rw [h]
    have : D.tick.f a = some x := hx
    unfold Dk.ren0
    rw [this]
    exact ⟨rfl, h2, rfl, rfl⟩

theorem renew_cases (D : Dk) (n : Nm) (s : List UInt8) (hn : n ≠ .new) (hoff : D.off = false) (hnew : D.f .new = none) (hs : s.length ≤ 65536) :
    ((D.renew n s).1 = 100 ∧ D.armed ≠ 0 ∧ (D.renew n s).2.off = true ∧ ∀ k, k ≠ .new → (D.renew n s).2.f k = D.f k) ∨
    ((D.renew n s).1 = 0 ∧ (D.renew n s).2.off = false ∧ (D.renew n s).2.armed = D.armed ∧ (D.renew n s).2.f .new = none ∧ (D.renew n s).2.f n = some ⟨s, s.length⟩ ∧
      ∀ k, k ≠ .new → k ≠ n → (D.renew n s).2.f k = D.f k) := by
  unfold Dk.renew
  rcases append_cases0 D .new s hoff (by rw [hnew]; simpa [Fl.zero] using hs) with ⟨h1, h2, h3, h4⟩ | ⟨h1, h3, h2, h4⟩
  · left
    rw [if_pos (by omega)]
    exact ⟨h1, h2, h3, fun k _ => by rw [h4]⟩
  · rw [if_neg (by omega)]
    generalize hD1 : (D.append .new s).2 = D1 at *
    rw [hnew] at h4
    have hf1 : D1.f .new = some ⟨s, 0⟩ := by rw [h4, upd_same]; simp [Fl.zero]
    have ho1 : ∀ k, k ≠ .new → D1.f k = D.f k := fun k hk => by rw [h4, upd_other _ _ _ _ hk]
    rcases sync_cases0 D1 .new _ h3 hf1 with ⟨g1, g2, g3, g4⟩ | ⟨g1, g3, g2, g4⟩
    · left
      rw [if_pos (by omega)]
      exact ⟨g1, by omega, g3, fun k hk => by rw [g4, ho1 k hk]⟩
    · rw [if_neg (by omega)]
      generalize hD2 : (D1.sync .new).2 = D2 at *
      have hf2 : D2.f .new = some ⟨s, s.length⟩ := by rw [g4, upd_same]
      have ho2 : ∀ k, k ≠ .new → D2.f k = D.f k := fun k hk => by rw [g4, upd_other _ _ _ _ hk, ho1 k hk]
      rcases rename_cases0 D2 .new n _ g3 hf2 with ⟨j1, j2, j3, j4⟩ | ⟨j1, j3, j2, j4⟩
      · left
        exact ⟨j1, by omega, j3, fun k hk => by rw [j4, ho2 k hk]⟩
      · right
        refine ⟨j1, j3, by omega, ?_, ?_, fun k hk hkn => ?_⟩
        · rw [j4, upd_other _ _ _ _ (Ne.symm hn), upd_same]
        · rw [j4, upd_same]
        · rw [j4, upd_other _ _ _ _ hkn, upd_other _ _ _ _ hk, ho2 k hk]

theorem read_snap (D : Dk) (a : Ent) (hoff : D.off = false) (h : SnapIs D a) (ha : a.ok) : D.snap = (a, 0) := by
  unfold Dk.snap Dk.load Dk.read
  rcases h with ⟨h, rfl⟩ | h
  · rw [h]; simp
  · rw [h]
    simp only [Option.isSome_some, if_true, hoff, Bool.false_eq_true, if_false]
    have := all_flat [a] [] a 0 (fr a).length (by simpa using ha) ha rfl (by have := fr_len a; omega) (by rw [flat_one]; simp)
    rw [flat_one, List.append_nil] at this
    have e : allF (fr a) = ([pl a], (fr a).length, 0) := by unfold allF; rw [this]; simp
    rw [e]
    have hp := parse_pl [a] (by simpa using ha)
    rw [List.map_cons, List.map_nil] at hp
    simp [hp]

theorem read_log (D : Dk) (a : Ent) (E : List Ent) (t : List UInt8) (x : Ent) (j q : Nat) (hoff : D.off = false) (hnew : D.f .new = none) (hl : LogIs D E t) (hx : x.ok) (ht : t = (fr x).take j) (hj : j < (fr x).length)
    (hH : Has a E q) (hlen : (flat E).length ≤ 65536) :
    ((D.log a.1).1 = keptF a.1 E ∧ (D.log a.1).2.1 = 0 ∧ (D.log a.1).2.2.off = false ∧ (D.log a.1).2.2.armed = D.armed ∧ (D.log a.1).2.2.f .new = none ∧ (D.log a.1).2.2.f .snap = D.f .snap ∧ LogIs (D.log a.1).2.2 E []) ∨
    ((D.log a.1).2.1 = 100 ∧ D.armed ≠ 0 ∧ (D.log a.1).2.2.off = true ∧ (D.log a.1).2.2.f .snap = D.f .snap ∧ LogIs (D.log a.1).2.2 E t) := by
  unfold Dk.log Dk.load Dk.read
  rcases hl with ⟨h, rfl, ht2⟩ | ⟨s, h, h1, h2⟩
  · left
    have e : allF ([] : List UInt8) = ([], 0, 0) := rfl
    rw [h]
    simp only [Option.isSome_none, Bool.false_eq_true, if_false, ne_eq, not_true, e, parseB]
    rw [if_neg (by simp)]
    have ho := hH.ordered
    simp only [ho, not_true, if_false]
    exact ⟨trivial, trivial, hoff, trivial, hnew, trivial, .inl ⟨h, rfl, rfl⟩⟩
  · rw [h]
    simp only [Option.isSome_some, if_true, hoff, Bool.false_eq_true, if_false, ne_eq, not_true]
    have e : allF (flat E ++ t) = (E.map pl, (flat E).length, if t = [] then 0 else 30) := all_flat E t x j _ hH.ok hx ht hj (Nat.le_refl _)
    rw [e]
    simp only [parse_pl E hH.ok, List.take_left]
    have ho := hH.ordered
    simp only [ho, not_true, if_false]
    by_cases h0 : t = []
    · left
      subst h0
      simp only [if_true]
      rw [if_neg (by simp), if_neg (by simp)]
      refine ⟨rfl, rfl, hoff, rfl, hnew, rfl, .inr ⟨s, ?_, h1, h2⟩⟩
      rw [h]
    · simp only [h0, if_false]
      rw [if_neg (by simp), if_pos (by simp)]
      rcases renew_cases D .log (flat E) (by simp) hoff hnew hlen with ⟨g1, g2, g3, g4⟩ | ⟨g1, g2, g3, g4, g5, g6⟩
      · right
        rw [if_pos (by omega)]
        exact ⟨g1, g2, g3, g4 _ (by simp), .inr ⟨s, by rw [g4 _ (by simp), h], h1, h2⟩⟩
      · left
        rw [if_neg (by omega)]
        exact ⟨rfl, g1, g2, g3, g4, g6 _ (by simp) (by simp), .inr ⟨_, by rw [g5, List.append_nil], by simp, by simp⟩⟩

/-- What an Open tells, the power going off or not. -/
theorem open_cases (D : Dk) (a : Ent) (E : List Ent) (t : List UInt8) (x : Ent) (j q : Nat) (hoff : D.off = false) (hs : SnapIs D a) (hl : LogIs D E t) (hx : x.ok) (ht : t = (fr x).take j) (hj : j < (fr x).length)
    (hH : Has a E q) (hlen : (flat E).length ≤ 65536) :
    (D.Open.1 = some (a, keptF a.1 E) ∧ D.Open.2.1 = 0 ∧ D.Open.2.2.off = false ∧ D.Open.2.2.armed = D.armed ∧ D.Open.2.2.f .new = none ∧ SnapIs D.Open.2.2 a ∧ LogIs D.Open.2.2 E []) ∨
    (D.Open.1 = none ∧ D.Open.2.1 = 100 ∧ D.armed ≠ 0 ∧ D.Open.2.2.off = true ∧ SnapIs D.Open.2.2 a ∧ LogIs D.Open.2.2 E t) := by
  have key : ∀ D1 : Dk, D1.off = false → D1.armed = D.armed → D1.f .new = none → D1.f .snap = D.f .snap → D1.f .log = D.f .log → D.opn = D1.opn1 →
    ((D.Open.1 = some (a, keptF a.1 E) ∧ D.Open.2.1 = 0 ∧ D.Open.2.2.off = false ∧ D.Open.2.2.armed = D.armed ∧ D.Open.2.2.f .new = none ∧ SnapIs D.Open.2.2 a ∧ LogIs D.Open.2.2 E []) ∨
    (D.Open.1 = none ∧ D.Open.2.1 = 100 ∧ D.armed ≠ 0 ∧ D.Open.2.2.off = true ∧ SnapIs D.Open.2.2 a ∧ LogIs D.Open.2.2 E t)) := by
    intro D1 h1 h2 h3 h4 h5 h6
    unfold Dk.Open
    rw [if_neg (by simp [hoff]), h6]
    unfold Dk.opn1
    rw [read_snap D1 a h1 (hs.same h4) hH.aok]
    simp only [ne_eq, not_true, if_false]
    rcases read_log D1 a E t x j q h1 h3 (hl.same h5) hx ht hj hH hlen with ⟨g1, g2, g3, g4, g5, g6, g7⟩ | ⟨g1, g2, g3, g4, g5⟩
    · left
      rw [if_neg (by omega)]
      exact ⟨by rw [g1], rfl, g3, by rw [← h2]; exact g4, g5, (hs.same h4).same g6, g7⟩
    · right
      rw [if_pos (by omega)]
      exact ⟨rfl, g1, by omega, g3, (hs.same h4).same g4, g5⟩
  by_cases hn : (D.f .new).isSome = true
  · rcases remove_cases0 D .new hoff hn with ⟨h1, h2, h3, h4⟩ | ⟨h1, h3, h2, h4⟩
    · right
      unfold Dk.Open Dk.opn
      have hne : (D.remove .new).1 ≠ 0 := by omega
      simp only [hoff, hn, hne, Bool.false_eq_true, if_false, if_true, ne_eq, not_false_eq_true]
      exact ⟨trivial, h1, h2, h3, hs.same (by rw [h4]), hl.same (by rw [h4])⟩
    · refine key (D.remove .new).2 h3 h2 (by rw [h4, upd_same]) (by rw [h4, upd_other _ _ _ _ (by simp)]) (by rw [h4, upd_other _ _ _ _ (by simp)]) ?_
      unfold Dk.opn
      rw [if_pos hn, if_neg (by omega)]
  · refine key D hoff rfl (by simpa using hn) rfl rfl ?_
    unfold Dk.opn
    rw [if_neg hn]
end Go.Proofs.YtnlgmekkjibpmaaGreatDoor
/- DERIVED. wal, plainly: appends, checkpoints, restarts, opens that are cut off. -/
namespace Go.Proofs.YtnlgmekkjibpmaaGreatDoor
set_option linter.unusedVariables false
set_option linter.unusedSimpArgs false

/-- A log that can be written to: its checkpoint a, its records E, its number q. -/
structure Alive (L : Lg) (a : Ent) (E : List Ent) (q : Nat) : Prop where
  err : L.err = 0
  seq : L.seq = q
  off : L.dk.off = false
  new : L.dk.f .new = none
  snap : SnapIs L.dk a
  log : LogIs L.dk E []
  has : Has a E q

theorem append_law (L : Lg) (a : Ent) (E : List Ent) (q : Nat) (s : List UInt8) (h : Alive L a E q) (hx : Ent.ok (q + 1, s)) (hlen : (flat E).length + (fr (q + 1, s)).length ≤ 65536) :
    ((L.append s).1 = 0 ∧ Alive (L.append s).2 a (E ++ [(q + 1, s)]) (q + 1) ∧ (L.append s).2.dk.armed = L.dk.armed) ∨
    ((L.append s).1 = 100 ∧ L.dk.armed ≠ 0 ∧ (L.append s).2.dk.off = true ∧ SnapIs (L.append s).2.dk a ∧ ∃ j, j ≤ (fr (q + 1, s)).length ∧ LogIs (L.append s).2.dk E ((fr (q + 1, s)).take j)) := by
  obtain ⟨h1, h2, h3, h4, h5, h6, h7⟩ := h
  unfold Lg.append
  have hm := made_ok hx
  rw [h2, if_neg (by omega), hm]
  simp only [ne_eq, not_true, if_false]
  generalize L.dk = D at *
  have hl0 : ((D.f .log).getD Fl.zero).bytes = flat E := by
    rcases h6 with ⟨g1, rfl, _⟩ | ⟨s', g1, _, _⟩
    · rw [g1]; rfl
    · rw [g1]; simp
  have hl1 : (flat E).length ≤ ((D.f .log).getD Fl.zero).synced := by
    rcases h6 with ⟨g1, rfl, _⟩ | ⟨s', g1, g2, _⟩
    · rw [g1]; simp [flat]
    · rw [g1]; simpa using g2
  have hl2 : ((D.f .log).getD Fl.zero).synced ≤ (flat E).length := by
    rcases h6 with ⟨g1, rfl, _⟩ | ⟨s', g1, g2, g3⟩
    · rw [g1]; simp [Fl.zero]
    · rw [g1]; simpa using g3
  rcases append_cases0 D .log (fr (q + 1, s)) h3 (by rw [hl0]; omega) with ⟨k1, k2, k3, k4⟩ | ⟨k1, k3, k2, k4⟩
  · right
    rw [if_pos (by omega)]
    exact ⟨k1, k2, k3, h5.same (by rw [k4]), 0, by omega, h6.same (by rw [k4])⟩
  · rw [if_neg (by omega)]
    generalize (D.append .log (fr (q + 1, s))).2 = D1 at *
    rw [hl0] at k4
    have f1 : D1.f .log = some ⟨flat E ++ fr (q + 1, s), ((D.f .log).getD Fl.zero).synced⟩ := by rw [k4, upd_same]
    have ho1 : ∀ k, k ≠ .log → D1.f k = D.f k := fun k hk => by rw [k4, upd_other _ _ _ _ hk]
    rcases sync_cases0 D1 .log _ k3 f1 with ⟨g1, g2, g3, g4⟩ | ⟨g1, g3, g2, g4⟩
    · right
      rw [if_pos (by omega)]
      refine ⟨g1, by omega, g3, h5.same (by rw [g4, ho1 _ (by simp)]), (fr (q + 1, s)).length, by omega, .inr ⟨((D.f .log).getD Fl.zero).synced, ?_, hl1, ?_⟩⟩
      · rw [g4, f1, List.take_length]
      · rw [List.length_append]; omega
    · left
      rw [if_neg (by omega)]
      refine ⟨rfl, ⟨rfl, rfl, g3, ?_, h5.same ?_, .inr ⟨(flat E ++ fr (q + 1, s)).length, ?_, ?_, ?_⟩, h7.append hx rfl⟩, by show _ = D.armed; simp only; omega⟩
      · show _ = none
        simp only
        rw [g4, upd_other _ _ _ _ (by simp), ho1 _ (by simp), h4]
      · simp only
        rw [g4, upd_other _ _ _ _ (by simp), ho1 _ (by simp)]
      · simp only
        rw [g4, upd_same, flat_append, flat_one, List.append_nil]
      · rw [flat_append, flat_one]; exact Nat.le_refl _
      · rw [flat_append, flat_one, List.append_nil]; exact Nat.le_refl _

theorem append_long (L : Lg) (s : List UInt8) (h : L.err = 0) (hx : ¬ Ent.ok (L.seq + 1, s)) : L.append s = (111, L) := by
  unfold Lg.append
  have : madeB (L.seq + 1) s = ([], 111) := by
    unfold madeB
    rw [if_pos]
    unfold Ent.ok at hx
    simp only at hx
    omega
  rw [if_neg (by omega), this, if_pos (by simp)]
theorem check_long (L : Lg) (s : List UInt8) (h : L.err = 0) (hx : ¬ Ent.ok (L.seq, s)) : L.checkpoint s = (111, L) := by
  unfold Lg.checkpoint
  have : madeB L.seq s = ([], 111) := by
    unfold madeB
    rw [if_pos]
    unfold Ent.ok at hx
    simp only at hx
    omega
  rw [if_neg (by omega), this, if_pos (by simp)]

theorem check_law (L : Lg) (a : Ent) (E : List Ent) (q : Nat) (s : List UInt8) (h : Alive L a E q) (hx : Ent.ok (q, s)) :
    ((L.checkpoint s).1 = 0 ∧ Alive (L.checkpoint s).2 (q, s) [] q ∧ (L.checkpoint s).2.dk.armed = L.dk.armed) ∨
    ((L.checkpoint s).1 = 100 ∧ L.dk.armed ≠ 0 ∧ (L.checkpoint s).2.dk.off = true ∧ (SnapIs (L.checkpoint s).2.dk a ∨ SnapIs (L.checkpoint s).2.dk (q, s)) ∧ LogIs (L.checkpoint s).2.dk E []) := by
  obtain ⟨h1, h2, h3, h4, h5, h6, h7⟩ := h
  unfold Lg.checkpoint
  have hm := made_ok hx
  have hfl := fr_le hx
  have hpl := pl_le hx
  rw [h2, if_neg (by omega), hm]
  simp only [ne_eq, not_true, if_false]
  generalize L.dk = D at *
  have hsz : (fr (q, s)).length ≤ 65536 := by
    have : s.length ≤ 4096 := by have := hx.1; simp only at this; omega
    simp only at hfl
    omega
  rcases renew_cases D .snap (fr (q, s)) (by simp) h3 h4 hsz with ⟨k1, k2, k3, k4⟩ | ⟨k1, k2, k3, k4, k5, k6⟩
  · right
    rw [if_pos (by omega)]
    exact ⟨k1, k2, k3, .inl (h5.same (k4 _ (by simp))), h6.same (k4 _ (by simp))⟩
  · rw [if_neg (by omega)]
    generalize (D.renew .snap (fr (q, s))).2 = D1 at *
    have hlog : D1.f .log = D.f .log := k6 _ (by simp) (by simp)
    by_cases hi : (D1.f .log).isSome = true
    · rw [if_pos hi]
      rcases remove_cases0 D1 .log k2 hi with ⟨g1, g2, g3, g4⟩ | ⟨g1, g3, g2, g4⟩
      · right
        exact ⟨g1, by omega, g3, .inr (.inr (by rw [g4]; exact k5)), h6.same (by rw [g4]; exact hlog)⟩
      · left
        refine ⟨g1, ⟨g1, rfl, g3, ?_, .inr ?_, .inl ⟨?_, rfl, rfl⟩, (h7.check hx rfl).2⟩, by simp only; omega⟩
        · simp only
          rw [g4, upd_other _ _ _ _ (by simp), k4]
        · simp only
          rw [g4, upd_other _ _ _ _ (by simp), k5]
        · simp only
          rw [g4, upd_same]
    · left
      rw [if_neg hi]
      exact ⟨rfl, ⟨rfl, rfl, k2, k4, .inr k5, .inl ⟨by simpa using hi, rfl, rfl⟩, (h7.check hx rfl).2⟩, k3⟩

theorem rst_at (keep : List Int) : ∀ (l : List Nm) (i : Nat) (f : Nm → Option Fl) (n : Nm), l.Nodup → (n ∈ l → ∃ c, rst keep i l f n = (f n).map (cutFl c)) ∧ (n ∉ l → rst keep i l f n = f n)
  | [], i, f, n, _ => ⟨fun h => (by simp at h), fun _ => rfl⟩
  | m :: l, i, f, n, hd => by
    rw [List.nodup_cons] at hd
    obtain ⟨h1, h2⟩ := rst_at keep l (i + 1) (upd f m ((f m).map (cutFl (keep.getD i 0)))) n hd.2
    constructor
    · intro hm
      rw [rst]
      rw [List.mem_cons] at hm
      by_cases hnl : n ∈ l
      · obtain ⟨c, hc⟩ := h1 hnl
        refine ⟨c, ?_⟩
        rw [hc, upd_other]
        rintro rfl
        exact hd.1 hnl
      · rcases hm with rfl | hm
        · refine ⟨keep.getD i 0, ?_⟩
          rw [h2 hnl, upd_same]
        · exact absurd hm hnl
    · intro hm
      rw [List.mem_cons, not_or] at hm
      rw [rst, h2 hm.2, upd_other _ _ _ _ hm.1]
theorem restart_at (D : Dk) (keep : List Int) (n : Nm) : ∃ c, (D.restart keep).f n = (D.f n).map (cutFl c) := by
  have hnd : (names D.f).Nodup := List.Nodup.sublist List.filter_sublist (by decide)
  obtain ⟨h1, h2⟩ := rst_at keep (names D.f) 0 D.f n hnd
  by_cases hm : n ∈ names D.f
  · exact h1 hm
  · refine ⟨0, ?_⟩
    have e : (D.restart keep).f n = D.f n := h2 hm
    have hn := mem_names D.f n
    have : D.f n = none := by
      rw [decide_eq_false hm] at hn
      simpa using hn.symm
    rw [e, this]; rfl
theorem cutFl_whole (c : Int) (b : List UInt8) : cutFl c ⟨b, b.length⟩ = ⟨b, b.length⟩ := by
  unfold cutFl
  have : b.take (b.length + pickN c (b.length - b.length + 1)) = b := List.take_of_length_le (by omega)
  simp only [this]
theorem restart_snap {D : Dk} {a : Ent} (h : SnapIs D a) (keep : List Int) : SnapIs (D.restart keep) a := by
  obtain ⟨c, hc⟩ := restart_at D keep .snap
  rcases h with ⟨h, h2⟩ | h
  · exact .inl ⟨by rw [hc, h]; rfl, h2⟩
  · right; rw [hc, h, Option.map_some, cutFl_whole]
theorem restart_log {D : Dk} {E : List Ent} {x : Ent} {j : Nat} (h : LogIs D E ((fr x).take j)) (hj : j ≤ (fr x).length) (keep : List Int) :
    (∃ k, k ≤ j ∧ k < (fr x).length ∧ LogIs (D.restart keep) E ((fr x).take k)) ∨ (j = (fr x).length ∧ LogIs (D.restart keep) (E ++ [x]) []) := by
  have hfl := fr_len x
  obtain ⟨c, hc⟩ := restart_at D keep .log
  rcases h with ⟨h, h2, h3⟩ | ⟨s, h, h1, h2⟩
  · left
    exact ⟨0, by omega, by omega, .inl ⟨by rw [hc, h]; rfl, h2, rfl⟩⟩
  · rw [h, Option.map_some] at hc
    unfold cutFl at hc
    simp only at hc
    have hp := pickN_lt c ((flat E ++ (fr x).take j).length - s + 1) (by omega)
    generalize hkk : pickN c ((flat E ++ (fr x).take j).length - s + 1) = p at hc hp
    have hlt : ((fr x).take j).length = j := by rw [List.length_take]; omega
    rw [List.length_append, hlt] at hp h2
    have e : (flat E ++ (fr x).take j).take (s + p) = flat E ++ (fr x).take (s + p - (flat E).length) := by
      rw [List.take_append, List.take_of_length_le (by omega), List.take_take, Nat.min_eq_left (by omega)]
    rw [e] at hc
    by_cases hk : s + p - (flat E).length < (fr x).length
    · left
      exact ⟨s + p - (flat E).length, by omega, hk, .inr ⟨_, hc, by rw [List.length_append]; omega, Nat.le_refl _⟩⟩
    · right
      refine ⟨by omega, .inr ⟨_, ?_, Nat.le_refl _, by simp⟩⟩
      rw [hc, flat_append, flat_one, List.take_of_length_le (by omega), List.append_nil]

noncomputable def opensD (keep : List Int) : List Int → Dk → Option (Ent × List Ent) × Nat × Dk
  | [], D => (D.restart keep).Open
  | c :: cs, D =>
    if (((D.restart keep).arm (1 + pickN c 5)).2.Open).2.1 = 100 then opensD keep cs ((((D.restart keep).arm (1 + pickN c 5)).2.Open).2.2.arm 0).2
    else ((((D.restart keep).arm (1 + pickN c 5)).2.Open).1, (((D.restart keep).arm (1 + pickN c 5)).2.Open).2.1, ((((D.restart keep).arm (1 + pickN c 5)).2.Open).2.2.arm 0).2)

theorem arm_f (D : Dk) (n : Int) : (D.arm n).2.f = D.f ∧ (D.arm n).2.off = D.off ∧ (D.arm n).2.acts = D.acts := by
  unfold Dk.arm; split <;> exact ⟨rfl, rfl, rfl⟩
theorem arm_0 (D : Dk) : (D.arm 0).2.armed = 0 := by unfold Dk.arm; simp

structure Told (R : Option (Ent × List Ent) × Nat × Dk) (a : Ent) (E : List Ent) (q : Nat) : Prop where
  out : R.1 = some (a, keptF a.1 E)
  code : R.2.1 = 0
  off : R.2.2.off = false
  armed : R.2.2.armed = 0
  new : R.2.2.f .new = none
  snap : SnapIs R.2.2 a
  log : LogIs R.2.2 E []
  has : Has a E q

theorem opens_still (keep : List Int) (a : Ent) (E : List Ent) (q : Nat) (hH : Has a E q) (hlen : (flat E).length ≤ 65536) :
    ∀ (cs : List Int) (D : Dk), SnapIs D a → LogIs D E [] → Told (opensD keep cs D) a E q := by
  have hj : 0 < (fr a).length := by have := fr_len a; omega
  intro cs
  induction cs with
  | nil =>
    intro D hs hl
    unfold opensD
    have hl2 : LogIs (D.restart keep) E [] := by
      rcases restart_log (x := a) (j := 0) (by simpa using hl) (by omega) keep with ⟨k, h1, h2, h3⟩ | ⟨h1, _⟩
      · obtain rfl : k = 0 := by omega
        simpa using h3
      · omega
    rcases open_cases (D.restart keep) a E [] a 0 q rfl (restart_snap hs keep) hl2 hH.aok rfl hj hH hlen with ⟨h1, h2, h3, h4, h5, h6, h7⟩ | ⟨_, _, h3, _⟩
    · exact ⟨h1, h2, h3, h4, h5, h6, h7, hH⟩
    · exact absurd rfl h3
  | cons c cs ih =>
    intro D hs hl
    unfold opensD
    have hl2 : LogIs (D.restart keep) E [] := by
      rcases restart_log (x := a) (j := 0) (by simpa using hl) (by omega) keep with ⟨k, h1, h2, h3⟩ | ⟨h1, _⟩
      · obtain rfl : k = 0 := by omega
        simpa using h3
      · omega
    generalize hD1 : ((D.restart keep).arm (1 + pickN c 5)).2 = D1
    have hf := arm_f (D.restart keep) (1 + pickN c 5)
    rw [hD1] at hf
    have hs2 : SnapIs D1 a := (restart_snap hs keep).same (by rw [hf.1])
    have hl3 : LogIs D1 E [] := hl2.same (by rw [hf.1])
    rcases open_cases D1 a E [] a 0 q hf.2.1 hs2 hl3 hH.aok rfl hj hH hlen with ⟨h1, h2, h3, h4, h5, h6, h7⟩ | ⟨h1, h2, h3, h4, h5, h6⟩
    · rw [if_neg (by omega)]
      have g := arm_f D1.Open.2.2 0
      exact ⟨h1, h2, by rw [← h3]; exact g.2.1, arm_0 _, by rw [← h5]; exact congrFun g.1 _, h6.same (congrFun g.1 _), h7.same (congrFun g.1 _), hH⟩
    · rw [if_pos h2]
      have g := arm_f D1.Open.2.2 0
      exact ih _ (h5.same (congrFun g.1 _)) (h6.same (congrFun g.1 _))

theorem opens_torn (keep : List Int) (a : Ent) (E : List Ent) (q : Nat) (x : Ent) (hx : x.ok) (hq : x.1 = q + 1) (hH : Has a E q) (hlen : (flat E).length + (fr x).length ≤ 65536) :
    ∀ (cs : List Int) (D : Dk) (j : Nat), SnapIs D a → LogIs D E ((fr x).take j) → j ≤ (fr x).length → Told (opensD keep cs D) a E q ∨ Told (opensD keep cs D) a (E ++ [x]) (q + 1) := by
  have hH2 := hH.append hx hq
  have hlen2 : (flat (E ++ [x])).length ≤ 65536 := by rw [flat_append, flat_one, List.length_append]; exact hlen
  have hfa : 0 < (fr a).length := by have := fr_len a; omega
  intro cs
  induction cs with
  | nil =>
    intro D j hs hl hj
    unfold opensD
    rcases restart_log hl hj keep with ⟨k, h1, h2, h3⟩ | ⟨h1, h3⟩
    · rcases open_cases (D.restart keep) a E _ x k q rfl (restart_snap hs keep) h3 hx rfl h2 hH (by omega) with ⟨h1, h2, h3, h4, h5, h6, h7⟩ | ⟨_, _, h3, _⟩
      · exact .inl ⟨h1, h2, h3, h4, h5, h6, h7, hH⟩
      · exact absurd rfl h3
    · rcases open_cases (D.restart keep) a (E ++ [x]) [] a 0 (q + 1) rfl (restart_snap hs keep) h3 hH.aok rfl hfa hH2 hlen2 with ⟨h1, h2, h3, h4, h5, h6, h7⟩ | ⟨_, _, h3, _⟩
      · exact .inr ⟨h1, h2, h3, h4, h5, h6, h7, hH2⟩
      · exact absurd rfl h3
  | cons c cs ih =>
    intro D j hs hl hj
    unfold opensD
    generalize hD1 : ((D.restart keep).arm (1 + pickN c 5)).2 = D1
    have hf := arm_f (D.restart keep) (1 + pickN c 5)
    rw [hD1] at hf
    have hs2 : SnapIs D1 a := (restart_snap hs keep).same (by rw [hf.1])
    have g := arm_f D1.Open.2.2 0
    rcases restart_log hl hj keep with ⟨k, h1, h2, h3⟩ | ⟨h1, h3⟩
    · have hl3 : LogIs D1 E _ := h3.same (by rw [hf.1])
      rcases open_cases D1 a E _ x k q hf.2.1 hs2 hl3 hx rfl h2 hH (by omega) with ⟨h1, h2, h3, h4, h5, h6, h7⟩ | ⟨h1, h2', h3, h4, h5, h6⟩
      · rw [if_neg (by omega)]
        exact .inl ⟨h1, h2, by rw [← h3]; exact g.2.1, arm_0 _, by rw [← h5]; exact congrFun g.1 _, h6.same (congrFun g.1 _), h7.same (congrFun g.1 _), hH⟩
      · rw [if_pos h2']
        exact ih _ k (h5.same (congrFun g.1 _)) (h6.same (congrFun g.1 _)) (by omega)
    · have hl3 : LogIs D1 (E ++ [x]) [] := h3.same (by rw [hf.1])
      right
      rcases open_cases D1 a (E ++ [x]) [] a 0 (q + 1) hf.2.1 hs2 hl3 hH.aok rfl hfa hH2 hlen2 with ⟨h1, h2, h3, h4, h5, h6, h7⟩ | ⟨h1, h2', h3, h4, h5, h6⟩
      · rw [if_neg (by omega)]
        exact ⟨h1, h2, by rw [← h3]; exact g.2.1, arm_0 _, by rw [← h5]; exact congrFun g.1 _, h6.same (congrFun g.1 _), h7.same (congrFun g.1 _), hH2⟩
      · rw [if_pos h2']
        exact opens_still keep a (E ++ [x]) (q + 1) hH2 hlen2 cs _ (h5.same (congrFun g.1 _)) (h6.same (congrFun g.1 _))
end Go.Proofs.YtnlgmekkjibpmaaGreatDoor
/- DERIVED. wal: the calls' contracts, told by what the disk bears. -/
namespace Go.Proofs.YtnlgmekkjibpmaaGreatDoor
open Go Go.RowKit Go.Shelf Go.Proofs.YtnlgmekkjibpmaaGreatDoorW.PrintWords
set_option linter.unusedVariables false
set_option linter.unusedSimpArgs false

theorem log_acts (D : Dk) (q : Nat) : (D.log q).2.2.acts ≤ D.acts + 3 := by
  have := renew_acts D .log ((D.load .log).1.take (allF (D.load .log).1).2.1)
  unfold Dk.log
  split
  · simp
  · split
    · simp
    · split
      · simp
      · split
        · simp
        · split
          · split
            · exact this
            · exact this
          · simp
theorem opn1_acts (D : Dk) : D.opn1.2.2.2.acts ≤ D.acts + 3 := by
  unfold Dk.opn1
  split
  · simp
  · exact log_acts D _
theorem Open_acts (D : Dk) : D.Open.2.2.acts ≤ D.acts + 4 := by
  have h : D.opn.2.2.2.acts ≤ D.acts + 4 := by
    have h1 := opn1_acts D
    have h2 := opn1_acts (D.remove .new).2
    have h3 := remove_acts D .new
    unfold Dk.opn
    split
    · split
      · show (D.remove .new).2.acts ≤ _
        omega
      · omega
    · omega
  unfold Dk.Open
  split
  · simp
  · split
    · exact h
    · exact h
theorem Lg_append_acts (L : Lg) (s : List UInt8) : (L.append s).2.dk.acts ≤ L.dk.acts + 2 := by
  unfold Lg.append
  have h1 := append_acts L.dk .log (madeB (L.seq + 1) s).1
  have h2 := sync_acts (L.dk.append .log (madeB (L.seq + 1) s).1).2 .log
  split
  · simp
  · split
    · simp
    · split
      · simp only; omega
      · split
        · simp only; omega
        · simp only; omega
theorem Lg_check_acts (L : Lg) (s : List UInt8) : (L.checkpoint s).2.dk.acts ≤ L.dk.acts + 4 := by
  unfold Lg.checkpoint
  have h1 := renew_acts L.dk .snap (madeB L.seq s).1
  have h2 := remove_acts (L.dk.renew .snap (madeB L.seq s).1).2 .log
  split
  · simp
  · split
    · simp
    · split
      · simp only; omega
      · split
        · simp only; omega
        · simp only; omega

def textsL (K : List Ent) : List (List UInt8) := K.map (·.2)
theorem textsV_eq (K : List Ent) : textsV K = (textsL K).map strV := by simp [textsV, textsL, strV]

/-- An Open that told, in memory. -/
def OpenTold (p m : Nat) (a : Ent) (E : List Ent) (q n : Nat) (w : World) (e : Ending) (w' : World) : Prop :=
  ∃ b v L, e = .returned (.tuple #[.pointer (some ⟨b, 0, none⟩), .string (bs a.2), v, .int .i64 0]) ∧ w.heap.size ≤ b ∧ LgIs w' b p m L ∧ Alive L a E q ∧ L.dk.armed = 0 ∧ L.dk.acts ≤ n ∧ StrRow w' v (textsL (keptF a.1 E)) ∧ Fr [p, m] w w'

theorem told_of_open {p m : Nat} {D : Dk} {a : Ent} {E : List Ent} {q : Nat} {w w' : World} {e : Ending} (hlt : p < w.heap.size ∧ m < w.heap.size ∧ p ≠ m) (hg : G w) (hp0 : p ≠ 0) (hm0 : m ≠ 0)
    (h : OpenOut D.Open.1 D.Open.2.1 p w.heap.size w' e) (hd : DkIs w' p m D.Open.2.2) (hf : Fr [p, m] w w')
    (h1 : D.Open.1 = some (a, keptF a.1 E)) (h2 : D.Open.2.1 = 0) (h3 : D.Open.2.2.off = false) (h4 : D.Open.2.2.armed = 0) (h5 : D.Open.2.2.f .new = none) (h6 : SnapIs D.Open.2.2 a) (h7 : LogIs D.Open.2.2 E []) (hH : Has a E q) :
    OpenTold p m a E q (D.acts + 4) w e w' := by
  rw [h1, h2] at h
  obtain ⟨b, v, he, hb, hw, hr⟩ := h
  rw [hH.last] at hw
  have hs := hf.size
  refine ⟨b, v, ⟨q, 0, D.Open.2.2⟩, he, hb, ⟨hw, hd, hg.fr hf (by simp; omega), by omega, by omega, by omega, hp0, hm0⟩, ⟨rfl, rfl, h3, h5, h6, h7, hH⟩, h4, Open_acts D, ?_, hf⟩
  have := hr
  rw [textsV_eq] at this
  exact strRow_of (base := w.heap.size) (by simpa [textsL] using this)

theorem open_told2 (p m : Nat) (D : Dk) (a : Ent) (E : List Ent) (t : List UInt8) (x : Ent) (j q : Nat) (w : World) (h : DkIs w p m D) (h2 : D.acts ≤ 800000) (hg : G w) (hp0 : p ≠ 0) (hm0 : m ≠ 0)
    (hoff : D.off = false) (harm : D.armed = 0) (hs : SnapIs D a) (hl : LogIs D E t) (hx : x.ok) (ht : t = (fr x).take j) (hj : j < (fr x).length) (hH : Has a E q) (hlen : (flat E).length ≤ 65536) :
    Calls Tryz.prog 10 #[.pointer (some ⟨p, 0, none⟩)] w (OpenTold p m a E q (D.acts + 4) w) := by
  refine (Open_calls p m D w h h2 hg hp0 hm0).mono ?_
  rintro e w' ⟨ho, hd, hf⟩
  rcases open_cases D a E t x j q hoff hs hl hx ht hj hH hlen with ⟨k1, k2, k3, k4, k5, k6, k7⟩ | ⟨_, _, k3, _⟩
  · exact told_of_open h.lt hg hp0 hm0 ho hd hf k1 k2 k3 (by omega) k5 k6 k7 hH
  · omega
theorem open_told (p m : Nat) (D : Dk) (a : Ent) (E : List Ent) (q : Nat) (w : World) (h : DkIs w p m D) (h2 : D.acts ≤ 800000) (hg : G w) (hp0 : p ≠ 0) (hm0 : m ≠ 0)
    (hoff : D.off = false) (harm : D.armed = 0) (hs : SnapIs D a) (hl : LogIs D E []) (hH : Has a E q) (hlen : (flat E).length ≤ 65536) :
    Calls Tryz.prog 10 #[.pointer (some ⟨p, 0, none⟩)] w (OpenTold p m a E q (D.acts + 4) w) :=
  open_told2 p m D a E [] a 0 q w h h2 hg hp0 hm0 hoff harm hs hl hH.aok rfl (by have := fr_len a; omega) hH hlen

def AppTold (b p m : Nat) (a : Ent) (E : List Ent) (q n : Nat) (S : List Nat) (w : World) (e : Ending) (w' : World) : Prop :=
  ∃ L, e = .returned (.int .i64 0) ∧ LgIs w' b p m L ∧ Alive L a E q ∧ L.dk.armed = 0 ∧ L.dk.acts ≤ n ∧ Fr S w w'

theorem append_told (b p m : Nat) (L : Lg) (a : Ent) (E : List Ent) (q : Nat) (s : ByteArray) (w : World) (h : LgIs w b p m L) (hA : Alive L a E q) (hx : Ent.ok (q + 1, s.data.toList)) (h2 : L.dk.acts ≤ 800000)
    (harm : L.dk.armed = 0) (hlen : (flat E).length + (fr (q + 1, s.data.toList)).length ≤ 65536) :
    Calls Tryz.prog 12 #[.pointer (some ⟨b, 0, none⟩), .string s] w (AppTold b p m a (E ++ [(q + 1, s.data.toList)]) (q + 1) (L.dk.acts + 2) [b, p, m] w) := by
  have hsz : s.size ≤ 100000 := by have := hx.1; simp only [len_toList] at this; omega
  have hq : L.seq ≤ 1099511627776 := by have := hx.2; rw [hA.seq]; simp only at this; omega
  refine (append_calls b p m L s w h hq hsz h2).mono ?_
  rintro e w' ⟨he, hL, hf⟩
  rcases append_law L a E q s.data.toList hA hx hlen with ⟨k1, k2, k3⟩ | ⟨_, k2, _⟩
  · rw [k1] at he
    exact ⟨_, he, hL, k2, by omega, Lg_append_acts L _, hf⟩
  · omega
theorem check_told (b p m : Nat) (L : Lg) (a : Ent) (E : List Ent) (q : Nat) (s : ByteArray) (w : World) (h : LgIs w b p m L) (hA : Alive L a E q) (hx : Ent.ok (q, s.data.toList)) (h2 : L.dk.acts ≤ 800000)
    (harm : L.dk.armed = 0) :
    Calls Tryz.prog 13 #[.pointer (some ⟨b, 0, none⟩), .string s] w (AppTold b p m (q, s.data.toList) [] q (L.dk.acts + 4) [b, p, m] w) := by
  have hsz : s.size ≤ 100000 := by have := hx.1; simp only [len_toList] at this; omega
  have hq : L.seq ≤ 1099511627777 := by have := hx.2; rw [hA.seq]; simp only at this; omega
  refine (checkpoint_calls b p m L s w h hq hsz h2).mono ?_
  rintro e w' ⟨he, hL, hf⟩
  rcases check_law L a E q s.data.toList hA hx with ⟨k1, k2, k3⟩ | ⟨_, k2, _⟩
  · rw [k1] at he
    exact ⟨_, he, hL, k2, by omega, Lg_check_acts L _, hf⟩
  · omega

theorem ok_of {q : Nat} {s : List UInt8} (hq : q ≤ 1000000) (hs : s.length ≤ 4090) : Ent.ok (q, s) := by
  have : (numB (q : Int)).length ≤ 3 := numB_len _ 2 (by rw [show (128 : Nat) ^ (2 + 1) = 2097152 by decide]; omega)
  unfold Ent.ok
  simp only
  omega

set_option maxHeartbeats 400000 in
theorem open_nil (w : World) : Calls Tryz.prog 10 #[.pointer none] w fun e w' => e = .returned (.tuple #[.pointer none, .string ⟨#[]⟩, .slice none 0 0, .int .i64 1]) ∧ Fr [] w w' := by
  go_enter Tryz.func10, Tryz.ntmps10
  go_wp2
  refine bodyPost_ret (results_tmp4 rfl _ _ _) rfl ?_
  exact ⟨rfl, Fr.refl _ _⟩
end Go.Proofs.YtnlgmekkjibpmaaGreatDoor
/- DERIVED. The law's own: awake. -/
namespace Go.Proofs.YtnlgmekkjibpmaaGreatDoor
open Go Go.RowKit Go.Shelf Go.Proofs.YtnlgmekkjibpmaaGreatDoorW.PrintWords
set_option linter.unusedVariables false
set_option linter.unusedSimpArgs false

theorem Fr.new {S : List Nat} {a b : World} (h : Fr S a b) (hs : ∀ k, k ∈ S → a.heap.size ≤ k) : Fr [] a b :=
  ⟨h.os, h.tape, h.output, h.size, fun k hk _ => h.block k hk (fun hm => by have := hs k hm; omega)⟩
theorem Fr.part {S T : List Nat} {a b c : World} (h : Fr S a b) (k : Fr T b c) (hs : ∀ k, k ∈ T → k ∈ S ∨ a.heap.size ≤ k) : Fr S a c :=
  ⟨k.os.trans h.os, k.tape.trans h.tape, k.output.trans h.output, Nat.le_trans h.size k.size,
   fun i hi hn => (k.block i (Nat.lt_of_lt_of_le hi h.size) (fun hm => by
     rcases hs i hm with h1 | h1
     · exact hn h1
     · omega)).trans (h.block i hi hn)⟩

theorem lg_fr {w w' : World} {b p m : Nat} {L : Lg} {S : List Nat} (h : LgIs w b p m L) (hf : Fr S w w') (h1 : b ∉ S) (h2 : p ∉ S) (h3 : m ∉ S) (h0 : 0 ∉ S := by simp) : LgIs w' b p m L :=
  ⟨h.wl.fr hf h1, h.dk.fr hf h2 h3, h.g.fr hf h0, h.bp, h.bm, h.b0, h.p0, h.m0⟩
theorem fr_small {q : Nat} {s : List UInt8} (hs : s.length ≤ 300) (hq : q ≤ 1000000) : 0 + (fr (q, s)).length ≤ 65536 := by
  have := fr_le (ok_of hq (show s.length ≤ 4090 by omega))
  simp only at this
  omega
theorem fr_small2 {q r : Nat} {s t : List UInt8} (hs : s.length ≤ 300) (hq : q ≤ 1000000) (ht : t.length ≤ 300) (hr : r ≤ 1000000) : (fr (q, s)).length + (fr (r, t)).length ≤ 65536 := by
  have h1 := fr_small hs hq
  have h1 := fr_le (ok_of hq (show s.length ≤ 4090 by omega))
  have h2 := fr_le (ok_of hr (show t.length ≤ 4090 by omega))
  simp only at h1 h2
  omega
theorem fr_small3 {q : Nat} {s : List UInt8} (hs : s.length ≤ 300) (hq : q ≤ 1000000) : (fr (q, s)).length + 5 ≤ 65536 := by
  have := fr_le (ok_of hq (show s.length ≤ 4090 by omega))
  simp only at this
  omega
theorem half_ok : Ent.ok (52, [97, 108, 102]) := ok_of (by omega) (by decide)
theorem half_fr : [8, 104, 97, 108, 102] = (fr (52, [97, 108, 102])).take 5 := by
  have e1 : pl (52, [97, 108, 102]) = [104, 97, 108, 102] := by
    unfold pl numB; rw [show zz ((52, [97, 108, 102]) : Ent).1 = 104 from rfl, encN_small (by omega)]; rfl
  have e2 : numB (([104, 97, 108, 102] : List UInt8).length : Int) = [8] := by
    unfold numB; rw [show zz (([104, 97, 108, 102] : List UInt8).length : Int) = 8 from rfl, encN_small (by omega)]; rfl
  unfold fr
  rw [e1, layB_eq, e2]; rfl
theorem half_len : 5 < (fr (52, [97, 108, 102])).length := by
  have := fr_len (52, [97, 108, 102]); omega
theorem half_state {L : Lg} {a : Ent} {E : List Ent} {q : Nat} (h : Alive L a E q) (harm : L.dk.armed = 0) (hlen : (flat E).length + 5 ≤ 65536) :
    (L.dk.append .log [8, 104, 97, 108, 102]).1 = 0 ∧ SnapIs (L.dk.append .log [8, 104, 97, 108, 102]).2 a ∧ LogIs (L.dk.append .log [8, 104, 97, 108, 102]).2 E [8, 104, 97, 108, 102] := by
  have hl0 : ((L.dk.f .log).getD Fl.zero).bytes = flat E := by
    rcases h.log with ⟨g1, rfl, _⟩ | ⟨s', g1, _, _⟩
    · rw [g1]; rfl
    · rw [g1]; simp
  have hl1 : (flat E).length ≤ ((L.dk.f .log).getD Fl.zero).synced ∧ ((L.dk.f .log).getD Fl.zero).synced ≤ (flat E).length := by
    rcases h.log with ⟨g1, rfl, _⟩ | ⟨s', g1, g2, g3⟩
    · rw [g1]; simp [flat, Fl.zero]
    · rw [g1]; exact ⟨g2, by simpa using g3⟩
  rcases append_cases0 L.dk .log [8, 104, 97, 108, 102] h.off (by rw [hl0]; exact hlen) with ⟨_, k, _⟩ | ⟨k1, k2, k3, k4⟩
  · exact absurd harm k
  · refine ⟨k1, h.snap.same (by rw [k4, upd_other _ _ _ _ (by simp)]), .inr ⟨((L.dk.f .log).getD Fl.zero).synced, ?_, hl1.1, ?_⟩⟩
    · rw [k4, upd_same, hl0]
    · rw [List.length_append]; omega
theorem StrRow.fr {w w' : World} {v : Value} {L : List (List UInt8)} (h : StrRow w v L) (hf : Fr [] w w') : StrRow w' v L := by
  rcases h with h | ⟨g, c, hv, hc⟩
  · exact .inl h
  · refine .inr ⟨g, c, hv, fun j hj => ?_⟩
    have := hc j hj
    rw [World.cell?_of_block (hf.block g (World.block_lt_of_cell? w _ this) (by simp))]
    exact this
theorem strRow_lit1 (w : World) (l : List UInt8) (c : Nat) (t : TypeId) : StrRow (w.alloc (.cells #[.string (bs l)] t)) (.slice (some ⟨w.heap.size, 0, none⟩) 1 c) [l] :=
  .inr ⟨w.heap.size, c, rfl, fun j hj => by
    obtain rfl : j = 0 := by simpa using hj
    exact blk_cell (heap_new _ _) rfl⟩
/-- A new log on a new disk. -/
theorem fresh_alive {L : Lg} {a : Ent} {E : List Ent} {q : Nat} (h : Alive L a E q) : q = L.seq := h.seq.symm
theorem empty_snap : SnapIs Dk.empty (0, []) := .inl ⟨rfl, rfl⟩
theorem empty_log : LogIs Dk.empty [] [] := .inl ⟨rfl, rfl, rfl⟩

set_option maxRecDepth 100000 in
set_option maxHeartbeats 2000000 in
theorem awake_calls (w : World) (hg : G w) : Calls Tryz.prog 8 #[] w fun e w' => e = .returned (.bool true) ∧ Fr [] w w' := by
  have hg0 : 0 < w.heap.size := World.block_lt_of_cell? w ⟨0, 0, none⟩ hg
  have HG := Lib.hid hg
  clear hg
  go_enter Tryz.func8, Tryz.ntmps8
  go_wp2_with fail
  refine (disk_new _).mono ?_
  rintro e w1 ⟨p, m, rfl, hp, hm, hd1, hb1⟩
  have hf1 : Fr [] w w1 := Fr.of_below hb1 []
  have HF1 := Lib.hid hf1
  have HD1 := Lib.hid hd1
  have hl1 := hd1.lt
  have HG1 := Lib.hid (HG.out.fr hf1 (by simp))
  clear hd1 hb1 hf1 HG
  go_wp2_with fail
  refine (open_told p m Dk.empty (0, []) [] 0 w1 HD1.out (by simp [Dk.empty]) HG1.out (by omega) (by omega) rfl rfl empty_snap empty_log Has.none (by simp [flat])).mono ?_
  rintro e w2 ⟨b, v, L, rfl, hb, hL, hA, harm, hac, hrow, hf2⟩
  have HL := Lib.hid hL
  have HA := Lib.hid hA
  have HAR := Lib.hid harm
  have HF2 := Lib.hid (HF1.out.part hf2 (by simp; omega))
  have hac2 : L.dk.acts ≤ 4 := hac
  have hs2 := hf2.size
  clear hL hA harm hrow hf2 hac HF1 HD1 HG1
  go_wp2_with fail
  refine (open_nil _).mono ?_
  rintro e w3 ⟨rfl, hf3⟩
  go_wp2_with fail
  have HL3 := Lib.hid (lg_fr HL.out hf3 (by simp) (by simp) (by simp))
  have HF3 := Lib.hid (HF2.out.trans hf3)
  have hs3 := hf3.size
  clear HL HF2 hf3
  refine (append_told b p m L _ _ _ _ _ HL3.out HA.out (ok_of (by omega) (by decide)) (by omega) HAR.out (by simp only [flat, List.map_nil, List.flatten_nil, List.length_nil]; exact fr_small (by decide) (by omega))).mono ?_
  rintro e w4 ⟨L4, rfl, hL, hA, harm, hac, hf⟩
  have HL4 := Lib.hid hL
  have HA4 := Lib.hid hA
  have HAR4 := Lib.hid harm
  have HF4 := Lib.hid (HF3.out.part hf (by simp; omega))
  have hs4 := hf.size
  clear hL hA harm hf HL3 HF3 HA HAR
  go_wp2_with fail
  refine (append_told b p m L4 _ _ _ _ _ HL4.out HA4.out (ok_of (by omega) (by decide)) (by omega) HAR4.out (by rw [List.nil_append, flat_one]; exact fr_small2 (by decide) (by omega) (by decide) (by omega))).mono ?_
  rintro e w5 ⟨L5, rfl, hL, hA, harm, hac5, hf⟩
  have HL5 := Lib.hid hL
  have HA5 := Lib.hid hA
  have HAR5 := Lib.hid harm
  have HF5 := Lib.hid (HF4.out.part hf (by simp; omega))
  have hs5 := hf.size
  clear hL hA harm hf HL4 HF4 HA4 HAR4
  go_wp2_with fail
  refine (check_told b p m L5 _ _ _ _ _ HL5.out HA5.out (ok_of (by omega) (by decide)) (by omega) HAR5.out).mono ?_
  rintro e w6 ⟨L6, rfl, hL, hA, harm, hac6, hf⟩
  have HL6 := Lib.hid hL
  have HA6 := Lib.hid hA
  have HAR6 := Lib.hid harm
  have HF6 := Lib.hid (HF5.out.part hf (by simp; omega))
  have hs6 := hf.size
  clear hL hA harm hf HL5 HF5 HA5 HAR5
  go_wp2_with fail
  refine (append_told b p m L6 _ _ _ _ _ HL6.out HA6.out (ok_of (by omega) (by decide)) (by omega) HAR6.out (by simp only [flat, List.map_nil, List.flatten_nil, List.length_nil]; exact fr_small (by decide) (by omega))).mono ?_
  rintro e w7 ⟨L7, rfl, hL, hA, harm, hac7, hf⟩
  have HL7 := Lib.hid hL
  have HA7 := Lib.hid hA
  have HAR7 := Lib.hid harm
  have HF7 := Lib.hid (HF6.out.part hf (by simp; omega))
  have hs7 := hf.size
  clear hL hA harm hf HL6 HF6 HA6 HAR6
  go_wp2_with fail
  have hda := disk_append p m L7.dk .log (bs Nm.log.l) ⟨#[8, 104, 97, 108, 102]⟩ (isNm .log) w7 HL7.out.dk (by omega) (by decide)
  have hst := half_state HA7.out HAR7.out (by rw [List.nil_append, flat_one]; exact fr_small3 (by decide) (by omega))
  have hca := append_acts L7.dk .log [8, 104, 97, 108, 102]
  obtain ⟨R, hR⟩ : ∃ R, R = L7.dk.append .log [8, 104, 97, 108, 102] := ⟨_, rfl⟩
  rw [show (⟨#[8, 104, 97, 108, 102]⟩ : ByteArray).data.toList = [8, 104, 97, 108, 102] from rfl, ← hR] at hda
  rw [← hR] at hst hca
  clear hR
  obtain ⟨rc, D8⟩ := R
  obtain ⟨rfl, hst⟩ := hst
  dsimp only at hda hca hst
  refine hda.mono ?_
  clear hda
  rintro e w8 ⟨rfl, hD8, hf⟩
  have HST := Lib.hid hst
  have HD8 := Lib.hid hD8
  have HF8 := Lib.hid (HF7.out.part hf (by simp; omega))
  have HG8 := Lib.hid (HL7.out.g.fr hf (by simp; omega))
  have hs8 := hf.size
  have HH7 := Lib.hid HA7.out.has
  clear hst hD8 hf HL7 HF7 HA7 HAR7
  go_wp2_with fail
  refine (disk_restart p m D8 [3] _ _ (HD8.out.fr ((Fr.refl [] _).alloc _) (by simp) (by simp)) ⟨_, 1, rfl, fun j hj => ?_⟩ (by simp)).mono ?_
  · obtain rfl : j = 0 := by simpa using hj
    exact ⟨by simp, _, 0, rfl, blk_cell (heap_new _ _) rfl⟩
  rintro e w9 ⟨rfl, hD9, hf⟩
  have hst9 : ∃ k, k ≤ 5 ∧ LogIs (D8.restart [3]) ([] ++ [(0 + 1 + 1 + 1, [99])]) ((fr (52, [97, 108, 102])).take k) := by
    have hl := HST.out.2
    rw [half_fr] at hl
    rcases restart_log hl (by have := half_len; omega) [3] with ⟨k, k1, _, k2⟩ | ⟨k1, _⟩
    · exact ⟨k, k1, k2⟩
    · have := half_len; omega
  obtain ⟨k9, hk9, hst9⟩ := hst9
  have hsn9 := Lib.hid (restart_snap HST.out.1 [3])
  have HST9 := Lib.hid hst9
  have HD9 := Lib.hid hD9
  have HF9 := Lib.hid ((HF8.out.alloc (.cells #[.int .i64 3] 3)).part hf (by simp; omega))
  have HG9 := Lib.hid ((HG8.out.fr ((Fr.refl [] _).alloc _) (by simp)).fr hf (by simp; omega))
  have hs9 := hf.size
  have hac9 : (D8.restart [3]).acts = D8.acts := rfl
  clear hst9 hD9 hf HST HD8 HF8 HG8
  go_wp2_with fail
  refine (open_told2 p m (D8.restart [3]) _ _ _ (52, [97, 108, 102]) k9 _ _ HD9.out (by omega) HG9.out (by omega) (by omega) rfl rfl hsn9.out HST9.out half_ok rfl (by have := half_len; omega) HH7.out ?_).mono ?_
  · rw [List.nil_append, flat_one]
    have := fr_small (q := 0 + 1 + 1 + 1) (s := [99]) (by decide) (by omega)
    exact Nat.le_trans (by omega) this
  rintro e w10 ⟨b10, v10, L10, rfl, hb10, hL, hA, harm, hac10, hrow, hf⟩
  go_wp2_with fail
  refine (seq_calls b10 p _ _ _ hL.wl).mono ?_
  rintro e w11 ⟨rfl, rfl⟩
  rw [hA.seq]
  have hk : textsL (keptF ((0 + 1 + 1, [97, 98]) : Ent).1 ([] ++ [(0 + 1 + 1 + 1, [99])])) = [[99]] := by decide
  rw [hk] at hrow
  have e1 : (bs ((0 + 1 + 1, [97, 98]) : Ent).2) = ⟨#[97, 98]⟩ := rfl
  rw [e1]
  have HF10 := Lib.hid (HF9.out.part hf (by simp; omega))
  have HR10 := Lib.hid hrow
  clear hL hA harm hrow hf hk HF9 HH7 HST9 HD9 HG9 hsn9 e1
  go_wp2_with fail
  refine (same_calls _ _ [[99]] [[99]] _ (HR10.out.fr ((Fr.refl _ _).alloc _)) (strRow_lit1 _ _ _ _) (by simp) (by simp)).mono ?_
  rintro e w12 ⟨rfl, hf12⟩
  have HF12 := Lib.hid ((HF10.out.alloc (.cells #[.string (bs [99])] 9)).trans hf12)
  rw [decide_eq_true rfl]
  go_wp2_with fail
  go_ret
  exact ⟨rfl, HF12.out⟩
end Go.Proofs.YtnlgmekkjibpmaaGreatDoor
/- DERIVED. The rows' common ground: the laid variable's cell, a world that meets the condition, the arguments read as before. -/
namespace Go.Proofs.YtnlgmekkjibpmaaGreatDoor
open Go Go.ChangeShapes Go.WideShapes Go.RowKit
set_option linter.unusedVariables false
set_option linter.unusedSimpArgs false

def laidOnes : List (String × DataW Unit) := [("errors.errorType", Rows.laid_errors_errorType)]
theorem Tryz.own : ownKnob Tryz.prog.godebug = none := by kernel_rfl
theorem Tryz.et : Tryz.prog.globalNamed "errors.errorType" = some 0 := by kernel_rfl
theorem Tryz.rt : (Tryz.prog.cutTypes.find? (·.1 == "internal/reflectlite.rtype")).map (·.2) = some 156 := by kernel_rfl
theorem Tryz.oneRow : ((List.range Tryz.prog.types.size).filter fun t => Tryz.prog.rowNamed t [101, 114, 114, 111, 114]) = [63] := by kernel_rfl
theorem Tryz.laidOut : laidOutB Tryz.prog = true := by kernel_rfl

theorem g_of_laid {W : World} (h : laidMetH Tryz.prog laidOnes W) : G W := by
  have h' : laidMet Tryz.prog [] W ∧ handlesMet Tryz.prog laidOnes W := h
  obtain ⟨name, u, ty, e1, e2, e3, e4, e5⟩ := h'.2 _ (List.mem_singleton.2 rfl)
  have en : name = [101, 114, 114, 111, 114] := (Option.some.inj e1).symm
  subst en
  obtain rfl := Option.some.inj (Tryz.rt.symm.trans e2)
  have hm : ty ∈ (List.range Tryz.prog.types.size).filter fun t => Tryz.prog.rowNamed t [101, 114, 114, 111, 114] := List.mem_filter.2 ⟨List.mem_range.2 e3, e4⟩
  rw [Tryz.oneRow] at hm
  obtain rfl := List.mem_singleton.1 hm
  have hh : typeHandle Tryz.prog 63 = .pointer (some ⟨1, 63, none⟩) := by kernel_rfl
  rw [hh] at e5
  have := World.var?_cell Tryz.et e5 0
  unfold G
  simpa using this

noncomputable def laidWorld (os : Os) : World :=
  let w0 := World.holding Tryz.prog os ⟨#[], #[], []⟩
  { w0 with heap := w0.heap.modify 0 fun
      | .cells _ t frozen => .cells #[.iface 156 (.agg #[.pointer (some ⟨1, 63, none⟩)])] t frozen
      | o => o }
theorem laidWorld_met (os : Os) (args : Array Value) : laidMetH Tryz.prog laidOnes ((laidWorld os).forCall (fun _ _ => 0) ⟨#[], args, []⟩).memory :=
  laidMetH_of_parts (laidMet_nil _ _) (by kernel_rfl)

theorem all_carry {H : Type} {enc : TypeId × Value → H} {W W' : World} (hb : Below W.heap.size W W') : ∀ (ts : List TypeId) (vs : List Value) (ds : List (DataW H)) (ps : List MemPlace),
    DataW.TrodAll enc Tryz.prog W 0 (fun _ => true) true ts vs ds ps → (∀ x ∈ ps, x.block < W.heap.size) → (∀ t ∈ ts, Tryz.prog.readableRec t = true ∧ t < Tryz.prog.types.size) →
    DataW.TrodAll enc Tryz.prog W' 0 (fun b => decide (b < W.heap.size)) true ts vs ds ps
  | [], [], [], ps, h, _, _ => h
  | t :: ts, v :: vs, d :: ds, ps, ⟨p, q, h1, h2, e⟩, hlt, hts => by
    subst e
    exact ⟨p, q, Below.trod Tryz.laidOut (hts t (by simp)).1 (hts t (by simp)).2 h1 hb (fun x hx => hlt x (by simp [hx])), all_carry hb ts vs ds q h2 (fun x hx => hlt x (by simp [hx])) (fun t ht => hts t (by simp [ht])), rfl⟩
  | [], _ :: _, _, _, h, _, _ => h.elim
  | [], [], _ :: _, _, h, _, _ => h.elim
  | _ :: _, [], _, _, h, _, _ => h.elim
  | _ :: _, _ :: _, [], _, h, _, _ => h.elim
end Go.Proofs.YtnlgmekkjibpmaaGreatDoor
