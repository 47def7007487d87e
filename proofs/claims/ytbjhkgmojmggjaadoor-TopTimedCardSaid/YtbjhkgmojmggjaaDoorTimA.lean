/- Timers on paper: plain laws; no program is in sight. No condition beyond what each states. -/
import Derived.Test.YtbjhkgmojmggjaaDoorAwake
namespace Go.Proofs.YtbjhkgmojmggjaaDoor
set_option linter.unusedSimpArgs false
set_option linter.unusedVariables false
set_option linter.unnecessarySimpa false
set_option linter.unusedSectionVars false
open Go.RowKit

structure Tm where
  l : Int
  c : Int
  r : Bool
  a : Bool
  k : Bool
  g : Bool
namespace Tm
abbrev cells (t : Tm) : Array Value := #[.int .i64 t.l, .int .i64 t.c, .bool t.r, .bool t.a, .bool t.k, .bool t.g]
structure Ok (t : Tm) : Prop where
  l0 : 0 ≤ t.l
  l1 : t.l ≤ 65535
  c0 : 0 ≤ t.c
  c1 : t.c ≤ 65535
def tick (t : Tm) : Tm := if t.r = false then t else if 0 < t.c then { t with c := t.c - 1 } else { t with g := true, r := t.a, c := if t.a then t.l else t.c }
def ticks : Nat → Tm → Tm
  | 0, t => t
  | n + 1, t => ticks n t.tick
theorem Ok.tick {t : Tm} (h : t.Ok) : t.tick.Ok := by
  obtain ⟨h1, h2, h3, h4⟩ := h
  unfold Tm.tick
  split
  · exact ⟨h1, h2, h3, h4⟩
  · split
    · exact ⟨h1, h2, by simp; omega, by simp; omega⟩
    · refine ⟨h1, h2, ?_, ?_⟩ <;> simp <;> split <;> omega
theorem Ok.ticks {t : Tm} (h : t.Ok) (n : Nat) : (t.ticks n).Ok := by
  induction n generalizing t with
  | zero => exact h
  | succ n ih => exact ih h.tick
theorem ticks_add (m n : Nat) (t : Tm) : ticks (m + n) t = ticks n (ticks m t) := by
  induction m generalizing t with
  | zero => simp [ticks]
  | succ m ih => rw [Nat.succ_add]; exact ih _
theorem ticks_stopped (n : Nat) {t : Tm} (h : t.r = false) : ticks n t = t := by
  induction n with
  | zero => rfl
  | succ n ih =>
    have : t.tick = t := by simp [Tm.tick, h]
    rw [ticks, this, ih]
theorem ticks_few (n : Nat) {t : Tm} (h : t.r = true) (hn : (n : Int) ≤ t.c) : ticks n t = { t with c := t.c - n } := by
  induction n generalizing t with
  | zero => simp [ticks]
  | succ n ih =>
    have e : t.tick = { t with c := t.c - 1 } := by
      have : 0 < t.c := by omega
      simp [Tm.tick, h, this]
    rw [ticks, e, ih (by simpa using h) (by simp; omega)]
    simp
    omega
/-- One tick more than it counts: it rings. -/
theorem ticks_round {t : Tm} (h : t.r = true) (hc : 0 ≤ t.c) : ticks (t.c.toNat + 1) t = Tm.tick { t with c := 0 } := by
  rw [ticks_add, ticks_few _ h (by omega)]
  have : t.c - (t.c.toNat : Int) = 0 := by omega
  rw [this]
  rfl
theorem ticks_circle {t : Tm} (h : t.r = true) (ha : t.a = true) (hg : t.g = true) (hl : 0 ≤ t.l) (hc : t.c = t.l) : ticks (t.l.toNat + 1) t = t := by
  have := ticks_round h (by omega)
  rw [hc] at this
  rw [this]
  obtain ⟨l, c, r, a, k, g⟩ := t
  simp at h ha hg hc
  subst h ha hg hc
  simp [Tm.tick]
theorem ticks_circles {t : Tm} (h : t.r = true) (ha : t.a = true) (hg : t.g = true) (hl : 0 ≤ t.l) (hc : t.c = t.l) (q n : Nat) : ticks (q * (t.l.toNat + 1) + n) t = ticks n t := by
  induction q with
  | zero => simp
  | succ q ih =>
    rw [Nat.succ_mul, Nat.add_right_comm, Nat.add_comm, ticks_add, ticks_circle h ha hg hl hc]
    exact ih
theorem ticks_mod {t : Tm} (h : t.r = true) (ha : t.a = true) (hg : t.g = true) (hl : 0 ≤ t.l) (hc : t.c = t.l) (n : Nat) : ticks n t = ticks (n % (t.l.toNat + 1)) t := by
  have := ticks_circles h ha hg hl hc (n / (t.l.toNat + 1)) (n % (t.l.toNat + 1))
  rw [Nat.mul_comm, Nat.div_add_mod] at this
  exact this
/-- A pass of After's loop. -/
theorem after_pass {t : Tm} (ht : t.Ok) (h : t.r = true) (n : Nat) (hn : t.c < n) :
    ticks n t = ticks (n - (t.c.toNat + 1)) (Tm.tick { t with c := 0 }) := by
  have := ticks_add (t.c.toNat + 1) (n - (t.c.toNat + 1)) t
  rw [Nat.add_sub_cancel' (by have := ht.c0; omega), ticks_round h ht.c0] at this
  exact this
end Tm
end Go.Proofs.YtbjhkgmojmggjaaDoor
