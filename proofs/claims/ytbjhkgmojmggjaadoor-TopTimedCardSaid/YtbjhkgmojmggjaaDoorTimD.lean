/- A timer's registers: Write, madTimed, Read, madTime. No condition beyond what each states. -/
import Derived.Test.YtbjhkgmojmggjaaDoorBits
namespace Go.Proofs.YtbjhkgmojmggjaaDoor
set_option linter.unusedSimpArgs false
set_option linter.unusedVariables false
set_option linter.unnecessarySimpa false
set_option linter.unusedSectionVars false
open Go.RowKit
attribute [local go_sem ↓] Go.wp_at_zero Go.wp_at_succ

/-- A register of 0 to 3 takes a byte. -/
def Tm.write (t : Tm) (reg : Int) (v : Int) : Tm :=
  if reg = 0 then { t with l := t.l / 256 * 256 + v }
  else if reg = 1 then { t with l := t.l % 256 + 256 * v }
  else if reg = 2 then { t with r := decide (v % 2 = 1), a := decide (v / 2 % 2 = 1), k := decide (v / 4 % 2 = 1), c := if v % 2 = 1 then t.l else t.c }
  else if reg = 3 then { t with g := false }
  else t
theorem Tm.Ok.write {t : Tm} (h : t.Ok) (reg v : Int) (h0 : 0 ≤ v) (h1 : v < 256) : (t.write reg v).Ok := by
  obtain ⟨l0, l1, c0, c1⟩ := h
  unfold Tm.write
  split
  · exact ⟨by simp; omega, by simp; omega, c0, c1⟩
  · split
    · exact ⟨by simp; omega, by simp; omega, c0, c1⟩
    · split
      · refine ⟨l0, l1, ?_, ?_⟩ <;> simp <;> split <;> omega
      · split
        · exact ⟨l0, l1, c0, c1⟩
        · exact ⟨l0, l1, c0, c1⟩

set_option maxRecDepth 100000 in
set_option maxHeartbeats 1000000 in
theorem madTimed_any (t : Tm) (ht : t.Ok) (reg v : Int) (h0 : 0 ≤ v) (h1 : v < 256) (w : World) :
    Calls Tryd.prog 10 #[.agg t.cells, .int .i64 reg, .int .u8 v] w fun e w' =>
      e = .returned (.agg (t.write reg v).cells) ∧ Below w.heap.size w w' := by
  obtain ⟨l, c, r, a, k, gg⟩ := t
  obtain ⟨l0, l1, c0, c1⟩ := ht
  simp only at l0 l1 c0 c1
  have p1 := Blk.new w 25 (Tm.cells ⟨l, c, r, a, k, gg⟩)
  go_enter Tryd.func10, Tryd.ntmps10
  by_cases e0 : reg = 0
  · subst e0
    go_wp2_with (fail)
    refine bodyPost_ret (v := .agg (Tm.cells (Tm.write ⟨l, c, r, a, k, gg⟩ 0 v))) (by simp [results, Tryd.results10, go_sem, Tm.write]) rfl ⟨rfl, ?_⟩
    exact ((Below.refl _ _).alloc (Nat.le_refl _) _).alloc (by simp) _
  · by_cases e1 : reg = 1
    · subst e1
      go_wp2_with (fail)
      refine bodyPost_ret (v := .agg (Tm.cells (Tm.write ⟨l, c, r, a, k, gg⟩ 1 v))) (by simp [results, Tryd.results10, go_sem, Tm.write]) rfl ⟨rfl, ?_⟩
      exact ((Below.refl _ _).alloc (Nat.le_refl _) _).alloc (by simp) _
    · by_cases e3 : reg = 3
      · subst e3
        go_wp2_with (fail)
        refine bodyPost_ret (v := .agg (Tm.cells (Tm.write ⟨l, c, r, a, k, gg⟩ 3 v))) (by simp [results, Tryd.results10, go_sem, Tm.write]) rfl ⟨rfl, ?_⟩
        exact ((Below.refl _ _).alloc (Nat.le_refl _) _).alloc (by simp) _
      · by_cases e2 : reg = 2
        · subst e2
          obtain ⟨d1, d2, d4⟩ := byte_bits v h0 h1
          have b2 : (v / 2 % 2 * 2 == 2) = decide (v / 2 % 2 = 1) := by
            rw [Bool.eq_iff_iff]; simp; omega
          have b4 : (v / 4 % 2 * 4 == 4) = decide (v / 4 % 2 = 1) := by
            rw [Bool.eq_iff_iff]; simp; omega
          by_cases hv : v % 2 = 1
          · go_wp2_with (fail)
            refine bodyPost_ret (v := .agg (Tm.cells (Tm.write ⟨l, c, r, a, k, gg⟩ 2 v))) (by simp [results, Tryd.results10, go_sem, Tm.write, d1, d2, d4, hv, b2, b4]) rfl ⟨rfl, ?_⟩
            exact ((Below.refl _ _).alloc (Nat.le_refl _) _).alloc (by simp) _
          · have hv0 : v % 2 = 0 := by omega
            go_wp2_with (fail)
            refine bodyPost_ret (v := .agg (Tm.cells (Tm.write ⟨l, c, r, a, k, gg⟩ 2 v))) (by simp [results, Tryd.results10, go_sem, Tm.write, d1, d2, d4, hv, b2, b4]) rfl ⟨rfl, ?_⟩
            exact ((Below.refl _ _).alloc (Nat.le_refl _) _).alloc (by simp) _
        · go_wp2_with (fail)
          refine bodyPost_ret (v := .agg (Tm.cells (Tm.write ⟨l, c, r, a, k, gg⟩ reg v))) (by simp [results, Tryd.results10, go_sem, Tm.write, e0, e1, e2, e3]) rfl ⟨rfl, ?_⟩
          exact ((Below.refl _ _).alloc (Nat.le_refl _) _).alloc (by simp) _

set_option maxRecDepth 100000 in
set_option maxHeartbeats 1000000 in
/-- Write: as on paper; a register that is none of the four changes nothing. -/
theorem Write_any (g : Nat) (t : Tm) (ht : t.Ok) (reg v : Int) (h0 : 0 ≤ v) (h1 : v < 256) (w : World) (hb : TmB w g t) :
    Calls Tryd.prog 11 #[.pointer (some ⟨g, 0, none⟩), .int .i64 reg, .int .u8 v] w fun e w' =>
      e = .returned (.int .i64 (if 0 ≤ reg ∧ reg < 4 then 0 else 10)) ∧ TmB w' g (t.write reg v) ∧ Keeps (fun k => k = g) w w' := by
  obtain ⟨l, c, r, a, k, gg⟩ := t
  obtain ⟨l0, l1, c0, c1⟩ := ht
  simp only at l0 l1 c0 c1
  have hb_c0 := hb.cell 0; have hb_c1 := hb.cell 1; have hb_c2 := hb.cell 2; have hb_c3 := hb.cell 3; have hb_c4 := hb.cell 4; have hb_c5 := hb.cell 5; have hb_f0 := hb.frozen 0; have hb_f1 := hb.frozen 1; have hb_f2 := hb.frozen 2; have hb_f3 := hb.frozen 3; have hb_f4 := hb.frozen 4; have hb_f5 := hb.frozen 5; simp at hb_c0 hb_c1 hb_c2 hb_c3 hb_c4 hb_c5
  have z1 := z_and255 l l0 l1
  have z2 := z_andNot255 l l0 l1
  have z3 := z_or l v l0 l1 h0 h1
  have z4 := z_or' l v l0 l1 h0 h1
  go_enter Tryd.func11, Tryd.ntmps11
  by_cases e0 : reg = 0
  · subst e0
    go_wp2_with (fail)
    go_ret
    refine ⟨by simp, ?_, (Keeps.refl (fun k => k = g) _).setCell (.inl rfl) _⟩
    simpa [Tm.write] using hb.set_ 0 (.int .i64 (l / 256 * 256 + v))
  · by_cases e1 : reg = 1
    · subst e1
      go_wp2_with (fail)
      go_ret
      refine ⟨by simp, ?_, (Keeps.refl (fun k => k = g) _).setCell (.inl rfl) _⟩
      simpa [Tm.write] using hb.set_ 0 (.int .i64 (l % 256 + 256 * v))
    · by_cases e3 : reg = 3
      · subst e3
        go_wp2_with (fail)
        go_ret
        refine ⟨by simp, ?_, (Keeps.refl (fun k => k = g) _).setCell (.inl rfl) _⟩
        simpa [Tm.write] using hb.set_ 5 (.bool false)
      · by_cases e2 : reg = 2
        · subst e2
          obtain ⟨d1, d2, d4⟩ := byte_bits v h0 h1
          have b2 : (v / 2 % 2 * 2 != 0) = decide (v / 2 % 2 = 1) := by
            rw [Bool.eq_iff_iff]; simp; omega
          have b4 : (v / 4 % 2 * 4 != 0) = decide (v / 4 % 2 = 1) := by
            rw [Bool.eq_iff_iff]; simp; omega
          by_cases hv : v % 2 = 1
          · go_wp2_with (fail)
            go_ret
            refine ⟨by simp, ?_, ?_⟩
            · have := (((hb.set_ 2 (.bool true)).set_ 3 (.bool (decide (v / 2 % 2 = 1)))).set_ 4 (.bool (decide (v / 4 % 2 = 1)))).set_ 1 (.int .i64 l)
              simpa [Tm.write, hv, b2, b4] using this
            · exact ((((Keeps.refl (fun k => k = g) _).setCell (.inl rfl) _).setCell (.inl rfl) _).setCell (.inl rfl) _).setCell (.inl rfl) _
          · have hv0 : v % 2 = 0 := by omega
            go_wp2_with (fail)
            go_ret
            refine ⟨by simp, ?_, ?_⟩
            · have := ((hb.set_ 2 (.bool false)).set_ 3 (.bool (decide (v / 2 % 2 = 1)))).set_ 4 (.bool (decide (v / 4 % 2 = 1)))
              simpa [Tm.write, hv, b2, b4] using this
            · exact (((Keeps.refl (fun k => k = g) _).setCell (.inl rfl) _).setCell (.inl rfl) _).setCell (.inl rfl) _
        · go_wp2_with (fail)
          go_ret
          have hn : ¬ (0 ≤ reg ∧ reg < 4) := by omega
          refine ⟨by simp [hn], ?_, Keeps.refl _ _⟩
          simpa [Tm.write, e0, e1, e2, e3] using hb
end Go.Proofs.YtbjhkgmojmggjaaDoor
