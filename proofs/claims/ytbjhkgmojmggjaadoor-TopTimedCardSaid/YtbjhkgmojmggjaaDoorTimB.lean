/- A timer's walks: Tick, IRQ, madTimer, madOf. No condition beyond what each states. -/
import Derived.Test.YtbjhkgmojmggjaaDoorTimA
namespace Go.Proofs.YtbjhkgmojmggjaaDoor
set_option linter.unusedSimpArgs false
set_option linter.unusedVariables false
set_option linter.unnecessarySimpa false
set_option linter.unusedSectionVars false
open Go.RowKit
attribute [local go_sem ↓] Go.wp_at_zero Go.wp_at_succ

abbrev TmB (w : World) (g : Nat) (t : Tm) : Prop := Blk w g 25 t.cells

def intV : Value → Int
  | .int _ n => n
  | _ => 0

def ofP (x n : Int) : Int := if x < 0 then (-(x + 1)) % n else x % n
theorem ofP_range (x n : Int) (h0 : 0 < n) : 0 ≤ ofP x n ∧ ofP x n < n := by
  unfold ofP
  split
  · exact ⟨Int.emod_nonneg _ (by omega), Int.emod_lt_of_pos _ h0⟩
  · exact ⟨Int.emod_nonneg _ (by omega), Int.emod_lt_of_pos _ h0⟩
theorem madOf_any (x n : Int) (w : World) (h0 : 0 < n) (hx : -9223372036854775808 ≤ x ∧ x ≤ 9223372036854775807) (hn : n ≤ 9223372036854775807) :
    Calls Tryd.prog 9 #[.int .i64 x, .int .i64 n] w fun e w' => e = .returned (.int .i64 (ofP x n)) ∧ w' = w := by
  obtain ⟨hx1, hx2⟩ := hx
  unfold ofP
  by_cases h : x < 0
  · go_enter Tryd.func9, Tryd.ntmps9
    go_wp2
    go_ret
    refine ⟨?_, rfl⟩
    have : -(x + 1).tmod n = -(x + 1) % n := by
      rw [← Int.neg_tmod, Int.tmod_eq_emod_of_nonneg (by omega)]
    simp [this, h]
  · go_enter Tryd.func9, Tryd.ntmps9
    go_wp2
    go_ret
    refine ⟨?_, rfl⟩
    simp [h]

set_option maxRecDepth 100000 in
theorem Tick_any (g : Nat) (t : Tm) (ht : t.Ok) (w : World) (hb : TmB w g t) :
    Calls Tryd.prog 14 #[.pointer (some ⟨g, 0, none⟩)] w fun e w' =>
      e = .returned (.tuple #[]) ∧ TmB w' g t.tick ∧ Keeps (fun k => k = g) w w' := by
  obtain ⟨l, c, r, a, k, gg⟩ := t
  obtain ⟨l0, l1, c0, c1⟩ := ht
  simp only at l0 l1 c0 c1
  have hb_c0 := hb.cell 0; have hb_c1 := hb.cell 1; have hb_c2 := hb.cell 2; have hb_c3 := hb.cell 3; have hb_c4 := hb.cell 4; have hb_c5 := hb.cell 5; have hb_f0 := hb.frozen 0; have hb_f1 := hb.frozen 1; have hb_f2 := hb.frozen 2; have hb_f3 := hb.frozen 3; have hb_f4 := hb.frozen 4; have hb_f5 := hb.frozen 5; simp at hb_c0 hb_c1 hb_c2 hb_c3 hb_c4 hb_c5
  go_enter Tryd.func14, Tryd.ntmps14
  cases r
  · go_wp2
    go_end0
    refine ⟨rfl, ?_, Keeps.refl _ _⟩
    simpa [Tm.tick] using hb
  · by_cases hc : 0 < c
    · go_wp2
      go_end0
      refine ⟨rfl, ?_, (Keeps.refl (fun k => k = g) _).setCell (.inl rfl) _⟩
      simpa [Tm.tick, hc] using hb.set_ 1 (.int .i64 (c - 1))
    · have hc0 : c = 0 := by omega
      subst hc0
      cases a
      · go_wp2
        go_end0
        refine ⟨rfl, ?_, ((Keeps.refl (fun k => k = g) _).setCell (.inl rfl) _).setCell (.inl rfl) _⟩
        simpa [Tm.tick] using (hb.set_ 5 (.bool true)).set_ 2 (.bool false)
      · go_wp2
        go_end0
        refine ⟨rfl, ?_, (((Keeps.refl (fun k => k = g) _).setCell (.inl rfl) _).setCell (.inl rfl) _).setCell (.inl rfl) _⟩
        simpa [Tm.tick] using ((hb.set_ 5 (.bool true)).set_ 2 (.bool true)).set_ 1 (.int .i64 l)

theorem IRQ_any (g : Nat) (t : Tm) (w : World) (hb : TmB w g t) :
    Calls Tryd.prog 17 #[.pointer (some ⟨g, 0, none⟩)] w fun e w' => e = .returned (.bool (t.g && t.k)) ∧ w' = w := by
  obtain ⟨l, c, r, a, k, gg⟩ := t
  have hb_c4 := hb.cell 4; have hb_c5 := hb.cell 5; simp at hb_c4 hb_c5
  go_enter Tryd.func17, Tryd.ntmps17
  cases gg <;> (go_wp2; go_ret; exact ⟨by simp, rfl⟩)

set_option maxRecDepth 100000 in
set_option maxHeartbeats 1000000 in
/-- madTimer's loop is 'ticks'. -/
theorem madTimer_any (n : Nat) (hn : n < 100000) (t : Tm) (ht : t.Ok) (w : World) :
    Calls Tryd.prog 15 #[.agg t.cells, .int .i64 n] w fun e w' =>
      e = .returned (.agg (Tm.ticks n t).cells) ∧ Below w.heap.size w w' := by
  go_enter Tryd.func15, Tryd.ntmps15
  go_wp2_with (fail)
  have p1 := Blk.new w 25 t.cells
  have k1 := (Keeps.refl (fun _ => False) w).alloc (.cells t.cells 25)
  have p2 := p1.alloc (.cells #[.int .i64 0, .int .i64 0, .bool false, .bool false, .bool false, .bool false] 25)
  have q2 := (Blk.new (w.alloc (.cells t.cells 25)) 25 #[.int .i64 0, .int .i64 0, .bool false, .bool false, .bool false, .bool false]).at_ (j := w.heap.size + 1) (by simp)
  have k2 := k1.alloc (.cells #[.int .i64 0, .int .i64 0, .bool false, .bool false, .bool false, .bool false] 25)
  generalize hW : World.alloc (World.alloc _ _) _ = W at *
  clear hW p1 k1
  generalize hB : w.heap.size = B at *
  go_loopw [1] (fun v wr => ∃ (m : Nat) (t' : Tm), v = .int .i64 m ∧ t'.Ok ∧ m ≤ n ∧ Tm.ticks m t' = Tm.ticks n t ∧ TmB wr B t' ∧ Blk wr (B + 1) 25 #[.int .i64 0, .int .i64 0, .bool false, .bool false, .bool false, .bool false] ∧ Keeps (fun _ => False) w wr) (fun v _ => (intV v).toNat)
  case atStart => exact ⟨n, t, rfl, ht, Nat.le_refl _, rfl, p2, q2, k2⟩
  case round =>
    obtain ⟨m, t', rfl, ht', hm, htick, pr, qr, kr⟩ := hrel
    have HT := Lib.hid htick
    clear htick p2 q2 k2
    obtain ⟨l, c, r, a, k, gg⟩ := t'
    obtain ⟨l0, l1, c0, c1⟩ := ht'
    simp only at l0 l1 c0 c1
    have pr_c0 := pr.cell 0; have pr_c1 := pr.cell 1; have pr_c2 := pr.cell 2; have pr_c3 := pr.cell 3; have pr_c4 := pr.cell 4; have pr_c5 := pr.cell 5; have pr_f0 := pr.frozen 0; have pr_f1 := pr.frozen 1; have pr_f2 := pr.frozen 2; have pr_f3 := pr.frozen 3; have pr_f4 := pr.frozen 4; have pr_f5 := pr.frozen 5; simp at pr_c0 pr_c1 pr_c2 pr_c3 pr_c4 pr_c5
    have qr_c0 := qr.cell 0; have qr_c1 := qr.cell 1; have qr_c2 := qr.cell 2; have qr_c3 := qr.cell 3; have qr_c4 := qr.cell 4; have qr_c5 := qr.cell 5; have qr_f0 := qr.frozen 0; have qr_f1 := qr.frozen 1; have qr_f2 := qr.frozen 2; have qr_f3 := qr.frozen 3; have qr_f4 := qr.frozen 4; have qr_f5 := qr.frozen 5; simp at qr_c0 qr_c1 qr_c2 qr_c3 qr_c4 qr_c5
    rcases Nat.eq_zero_or_pos m with hm0 | hm0
    · subst hm0
      go_wp2_with (fail)
      generalize hX : World.setCell (World.setCell _ _ _) _ _ = X
      have qx : Blk X (B + 1) 25 (Tm.cells ⟨l, c, r, a, k, gg⟩) := by rw [← hX]; exact qr.st.st.st.st.st.st
      have kx : Keeps (fun _ => False) w X := by rw [← hX]; exact (((((kr.setCell (.inr (by simp; omega)) _).setCell (.inr (by simp; omega)) _).setCell (.inr (by simp; omega)) _).setCell (.inr (by simp; omega)) _).setCell (.inr (by simp; omega)) _).setCell (.inr (by simp; omega)) _
      have qx_c0 := qx.cell 0; have qx_c1 := qx.cell 1; have qx_c2 := qx.cell 2; have qx_c3 := qx.cell 3; have qx_c4 := qx.cell 4; have qx_c5 := qx.cell 5; simp at qx_c0 qx_c1 qx_c2 qx_c3 qx_c4 qx_c5
      have hT := HT.out
      rw [Tm.ticks] at hT
      refine bodyPost_ret (v := .agg (Tm.cells ⟨l, c, r, a, k, gg⟩)) (by simp [results, Tryd.results15, go_sem, qx_c0, qx_c1, qx_c2, qx_c3, qx_c4, qx_c5]) rfl ⟨by rw [hT], kx.below (by omega) (fun _ _ h => h)⟩
    · cases r
      · have hm1 : (0 : Int) < m := by omega
        go_wp2_with (fail)
        generalize hX : World.setCell (World.setCell _ _ _) _ _ = X
        have qx : Blk X (B + 1) 25 (Tm.cells ⟨l, c, false, a, k, gg⟩) := by rw [← hX]; exact qr.st.st.st.st.st.st
        have kx : Keeps (fun _ => False) w X := by rw [← hX]; exact (((((kr.setCell (.inr (by simp; omega)) _).setCell (.inr (by simp; omega)) _).setCell (.inr (by simp; omega)) _).setCell (.inr (by simp; omega)) _).setCell (.inr (by simp; omega)) _).setCell (.inr (by simp; omega)) _
        have qx_c0 := qx.cell 0; have qx_c1 := qx.cell 1; have qx_c2 := qx.cell 2; have qx_c3 := qx.cell 3; have qx_c4 := qx.cell 4; have qx_c5 := qx.cell 5; simp at qx_c0 qx_c1 qx_c2 qx_c3 qx_c4 qx_c5
        have hT := HT.out
        rw [Tm.ticks_stopped _ rfl] at hT
        refine bodyPost_ret (v := .agg (Tm.cells ⟨l, c, false, a, k, gg⟩)) (by simp [results, Tryd.results15, go_sem, qx_c0, qx_c1, qx_c2, qx_c3, qx_c4, qx_c5]) rfl ⟨by rw [hT], kx.below (by omega) (fun _ _ h => h)⟩
      · have hm1 : (0 : Int) < m := by omega
        by_cases hc : 0 < c
        · go_wp2_with (fail)
          refine ⟨⟨m - 1, _, by simp; omega, Tm.Ok.tick (t := ⟨l, c, true, a, k, gg⟩) ⟨l0, l1, c0, c1⟩, by omega, ?_, ?_, ?_, ?_⟩, ?_⟩
          · have hT := HT.out
            rw [← hT]
            obtain ⟨m', rfl⟩ : ∃ m', m = m' + 1 := ⟨m - 1, by omega⟩
            simp [Tm.ticks]
          · simpa [Tm.tick, hc] using pr.set_ 1 (.int .i64 (c - 1))
          · exact qr.fr
          · exact kr.setCell (.inr (by simp; omega)) _
          · simp [intV]; omega
        · have hc0 : c = 0 := by omega
          subst hc0
          cases a
          · go_wp2_with (fail)
            refine ⟨⟨m - 1, _, by simp; omega, Tm.Ok.tick (t := ⟨l, 0, true, false, k, gg⟩) ⟨l0, l1, c0, c1⟩, by omega, ?_, ?_, ?_, ?_⟩, ?_⟩
            · have hT := HT.out
              rw [← hT]
              obtain ⟨m', rfl⟩ : ∃ m', m = m' + 1 := ⟨m - 1, by omega⟩
              simp [Tm.ticks]
            · simpa [Tm.tick] using (pr.set_ 5 (.bool true)).set_ 2 (.bool false)
            · exact qr.fr.fr
            · exact (kr.setCell (.inr (by simp; omega)) _).setCell (.inr (by simp; omega)) _
            · simp [intV]; omega
          · go_wp2_with (fail)
            refine ⟨⟨m - 1, _, by simp; omega, Tm.Ok.tick (t := ⟨l, 0, true, true, k, gg⟩) ⟨l0, l1, c0, c1⟩, by omega, ?_, ?_, ?_, ?_⟩, ?_⟩
            · have hT := HT.out
              rw [← hT]
              obtain ⟨m', rfl⟩ : ∃ m', m = m' + 1 := ⟨m - 1, by omega⟩
              simp [Tm.ticks]
            · simpa [Tm.tick] using (pr.set_ 5 (.bool true)).set_ 1 (.int .i64 l)
            · exact qr.fr.fr
            · exact (kr.setCell (.inr (by simp; omega)) _).setCell (.inr (by simp; omega)) _
            · simp [intV]; omega
end Go.Proofs.YtbjhkgmojmggjaaDoor
