/- timer.After: a loop by a label. No condition beyond what it states. -/
import Derived.Test.YtbjhkgmojmggjaaDoorTimB
namespace Go.Proofs.YtbjhkgmojmggjaaDoor
set_option linter.unusedSimpArgs false
set_option linter.unusedVariables false
set_option linter.unnecessarySimpa false
set_option linter.unusedSectionVars false
open Go.RowKit
attribute [local go_sem ↓] Go.wp_at_zero Go.wp_at_succ

theorem jump_mono {l : Nat} {J J' : Act → World → Prop} {Q : Exit → Act → World → Prop} (h : ∀ a w, J a w → J' a w) (e : Exit) (a : Act) (w : World) : Exit.jump l J Q e a w → Exit.jump l J' Q e a w := by
  cases e <;> simp only [Exit.jump] <;> first | exact id | exact fun ⟨h1, h2⟩ => ⟨h1, h _ _ h2⟩

set_option maxRecDepth 100000 in
set_option maxHeartbeats 2000000 in
theorem After_any (n : Nat) (hn : n ≤ 1099511627776) (t : Tm) (ht : t.Ok) (w : World) :
    Calls Tryd.prog 16 #[.agg t.cells, .int .i64 n] w fun e w' =>
      e = .returned (.tuple #[.agg (Tm.ticks n t).cells, .int .i64 0]) ∧ Below w.heap.size w w' := by
  go_enter Tryd.func16, Tryd.ntmps16
  go_wp2_with (fail)
  have p1 := Blk.new w 25 t.cells
  have k1 := (Keeps.refl (fun _ => False) w).alloc (.cells t.cells 25)
  have p2 := p1.alloc (.cells #[.int .i64 0, .int .i64 0, .bool false, .bool false, .bool false, .bool false] 25)
  have q2 := (Blk.new (w.alloc (.cells t.cells 25)) 25 #[.int .i64 0, .int .i64 0, .bool false, .bool false, .bool false, .bool false]).at_ (j := w.heap.size + 1) (by simp)
  have k2 := k1.alloc (.cells #[.int .i64 0, .int .i64 0, .bool false, .bool false, .bool false, .bool false] 25)
  generalize hW : World.alloc (World.alloc _ _) _ = W at *
  clear hW p1 k1
  generalize hB : w.heap.size = B at *
  refine wp_scope_jumps 0 (fun a' wr => ∃ (m : Nat) (t' : Tm) (u0 u3 u6 u7 u8 u9 u10 u11 u12 u13 u14 u15 u16 u17 u18 u19 u20 u21 u22 u23 u24 u25 u26 u27 u28 u29 u30 u31 u32 u33 u34 u35 u36 u37 u38 u39 u40 u41 u42 u43 u44 u45 u46 u47 u48 u49 u50 u51 u52 u53 u54 u55 u56 u57 u58 u59 u60 : Value), a' = { tmps := #[u0, .int .i64 m, .pointer (some ⟨B, 0, none⟩), u3, .pointer (some ⟨B + 1, 0, none⟩), .int .i64 0, u6, u7, u8, u9, u10, u11, u12, u13, u14, u15, u16, u17, u18, u19, u20, u21, u22, u23, u24, u25, u26, u27, u28, u29, u30, u31, u32, u33, u34, u35, u36, u37, u38, u39, u40, u41, u42, u43, u44, u45, u46, u47, u48, u49, u50, u51, u52, u53, u54, u55, u56, u57, u58, u59, u60], defers := [] } ∧ t'.Ok ∧ m ≤ n ∧ Tm.ticks m t' = Tm.ticks n t ∧ TmB wr B t' ∧ Blk wr (B + 1) 25 #[.int .i64 0, .int .i64 0, .bool false, .bool false, .bool false, .bool false] ∧ Keeps (fun _ => False) w wr)
    (fun a' _ => (intV (a'.tmps.getD 1 undef)).toNat) (by rfl) ?_ ?_
  · obtain ⟨l, c, r, a, k, gg⟩ := t
    obtain ⟨l0, l1, c0, c1⟩ := ht
    simp only at l0 l1 c0 c1
    have g0 : ¬ l < 0 := by omega
    have g1 : ¬ 65535 < l := by omega
    have g2 : ¬ c < 0 := by omega
    have g3 : ¬ 65535 < c := by omega
    have g4 : ¬ (n : Int) < 0 := by omega
    have g5 : ¬ 1099511627776 < (n : Int) := by omega
    have p2_c0 := p2.cell 0; have p2_c1 := p2.cell 1; have p2_c2 := p2.cell 2; have p2_c3 := p2.cell 3; have p2_c4 := p2.cell 4; have p2_c5 := p2.cell 5; have p2_f0 := p2.frozen 0; have p2_f1 := p2.frozen 1; have p2_f2 := p2.frozen 2; have p2_f3 := p2.frozen 3; have p2_f4 := p2.frozen 4; have p2_f5 := p2.frozen 5; simp at p2_c0 p2_c1 p2_c2 p2_c3 p2_c4 p2_c5
    have q2_c0 := q2.cell 0; have q2_c1 := q2.cell 1; have q2_c2 := q2.cell 2; have q2_c3 := q2.cell 3; have q2_c4 := q2.cell 4; have q2_c5 := q2.cell 5; have q2_f0 := q2.frozen 0; have q2_f1 := q2.frozen 1; have q2_f2 := q2.frozen 2; have q2_f3 := q2.frozen 3; have q2_f4 := q2.frozen 4; have q2_f5 := q2.frozen 5; simp at q2_c0 q2_c1 q2_c2 q2_c3 q2_c4 q2_c5
    cases r
    · skip
      go_wp2_with (fail)
      go_step3
      go_wp2_with (fail)
      generalize hX : World.setCell (World.setCell _ _ _) _ _ = X
      have qx : Blk X (B + 1) 25 (Tm.cells ⟨l, c, false, a, k, gg⟩) := by rw [← hX]; exact q2.st.st.st.st.st.st
      have kx : Keeps (fun _ => False) w X := by rw [← hX]; exact (((((k2.setCell (.inr (by simp; omega)) _).setCell (.inr (by simp; omega)) _).setCell (.inr (by simp; omega)) _).setCell (.inr (by simp; omega)) _).setCell (.inr (by simp; omega)) _).setCell (.inr (by simp; omega)) _
      have qx_c0 := qx.cell 0; have qx_c1 := qx.cell 1; have qx_c2 := qx.cell 2; have qx_c3 := qx.cell 3; have qx_c4 := qx.cell 4; have qx_c5 := qx.cell 5; simp at qx_c0 qx_c1 qx_c2 qx_c3 qx_c4 qx_c5
      have hT := (Tm.ticks_stopped n (t := ⟨l, c, false, a, k, gg⟩) rfl).symm
      refine bodyPost_ret (v := .tuple #[.agg (Tm.cells ⟨l, c, false, a, k, gg⟩), .int .i64 0]) (by simp [results, Tryd.results16, go_sem, qx_c0, qx_c1, qx_c2, qx_c3, qx_c4, qx_c5]) rfl ⟨by rw [← hT], kx.below (by omega) (fun _ _ h => h)⟩
    · by_cases hc : (n : Int) ≤ c
      · skip
        go_wp2_with (fail)
        go_step3
        go_wp2_with (fail)
        generalize hX : World.setCell (World.setCell _ _ _) _ _ = X
        have qx : Blk X (B + 1) 25 (Tm.cells ⟨l, c - n, true, a, k, gg⟩) := by rw [← hX]; exact q2.fr.st.st.st.st.st.st
        have kx : Keeps (fun _ => False) w X := by rw [← hX]; exact ((((((k2.setCell (p := ⟨B, 1, none⟩) (.inr (by simp; omega)) (.int .i64 (c - n))).setCell (.inr (by simp; omega)) _).setCell (.inr (by simp; omega)) _).setCell (.inr (by simp; omega)) _).setCell (.inr (by simp; omega)) _).setCell (.inr (by simp; omega)) _).setCell (.inr (by simp; omega)) _
        have qx_c0 := qx.cell 0; have qx_c1 := qx.cell 1; have qx_c2 := qx.cell 2; have qx_c3 := qx.cell 3; have qx_c4 := qx.cell 4; have qx_c5 := qx.cell 5; simp at qx_c0 qx_c1 qx_c2 qx_c3 qx_c4 qx_c5
        have hT := (Tm.ticks_few n (t := ⟨l, c, true, a, k, gg⟩) rfl hc).symm
        refine bodyPost_ret (v := .tuple #[.agg (Tm.cells ⟨l, c - n, true, a, k, gg⟩), .int .i64 0]) (by simp [results, Tryd.results16, go_sem, qx_c0, qx_c1, qx_c2, qx_c3, qx_c4, qx_c5]) rfl ⟨by rw [← hT], kx.below (by omega) (fun _ _ h => h)⟩
      · skip
        go_wp2_with (fail)
        go_step3
        go_wp2_with (fail)
        have b1 : TmB _ B ⟨l, 0, true, a, k, gg⟩ := p2.set_ 1 (.int .i64 0)
        have q1' := q2.far (p := ⟨B, 1, none⟩) (by simp) (.int .i64 0)
        have k1' := k2.setCell (p := ⟨B, 1, none⟩) (.inr (by simp; omega)) (.int .i64 0)
        refine (Tick_any B _ ⟨by simpa using l0, by simpa using l1, by simp, by simp⟩ _ b1).mono ?_
        rintro e w5 ⟨rfl, b5, k5⟩
        have q5 := q1'.keeps k5 (by omega)
        have kk5 := k1'.trans k5 (fun x hx h => by omega)
        have hpass := Tm.after_pass (t := ⟨l, c, true, a, k, gg⟩) ⟨l0, l1, c0, c1⟩ rfl n (by simp; omega)
        have e1 : (n : Int) - (c + 1) = ((n - (c.toNat + 1) : Nat) : Int) := by omega
        have hm' : n - (c.toNat + 1) < n := by omega
        have hge : 0 ≤ (n : Int) - (c + 1) := by omega
        simp only at hpass
        clear b1 q1' k1' k5
        cases a
        · have b6 : TmB w5 B ⟨l, 0, false, false, k, true⟩ := by simpa [Tm.tick] using b5
          have b6_c0 := b6.cell 0; have b6_c2 := b6.cell 2; simp at b6_c0 b6_c2
          clear b5
          go_wp2_with (fail)
          go_step3
          refine ⟨rfl, n - (c.toNat + 1), ⟨l, 0, false, false, k, true⟩, _, _, _, _, _, _, _, _, _, _, _, _, _, _, _, _, _, _, _, _, _, _, _, _, _, _, _, _, _, _, _, _, _, _, _, _, _, _, _, _, _, _, _, _, _, _, _, _, _, _, _, _, _, _, _, _, _, rfl, ⟨by simpa using l0, by simpa using l1, by simp, by simp⟩, ?_, ?_, b6, q5, kk5⟩
          · omega
          · rw [hpass]
            have ht2 : Tm.tick ⟨l, 0, true, false, k, gg⟩ = ⟨l, 0, false, false, k, true⟩ := by simp [Tm.tick]
            rw [ht2]
        · have b6 : TmB w5 B ⟨l, l, true, true, k, true⟩ := by simpa [Tm.tick] using b5
          have b6_c0 := b6.cell 0; have b6_c2 := b6.cell 2; simp at b6_c0 b6_c2
          clear b5
          have e2 : ((n - (c.toNat + 1) : Nat) : Int) % (l + 1) = (((n - (c.toNat + 1)) % (l.toNat + 1) : Nat) : Int) := by rw [Int.natCast_emod]; congr 1; omega
          have hl1 : 0 < l + 1 := by omega
          go_wp2_with (fail)
          go_step3
          try rw [e2]
          refine ⟨rfl, (n - (c.toNat + 1)) % (l.toNat + 1), ⟨l, l, true, true, k, true⟩, _, _, _, _, _, _, _, _, _, _, _, _, _, _, _, _, _, _, _, _, _, _, _, _, _, _, _, _, _, _, _, _, _, _, _, _, _, _, _, _, _, _, _, _, _, _, _, _, _, _, _, _, _, _, _, _, _, rfl, ⟨by simpa using l0, by simpa using l1, by simp; omega, by simp; omega⟩, ?_, ?_, b6, q5, kk5⟩
          · have := Nat.mod_le (n - (c.toNat + 1)) (l.toNat + 1); omega
          · rw [hpass]
            have ht2 : Tm.tick ⟨l, 0, true, true, k, gg⟩ = ⟨l, l, true, true, k, true⟩ := by simp [Tm.tick]
            rw [ht2]
            exact (Tm.ticks_mod (t := ⟨l, l, true, true, k, true⟩) rfl rfl rfl l0 rfl _).symm
  · rintro a0 wr ⟨m, t', u0, u3, u6, u7, u8, u9, u10, u11, u12, u13, u14, u15, u16, u17, u18, u19, u20, u21, u22, u23, u24, u25, u26, u27, u28, u29, u30, u31, u32, u33, u34, u35, u36, u37, u38, u39, u40, u41, u42, u43, u44, u45, u46, u47, u48, u49, u50, u51, u52, u53, u54, u55, u56, u57, u58, u59, u60, rfl, ht', hm, htick, pr, qr, kr⟩
    have HT := Lib.hid htick
    clear htick p2 q2 k2
    obtain ⟨l, c, r, a, k, gg⟩ := t'
    obtain ⟨l0, l1, c0, c1⟩ := ht'
    simp only at l0 l1 c0 c1
    have pr_c0 := pr.cell 0; have pr_c1 := pr.cell 1; have pr_c2 := pr.cell 2; have pr_c3 := pr.cell 3; have pr_c4 := pr.cell 4; have pr_c5 := pr.cell 5; have pr_f0 := pr.frozen 0; have pr_f1 := pr.frozen 1; have pr_f2 := pr.frozen 2; have pr_f3 := pr.frozen 3; have pr_f4 := pr.frozen 4; have pr_f5 := pr.frozen 5; simp at pr_c0 pr_c1 pr_c2 pr_c3 pr_c4 pr_c5
    have qr_c0 := qr.cell 0; have qr_c1 := qr.cell 1; have qr_c2 := qr.cell 2; have qr_c3 := qr.cell 3; have qr_c4 := qr.cell 4; have qr_c5 := qr.cell 5; have qr_f0 := qr.frozen 0; have qr_f1 := qr.frozen 1; have qr_f2 := qr.frozen 2; have qr_f3 := qr.frozen 3; have qr_f4 := qr.frozen 4; have qr_f5 := qr.frozen 5; simp at qr_c0 qr_c1 qr_c2 qr_c3 qr_c4 qr_c5
    cases r
    · skip
      go_wp2_with (fail)
      generalize hX : World.setCell (World.setCell _ _ _) _ _ = X
      have qx : Blk X (B + 1) 25 (Tm.cells ⟨l, c, false, a, k, gg⟩) := by rw [← hX]; exact qr.st.st.st.st.st.st
      have kx : Keeps (fun _ => False) w X := by rw [← hX]; exact (((((kr.setCell (.inr (by simp; omega)) _).setCell (.inr (by simp; omega)) _).setCell (.inr (by simp; omega)) _).setCell (.inr (by simp; omega)) _).setCell (.inr (by simp; omega)) _).setCell (.inr (by simp; omega)) _
      have qx_c0 := qx.cell 0; have qx_c1 := qx.cell 1; have qx_c2 := qx.cell 2; have qx_c3 := qx.cell 3; have qx_c4 := qx.cell 4; have qx_c5 := qx.cell 5; simp at qx_c0 qx_c1 qx_c2 qx_c3 qx_c4 qx_c5
      have hT := HT.out
      rw [Tm.ticks_stopped m (t := ⟨l, c, false, a, k, gg⟩) rfl] at hT
      refine bodyPost_ret (v := .tuple #[.agg (Tm.cells ⟨l, c, false, a, k, gg⟩), .int .i64 0]) (by simp [results, Tryd.results16, go_sem, qx_c0, qx_c1, qx_c2, qx_c3, qx_c4, qx_c5]) rfl ⟨by rw [← hT], kx.below (by omega) (fun _ _ h => h)⟩
    · by_cases hc : (m : Int) ≤ c
      · skip
        go_wp2_with (fail)
        generalize hX : World.setCell (World.setCell _ _ _) _ _ = X
        have qx : Blk X (B + 1) 25 (Tm.cells ⟨l, c - m, true, a, k, gg⟩) := by rw [← hX]; exact qr.fr.st.st.st.st.st.st
        have kx : Keeps (fun _ => False) w X := by rw [← hX]; exact ((((((kr.setCell (p := ⟨B, 1, none⟩) (.inr (by simp; omega)) (.int .i64 (c - m))).setCell (.inr (by simp; omega)) _).setCell (.inr (by simp; omega)) _).setCell (.inr (by simp; omega)) _).setCell (.inr (by simp; omega)) _).setCell (.inr (by simp; omega)) _).setCell (.inr (by simp; omega)) _
        have qx_c0 := qx.cell 0; have qx_c1 := qx.cell 1; have qx_c2 := qx.cell 2; have qx_c3 := qx.cell 3; have qx_c4 := qx.cell 4; have qx_c5 := qx.cell 5; simp at qx_c0 qx_c1 qx_c2 qx_c3 qx_c4 qx_c5
        have hT := HT.out
        rw [Tm.ticks_few m (t := ⟨l, c, true, a, k, gg⟩) rfl hc] at hT
        refine bodyPost_ret (v := .tuple #[.agg (Tm.cells ⟨l, c - m, true, a, k, gg⟩), .int .i64 0]) (by simp [results, Tryd.results16, go_sem, qx_c0, qx_c1, qx_c2, qx_c3, qx_c4, qx_c5]) rfl ⟨by rw [← hT], kx.below (by omega) (fun _ _ h => h)⟩
      · skip
        go_wp2_with (fail)
        have b1 : TmB _ B ⟨l, 0, true, a, k, gg⟩ := pr.set_ 1 (.int .i64 0)
        have q1' := qr.far (p := ⟨B, 1, none⟩) (by simp) (.int .i64 0)
        have k1' := kr.setCell (p := ⟨B, 1, none⟩) (.inr (by simp; omega)) (.int .i64 0)
        refine (Tick_any B _ ⟨by simpa using l0, by simpa using l1, by simp, by simp⟩ _ b1).mono ?_
        rintro e w5 ⟨rfl, b5, k5⟩
        have q5 := q1'.keeps k5 (by omega)
        have kk5 := k1'.trans k5 (fun x hx h => by omega)
        have hpass := Tm.after_pass (t := ⟨l, c, true, a, k, gg⟩) ⟨l0, l1, c0, c1⟩ rfl m (by simp; omega)
        have e1 : (m : Int) - (c + 1) = ((m - (c.toNat + 1) : Nat) : Int) := by omega
        have hm' : m - (c.toNat + 1) < m := by omega
        have hge : 0 ≤ (m : Int) - (c + 1) := by omega
        simp only at hpass
        clear b1 q1' k1' k5
        cases a
        · have b6 : TmB w5 B ⟨l, 0, false, false, k, true⟩ := by simpa [Tm.tick] using b5
          have b6_c0 := b6.cell 0; have b6_c2 := b6.cell 2; simp at b6_c0 b6_c2
          clear b5
          go_wp2_with (fail)
          go_step3
          refine ⟨rfl, ⟨m - (c.toNat + 1), ⟨l, 0, false, false, k, true⟩, _, _, _, _, _, _, _, _, _, _, _, _, _, _, _, _, _, _, _, _, _, _, _, _, _, _, _, _, _, _, _, _, _, _, _, _, _, _, _, _, _, _, _, _, _, _, _, _, _, _, _, _, _, _, _, _, _, rfl, ⟨by simpa using l0, by simpa using l1, by simp, by simp⟩, ?_, ?_, b6, q5, kk5⟩, ?_⟩
          · omega
          · have hT := HT.out
            rw [hpass] at hT
            rw [← hT]
            have ht2 : Tm.tick ⟨l, 0, true, false, k, gg⟩ = ⟨l, 0, false, false, k, true⟩ := by simp [Tm.tick]
            rw [ht2]
          · simp [intV]; omega
        · have b6 : TmB w5 B ⟨l, l, true, true, k, true⟩ := by simpa [Tm.tick] using b5
          have b6_c0 := b6.cell 0; have b6_c2 := b6.cell 2; simp at b6_c0 b6_c2
          clear b5
          have e2 : ((m - (c.toNat + 1) : Nat) : Int) % (l + 1) = (((m - (c.toNat + 1)) % (l.toNat + 1) : Nat) : Int) := by rw [Int.natCast_emod]; congr 1; omega
          have hl1 : 0 < l + 1 := by omega
          go_wp2_with (fail)
          go_step3
          try rw [e2]
          refine ⟨rfl, ⟨(m - (c.toNat + 1)) % (l.toNat + 1), ⟨l, l, true, true, k, true⟩, _, _, _, _, _, _, _, _, _, _, _, _, _, _, _, _, _, _, _, _, _, _, _, _, _, _, _, _, _, _, _, _, _, _, _, _, _, _, _, _, _, _, _, _, _, _, _, _, _, _, _, _, _, _, _, _, _, rfl, ⟨by simpa using l0, by simpa using l1, by simp; omega, by simp; omega⟩, ?_, ?_, b6, q5, kk5⟩, ?_⟩
          · have := Nat.mod_le (m - (c.toNat + 1)) (l.toNat + 1); omega
          · have hT := HT.out
            rw [hpass] at hT
            rw [← hT]
            have ht2 : Tm.tick ⟨l, 0, true, true, k, gg⟩ = ⟨l, l, true, true, k, true⟩ := by simp [Tm.tick]
            rw [ht2]
            exact (Tm.ticks_mod (t := ⟨l, l, true, true, k, true⟩) rfl rfl rfl l0 rfl _).symm
          · have hle := Nat.mod_le (m - (c.toNat + 1)) (l.toNat + 1); show (intV (.int .i64 (((m - (c.toNat + 1)) % (l.toNat + 1) : Nat) : Int))).toNat < (intV (.int .i64 (m : Int))).toNat; simp only [intV, Int.toNat_natCast]; omega
end Go.Proofs.YtbjhkgmojmggjaaDoor
