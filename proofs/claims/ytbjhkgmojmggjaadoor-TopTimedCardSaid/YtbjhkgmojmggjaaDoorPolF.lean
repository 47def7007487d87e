/- policy.Parse at 'secret $10'. Condition: the library's variable MaxLen holds some int. -/
import Derived.Test.YtbjhkgmojmggjaaDoorPolE
import Derived.Test.YtbjhkgmojmggjaaDoorMap
namespace Go.Proofs.YtbjhkgmojmggjaaDoor
set_option linter.unusedSimpArgs false
set_option linter.unusedVariables false
set_option linter.unnecessarySimpa false
set_option linter.unusedSectionVars false
open Go.RowKit
attribute [local go_sem ↓] Go.wp_at_zero Go.wp_at_succ

theorem noGoto_ret' {Q : Exit → Act → World → Prop} {a : Act} {w : World} (h : Q .ret a w) : Exit.noGoto Q .ret a w := h

set_option maxRecDepth 100000 in
set_option maxHeartbeats 2000000 in
theorem Parse_S0 (w : World) (m : Int) (hm : w.cell? ⟨1, 0, none⟩ = some (.int .i64 m)) :
    Calls Tryd.prog 66 #[.string (⟨#[115, 101, 99, 114, 101, 116, 32, 36, 49, 48]⟩ : ByteArray)] w fun e w' =>
      ∃ b cap, e = .returned (.tuple #[.agg #[.slice (some ⟨b, 0, none⟩) 1 cap, .slice none 0 0, .int .i64 0, .int .i64 1024], .agg #[.int .i64 0, .int .i64 0], .int .i64 0]) ∧
        w'.ownsRow w.heap.size 111 3 (.slice (some ⟨b, 0, none⟩) 1 cap) 1 span0 ∧ Below w.heap.size w w' := by
  go_enter Tryd.func66, Tryd.ntmps66
  go_wp2_with (fail)
  generalize hW : World.alloc _ _ = W
  have r1 : Blk W w.heap.size 95 #[.slice none 0 0, .slice none 0 0, .int .i64 0, .int .i64 0] := by rw [← hW]; exact (Blk.new w _ _).alloc _
  have s1 : Blk W (w.heap.size + 1) 132 #[.int .i64 0, .int .i64 0] := by rw [← hW]; exact (Blk.new (w.alloc _) _ _).at_ (by simp)
  have k1 : Keeps (fun _ => False) w W := by rw [← hW]; exact ((Keeps.refl _ _).alloc _).alloc _
  have m1 := k1.cell hm (fun h => h)
  clear hW hm
  refine wp_scope_straight ?_
  go_wp2_with (fail)
  refine (Scan_S0 W m m1).mono ?_
  rintro e w2 ⟨b0, cap0, rfl, own2, bel2⟩
  clear m1
  have r2 := r1.later bel2
  have s2 := s1.later bel2
  have k2 := k1.trans (Keeps.of_below bel2 (S := fun _ => False)) (fun _ _ h => h)
  have hW1 : w.heap.size + 1 < W.heap.size := s1.lt
  have hb0 : W.heap.size ≤ b0 ∧ b0 < w2.heap.size := own2.lt b0 (by rfl)
  have hcap0 : 3 ≤ cap0 := by
    obtain ⟨_, h | ⟨g, cap, cur, hv, _, _, hh⟩⟩ := own2
    · simp at h
    · simp at hv; obtain ⟨_, rfl⟩ := hv; exact hh.1
  clear k1 r1 s1 bel2
  generalize hB : w.heap.size = B at *
  have hBle : w.heap.size ≤ B := by omega
  have hmf := @run_makeFunc_any Tryd.prog
  have hmm := fun t => @run_makeMap Tryd.prog t
  go_wp2_with (first | (refine wpList_update_str _ rfl _ _ _ 197 rfl _ _ Tryd.underlying9 Tryd.underlying197 (w2.heap.size + 1 + 1 + 1) _ _ (by exact mbw6) (by rfl) _ _ (by rfl) (by rfl) (by rfl) ?_; intro w7 mbw7 kkw7) | (refine wpList_update_str _ rfl _ _ _ 197 rfl _ _ Tryd.underlying9 Tryd.underlying197 (w2.heap.size + 1 + 1 + 1) _ _ (by exact mbw5) (by rfl) _ _ (by rfl) (by rfl) (by rfl) ?_; intro w6 mbw6 kkw6) | (refine wpList_update_str _ rfl _ _ _ 197 rfl _ _ Tryd.underlying9 Tryd.underlying197 (w2.heap.size + 1 + 1 + 1) _ _ (by exact mbw4) (by rfl) _ _ (by rfl) (by rfl) (by rfl) ?_; intro w5 mbw5 kkw5) | (refine wpList_update_str _ rfl _ _ _ 197 rfl _ _ Tryd.underlying9 Tryd.underlying197 (w2.heap.size + 1 + 1 + 1) _ _ (by exact (MapB.new _).at_ (by simp)) (by rfl) _ _ (by rfl) (by rfl) (by rfl) ?_; intro w4 mbw4 kkw4))
  clear hmm hmf
  have kk := ((kkw4.trans kkw5 (fun _ _ h => h)).trans kkw6 (fun _ _ h => h)).trans kkw7 (fun _ _ h => h)
  clear kkw4 kkw5 kkw6 kkw7 mbw4 mbw5 mbw6
  have hk7 := (((((Keeps.refl (fun _ => False) w2).alloc _).alloc _).alloc _).alloc _).trans kk (fun x hx h => by have h' : x = w2.heap.size + 1 + 1 + 1 := h; omega)
  have p7 := ((((Blk.new w2 132 #[.int .i64 0, .int .i64 0]).alloc _).alloc _).alloc _).keeps kk (by omega)
  have g7 : RdB w7 (w2.heap.size + 1 + 1) _ _ _ _ _ _ _ _ _ := (((Blk.new ((w2.alloc _).alloc _) 195 _).alloc _).at_ (by simp)).keeps kk (by omega)
  have r7 := r2.keeps hk7 (fun h => h)
  have s7 := s2.keeps hk7 (fun h => h)
  have own7 := hk7.own own2 (fun _ _ h => h)
  have k7 := k2.trans hk7 (fun _ _ h => h)
  have hs7 : w2.heap.size < w7.heap.size := p7.lt
  clear kk hk7 r2 s2 own2 k2
  generalize hG : w2.heap.size = G at *
  have ts := World.ownsRow.cells own7 rfl
  have t0 : Tok w7 b0 0 1 ⟨#[115, 101, 99, 114, 101, 116]⟩ 0 1 1 := ⟨ts 0 _ rfl, ts 1 _ rfl, ts 2 _ rfl, ts 3 _ rfl, ts 4 _ rfl⟩
  have t1 : Tok w7 b0 5 2 ByteArray.empty 16 1 8 := ⟨ts 5 _ rfl, ts 6 _ rfl, ts 7 _ rfl, ts 8 _ rfl, ts 9 _ rfl⟩
  have t2 : Tok w7 b0 10 4 ByteArray.empty 0 1 11 := ⟨ts 10 _ rfl, ts 11 _ rfl, ts 12 _ rfl, ts 13 _ rfl, ts 14 _ rfl⟩
  clear ts own7
  go_step3
  go_wp2_with (fail)
  refine wp_loop_rounds 2 ?_
  rw [rounds_succ]
  have g7_c0 := g7.cell 0; have g7_c7 := g7.cell 7; have g7_f0 := g7.frozen 0; have g7_f7 := g7.frozen 7; simp at g7_c0 g7_c7
  have hc1 : ¬ cap0 = 1 := by omega
  have d0 := fun o => cell_alloc g7_c0 o
  have f0' := fun o => (g7.alloc o).frozen 0
  have e0 := t0.c0
  have e1 := t0.c1
  have e2 := t0.c2
  have e3 := t0.c3
  have e4 := t0.c4
  go_wp2_with (at_lookup; refine wpList_lookup_str _ rfl _ _ 197 rfl _ _ Tryd.underlying9 Tryd.underlying197 (G + 1 + 1 + 1) _ _ (by exact mbw7.alloc _) (by rfl) _ 0 _ (by rfl) (by rfl) ?_)
  generalize hW : World.setCell _ _ _ = W8
  have g8 : RdB W8 (G + 1 + 1) (.slice (some ⟨b0, 5, none⟩) 2 (cap0 - 1)) _ _ _ _ _ _ _ _ := hW ▸ (g7.alloc _).st
  have t18 := ((t1.alloc _).fr (hp := by simp; omega)).eqw hW
  have t28 := ((t2.alloc _).fr (hp := by simp; omega)).eqw hW
  have r8 : Blk W8 B 95 _ := hW ▸ (r7.alloc _).fr
  have s8 : Blk W8 (B + 1) 132 _ := hW ▸ (s7.alloc _).fr
  have k8 : Keeps (fun _ => False) w W8 := hW ▸ (k7.alloc _).st
  clear hW g7 t0 t1 t2 r7 s7 k7 mbw7 p7 g7_c0 g7_c7 g7_f0 g7_f7 d0 f0' e0 e1 e2 e3 e4
  refine (secret_first _ _ _ _ _ _ _ _ _ _ _ _ _ _ _ _ _ _ _ g8 (by omega) (by omega) t18 t28).mono ?_
  rintro e w9 ⟨rfl, P, c', b, cap, g9, own9, k9⟩
  have r9 := r8.keeps k9 (by omega)
  have s9 := s8.keeps k9 (by omega)
  have hB8 : G + 1 + 1 < W8.heap.size := g8.lt
  have kk9 : Keeps (fun _ => False) w w9 := k8.trans k9 (fun x hx h => by omega)
  clear g8 t18 t28 r8 s8 k8 k9
  have g9_c0 := g9.cell 0; have g9_c1 := g9.cell 1; have g9_c2 := g9.cell 2; have g9_c3 := g9.cell 3; have g9_c4 := g9.cell 4; have g9_c7 := g9.cell 7; simp at g9_c0 g9_c1 g9_c2 g9_c3 g9_c4 g9_c7
  go_wp2_with (fail)
  rw [rounds_succ]
  have r9_c0 := r9.cell 0; have r9_c1 := r9.cell 1; have r9_c2 := r9.cell 2; have r9_c3 := r9.cell 3; simp at r9_c0 r9_c1 r9_c2 r9_c3
  have s9_c0 := s9.cell 0; have s9_c1 := s9.cell 1; have s9_f0 := s9.frozen 0; have s9_f1 := s9.frozen 1; simp at s9_c0 s9_c1
  go_wp2_with (fail)
  refine (Sorted_one _ _ _ _ _ _ own9).mono ?_
  rintro e wa ⟨b', cap', rfl, owna, bela⟩
  have ra := r9.later bela
  have sa := s9.later bela
  have ka := kk9.trans (Keeps.of_below bela (S := fun _ => False)) (fun _ _ h => h)
  have hs9 : B + 1 < w9.heap.size := s9.lt
  clear g9 r9 s9 kk9 own9 bela g9_c0 g9_c1 g9_c2 g9_c3 g9_c4 g9_c7 r9_c0 r9_c1 r9_c2 r9_c3 s9_c0 s9_c1 s9_f0 s9_f1
  have ra_c0 := ra.cell 0; have ra_c1 := ra.cell 1; have ra_c2 := ra.cell 2; have ra_c3 := ra.cell 3; have ra_f0 := ra.frozen 0; have ra_f1 := ra.frozen 1; have ra_f2 := ra.frozen 2; have ra_f3 := ra.frozen 3; simp at ra_c0 ra_c1 ra_c2 ra_c3
  have sa_c0 := sa.cell 0; have sa_c1 := sa.cell 1; have sa_f0 := sa.frozen 0; have sa_f1 := sa.frozen 1; simp at sa_c0 sa_c1
  go_wp2_with (fail)
  generalize hX : World.setCell _ _ _ = X
  have rx : Blk X B 95 #[.slice (some ⟨b', 0, none⟩) 1 cap', .slice none 0 0, .int .i64 0, .int .i64 1024] := by rw [← hX]; exact ra.st.st.st.st.fr.fr
  have sx : Blk X (B + 1) 132 #[.int .i64 0, .int .i64 0] := by rw [← hX]; exact sa.fr.fr.fr.fr.st.st
  have hin : ∀ q : Nat, B ≤ q → ((fun _ => False : Nat → Prop) q ∨ w.heap.size ≤ q) := fun q hq => .inr (by omega)
  have kx : Keeps (fun _ => False) w X := by rw [← hX]; exact (((((ka.setCell (hin _ (by simp)) _).setCell (hin _ (by simp)) _).setCell (hin _ (by simp)) _).setCell (hin _ (by simp)) _).setCell (hin _ (by simp)) _).setCell (hin _ (by simp)) _
  have ox : X.ownsRow w.heap.size 111 3 (.slice (some ⟨b', 0, none⟩) 1 cap') 1 span0 := by
    rw [← hX]
    refine Keeps.own (S := fun k => k = B ∨ k = B + 1) ?_ (own_base owna (by omega)) (fun x hx h => by have := (owna.lt x hx).1; omega)
    exact ((((((Keeps.refl _ _).setCell (.inl (.inl rfl)) _).setCell (.inl (.inl rfl)) _).setCell (.inl (.inl rfl)) _).setCell (.inl (.inl rfl)) _).setCell (.inl (.inr rfl)) _).setCell (.inl (.inr rfl)) _
  clear hX ra sa
  have rx_c0 := rx.cell 0; have rx_c1 := rx.cell 1; have rx_c2 := rx.cell 2; have rx_c3 := rx.cell 3; simp at rx_c0 rx_c1 rx_c2 rx_c3
  have sx_c0 := sx.cell 0; have sx_c1 := sx.cell 1; simp at sx_c0 sx_c1
  refine noGoto_ret' ?_
  refine bodyPost_ret (v := .tuple #[.agg #[.slice (some ⟨b', 0, none⟩) 1 cap', .slice none 0 0, .int .i64 0, .int .i64 1024], .agg #[.int .i64 0, .int .i64 0], .int .i64 0]) (by simp [results, Tryd.results66, go_sem, rx_c0, rx_c1, rx_c2, rx_c3, sx_c0, sx_c1]) rfl ⟨b', cap', rfl, ox, kx.below (Nat.le_refl _) (fun _ _ h => h)⟩
end Go.Proofs.YtbjhkgmojmggjaaDoor
