/- policy.Check at one secret span. No condition beyond what it states. -/
import Derived.Test.YtbjhkgmojmggjaaDoorPolF
import Derived.Test.YtbjhkgmojmggjaaDoorRegionP
namespace Go.Proofs.YtbjhkgmojmggjaaDoor
set_option linter.unusedSimpArgs false
set_option linter.unusedVariables false
set_option linter.unnecessarySimpa false
set_option linter.unusedSectionVars false
open Go.RowKit
attribute [local go_sem ↓] Go.wp_at_zero Go.wp_at_succ

set_option maxRecDepth 100000 in
theorem swap_any (g : Nat) (pa pb : Option Addr) (la ca lb cb : Nat) (w : World) (hb : Blk w g 217 #[.slice pa la ca, .slice pb lb cb]) :
    Calls Tryd.prog 123 #[.pointer (some ⟨g, 0, none⟩)] w fun e w' =>
      e = .returned (.tuple #[]) ∧ Blk w' g 217 #[.slice pb lb cb, .slice pa la ca] ∧ Keeps (fun k => k = g) w w' := by
  have hb_c0 := hb.cell 0; have hb_c1 := hb.cell 1; have hb_f0 := hb.frozen 0; have hb_f1 := hb.frozen 1; simp at hb_c0 hb_c1
  go_enter Tryd.func123, Tryd.ntmps123
  refine wp_region_P (fun w' => w'.cell? ⟨g, 0, none⟩ = some (.slice pa la ca) ∧ w'.cell? ⟨g, 1, none⟩ = some (.slice pb lb cb)) [5, 9] (by kernel_rfl) ?_
  have hS : w.drew.cell? ⟨g, 0, none⟩ = some (.slice pa la ca) ∧ w.drew.cell? ⟨g, 1, none⟩ = some (.slice pb lb cb) := ⟨hb_c0, hb_c1⟩
  refine wpAnyP_free (i := 0) (v := ?_) rfl (by kernel_rfl) (by kernel_rfl) (by kernel_rfl) (by kernel_rfl) (fun _ _ _ h => h) (Or.inl ⟨by rfl, ?_⟩) ?_
  rotate_left
  · rintro w _
    go_simp
    try with_reducible rfl
  simp only [Act.put, List.getElem_toArray, List.getElem_cons_succ, List.getElem_cons_zero, List.setIfInBounds_toArray, List.set_cons_zero, List.set_cons_succ]
  refine wpAnyP_free (i := 1) (v := ?_) rfl (by kernel_rfl) (by kernel_rfl) (by kernel_rfl) (by kernel_rfl) (fun _ _ _ h => h) (Or.inl ⟨by rfl, ?_⟩) ?_
  rotate_left
  · rintro w _
    go_simp
    try with_reducible rfl
  simp only [Act.put, List.getElem_toArray, List.getElem_cons_succ, List.getElem_cons_zero, List.setIfInBounds_toArray, List.set_cons_zero, List.set_cons_succ]
  refine wpAnyP_free (i := 2) (v := ?_) rfl (by kernel_rfl) (by kernel_rfl) (by kernel_rfl) (by kernel_rfl) (fun _ _ _ h => h) (Or.inl ⟨by rfl, ?_⟩) ?_
  rotate_left
  · rintro w _
    go_simp
    try with_reducible rfl
  simp only [Act.put, List.getElem_toArray, List.getElem_cons_succ, List.getElem_cons_zero, List.setIfInBounds_toArray, List.set_cons_zero, List.set_cons_succ]
  refine wpAnyP_free (i := 3) (v := ?_) rfl (by kernel_rfl) (by kernel_rfl) (by kernel_rfl) (by kernel_rfl) (fun _ _ _ h => h) (Or.inl ⟨by rfl, ?_⟩) ?_
  rotate_left
  · rintro w _
    go_simp
    try with_reducible rfl
  simp only [Act.put, List.getElem_toArray, List.getElem_cons_succ, List.getElem_cons_zero, List.setIfInBounds_toArray, List.set_cons_zero, List.set_cons_succ]
  refine wpAnyP_free (i := 4) (v := ?_) rfl (by kernel_rfl) (by kernel_rfl) (by kernel_rfl) (by kernel_rfl) (fun _ _ _ h => h) (Or.inl ⟨by rfl, ?_⟩) ?_
  rotate_left
  · rintro w _
    go_simp
    try with_reducible rfl
  simp only [Act.put, List.getElem_toArray, List.getElem_cons_succ, List.getElem_cons_zero, List.setIfInBounds_toArray, List.set_cons_zero, List.set_cons_succ]
  refine wpAnyP_free (i := 6) (v := ?_) rfl (by kernel_rfl) (by kernel_rfl) (by kernel_rfl) (by kernel_rfl) (fun _ _ _ h => h) (Or.inl ⟨by rfl, ?_⟩) ?_
  rotate_left
  · rintro w _
    go_simp
    try with_reducible rfl
  simp only [Act.put, List.getElem_toArray, List.getElem_cons_succ, List.getElem_cons_zero, List.setIfInBounds_toArray, List.set_cons_zero, List.set_cons_succ]
  refine wpAnyP_free (i := 7) (v := ?_) rfl (by kernel_rfl) (by kernel_rfl) (by kernel_rfl) (by kernel_rfl) (fun _ _ _ h => h) (Or.inl ⟨by rfl, ?_⟩) ?_
  rotate_left
  · rintro w _
    go_simp
    try with_reducible rfl
  simp only [Act.put, List.getElem_toArray, List.getElem_cons_succ, List.getElem_cons_zero, List.setIfInBounds_toArray, List.set_cons_zero, List.set_cons_succ]
  refine wpAnyP_free (i := 8) (v := ?_) rfl (by kernel_rfl) (by kernel_rfl) (by kernel_rfl) (by kernel_rfl) (fun _ _ _ h => h) (Or.inl ⟨by rfl, ?_⟩) ?_
  rotate_left
  · rintro w _
    go_simp
    try with_reducible rfl
  simp only [Act.put, List.getElem_toArray, List.getElem_cons_succ, List.getElem_cons_zero, List.setIfInBounds_toArray, List.set_cons_zero, List.set_cons_succ]
  refine wpAnyP_take (i := 5) (v := ?_) rfl (by kernel_rfl) (by kernel_rfl) (by kernel_rfl) (by kernel_rfl) (fun _ _ _ h => h) (Or.inl ⟨by rfl, ?_⟩) hS ?_
  rotate_left
  · rintro w ⟨h1, h2⟩
    go_simp
    try with_reducible rfl
  simp only [Act.put, List.getElem_toArray, List.getElem_cons_succ, List.getElem_cons_zero, List.setIfInBounds_toArray, List.set_cons_zero, List.set_cons_succ]
  refine wpAnyP_take (i := 9) (v := ?_) rfl (by kernel_rfl) (by kernel_rfl) (by kernel_rfl) (by kernel_rfl) (fun _ _ _ h => h) (Or.inl ⟨by rfl, ?_⟩) hS ?_
  rotate_left
  · rintro w ⟨h1, h2⟩
    go_simp
    try with_reducible rfl
  simp only [Act.put, List.getElem_toArray, List.getElem_cons_succ, List.getElem_cons_zero, List.setIfInBounds_toArray, List.set_cons_zero, List.set_cons_succ]
  refine wpAnyP_one (i := 10) rfl (by kernel_rfl) (fun K hK => ?_)
  go_simp
  refine hK.out _ _ (fun h => absurd h (by decide)) (fun _ => ?_)
  clear hK K
  try simp only [Act.put, List.setIfInBounds_toArray, List.set_cons_zero, List.set_cons_succ]
  refine wpAnyP_one (i := 11) rfl (by kernel_rfl) (fun K hK => ?_)
  go_simp
  refine hK.out _ _ (fun h => absurd h (by decide)) (fun _ => ?_)
  clear hK K
  try simp only [Act.put, List.setIfInBounds_toArray, List.set_cons_zero, List.set_cons_succ]
  refine wpAnyP_one (i := 12) rfl (by kernel_rfl) (fun K hK => ?_)
  go_simp
  refine hK.out _ _ (fun h => absurd h (by decide)) (fun _ => ?_)
  clear hK K
  try simp only [Act.put, List.setIfInBounds_toArray, List.set_cons_zero, List.set_cons_succ]
  refine wpAnyP_one (i := 13) rfl (by kernel_rfl) (fun K hK => ?_)
  go_simp
  refine hK.out _ _ (fun h => absurd h (by decide)) (fun _ => ?_)
  clear hK K
  try simp only [Act.put, List.setIfInBounds_toArray, List.set_cons_zero, List.set_cons_succ]
  refine wpAnyP_one (i := 14) rfl (by kernel_rfl) (fun K hK => ?_)
  go_simp
  refine hK.out _ _ (fun h => absurd h (by decide)) (fun _ => ?_)
  clear hK K
  try simp only [Act.put, List.setIfInBounds_toArray, List.set_cons_zero, List.set_cons_succ]
  refine wpAnyP_one (i := 15) rfl (by kernel_rfl) (fun K hK => ?_)
  go_simp
  refine hK.out _ _ (fun h => absurd h (by decide)) (fun _ => ?_)
  clear hK K
  try simp only [Act.put, List.setIfInBounds_toArray, List.set_cons_zero, List.set_cons_succ]
  refine wpAnyP_done (by kernel_rfl) ?_ _
  go_end0
  refine ⟨rfl, ?_, ?_⟩
  · exact (hb.drew.set_ 0 (.slice pb lb cb)).set_ 1 (.slice pa la ca)
  · exact (((Keeps.refl (fun k => k = g) w).setCell (p := ⟨g, 0, none⟩) (.inl rfl) _).setCell (p := ⟨g, 1, none⟩) (.inl rfl) _).drew

set_option maxRecDepth 100000 in
set_option maxHeartbeats 2000000 in
theorem Check_one (b cap B : Nat) (w : World) (hown : w.ownsRow B 111 3 (.slice (some ⟨b, 0, none⟩) 1 cap) 1 span0) :
    Calls Tryd.prog 97 #[.agg #[.slice (some ⟨b, 0, none⟩) 1 cap, .slice none 0 0, .int .i64 0, .int .i64 1024]] w fun e w' =>
      e = .returned (.int .i64 0) ∧ Below w.heap.size w w' := by
  go_enter Tryd.func97, Tryd.ntmps97
  go_wp2_with (fail)
  refine wp_scope_straight ?_
  have p1 := Blk.new w 95 #[.slice (some ⟨b, 0, none⟩) 1 cap, .slice none 0 0, .int .i64 0, .int .i64 1024]
  have k1 := (Keeps.refl (fun _ => False) w).alloc (.cells #[.slice (some ⟨b, 0, none⟩) 1 cap, .slice none 0 0, .int .i64 0, .int .i64 1024] 95)
  generalize hW : World.alloc _ _ = W at *
  clear hW
  have own1 := k1.own hown (fun _ _ h => h)
  clear hown
  generalize hB : w.heap.size = B0 at *
  go_wp2_with (fail)
  have k2 := k1.alloc (.cells #[.slice none 0 0, .slice none 0 0] 217)
  have p2 := p1.alloc (.cells #[.slice none 0 0, .slice none 0 0] 217)
  have t2 := Blk.new W 217 #[.slice none 0 0, .slice none 0 0]
  have own2 := own1.alloc (.cells #[.slice none 0 0, .slice none 0 0] 217)
  have hlt : B0 < W.heap.size := p1.lt
  generalize hW : World.alloc _ _ = W2 at *
  clear hW k1 own1 p1
  generalize hG : W.heap.size = G at *
  have p2_c0 := p2.cell 0; have p2_c1 := p2.cell 1; have p2_c2 := p2.cell 2; have p2_c3 := p2.cell 3; simp at p2_c0 p2_c1 p2_c2 p2_c3
  go_step3
  go_wp2_with (fail)
  have k3 := k2.alloc (.cells #[.slice (some ⟨b, 0, none⟩) 1 cap, .slice none 0 0] 93)
  have p3 := p2.alloc (.cells #[.slice (some ⟨b, 0, none⟩) 1 cap, .slice none 0 0] 93)
  have t3 := t2.alloc (.cells #[.slice (some ⟨b, 0, none⟩) 1 cap, .slice none 0 0] 93)
  have l3 := Blk.new W2 93 #[.slice (some ⟨b, 0, none⟩) 1 cap, .slice none 0 0]
  have own3 := own2.alloc (.cells #[.slice (some ⟨b, 0, none⟩) 1 cap, .slice none 0 0] 93)
  have hlt2 : G < W2.heap.size := t2.lt
  generalize hW : World.alloc _ _ = W3 at *
  clear hW k2 own2 p2 t2 p2_c0 p2_c1 p2_c2 p2_c3
  generalize hL : W2.heap.size = L at *
  have hlt3 : L < W3.heap.size := l3.lt
  have hbl := own3.lt b (by rfl)
  refine wp_loop_rounds 2 ?_
  rw [rounds_succ]
  have l3_c0 := l3.cell 0; have l3_c1 := l3.cell 1; simp at l3_c0 l3_c1
  go_wp2_with (fail)
  refine wp_loop_rounds 2 ?_
  rw [rounds_succ]
  have cs := World.ownsRow.cells own3 rfl
  have x0 : W3.cell? ⟨b, 0, none⟩ = _ := cs 0 _ rfl
  have x1 : W3.cell? ⟨b, 1, none⟩ = _ := cs 1 _ rfl
  have x2 : W3.cell? ⟨b, 2, none⟩ = _ := cs 2 _ rfl
  go_wp2_with (fail)
  refine (lies_16 _ _).mono ?_
  rintro e w4 ⟨rfl, bel4⟩
  have p4 := (p3.alloc _).later bel4
  have t4 := (t3.alloc _).later bel4
  have l4 := (l3.alloc _).later bel4
  have y4 := (Blk.new W3 111 #[.int .i64 16, .int .i64 16, .int .u8 255]).later bel4
  have k4 := (k3.alloc _).trans (Keeps.of_below bel4 (S := fun _ => False)) (fun _ _ h => h)
  clear p3 t3 l3 k3 bel4 own3 x0 x1 x2 cs l3_c0 l3_c1
  generalize hM : W3.heap.size = M at *
  have y4_c0 := y4.cell 0; have y4_c1 := y4.cell 1; have y4_c2 := y4.cell 2; simp at y4_c0 y4_c1 y4_c2
  go_wp2_with (fail)
  refine (add_first _ _ t4).mono ?_
  rintro e w5 ⟨rfl, b', cap', t5, own5, k5⟩
  have p5 := p4.keeps k5 (by omega)
  have l5 := l4.keeps k5 (by omega)
  have kk5 := k4.trans k5 (fun _ _ h => by omega)
  clear p4 t4 l4 y4 k4 k5 own5 y4_c0 y4_c1 y4_c2
  go_wp2_with (fail)
  rw [rounds_succ]
  go_wp2_with (fail)
  refine (swap_any _ _ _ _ _ _ _ _ t5).mono ?_
  rintro e w6 ⟨rfl, t6, k6⟩
  have p6 := p5.keeps k6 (by omega)
  have l6 := l5.keeps k6 (by omega)
  have kk6 := kk5.trans k6 (fun _ _ h => by omega)
  clear p5 t5 l5 kk5 k6
  go_wp2_with (fail)
  rw [rounds_succ]
  have l6_c0 := l6.cell 0; have l6_c1 := l6.cell 1; simp at l6_c0 l6_c1
  go_wp2_with (fail)
  refine wp_loop_rounds 1 ?_
  rw [rounds_succ]
  go_wp2_with (fail)
  refine (swap_any _ _ _ _ _ _ _ _ t6).mono ?_
  rintro e w7 ⟨rfl, t7, k7⟩
  have p7 := p6.keeps k7 (by omega)
  have kk7 := kk6.trans k7 (fun _ _ h => by omega)
  clear p6 t6 l6 kk6 k7 l6_c0 l6_c1
  have p7_c2 := p7.cell 2; have p7_c3 := p7.cell 3; simp at p7_c2 p7_c3
  go_wp2_with (fail)
  refine noGoto_ret' ?_
  go_ret
  refine ⟨rfl, ?_⟩
  exact kk7.below (by omega) (fun _ _ h => h)
end Go.Proofs.YtbjhkgmojmggjaaDoor
