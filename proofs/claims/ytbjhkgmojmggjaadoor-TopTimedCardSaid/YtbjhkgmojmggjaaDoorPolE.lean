/- A policy of one secret span, sorted. No condition beyond what it states. -/
import Derived.Test.YtbjhkgmojmggjaaDoorPolD
import Derived.Test.YtbjhkgmojmggjaaDoorRegion
namespace Go.Proofs.YtbjhkgmojmggjaaDoor
set_option linter.unusedSimpArgs false
set_option linter.unusedVariables false
set_option linter.unnecessarySimpa false
set_option linter.unusedSectionVars false
open Go.RowKit
attribute [local go_sem ↓] Go.wp_at_zero Go.wp_at_succ

set_option maxRecDepth 100000 in
set_option maxHeartbeats 2000000 in
theorem Sorted_one (b cap B : Nat) (dec trc : Int) (w : World) (hown : w.ownsRow B 111 3 (.slice (some ⟨b, 0, none⟩) 1 cap) 1 span0) :
    Calls Tryd.prog 98 #[.agg #[.slice (some ⟨b, 0, none⟩) 1 cap, .slice none 0 0, .int .i64 dec, .int .i64 trc]] w fun e w' =>
      ∃ b' cap', e = .returned (.agg #[.slice (some ⟨b', 0, none⟩) 1 cap', .slice none 0 0, .int .i64 dec, .int .i64 trc]) ∧
        w'.ownsRow w.heap.size 111 3 (.slice (some ⟨b', 0, none⟩) 1 cap') 1 span0 ∧ Below w.heap.size w w' := by
  go_enter Tryd.func98, Tryd.ntmps98
  go_wp2_with (fail)
  generalize hW : World.alloc _ _ = W
  have p1 : Blk W w.heap.size 95 #[.slice (some ⟨b, 0, none⟩) 1 cap, .slice none 0 0, .int .i64 dec, .int .i64 trc] := by rw [← hW]; exact (Blk.new w _ _).alloc _
  have q1 : Blk W (w.heap.size + 1) 95 #[.slice none 0 0, .slice none 0 0, .int .i64 0, .int .i64 0] := by rw [← hW]; exact (Blk.new (w.alloc _) _ _).at_ (by simp)
  have k1 : Keeps (fun _ => False) w W := by rw [← hW]; exact ((Keeps.refl _ _).alloc _).alloc _
  have hown1 := k1.own hown (fun _ _ h => h)
  clear hW
  have p1_c0 := p1.cell 0; have p1_c1 := p1.cell 1; have p1_f0 := p1.frozen 0; have p1_f1 := p1.frozen 1; simp at p1_c0 p1_c1
  refine wp_region_N (fun w' => w'.cell? ⟨w.heap.size, 1, none⟩ = some (.slice none 0 0)) 6 (by kernel_rfl) ?_
  have hS : W.drew.cell? ⟨w.heap.size, 1, none⟩ = some (.slice none 0 0) := p1_c1
  refine wpAnyN_take (i := 0) (v := ?_) rfl (by kernel_rfl) (by kernel_rfl) (by kernel_rfl) (by kernel_rfl) (fun _ _ _ h => h) (Or.inl ⟨by rfl, ?_⟩) hS ?_
  rotate_left
  · rintro w h1
    go_simp
    try with_reducible rfl
  simp only [Act.put, List.setIfInBounds_toArray, List.set_cons_zero, List.set_cons_succ]
  refine wpAnyN_take (i := 3) (v := ?_) rfl (by kernel_rfl) (by kernel_rfl) (by kernel_rfl) (by kernel_rfl) (fun _ _ _ h => h) (Or.inl ⟨by rfl, ?_⟩) hS ?_
  rotate_left
  · rintro w h1
    go_simp
    try with_reducible rfl
  simp only [Act.put, List.setIfInBounds_toArray, List.set_cons_zero, List.set_cons_succ]
  refine wpAnyN_take (i := 4) (v := ?_) rfl (by kernel_rfl) (by kernel_rfl) (by kernel_rfl) (by kernel_rfl) (fun _ _ _ h => h) (Or.inl ⟨by rfl, ?_⟩) hS ?_
  rotate_left
  · rintro w h1
    go_simp
    try with_reducible rfl
  simp only [Act.put, List.setIfInBounds_toArray, List.set_cons_zero, List.set_cons_succ]
  refine wpAnyN_one (i := 1) rfl (by kernel_rfl) (fun K hK => ?_)
  go_simp
  refine hK.out _ _ (fun _ => p1_c1) (fun hS' => ?_)
  clear hK K
  replace hS := hS' (by omega)
  clear hS'
  try simp only [Act.put, List.setIfInBounds_toArray, List.set_cons_zero, List.set_cons_succ]
  refine wpAnyN_one (i := 2) rfl (by kernel_rfl) (fun K hK => ?_)
  go_simp
  refine (sorted_one _ _ _ _ (own_drew hown1)).mono ?_
  rintro e w2 ⟨b', cap', rfl, own2, bel2⟩
  have p2 := p1.drew.later bel2
  have q2 := q1.drew.later bel2
  have k2 := k1.drew.trans (Keeps.of_below bel2 (S := fun _ => False)) (fun _ _ h => h)
  have p2_c0 := p2.cell 0; have p2_c1 := p2.cell 1; have p2_f0 := p2.frozen 0; have p2_f1 := p2.frozen 1; simp at p2_c0 p2_c1
  refine hK.out _ _ (fun _ => p2_c1) (fun hS' => ?_)
  clear hK K
  replace hS := hS' (by omega)
  clear hS'
  try simp only [Act.put, List.setIfInBounds_toArray, List.set_cons_zero, List.set_cons_succ]
  refine wpAnyN_two (i := 5) (k := 6) rfl rfl (by kernel_rfl) (fun K hK => ?_) (fun K hK => ?_)
  · go_simp
    refine (sorted_nil _).mono ?_
    rintro e w3 ⟨rfl, rfl⟩
    refine hK.out _ _ (fun _ => p2_c1) (fun hS' => ?_)
    clear hK K
    replace hS := hS' (by omega)
    clear hS'
    try simp only [Act.put, List.setIfInBounds_toArray, List.set_cons_zero, List.set_cons_succ]
    refine wpAnyN_one (i := 6) rfl (by kernel_rfl) (fun K hK => ?_)
    go_simp
    refine hK.out _ _ (fun h => absurd h (by omega)) (fun _ => ?_)
    clear hK K
    try simp only [Act.put, List.setIfInBounds_toArray, List.set_cons_zero, List.set_cons_succ]
    refine wpAnyN_one (i := 7) rfl (by kernel_rfl) (fun K hK => ?_)
    go_simp
    refine hK.out _ _ (fun h => absurd h (by omega)) (fun _ => ?_)
    clear hK K
    try simp only [Act.put, List.setIfInBounds_toArray, List.set_cons_zero, List.set_cons_succ]
    refine wpAnyN_one (i := 8) rfl (by kernel_rfl) (fun K hK => ?_)
    go_simp
    refine hK.out _ _ (fun h => absurd h (by omega)) (fun _ => ?_)
    clear hK K
    try simp only [Act.put, List.setIfInBounds_toArray, List.set_cons_zero, List.set_cons_succ]
    refine wpAnyN_one (i := 9) rfl (by kernel_rfl) (fun K hK => ?_)
    go_simp
    refine hK.out _ _ (fun h => absurd h (by omega)) (fun _ => ?_)
    clear hK K
    try simp only [Act.put, List.setIfInBounds_toArray, List.set_cons_zero, List.set_cons_succ]
    refine wpAnyN_done (by kernel_rfl) ?_ _
    have p4 : Blk _ w.heap.size 95 #[.slice (some ⟨b', 0, none⟩) 1 cap', .slice none 0 0, .int .i64 dec, .int .i64 trc] := (p2.set_ 0 (.slice (some ⟨b', 0, none⟩) 1 cap')).set_ 1 (.slice none 0 0)
    have q4 := (q2.far (p := ⟨w.heap.size, 0, none⟩) (by simp) (.slice (some ⟨b', 0, none⟩) 1 cap')).far (p := ⟨w.heap.size, 1, none⟩) (by simp) (.slice none 0 0)
    have k4 := (k2.setCell (p := ⟨w.heap.size, 0, none⟩) (.inr (Nat.le_refl _)) (.slice (some ⟨b', 0, none⟩) 1 cap')).setCell (p := ⟨w.heap.size, 1, none⟩) (.inr (Nat.le_refl _)) (.slice none 0 0)
    have own4 := (((Keeps.refl (fun k => k = w.heap.size) _).setCell (p := ⟨w.heap.size, 0, none⟩) (.inl rfl) (.slice (some ⟨b', 0, none⟩) 1 cap')).setCell (p := ⟨w.heap.size, 1, none⟩) (.inl rfl) (.slice none 0 0)).own (own_base own2 (Nat.le_of_lt p1.lt)) (fun x hx h => by have := (own2.lt x hx).1; simp at this; have := p1.lt; omega)
    generalize hX : World.setCell (World.setCell _ _ _) _ _ = X at *
    have p4_c0 := p4.cell 0; have p4_c1 := p4.cell 1; have p4_c2 := p4.cell 2; have p4_c3 := p4.cell 3; simp at p4_c0 p4_c1 p4_c2 p4_c3
    have q4_c0 := q4.cell 0; have q4_c1 := q4.cell 1; have q4_c2 := q4.cell 2; have q4_c3 := q4.cell 3; have q4_f0 := q4.frozen 0; have q4_f1 := q4.frozen 1; have q4_f2 := q4.frozen 2; have q4_f3 := q4.frozen 3; simp at q4_c0 q4_c1 q4_c2 q4_c3
    go_wp2_with (fail)
    have q5 : Blk _ (w.heap.size + 1) 95 #[.slice (some ⟨b', 0, none⟩) 1 cap', .slice none 0 0, .int .i64 dec, .int .i64 trc] := (((q4.set_ 0 (.slice (some ⟨b', 0, none⟩) 1 cap')).set_ 1 (.slice none 0 0)).set_ 2 (.int .i64 dec)).set_ 3 (.int .i64 trc)
    have k5 := (((k4.setCell (p := ⟨w.heap.size + 1, 0, none⟩) (.inr (by simp)) (.slice (some ⟨b', 0, none⟩) 1 cap')).setCell (p := ⟨w.heap.size + 1, 1, none⟩) (.inr (by simp)) (.slice none 0 0)).setCell (p := ⟨w.heap.size + 1, 2, none⟩) (.inr (by simp)) (.int .i64 dec)).setCell (p := ⟨w.heap.size + 1, 3, none⟩) (.inr (by simp)) (.int .i64 trc)
    have own5 := (((((Keeps.refl (fun k => k = w.heap.size + 1) _).setCell (p := ⟨w.heap.size + 1, 0, none⟩) (.inl rfl) (.slice (some ⟨b', 0, none⟩) 1 cap')).setCell (p := ⟨w.heap.size + 1, 1, none⟩) (.inl rfl) (.slice none 0 0)).setCell (p := ⟨w.heap.size + 1, 2, none⟩) (.inl rfl) (.int .i64 dec)).setCell (p := ⟨w.heap.size + 1, 3, none⟩) (.inl rfl) (.int .i64 trc)).own own4 (fun x hx h => by have := (own2.lt x hx).1; simp at this; have := q1.lt; omega)
    have q5_c0 := q5.cell 0; have q5_c1 := q5.cell 1; have q5_c2 := q5.cell 2; have q5_c3 := q5.cell 3; simp at q5_c0 q5_c1 q5_c2 q5_c3
    refine bodyPost_ret (v := .agg #[.slice (some ⟨b', 0, none⟩) 1 cap', .slice none 0 0, .int .i64 dec, .int .i64 trc]) (by simp [results, Tryd.results98, go_sem, q5_c0, q5_c1, q5_c2, q5_c3]) rfl ⟨b', cap', rfl, own5, k5.below (Nat.le_refl _) (fun _ _ h => h)⟩
  · go_simp
    refine hK.out _ _ (fun h => absurd h (by omega)) (fun _ => ?_)
    clear hK K
    try simp only [Act.put, List.setIfInBounds_toArray, List.set_cons_zero, List.set_cons_succ]
    refine wpAnyN_one (i := 5) rfl (by kernel_rfl) (fun K hK => ?_)
    go_simp
    refine (sorted_nil _).mono ?_
    rintro e w3 ⟨rfl, rfl⟩
    refine hK.out _ _ (fun _ => p2_c1) (fun hS' => ?_)
    clear hK K
    replace hS := hS' (by omega)
    clear hS'
    try simp only [Act.put, List.setIfInBounds_toArray, List.set_cons_zero, List.set_cons_succ]
    refine wpAnyN_one (i := 7) rfl (by kernel_rfl) (fun K hK => ?_)
    go_simp
    refine hK.out _ _ (fun h => absurd h (by omega)) (fun _ => ?_)
    clear hK K
    try simp only [Act.put, List.setIfInBounds_toArray, List.set_cons_zero, List.set_cons_succ]
    refine wpAnyN_one (i := 8) rfl (by kernel_rfl) (fun K hK => ?_)
    go_simp
    refine hK.out _ _ (fun h => absurd h (by omega)) (fun _ => ?_)
    clear hK K
    try simp only [Act.put, List.setIfInBounds_toArray, List.set_cons_zero, List.set_cons_succ]
    refine wpAnyN_one (i := 9) rfl (by kernel_rfl) (fun K hK => ?_)
    go_simp
    refine hK.out _ _ (fun h => absurd h (by omega)) (fun _ => ?_)
    clear hK K
    try simp only [Act.put, List.setIfInBounds_toArray, List.set_cons_zero, List.set_cons_succ]
    refine wpAnyN_done (by kernel_rfl) ?_ _
    have p4 : Blk _ w.heap.size 95 #[.slice (some ⟨b', 0, none⟩) 1 cap', .slice none 0 0, .int .i64 dec, .int .i64 trc] := (p2.set_ 0 (.slice (some ⟨b', 0, none⟩) 1 cap')).set_ 1 (.slice none 0 0)
    have q4 := (q2.far (p := ⟨w.heap.size, 0, none⟩) (by simp) (.slice (some ⟨b', 0, none⟩) 1 cap')).far (p := ⟨w.heap.size, 1, none⟩) (by simp) (.slice none 0 0)
    have k4 := (k2.setCell (p := ⟨w.heap.size, 0, none⟩) (.inr (Nat.le_refl _)) (.slice (some ⟨b', 0, none⟩) 1 cap')).setCell (p := ⟨w.heap.size, 1, none⟩) (.inr (Nat.le_refl _)) (.slice none 0 0)
    have own4 := (((Keeps.refl (fun k => k = w.heap.size) _).setCell (p := ⟨w.heap.size, 0, none⟩) (.inl rfl) (.slice (some ⟨b', 0, none⟩) 1 cap')).setCell (p := ⟨w.heap.size, 1, none⟩) (.inl rfl) (.slice none 0 0)).own (own_base own2 (Nat.le_of_lt p1.lt)) (fun x hx h => by have := (own2.lt x hx).1; simp at this; have := p1.lt; omega)
    generalize hX : World.setCell (World.setCell _ _ _) _ _ = X at *
    have p4_c0 := p4.cell 0; have p4_c1 := p4.cell 1; have p4_c2 := p4.cell 2; have p4_c3 := p4.cell 3; simp at p4_c0 p4_c1 p4_c2 p4_c3
    have q4_c0 := q4.cell 0; have q4_c1 := q4.cell 1; have q4_c2 := q4.cell 2; have q4_c3 := q4.cell 3; have q4_f0 := q4.frozen 0; have q4_f1 := q4.frozen 1; have q4_f2 := q4.frozen 2; have q4_f3 := q4.frozen 3; simp at q4_c0 q4_c1 q4_c2 q4_c3
    go_wp2_with (fail)
    have q5 : Blk _ (w.heap.size + 1) 95 #[.slice (some ⟨b', 0, none⟩) 1 cap', .slice none 0 0, .int .i64 dec, .int .i64 trc] := (((q4.set_ 0 (.slice (some ⟨b', 0, none⟩) 1 cap')).set_ 1 (.slice none 0 0)).set_ 2 (.int .i64 dec)).set_ 3 (.int .i64 trc)
    have k5 := (((k4.setCell (p := ⟨w.heap.size + 1, 0, none⟩) (.inr (by simp)) (.slice (some ⟨b', 0, none⟩) 1 cap')).setCell (p := ⟨w.heap.size + 1, 1, none⟩) (.inr (by simp)) (.slice none 0 0)).setCell (p := ⟨w.heap.size + 1, 2, none⟩) (.inr (by simp)) (.int .i64 dec)).setCell (p := ⟨w.heap.size + 1, 3, none⟩) (.inr (by simp)) (.int .i64 trc)
    have own5 := (((((Keeps.refl (fun k => k = w.heap.size + 1) _).setCell (p := ⟨w.heap.size + 1, 0, none⟩) (.inl rfl) (.slice (some ⟨b', 0, none⟩) 1 cap')).setCell (p := ⟨w.heap.size + 1, 1, none⟩) (.inl rfl) (.slice none 0 0)).setCell (p := ⟨w.heap.size + 1, 2, none⟩) (.inl rfl) (.int .i64 dec)).setCell (p := ⟨w.heap.size + 1, 3, none⟩) (.inl rfl) (.int .i64 trc)).own own4 (fun x hx h => by have := (own2.lt x hx).1; simp at this; have := q1.lt; omega)
    have q5_c0 := q5.cell 0; have q5_c1 := q5.cell 1; have q5_c2 := q5.cell 2; have q5_c3 := q5.cell 3; simp at q5_c0 q5_c1 q5_c2 q5_c3
    refine bodyPost_ret (v := .agg #[.slice (some ⟨b', 0, none⟩) 1 cap', .slice none 0 0, .int .i64 dec, .int .i64 trc]) (by simp [results, Tryd.results98, go_sem, q5_c0, q5_c1, q5_c2, q5_c3]) rfl ⟨b', cap', rfl, own5, k5.below (Nat.le_refl _) (fun _ _ h => h)⟩
end Go.Proofs.YtbjhkgmojmggjaaDoor
