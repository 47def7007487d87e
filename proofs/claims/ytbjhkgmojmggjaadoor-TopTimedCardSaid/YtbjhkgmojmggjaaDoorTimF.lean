/- madTime: what a register tells, on paper. No condition beyond what each states. -/
import Derived.Test.YtbjhkgmojmggjaaDoorTimE
namespace Go.Proofs.YtbjhkgmojmggjaaDoor
set_option linter.unusedSimpArgs false
set_option linter.unusedVariables false
set_option linter.unnecessarySimpa false
set_option linter.unusedSectionVars false
open Go.RowKit
attribute [local go_sem ↓] Go.wp_at_zero Go.wp_at_succ

set_option maxRecDepth 100000 in
set_option maxHeartbeats 2000000 in
theorem madTime_0 (t : Tm) (ht : t.Ok) (w : World) :
    Calls Tryd.prog 13 #[.agg t.cells, .int .i64 0] w fun e w' =>
      e = .returned (.int .u8 (t.read 0)) ∧ Below w.heap.size w w' := by
  obtain ⟨l, c, r, a, k, gg⟩ := t
  obtain ⟨l0, l1, c0, c1⟩ := ht
  simp only at l0 l1 c0 c1
  go_enter Tryd.func13, Tryd.ntmps13
  go_wp2_with (fail)
  have p1 := Blk.new w 25 (Tm.cells ⟨l, c, r, a, k, gg⟩)
  have k1 := (Keeps.refl (fun _ => False) w).alloc (.cells (Tm.cells ⟨l, c, r, a, k, gg⟩) 25)
  generalize hW : World.alloc _ _ = W at *
  clear hW
  generalize hB : w.heap.size = B at *
  have hr0 : 0 ≤ bi r ∧ bi r ≤ 1 := by cases r <;> decide
  have ha0 : 0 ≤ bi a ∧ bi a ≤ 1 := by cases a <;> decide
  have hk0 : 0 ≤ bi k ∧ bi k ≤ 1 := by cases k <;> decide
  have hg0 : 0 ≤ bi gg ∧ bi gg ≤ 1 := by cases gg <;> decide
  have hlt := p1.lt
  refine wp_region_P (fun w' => w'.cell? ⟨B, 1, none⟩ = some (.int .i64 c) ∧ w'.cell? ⟨B, 2, none⟩ = some (.bool r) ∧ w'.cell? ⟨B, 3, none⟩ = some (.bool a) ∧ w'.cell? ⟨B, 4, none⟩ = some (.bool k) ∧ w'.cell? ⟨B, 5, none⟩ = some (.bool gg)) [1, 4, 8, 11, 16, 22, 2, 5, 6, 9, 12, 13, 14, 17, 18, 19, 20, 23, 24, 25, 26, 28, 29, 30] (by kernel_rfl) ?_
  have hS : W.drew.cell? ⟨B, 1, none⟩ = some (.int .i64 c) ∧ W.drew.cell? ⟨B, 2, none⟩ = some (.bool r) ∧ W.drew.cell? ⟨B, 3, none⟩ = some (.bool a) ∧ W.drew.cell? ⟨B, 4, none⟩ = some (.bool k) ∧ W.drew.cell? ⟨B, 5, none⟩ = some (.bool gg) := ⟨p1.cell 1, p1.cell 2, p1.cell 3, p1.cell 4, p1.cell 5⟩
  refine wpAnyP_free (i := 0) (v := ?_) rfl (by kernel_rfl) (by kernel_rfl) (by kernel_rfl) (by kernel_rfl) (fun _ _ _ h => h) (Or.inl ⟨by rfl, ?_⟩) ?_
  rotate_left
  · rintro w _
    go_simp
    try with_reducible rfl
  simp only [Act.put, List.getElem_toArray, List.getElem_cons_succ, List.getElem_cons_zero, List.setIfInBounds_toArray, List.set_cons_zero, List.set_cons_succ]
  refine wpAnyP_free (i := 3) (v := ?_) rfl (by kernel_rfl) (by kernel_rfl) (by kernel_rfl) (by kernel_rfl) (fun _ _ _ h => h) (Or.inl ⟨by rfl, ?_⟩) ?_
  rotate_left
  · rintro w _
    go_simp
    try with_reducible rfl
  simp only [Act.put, List.getElem_toArray, List.getElem_cons_succ, List.getElem_cons_zero, List.setIfInBounds_toArray, List.set_cons_zero, List.set_cons_succ]
  refine wpAnyP_free (i := 7) (v := ?_) rfl (by kernel_rfl) (by kernel_rfl) (by kernel_rfl) (by kernel_rfl) (fun _ _ _ h => h) (Or.inl ⟨by rfl, ?_⟩) ?_
  rotate_left
  · rintro w _
    go_simp
    try with_reducible rfl
  simp only [Act.put, List.getElem_toArray, List.getElem_cons_succ, List.getElem_cons_zero, List.setIfInBounds_toArray, List.set_cons_zero, List.set_cons_succ]
  refine wpAnyP_free (i := 10) (v := ?_) rfl (by kernel_rfl) (by kernel_rfl) (by kernel_rfl) (by kernel_rfl) (fun _ _ _ h => h) (Or.inl ⟨by rfl, ?_⟩) ?_
  rotate_left
  · rintro w _
    go_simp
    try with_reducible rfl
  simp only [Act.put, List.getElem_toArray, List.getElem_cons_succ, List.getElem_cons_zero, List.setIfInBounds_toArray, List.set_cons_zero, List.set_cons_succ]
  refine wpAnyP_free (i := 15) (v := ?_) rfl (by kernel_rfl) (by kernel_rfl) (by kernel_rfl) (by kernel_rfl) (fun _ _ _ h => h) (Or.inl ⟨by rfl, ?_⟩) ?_
  rotate_left
  · rintro w _
    go_simp
    try with_reducible rfl
  simp only [Act.put, List.getElem_toArray, List.getElem_cons_succ, List.getElem_cons_zero, List.setIfInBounds_toArray, List.set_cons_zero, List.set_cons_succ]
  refine wpAnyP_free (i := 21) (v := ?_) rfl (by kernel_rfl) (by kernel_rfl) (by kernel_rfl) (by kernel_rfl) (fun _ _ _ h => h) (Or.inl ⟨by rfl, ?_⟩) ?_
  rotate_left
  · rintro w _
    go_simp
    try with_reducible rfl
  simp only [Act.put, List.getElem_toArray, List.getElem_cons_succ, List.getElem_cons_zero, List.setIfInBounds_toArray, List.set_cons_zero, List.set_cons_succ]
  refine wpAnyP_free (i := 27) (v := ?_) rfl (by kernel_rfl) (by kernel_rfl) (by kernel_rfl) (by kernel_rfl) (fun _ _ _ h => h) (Or.inl ⟨by rfl, ?_⟩) ?_
  rotate_left
  · rintro w _
    go_simp
    try with_reducible rfl
  simp only [Act.put, List.getElem_toArray, List.getElem_cons_succ, List.getElem_cons_zero, List.setIfInBounds_toArray, List.set_cons_zero, List.set_cons_succ]
  refine wpAnyP_take (i := 1) (v := ?_) rfl (by kernel_rfl) (by kernel_rfl) (by kernel_rfl) (by kernel_rfl) (fun _ _ _ h => h) (Or.inl ⟨by rfl, ?_⟩) hS ?_
  rotate_left
  · rintro w ⟨h1, h2, h3, h4, h5⟩
    go_simp
    try with_reducible rfl
  simp only [Act.put, List.getElem_toArray, List.getElem_cons_succ, List.getElem_cons_zero, List.setIfInBounds_toArray, List.set_cons_zero, List.set_cons_succ]
  refine wpAnyP_take (i := 4) (v := ?_) rfl (by kernel_rfl) (by kernel_rfl) (by kernel_rfl) (by kernel_rfl) (fun _ _ _ h => h) (Or.inl ⟨by rfl, ?_⟩) hS ?_
  rotate_left
  · rintro w ⟨h1, h2, h3, h4, h5⟩
    go_simp
    try with_reducible rfl
  simp only [Act.put, List.getElem_toArray, List.getElem_cons_succ, List.getElem_cons_zero, List.setIfInBounds_toArray, List.set_cons_zero, List.set_cons_succ]
  refine wpAnyP_take (i := 8) (v := ?_) rfl (by kernel_rfl) (by kernel_rfl) (by kernel_rfl) (by kernel_rfl) (fun _ _ _ h => h) (Or.inl ⟨by rfl, ?_⟩) hS ?_
  rotate_left
  · rintro w ⟨h1, h2, h3, h4, h5⟩
    go_simp
    try with_reducible rfl
  simp only [Act.put, List.getElem_toArray, List.getElem_cons_succ, List.getElem_cons_zero, List.setIfInBounds_toArray, List.set_cons_zero, List.set_cons_succ]
  refine wpAnyP_take (i := 11) (v := ?_) rfl (by kernel_rfl) (by kernel_rfl) (by kernel_rfl) (by kernel_rfl) (fun _ _ _ h => h) (Or.inl ⟨by rfl, ?_⟩) hS ?_
  rotate_left
  · rintro w ⟨h1, h2, h3, h4, h5⟩
    go_simp
    try with_reducible rfl
  simp only [Act.put, List.getElem_toArray, List.getElem_cons_succ, List.getElem_cons_zero, List.setIfInBounds_toArray, List.set_cons_zero, List.set_cons_succ]
  refine wpAnyP_take (i := 16) (v := ?_) rfl (by kernel_rfl) (by kernel_rfl) (by kernel_rfl) (by kernel_rfl) (fun _ _ _ h => h) (Or.inl ⟨by rfl, ?_⟩) hS ?_
  rotate_left
  · rintro w ⟨h1, h2, h3, h4, h5⟩
    go_simp
    try with_reducible rfl
  simp only [Act.put, List.getElem_toArray, List.getElem_cons_succ, List.getElem_cons_zero, List.setIfInBounds_toArray, List.set_cons_zero, List.set_cons_succ]
  refine wpAnyP_take (i := 22) (v := ?_) rfl (by kernel_rfl) (by kernel_rfl) (by kernel_rfl) (by kernel_rfl) (fun _ _ _ h => h) (Or.inl ⟨by rfl, ?_⟩) hS ?_
  rotate_left
  · rintro w ⟨h1, h2, h3, h4, h5⟩
    go_simp
    try with_reducible rfl
  simp only [Act.put, List.getElem_toArray, List.getElem_cons_succ, List.getElem_cons_zero, List.setIfInBounds_toArray, List.set_cons_zero, List.set_cons_succ]
  refine wpAnyP_take (i := 2) (v := ?_) rfl (by kernel_rfl) (by kernel_rfl) (by kernel_rfl) (by kernel_rfl) (fun _ _ _ h => h) (Or.inl ⟨by rfl, ?_⟩) hS ?_
  rotate_left
  · rintro w ⟨h1, h2, h3, h4, h5⟩
    go_simp
    try with_reducible rfl
  simp only [Act.put, List.getElem_toArray, List.getElem_cons_succ, List.getElem_cons_zero, List.setIfInBounds_toArray, List.set_cons_zero, List.set_cons_succ]
  refine wpAnyP_take (i := 5) (v := ?_) rfl (by kernel_rfl) (by kernel_rfl) (by kernel_rfl) (by kernel_rfl) (fun _ _ _ h => h) (Or.inl ⟨by rfl, ?_⟩) hS ?_
  rotate_left
  · rintro w ⟨h1, h2, h3, h4, h5⟩
    go_simp
    try with_reducible rfl
  simp only [Act.put, List.getElem_toArray, List.getElem_cons_succ, List.getElem_cons_zero, List.setIfInBounds_toArray, List.set_cons_zero, List.set_cons_succ]
  refine wpAnyP_take (i := 6) (v := ?_) rfl (by kernel_rfl) (by kernel_rfl) (by kernel_rfl) (by kernel_rfl) (fun _ _ _ h => h) (Or.inl ⟨by rfl, ?_⟩) hS ?_
  rotate_left
  · rintro w ⟨h1, h2, h3, h4, h5⟩
    go_simp
    try with_reducible rfl
  simp only [Act.put, List.getElem_toArray, List.getElem_cons_succ, List.getElem_cons_zero, List.setIfInBounds_toArray, List.set_cons_zero, List.set_cons_succ]
  refine wpAnyP_one (i := 9) rfl (by kernel_rfl) (fun K hK => ?_)
  go_simp
  refine (madOne_any _ _).mono ?_
  rintro e w' ⟨rfl, rfl⟩
  refine hK.out _ _ (fun _ => ⟨p1.cell 1, p1.cell 2, p1.cell 3, p1.cell 4, p1.cell 5⟩) (fun hS' => ?_)
  clear hK K
  replace hS := hS' (by decide)
  clear hS'
  try simp only [Act.put, List.setIfInBounds_toArray, List.set_cons_zero, List.set_cons_succ]
  refine wpAnyP_one (i := 12) rfl (by kernel_rfl) (fun K hK => ?_)
  go_simp
  refine (madOne_any _ _).mono ?_
  rintro e w' ⟨rfl, rfl⟩
  refine hK.out _ _ (fun _ => ⟨p1.cell 1, p1.cell 2, p1.cell 3, p1.cell 4, p1.cell 5⟩) (fun hS' => ?_)
  clear hK K
  replace hS := hS' (by decide)
  clear hS'
  try simp only [Act.put, List.setIfInBounds_toArray, List.set_cons_zero, List.set_cons_succ]
  refine wpAnyP_take (i := 13) (v := ?_) rfl (by kernel_rfl) (by kernel_rfl) (by kernel_rfl) (by kernel_rfl) (fun _ _ _ h => h) (Or.inl ⟨by rfl, ?_⟩) hS ?_
  rotate_left
  · rintro w ⟨h1, h2, h3, h4, h5⟩
    go_simp
    try with_reducible rfl
  simp only [Act.put, List.getElem_toArray, List.getElem_cons_succ, List.getElem_cons_zero, List.setIfInBounds_toArray, List.set_cons_zero, List.set_cons_succ]
  refine wpAnyP_take (i := 14) (v := ?_) rfl (by kernel_rfl) (by kernel_rfl) (by kernel_rfl) (by kernel_rfl) (fun _ _ _ h => h) (Or.inl ⟨by rfl, ?_⟩) hS ?_
  rotate_left
  · rintro w ⟨h1, h2, h3, h4, h5⟩
    go_simp
    try with_reducible rfl
  simp only [Act.put, List.getElem_toArray, List.getElem_cons_succ, List.getElem_cons_zero, List.setIfInBounds_toArray, List.set_cons_zero, List.set_cons_succ]
  refine wpAnyP_one (i := 17) rfl (by kernel_rfl) (fun K hK => ?_)
  go_simp
  refine (madOne_any _ _).mono ?_
  rintro e w' ⟨rfl, rfl⟩
  refine hK.out _ _ (fun _ => ⟨p1.cell 1, p1.cell 2, p1.cell 3, p1.cell 4, p1.cell 5⟩) (fun hS' => ?_)
  clear hK K
  replace hS := hS' (by decide)
  clear hS'
  try simp only [Act.put, List.setIfInBounds_toArray, List.set_cons_zero, List.set_cons_succ]
  refine wpAnyP_take (i := 18) (v := ?_) rfl (by kernel_rfl) (by kernel_rfl) (by kernel_rfl) (by kernel_rfl) (fun _ _ _ h => h) (Or.inl ⟨by rfl, ?_⟩) hS ?_
  rotate_left
  · rintro w ⟨h1, h2, h3, h4, h5⟩
    go_simp
    try with_reducible rfl
  simp only [Act.put, List.getElem_toArray, List.getElem_cons_succ, List.getElem_cons_zero, List.setIfInBounds_toArray, List.set_cons_zero, List.set_cons_succ]
  refine wpAnyP_take (i := 19) (v := ?_) rfl (by kernel_rfl) (by kernel_rfl) (by kernel_rfl) (by kernel_rfl) (fun _ _ _ h => h) (Or.inl ⟨by rfl, ?_⟩) hS ?_
  rotate_left
  · rintro w ⟨h1, h2, h3, h4, h5⟩
    go_simp
    try with_reducible rfl
  simp only [Act.put, List.getElem_toArray, List.getElem_cons_succ, List.getElem_cons_zero, List.setIfInBounds_toArray, List.set_cons_zero, List.set_cons_succ]
  refine wpAnyP_take (i := 20) (v := ?_) rfl (by kernel_rfl) (by kernel_rfl) (by kernel_rfl) (by kernel_rfl) (fun _ _ _ h => h) (Or.inl ⟨by rfl, ?_⟩) hS ?_
  rotate_left
  · rintro w ⟨h1, h2, h3, h4, h5⟩
    go_simp
    try with_reducible rfl
  simp only [Act.put, List.getElem_toArray, List.getElem_cons_succ, List.getElem_cons_zero, List.setIfInBounds_toArray, List.set_cons_zero, List.set_cons_succ]
  refine wpAnyP_one (i := 23) rfl (by kernel_rfl) (fun K hK => ?_)
  go_simp
  refine (madOne_any _ _).mono ?_
  rintro e w' ⟨rfl, rfl⟩
  refine hK.out _ _ (fun _ => ⟨p1.cell 1, p1.cell 2, p1.cell 3, p1.cell 4, p1.cell 5⟩) (fun hS' => ?_)
  clear hK K
  replace hS := hS' (by decide)
  clear hS'
  try simp only [Act.put, List.setIfInBounds_toArray, List.set_cons_zero, List.set_cons_succ]
  refine wpAnyP_take (i := 24) (v := ?_) rfl (by kernel_rfl) (by kernel_rfl) (by kernel_rfl) (by kernel_rfl) (fun _ _ _ h => h) (Or.inl ⟨by rfl, ?_⟩) hS ?_
  rotate_left
  · rintro w ⟨h1, h2, h3, h4, h5⟩
    go_simp
    try with_reducible rfl
  simp only [Act.put, List.getElem_toArray, List.getElem_cons_succ, List.getElem_cons_zero, List.setIfInBounds_toArray, List.set_cons_zero, List.set_cons_succ]
  refine wpAnyP_take (i := 25) (v := ?_) rfl (by kernel_rfl) (by kernel_rfl) (by kernel_rfl) (by kernel_rfl) (fun _ _ _ h => h) (Or.inl ⟨by rfl, ?_⟩) hS ?_
  rotate_left
  · rintro w ⟨h1, h2, h3, h4, h5⟩
    go_simp
    try with_reducible rfl
  simp only [Act.put, List.getElem_toArray, List.getElem_cons_succ, List.getElem_cons_zero, List.setIfInBounds_toArray, List.set_cons_zero, List.set_cons_succ]
  refine wpAnyP_one (i := 26) rfl (by kernel_rfl) (fun K hK => ?_)
  go_simp
  refine hK.out _ _ (fun _ => ⟨(p1.alloc _).cell 1, (p1.alloc _).cell 2, (p1.alloc _).cell 3, (p1.alloc _).cell 4, (p1.alloc _).cell 5⟩) (fun hS' => ?_)
  clear hK K
  replace hS := hS' (by decide)
  clear hS'
  try simp only [Act.put, List.setIfInBounds_toArray, List.set_cons_zero, List.set_cons_succ]
  have n1 := (Blk.new W 5 #[.int .u8 (IntKind.u8.wrap c), .int .u8 (IntKind.u8.wrap (c / 256)), .int .u8 (IntKind.u8.wrap (IntKind.i64.wrap (IntKind.i64.wrap (bi r + IntKind.i64.wrap (2 * bi a)) + IntKind.i64.wrap (4 * bi k)))), .int .u8 (IntKind.u8.wrap (IntKind.i64.wrap (128 * bi gg)))]).drew
  have n1_c0 := n1.cell 0; simp at n1_c0
  refine wpAnyP_one (i := 28) rfl (by kernel_rfl) (fun K hK => ?_)
  go_simp
  refine hK.out _ _ (fun _ => ⟨(p1.alloc _).cell 1, (p1.alloc _).cell 2, (p1.alloc _).cell 3, (p1.alloc _).cell 4, (p1.alloc _).cell 5⟩) (fun hS' => ?_)
  clear hK K
  replace hS := hS' (by decide)
  clear hS'
  try simp only [Act.put, List.setIfInBounds_toArray, List.set_cons_zero, List.set_cons_succ]
  refine wpAnyP_one (i := 29) rfl (by kernel_rfl) (fun K hK => ?_)
  go_simp
  refine hK.out _ _ (fun _ => ⟨(p1.alloc _).cell 1, (p1.alloc _).cell 2, (p1.alloc _).cell 3, (p1.alloc _).cell 4, (p1.alloc _).cell 5⟩) (fun hS' => ?_)
  clear hK K
  replace hS := hS' (by decide)
  clear hS'
  try simp only [Act.put, List.setIfInBounds_toArray, List.set_cons_zero, List.set_cons_succ]
  refine wpAnyP_one (i := 30) rfl (by kernel_rfl) (fun K hK => ?_)
  go_simp
  refine hK.out _ _ (fun _ => ⟨(p1.alloc _).cell 1, (p1.alloc _).cell 2, (p1.alloc _).cell 3, (p1.alloc _).cell 4, (p1.alloc _).cell 5⟩) (fun hS' => ?_)
  clear hK K
  replace hS := hS' (by decide)
  clear hS'
  try simp only [Act.put, List.setIfInBounds_toArray, List.set_cons_zero, List.set_cons_succ]
  refine wpAnyP_done (by kernel_rfl) ?_ _
  go_wp2_with (fail)
  have hv : IntKind.u8.wrap c = c % 256 := by
    rw [IntKind.wrap_u8]
  go_ret
  refine ⟨by simp [Tm.read, hv], ?_⟩
  exact ((k1.alloc _).drew).below (by omega) (fun _ _ h => h)

set_option maxRecDepth 100000 in
set_option maxHeartbeats 2000000 in
theorem madTime_1 (t : Tm) (ht : t.Ok) (w : World) :
    Calls Tryd.prog 13 #[.agg t.cells, .int .i64 1] w fun e w' =>
      e = .returned (.int .u8 (t.read 1)) ∧ Below w.heap.size w w' := by
  obtain ⟨l, c, r, a, k, gg⟩ := t
  obtain ⟨l0, l1, c0, c1⟩ := ht
  simp only at l0 l1 c0 c1
  go_enter Tryd.func13, Tryd.ntmps13
  go_wp2_with (fail)
  have p1 := Blk.new w 25 (Tm.cells ⟨l, c, r, a, k, gg⟩)
  have k1 := (Keeps.refl (fun _ => False) w).alloc (.cells (Tm.cells ⟨l, c, r, a, k, gg⟩) 25)
  generalize hW : World.alloc _ _ = W at *
  clear hW
  generalize hB : w.heap.size = B at *
  have hr0 : 0 ≤ bi r ∧ bi r ≤ 1 := by cases r <;> decide
  have ha0 : 0 ≤ bi a ∧ bi a ≤ 1 := by cases a <;> decide
  have hk0 : 0 ≤ bi k ∧ bi k ≤ 1 := by cases k <;> decide
  have hg0 : 0 ≤ bi gg ∧ bi gg ≤ 1 := by cases gg <;> decide
  have hlt := p1.lt
  refine wp_region_P (fun w' => w'.cell? ⟨B, 1, none⟩ = some (.int .i64 c) ∧ w'.cell? ⟨B, 2, none⟩ = some (.bool r) ∧ w'.cell? ⟨B, 3, none⟩ = some (.bool a) ∧ w'.cell? ⟨B, 4, none⟩ = some (.bool k) ∧ w'.cell? ⟨B, 5, none⟩ = some (.bool gg)) [1, 4, 8, 11, 16, 22, 2, 5, 6, 9, 12, 13, 14, 17, 18, 19, 20, 23, 24, 25, 26, 28, 29, 30] (by kernel_rfl) ?_
  have hS : W.drew.cell? ⟨B, 1, none⟩ = some (.int .i64 c) ∧ W.drew.cell? ⟨B, 2, none⟩ = some (.bool r) ∧ W.drew.cell? ⟨B, 3, none⟩ = some (.bool a) ∧ W.drew.cell? ⟨B, 4, none⟩ = some (.bool k) ∧ W.drew.cell? ⟨B, 5, none⟩ = some (.bool gg) := ⟨p1.cell 1, p1.cell 2, p1.cell 3, p1.cell 4, p1.cell 5⟩
  refine wpAnyP_free (i := 0) (v := ?_) rfl (by kernel_rfl) (by kernel_rfl) (by kernel_rfl) (by kernel_rfl) (fun _ _ _ h => h) (Or.inl ⟨by rfl, ?_⟩) ?_
  rotate_left
  · rintro w _
    go_simp
    try with_reducible rfl
  simp only [Act.put, List.getElem_toArray, List.getElem_cons_succ, List.getElem_cons_zero, List.setIfInBounds_toArray, List.set_cons_zero, List.set_cons_succ]
  refine wpAnyP_free (i := 3) (v := ?_) rfl (by kernel_rfl) (by kernel_rfl) (by kernel_rfl) (by kernel_rfl) (fun _ _ _ h => h) (Or.inl ⟨by rfl, ?_⟩) ?_
  rotate_left
  · rintro w _
    go_simp
    try with_reducible rfl
  simp only [Act.put, List.getElem_toArray, List.getElem_cons_succ, List.getElem_cons_zero, List.setIfInBounds_toArray, List.set_cons_zero, List.set_cons_succ]
  refine wpAnyP_free (i := 7) (v := ?_) rfl (by kernel_rfl) (by kernel_rfl) (by kernel_rfl) (by kernel_rfl) (fun _ _ _ h => h) (Or.inl ⟨by rfl, ?_⟩) ?_
  rotate_left
  · rintro w _
    go_simp
    try with_reducible rfl
  simp only [Act.put, List.getElem_toArray, List.getElem_cons_succ, List.getElem_cons_zero, List.setIfInBounds_toArray, List.set_cons_zero, List.set_cons_succ]
  refine wpAnyP_free (i := 10) (v := ?_) rfl (by kernel_rfl) (by kernel_rfl) (by kernel_rfl) (by kernel_rfl) (fun _ _ _ h => h) (Or.inl ⟨by rfl, ?_⟩) ?_
  rotate_left
  · rintro w _
    go_simp
    try with_reducible rfl
  simp only [Act.put, List.getElem_toArray, List.getElem_cons_succ, List.getElem_cons_zero, List.setIfInBounds_toArray, List.set_cons_zero, List.set_cons_succ]
  refine wpAnyP_free (i := 15) (v := ?_) rfl (by kernel_rfl) (by kernel_rfl) (by kernel_rfl) (by kernel_rfl) (fun _ _ _ h => h) (Or.inl ⟨by rfl, ?_⟩) ?_
  rotate_left
  · rintro w _
    go_simp
    try with_reducible rfl
  simp only [Act.put, List.getElem_toArray, List.getElem_cons_succ, List.getElem_cons_zero, List.setIfInBounds_toArray, List.set_cons_zero, List.set_cons_succ]
  refine wpAnyP_free (i := 21) (v := ?_) rfl (by kernel_rfl) (by kernel_rfl) (by kernel_rfl) (by kernel_rfl) (fun _ _ _ h => h) (Or.inl ⟨by rfl, ?_⟩) ?_
  rotate_left
  · rintro w _
    go_simp
    try with_reducible rfl
  simp only [Act.put, List.getElem_toArray, List.getElem_cons_succ, List.getElem_cons_zero, List.setIfInBounds_toArray, List.set_cons_zero, List.set_cons_succ]
  refine wpAnyP_free (i := 27) (v := ?_) rfl (by kernel_rfl) (by kernel_rfl) (by kernel_rfl) (by kernel_rfl) (fun _ _ _ h => h) (Or.inl ⟨by rfl, ?_⟩) ?_
  rotate_left
  · rintro w _
    go_simp
    try with_reducible rfl
  simp only [Act.put, List.getElem_toArray, List.getElem_cons_succ, List.getElem_cons_zero, List.setIfInBounds_toArray, List.set_cons_zero, List.set_cons_succ]
  refine wpAnyP_take (i := 1) (v := ?_) rfl (by kernel_rfl) (by kernel_rfl) (by kernel_rfl) (by kernel_rfl) (fun _ _ _ h => h) (Or.inl ⟨by rfl, ?_⟩) hS ?_
  rotate_left
  · rintro w ⟨h1, h2, h3, h4, h5⟩
    go_simp
    try with_reducible rfl
  simp only [Act.put, List.getElem_toArray, List.getElem_cons_succ, List.getElem_cons_zero, List.setIfInBounds_toArray, List.set_cons_zero, List.set_cons_succ]
  refine wpAnyP_take (i := 4) (v := ?_) rfl (by kernel_rfl) (by kernel_rfl) (by kernel_rfl) (by kernel_rfl) (fun _ _ _ h => h) (Or.inl ⟨by rfl, ?_⟩) hS ?_
  rotate_left
  · rintro w ⟨h1, h2, h3, h4, h5⟩
    go_simp
    try with_reducible rfl
  simp only [Act.put, List.getElem_toArray, List.getElem_cons_succ, List.getElem_cons_zero, List.setIfInBounds_toArray, List.set_cons_zero, List.set_cons_succ]
  refine wpAnyP_take (i := 8) (v := ?_) rfl (by kernel_rfl) (by kernel_rfl) (by kernel_rfl) (by kernel_rfl) (fun _ _ _ h => h) (Or.inl ⟨by rfl, ?_⟩) hS ?_
  rotate_left
  · rintro w ⟨h1, h2, h3, h4, h5⟩
    go_simp
    try with_reducible rfl
  simp only [Act.put, List.getElem_toArray, List.getElem_cons_succ, List.getElem_cons_zero, List.setIfInBounds_toArray, List.set_cons_zero, List.set_cons_succ]
  refine wpAnyP_take (i := 11) (v := ?_) rfl (by kernel_rfl) (by kernel_rfl) (by kernel_rfl) (by kernel_rfl) (fun _ _ _ h => h) (Or.inl ⟨by rfl, ?_⟩) hS ?_
  rotate_left
  · rintro w ⟨h1, h2, h3, h4, h5⟩
    go_simp
    try with_reducible rfl
  simp only [Act.put, List.getElem_toArray, List.getElem_cons_succ, List.getElem_cons_zero, List.setIfInBounds_toArray, List.set_cons_zero, List.set_cons_succ]
  refine wpAnyP_take (i := 16) (v := ?_) rfl (by kernel_rfl) (by kernel_rfl) (by kernel_rfl) (by kernel_rfl) (fun _ _ _ h => h) (Or.inl ⟨by rfl, ?_⟩) hS ?_
  rotate_left
  · rintro w ⟨h1, h2, h3, h4, h5⟩
    go_simp
    try with_reducible rfl
  simp only [Act.put, List.getElem_toArray, List.getElem_cons_succ, List.getElem_cons_zero, List.setIfInBounds_toArray, List.set_cons_zero, List.set_cons_succ]
  refine wpAnyP_take (i := 22) (v := ?_) rfl (by kernel_rfl) (by kernel_rfl) (by kernel_rfl) (by kernel_rfl) (fun _ _ _ h => h) (Or.inl ⟨by rfl, ?_⟩) hS ?_
  rotate_left
  · rintro w ⟨h1, h2, h3, h4, h5⟩
    go_simp
    try with_reducible rfl
  simp only [Act.put, List.getElem_toArray, List.getElem_cons_succ, List.getElem_cons_zero, List.setIfInBounds_toArray, List.set_cons_zero, List.set_cons_succ]
  refine wpAnyP_take (i := 2) (v := ?_) rfl (by kernel_rfl) (by kernel_rfl) (by kernel_rfl) (by kernel_rfl) (fun _ _ _ h => h) (Or.inl ⟨by rfl, ?_⟩) hS ?_
  rotate_left
  · rintro w ⟨h1, h2, h3, h4, h5⟩
    go_simp
    try with_reducible rfl
  simp only [Act.put, List.getElem_toArray, List.getElem_cons_succ, List.getElem_cons_zero, List.setIfInBounds_toArray, List.set_cons_zero, List.set_cons_succ]
  refine wpAnyP_take (i := 5) (v := ?_) rfl (by kernel_rfl) (by kernel_rfl) (by kernel_rfl) (by kernel_rfl) (fun _ _ _ h => h) (Or.inl ⟨by rfl, ?_⟩) hS ?_
  rotate_left
  · rintro w ⟨h1, h2, h3, h4, h5⟩
    go_simp
    try with_reducible rfl
  simp only [Act.put, List.getElem_toArray, List.getElem_cons_succ, List.getElem_cons_zero, List.setIfInBounds_toArray, List.set_cons_zero, List.set_cons_succ]
  refine wpAnyP_take (i := 6) (v := ?_) rfl (by kernel_rfl) (by kernel_rfl) (by kernel_rfl) (by kernel_rfl) (fun _ _ _ h => h) (Or.inl ⟨by rfl, ?_⟩) hS ?_
  rotate_left
  · rintro w ⟨h1, h2, h3, h4, h5⟩
    go_simp
    try with_reducible rfl
  simp only [Act.put, List.getElem_toArray, List.getElem_cons_succ, List.getElem_cons_zero, List.setIfInBounds_toArray, List.set_cons_zero, List.set_cons_succ]
  refine wpAnyP_one (i := 9) rfl (by kernel_rfl) (fun K hK => ?_)
  go_simp
  refine (madOne_any _ _).mono ?_
  rintro e w' ⟨rfl, rfl⟩
  refine hK.out _ _ (fun _ => ⟨p1.cell 1, p1.cell 2, p1.cell 3, p1.cell 4, p1.cell 5⟩) (fun hS' => ?_)
  clear hK K
  replace hS := hS' (by decide)
  clear hS'
  try simp only [Act.put, List.setIfInBounds_toArray, List.set_cons_zero, List.set_cons_succ]
  refine wpAnyP_one (i := 12) rfl (by kernel_rfl) (fun K hK => ?_)
  go_simp
  refine (madOne_any _ _).mono ?_
  rintro e w' ⟨rfl, rfl⟩
  refine hK.out _ _ (fun _ => ⟨p1.cell 1, p1.cell 2, p1.cell 3, p1.cell 4, p1.cell 5⟩) (fun hS' => ?_)
  clear hK K
  replace hS := hS' (by decide)
  clear hS'
  try simp only [Act.put, List.setIfInBounds_toArray, List.set_cons_zero, List.set_cons_succ]
  refine wpAnyP_take (i := 13) (v := ?_) rfl (by kernel_rfl) (by kernel_rfl) (by kernel_rfl) (by kernel_rfl) (fun _ _ _ h => h) (Or.inl ⟨by rfl, ?_⟩) hS ?_
  rotate_left
  · rintro w ⟨h1, h2, h3, h4, h5⟩
    go_simp
    try with_reducible rfl
  simp only [Act.put, List.getElem_toArray, List.getElem_cons_succ, List.getElem_cons_zero, List.setIfInBounds_toArray, List.set_cons_zero, List.set_cons_succ]
  refine wpAnyP_take (i := 14) (v := ?_) rfl (by kernel_rfl) (by kernel_rfl) (by kernel_rfl) (by kernel_rfl) (fun _ _ _ h => h) (Or.inl ⟨by rfl, ?_⟩) hS ?_
  rotate_left
  · rintro w ⟨h1, h2, h3, h4, h5⟩
    go_simp
    try with_reducible rfl
  simp only [Act.put, List.getElem_toArray, List.getElem_cons_succ, List.getElem_cons_zero, List.setIfInBounds_toArray, List.set_cons_zero, List.set_cons_succ]
  refine wpAnyP_one (i := 17) rfl (by kernel_rfl) (fun K hK => ?_)
  go_simp
  refine (madOne_any _ _).mono ?_
  rintro e w' ⟨rfl, rfl⟩
  refine hK.out _ _ (fun _ => ⟨p1.cell 1, p1.cell 2, p1.cell 3, p1.cell 4, p1.cell 5⟩) (fun hS' => ?_)
  clear hK K
  replace hS := hS' (by decide)
  clear hS'
  try simp only [Act.put, List.setIfInBounds_toArray, List.set_cons_zero, List.set_cons_succ]
  refine wpAnyP_take (i := 18) (v := ?_) rfl (by kernel_rfl) (by kernel_rfl) (by kernel_rfl) (by kernel_rfl) (fun _ _ _ h => h) (Or.inl ⟨by rfl, ?_⟩) hS ?_
  rotate_left
  · rintro w ⟨h1, h2, h3, h4, h5⟩
    go_simp
    try with_reducible rfl
  simp only [Act.put, List.getElem_toArray, List.getElem_cons_succ, List.getElem_cons_zero, List.setIfInBounds_toArray, List.set_cons_zero, List.set_cons_succ]
  refine wpAnyP_take (i := 19) (v := ?_) rfl (by kernel_rfl) (by kernel_rfl) (by kernel_rfl) (by kernel_rfl) (fun _ _ _ h => h) (Or.inl ⟨by rfl, ?_⟩) hS ?_
  rotate_left
  · rintro w ⟨h1, h2, h3, h4, h5⟩
    go_simp
    try with_reducible rfl
  simp only [Act.put, List.getElem_toArray, List.getElem_cons_succ, List.getElem_cons_zero, List.setIfInBounds_toArray, List.set_cons_zero, List.set_cons_succ]
  refine wpAnyP_take (i := 20) (v := ?_) rfl (by kernel_rfl) (by kernel_rfl) (by kernel_rfl) (by kernel_rfl) (fun _ _ _ h => h) (Or.inl ⟨by rfl, ?_⟩) hS ?_
  rotate_left
  · rintro w ⟨h1, h2, h3, h4, h5⟩
    go_simp
    try with_reducible rfl
  simp only [Act.put, List.getElem_toArray, List.getElem_cons_succ, List.getElem_cons_zero, List.setIfInBounds_toArray, List.set_cons_zero, List.set_cons_succ]
  refine wpAnyP_one (i := 23) rfl (by kernel_rfl) (fun K hK => ?_)
  go_simp
  refine (madOne_any _ _).mono ?_
  rintro e w' ⟨rfl, rfl⟩
  refine hK.out _ _ (fun _ => ⟨p1.cell 1, p1.cell 2, p1.cell 3, p1.cell 4, p1.cell 5⟩) (fun hS' => ?_)
  clear hK K
  replace hS := hS' (by decide)
  clear hS'
  try simp only [Act.put, List.setIfInBounds_toArray, List.set_cons_zero, List.set_cons_succ]
  refine wpAnyP_take (i := 24) (v := ?_) rfl (by kernel_rfl) (by kernel_rfl) (by kernel_rfl) (by kernel_rfl) (fun _ _ _ h => h) (Or.inl ⟨by rfl, ?_⟩) hS ?_
  rotate_left
  · rintro w ⟨h1, h2, h3, h4, h5⟩
    go_simp
    try with_reducible rfl
  simp only [Act.put, List.getElem_toArray, List.getElem_cons_succ, List.getElem_cons_zero, List.setIfInBounds_toArray, List.set_cons_zero, List.set_cons_succ]
  refine wpAnyP_take (i := 25) (v := ?_) rfl (by kernel_rfl) (by kernel_rfl) (by kernel_rfl) (by kernel_rfl) (fun _ _ _ h => h) (Or.inl ⟨by rfl, ?_⟩) hS ?_
  rotate_left
  · rintro w ⟨h1, h2, h3, h4, h5⟩
    go_simp
    try with_reducible rfl
  simp only [Act.put, List.getElem_toArray, List.getElem_cons_succ, List.getElem_cons_zero, List.setIfInBounds_toArray, List.set_cons_zero, List.set_cons_succ]
  refine wpAnyP_one (i := 26) rfl (by kernel_rfl) (fun K hK => ?_)
  go_simp
  refine hK.out _ _ (fun _ => ⟨(p1.alloc _).cell 1, (p1.alloc _).cell 2, (p1.alloc _).cell 3, (p1.alloc _).cell 4, (p1.alloc _).cell 5⟩) (fun hS' => ?_)
  clear hK K
  replace hS := hS' (by decide)
  clear hS'
  try simp only [Act.put, List.setIfInBounds_toArray, List.set_cons_zero, List.set_cons_succ]
  have n1 := (Blk.new W 5 #[.int .u8 (IntKind.u8.wrap c), .int .u8 (IntKind.u8.wrap (c / 256)), .int .u8 (IntKind.u8.wrap (IntKind.i64.wrap (IntKind.i64.wrap (bi r + IntKind.i64.wrap (2 * bi a)) + IntKind.i64.wrap (4 * bi k)))), .int .u8 (IntKind.u8.wrap (IntKind.i64.wrap (128 * bi gg)))]).drew
  have n1_c1 := n1.cell 1; simp at n1_c1
  refine wpAnyP_one (i := 28) rfl (by kernel_rfl) (fun K hK => ?_)
  go_simp
  refine hK.out _ _ (fun _ => ⟨(p1.alloc _).cell 1, (p1.alloc _).cell 2, (p1.alloc _).cell 3, (p1.alloc _).cell 4, (p1.alloc _).cell 5⟩) (fun hS' => ?_)
  clear hK K
  replace hS := hS' (by decide)
  clear hS'
  try simp only [Act.put, List.setIfInBounds_toArray, List.set_cons_zero, List.set_cons_succ]
  refine wpAnyP_one (i := 29) rfl (by kernel_rfl) (fun K hK => ?_)
  go_simp
  refine hK.out _ _ (fun _ => ⟨(p1.alloc _).cell 1, (p1.alloc _).cell 2, (p1.alloc _).cell 3, (p1.alloc _).cell 4, (p1.alloc _).cell 5⟩) (fun hS' => ?_)
  clear hK K
  replace hS := hS' (by decide)
  clear hS'
  try simp only [Act.put, List.setIfInBounds_toArray, List.set_cons_zero, List.set_cons_succ]
  refine wpAnyP_one (i := 30) rfl (by kernel_rfl) (fun K hK => ?_)
  go_simp
  refine hK.out _ _ (fun _ => ⟨(p1.alloc _).cell 1, (p1.alloc _).cell 2, (p1.alloc _).cell 3, (p1.alloc _).cell 4, (p1.alloc _).cell 5⟩) (fun hS' => ?_)
  clear hK K
  replace hS := hS' (by decide)
  clear hS'
  try simp only [Act.put, List.setIfInBounds_toArray, List.set_cons_zero, List.set_cons_succ]
  refine wpAnyP_done (by kernel_rfl) ?_ _
  go_wp2_with (fail)
  have hv : IntKind.u8.wrap (c / 256) = c / 256 := by
    rw [IntKind.wrap_u8]; omega
  go_ret
  refine ⟨by simp [Tm.read, hv], ?_⟩
  exact ((k1.alloc _).drew).below (by omega) (fun _ _ h => h)

set_option maxRecDepth 100000 in
set_option maxHeartbeats 2000000 in
theorem madTime_2 (t : Tm) (ht : t.Ok) (w : World) :
    Calls Tryd.prog 13 #[.agg t.cells, .int .i64 2] w fun e w' =>
      e = .returned (.int .u8 (t.read 2)) ∧ Below w.heap.size w w' := by
  obtain ⟨l, c, r, a, k, gg⟩ := t
  obtain ⟨l0, l1, c0, c1⟩ := ht
  simp only at l0 l1 c0 c1
  go_enter Tryd.func13, Tryd.ntmps13
  go_wp2_with (fail)
  have p1 := Blk.new w 25 (Tm.cells ⟨l, c, r, a, k, gg⟩)
  have k1 := (Keeps.refl (fun _ => False) w).alloc (.cells (Tm.cells ⟨l, c, r, a, k, gg⟩) 25)
  generalize hW : World.alloc _ _ = W at *
  clear hW
  generalize hB : w.heap.size = B at *
  have hr0 : 0 ≤ bi r ∧ bi r ≤ 1 := by cases r <;> decide
  have ha0 : 0 ≤ bi a ∧ bi a ≤ 1 := by cases a <;> decide
  have hk0 : 0 ≤ bi k ∧ bi k ≤ 1 := by cases k <;> decide
  have hg0 : 0 ≤ bi gg ∧ bi gg ≤ 1 := by cases gg <;> decide
  have hlt := p1.lt
  refine wp_region_P (fun w' => w'.cell? ⟨B, 1, none⟩ = some (.int .i64 c) ∧ w'.cell? ⟨B, 2, none⟩ = some (.bool r) ∧ w'.cell? ⟨B, 3, none⟩ = some (.bool a) ∧ w'.cell? ⟨B, 4, none⟩ = some (.bool k) ∧ w'.cell? ⟨B, 5, none⟩ = some (.bool gg)) [1, 4, 8, 11, 16, 22, 2, 5, 6, 9, 12, 13, 14, 17, 18, 19, 20, 23, 24, 25, 26, 28, 29, 30] (by kernel_rfl) ?_
  have hS : W.drew.cell? ⟨B, 1, none⟩ = some (.int .i64 c) ∧ W.drew.cell? ⟨B, 2, none⟩ = some (.bool r) ∧ W.drew.cell? ⟨B, 3, none⟩ = some (.bool a) ∧ W.drew.cell? ⟨B, 4, none⟩ = some (.bool k) ∧ W.drew.cell? ⟨B, 5, none⟩ = some (.bool gg) := ⟨p1.cell 1, p1.cell 2, p1.cell 3, p1.cell 4, p1.cell 5⟩
  refine wpAnyP_free (i := 0) (v := ?_) rfl (by kernel_rfl) (by kernel_rfl) (by kernel_rfl) (by kernel_rfl) (fun _ _ _ h => h) (Or.inl ⟨by rfl, ?_⟩) ?_
  rotate_left
  · rintro w _
    go_simp
    try with_reducible rfl
  simp only [Act.put, List.getElem_toArray, List.getElem_cons_succ, List.getElem_cons_zero, List.setIfInBounds_toArray, List.set_cons_zero, List.set_cons_succ]
  refine wpAnyP_free (i := 3) (v := ?_) rfl (by kernel_rfl) (by kernel_rfl) (by kernel_rfl) (by kernel_rfl) (fun _ _ _ h => h) (Or.inl ⟨by rfl, ?_⟩) ?_
  rotate_left
  · rintro w _
    go_simp
    try with_reducible rfl
  simp only [Act.put, List.getElem_toArray, List.getElem_cons_succ, List.getElem_cons_zero, List.setIfInBounds_toArray, List.set_cons_zero, List.set_cons_succ]
  refine wpAnyP_free (i := 7) (v := ?_) rfl (by kernel_rfl) (by kernel_rfl) (by kernel_rfl) (by kernel_rfl) (fun _ _ _ h => h) (Or.inl ⟨by rfl, ?_⟩) ?_
  rotate_left
  · rintro w _
    go_simp
    try with_reducible rfl
  simp only [Act.put, List.getElem_toArray, List.getElem_cons_succ, List.getElem_cons_zero, List.setIfInBounds_toArray, List.set_cons_zero, List.set_cons_succ]
  refine wpAnyP_free (i := 10) (v := ?_) rfl (by kernel_rfl) (by kernel_rfl) (by kernel_rfl) (by kernel_rfl) (fun _ _ _ h => h) (Or.inl ⟨by rfl, ?_⟩) ?_
  rotate_left
  · rintro w _
    go_simp
    try with_reducible rfl
  simp only [Act.put, List.getElem_toArray, List.getElem_cons_succ, List.getElem_cons_zero, List.setIfInBounds_toArray, List.set_cons_zero, List.set_cons_succ]
  refine wpAnyP_free (i := 15) (v := ?_) rfl (by kernel_rfl) (by kernel_rfl) (by kernel_rfl) (by kernel_rfl) (fun _ _ _ h => h) (Or.inl ⟨by rfl, ?_⟩) ?_
  rotate_left
  · rintro w _
    go_simp
    try with_reducible rfl
  simp only [Act.put, List.getElem_toArray, List.getElem_cons_succ, List.getElem_cons_zero, List.setIfInBounds_toArray, List.set_cons_zero, List.set_cons_succ]
  refine wpAnyP_free (i := 21) (v := ?_) rfl (by kernel_rfl) (by kernel_rfl) (by kernel_rfl) (by kernel_rfl) (fun _ _ _ h => h) (Or.inl ⟨by rfl, ?_⟩) ?_
  rotate_left
  · rintro w _
    go_simp
    try with_reducible rfl
  simp only [Act.put, List.getElem_toArray, List.getElem_cons_succ, List.getElem_cons_zero, List.setIfInBounds_toArray, List.set_cons_zero, List.set_cons_succ]
  refine wpAnyP_free (i := 27) (v := ?_) rfl (by kernel_rfl) (by kernel_rfl) (by kernel_rfl) (by kernel_rfl) (fun _ _ _ h => h) (Or.inl ⟨by rfl, ?_⟩) ?_
  rotate_left
  · rintro w _
    go_simp
    try with_reducible rfl
  simp only [Act.put, List.getElem_toArray, List.getElem_cons_succ, List.getElem_cons_zero, List.setIfInBounds_toArray, List.set_cons_zero, List.set_cons_succ]
  refine wpAnyP_take (i := 1) (v := ?_) rfl (by kernel_rfl) (by kernel_rfl) (by kernel_rfl) (by kernel_rfl) (fun _ _ _ h => h) (Or.inl ⟨by rfl, ?_⟩) hS ?_
  rotate_left
  · rintro w ⟨h1, h2, h3, h4, h5⟩
    go_simp
    try with_reducible rfl
  simp only [Act.put, List.getElem_toArray, List.getElem_cons_succ, List.getElem_cons_zero, List.setIfInBounds_toArray, List.set_cons_zero, List.set_cons_succ]
  refine wpAnyP_take (i := 4) (v := ?_) rfl (by kernel_rfl) (by kernel_rfl) (by kernel_rfl) (by kernel_rfl) (fun _ _ _ h => h) (Or.inl ⟨by rfl, ?_⟩) hS ?_
  rotate_left
  · rintro w ⟨h1, h2, h3, h4, h5⟩
    go_simp
    try with_reducible rfl
  simp only [Act.put, List.getElem_toArray, List.getElem_cons_succ, List.getElem_cons_zero, List.setIfInBounds_toArray, List.set_cons_zero, List.set_cons_succ]
  refine wpAnyP_take (i := 8) (v := ?_) rfl (by kernel_rfl) (by kernel_rfl) (by kernel_rfl) (by kernel_rfl) (fun _ _ _ h => h) (Or.inl ⟨by rfl, ?_⟩) hS ?_
  rotate_left
  · rintro w ⟨h1, h2, h3, h4, h5⟩
    go_simp
    try with_reducible rfl
  simp only [Act.put, List.getElem_toArray, List.getElem_cons_succ, List.getElem_cons_zero, List.setIfInBounds_toArray, List.set_cons_zero, List.set_cons_succ]
  refine wpAnyP_take (i := 11) (v := ?_) rfl (by kernel_rfl) (by kernel_rfl) (by kernel_rfl) (by kernel_rfl) (fun _ _ _ h => h) (Or.inl ⟨by rfl, ?_⟩) hS ?_
  rotate_left
  · rintro w ⟨h1, h2, h3, h4, h5⟩
    go_simp
    try with_reducible rfl
  simp only [Act.put, List.getElem_toArray, List.getElem_cons_succ, List.getElem_cons_zero, List.setIfInBounds_toArray, List.set_cons_zero, List.set_cons_succ]
  refine wpAnyP_take (i := 16) (v := ?_) rfl (by kernel_rfl) (by kernel_rfl) (by kernel_rfl) (by kernel_rfl) (fun _ _ _ h => h) (Or.inl ⟨by rfl, ?_⟩) hS ?_
  rotate_left
  · rintro w ⟨h1, h2, h3, h4, h5⟩
    go_simp
    try with_reducible rfl
  simp only [Act.put, List.getElem_toArray, List.getElem_cons_succ, List.getElem_cons_zero, List.setIfInBounds_toArray, List.set_cons_zero, List.set_cons_succ]
  refine wpAnyP_take (i := 22) (v := ?_) rfl (by kernel_rfl) (by kernel_rfl) (by kernel_rfl) (by kernel_rfl) (fun _ _ _ h => h) (Or.inl ⟨by rfl, ?_⟩) hS ?_
  rotate_left
  · rintro w ⟨h1, h2, h3, h4, h5⟩
    go_simp
    try with_reducible rfl
  simp only [Act.put, List.getElem_toArray, List.getElem_cons_succ, List.getElem_cons_zero, List.setIfInBounds_toArray, List.set_cons_zero, List.set_cons_succ]
  refine wpAnyP_take (i := 2) (v := ?_) rfl (by kernel_rfl) (by kernel_rfl) (by kernel_rfl) (by kernel_rfl) (fun _ _ _ h => h) (Or.inl ⟨by rfl, ?_⟩) hS ?_
  rotate_left
  · rintro w ⟨h1, h2, h3, h4, h5⟩
    go_simp
    try with_reducible rfl
  simp only [Act.put, List.getElem_toArray, List.getElem_cons_succ, List.getElem_cons_zero, List.setIfInBounds_toArray, List.set_cons_zero, List.set_cons_succ]
  refine wpAnyP_take (i := 5) (v := ?_) rfl (by kernel_rfl) (by kernel_rfl) (by kernel_rfl) (by kernel_rfl) (fun _ _ _ h => h) (Or.inl ⟨by rfl, ?_⟩) hS ?_
  rotate_left
  · rintro w ⟨h1, h2, h3, h4, h5⟩
    go_simp
    try with_reducible rfl
  simp only [Act.put, List.getElem_toArray, List.getElem_cons_succ, List.getElem_cons_zero, List.setIfInBounds_toArray, List.set_cons_zero, List.set_cons_succ]
  refine wpAnyP_take (i := 6) (v := ?_) rfl (by kernel_rfl) (by kernel_rfl) (by kernel_rfl) (by kernel_rfl) (fun _ _ _ h => h) (Or.inl ⟨by rfl, ?_⟩) hS ?_
  rotate_left
  · rintro w ⟨h1, h2, h3, h4, h5⟩
    go_simp
    try with_reducible rfl
  simp only [Act.put, List.getElem_toArray, List.getElem_cons_succ, List.getElem_cons_zero, List.setIfInBounds_toArray, List.set_cons_zero, List.set_cons_succ]
  refine wpAnyP_one (i := 9) rfl (by kernel_rfl) (fun K hK => ?_)
  go_simp
  refine (madOne_any _ _).mono ?_
  rintro e w' ⟨rfl, rfl⟩
  refine hK.out _ _ (fun _ => ⟨p1.cell 1, p1.cell 2, p1.cell 3, p1.cell 4, p1.cell 5⟩) (fun hS' => ?_)
  clear hK K
  replace hS := hS' (by decide)
  clear hS'
  try simp only [Act.put, List.setIfInBounds_toArray, List.set_cons_zero, List.set_cons_succ]
  refine wpAnyP_one (i := 12) rfl (by kernel_rfl) (fun K hK => ?_)
  go_simp
  refine (madOne_any _ _).mono ?_
  rintro e w' ⟨rfl, rfl⟩
  refine hK.out _ _ (fun _ => ⟨p1.cell 1, p1.cell 2, p1.cell 3, p1.cell 4, p1.cell 5⟩) (fun hS' => ?_)
  clear hK K
  replace hS := hS' (by decide)
  clear hS'
  try simp only [Act.put, List.setIfInBounds_toArray, List.set_cons_zero, List.set_cons_succ]
  refine wpAnyP_take (i := 13) (v := ?_) rfl (by kernel_rfl) (by kernel_rfl) (by kernel_rfl) (by kernel_rfl) (fun _ _ _ h => h) (Or.inl ⟨by rfl, ?_⟩) hS ?_
  rotate_left
  · rintro w ⟨h1, h2, h3, h4, h5⟩
    go_simp
    try with_reducible rfl
  simp only [Act.put, List.getElem_toArray, List.getElem_cons_succ, List.getElem_cons_zero, List.setIfInBounds_toArray, List.set_cons_zero, List.set_cons_succ]
  refine wpAnyP_take (i := 14) (v := ?_) rfl (by kernel_rfl) (by kernel_rfl) (by kernel_rfl) (by kernel_rfl) (fun _ _ _ h => h) (Or.inl ⟨by rfl, ?_⟩) hS ?_
  rotate_left
  · rintro w ⟨h1, h2, h3, h4, h5⟩
    go_simp
    try with_reducible rfl
  simp only [Act.put, List.getElem_toArray, List.getElem_cons_succ, List.getElem_cons_zero, List.setIfInBounds_toArray, List.set_cons_zero, List.set_cons_succ]
  refine wpAnyP_one (i := 17) rfl (by kernel_rfl) (fun K hK => ?_)
  go_simp
  refine (madOne_any _ _).mono ?_
  rintro e w' ⟨rfl, rfl⟩
  refine hK.out _ _ (fun _ => ⟨p1.cell 1, p1.cell 2, p1.cell 3, p1.cell 4, p1.cell 5⟩) (fun hS' => ?_)
  clear hK K
  replace hS := hS' (by decide)
  clear hS'
  try simp only [Act.put, List.setIfInBounds_toArray, List.set_cons_zero, List.set_cons_succ]
  refine wpAnyP_take (i := 18) (v := ?_) rfl (by kernel_rfl) (by kernel_rfl) (by kernel_rfl) (by kernel_rfl) (fun _ _ _ h => h) (Or.inl ⟨by rfl, ?_⟩) hS ?_
  rotate_left
  · rintro w ⟨h1, h2, h3, h4, h5⟩
    go_simp
    try with_reducible rfl
  simp only [Act.put, List.getElem_toArray, List.getElem_cons_succ, List.getElem_cons_zero, List.setIfInBounds_toArray, List.set_cons_zero, List.set_cons_succ]
  refine wpAnyP_take (i := 19) (v := ?_) rfl (by kernel_rfl) (by kernel_rfl) (by kernel_rfl) (by kernel_rfl) (fun _ _ _ h => h) (Or.inl ⟨by rfl, ?_⟩) hS ?_
  rotate_left
  · rintro w ⟨h1, h2, h3, h4, h5⟩
    go_simp
    try with_reducible rfl
  simp only [Act.put, List.getElem_toArray, List.getElem_cons_succ, List.getElem_cons_zero, List.setIfInBounds_toArray, List.set_cons_zero, List.set_cons_succ]
  refine wpAnyP_take (i := 20) (v := ?_) rfl (by kernel_rfl) (by kernel_rfl) (by kernel_rfl) (by kernel_rfl) (fun _ _ _ h => h) (Or.inl ⟨by rfl, ?_⟩) hS ?_
  rotate_left
  · rintro w ⟨h1, h2, h3, h4, h5⟩
    go_simp
    try with_reducible rfl
  simp only [Act.put, List.getElem_toArray, List.getElem_cons_succ, List.getElem_cons_zero, List.setIfInBounds_toArray, List.set_cons_zero, List.set_cons_succ]
  refine wpAnyP_one (i := 23) rfl (by kernel_rfl) (fun K hK => ?_)
  go_simp
  refine (madOne_any _ _).mono ?_
  rintro e w' ⟨rfl, rfl⟩
  refine hK.out _ _ (fun _ => ⟨p1.cell 1, p1.cell 2, p1.cell 3, p1.cell 4, p1.cell 5⟩) (fun hS' => ?_)
  clear hK K
  replace hS := hS' (by decide)
  clear hS'
  try simp only [Act.put, List.setIfInBounds_toArray, List.set_cons_zero, List.set_cons_succ]
  refine wpAnyP_take (i := 24) (v := ?_) rfl (by kernel_rfl) (by kernel_rfl) (by kernel_rfl) (by kernel_rfl) (fun _ _ _ h => h) (Or.inl ⟨by rfl, ?_⟩) hS ?_
  rotate_left
  · rintro w ⟨h1, h2, h3, h4, h5⟩
    go_simp
    try with_reducible rfl
  simp only [Act.put, List.getElem_toArray, List.getElem_cons_succ, List.getElem_cons_zero, List.setIfInBounds_toArray, List.set_cons_zero, List.set_cons_succ]
  refine wpAnyP_take (i := 25) (v := ?_) rfl (by kernel_rfl) (by kernel_rfl) (by kernel_rfl) (by kernel_rfl) (fun _ _ _ h => h) (Or.inl ⟨by rfl, ?_⟩) hS ?_
  rotate_left
  · rintro w ⟨h1, h2, h3, h4, h5⟩
    go_simp
    try with_reducible rfl
  simp only [Act.put, List.getElem_toArray, List.getElem_cons_succ, List.getElem_cons_zero, List.setIfInBounds_toArray, List.set_cons_zero, List.set_cons_succ]
  refine wpAnyP_one (i := 26) rfl (by kernel_rfl) (fun K hK => ?_)
  go_simp
  refine hK.out _ _ (fun _ => ⟨(p1.alloc _).cell 1, (p1.alloc _).cell 2, (p1.alloc _).cell 3, (p1.alloc _).cell 4, (p1.alloc _).cell 5⟩) (fun hS' => ?_)
  clear hK K
  replace hS := hS' (by decide)
  clear hS'
  try simp only [Act.put, List.setIfInBounds_toArray, List.set_cons_zero, List.set_cons_succ]
  have n1 := (Blk.new W 5 #[.int .u8 (IntKind.u8.wrap c), .int .u8 (IntKind.u8.wrap (c / 256)), .int .u8 (IntKind.u8.wrap (IntKind.i64.wrap (IntKind.i64.wrap (bi r + IntKind.i64.wrap (2 * bi a)) + IntKind.i64.wrap (4 * bi k)))), .int .u8 (IntKind.u8.wrap (IntKind.i64.wrap (128 * bi gg)))]).drew
  have n1_c2 := n1.cell 2; simp at n1_c2
  refine wpAnyP_one (i := 28) rfl (by kernel_rfl) (fun K hK => ?_)
  go_simp
  refine hK.out _ _ (fun _ => ⟨(p1.alloc _).cell 1, (p1.alloc _).cell 2, (p1.alloc _).cell 3, (p1.alloc _).cell 4, (p1.alloc _).cell 5⟩) (fun hS' => ?_)
  clear hK K
  replace hS := hS' (by decide)
  clear hS'
  try simp only [Act.put, List.setIfInBounds_toArray, List.set_cons_zero, List.set_cons_succ]
  refine wpAnyP_one (i := 29) rfl (by kernel_rfl) (fun K hK => ?_)
  go_simp
  refine hK.out _ _ (fun _ => ⟨(p1.alloc _).cell 1, (p1.alloc _).cell 2, (p1.alloc _).cell 3, (p1.alloc _).cell 4, (p1.alloc _).cell 5⟩) (fun hS' => ?_)
  clear hK K
  replace hS := hS' (by decide)
  clear hS'
  try simp only [Act.put, List.setIfInBounds_toArray, List.set_cons_zero, List.set_cons_succ]
  refine wpAnyP_one (i := 30) rfl (by kernel_rfl) (fun K hK => ?_)
  go_simp
  refine hK.out _ _ (fun _ => ⟨(p1.alloc _).cell 1, (p1.alloc _).cell 2, (p1.alloc _).cell 3, (p1.alloc _).cell 4, (p1.alloc _).cell 5⟩) (fun hS' => ?_)
  clear hK K
  replace hS := hS' (by decide)
  clear hS'
  try simp only [Act.put, List.setIfInBounds_toArray, List.set_cons_zero, List.set_cons_succ]
  refine wpAnyP_done (by kernel_rfl) ?_ _
  go_wp2_with (fail)
  have hv : IntKind.u8.wrap (IntKind.i64.wrap (IntKind.i64.wrap (bi r + IntKind.i64.wrap (2 * bi a)) + IntKind.i64.wrap (4 * bi k))) = bi r + 2 * bi a + 4 * bi k := by
    cases r <;> cases a <;> cases k <;> rfl
  go_ret
  refine ⟨by simp [Tm.read, hv], ?_⟩
  exact ((k1.alloc _).drew).below (by omega) (fun _ _ h => h)

set_option maxRecDepth 100000 in
set_option maxHeartbeats 2000000 in
theorem madTime_3 (t : Tm) (ht : t.Ok) (w : World) :
    Calls Tryd.prog 13 #[.agg t.cells, .int .i64 3] w fun e w' =>
      e = .returned (.int .u8 (t.read 3)) ∧ Below w.heap.size w w' := by
  obtain ⟨l, c, r, a, k, gg⟩ := t
  obtain ⟨l0, l1, c0, c1⟩ := ht
  simp only at l0 l1 c0 c1
  go_enter Tryd.func13, Tryd.ntmps13
  go_wp2_with (fail)
  have p1 := Blk.new w 25 (Tm.cells ⟨l, c, r, a, k, gg⟩)
  have k1 := (Keeps.refl (fun _ => False) w).alloc (.cells (Tm.cells ⟨l, c, r, a, k, gg⟩) 25)
  generalize hW : World.alloc _ _ = W at *
  clear hW
  generalize hB : w.heap.size = B at *
  have hr0 : 0 ≤ bi r ∧ bi r ≤ 1 := by cases r <;> decide
  have ha0 : 0 ≤ bi a ∧ bi a ≤ 1 := by cases a <;> decide
  have hk0 : 0 ≤ bi k ∧ bi k ≤ 1 := by cases k <;> decide
  have hg0 : 0 ≤ bi gg ∧ bi gg ≤ 1 := by cases gg <;> decide
  have hlt := p1.lt
  refine wp_region_P (fun w' => w'.cell? ⟨B, 1, none⟩ = some (.int .i64 c) ∧ w'.cell? ⟨B, 2, none⟩ = some (.bool r) ∧ w'.cell? ⟨B, 3, none⟩ = some (.bool a) ∧ w'.cell? ⟨B, 4, none⟩ = some (.bool k) ∧ w'.cell? ⟨B, 5, none⟩ = some (.bool gg)) [1, 4, 8, 11, 16, 22, 2, 5, 6, 9, 12, 13, 14, 17, 18, 19, 20, 23, 24, 25, 26, 28, 29, 30] (by kernel_rfl) ?_
  have hS : W.drew.cell? ⟨B, 1, none⟩ = some (.int .i64 c) ∧ W.drew.cell? ⟨B, 2, none⟩ = some (.bool r) ∧ W.drew.cell? ⟨B, 3, none⟩ = some (.bool a) ∧ W.drew.cell? ⟨B, 4, none⟩ = some (.bool k) ∧ W.drew.cell? ⟨B, 5, none⟩ = some (.bool gg) := ⟨p1.cell 1, p1.cell 2, p1.cell 3, p1.cell 4, p1.cell 5⟩
  refine wpAnyP_free (i := 0) (v := ?_) rfl (by kernel_rfl) (by kernel_rfl) (by kernel_rfl) (by kernel_rfl) (fun _ _ _ h => h) (Or.inl ⟨by rfl, ?_⟩) ?_
  rotate_left
  · rintro w _
    go_simp
    try with_reducible rfl
  simp only [Act.put, List.getElem_toArray, List.getElem_cons_succ, List.getElem_cons_zero, List.setIfInBounds_toArray, List.set_cons_zero, List.set_cons_succ]
  refine wpAnyP_free (i := 3) (v := ?_) rfl (by kernel_rfl) (by kernel_rfl) (by kernel_rfl) (by kernel_rfl) (fun _ _ _ h => h) (Or.inl ⟨by rfl, ?_⟩) ?_
  rotate_left
  · rintro w _
    go_simp
    try with_reducible rfl
  simp only [Act.put, List.getElem_toArray, List.getElem_cons_succ, List.getElem_cons_zero, List.setIfInBounds_toArray, List.set_cons_zero, List.set_cons_succ]
  refine wpAnyP_free (i := 7) (v := ?_) rfl (by kernel_rfl) (by kernel_rfl) (by kernel_rfl) (by kernel_rfl) (fun _ _ _ h => h) (Or.inl ⟨by rfl, ?_⟩) ?_
  rotate_left
  · rintro w _
    go_simp
    try with_reducible rfl
  simp only [Act.put, List.getElem_toArray, List.getElem_cons_succ, List.getElem_cons_zero, List.setIfInBounds_toArray, List.set_cons_zero, List.set_cons_succ]
  refine wpAnyP_free (i := 10) (v := ?_) rfl (by kernel_rfl) (by kernel_rfl) (by kernel_rfl) (by kernel_rfl) (fun _ _ _ h => h) (Or.inl ⟨by rfl, ?_⟩) ?_
  rotate_left
  · rintro w _
    go_simp
    try with_reducible rfl
  simp only [Act.put, List.getElem_toArray, List.getElem_cons_succ, List.getElem_cons_zero, List.setIfInBounds_toArray, List.set_cons_zero, List.set_cons_succ]
  refine wpAnyP_free (i := 15) (v := ?_) rfl (by kernel_rfl) (by kernel_rfl) (by kernel_rfl) (by kernel_rfl) (fun _ _ _ h => h) (Or.inl ⟨by rfl, ?_⟩) ?_
  rotate_left
  · rintro w _
    go_simp
    try with_reducible rfl
  simp only [Act.put, List.getElem_toArray, List.getElem_cons_succ, List.getElem_cons_zero, List.setIfInBounds_toArray, List.set_cons_zero, List.set_cons_succ]
  refine wpAnyP_free (i := 21) (v := ?_) rfl (by kernel_rfl) (by kernel_rfl) (by kernel_rfl) (by kernel_rfl) (fun _ _ _ h => h) (Or.inl ⟨by rfl, ?_⟩) ?_
  rotate_left
  · rintro w _
    go_simp
    try with_reducible rfl
  simp only [Act.put, List.getElem_toArray, List.getElem_cons_succ, List.getElem_cons_zero, List.setIfInBounds_toArray, List.set_cons_zero, List.set_cons_succ]
  refine wpAnyP_free (i := 27) (v := ?_) rfl (by kernel_rfl) (by kernel_rfl) (by kernel_rfl) (by kernel_rfl) (fun _ _ _ h => h) (Or.inl ⟨by rfl, ?_⟩) ?_
  rotate_left
  · rintro w _
    go_simp
    try with_reducible rfl
  simp only [Act.put, List.getElem_toArray, List.getElem_cons_succ, List.getElem_cons_zero, List.setIfInBounds_toArray, List.set_cons_zero, List.set_cons_succ]
  refine wpAnyP_take (i := 1) (v := ?_) rfl (by kernel_rfl) (by kernel_rfl) (by kernel_rfl) (by kernel_rfl) (fun _ _ _ h => h) (Or.inl ⟨by rfl, ?_⟩) hS ?_
  rotate_left
  · rintro w ⟨h1, h2, h3, h4, h5⟩
    go_simp
    try with_reducible rfl
  simp only [Act.put, List.getElem_toArray, List.getElem_cons_succ, List.getElem_cons_zero, List.setIfInBounds_toArray, List.set_cons_zero, List.set_cons_succ]
  refine wpAnyP_take (i := 4) (v := ?_) rfl (by kernel_rfl) (by kernel_rfl) (by kernel_rfl) (by kernel_rfl) (fun _ _ _ h => h) (Or.inl ⟨by rfl, ?_⟩) hS ?_
  rotate_left
  · rintro w ⟨h1, h2, h3, h4, h5⟩
    go_simp
    try with_reducible rfl
  simp only [Act.put, List.getElem_toArray, List.getElem_cons_succ, List.getElem_cons_zero, List.setIfInBounds_toArray, List.set_cons_zero, List.set_cons_succ]
  refine wpAnyP_take (i := 8) (v := ?_) rfl (by kernel_rfl) (by kernel_rfl) (by kernel_rfl) (by kernel_rfl) (fun _ _ _ h => h) (Or.inl ⟨by rfl, ?_⟩) hS ?_
  rotate_left
  · rintro w ⟨h1, h2, h3, h4, h5⟩
    go_simp
    try with_reducible rfl
  simp only [Act.put, List.getElem_toArray, List.getElem_cons_succ, List.getElem_cons_zero, List.setIfInBounds_toArray, List.set_cons_zero, List.set_cons_succ]
  refine wpAnyP_take (i := 11) (v := ?_) rfl (by kernel_rfl) (by kernel_rfl) (by kernel_rfl) (by kernel_rfl) (fun _ _ _ h => h) (Or.inl ⟨by rfl, ?_⟩) hS ?_
  rotate_left
  · rintro w ⟨h1, h2, h3, h4, h5⟩
    go_simp
    try with_reducible rfl
  simp only [Act.put, List.getElem_toArray, List.getElem_cons_succ, List.getElem_cons_zero, List.setIfInBounds_toArray, List.set_cons_zero, List.set_cons_succ]
  refine wpAnyP_take (i := 16) (v := ?_) rfl (by kernel_rfl) (by kernel_rfl) (by kernel_rfl) (by kernel_rfl) (fun _ _ _ h => h) (Or.inl ⟨by rfl, ?_⟩) hS ?_
  rotate_left
  · rintro w ⟨h1, h2, h3, h4, h5⟩
    go_simp
    try with_reducible rfl
  simp only [Act.put, List.getElem_toArray, List.getElem_cons_succ, List.getElem_cons_zero, List.setIfInBounds_toArray, List.set_cons_zero, List.set_cons_succ]
  refine wpAnyP_take (i := 22) (v := ?_) rfl (by kernel_rfl) (by kernel_rfl) (by kernel_rfl) (by kernel_rfl) (fun _ _ _ h => h) (Or.inl ⟨by rfl, ?_⟩) hS ?_
  rotate_left
  · rintro w ⟨h1, h2, h3, h4, h5⟩
    go_simp
    try with_reducible rfl
  simp only [Act.put, List.getElem_toArray, List.getElem_cons_succ, List.getElem_cons_zero, List.setIfInBounds_toArray, List.set_cons_zero, List.set_cons_succ]
  refine wpAnyP_take (i := 2) (v := ?_) rfl (by kernel_rfl) (by kernel_rfl) (by kernel_rfl) (by kernel_rfl) (fun _ _ _ h => h) (Or.inl ⟨by rfl, ?_⟩) hS ?_
  rotate_left
  · rintro w ⟨h1, h2, h3, h4, h5⟩
    go_simp
    try with_reducible rfl
  simp only [Act.put, List.getElem_toArray, List.getElem_cons_succ, List.getElem_cons_zero, List.setIfInBounds_toArray, List.set_cons_zero, List.set_cons_succ]
  refine wpAnyP_take (i := 5) (v := ?_) rfl (by kernel_rfl) (by kernel_rfl) (by kernel_rfl) (by kernel_rfl) (fun _ _ _ h => h) (Or.inl ⟨by rfl, ?_⟩) hS ?_
  rotate_left
  · rintro w ⟨h1, h2, h3, h4, h5⟩
    go_simp
    try with_reducible rfl
  simp only [Act.put, List.getElem_toArray, List.getElem_cons_succ, List.getElem_cons_zero, List.setIfInBounds_toArray, List.set_cons_zero, List.set_cons_succ]
  refine wpAnyP_take (i := 6) (v := ?_) rfl (by kernel_rfl) (by kernel_rfl) (by kernel_rfl) (by kernel_rfl) (fun _ _ _ h => h) (Or.inl ⟨by rfl, ?_⟩) hS ?_
  rotate_left
  · rintro w ⟨h1, h2, h3, h4, h5⟩
    go_simp
    try with_reducible rfl
  simp only [Act.put, List.getElem_toArray, List.getElem_cons_succ, List.getElem_cons_zero, List.setIfInBounds_toArray, List.set_cons_zero, List.set_cons_succ]
  refine wpAnyP_one (i := 9) rfl (by kernel_rfl) (fun K hK => ?_)
  go_simp
  refine (madOne_any _ _).mono ?_
  rintro e w' ⟨rfl, rfl⟩
  refine hK.out _ _ (fun _ => ⟨p1.cell 1, p1.cell 2, p1.cell 3, p1.cell 4, p1.cell 5⟩) (fun hS' => ?_)
  clear hK K
  replace hS := hS' (by decide)
  clear hS'
  try simp only [Act.put, List.setIfInBounds_toArray, List.set_cons_zero, List.set_cons_succ]
  refine wpAnyP_one (i := 12) rfl (by kernel_rfl) (fun K hK => ?_)
  go_simp
  refine (madOne_any _ _).mono ?_
  rintro e w' ⟨rfl, rfl⟩
  refine hK.out _ _ (fun _ => ⟨p1.cell 1, p1.cell 2, p1.cell 3, p1.cell 4, p1.cell 5⟩) (fun hS' => ?_)
  clear hK K
  replace hS := hS' (by decide)
  clear hS'
  try simp only [Act.put, List.setIfInBounds_toArray, List.set_cons_zero, List.set_cons_succ]
  refine wpAnyP_take (i := 13) (v := ?_) rfl (by kernel_rfl) (by kernel_rfl) (by kernel_rfl) (by kernel_rfl) (fun _ _ _ h => h) (Or.inl ⟨by rfl, ?_⟩) hS ?_
  rotate_left
  · rintro w ⟨h1, h2, h3, h4, h5⟩
    go_simp
    try with_reducible rfl
  simp only [Act.put, List.getElem_toArray, List.getElem_cons_succ, List.getElem_cons_zero, List.setIfInBounds_toArray, List.set_cons_zero, List.set_cons_succ]
  refine wpAnyP_take (i := 14) (v := ?_) rfl (by kernel_rfl) (by kernel_rfl) (by kernel_rfl) (by kernel_rfl) (fun _ _ _ h => h) (Or.inl ⟨by rfl, ?_⟩) hS ?_
  rotate_left
  · rintro w ⟨h1, h2, h3, h4, h5⟩
    go_simp
    try with_reducible rfl
  simp only [Act.put, List.getElem_toArray, List.getElem_cons_succ, List.getElem_cons_zero, List.setIfInBounds_toArray, List.set_cons_zero, List.set_cons_succ]
  refine wpAnyP_one (i := 17) rfl (by kernel_rfl) (fun K hK => ?_)
  go_simp
  refine (madOne_any _ _).mono ?_
  rintro e w' ⟨rfl, rfl⟩
  refine hK.out _ _ (fun _ => ⟨p1.cell 1, p1.cell 2, p1.cell 3, p1.cell 4, p1.cell 5⟩) (fun hS' => ?_)
  clear hK K
  replace hS := hS' (by decide)
  clear hS'
  try simp only [Act.put, List.setIfInBounds_toArray, List.set_cons_zero, List.set_cons_succ]
  refine wpAnyP_take (i := 18) (v := ?_) rfl (by kernel_rfl) (by kernel_rfl) (by kernel_rfl) (by kernel_rfl) (fun _ _ _ h => h) (Or.inl ⟨by rfl, ?_⟩) hS ?_
  rotate_left
  · rintro w ⟨h1, h2, h3, h4, h5⟩
    go_simp
    try with_reducible rfl
  simp only [Act.put, List.getElem_toArray, List.getElem_cons_succ, List.getElem_cons_zero, List.setIfInBounds_toArray, List.set_cons_zero, List.set_cons_succ]
  refine wpAnyP_take (i := 19) (v := ?_) rfl (by kernel_rfl) (by kernel_rfl) (by kernel_rfl) (by kernel_rfl) (fun _ _ _ h => h) (Or.inl ⟨by rfl, ?_⟩) hS ?_
  rotate_left
  · rintro w ⟨h1, h2, h3, h4, h5⟩
    go_simp
    try with_reducible rfl
  simp only [Act.put, List.getElem_toArray, List.getElem_cons_succ, List.getElem_cons_zero, List.setIfInBounds_toArray, List.set_cons_zero, List.set_cons_succ]
  refine wpAnyP_take (i := 20) (v := ?_) rfl (by kernel_rfl) (by kernel_rfl) (by kernel_rfl) (by kernel_rfl) (fun _ _ _ h => h) (Or.inl ⟨by rfl, ?_⟩) hS ?_
  rotate_left
  · rintro w ⟨h1, h2, h3, h4, h5⟩
    go_simp
    try with_reducible rfl
  simp only [Act.put, List.getElem_toArray, List.getElem_cons_succ, List.getElem_cons_zero, List.setIfInBounds_toArray, List.set_cons_zero, List.set_cons_succ]
  refine wpAnyP_one (i := 23) rfl (by kernel_rfl) (fun K hK => ?_)
  go_simp
  refine (madOne_any _ _).mono ?_
  rintro e w' ⟨rfl, rfl⟩
  refine hK.out _ _ (fun _ => ⟨p1.cell 1, p1.cell 2, p1.cell 3, p1.cell 4, p1.cell 5⟩) (fun hS' => ?_)
  clear hK K
  replace hS := hS' (by decide)
  clear hS'
  try simp only [Act.put, List.setIfInBounds_toArray, List.set_cons_zero, List.set_cons_succ]
  refine wpAnyP_take (i := 24) (v := ?_) rfl (by kernel_rfl) (by kernel_rfl) (by kernel_rfl) (by kernel_rfl) (fun _ _ _ h => h) (Or.inl ⟨by rfl, ?_⟩) hS ?_
  rotate_left
  · rintro w ⟨h1, h2, h3, h4, h5⟩
    go_simp
    try with_reducible rfl
  simp only [Act.put, List.getElem_toArray, List.getElem_cons_succ, List.getElem_cons_zero, List.setIfInBounds_toArray, List.set_cons_zero, List.set_cons_succ]
  refine wpAnyP_take (i := 25) (v := ?_) rfl (by kernel_rfl) (by kernel_rfl) (by kernel_rfl) (by kernel_rfl) (fun _ _ _ h => h) (Or.inl ⟨by rfl, ?_⟩) hS ?_
  rotate_left
  · rintro w ⟨h1, h2, h3, h4, h5⟩
    go_simp
    try with_reducible rfl
  simp only [Act.put, List.getElem_toArray, List.getElem_cons_succ, List.getElem_cons_zero, List.setIfInBounds_toArray, List.set_cons_zero, List.set_cons_succ]
  refine wpAnyP_one (i := 26) rfl (by kernel_rfl) (fun K hK => ?_)
  go_simp
  refine hK.out _ _ (fun _ => ⟨(p1.alloc _).cell 1, (p1.alloc _).cell 2, (p1.alloc _).cell 3, (p1.alloc _).cell 4, (p1.alloc _).cell 5⟩) (fun hS' => ?_)
  clear hK K
  replace hS := hS' (by decide)
  clear hS'
  try simp only [Act.put, List.setIfInBounds_toArray, List.set_cons_zero, List.set_cons_succ]
  have n1 := (Blk.new W 5 #[.int .u8 (IntKind.u8.wrap c), .int .u8 (IntKind.u8.wrap (c / 256)), .int .u8 (IntKind.u8.wrap (IntKind.i64.wrap (IntKind.i64.wrap (bi r + IntKind.i64.wrap (2 * bi a)) + IntKind.i64.wrap (4 * bi k)))), .int .u8 (IntKind.u8.wrap (IntKind.i64.wrap (128 * bi gg)))]).drew
  have n1_c3 := n1.cell 3; simp at n1_c3
  refine wpAnyP_one (i := 28) rfl (by kernel_rfl) (fun K hK => ?_)
  go_simp
  refine hK.out _ _ (fun _ => ⟨(p1.alloc _).cell 1, (p1.alloc _).cell 2, (p1.alloc _).cell 3, (p1.alloc _).cell 4, (p1.alloc _).cell 5⟩) (fun hS' => ?_)
  clear hK K
  replace hS := hS' (by decide)
  clear hS'
  try simp only [Act.put, List.setIfInBounds_toArray, List.set_cons_zero, List.set_cons_succ]
  refine wpAnyP_one (i := 29) rfl (by kernel_rfl) (fun K hK => ?_)
  go_simp
  refine hK.out _ _ (fun _ => ⟨(p1.alloc _).cell 1, (p1.alloc _).cell 2, (p1.alloc _).cell 3, (p1.alloc _).cell 4, (p1.alloc _).cell 5⟩) (fun hS' => ?_)
  clear hK K
  replace hS := hS' (by decide)
  clear hS'
  try simp only [Act.put, List.setIfInBounds_toArray, List.set_cons_zero, List.set_cons_succ]
  refine wpAnyP_one (i := 30) rfl (by kernel_rfl) (fun K hK => ?_)
  go_simp
  refine hK.out _ _ (fun _ => ⟨(p1.alloc _).cell 1, (p1.alloc _).cell 2, (p1.alloc _).cell 3, (p1.alloc _).cell 4, (p1.alloc _).cell 5⟩) (fun hS' => ?_)
  clear hK K
  replace hS := hS' (by decide)
  clear hS'
  try simp only [Act.put, List.setIfInBounds_toArray, List.set_cons_zero, List.set_cons_succ]
  refine wpAnyP_done (by kernel_rfl) ?_ _
  go_wp2_with (fail)
  have hv : IntKind.u8.wrap (IntKind.i64.wrap (128 * bi gg)) = 128 * bi gg := by
    cases gg <;> rfl
  go_ret
  refine ⟨by simp [Tm.read, hv], ?_⟩
  exact ((k1.alloc _).drew).below (by omega) (fun _ _ h => h)
end Go.Proofs.YtbjhkgmojmggjaaDoor
