/- A timer's registers read: told, Read. No condition beyond what each states. -/
import Derived.Test.YtbjhkgmojmggjaaDoorTimD
namespace Go.Proofs.YtbjhkgmojmggjaaDoor
set_option linter.unusedSimpArgs false
set_option linter.unusedVariables false
set_option linter.unnecessarySimpa false
set_option linter.unusedSectionVars false
open Go.RowKit
attribute [local go_sem ↓] Go.wp_at_zero Go.wp_at_succ

def bi (b : Bool) : Int := if b then 1 else 0
def Tm.read (t : Tm) (reg : Int) : Int :=
  if reg = 0 then t.c % 256 else if reg = 1 then t.c / 256 else if reg = 2 then bi t.r + 2 * bi t.a + 4 * bi t.k else 128 * bi t.g

theorem madOne_any (b : Bool) (w : World) : Calls Tryd.prog 27 #[.bool b] w fun e w' => e = .returned (.int .i64 (bi b)) ∧ w' = w := by
  go_enter Tryd.func27, Tryd.ntmps27
  cases b <;> (go_wp2; go_ret; exact ⟨rfl, rfl⟩)

set_option maxRecDepth 100000 in
set_option maxHeartbeats 1000000 in
theorem told_one (g cap : Nat) (x : Bool) (w : World) (hc : w.cell? ⟨g, 0, none⟩ = some (.bool x)) :
    Calls Tryd.prog 68 #[.slice (some ⟨g, 0, none⟩) 1 cap] w fun e w' => e = .returned (.int .u8 (bi x)) ∧ w' = w := by
  go_enter Tryd.func68, Tryd.ntmps68
  go_wp2_with (fail)
  refine wp_loop_rounds 2 ?_
  rw [rounds_succ]
  cases x
  · go_wp2_with (fail)
    rw [rounds_succ]
    go_wp2_with (fail)
    go_ret
    exact ⟨rfl, rfl⟩
  · go_wp2_with (fail)
    rw [rounds_succ]
    go_wp2_with (fail)
    go_ret
    exact ⟨rfl, rfl⟩

set_option maxRecDepth 100000 in
set_option maxHeartbeats 1000000 in
theorem told_three (g cap : Nat) (x y z : Bool) (w : World) (h0 : w.cell? ⟨g, 0, none⟩ = some (.bool x)) (h1 : w.cell? ⟨g, 1, none⟩ = some (.bool y)) (h2 : w.cell? ⟨g, 2, none⟩ = some (.bool z)) :
    Calls Tryd.prog 68 #[.slice (some ⟨g, 0, none⟩) 3 cap] w fun e w' => e = .returned (.int .u8 (bi x + 2 * bi y + 4 * bi z)) ∧ w' = w := by
  go_enter Tryd.func68, Tryd.ntmps68
  go_wp2_with (fail)
  refine wp_loop_rounds 4 ?_
  rw [rounds_succ]
  cases x <;> cases y <;> cases z <;> (go_wp2_with (fail); rw [rounds_succ]; go_wp2_with (fail); rw [rounds_succ]; go_wp2_with (fail); rw [rounds_succ]; go_wp2_with (fail); go_ret; exact ⟨rfl, rfl⟩)

set_option maxRecDepth 100000 in
set_option maxHeartbeats 1000000 in
theorem Read_any (g : Nat) (t : Tm) (ht : t.Ok) (reg : Int) (w : World) (hb : TmB w g t) :
    Calls Tryd.prog 12 #[.pointer (some ⟨g, 0, none⟩), .int .i64 reg] w fun e w' =>
      e = .returned (.tuple #[.int .u8 (if 0 ≤ reg ∧ reg < 4 then t.read reg else 0), .int .i64 (if 0 ≤ reg ∧ reg < 4 then 0 else 10)]) ∧ Below w.heap.size w w' := by
  obtain ⟨l, c, r, a, k, gg⟩ := t
  obtain ⟨l0, l1, c0, c1⟩ := ht
  simp only at l0 l1 c0 c1
  have hb_c0 := hb.cell 0; have hb_c1 := hb.cell 1; have hb_c2 := hb.cell 2; have hb_c3 := hb.cell 3; have hb_c4 := hb.cell 4; have hb_c5 := hb.cell 5; simp at hb_c0 hb_c1 hb_c2 hb_c3 hb_c4 hb_c5
  go_enter Tryd.func12, Tryd.ntmps12
  by_cases e0 : reg = 0
  · subst e0
    go_wp2_with (fail)
    go_ret2
    exact ⟨by simp [Tm.read], Below.refl _ _⟩
  · by_cases e1 : reg = 1
    · subst e1
      go_wp2_with (fail)
      go_ret2
      exact ⟨by simp [Tm.read], Below.refl _ _⟩
    · by_cases e3 : reg = 3
      · subst e3
        go_wp2_with (go_at_call 68; refine (told_one _ _ gg _ (by simp)).mono ?_; rintro e w' ⟨rfl, rfl⟩)
        go_ret2
        refine ⟨by cases gg <;> simp [Tm.read, bi], ?_⟩
        exact (Below.refl _ _).alloc (Nat.le_refl _) _
      · by_cases e2 : reg = 2
        · subst e2
          go_wp2_with (fail)
          refine wp_region_P (fun w' => w'.cell? ⟨g, 2, none⟩ = some (.bool r) ∧ w'.cell? ⟨g, 3, none⟩ = some (.bool a) ∧ w'.cell? ⟨g, 4, none⟩ = some (.bool k)) [3, 7, 11, 12, 13, 14, 15] (by kernel_rfl) ?_
          have hS : w.drew.cell? ⟨g, 2, none⟩ = some (.bool r) ∧ w.drew.cell? ⟨g, 3, none⟩ = some (.bool a) ∧ w.drew.cell? ⟨g, 4, none⟩ = some (.bool k) := ⟨hb_c2, hb_c3, hb_c4⟩
          refine wpAnyP_free (i := 0) (v := ?_) rfl (by kernel_rfl) (by kernel_rfl) (by kernel_rfl) (by kernel_rfl) (fun _ _ _ h => h) (Or.inl ⟨by rfl, ?_⟩) ?_
          rotate_left
          · rintro w _
            go_simp
            try with_reducible rfl
          simp only [Act.put, List.getElem_toArray, List.getElem_cons_succ, List.getElem_cons_zero, List.setIfInBounds_toArray, List.set_cons_zero, List.set_cons_succ]
          refine wpAnyP_free (i := 1) (v := ?_) rfl (by kernel_rfl) (by kernel_rfl) (by kernel_rfl) (by kernel_rfl) (fun _ _ _ h => h) (Or.inl ⟨by rfl, ?_⟩) ?_
          rotate_left
          · rintro w _
            go_simp
            try with_reducible rfl
          simp only [Act.put, List.getElem_toArray, List.getElem_cons_succ, List.getElem_cons_zero, List.setIfInBounds_toArray, List.set_cons_zero, List.set_cons_succ]
          refine wpAnyP_free (i := 2) (v := ?_) rfl (by kernel_rfl) (by kernel_rfl) (by kernel_rfl) (by kernel_rfl) (fun _ _ _ h => h) (Or.inl ⟨by rfl, ?_⟩) ?_
          rotate_left
          · rintro w _
            go_simp
            try with_reducible rfl
          simp only [Act.put, List.getElem_toArray, List.getElem_cons_succ, List.getElem_cons_zero, List.setIfInBounds_toArray, List.set_cons_zero, List.set_cons_succ]
          refine wpAnyP_free (i := 4) (v := ?_) rfl (by kernel_rfl) (by kernel_rfl) (by kernel_rfl) (by kernel_rfl) (fun _ _ _ h => h) (Or.inl ⟨by rfl, ?_⟩) ?_
          rotate_left
          · rintro w _
            go_simp
            try with_reducible rfl
          simp only [Act.put, List.getElem_toArray, List.getElem_cons_succ, List.getElem_cons_zero, List.setIfInBounds_toArray, List.set_cons_zero, List.set_cons_succ]
          refine wpAnyP_free (i := 5) (v := ?_) rfl (by kernel_rfl) (by kernel_rfl) (by kernel_rfl) (by kernel_rfl) (fun _ _ _ h => h) (Or.inl ⟨by rfl, ?_⟩) ?_
          rotate_left
          · rintro w _
            go_simp
            try with_reducible rfl
          simp only [Act.put, List.getElem_toArray, List.getElem_cons_succ, List.getElem_cons_zero, List.setIfInBounds_toArray, List.set_cons_zero, List.set_cons_succ]
          refine wpAnyP_free (i := 6) (v := ?_) rfl (by kernel_rfl) (by kernel_rfl) (by kernel_rfl) (by kernel_rfl) (fun _ _ _ h => h) (Or.inl ⟨by rfl, ?_⟩) ?_
          rotate_left
          · rintro w _
            go_simp
            try with_reducible rfl
          simp only [Act.put, List.getElem_toArray, List.getElem_cons_succ, List.getElem_cons_zero, List.setIfInBounds_toArray, List.set_cons_zero, List.set_cons_succ]
          refine wpAnyP_free (i := 8) (v := ?_) rfl (by kernel_rfl) (by kernel_rfl) (by kernel_rfl) (by kernel_rfl) (fun _ _ _ h => h) (Or.inl ⟨by rfl, ?_⟩) ?_
          rotate_left
          · rintro w _
            go_simp
            try with_reducible rfl
          simp only [Act.put, List.getElem_toArray, List.getElem_cons_succ, List.getElem_cons_zero, List.setIfInBounds_toArray, List.set_cons_zero, List.set_cons_succ]
          refine wpAnyP_free (i := 9) (v := ?_) rfl (by kernel_rfl) (by kernel_rfl) (by kernel_rfl) (by kernel_rfl) (fun _ _ _ h => h) (Or.inl ⟨by rfl, ?_⟩) ?_
          rotate_left
          · rintro w _
            go_simp
            try with_reducible rfl
          simp only [Act.put, List.getElem_toArray, List.getElem_cons_succ, List.getElem_cons_zero, List.setIfInBounds_toArray, List.set_cons_zero, List.set_cons_succ]
          refine wpAnyP_free (i := 10) (v := ?_) rfl (by kernel_rfl) (by kernel_rfl) (by kernel_rfl) (by kernel_rfl) (fun _ _ _ h => h) (Or.inl ⟨by rfl, ?_⟩) ?_
          rotate_left
          · rintro w _
            go_simp
            try with_reducible rfl
          simp only [Act.put, List.getElem_toArray, List.getElem_cons_succ, List.getElem_cons_zero, List.setIfInBounds_toArray, List.set_cons_zero, List.set_cons_succ]
          refine wpAnyP_take (i := 3) (v := ?_) rfl (by kernel_rfl) (by kernel_rfl) (by kernel_rfl) (by kernel_rfl) (fun _ _ _ h => h) (Or.inl ⟨by rfl, ?_⟩) hS ?_
          rotate_left
          · rintro w ⟨h1, h2, h3⟩
            go_simp
            try with_reducible rfl
          simp only [Act.put, List.getElem_toArray, List.getElem_cons_succ, List.getElem_cons_zero, List.setIfInBounds_toArray, List.set_cons_zero, List.set_cons_succ]
          refine wpAnyP_take (i := 7) (v := ?_) rfl (by kernel_rfl) (by kernel_rfl) (by kernel_rfl) (by kernel_rfl) (fun _ _ _ h => h) (Or.inl ⟨by rfl, ?_⟩) hS ?_
          rotate_left
          · rintro w ⟨h1, h2, h3⟩
            go_simp
            try with_reducible rfl
          simp only [Act.put, List.getElem_toArray, List.getElem_cons_succ, List.getElem_cons_zero, List.setIfInBounds_toArray, List.set_cons_zero, List.set_cons_succ]
          refine wpAnyP_take (i := 11) (v := ?_) rfl (by kernel_rfl) (by kernel_rfl) (by kernel_rfl) (by kernel_rfl) (fun _ _ _ h => h) (Or.inl ⟨by rfl, ?_⟩) hS ?_
          rotate_left
          · rintro w ⟨h1, h2, h3⟩
            go_simp
            try with_reducible rfl
          simp only [Act.put, List.getElem_toArray, List.getElem_cons_succ, List.getElem_cons_zero, List.setIfInBounds_toArray, List.set_cons_zero, List.set_cons_succ]
          refine wpAnyP_one (i := 12) rfl (by kernel_rfl) (fun K hK => ?_)
          go_simp
          refine hK.out _ _ (fun _ => ⟨(hb.alloc _).cell 2, (hb.alloc _).cell 3, (hb.alloc _).cell 4⟩) (fun hS' => ?_)
          clear hK K
          replace hS := hS' (by decide)
          clear hS'
          try simp only [Act.put, List.setIfInBounds_toArray, List.set_cons_zero, List.set_cons_succ]
          have hn := (Blk.new w 4 #[.bool r, .bool a, .bool k]).drew
          refine wpAnyP_one (i := 13) rfl (by kernel_rfl) (fun K hK => ?_)
          go_simp
          refine (told_three _ _ r a k _ (by exact hn.cell 0) (by exact hn.cell 1) (by exact hn.cell 2)).mono ?_
          rintro e w' ⟨rfl, rfl⟩
          refine hK.out _ _ (fun _ => ⟨(hb.alloc _).cell 2, (hb.alloc _).cell 3, (hb.alloc _).cell 4⟩) (fun hS' => ?_)
          clear hK K
          replace hS := hS' (by decide)
          clear hS'
          try simp only [Act.put, List.setIfInBounds_toArray, List.set_cons_zero, List.set_cons_succ]
          refine wpAnyP_take (i := 14) (v := ?_) rfl (by kernel_rfl) (by kernel_rfl) (by kernel_rfl) (by kernel_rfl) (fun _ _ _ h => h) (Or.inl ⟨by rfl, ?_⟩) hS ?_
          rotate_left
          · rintro w ⟨h1, h2, h3⟩
            go_simp
            try with_reducible rfl
          simp only [Act.put, List.getElem_toArray, List.getElem_cons_succ, List.getElem_cons_zero, List.setIfInBounds_toArray, List.set_cons_zero, List.set_cons_succ]
          refine wpAnyP_take (i := 15) (v := ?_) rfl (by kernel_rfl) (by kernel_rfl) (by kernel_rfl) (by kernel_rfl) (fun _ _ _ h => h) (Or.inl ⟨by rfl, ?_⟩) hS ?_
          rotate_left
          · rintro w ⟨h1, h2, h3⟩
            go_simp
            try with_reducible rfl
          simp only [Act.put, List.getElem_toArray, List.getElem_cons_succ, List.getElem_cons_zero, List.setIfInBounds_toArray, List.set_cons_zero, List.set_cons_succ]
          refine wpAnyP_done (by kernel_rfl) ?_ _
          go_wp2_with (fail)
          go_ret2
          refine ⟨by simp [Tm.read], ?_⟩
          exact ((Below.refl _ _).alloc (Nat.le_refl _) _).drew
        · go_wp2_with (fail)
          go_ret2
          have hn : ¬ (0 ≤ reg ∧ reg < 4) := by omega
          exact ⟨by simp [hn], Below.refl _ _⟩
end Go.Proofs.YtbjhkgmojmggjaaDoor
