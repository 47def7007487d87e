/- The lexer's small functions: contracts. No condition beyond what each states. -/
import Derived.Test.YtbjhkgmojmggjaaDoorBase
import Derived.Deep.RegionHeld3
import Derived.Deep.RegionLaw
import Derived.Deep.AppendLies
import Derived.Deep.DrawnRows
import Derived.Maps.AppendAt
namespace Go.Proofs.YtbjhkgmojmggjaaDoor
set_option linter.unusedSimpArgs false
set_option linter.unusedVariables false
set_option linter.unnecessarySimpa false
set_option linter.unusedSectionVars false
open Go.RowKit
attribute [local go_sem ↓] Go.wp_at_zero Go.wp_at_succ

/-- (*line).place: no new line's number is looked at; one block for the answer. -/
theorem place_any (g : Nat) (s l : Value) (n at_ k : Int) (w : World) (hb : Blk w g 227 #[s, .int .i64 n, .int .i64 at_, l])
    (h0 : 0 ≤ k) (h1 : k < 1000000) :
    Calls Tryd.prog 141 #[.pointer (some ⟨g, 0, none⟩), .int .i64 k] w fun e w' =>
      e = .returned (.agg #[.int .i64 n, .int .i64 (k + 1)]) ∧ w' = w.alloc (.cells #[.int .i64 n, .int .i64 (k + 1)] 132) := by
  have hg := hb.lt
  have c1 := hb.cell 1
  simp at c1
  go_enter Tryd.func141, Tryd.ntmps141
  go_wp2
  refine bodyPost_ret (v := .agg #[.int .i64 n, .int .i64 (k + 1)]) (by simp [results, Tryd.results141, go_sem]) rfl ⟨rfl, rfl⟩

theorem info_token : (Tryd.prog.info? 199).map (fun i => (i.zero, i.size, i.bytes)) = some (some (.agg #[.int .i64 0, .string ByteArray.empty, .int .i64 0, .int .i64 0, .int .i64 0]), 5, 48) := by kernel_rfl

/-- (*line).add. -/
theorem add_any (g : Nat) (s v : Value) (n at_ to : Int) (kd nn : Int) (tx : ByteArray) (l0 c0 : Value) (B m : Nat) (xs : List Value) (w : World)
    (hb : Blk w g 227 #[s, .int .i64 n, .int .i64 at_, v]) (hown : w.ownsRow B 199 5 v m xs)
    (h0 : 0 ≤ at_) (h1 : at_ < 1000000) (hm : m < 1000000) (hv : v.ownBlock ≠ some g) (hB : B ≤ w.heap.size) :
    Calls Tryd.prog 159 #[.pointer (some ⟨g, 0, none⟩), .agg #[.int .i64 kd, .string tx, .int .i64 nn, l0, c0], .int .i64 to] w fun e w' =>
      e = .returned (.tuple #[]) ∧ ∃ b cap, Blk w' g 227 #[s, .int .i64 n, .int .i64 to, .slice (some ⟨b, 0, none⟩) (m + 1) cap] ∧
        w'.ownsRow B 199 5 (.slice (some ⟨b, 0, none⟩) (m + 1) cap) (m + 1) (xs ++ [.int .i64 kd, .string tx, .int .i64 nn, .int .i64 n, .int .i64 (at_ + 1)]) ∧
        (v.ownBlock = some b ∨ w.heap.size ≤ b) ∧
        Keeps (fun k => k = g ∨ v.ownBlock = some k) w w' := by
  obtain ⟨i0, hi0, hz0, hz1, hz2⟩ := info_parts info_token
  have hg := hb.lt
  have c0' := hb.cell 0
  have c1 := hb.cell 1
  have c2 := hb.cell 2
  have c3 := hb.cell 3
  have f2 := hb.frozen 2
  have f3 := hb.frozen 3
  simp at c0' c1 c2 c3
  go_enter Tryd.func159, Tryd.ntmps159
  go_wp2_with (go_at_call 141; refine (place_any g s v n at_ _ _ (hb.alloc _) h0 h1).mono ?_; rintro e w' ⟨rfl, rfl⟩)
  have k3 : ∀ o1 o2 o3, (((w.alloc o1).alloc o2).alloc o3).cell? ⟨g, 3, none⟩ = some v := fun o1 o2 o3 => (((hb.alloc o1).alloc o2).alloc o3).cell 3
  go_region_law ((refine step_append_lies _ rfl (.tmp 18) (.tmp 20) 189 rfl B 199 i0 _ 5 48 Tryd.underlying189 hi0 hz0 hz1 hz2 rfl (by omega) v m xs (by rfl) (by exact own_drew (((hown.alloc _).alloc _).alloc _)) ⟨w.heap.size + 1 + 1, 0, none⟩ 1 1 [.int .i64 kd, .string tx, .int .i64 nn, .int .i64 n, .int .i64 (at_ + 1)] (by rfl) rfl (by exact news_new_drew _ _ _ _ (by simp)) (by simp [Value.oneCell']) (by omega) (by unfold maxLen; omega) (by omega) (by go_size) _ rfl ?_; intro g1 cap1 w1 hown1 hg1 hat1 hlt1; have hb1 := ((((hb.alloc _).alloc _).alloc _).drew).keeps ((Keeps.refl (fun k => v.ownBlock = some k) _).grown hg1 (fun k hk => .inl hk)) hv; have d2 := hb1.cell 2; have d3 := hb1.cell 3; have e2 := hb1.frozen 2; have e3 := hb1.frozen 3; simp at d2 d3))
  all_goals
    go_end0
    have hne : g1 ≠ g := by
      rintro rfl
      rcases hat1 with h | h
      · exact hv h
      · simp at h; omega
    refine ⟨rfl, g1, cap1, (hb1.set_ 3 _).set_ 2 _, ?_, ?_, ?_⟩
    · exact (((Keeps.refl (fun k => k = g) w1).setCell (p := ⟨g, 3, none⟩) (.inl rfl) _).setCell (p := ⟨g, 2, none⟩) (.inl rfl) _).own hown1 (fun b hb => by simp [Value.ownBlock] at hb; omega)
    · rcases hat1 with h | h
      · exact .inl h
      · exact .inr (by simp at h; omega)
    · exact (((((((Keeps.refl _ w).alloc _).alloc _).alloc _).drew).grown hg1 (fun k hk => .inl (.inr hk))).setCell (p := ⟨g, 3, none⟩) (.inl (.inl rfl)) _).setCell (p := ⟨g, 2, none⟩) (.inl (.inl rfl)) _
end Go.Proofs.YtbjhkgmojmggjaaDoor
