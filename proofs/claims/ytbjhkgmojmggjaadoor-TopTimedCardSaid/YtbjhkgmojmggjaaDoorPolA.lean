/- The policy reader's small functions: contracts. No condition beyond what each states. -/
import Derived.Test.YtbjhkgmojmggjaaDoorLexD
namespace Go.Proofs.YtbjhkgmojmggjaaDoor
set_option linter.unusedSimpArgs false
set_option linter.unusedVariables false
set_option linter.unnecessarySimpa false
set_option linter.unusedSectionVars false
open Go.RowKit
attribute [local go_sem ↓] Go.wp_at_zero Go.wp_at_succ

theorem Blk.at_ {w : World} {i j : Nat} {t : TypeId} {cs : Array Value} (h : Blk w i t cs) (e : i = j) : Blk w j t cs := e ▸ h
theorem Blk.eqh {w X Y : World} {g : Nat} {t : TypeId} {cs : Array Value} (h : Blk w g t cs) (hX : Y = X) (hh : Y.heap = w.heap := by rfl) : Blk X g t cs := by
  subst hX
  unfold Blk at h ⊢
  rw [hh]
  exact h
theorem value_yes (tx : ByteArray) (nn ln cl : Int) (w : World) :
    Calls Tryd.prog 144 #[.agg #[.int .i64 2, .string tx, .int .i64 nn, .int .i64 ln, .int .i64 cl]] w fun e w' =>
      e = .returned (.tuple #[.int .i64 nn, .bool true]) ∧ Below w.heap.size w w' := by
  go_enter Tryd.func144, Tryd.ntmps144
  go_wp2
  go_quiet (fail)
  go_wp2
  go_ret2
  refine ⟨rfl, ?_⟩
  exact below_drewN ((Below.refl _ _).alloc (Nat.le_refl _) _) _

theorem end_yes (tx : ByteArray) (nn ln cl : Int) (w : World) :
    Calls Tryd.prog 146 #[.agg #[.int .i64 4, .string tx, .int .i64 nn, .int .i64 ln, .int .i64 cl]] w fun e w' =>
      e = .returned (.tuple #[.int .i64 0, .bool true]) ∧ Below w.heap.size w w' := by
  go_enter Tryd.func146, Tryd.ntmps146
  go_wp2
  go_quiet (fail)
  go_wp2
  go_ret2
  refine ⟨rfl, ?_⟩
  exact below_drewN ((Below.refl _ _).alloc (Nat.le_refl _) _) _

/-- A policy reader's block. -/
abbrev RdB (w : World) (g : Nat) (l sec snk : Value) (dec trc e : Int) (ln cl : Int) (seen : Value) : Prop :=
  Blk w g 195 #[l, sec, snk, .int .i64 dec, .int .i64 trc, .int .i64 ln, .int .i64 cl, .int .i64 e, seen]

/-- A token's five cells. -/
structure Tok (w : World) (bt off : Nat) (k : Int) (tx : ByteArray) (nn ln cl : Int) : Prop where
  c0 : w.cell? ⟨bt, off, none⟩ = some (.int .i64 k)
  c1 : w.cell? ⟨bt, off + 1, none⟩ = some (.string tx)
  c2 : w.cell? ⟨bt, off + 2, none⟩ = some (.int .i64 nn)
  c3 : w.cell? ⟨bt, off + 3, none⟩ = some (.int .i64 ln)
  c4 : w.cell? ⟨bt, off + 4, none⟩ = some (.int .i64 cl)
theorem Tok.eqw {w X : World} {bt off : Nat} {k : Int} {tx : ByteArray} {nn ln cl : Int} (h : Tok w bt off k tx nn ln cl) (hX : w = X) : Tok X bt off k tx nn ln cl := hX ▸ h
theorem Tok.alloc {w : World} {bt off : Nat} {k : Int} {tx : ByteArray} {nn ln cl : Int} (h : Tok w bt off k tx nn ln cl) (o : Obj) : Tok (w.alloc o) bt off k tx nn ln cl :=
  ⟨cell_alloc h.c0 _, cell_alloc h.c1 _, cell_alloc h.c2 _, cell_alloc h.c3 _, cell_alloc h.c4 _⟩
theorem Tok.keeps {S : Nat → Prop} {w w' : World} {bt off : Nat} {k : Int} {tx : ByteArray} {nn ln cl : Int} (h : Tok w bt off k tx nn ln cl) (hk : Keeps S w w') (hn : ¬ S bt) : Tok w' bt off k tx nn ln cl :=
  ⟨hk.cell h.c0 hn, hk.cell h.c1 hn, hk.cell h.c2 hn, hk.cell h.c3 hn, hk.cell h.c4 hn⟩

theorem Blk.fr {w : World} {g : Nat} {t : TypeId} {cs : Array Value} (h : Blk w g t cs) {p : Addr} {u : Value} (hp : g ≠ p.block := by (simp <;> omega)) : Blk (w.setCell p u) g t cs := h.far hp u
theorem Blk.st {w : World} {g : Nat} {t : TypeId} {cs : Array Value} (h : Blk w g t cs) {i : Nat} {u : Value} : Blk (w.setCell ⟨g, i, none⟩ u) g t (cs.setIfInBounds i u) := h.set_ i u
theorem Keeps.st {S : Nat → Prop} {a w : World} (h : Keeps S a w) {p : Addr} {u : Value} (hp : S p.block ∨ a.heap.size ≤ p.block := by first | exact .inl rfl | exact .inr (by simp <;> omega)) : Keeps S a (w.setCell p u) := h.setCell hp u
theorem Tok.fr {w : World} {bt off : Nat} {k : Int} {tx : ByteArray} {nn ln cl : Int} (h : Tok w bt off k tx nn ln cl) {p : Addr} {u : Value} (hp : bt ≠ p.block := by (simp <;> omega)) : Tok (w.setCell p u) bt off k tx nn ln cl :=
  h.keeps ((Keeps.refl (fun x => x = p.block) w).setCell (.inl rfl) u) hp
set_option maxRecDepth 100000 in
theorem take_value (g bt off n c : Nat) (sec snk seen : Value) (dec trc pl pc : Int) (tx : ByteArray) (nn ln cl : Int) (w : World)
    (hb : RdB w g (.slice (some ⟨bt, off, none⟩) (n + 1) c) sec snk dec trc 0 pl pc seen) (hc : 1 < c) (ht : Tok w bt off 2 tx nn ln cl) :
    Calls Tryd.prog 143 #[.pointer (some ⟨g, 0, none⟩), .func (.func 144) #[] #[]] w fun e w' =>
      e = .returned (.tuple #[.int .i64 nn, .agg #[.int .i64 ln, .int .i64 cl]]) ∧ RdB w' g (.slice (some ⟨bt, off + 5, none⟩) n (c - 1)) sec snk dec trc 0 pl pc seen ∧ Keeps (fun k => k = g) w w' := by
  have c0 := hb.cell 0
  have c7 := hb.cell 7
  have f0 := hb.frozen 0
  simp at c0 c7
  have gl := hb.lt
  have hc1 : ¬ c = 1 := by omega
  have hn1 : ¬ ((n : Int) + 1 = 0) := by omega
  have d0 := fun o => cell_alloc c0 o
  have k0 := fun o => cell_alloc ht.c0 o
  have k1 := fun o => cell_alloc ht.c1 o
  have k2 := fun o => cell_alloc ht.c2 o
  have k3 := fun o => cell_alloc ht.c3 o
  have k4 := fun o => cell_alloc ht.c4 o
  go_enter Tryd.func143, Tryd.ntmps143
  go_wp2_with (go_at_call 144; refine (value_yes tx nn ln cl _).mono ?_; rintro e w1 ⟨rfl, hb1⟩; have r1 := ((hb.alloc _).alloc _).later hb1; have q0 := r1.cell 0; have g0 := r1.frozen 0; simp at q0; have k1 : Keeps (fun k => k = g) w w1 := (((Keeps.refl _ _).alloc _).alloc _).trans (Keeps.of_below hb1 (S := fun _ => False)) (fun _ _ h => h.elim); have s1 := (Blk.new (w.alloc (Obj.cells #[Value.int IntKind.i64 0, Value.int IntKind.i64 0] 132)) 199 _).later hb1; have t1 := ((Blk.new w 132 #[.int .i64 0, .int .i64 0]).alloc _).later hb1; simp at s1)
  generalize hW : World.setCell _ _ _ = W
  have r2 : RdB W g (.slice (some ⟨bt, off + 5, none⟩) n (c - 1)) sec snk dec trc 0 pl pc seen := by rw [← hW]; simpa using r1.set_ 0 (.slice (some ⟨bt, off + 5, none⟩) n (c - 1))
  have s2 := s1.far (p := ⟨g, 0, none⟩) (by simp; omega) (.slice (some ⟨bt, off + 5, none⟩) n (c - 1))
  have t2 := t1.far (p := ⟨g, 0, none⟩) (by simp; omega) (.slice (some ⟨bt, off + 5, none⟩) n (c - 1))
  rw [hW] at s2 t2
  have kk : Keeps (fun k => k = g) w W := by rw [← hW]; exact k1.setCell (.inl rfl) _
  clear hW k1 r1 s1 t1 hb1
  have s2_c3 := s2.cell 3; have s2_c4 := s2.cell 4; simp at s2_c3 s2_c4
  have t2_c0 := t2.cell 0; have t2_c1 := t2.cell 1; have t2_f0 := t2.frozen 0; have t2_f1 := t2.frozen 1; simp at t2_c0 t2_c1
  go_region_law (fail)
  go_wp2
  generalize hX : World.drew _ = X
  have r3 : RdB X g (.slice (some ⟨bt, off + 5, none⟩) n (c - 1)) sec snk dec trc 0 pl pc seen := by rw [← hX]; exact ((r2.far (by simp; omega) _).far (by simp; omega) _).drew
  have t3 : Blk X w.heap.size 132 #[.int .i64 ln, .int .i64 cl] := by rw [← hX]; exact ((t2.set_ 0 _).set_ 1 _).drew
  have k3 : Keeps (fun k => k = g) w X := by rw [← hX]; exact ((kk.setCell (.inr (Nat.le_refl _)) _).setCell (.inr (Nat.le_refl _)) _).drew
  have t3_c0 := t3.cell 0; have t3_c1 := t3.cell 1; simp at t3_c0 t3_c1
  refine bodyPost_ret (v := .tuple #[.int .i64 nn, .agg #[.int .i64 ln, .int .i64 cl]]) (by simp [results, Tryd.results143, go_sem, t3_c0, t3_c1]) rfl ⟨rfl, r3, k3⟩
set_option maxRecDepth 100000 in
theorem take_end (g bt off c : Nat) (sec snk seen : Value) (dec trc pl pc : Int) (tx : ByteArray) (nn ln cl : Int) (w : World)
    (hb : RdB w g (.slice (some ⟨bt, off, none⟩) 1 c) sec snk dec trc 0 pl pc seen) (hc : 1 < c) (ht : Tok w bt off 4 tx nn ln cl) :
    Calls Tryd.prog 143 #[.pointer (some ⟨g, 0, none⟩), .func (.func 146) #[] #[]] w fun e w' =>
      e = .returned (.tuple #[.int .i64 0, .agg #[.int .i64 ln, .int .i64 cl]]) ∧ RdB w' g (.slice (some ⟨bt, off + 5, none⟩) 0 (c - 1)) sec snk dec trc 0 pl pc seen ∧ Keeps (fun k => k = g) w w' := by
  have c0 := hb.cell 0
  have c7 := hb.cell 7
  have f0 := hb.frozen 0
  simp at c0 c7
  have gl := hb.lt
  have hc1 : ¬ c = 1 := by omega
  have d0 := fun o => cell_alloc c0 o
  have k0 := fun o => cell_alloc ht.c0 o
  have k1 := fun o => cell_alloc ht.c1 o
  have k2 := fun o => cell_alloc ht.c2 o
  have k3 := fun o => cell_alloc ht.c3 o
  have k4 := fun o => cell_alloc ht.c4 o
  go_enter Tryd.func143, Tryd.ntmps143
  go_wp2_with (go_at_call 146; refine (end_yes tx nn ln cl _).mono ?_; rintro e w1 ⟨rfl, hb1⟩; have r1 := ((hb.alloc _).alloc _).later hb1; have q0 := r1.cell 0; have g0 := r1.frozen 0; simp at q0; have k1 : Keeps (fun k => k = g) w w1 := (((Keeps.refl _ _).alloc _).alloc _).trans (Keeps.of_below hb1 (S := fun _ => False)) (fun _ _ h => h.elim); have s1 := (Blk.new (w.alloc (Obj.cells #[Value.int IntKind.i64 0, Value.int IntKind.i64 0] 132)) 199 _).later hb1; have t1 := ((Blk.new w 132 #[.int .i64 0, .int .i64 0]).alloc _).later hb1; simp at s1)
  generalize hW : World.setCell _ _ _ = W
  have r2 : RdB W g (.slice (some ⟨bt, off + 5, none⟩) 0 (c - 1)) sec snk dec trc 0 pl pc seen := by rw [← hW]; simpa using r1.set_ 0 (.slice (some ⟨bt, off + 5, none⟩) 0 (c - 1))
  have s2 := s1.far (p := ⟨g, 0, none⟩) (by simp; omega) (.slice (some ⟨bt, off + 5, none⟩) 0 (c - 1))
  have t2 := t1.far (p := ⟨g, 0, none⟩) (by simp; omega) (.slice (some ⟨bt, off + 5, none⟩) 0 (c - 1))
  rw [hW] at s2 t2
  have kk : Keeps (fun k => k = g) w W := by rw [← hW]; exact k1.setCell (.inl rfl) _
  clear hW k1 r1 s1 t1 hb1
  have s2_c3 := s2.cell 3; have s2_c4 := s2.cell 4; simp at s2_c3 s2_c4
  have t2_c0 := t2.cell 0; have t2_c1 := t2.cell 1; have t2_f0 := t2.frozen 0; have t2_f1 := t2.frozen 1; simp at t2_c0 t2_c1
  go_region_law (fail)
  go_wp2
  generalize hX : World.drew _ = X
  have r3 : RdB X g (.slice (some ⟨bt, off + 5, none⟩) 0 (c - 1)) sec snk dec trc 0 pl pc seen := by rw [← hX]; exact ((r2.far (by simp; omega) _).far (by simp; omega) _).drew
  have t3 : Blk X w.heap.size 132 #[.int .i64 ln, .int .i64 cl] := by rw [← hX]; exact ((t2.set_ 0 _).set_ 1 _).drew
  have k3 : Keeps (fun k => k = g) w X := by rw [← hX]; exact ((kk.setCell (.inr (Nat.le_refl _)) _).setCell (.inr (Nat.le_refl _)) _).drew
  have t3_c0 := t3.cell 0; have t3_c1 := t3.cell 1; simp at t3_c0 t3_c1
  refine bodyPost_ret (v := .tuple #[.int .i64 0, .agg #[.int .i64 ln, .int .i64 cl]]) (by simp [results, Tryd.results143, go_sem, t3_c0, t3_c1]) rfl ⟨rfl, r3, k3⟩
set_option maxRecDepth 100000 in
theorem take_end1 (g bt off : Nat) (sec snk seen : Value) (dec trc pl pc : Int) (tx : ByteArray) (nn ln cl : Int) (w : World)
    (hb : RdB w g (.slice (some ⟨bt, off, none⟩) 1 1) sec snk dec trc 0 pl pc seen)  (ht : Tok w bt off 4 tx nn ln cl) :
    Calls Tryd.prog 143 #[.pointer (some ⟨g, 0, none⟩), .func (.func 146) #[] #[]] w fun e w' =>
      e = .returned (.tuple #[.int .i64 0, .agg #[.int .i64 ln, .int .i64 cl]]) ∧ RdB w' g (.slice (some ⟨bt, off, none⟩) 0 0) sec snk dec trc 0 pl pc seen ∧ Keeps (fun k => k = g) w w' := by
  have c0 := hb.cell 0
  have c7 := hb.cell 7
  have f0 := hb.frozen 0
  simp at c0 c7
  have gl := hb.lt
  skip
  have d0 := fun o => cell_alloc c0 o
  have k0 := fun o => cell_alloc ht.c0 o
  have k1 := fun o => cell_alloc ht.c1 o
  have k2 := fun o => cell_alloc ht.c2 o
  have k3 := fun o => cell_alloc ht.c3 o
  have k4 := fun o => cell_alloc ht.c4 o
  go_enter Tryd.func143, Tryd.ntmps143
  go_wp2_with (go_at_call 146; refine (end_yes tx nn ln cl _).mono ?_; rintro e w1 ⟨rfl, hb1⟩; have r1 := ((hb.alloc _).alloc _).later hb1; have q0 := r1.cell 0; have g0 := r1.frozen 0; simp at q0; have k1 : Keeps (fun k => k = g) w w1 := (((Keeps.refl _ _).alloc _).alloc _).trans (Keeps.of_below hb1 (S := fun _ => False)) (fun _ _ h => h.elim); have s1 := (Blk.new (w.alloc (Obj.cells #[Value.int IntKind.i64 0, Value.int IntKind.i64 0] 132)) 199 _).later hb1; have t1 := ((Blk.new w 132 #[.int .i64 0, .int .i64 0]).alloc _).later hb1; simp at s1)
  generalize hW : World.setCell _ _ _ = W
  have r2 : RdB W g (.slice (some ⟨bt, off, none⟩) 0 0) sec snk dec trc 0 pl pc seen := by rw [← hW]; simpa using r1.set_ 0 (.slice (some ⟨bt, off, none⟩) 0 0)
  have s2 := s1.far (p := ⟨g, 0, none⟩) (by simp; omega) (.slice (some ⟨bt, off, none⟩) 0 0)
  have t2 := t1.far (p := ⟨g, 0, none⟩) (by simp; omega) (.slice (some ⟨bt, off, none⟩) 0 0)
  rw [hW] at s2 t2
  have kk : Keeps (fun k => k = g) w W := by rw [← hW]; exact k1.setCell (.inl rfl) _
  clear hW k1 r1 s1 t1 hb1
  have s2_c3 := s2.cell 3; have s2_c4 := s2.cell 4; simp at s2_c3 s2_c4
  have t2_c0 := t2.cell 0; have t2_c1 := t2.cell 1; have t2_f0 := t2.frozen 0; have t2_f1 := t2.frozen 1; simp at t2_c0 t2_c1
  go_region_law (fail)
  go_wp2
  generalize hX : World.drew _ = X
  have r3 : RdB X g (.slice (some ⟨bt, off, none⟩) 0 0) sec snk dec trc 0 pl pc seen := by rw [← hX]; exact ((r2.far (by simp; omega) _).far (by simp; omega) _).drew
  have t3 : Blk X w.heap.size 132 #[.int .i64 ln, .int .i64 cl] := by rw [← hX]; exact ((t2.set_ 0 _).set_ 1 _).drew
  have k3 : Keeps (fun k => k = g) w X := by rw [← hX]; exact ((kk.setCell (.inr (Nat.le_refl _)) _).setCell (.inr (Nat.le_refl _)) _).drew
  have t3_c0 := t3.cell 0; have t3_c1 := t3.cell 1; simp at t3_c0 t3_c1
  refine bodyPost_ret (v := .tuple #[.int .i64 0, .agg #[.int .i64 ln, .int .i64 cl]]) (by simp [results, Tryd.results143, go_sem, t3_c0, t3_c1]) rfl ⟨rfl, r3, k3⟩
theorem take_end_any (g bt off c : Nat) (sec snk seen : Value) (dec trc pl pc : Int) (tx : ByteArray) (nn ln cl : Int) (w : World)
    (hb : RdB w g (.slice (some ⟨bt, off, none⟩) 1 c) sec snk dec trc 0 pl pc seen) (hc : 1 ≤ c) (ht : Tok w bt off 4 tx nn ln cl) :
    Calls Tryd.prog 143 #[.pointer (some ⟨g, 0, none⟩), .func (.func 146) #[] #[]] w fun e w' =>
      e = .returned (.tuple #[.int .i64 0, .agg #[.int .i64 ln, .int .i64 cl]]) ∧ (∃ P c', RdB w' g (.slice P 0 c') sec snk dec trc 0 pl pc seen) ∧ Keeps (fun k => k = g) w w' := by
  by_cases h1 : c = 1
  · subst h1
    exact (take_end1 g bt off sec snk seen dec trc pl pc tx nn ln cl w hb ht).mono fun e w' ⟨h, r, k⟩ => ⟨h, ⟨_, _, r⟩, k⟩
  · exact (take_end g bt off c sec snk seen dec trc pl pc tx nn ln cl w hb (by omega) ht).mono fun e w' ⟨h, r, k⟩ => ⟨h, ⟨_, _, r⟩, k⟩
end Go.Proofs.YtbjhkgmojmggjaaDoor
