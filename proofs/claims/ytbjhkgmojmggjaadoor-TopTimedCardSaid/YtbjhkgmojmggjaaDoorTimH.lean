/- TopTimed: whatever the acts are, the law returns true, and they read as they did. Condition: the listed variables read as the program's text lays them (the card ties them). -/
import Derived.Test.YtbjhkgmojmggjaaDoorTimG
import Derived.Test.YtbjhkgmojmggjaaDoorRow
import Derived.Test.YtbjhkgmojmggjaaDoorCards
import Derived.Test.YtbjhkgmojmggjaaDoorTie
import Derived.OpenShut
import Derived.ProofKit
import Derived.Deep.DeepHandedRow
import Derived.LaidMore
import Derived.Lay
import Derived.SevenTiedAt
namespace Go.Proofs.YtbjhkgmojmggjaaDoor
set_option linter.unusedSimpArgs false
set_option linter.unusedVariables false
set_option linter.unnecessarySimpa false
set_option linter.unusedSectionVars false
open Go.ChangeShapes Go.WideShapes Go.ChangeAt Go.RowKit Go.Deep

/-- The number in a cell, if it is one. -/
def num? : Option Value → Int
  | some (.int .i64 n) => if -9223372036854775808 ≤ n ∧ n ≤ 9223372036854775807 then n else 0
  | _ => 0
theorem num?_range (v : Option Value) : -9223372036854775808 ≤ num? v ∧ num? v ≤ 9223372036854775807 := by
  unfold num?
  split
  · split
    · assumption
    · omega
  · omega
set_option maxRecDepth 100000 in
/-- A slice of acts, opened. -/
theorem open_acts {H : Type} {enc : TypeId × Value → H} {w : World} {base : Nat} {spare : Nat → Bool} {held : Bool} {v : Value} {d : DataW H} {p : List MemPlace} (hv : v.cells = #[v])
    (h : DataW.Trod enc Tryd.prog w base spare held 22 v d p) :
    (∃ a cap, v = .slice a 0 cap) ∨ ∃ (b off n cap : Nat) (z : Nat → Nat → Int), v = .slice (some ⟨b, off, none⟩) n cap ∧ 0 < n ∧ n ≤ maxLen ∧ b < w.heap.size ∧ Acts w b off n z := by
  rcases open_rows Tryd.underlying22 Tryd.underlying27 (by kernel_rfl) (by kernel_rfl) hv h with h0 | ⟨a, len, cap, hv', hl, hm, hc⟩
  · exact .inl ⟨_, _, h0⟩
  · rcases Nat.eq_zero_or_pos len with h0 | h0
    · subst h0
      exact .inl ⟨_, _, hv'⟩
    · have hcell : ∀ i, i < len → ∀ j, j < 4 → ∃ n : Int, w.cell? (a.add (i * 4 + j)) = some (.int .i64 n) ∧ (Lit.int .i64 n).wf = true := by
        intro i hi j hj
        have key : ∀ (f : Field), Tryd.prog.underlying f.type = some (.int .i64) → (∃ (u : Value) (y : DataW H × List MemPlace) (n : Nat), w.cell? (a.add (i * 4 + j)) = some u ∧ DataW.trod enc Tryd.prog w base spare held n f.type [u] = some y) →
            ∃ n : Int, w.cell? (a.add (i * 4 + j)) = some (.int .i64 n) ∧ (Lit.int .i64 n).wf = true := by
          rintro f hf ⟨u, y, n, h1, h2⟩
          obtain ⟨z, e1, _, e3⟩ := DataW.trod_int hf h2
          obtain rfl : u = .int .i64 z := by simpa using e1
          exact ⟨z, h1, e3⟩
        rcases (by omega : j = 0 ∨ j = 1 ∨ j = 2 ∨ j = 3) with rfl | rfl | rfl | rfl
        · exact key _ Tryd.underlying3 (hc i hi 0 _ rfl)
        · exact key _ Tryd.underlying3 (hc i hi 1 _ rfl)
        · exact key _ Tryd.underlying3 (hc i hi 2 _ rfl)
        · exact key _ Tryd.underlying3 (hc i hi 3 _ rfl)
      obtain ⟨b, off, sp⟩ := a
      have hsp : sp = none := by
        obtain ⟨n, h1, _⟩ := hcell 0 h0 0 (by decide)
        cases sp with
        | none => rfl
        | some s =>
          exfalso
          simp [Addr.add, World.cell?] at h1
          split at h1 <;> cases h1
      subst hsp
      have hadd : ∀ k, (⟨b, off, none⟩ : Addr).add k = ⟨b, off + k, none⟩ := fun k => by
        unfold Addr.add
        by_cases hk : k = 0 <;> simp [hk]
      refine .inr ⟨b, off, len, cap, fun i j => num? (w.cell? ⟨b, off + i * 4 + j, none⟩), hv', h0, by omega, ?_, ?_, fun _ _ => (num?_range _).1, fun _ _ => (num?_range _).2⟩
      · obtain ⟨n, h1, _⟩ := hcell 0 h0 0 (by decide)
        exact lt_of_cell h1
      · intro i j hi hj
        obtain ⟨n, h1, h2⟩ := hcell i hi j hj
        rw [hadd, ← Nat.add_assoc] at h1
        rw [h1]
        have := wf_i64 h2
        simp [num?, this]

/-- No acts. -/
theorem TopTimed_none (w : World) (a : Option Addr) (cap : Nat) (m : Int) (hm : w.cell? ⟨1, 0, none⟩ = some (.int .i64 m)) :
    Calls Tryd.prog 3 #[.slice a 0 cap] w fun e w' => e = .returned (.bool true) ∧ Below w.heap.size w w' := by
  go_enter Tryd.func3, Tryd.ntmps3
  go_wp2_with (fail)
  refine (awake_yes w m hm).mono ?_
  rintro e w1 ⟨rfl, bel1⟩
  go_wp2_with (fail)
  have k1 := Keeps.of_below bel1 (S := fun _ => False)
  have k2 := (k1.alloc (.cells (Tm.cells ⟨0, 0, false, false, false, false⟩) 25)).alloc (.cells (Tm.cells ⟨0, 0, false, false, false, false⟩) 25)
  refine wp_loop_rounds 1 ?_
  rw [rounds_succ]
  go_wp2_with (fail)
  go_ret
  exact ⟨rfl, k2.below (Nat.le_refl _) (fun _ _ h => h)⟩

theorem maxLen_cell {W : World} (h : W.ShapedOpen Tryd.prog) : ∃ m, W.cell? ⟨1, 0, none⟩ = some (.int .i64 m) :=
  cell_of_shapedOpen_int (t := 3) (zero := #[.int .i64 0]) h (of_decide_eq_true (by kernel_rfl)) (by kernel_rfl) rfl (by kernel_rfl) (by kernel_rfl) Tryd.underlying3

theorem acts_row : 22 < Tryd.prog.types.size := by
  have h : decide (22 < Tryd.prog.types.size) = true := by kernel_rfl
  exact of_decide_eq_true h
namespace topTimed
theorem params_rows : ∀ t ∈ Tryd.f3.params.toList, t < Tryd.prog.types.size := by
  intro t ht
  rw [Tryd.params3] at ht
  have h : t = 22 := by simpa using ht
  rw [h]
  exact acts_row
set_option maxRecDepth 100000 in
theorem contract (H : Type) (enc : TypeId × Value → H) (W : World) (base : Nat) (args : Array Value) (ds gs : List (DataW H)) (before : List MemPlace)
    (hval : ∀ (j : Nat) t v, Tryd.f3.params[j]? = some t → args[j]? = some v → Value.okWide Tryd.prog W .any base t v)
    (hW : DataW.Whole enc Tryd.prog Tryd.f3.params.toList Rows.topTimedSpec.vars false W args.toList ds gs before) (hs : W.ShapedOpen Tryd.prog) :
    Calls Tryd.prog 3 args W fun e W' => ∃ v, e = .returned v ∧ Rows.topTimedSpec.post enc Tryd.prog Tryd.f3 false true false false W args v W' := by
  have hW' := hW
  obtain ⟨p, q, hA, hV, _, _, _⟩ := hW
  rw [Tryd.params3] at hA hval
  obtain ⟨v0, vs0, d0, ds0, p0, q0, hargs, hds, _, h0, r0⟩ := trodAll_cons hA
  obtain ⟨rfl, rfl, _⟩ := trodAll_nil r0
  obtain rfl : args = #[v0] := by cases args; simp_all
  obtain ⟨rfl, _⟩ := trodVars_none hV
  subst hds
  have hv0 := hval 0 _ v0 rfl rfl
  obtain ⟨a0, len0, cap0, rfl⟩ := okWide_slice Tryd.underlying22 hv0
  obtain ⟨m, hm⟩ := maxLen_cell hs
  have walk : Calls Tryd.prog 3 #[.slice a0 len0 cap0] W fun e W' => e = .returned (.bool true) ∧ Below W.heap.size W W' := by
    rcases open_acts rfl h0 with ⟨a, cap, h1⟩ | ⟨b, off, n, cap, z, h1, _, hn, hb, ha⟩
    · rw [h1]; exact TopTimed_none W a cap m hm
    · rw [h1]; exact TopTimed_walk W b off n cap z ha hb (by unfold maxLen at hn; omega) m hm
  refine walk.mono fun e W' ⟨he, hg⟩ => ⟨_, he, ?_⟩
  exact post_yes kids full params_rows hW' hg rfl rfl rfl rfl (tb := 4) (by kernel_rfl) Tryd.underlying4

noncomputable abbrev w0 (os : Os) : World := World.laidAll Tryd.prog os Rows.topTimedRow.laid
abbrev i0 : Input := ⟨#[], #[.slice none 0 0], []⟩
theorem laid_met (os : Os) : laidMet Tryd.prog Rows.topTimedRow.laid ((w0 os).forCall (fun _ _ => 0) i0).memory := laidMet_laidAll _ (by kernel_rfl) (by kernel_rfl)
theorem reads (os : Os) {H : Type} (enc : TypeId × Value → H) : ∃ places, DataW.whole enc Tryd.prog ((w0 os).forCall (fun _ _ => 0) i0).memory Tryd.f3.params.toList Rows.topTimedSpec.vars false i0.args.toList 8 = some ([.nil], [], places) :=
  ⟨[], by kernel_rfl⟩

set_option maxRecDepth 100000 in
theorem lifted (os : Os) (started : os.Started) (H : Type) (enc : TypeId × Value → H) (F : Stop.Interp) :
    ReturnsInHanded {} Tryd.checked os 3 .any ((OpenSpec.ofChange Rows.topTimedSpec).preRow enc Tryd.prog Tryd.f3 Rows.topTimedRow.domain false Rows.topTimedRow.laid) (((OpenSpec.ofChange Rows.topTimedSpec).at F).post enc Tryd.prog Tryd.f3 false true false false) := by
  obtain ⟨places, hx⟩ := reads os enc
  have hok : Input.okWideB Tryd.prog ((w0 os).forCall (fun _ _ => 0) i0) 3 i0 = true := by kernel_rfl
  refine returnsInHanded_of_row (C := Tryd.checked) (s := OpenSpec.ofChange Rows.topTimedSpec) seat_own started (by kernel_rfl) Tryd.func3
    ⟨w0 os, fun _ _ => 0, i0, World.laidAll_os _ _ _, World.shaped_of_ZipB (by kernel_rfl) (by kernel_rfl), (Input.okWide_of_okWideB (base := 0) hok).1, (Input.okWide_of_okWideB hok).2,
      OpenSpec.preRow_of_cond 8 hx (by kernel_rfl) (fun k hk => by cases hk) (by kernel_rfl) (laid_met os), by
        simp only [Assume.holds]
        exact ⟨by simp, by simp, fun _ => Modest.zero, by simp, by simp⟩⟩ ?_
  intro W base args ds gs before hval hW _ _ _ _ hs _
  exact contract H enc W base args ds gs before hval hW hs

theorem said : Rows.TopTimedSaid :=
  OpenClaim.holds_of_cond 3 Tryd.f3 rfl rfl rfl rfl rfl rfl rfl ⟨rfl, rfl, rfl, rfl, rfl⟩ rfl rfl rfl rfl rfl (by kernel_rfl) Tryd.func3 (by kernel_rfl)
    (of_decide_eq_true (by kernel_rfl)) (by unfold Func.isWrapper; first | (rw [if_pos (by decide +kernel)]; kernel_rfl) | (rw [if_neg (by decide +kernel)]; exact ⟨rfl, rfl⟩))
    (fun os started H enc _ F => by rw [OpenClaim.pre_eq_preRow]; exact lifted os started H enc F)

theorem plain (f : FuncId) (fn : Func) (hf : Tryd.pinned.checked.prog.funcNamed "cochineal/cochinealtop.TopTimed" = some f) (hfn : Tryd.pinned.checked.prog.funcs[f]? = some fn) :
    false = Tryd.pinned.checked.prog.looks [] ∧ ∀ (j : Nat) t, fn.params[j]? = some t → Tryd.pinned.checked.prog.wantsStandIn t = false := by
  obtain rfl : f = 3 := Option.some.inj ((show Tryd.prog.funcNamed "cochineal/cochinealtop.TopTimed" = some 3 by kernel_rfl).symm.trans hf) |>.symm
  obtain rfl : fn = Tryd.f3 := (Option.some.inj (Tryd.func3.symm.trans hfn)).symm
  refine ⟨by kernel_rfl, fun j t ht => ?_⟩
  rw [Tryd.params3] at ht
  obtain rfl : t = 22 := by simpa using Array.mem_of_getElem? ht
  exact (show Tryd.prog.wantsStandIn 22 = false by kernel_rfl)

theorem card : Rows.TopTimedCardSaid :=
  Claim7.holds_tied_plain_at .later [] _ _ _ _ said (fun _ h => by cases h) (by kernel_rfl) (fun _ h => by cases h) topTimed_row_tie rfl ⟨rfl, rfl⟩ (by kernel_rfl) rfl plain (by kernel_rfl)
#print axioms card
end topTimed
end Go.Proofs.YtbjhkgmojmggjaaDoor
