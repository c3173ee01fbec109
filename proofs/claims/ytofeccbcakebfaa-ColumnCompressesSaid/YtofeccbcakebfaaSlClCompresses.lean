/- ColumnCompresses: for any value, difference and number of rows the call answers true, and the arguments read as before. No condition. -/
import Derived.Test.YtofeccbcakebfaaRows
import Derived.Test.YtofeccbcakebfaaSlC
import Derived.Test.YtofeccbcakebfaaSlT
import Derived.Test.YtofeccbcakebfaaSlL0
set_option linter.unusedVariables false
set_option linter.unusedSimpArgs false
set_option linter.unnecessarySimpa false
namespace Go.Proofs.Ytofeccbcakebfaa
open Go.Proofs.Sl Go.RowKit
set_option maxRecDepth 100000
theorem ints_of {e : Ty} (he : e = .i .i64) {o : Option (List V)} (h : ∀ y ∈ o.getD [], e.okV y) : ∃ vs : List Int, o.getD [] = il vs := by
  subst he
  obtain ⟨ns, h1, _⟩ := list_map (v := vi) (Q := fun _ => True) (l := o.getD []) fun y hy => by
    obtain ⟨n, rfl, _⟩ := Ty.okV_i (h y hy)
    exact ⟨n, rfl, trivial⟩
  exact ⟨ns, h1⟩
theorem nat_of {b : Nat} {n : Int} (h : 0 ≤ n ∧ n ≤ b) : ∃ m : Nat, n = m ∧ m ≤ b := ⟨n.toNat, by omega, by omega⟩

theorem columnCompresses_all : ∀ vs, Ty.okVs [.i .i32, .i .i16, .i .u8] vs → run XP i_sleuthlaw07_ColumnCompresses vs [] = some (vb true, []) := by
  intro vs h
  obtain ⟨x, vs, rfl, hx, h⟩ := Ty.okVs_cons h
  obtain ⟨y, vs, rfl, hy, h⟩ := Ty.okVs_cons h
  obtain ⟨z, vs, rfl, hz, h⟩ := Ty.okVs_cons h
  obtain rfl := Ty.okVs_nil h
  obtain ⟨a, rfl, ha⟩ := Ty.okV_i hx
  obtain ⟨b, rfl, hb⟩ := Ty.okV_i hy
  obtain ⟨m, rfl, hm⟩ := Ty.okV_i hz
  obtain ⟨m, rfl, hm'⟩ := nat_of (b := 255) (u8_of hm)
  simp only [Lit.wf, Bool.and_eq_true, decide_eq_true_eq] at ha hb
  exact compresses_law ha.1 ha.2 hb.1 hb.2 (by omega)
theorem columnCompresses_lifted (os : Os) (started : os.Started) (H : Type) (enc : TypeId × Value → H) :
    ReturnsInHanded {} Try.checked os 4 .any (Rows.columnCompressesSpec.pre6 enc Try.prog Try.f4 Rows.columnCompressesRow.domain false) (Rows.columnCompressesSpec.post enc Try.prog Try.f4 false true false false) :=
  law_of (C := Try.checked) table prog_own started (by kernel_rfl) Try.func4
    (ChangeSpec.witness6 (enc := enc) (C := Try.checked) false ⟨#[], #[.int .i32 0, .int .i16 0, .int .u8 0], []⟩ 8 (by kernel_rfl) (by kernel_rfl) (by kernel_rfl) (by kernel_rfl))
    (f := i_sleuthlaw07_ColumnCompresses) rfl prog_laidOut (by kernel_rfl) (Ts := [.i .i32, .i .i16, .i .u8]) (by kernel_rfl) (tb := _) rfl (by kernel_rfl) rfl (fun ds h => by
      match ds, h with
      | [_, _, _], _ => rfl) columnCompresses_all
theorem columnCompresses_holds : Rows.ColumnCompressesSaid :=
  OpenClaim.holds_of_wide 4 Try.f4 rfl rfl rfl rfl rfl rfl rfl ⟨rfl, rfl, rfl, rfl, rfl⟩ rfl rfl rfl rfl rfl (by kernel_rfl) Try.func4 (by kernel_rfl)
    (of_decide_eq_true (by kernel_rfl)) (by unfold Func.isWrapper; first | (rw [if_pos (by decide +kernel)]; kernel_rfl) | (rw [if_neg (by decide +kernel)]; exact ⟨rfl, rfl⟩))
    (fun os started H enc _ => columnCompresses_lifted os started H enc)
#print axioms columnCompresses_holds
end Go.Proofs.Ytofeccbcakebfaa
