/- A part of the proof. -/
import Derived.Test.YtaepkcjcmejfcaaSlL0
set_option linter.unusedVariables false
set_option linter.unusedSimpArgs false
set_option linter.unnecessarySimpa false
namespace Go.Proofs.Sl
theorem ba_self (z : ByteArray) : (z == z) = true := by
  obtain ⟨d⟩ := z
  show (d == d) = true
  simp
/-- Attributes of a mark's span, read by either side. -/
theorem vl_attr (h : H) {a : SP} {ky : ByteArray} (hgt : ∀ h, run XP i_attribute_Get [lv 4 (slc AT.v a.ats a.an), vs ky] h = some (.tup [(getA a.ats ky).v, vb (fndA a.ats ky)], h)) :
    run XP i_span_View_Value [a.v, vs sAttr, vs ky] h = some (.tup [(getA a.ats ky).v, vb (fndA a.ats ky)], h) := by
  have ea : (sAttr.toList == [97, 116, 116, 114]) = true := by rw [ByteArray.toList_eq]; rfl
  obtain ⟨tr, id, par, rev, clk, kind, sv, vr, op, st, en, er, ats, lks, an, ln⟩ := a
  simp only at hgt
  rw [run_eq, xp_span_View_Value]
  generalize getA ats ky = g at *
  generalize fndA ats ky = b at *
  simp only [AV.v] at hgt
  simp -implicitDefEqProofs [x_span_View_Value, SP.v, ea, hgt, AV.v]
theorem isF_attr : isF sAttr = false := by decide +kernel
set_option maxHeartbeats 1000000 in
/-- The rounds over the names. -/
theorem fields_l0 {β : Type} {f : Ex × St → Option β} {w : Option β} {a : SP} {fd ky : ByteArray} (hfo : ∀ f ∈ flds, ∃ x, FO a f x)
    (hend : ∀ s h, Sees s [(1, vs fd), (2, vs ky), (7, .ptr 1 0), (8, .ptr 2 0)] → (∀ t, (h ++ t)[1]? = some (.box false a.v.cells)) → (∀ t, (h ++ t)[2]? = some (.box false a.v.cells)) → f (.exit 0, ⟨s, h⟩) = w)
    (s0 : Sl) (h0 : H) (g : Sees s0 [(1, vs fd), (2, vs ky), (7, .ptr 1 0), (8, .ptr 2 0), (9, .lst 1 (flds.map vs)), (10, .lst 1 (flds.map vs)), (11, vi 0)]) (g1 : ∀ t, (h0 ++ t)[1]? = some (.box false a.v.cells)) (g2 : ∀ t, (h0 ++ t)[2]? = some (.box false a.v.cells)) :
    ob (loopW (xcode (run XP) loopW 0 x_sleuthlaw11_SpanFields_l0) ⟨s0, h0⟩) f = w := by
  have hlen : (flds.map vs).length = 15 := rfl
  have hlf : ∀ h, Rd h 1 (.lst 1 (flds.map vs)) (flds.map vs) := fun h => .lst _
  have hz : ∀ z : Int, (z == z) = true := fun z => by simp
  have hzn : ∀ z : Int, (z != z) = false := fun z => by simp
  have hbl : ∀ z : List UInt8, (z == z) = true := fun z => by simp
  refine loop_list flds (fun k s h => Sees s [(1, vs fd), (2, vs ky), (7, .ptr 1 0), (8, .ptr 2 0), (9, .lst 1 (flds.map vs)), (10, .lst 1 (flds.map vs)), (11, vi k)] ∧ (∀ t, (h ++ t)[1]? = some (.box false a.v.cells)) ∧ (∀ t, (h ++ t)[2]? = some (.box false a.v.cells))) ?_ ?_ _ _ ⟨g, g1, g2⟩
  · rintro B f hB hf k e s h he hk ⟨⟨e1, e2, e7, e8, e9, e10, e11, -⟩, b1, b2⟩ K
    obtain ⟨_, rfl⟩ := List.getElem?_eq_some_iff.1 he
    obtain ⟨x, fvl, flv, fkd, fck, fsz⟩ := hfo _ (List.mem_of_getElem? he)
    have hck := fun h => run_CheckValue h x fsz
    rw [fck] at hck
    have hlt : (k : Int) < 15 := by have : flds.length = 15 := rfl; omega
    have c1 := b1 []
    have c2 := b2 []
    rw [List.append_nil] at c1 c2
    have hba := ba_self x.t
    obtain ⟨xk, xt, xn⟩ := x
    obtain ⟨tr, id, par, rev, clk, kind, sv, vr, op, st, en, er, ats, lks, an, ln⟩ := a
    simp only [SP.v, V.cells, AV.v] at fvl flv fkd hck b1 b2 c1 c2 hba
    simp (maxSteps := 1000000) -implicitDefEqProofs [hB, x_sleuthlaw11_SpanFields_l0, e1, e2, e7, e8, e9, e10, e11, hlen, hlt, hk, c1, c2, b1, b2, fvl, flv, fkd, hck, hz, hzn, hbl, hba, same_self, optEq]
    refine K _ _ ⟨?_, fun t => ?_, fun t => ?_⟩
    · simp [e1, e2, e7, e8, e9, e10, wrap_up (by omega : k < 100000000000)]
    · rw [List.append_assoc]
      exact b1 _
    · rw [List.append_assoc]
      exact b2 _
  · rintro B hB s h ⟨⟨e1, e2, e7, e8, e9, e10, e11, -⟩, b1, b2⟩
    have : flds.length = 15 := rfl
    rw [this] at e11
    simp -implicitDefEqProofs [hB, x_sleuthlaw11_SpanFields_l0, e9, e11, hlen]
    exact hend _ _ (by simp [e1, e2, e7, e8]) b1 b2
set_option maxHeartbeats 4000000 in
theorem fields_aux {m : MK} {fd ky : ByteArray} (hm : m.Ok) {a : SP} {x : AV} {b c : Bool} {k : Int} (h0 : ∀ h, run XP i_sleuthlaw11_Span [m.val] h = some (a.v, h)) (hfo : ∀ f ∈ flds, ∃ x, FO a f x)
    (hV : ∀ h, run XP i_span_View_Value [a.v, vs fd, vs ky] h = some (.tup [x.v, vb b], h)) (hK : ∀ h, run XP i_span_FieldKind [vs fd] h = some (.tup [vi k, vb c], h)) (hI : ∀ h, run XP i_sleuthlaw11_isField [vs fd] h = some (vb c, h))
    (hk0 : c = false → k = 0) (hA : fd = sAttr → ∀ h, run XP i_attribute_Get [lv 4 (slc AT.v a.ats a.an), vs ky] h = some (.tup [x.v, vb b], h)) (hN : fd ≠ sAttr → b = (c && decide (ky = eS)) ∧ (b = false → x = ⟨0, ⟨#[]⟩, 0⟩)) :
    run XP i_sleuthlaw11_SpanFields [m.val, vs fd, vs ky] [] = some (vb true, []) := by
  have hk := known11
  have h1 := fun h => run_Fields h
  have h2 := fun h => run_names h
  have hlen : (flds.map vs).length = 15 := rfl
  have hz : ∀ z : Int, (z == z) = true := fun z => by simp
  have hzn : ∀ z : Int, (z != z) = false := fun z => by simp
  have hbl : ∀ z : List UInt8, (z == z) = true := fun z => by simp
  have hba := ba_self x.t
  have ebk := isE ky
  have eba : (fd.toList == [97, 116, 116, 114]) = decide (fd = sAttr) := by
    rw [show ([97, 116, 116, 114] : List UInt8) = sAttr.toList from by rw [ByteArray.toList_eq]; rfl, bl_eq]
  have hck : c = true ∨ (c = false ∧ k = 0) := by
    cases c
    · exact .inr ⟨rfl, hk0 rfl⟩
    · exact .inl rfl
  obtain ⟨tr, id, par, rev, clk, kind, sv, vr, op, st, en, er, ats, lks, an, ln⟩ := a
  have h0' := h0
  have hV' := hV
  simp only [SP.v, MK.val] at h0' hV'
  rw [run_eq, xp_sleuthlaw11_SpanFields]
  simp (maxSteps := 1000000) -implicitDefEqProofs [x_sleuthlaw11_SpanFields, MK.val, hk, h0', h1, h2, hlen]
  refine fields_l0 (fd := fd) (ky := ky) hfo ?_ _ _ ?_ ?_ ?_
  rotate_left
  · simp
  · intro t
    simp [SP.v, V.cells]
  · intro t
    simp [SP.v, V.cells]
  rintro s h ⟨e1, e2, e7, e8, -⟩ b1 b2
  have c1 := b1 []
  have c2 := b2 []
  rw [List.append_nil] at c1 c2
  have c3 : 1 < h.length := (List.getElem?_eq_some_iff.1 c1).1
  have c4 : 2 < h.length := (List.getElem?_eq_some_iff.1 c2).1
  by_cases hf : fd = sAttr
  · have hA' := hA hf
    rw [show decide (fd = sAttr) = true by simp [hf]] at eba
    obtain ⟨xk, xt, xn⟩ := x
    simp only [SP.v, V.cells, AV.v] at b1 b2 c1 c2 hV' hA' hba
    rcases hck with rfl | ⟨rfl, rfl⟩
    · simp (maxSteps := 1000000) -implicitDefEqProofs [e1, e2, e7, e8, c1, c2, b1, b2, hV', hK, hI, hA', hz, hzn, hbl, hba, eba]
    · simp (maxSteps := 1000000) -implicitDefEqProofs [e1, e2, e7, e8, c1, c2, b1, b2, hV', hK, hI, hA', hz, hzn, hbl, hba, eba]
  · obtain ⟨hN1, hN2⟩ := hN hf
    rw [show decide (fd = sAttr) = false by simp [hf]] at eba
    simp only [SP.v, V.cells, AV.v] at b1 b2 c1 c2 hV' hba
    have hbe : ((⟨#[]⟩ : ByteArray) == ⟨#[]⟩) = true := by decide
    rcases hck with rfl | ⟨rfl, rfl⟩
    · cases hb : b with
      | true =>
        rw [hb] at hN1
        have hky : ky.toList.isEmpty = true := by rw [ebk]; simpa using hN1.symm
        subst hb
        simp (maxSteps := 1000000) -implicitDefEqProofs [e1, e2, e7, e8, c1, c2, b1, b2, hV', hK, hI, hz, hzn, hbl, hba, eba, hky]
      | false =>
        have hx := hN2 hb
        rw [hb] at hN1
        have hky : ky.toList.isEmpty = false := by rw [ebk]; simpa using hN1.symm
        subst hb hx
        simp (maxSteps := 1000000) -implicitDefEqProofs [e1, e2, e7, e8, c1, c2, b1, b2, hV', hK, hI, hz, hzn, hbl, hba, eba, hky, hbe]
    · have hb : b = false := by simpa using hN1
      have hx := hN2 hb
      subst hb hx
      simp (maxSteps := 1000000) -implicitDefEqProofs [e1, e2, e7, e8, c1, c2, b1, b2, hV', hK, hI, hz, hzn, hbl, hba, eba, hbe]
theorem fields_law {m : MK} {fd ky : ByteArray} (hm : m.Ok) : run XP i_sleuthlaw11_SpanFields [m.val, vs fd, vs ky] [] = some (vb true, []) := by
  have h0 := fun h => run_Span (h := h) hm
  have hfo := fo_all m hm
  have hal := m.len.1
  have han := m.an
  generalize ha : m.sp = a at h0 hfo hal han
  have hgt := fun h => run_Get (v := lv 4 (slc AT.v a.ats a.an)) (ats := a.ats) h ky (fun h => by
    have := Rd.lv h 4 (slc AT.v a.ats a.an)
    have e : (slc AT.v a.ats a.an).getD [] = a.ats.map AT.v := by
      rw [slc]
      cases hc : a.an with
      | false => rfl
      | true => rw [han hc]; rfl
    rwa [e] at this) (by omega)
  have hif := fun h => run_isField h fd
  by_cases hA : fd = sAttr
  · subst hA
    rw [isF_attr] at hif
    exact fields_aux hm h0 hfo (fun h => vl_attr h hgt) (fun h => kd_no h isF_attr) hif (fun _ => rfl) (fun _ => hgt) (fun h => absurd rfl h)
  · cases hF : isF fd with
    | false =>
      rw [hF] at hif
      exact fields_aux hm h0 hfo (x := ⟨0, ⟨#[]⟩, 0⟩) (fun h => vl_no h a hA (fun h => kd_no h hF) (.inl rfl)) (fun h => kd_no h hF) hif (fun _ => rfl) (fun h => absurd h hA) (fun _ => ⟨rfl, fun _ => rfl⟩)
    | true =>
      rw [hF] at hif
      obtain ⟨x, fx⟩ := hfo fd (isF_mem hF)
      by_cases hky : ky = eS
      · subst hky
        exact fields_aux hm h0 hfo (x := x) fx.vl fx.kd hif (fun h => by cases h) (fun h => absurd h hA) (fun _ => ⟨by simp, fun h => by cases h⟩)
      · exact fields_aux hm h0 hfo (x := ⟨0, ⟨#[]⟩, 0⟩) (fun h => vl_no h a hA fx.kd (.inr hky)) fx.kd hif (fun h => by cases h) (fun h => absurd h hA) (fun _ => ⟨by simp [hky], fun _ => rfl⟩)
end Go.Proofs.Sl

