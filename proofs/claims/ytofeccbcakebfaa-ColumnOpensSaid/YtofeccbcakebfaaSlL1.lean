/- A part of the proof. -/
import Derived.Test.YtofeccbcakebfaaSlL0
set_option linter.unusedVariables false
set_option linter.unusedSimpArgs false
set_option linter.unnecessarySimpa false
namespace Go.Proofs.Sl
/-- Bit k of bytes. -/
def dbit (d : List UInt8) (k : Nat) : Nat := (d.getD (k / 8) 0).toNat / 2 ^ (k % 8) % 2
/-- The first b bits of value i. -/
def dval (d : List UInt8) (w i : Nat) : Nat → Nat
  | 0 => 0
  | b + 1 => dval d w i b + dbit d (i * w + b) * 2 ^ b
theorem dbit_le (d : List UInt8) (k : Nat) : dbit d k ≤ 1 := by
  have := Nat.mod_lt ((d.getD (k / 8) 0).toNat / 2 ^ (k % 8)) (y := 2) (by decide)
  rw [dbit]; omega
theorem dval_lt (d : List UInt8) (w i : Nat) : ∀ b, dval d w i b < 2 ^ b
  | 0 => by simp [dval]
  | b + 1 => by
    have := dval_lt d w i b
    have h1 : dbit d (i * w + b) * 2 ^ b ≤ 1 * 2 ^ b := Nat.mul_le_mul_right _ (dbit_le _ _)
    rw [dval, Nat.pow_succ]
    omega
def pvals (d : List UInt8) (w : Nat) (least : Int) : Nat → Nat → List Int → List Int × Int
  | 0, _, l => (l, 0)
  | n + 1, i, l => if 1152921504606846976 < least + dval d w i w then (l, 2) else pvals d w least n (i + 1) (l ++ [least + dval d w i w])
def pckC (s : ByteArray) (a : Nat) : CS :=
  let r1 := rNum s a 0
  let E1 := fl r1.2.2 0 (decide (r1.1 < 0) || decide (4096 < r1.1)) 2
  if E1 ≠ 0 then ⟨r1.2.1, r1.2.2, [], E1⟩ else
  let r2 := rNum s r1.2.1 0
  let E2 := fl r2.2.2 0 (wrongB r2.1) 2
  if E2 ≠ 0 then ⟨r2.2.1, r2.2.2, [], E2⟩ else
  let r3 := rNum s r2.2.1 0
  let E3 := fl r3.2.2 0 (decide (r3.1 < 0) || decide (62 < r3.1)) 2
  if E3 ≠ 0 then ⟨r3.2.1, r3.2.2, [], E3⟩ else
  let T := rText s r3.2.1 0 32768
  let E4 := fl T.2.2 0 ((T.1.size : Int) != (((r1.1.toNat * r3.1.toNat + 7) / 8 : Nat) : Int)) 3
  if E4 ≠ 0 then ⟨T.2.1, T.2.2, [], E4⟩ else
  let P := pvals (bts T.1) r3.1.toNat r2.1 r1.1.toNat 0 []
  ⟨T.2.1, 0, P.1, P.2⟩

theorem and1_u8 (c : Nat) (h : c < 256) : andI .u8 (c : Int) 1 = ((c % 2 : Nat) : Int) := by
  have : ∀ c : Fin 256, andI .u8 (c.1 : Int) 1 = ((c.1 % 2 : Nat) : Int) := by decide +kernel
  exact this ⟨c, h⟩
theorem or_i64 {v t b : Nat} (hv : v < 2 ^ b) (ht : t ≤ 1) (hb : b < 62) : orI .i64 (v : Int) ((t * 2 ^ b : Nat) : Int) = ((v + t * 2 ^ b : Nat) : Int) := by
  have hp : 2 ^ b ≤ 2 ^ 61 := Nat.pow_le_pow_right (by decide) (by omega)
  have h61 : (2 : Nat) ^ 61 = 2305843009213693952 := by decide
  have hm : t * 2 ^ b ≤ 1 * 2 ^ b := Nat.mul_le_mul_right _ ht
  have e0 : orI .i64 (v : Int) ((t * 2 ^ b : Nat) : Int) = IntKind.i64.wrap ((BitVec.ofInt 64 (v : Int) ||| BitVec.ofInt 64 ((t * 2 ^ b : Nat) : Int)).toNat : Int) := rfl
  have e1 : BitVec.ofInt 64 (v : Int) = BitVec.ofNat 64 v := BitVec.ofInt_natCast ..
  have e2 : BitVec.ofInt 64 ((t * 2 ^ b : Nat) : Int) = BitVec.ofNat 64 (t * 2 ^ b) := BitVec.ofInt_natCast ..
  have e3 : (BitVec.ofNat 64 v ||| BitVec.ofNat 64 (t * 2 ^ b)).toNat = v + t * 2 ^ b := by
    rw [BitVec.toNat_or, BitVec.toNat_ofNat, BitVec.toNat_ofNat, Nat.mod_eq_of_lt (by omega), Nat.mod_eq_of_lt (by omega), Nat.or_comm]
    have := Nat.two_pow_add_eq_or_of_lt (i := b) (b := v) hv t
    rw [Nat.mul_comm t, ← this]
    omega
  rw [e0, e1, e2, e3, wrap_i64 (by omega) (by omega)]
theorem shl_i64 {m b : Nat} (hm : m < 62) (hb : b ≤ 1) : IntKind.i64.wrap ((b : Int) * 2 ^ m) = ((b * 2 ^ m : Nat) : Int) := by
  have key : ∀ m : Fin 62, ∀ b : Fin 2, IntKind.i64.wrap ((b.1 : Int) * 2 ^ m.1) = ((b.1 * 2 ^ m.1 : Nat) : Int) := by decide +kernel
  exact key ⟨m, hm⟩ ⟨b, by omega⟩
theorem bts_at (s : ByteArray) (i : Nat) : s.data[i]? = (bts s)[i]? := by simp [bts]
section
variable {h t : H} {s : ByteArray}
theorem C_TextC (hs : s.size ≤ 10000000000000) {c : CS} (ha : c.a ≤ s.size) (most : Int) : run XP i_encoding_Reader_Text [.ptr h.length 0, vi most] (crC h s c t) = some (vs (rText s c.a c.e0 most).1, crC h s ⟨(rText s c.a c.e0 most).2.1, (rText s c.a c.e0 most).2.2, c.vals, c.e⟩ t) := C_Text hs ha most

theorem C_packed (hs : s.size ≤ 10000000000000) {a : Nat} (ha : a ≤ s.size) : run XP i_column_reader_packed [.ptr (h.length + 1) 0] (cr h s a 0 [] 0 t) = some (.tup [], crC h s (pckC s a) t) := by
  have hat : ∀ (c : CS) (t : H), (crC h s c t)[h.length + 1]? = some (.box false [.ptr h.length 0, wcl c.vals, vi c.e]) := fun c t => cr_at1
  have hat0 : (cr h s a 0 [] 0 t)[h.length + 1]? = some (.box false [.ptr h.length 0, wcl [], vi 0]) := cr_at1
  have htk : ∀ (c : CS) (t' : H), (crC h s c (t ++ t')).take (cr h s a 0 [] 0 t).length = crC h s c t := fun c t' => by
    rw [crC, ← cr_app, List.take_append_of_le_length (by rw [cr_length, cr_length]; exact Nat.le_refl _)]
    exact List.take_of_length_le (by rw [cr_length, cr_length]; exact Nat.le_refl _)
  have htk0 : ∀ (c : CS), (crC h s c t).take (cr h s a 0 [] 0 t).length = crC h s c t := fun c => List.take_of_length_le (by rw [crC_length, cr_length]; exact Nat.le_refl _)
  have hc0 : cr h s a 0 [] 0 t = crC h s ⟨a, 0, [], 0⟩ t := rfl
  have n1 := C_NumberC (h := h) (t := t) (s := s) hs (c := ⟨a, 0, [], 0⟩) ha
  rw [← hc0] at n1
  have hfw := C_failedC (h := h) (t := t) (s := s)
  rw [run_eq, xp_column_reader_packed]
  unfold pckC
  simp only at n1
  generalize hr1 : rNum s a 0 = r1 at *
  obtain ⟨n, a1, x1⟩ := r1
  have hn : Rng n := by have := rNum_rng s a 0; rw [hr1] at this; exact this
  have ha1 : a1 ≤ s.size := by have := rNum_le ha 0; rw [hr1] at this; exact this
  simp only at n1 ⊢
  have hat1 := hat ⟨a1, x1, [], 0⟩ t
  have hf1 := hfw ⟨a1, x1, [], 0⟩
  simp only at hat1 hf1
  by_cases E1 : fl x1 0 (decide (n < 0) || decide (4096 < n)) 2 = 0
  · obtain ⟨-, rfl, g⟩ := fl_zero E1 (by decide)
    simp only [Bool.or_eq_false_iff, decide_eq_false_iff_not] at g
    obtain ⟨g1, g2⟩ := g
    rw [if_neg (by simpa using E1)]
    have hff1 := hf1 false 2
    rw [show fl 0 0 false 2 = 0 from rfl] at hff1
    have n2 := C_NumberC (h := h) (t := t) (s := s) hs (c := ⟨a1, 0, [], 0⟩) ha1
    simp only at n2
    generalize hr2 : rNum s a1 0 = r2 at *
    obtain ⟨least, a2, x2⟩ := r2
    have ha2 : a2 ≤ s.size := by have := rNum_le ha1 0; rw [hr2] at this; exact this
    simp only at n2 ⊢
    have hat2 := hat ⟨a2, x2, [], 0⟩ t
    have hf2 := hfw ⟨a2, x2, [], 0⟩
    have hwr := run_wrong (crC h s ⟨a2, x2, [], 0⟩ t) least
    simp only at hat2 hf2
    by_cases E2 : fl x2 0 (wrongB least) 2 = 0
    · obtain ⟨-, rfl, g3⟩ := fl_zero E2 (by decide)
      rw [if_neg (by simpa using E2)]
      have hlo := wrongB_iff.1 g3
      rw [g3] at hwr
      have hff2 := hf2 false 2
      rw [show fl 0 0 false 2 = 0 from rfl] at hff2
      have n3 := C_NumberC (h := h) (t := t) (s := s) hs (c := ⟨a2, 0, [], 0⟩) ha2
      simp only at n3
      generalize hr3 : rNum s a2 0 = r3 at *
      obtain ⟨w, a3, x3⟩ := r3
      have ha3 : a3 ≤ s.size := by have := rNum_le ha2 0; rw [hr3] at this; exact this
      simp only at n3 ⊢
      have hat3 := hat ⟨a3, x3, [], 0⟩ t
      have hf3 := hfw ⟨a3, x3, [], 0⟩
      simp only at hat3 hf3
      by_cases E3 : fl x3 0 (decide (w < 0) || decide (62 < w)) 2 = 0
      · obtain ⟨-, rfl, g⟩ := fl_zero E3 (by decide)
        simp only [Bool.or_eq_false_iff, decide_eq_false_iff_not] at g
        obtain ⟨g4, g5⟩ := g
        rw [if_neg (by simpa using E3)]
        have hff3 := hf3 false 2
        rw [show fl 0 0 false 2 = 0 from rfl] at hff3
        have n4 := C_TextC (h := h) (t := t) (s := s) hs (c := ⟨a3, 0, [], 0⟩) ha3 32768
        simp only at n4
        generalize hr4 : rText s a3 0 32768 = r4 at *
        obtain ⟨T, a4, x4⟩ := r4
        have ha4 : a4 ≤ s.size := by have := rText_le ha3 0 32768; rw [hr4] at this; exact this
        simp only at n4 ⊢
        have hat4 := hat ⟨a4, x4, [], 0⟩ t
        have hf4 := hfw ⟨a4, x4, [], 0⟩
        simp only at hat4 hf4
        obtain ⟨n, rfl⟩ : ∃ m : Nat, n = m := ⟨n.toNat, by omega⟩
        obtain ⟨w, rfl⟩ : ∃ m : Nat, w = m := ⟨w.toNat, by omega⟩
        simp only [Int.toNat_natCast]
        have hprod : n * w ≤ 4096 * 62 := Nat.mul_le_mul (by omega) (by omega)
        obtain ⟨SZ, hSZ⟩ : ∃ SZ, SZ = (n * w + 7) / 8 := ⟨_, rfl⟩
        have w1 : IntKind.i64.wrap ((n : Int) * (w : Int)) = (n : Int) * (w : Int) := by
          rw [← Int.natCast_mul, wrap_i64 (by omega) (by omega)]
        have w2 : IntKind.i64.wrap ((n : Int) * (w : Int) + 7) = (n : Int) * (w : Int) + 7 := by rw [← Int.natCast_mul, wrap_i64 (by omega) (by omega)]
        have w3 : IntKind.i64.wrap (((n : Int) * (w : Int) + 7).tdiv 8) = (SZ : Int) := by
          rw [← Int.natCast_mul, show Int.tdiv (((n * w : Nat) : Int) + 7) 8 = (((n * w + 7) / 8 : Nat) : Int) from rfl, ← hSZ, wrap_i64 (by omega) (by omega)]
        rw [← hSZ]
        by_cases E4 : fl x4 0 ((T.size : Int) != (SZ : Int)) 3 = 0
        · obtain ⟨-, rfl, g6⟩ := fl_zero E4 (by decide)
          rw [if_neg (by simpa using E4)]
          have hTs : T.size = SZ := Int.ofNat_inj.1 (by simpa using g6)
          have hne : ((T.size : Int) != (SZ : Int)) = false := g6
          have hff4 := hf4 false 3
          rw [show fl 0 0 false 3 = 0 from rfl] at hff4
          have hTl : (bts T).length = SZ := by rw [bts_length, hTs]
          obtain ⟨P, hP⟩ : ∃ P, P = pvals (bts T) w least n 0 [] := ⟨_, rfl⟩
          rw [← hP]
          simp -implicitDefEqProofs [x_column_reader_packed, hat0, n1, hat1, g1, g2, hff1, n2, hat2, hwr, hff2, n3, hat3, g4, g5, hff3, n4, hat4, w1, w2, w3, hne, hff4]
          refine loop_up n (fun i st h' => ∃ (l : List Int) (tl : H), Sees st [(0, .ptr (h.length + 1) 0), (3, vi least), (4, vi w), (5, vs T), (60, vi n), (61, vi i)] ∧ h' = crC h s ⟨a4, 0, l, 0⟩ (t ++ tl) ∧ pvals (bts T) w least (n - i) i l = P ∧ l.length = i) ?_ ?_ _ _
            ⟨[], [], by simp, by simp, by rw [hP]; rfl, rfl⟩
          · rintro B f hB hf i st h' hi ⟨l, tl, ⟨h0, h3, h4, h5, h60, h61, -⟩, rfl, hx, hll⟩ K
            have hlt : (i : Int) < n := by omega
            have iw : i * w + w ≤ n * w := by
              have : (i + 1) * w ≤ n * w := Nat.mul_le_mul_right _ hi
              rwa [Nat.add_mul, Nat.one_mul] at this
            simp -implicitDefEqProofs [hB, x_column_reader_packed_l1, h0, h3, h4, h5, h60, h61, hlt]
            refine loop_up w (fun b st h' => Sees st [(0, .ptr (h.length + 1) 0), (3, vi least), (4, vi w), (5, vs T), (6, vi i), (7, vi (dval (bts T) w i b)), (60, vi n), (61, vi i), (64, vi w), (65, vi b)] ∧ h' = crC h s ⟨a4, 0, l, 0⟩ (t ++ tl)) ?_ ?_ _ _ ⟨by simp [h0, h3, h4, h5, h60, h61, dval], rfl⟩
            · rintro B2 f2 hB2 hf2 b st h' hb ⟨⟨h0, h3, h4, h5, h6, h7, h60, h61, h64, h65, -⟩, rfl⟩ K2
              have hblt : (b : Int) < w := by omega
              obtain ⟨k, hk⟩ : ∃ k, k = i * w + b := ⟨_, rfl⟩
              obtain ⟨q, hq⟩ : ∃ q, q = k / 8 := ⟨_, rfl⟩
              obtain ⟨m, hm⟩ : ∃ m, m = k % 8 := ⟨_, rfl⟩
              have v1 : IntKind.i64.wrap ((i : Int) * (w : Int)) = (i : Int) * (w : Int) := by
                rw [← Int.natCast_mul, wrap_i64 (by omega) (by omega)]
              have v2 : IntKind.i64.wrap ((i : Int) * (w : Int) + (b : Int)) = (k : Int) := by
                rw [← Int.natCast_mul, wrap_i64 (by omega) (by omega)]
                omega
              have v3 : IntKind.i64.wrap ((k : Int) / 8) = (q : Int) := by
                rw [wrap_i64 (by omega) (by omega)]; omega
              have v4 : (k : Int).tmod 8 = (m : Int) := by
                rw [show Int.tmod (k : Int) 8 = ((k % 8 : Nat) : Int) from rfl, ← hm]
              obtain ⟨c, hc⟩ : ∃ c, (bts T)[q]? = some c := ⟨_, List.getElem?_eq_getElem (by omega)⟩
              have hcd : T.data[q]? = some c := by rw [bts_at, hc]
              have hmin8 : min m IntKind.u8.bits = m := Nat.min_eq_left (by have : IntKind.u8.bits = 8 := rfl; omega)
              have hsh := shr_nat c.toNat m (kk := .u8) (by have : IntKind.u8.bits = 8 := rfl; omega)
              rw [hmin8] at hsh
              have hc8 := UInt8.toNat_lt c
              obtain ⟨D3, hD3⟩ : ∃ D3, D3 = c.toNat / 2 ^ m := ⟨_, rfl⟩
              rw [← hD3] at hsh
              have hD3l : D3 < 256 := by
                have := Nat.div_le_self c.toNat (2 ^ m)
                omega
              have hand := and1_u8 D3 hD3l
              have hbit : dbit (bts T) k = D3 % 2 := by
                rw [dbit, ← hq, ← hm, List.getD_eq_getElem?_getD, hc, hD3]; rfl
              obtain ⟨x, hxx⟩ : ∃ x, x = D3 % 2 := ⟨_, rfl⟩
              rw [← hxx] at hand hbit
              have hx1 : x ≤ 1 := by omega
              have v5 : IntKind.i64.wrap (x : Int) = (x : Int) := wrap_i64 (by omega) (by omega)
              have hminb : min b IntKind.i64.bits = b := Nat.min_eq_left (by have : IntKind.i64.bits = 64 := rfl; omega)
              have v6 := shl_i64 (m := b) (b := x) (by omega) hx1
              have v7 := or_i64 (dval_lt (bts T) w i b) hx1 (b := b) (by omega)
              have hdv : dval (bts T) w i (b + 1) = dval (bts T) w i b + x * 2 ^ b := by rw [dval, ← hk, hbit]
              obtain ⟨sh, hs2⟩ : ∃ sh, sh = x * 2 ^ b := ⟨_, rfl⟩
              rw [← hs2] at v6 v7 hdv
              simp -implicitDefEqProofs [hB2, x_column_reader_packed_l0, h0, h3, h4, h5, h6, h7, h60, h61, h64, h65, hblt, v1, v2, v3, v4, hcd, hmin8, hsh, hand, v5, hminb, v6]
              refine K2 _ _ ⟨?_, rfl⟩
              simp only [sees_cons, sees_nil]
              simp [h0, h3, h4, h5, h6, h60, h61, h64, hdv, wrap_up (by omega : b < 100000000000)]
              simpa using v7
            · rintro B2 hB2 st h' ⟨⟨h0, h3, h4, h5, h6, h7, h60, h61, h64, h65, -⟩, rfl⟩
              rw [show n - i = (n - (i + 1)) + 1 from by omega, pvals] at hx
              have hdl := dval_lt (bts T) w i w
              have hp62 : 2 ^ w ≤ 2 ^ 62 := Nat.pow_le_pow_right (by decide) (by omega)
              have e62 : (2 : Nat) ^ 62 = 4611686018427387904 := by decide
              obtain ⟨y, hy⟩ : ∃ y, y = dval (bts T) w i w := ⟨_, rfl⟩
              rw [← hy] at hx h7 hdl
              have hwa : IntKind.i64.wrap (least + (y : Int)) = least + (y : Int) := wrap_i64 (by have := hlo.1; omega) (by have := hlo.2; omega)
              obtain ⟨z, hz⟩ : ∃ z, z = least + (y : Int) := ⟨_, rfl⟩
              rw [← hz] at hwa hx
              have hwa : IntKind.i64.wrap (least + (y : Int)) = z := by rw [← hz, hwa]
              by_cases hbig : 1152921504606846976 < z
              · rw [if_pos hbig] at hx
                have hff := C_failedC (h := h) (t := t ++ tl) (s := s) ⟨a4, 0, l, 0⟩ true 2
                simp only at hff
                rw [show fl 0 0 true 2 = 2 from rfl] at hff
                simp -implicitDefEqProofs [hB2, hf, x_column_reader_packed_l0, h0, h3, h6, h7, h61, h64, h65, hwa, hbig, hff, htk, ← hx]
              · rw [if_neg hbig] at hx
                have hff := C_failedC (h := h) (t := t ++ tl) (s := s) ⟨a4, 0, l, 0⟩ false 2
                simp only at hff
                rw [show fl 0 0 false 2 = 0 from rfl] at hff
                have hltl : h.length + 1 < (crC h s ⟨a4, 0, l, 0⟩ (t ++ tl)).length := by rw [crC_length]; omega
                have hst := cr_set1 (h := h) (t := t ++ tl) (s := s) (a := a4) (e0 := 0) (vals := l) (e := 0) (l ++ [z]) 0
                have hst' : (crC h s ⟨a4, 0, l, 0⟩ (t ++ tl)).set (h.length + 1) (.box false [.ptr h.length 0, wcl (l ++ [z]), vi 0]) = crC h s ⟨a4, 0, l ++ [z], 0⟩ (t ++ tl) := hst
                have hatc := hat ⟨a4, 0, l, 0⟩ (t ++ tl)
                simp only at hatc
                by_cases hl0 : l = []
                · subst hl0
                  rw [show wcl [] = vnil from rfl] at hatc
                  have hat3' : (crC h s ⟨a4, 0, [], 0⟩ (t ++ tl) ++ [O.dead])[h.length + 1]? = some (.box false [.ptr h.length 0, vnil, vi 0]) := by rw [at_left hltl, hatc]
                  have hat4' : (crC h s ⟨a4, 0, [], 0⟩ (t ++ tl) ++ [O.arr false 1 [vi z]])[h.length + 1]? = some (.box false [.ptr h.length 0, vnil, vi 0]) := by rw [at_left hltl, hatc]
                  have hst2 : (crC h s ⟨a4, 0, [], 0⟩ (t ++ tl) ++ [O.dead]).set (h.length + 1) (.box false [.ptr h.length 0, .own 1 [vi z], vi 0]) = crC h s ⟨a4, 0, [] ++ [z], 0⟩ (t ++ (tl ++ [O.dead])) := by
                    rw [set_left hltl]
                    rw [show V.own 1 [vi z] = wcl ([] ++ [z]) from rfl, hst', crC, crC, cr_app]
                    simp
                  simp -implicitDefEqProofs [hB2, x_column_reader_packed_l0, h0, h3, h6, h7, h61, h64, h65, hwa, hbig, hff, hatc, hat3', hat4']
                  refine K _ _ ⟨[] ++ [z], tl ++ [O.dead], ?_, hst2, hx, by simp at hll ⊢; omega⟩
                  simp [h0, h3, h4, h5, h60, wrap_up (by omega : i < 100000000000)]
                · rw [wcl_own hl0] at hatc
                  rw [wcl_own (by simp)] at hst'
                  have hlim : l.length ≤ 17592186044415 := by omega
                  have hil : il l ++ [vi z] = il (l ++ [z]) := by simp [il]
                  have hss : ∀ X : O, ((crC h s ⟨a4, 0, l, 0⟩ (t ++ tl)).set (h.length + 1) X)[h.length + 1]? = some X := fun X => List.getElem?_set_self hltl
                  simp -implicitDefEqProofs [hB2, x_column_reader_packed_l0, h0, h3, h6, h7, h61, h64, h65, hwa, hbig, hff, hatc, hss, il_length, hlim, hil, hst']
                  refine K _ _ ⟨l ++ [z], tl, ?_, rfl, hx, by simp [hll]⟩
                  simp [h0, h3, h4, h5, h60, wrap_up (by omega : i < 100000000000)]
          · rintro B hB st h' ⟨l, tl, ⟨h0, h3, h4, h5, h60, h61, -⟩, rfl, hx, hll⟩
            rw [Nat.sub_self, pvals] at hx
            simp -implicitDefEqProofs [hB, x_column_reader_packed_l1, h60, h61, htk, ← hx]
        · rw [if_pos E4]
          have E4' : (fl x4 0 ((T.size : Int) != (SZ : Int)) 3 != 0) = true := by simpa using E4
          generalize hne : ((T.size : Int) != (SZ : Int)) = ne at *
          have hff4 := hf4 ne 3
          rw [E4'] at hff4
          simp -implicitDefEqProofs [x_column_reader_packed, hat0, n1, hat1, g1, g2, hff1, n2, hat2, hwr, hff2, n3, hat3, g4, g5, hff3, n4, hat4, w1, w2, w3, hne, hff4, htk0]
      · rw [if_pos E3]
        have E3' : (fl x3 0 (decide (w < 0) || decide (62 < w)) 2 != 0) = true := by simpa using E3
        by_cases g4 : w < 0
        · have hff3 := hf3 true 2
          simp only [g4, decide_true, Bool.true_or] at E3' ⊢
          rw [E3'] at hff3
          simp -implicitDefEqProofs [x_column_reader_packed, hat0, n1, hat1, g1, g2, hff1, n2, hat2, hwr, hff2, n3, hat3, g4, hff3, htk0]
        · by_cases g5 : 62 < w
          · have hff3 := hf3 true 2
            simp only [g4, g5, decide_true, Bool.or_true] at E3' ⊢
            rw [E3'] at hff3
            simp -implicitDefEqProofs [x_column_reader_packed, hat0, n1, hat1, g1, g2, hff1, n2, hat2, hwr, hff2, n3, hat3, g4, g5, hff3, htk0]
          · have hff3 := hf3 false 2
            simp only [g4, g5, decide_false, Bool.or_false] at E3' ⊢
            rw [E3'] at hff3
            simp -implicitDefEqProofs [x_column_reader_packed, hat0, n1, hat1, g1, g2, hff1, n2, hat2, hwr, hff2, n3, hat3, g4, g5, hff3, htk0]
    · rw [if_pos E2]
      have E2' : (fl x2 0 (wrongB least) 2 != 0) = true := by simpa using E2
      generalize wrongB least = wr at *
      have hff2 := hf2 wr 2
      rw [E2'] at hff2
      simp -implicitDefEqProofs [x_column_reader_packed, hat0, n1, hat1, g1, g2, hff1, n2, hat2, hwr, hff2, htk0]
  · rw [if_pos E1]
    have E1' : (fl x1 0 (decide (n < 0) || decide (4096 < n)) 2 != 0) = true := by simpa using E1
    by_cases g1 : n < 0
    · have hff1 := hf1 true 2
      simp only [g1, decide_true, Bool.true_or] at E1' ⊢
      rw [E1'] at hff1
      simp -implicitDefEqProofs [x_column_reader_packed, hat0, n1, hat1, g1, hff1, htk0]
    · by_cases g2 : 4096 < n
      · have hff1 := hf1 true 2
        simp only [g1, g2, decide_true, Bool.or_true] at E1' ⊢
        rw [E1'] at hff1
        simp -implicitDefEqProofs [x_column_reader_packed, hat0, n1, hat1, g1, g2, hff1, htk0]
      · have hff1 := hf1 false 2
        simp only [g1, g2, decide_false, Bool.or_false] at E1' ⊢
        rw [E1'] at hff1
        simp -implicitDefEqProofs [x_column_reader_packed, hat0, n1, hat1, g1, g2, hff1, htk0]
end
end Go.Proofs.Sl

namespace Go.Proofs.Sl
def lstO (l : List Int) : Option (List V) := if l = [] then none else some (il l)
theorem lstO_get (l : List Int) : (lstO l).getD [] = il l := by
  unfold lstO
  split
  · rename_i h; subst h; rfl
  · rfl
theorem lstC_ok {s : ByteArray} {d : Bool} : ∀ (n i : Nat) (c : CS), c.Ok s → c.vals.length ≤ i → (lstC s d n i c).Ok s ∧ (lstC s d n i c).vals.length ≤ i + n ∧ ((lstC s d n i c).e = 0 → (lstC s d n i c).e0 = 0)
  | 0, i, c, hc, hl => ⟨⟨hc.a, hc.v⟩, by simpa [lstC, failC] using hl, fun h => (fl_zero0 h).2⟩
  | n + 1, i, c, hc, hl => by
    rw [lstC]
    split
    · exact ⟨⟨hc.a, hc.v⟩, by simp only [failC]; omega, fun h => (fl_zero0 h).2⟩
    · have h1 := stepV_ok (s := s) (d := d && decide (0 < i)) (last := lastC i c) hc
      have h2 : (stepV s (d && decide (0 < i)) (lastC i c) c).vals.length ≤ i + 1 := by
        show (if valE s c.a _ _ = 0 then _ else _ : List Int).length ≤ i + 1
        split <;> first | (simp; done) | (simp; omega) | omega
      obtain ⟨a1, a2, a3⟩ := lstC_ok n (i + 1) _ h1 h2
      exact ⟨a1, by omega, a3⟩
theorem runC_ok {s : ByteArray} : ∀ (n : Nat) (c : CS), c.Ok s → c.vals.length ≤ 4096 → (runC s n c).Ok s ∧ (runC s n c).vals.length ≤ 4097 ∧ ((runC s n c).e = 0 → (runC s n c).e0 = 0)
  | 0, c, hc, hl => ⟨⟨hc.a, hc.v⟩, by simp only [runC, failC]; omega, fun h => (fl_zero0 h).2⟩
  | n + 1, c, hc, hl => by
    rw [runC]
    have h1 := stepV_ok (s := s) (d := false) (last := 0) hc
    have h2 : (stepV s false 0 c).vals.length ≤ c.vals.length + 1 := by
      show (if valE s c.a _ _ = 0 then _ else _ : List Int).length ≤ _
      split <;> first | (simp; done) | (simp; omega) | omega
    have h3 := stepV_zero (s := s) (d := false) (last := 0) (c := c)
    generalize stepV s false 0 c = c2 at *
    split
    · exact ⟨⟨h1.a, h1.v⟩, by simp only [failC]; omega, fun h => (fl_zero0 h).2⟩
    · rename_i hz
      obtain ⟨z1, z2⟩ := fl_zero0 (by simpa using hz)
      obtain ⟨y1, y2, y3⟩ := h3 z1
      have hle := rNum_le h1.a 0
      split
      · rename_i hb
        exact ⟨⟨hle, h1.v⟩, by simp only; omega, fun h => absurd h hb⟩
      · rename_i hb
        obtain ⟨-, g2, g3⟩ := fl_zero (by simpa using hb) (by decide)
        simp only [Bool.or_eq_false_iff, decide_eq_false_iff_not] at g3
        refine runC_ok n _ ⟨hle, fun x hx => ?_⟩ ?_
        · simp only [List.mem_append] at hx
          rcases hx with hx | hx
          · exact h1.v x hx
          · rw [(List.mem_replicate.1 hx).2]; exact y3
        · simp; omega
theorem pvals_ok {d : List UInt8} {w : Nat} {least : Int} (hl : OkV least) : ∀ (n i : Nat) (l : List Int), (∀ x ∈ l, OkV x) → (∀ x ∈ (pvals d w least n i l).1, OkV x) ∧ (pvals d w least n i l).1.length ≤ l.length + n
  | 0, i, l, h => ⟨h, by simp [pvals]⟩
  | n + 1, i, l, h => by
    rw [pvals]
    split
    · exact ⟨h, by simp only; omega⟩
    · rename_i hb
      obtain ⟨h1, h2⟩ := pvals_ok hl n (i + 1) (l ++ [least + dval d w i w]) (fun x hx => by
        simp only [List.mem_append, List.mem_singleton] at hx
        rcases hx with hx | rfl
        · exact h x hx
        · exact ⟨by have := hl.1; omega, by omega⟩)
      refine ⟨h1, ?_⟩
      simp at h2
      omega
theorem pckC_ok {s : ByteArray} {a : Nat} (ha : a ≤ s.size) : (pckC s a).Ok s ∧ (pckC s a).vals.length ≤ 4096 ∧ ((pckC s a).e = 0 → (pckC s a).e0 = 0) := by
  unfold pckC
  have h1 := rNum_le ha 0
  simp only
  split
  · rename_i h; exact ⟨⟨h1, by simp⟩, by simp, fun h' => absurd h' h⟩
  · rename_i g1
    have h2 := rNum_le h1 0
    split
    · rename_i h; exact ⟨⟨h2, by simp⟩, by simp, fun h' => absurd h' h⟩
    · rename_i g2
      have h3 := rNum_le h2 0
      split
      · rename_i h; exact ⟨⟨h3, by simp⟩, by simp, fun h' => absurd h' h⟩
      · rename_i g3
        have h4 := rText_le h3 0 32768
        split
        · rename_i h; exact ⟨⟨h4, by simp⟩, by simp, fun h' => absurd h' h⟩
        · obtain ⟨-, -, k1⟩ := fl_zero (by simpa using g1) (by decide)
          obtain ⟨-, -, k2⟩ := fl_zero (by simpa using g2) (by decide)
          simp only [Bool.or_eq_false_iff, decide_eq_false_iff_not] at k1
          obtain ⟨p1, p2⟩ := pvals_ok (d := bts (rText s (rNum s (rNum s (rNum s a 0).2.1 0).2.1 0).2.1 0 32768).1) (w := (rNum s (rNum s (rNum s a 0).2.1 0).2.1 0).1.toNat) (wrongB_iff.1 k2) (rNum s a 0).1.toNat 0 [] (by simp)
          refine ⟨⟨h4, p1⟩, ?_, fun _ => rfl⟩
          simp only
          simp at p2
          omega
/-- What is read behind the kind. -/
def decC (s : ByteArray) (kind : Int) (a : Nat) : CS :=
  if kind = 1 then lstC s false (rSz s a 0 4096 6).1 0 (cntC s a) else if kind = 2 then lstC s true (rSz s a 0 4096 6).1 0 (cntC s a) else if kind = 3 then runC s (rSz s a 0 4096 6).1 (cntC s a) else pckC s a
theorem decC_ok {s : ByteArray} {a : Nat} (ha : a ≤ s.size) (kind : Int) : (decC s kind a).Ok s ∧ (decC s kind a).vals.length ≤ 4097 ∧ ((decC s kind a).e = 0 → (decC s kind a).e0 = 0) := by
  have hN := rSz_cap s a 0 4096 6 (by decide) (by decide)
  have hok0 : (cntC s a).Ok s := ⟨by have := rSz_le ha 0 4096 (more := 6) (by decide); simp only [cntC]; omega, by simp [cntC]⟩
  have hl0 : (cntC s a).vals.length ≤ 0 := by simp [cntC]
  unfold decC
  split
  · obtain ⟨h1, h2, h3⟩ := lstC_ok (d := false) (rSz s a 0 4096 6).1 0 _ hok0 hl0
    exact ⟨h1, by omega, h3⟩
  · split
    · obtain ⟨h1, h2, h3⟩ := lstC_ok (d := true) (rSz s a 0 4096 6).1 0 _ hok0 hl0
      exact ⟨h1, by omega, h3⟩
    · split
      · exact runC_ok _ _ hok0 (by simp [cntC])
      · obtain ⟨h1, h2, h3⟩ := pckC_ok ha
        exact ⟨h1, by omega, h3⟩
/-- The error of a kind. -/
def kindE (s : ByteArray) : Int := fl (rNum s 0 0).2.2 0 (decide ((rNum s 0 0).1 < 1) || decide (4 < (rNum s 0 0).1)) 12
def openC (s : ByteArray) : CS := decC s (rNum s 0 0).1 (rNum s 0 0).2.1
/-- What Open answers. -/
def openV (s : ByteArray) : V :=
  if kindE s ≠ 0 then .tup [vnp, vi (kindE s)] else if (openC s).e ≠ 0 then .tup [vnp, vi (openC s).e] else
  if (openC s).a < s.size ∨ (bestP (openC s).vals 4).1 ≠ bts s then .tup [vnp, vi 3] else .tup [colV (lstO (openC s).vals) (openC s).vals, vi 0]

theorem neq_txs (a : List UInt8) (s : ByteArray) : xbin .neq (tx a) (vs s) = some (vb (!(a == bts s))) := by
  have : vs s = tx (bts s) := by simp [tx, bts]
  rw [this, neq_tx]
theorem eql_txs (a : List UInt8) (s : ByteArray) : xbin .eql (tx a) (vs s) = some (vb (a == bts s)) := by
  have : vs s = tx (bts s) := by simp [tx, bts]
  rw [this, eql_tx]

theorem C_Open1 (h : H) {s : ByteArray} (hs : s.size ≤ 10000000000000) {a1 : Nat} (hr : rNum s 0 0 = (1, a1, 0)) : run XP i_column_Open [vs s] h = some (openV s, h) := by
  have hat : ∀ (c : CS), (crC h s c [])[h.length + 1]? = some (.box false [.ptr h.length 0, wcl c.vals, vi c.e]) := fun c => cr_at1
  have htk : ∀ (c : CS), (crC h s c []).take h.length = h := fun c => cr_take
  have n1 := C_NumberC (h := h) (t := []) (s := s) hs (c := ⟨0, 0, [], 0⟩) (Nat.zero_le _)
  have hc0 : h ++ [.box false [vs s, vi 0, vi 0], .box false [.ptr h.length 0, vnil, vi 0]] = crC h s ⟨0, 0, [], 0⟩ [] := rfl
  have hnew := R_New (h := h) (s := s)
  have hat0 := hat ⟨0, 0, [], 0⟩
  have ha1 : a1 ≤ s.size := by have := rNum_le (s := s) (Nat.zero_le _) 0; rw [hr] at this; exact this
  have hO : openC s = decC s 1 a1 := by rw [openC, hr]
  have hdec := decC_ok ha1 1
  have hK : kindE s = 0 := by rw [kindE, hr]; rfl
  have hl := C_list (h := h) (t := []) hs ha1 false
  rw [show cr h s a1 0 [] 0 [] = crC h s ⟨a1, 0, [], 0⟩ [] from rfl] at hl
  have hat1 := hat ⟨a1, 0, [], 0⟩
  have hff := C_failedC (h := h) (t := []) (s := s) ⟨a1, 0, [], 0⟩ false 12
  unfold openV
  rw [hK, if_neg (by decide)]
  simp only [hr] at n1
  simp only at hat1 hff
  rw [show fl 0 0 false 12 = 0 from rfl] at hff
  rw [← hO] at hdec
  rw [show lstC s false (rSz s a1 0 4096 6).1 0 (cntC s a1) = openC s from by rw [hO]; rfl] at hl
  generalize openC s = c at *
  obtain ⟨hok, hvl, he0⟩ := hdec
  have hatc := hat c
  have hmade := run_made (crC h s c []) (o := lstO c.vals) (lstO_get _) hok.v (by omega) (by rw [lstO_get]; exact closeds_il _)
  have hload : ∀ b, arg0 (rdCell b 1 (wcl c.vals)) = some (lv 1 (lstO c.vals)) := fun b => by
    by_cases hz : c.vals = []
    · simp [wcl, lstO, hz, lv]
    · simp [wcl, lstO, hz, lv]
  have hleft := R_Left (h := crC h s c []) (l := h.length) (s := s) (a := c.a) (e := c.e0) cr_at0 hs hok.a
  have hres : res0 (colV (lstO c.vals) c.vals) = colV (lstO c.vals) c.vals := rfl
  rw [run_eq, xp_column_Open]
  by_cases E2 : c.e = 0
  · rw [if_neg (by simpa using E2)]
    rw [E2] at hatc
    by_cases E3 : c.a < s.size
    · rw [if_pos (.inl E3)]
      simp -implicitDefEqProofs [x_column_Open, hnew, noOwn, addParts, hc0, hat0, n1, hff, hat1, hl, hatc, hload, hmade, hres, hleft, E3, htk]
    · by_cases E4 : (bestP c.vals 4).1 = bts s
      · rw [if_neg (by simp [E3, E4])]
        have E4' : ((bestP c.vals 4).1 == bts s) = true := by simp [E4]
        rw [colV_def] at hmade ⊢
        simp -implicitDefEqProofs [x_column_Open, hnew, noOwn, addParts, hc0, hat0, n1, hff, hat1, hl, hatc, hload, hmade, hleft, E3, htk, neq_txs, E4']
      · rw [if_pos (.inr E4)]
        have E4' : ((bestP c.vals 4).1 == bts s) = false := by simpa using E4
        rw [colV_def] at hmade
        simp -implicitDefEqProofs [x_column_Open, hnew, noOwn, addParts, hc0, hat0, n1, hff, hat1, hl, hatc, hload, hmade, hleft, E3, htk, neq_txs, E4']
  · rw [if_pos (by simpa using E2)]
    have E2' : (c.e != 0) = true := by simpa using E2
    simp -implicitDefEqProofs [x_column_Open, hnew, noOwn, addParts, hc0, hat0, n1, hff, hat1, hl, hatc, E2', htk]
theorem C_Open2 (h : H) {s : ByteArray} (hs : s.size ≤ 10000000000000) {a1 : Nat} (hr : rNum s 0 0 = (2, a1, 0)) : run XP i_column_Open [vs s] h = some (openV s, h) := by
  have hat : ∀ (c : CS), (crC h s c [])[h.length + 1]? = some (.box false [.ptr h.length 0, wcl c.vals, vi c.e]) := fun c => cr_at1
  have htk : ∀ (c : CS), (crC h s c []).take h.length = h := fun c => cr_take
  have n1 := C_NumberC (h := h) (t := []) (s := s) hs (c := ⟨0, 0, [], 0⟩) (Nat.zero_le _)
  have hc0 : h ++ [.box false [vs s, vi 0, vi 0], .box false [.ptr h.length 0, vnil, vi 0]] = crC h s ⟨0, 0, [], 0⟩ [] := rfl
  have hnew := R_New (h := h) (s := s)
  have hat0 := hat ⟨0, 0, [], 0⟩
  have ha1 : a1 ≤ s.size := by have := rNum_le (s := s) (Nat.zero_le _) 0; rw [hr] at this; exact this
  have hO : openC s = decC s 2 a1 := by rw [openC, hr]
  have hdec := decC_ok ha1 2
  have hK : kindE s = 0 := by rw [kindE, hr]; rfl
  have hl := C_list (h := h) (t := []) hs ha1 true
  rw [show cr h s a1 0 [] 0 [] = crC h s ⟨a1, 0, [], 0⟩ [] from rfl] at hl
  have hat1 := hat ⟨a1, 0, [], 0⟩
  have hff := C_failedC (h := h) (t := []) (s := s) ⟨a1, 0, [], 0⟩ false 12
  unfold openV
  rw [hK, if_neg (by decide)]
  simp only [hr] at n1
  simp only at hat1 hff
  rw [show fl 0 0 false 12 = 0 from rfl] at hff
  rw [← hO] at hdec
  rw [show lstC s true (rSz s a1 0 4096 6).1 0 (cntC s a1) = openC s from by rw [hO]; rfl] at hl
  generalize openC s = c at *
  obtain ⟨hok, hvl, he0⟩ := hdec
  have hatc := hat c
  have hmade := run_made (crC h s c []) (o := lstO c.vals) (lstO_get _) hok.v (by omega) (by rw [lstO_get]; exact closeds_il _)
  have hload : ∀ b, arg0 (rdCell b 1 (wcl c.vals)) = some (lv 1 (lstO c.vals)) := fun b => by
    by_cases hz : c.vals = []
    · simp [wcl, lstO, hz, lv]
    · simp [wcl, lstO, hz, lv]
  have hleft := R_Left (h := crC h s c []) (l := h.length) (s := s) (a := c.a) (e := c.e0) cr_at0 hs hok.a
  have hres : res0 (colV (lstO c.vals) c.vals) = colV (lstO c.vals) c.vals := rfl
  rw [run_eq, xp_column_Open]
  by_cases E2 : c.e = 0
  · rw [if_neg (by simpa using E2)]
    rw [E2] at hatc
    by_cases E3 : c.a < s.size
    · rw [if_pos (.inl E3)]
      simp -implicitDefEqProofs [x_column_Open, hnew, noOwn, addParts, hc0, hat0, n1, hff, hat1, hl, hatc, hload, hmade, hres, hleft, E3, htk]
    · by_cases E4 : (bestP c.vals 4).1 = bts s
      · rw [if_neg (by simp [E3, E4])]
        have E4' : ((bestP c.vals 4).1 == bts s) = true := by simp [E4]
        rw [colV_def] at hmade ⊢
        simp -implicitDefEqProofs [x_column_Open, hnew, noOwn, addParts, hc0, hat0, n1, hff, hat1, hl, hatc, hload, hmade, hleft, E3, htk, neq_txs, E4']
      · rw [if_pos (.inr E4)]
        have E4' : ((bestP c.vals 4).1 == bts s) = false := by simpa using E4
        rw [colV_def] at hmade
        simp -implicitDefEqProofs [x_column_Open, hnew, noOwn, addParts, hc0, hat0, n1, hff, hat1, hl, hatc, hload, hmade, hleft, E3, htk, neq_txs, E4']
  · rw [if_pos (by simpa using E2)]
    have E2' : (c.e != 0) = true := by simpa using E2
    simp -implicitDefEqProofs [x_column_Open, hnew, noOwn, addParts, hc0, hat0, n1, hff, hat1, hl, hatc, E2', htk]
theorem C_Open3 (h : H) {s : ByteArray} (hs : s.size ≤ 10000000000000) {a1 : Nat} (hr : rNum s 0 0 = (3, a1, 0)) : run XP i_column_Open [vs s] h = some (openV s, h) := by
  have hat : ∀ (c : CS), (crC h s c [])[h.length + 1]? = some (.box false [.ptr h.length 0, wcl c.vals, vi c.e]) := fun c => cr_at1
  have htk : ∀ (c : CS), (crC h s c []).take h.length = h := fun c => cr_take
  have n1 := C_NumberC (h := h) (t := []) (s := s) hs (c := ⟨0, 0, [], 0⟩) (Nat.zero_le _)
  have hc0 : h ++ [.box false [vs s, vi 0, vi 0], .box false [.ptr h.length 0, vnil, vi 0]] = crC h s ⟨0, 0, [], 0⟩ [] := rfl
  have hnew := R_New (h := h) (s := s)
  have hat0 := hat ⟨0, 0, [], 0⟩
  have ha1 : a1 ≤ s.size := by have := rNum_le (s := s) (Nat.zero_le _) 0; rw [hr] at this; exact this
  have hO : openC s = decC s 3 a1 := by rw [openC, hr]
  have hdec := decC_ok ha1 3
  have hK : kindE s = 0 := by rw [kindE, hr]; rfl
  have hl := C_runs (h := h) (t := []) hs ha1
  rw [show cr h s a1 0 [] 0 [] = crC h s ⟨a1, 0, [], 0⟩ [] from rfl] at hl
  have hat1 := hat ⟨a1, 0, [], 0⟩
  have hff := C_failedC (h := h) (t := []) (s := s) ⟨a1, 0, [], 0⟩ false 12
  unfold openV
  rw [hK, if_neg (by decide)]
  simp only [hr] at n1
  simp only at hat1 hff
  rw [show fl 0 0 false 12 = 0 from rfl] at hff
  rw [← hO] at hdec
  rw [show runC s (rSz s a1 0 4096 6).1 (cntC s a1) = openC s from by rw [hO]; rfl] at hl
  generalize openC s = c at *
  obtain ⟨hok, hvl, he0⟩ := hdec
  have hatc := hat c
  have hmade := run_made (crC h s c []) (o := lstO c.vals) (lstO_get _) hok.v (by omega) (by rw [lstO_get]; exact closeds_il _)
  have hload : ∀ b, arg0 (rdCell b 1 (wcl c.vals)) = some (lv 1 (lstO c.vals)) := fun b => by
    by_cases hz : c.vals = []
    · simp [wcl, lstO, hz, lv]
    · simp [wcl, lstO, hz, lv]
  have hleft := R_Left (h := crC h s c []) (l := h.length) (s := s) (a := c.a) (e := c.e0) cr_at0 hs hok.a
  have hres : res0 (colV (lstO c.vals) c.vals) = colV (lstO c.vals) c.vals := rfl
  rw [run_eq, xp_column_Open]
  by_cases E2 : c.e = 0
  · rw [if_neg (by simpa using E2)]
    rw [E2] at hatc
    by_cases E3 : c.a < s.size
    · rw [if_pos (.inl E3)]
      simp -implicitDefEqProofs [x_column_Open, hnew, noOwn, addParts, hc0, hat0, n1, hff, hat1, hl, hatc, hload, hmade, hres, hleft, E3, htk]
    · by_cases E4 : (bestP c.vals 4).1 = bts s
      · rw [if_neg (by simp [E3, E4])]
        have E4' : ((bestP c.vals 4).1 == bts s) = true := by simp [E4]
        rw [colV_def] at hmade ⊢
        simp -implicitDefEqProofs [x_column_Open, hnew, noOwn, addParts, hc0, hat0, n1, hff, hat1, hl, hatc, hload, hmade, hleft, E3, htk, neq_txs, E4']
      · rw [if_pos (.inr E4)]
        have E4' : ((bestP c.vals 4).1 == bts s) = false := by simpa using E4
        rw [colV_def] at hmade
        simp -implicitDefEqProofs [x_column_Open, hnew, noOwn, addParts, hc0, hat0, n1, hff, hat1, hl, hatc, hload, hmade, hleft, E3, htk, neq_txs, E4']
  · rw [if_pos (by simpa using E2)]
    have E2' : (c.e != 0) = true := by simpa using E2
    simp -implicitDefEqProofs [x_column_Open, hnew, noOwn, addParts, hc0, hat0, n1, hff, hat1, hl, hatc, E2', htk]
theorem C_Open4 (h : H) {s : ByteArray} (hs : s.size ≤ 10000000000000) {a1 : Nat} (hr : rNum s 0 0 = (4, a1, 0)) : run XP i_column_Open [vs s] h = some (openV s, h) := by
  have hat : ∀ (c : CS), (crC h s c [])[h.length + 1]? = some (.box false [.ptr h.length 0, wcl c.vals, vi c.e]) := fun c => cr_at1
  have htk : ∀ (c : CS), (crC h s c []).take h.length = h := fun c => cr_take
  have n1 := C_NumberC (h := h) (t := []) (s := s) hs (c := ⟨0, 0, [], 0⟩) (Nat.zero_le _)
  have hc0 : h ++ [.box false [vs s, vi 0, vi 0], .box false [.ptr h.length 0, vnil, vi 0]] = crC h s ⟨0, 0, [], 0⟩ [] := rfl
  have hnew := R_New (h := h) (s := s)
  have hat0 := hat ⟨0, 0, [], 0⟩
  have ha1 : a1 ≤ s.size := by have := rNum_le (s := s) (Nat.zero_le _) 0; rw [hr] at this; exact this
  have hO : openC s = decC s 4 a1 := by rw [openC, hr]
  have hdec := decC_ok ha1 4
  have hK : kindE s = 0 := by rw [kindE, hr]; rfl
  have hl := C_packed (h := h) (t := []) hs ha1
  rw [show cr h s a1 0 [] 0 [] = crC h s ⟨a1, 0, [], 0⟩ [] from rfl] at hl
  have hat1 := hat ⟨a1, 0, [], 0⟩
  have hff := C_failedC (h := h) (t := []) (s := s) ⟨a1, 0, [], 0⟩ false 12
  unfold openV
  rw [hK, if_neg (by decide)]
  simp only [hr] at n1
  simp only at hat1 hff
  rw [show fl 0 0 false 12 = 0 from rfl] at hff
  rw [← hO] at hdec
  rw [show pckC s a1 = openC s from by rw [hO, decC, if_neg (by decide), if_neg (by decide), if_neg (by decide)]] at hl
  generalize openC s = c at *
  obtain ⟨hok, hvl, he0⟩ := hdec
  have hatc := hat c
  have hmade := run_made (crC h s c []) (o := lstO c.vals) (lstO_get _) hok.v (by omega) (by rw [lstO_get]; exact closeds_il _)
  have hload : ∀ b, arg0 (rdCell b 1 (wcl c.vals)) = some (lv 1 (lstO c.vals)) := fun b => by
    by_cases hz : c.vals = []
    · simp [wcl, lstO, hz, lv]
    · simp [wcl, lstO, hz, lv]
  have hleft := R_Left (h := crC h s c []) (l := h.length) (s := s) (a := c.a) (e := c.e0) cr_at0 hs hok.a
  have hres : res0 (colV (lstO c.vals) c.vals) = colV (lstO c.vals) c.vals := rfl
  rw [run_eq, xp_column_Open]
  by_cases E2 : c.e = 0
  · rw [if_neg (by simpa using E2)]
    rw [E2] at hatc
    by_cases E3 : c.a < s.size
    · rw [if_pos (.inl E3)]
      simp -implicitDefEqProofs [x_column_Open, hnew, noOwn, addParts, hc0, hat0, n1, hff, hat1, hl, hatc, hload, hmade, hres, hleft, E3, htk]
    · by_cases E4 : (bestP c.vals 4).1 = bts s
      · rw [if_neg (by simp [E3, E4])]
        have E4' : ((bestP c.vals 4).1 == bts s) = true := by simp [E4]
        rw [colV_def] at hmade ⊢
        simp -implicitDefEqProofs [x_column_Open, hnew, noOwn, addParts, hc0, hat0, n1, hff, hat1, hl, hatc, hload, hmade, hleft, E3, htk, neq_txs, E4']
      · rw [if_pos (.inr E4)]
        have E4' : ((bestP c.vals 4).1 == bts s) = false := by simpa using E4
        rw [colV_def] at hmade
        simp -implicitDefEqProofs [x_column_Open, hnew, noOwn, addParts, hc0, hat0, n1, hff, hat1, hl, hatc, hload, hmade, hleft, E3, htk, neq_txs, E4']
  · rw [if_pos (by simpa using E2)]
    have E2' : (c.e != 0) = true := by simpa using E2
    simp -implicitDefEqProofs [x_column_Open, hnew, noOwn, addParts, hc0, hat0, n1, hff, hat1, hl, hatc, E2', htk]
theorem C_Open0 (h : H) {s : ByteArray} (hs : s.size ≤ 10000000000000) (E1 : kindE s ≠ 0) : run XP i_column_Open [vs s] h = some (.tup [vnp, vi (kindE s)], h) := by
  have hat : ∀ (c : CS), (crC h s c [])[h.length + 1]? = some (.box false [.ptr h.length 0, wcl c.vals, vi c.e]) := fun c => cr_at1
  have htk : ∀ (c : CS), (crC h s c []).take h.length = h := fun c => cr_take
  have n1 := C_NumberC (h := h) (t := []) (s := s) hs (c := ⟨0, 0, [], 0⟩) (Nat.zero_le _)
  have hc0 : h ++ [.box false [vs s, vi 0, vi 0], .box false [.ptr h.length 0, vnil, vi 0]] = crC h s ⟨0, 0, [], 0⟩ [] := rfl
  have hnew := R_New (h := h) (s := s)
  have hat0 := hat ⟨0, 0, [], 0⟩
  have hf1 := C_failedC (h := h) (t := []) (s := s) ⟨(rNum s 0 0).2.1, (rNum s 0 0).2.2, [], 0⟩
  have hK : kindE s = fl (rNum s 0 0).2.2 0 (decide ((rNum s 0 0).1 < 1) || decide (4 < (rNum s 0 0).1)) 12 := rfl
  rw [run_eq, xp_column_Open]
  simp only at n1 hf1
  generalize kindE s = KE at *
  generalize rNum s 0 0 = r at *
  obtain ⟨kind, a1, x1⟩ := r
  simp only at n1 hf1 hK
  have E1' : (KE != 0) = true := by simpa using E1
  rw [hK] at E1'
  by_cases g1 : kind < 1
  · have hff := hf1 true 12
    simp only [g1, decide_true, Bool.true_or] at E1' hK
    rw [E1'] at hff
    simp -implicitDefEqProofs [x_column_Open, hnew, noOwn, addParts, hc0, hat0, n1, g1, hff, hat, htk, hK]
  · by_cases g2 : 4 < kind
    · have hff := hf1 true 12
      simp only [g1, g2, decide_true, Bool.or_true] at E1' hK
      rw [E1'] at hff
      simp -implicitDefEqProofs [x_column_Open, hnew, noOwn, addParts, hc0, hat0, n1, g1, g2, hff, hat, htk, hK]
    · have hff := hf1 false 12
      simp only [g1, g2, decide_false, Bool.or_false] at E1' hK
      rw [E1'] at hff
      simp -implicitDefEqProofs [x_column_Open, hnew, noOwn, addParts, hc0, hat0, n1, g1, g2, hff, hat, htk, hK]
theorem C_Open (h : H) {s : ByteArray} (hs : s.size ≤ 10000000000000) : run XP i_column_Open [vs s] h = some (openV s, h) := by
  by_cases E1 : kindE s = 0
  · have hK := E1
    unfold kindE at hK
    obtain ⟨-, k1, g⟩ := fl_zero hK (by decide)
    simp only [Bool.or_eq_false_iff, decide_eq_false_iff_not] at g
    obtain ⟨g1, g2⟩ := g
    have hr : rNum s 0 0 = ((rNum s 0 0).1, (rNum s 0 0).2.1, 0) := Prod.ext rfl (Prod.ext rfl k1)
    have hkk : (rNum s 0 0).1 = 1 ∨ (rNum s 0 0).1 = 2 ∨ (rNum s 0 0).1 = 3 ∨ (rNum s 0 0).1 = 4 := by omega
    rcases hkk with h1 | h1 | h1 | h1 <;> rw [h1] at hr
    · exact C_Open1 h hs hr
    · exact C_Open2 h hs hr
    · exact C_Open3 h hs hr
    · exact C_Open4 h hs hr
  · rw [C_Open0 h hs E1, openV, if_pos E1]
end Go.Proofs.Sl

namespace Go.Proofs.Sl
section
variable {h : H} {l : Nat} {s : ByteArray} {a : Nat} {e : Int}
theorem q7_neg (hl : l < h.length) (hs : s.size ≤ 10000000000000) (ha : a ≤ s.size) {c : UInt8} {r : List UInt8} (hd : (bts s).drop a = c :: r) (hneg0 : c.toNat < 128) :
    run XP i_sleuthref07_reader_number [.ptr l 0] (h.set l (.box false [vs s, vi a, vi 0])) = some (vi (rNum s a 0).1, h.set l (.box false [vs s, vi (rNum s a 0).2.1, vi (rNum s a 0).2.2])) := by
  obtain ⟨hc, hsz, hr⟩ := bts_drop hd
  have hc256 := UInt8.toNat_lt c
  have hlt : ¬ s.size ≤ a := by omega
  have ha0 : (0 : Int) ≤ (a : Int) := by omega
  have wc : IntKind.i64.wrap (c.toNat : Int) = c.toNat := by rw [wrap_i64 (by omega) (by omega)]
  obtain ⟨n, hn⟩ : ∃ n, n = 128 - c.toNat := ⟨_, rfl⟩
  have wc2 : IntKind.i64.wrap ((c.toNat : Int) - 128) = -(n : Int) := by rw [wrap_i64 (by omega) (by omega)]; omega
  have wneg : IntKind.i64.wrap ((n : Int)) = (n : Int) := wrap_i64 (by omega) (by omega)
  have hmax : (if -(n : Int) < (n : Int) then (n : Int) else -(n : Int)) = (n : Int) := by split <;> omega
  have wa : IntKind.i64.wrap ((a : Int) + 1) = (a : Int) + 1 := wrap_i64 (by omega) (by omega)
  have wan : IntKind.i64.wrap ((a : Int) + 1 + (n : Int)) = (a : Int) + 1 + (n : Int) := wrap_i64 (by omega) (by omega)
  have hneg : (decide (c.toNat < 128)) = true := by simp; omega
  have hrn : rn s a = if n > 8 then (0, 0, 3) else if r.length < n then (0, 0, 4) else numE a true ((r.take n).map fun b => 255 - b.toNat) := by
    rw [rn, hd]
    simp only [hneg]
    have h1 : (c.toNat < 128) = True := by simp [hneg0]
    simp only [h1, if_true, ← hn]
  have hat : (h.set l (.box false [vs s, vi a, vi 0]))[l]? = some (.box false [vs s, vi a, vi 0]) := by simp [hl]
  rw [run_eq, xp_sleuthref07_reader_number]
  by_cases h8 : n > 8
  · have h8' : 8 < (n : Int) := by omega
    have hR : rNum s a 0 = (0, a, 3) := by rw [rNum, hrn, if_pos h8]; simp
    rw [hR]
    simp -implicitDefEqProofs [x_sleuthref07_reader_number, hl, hlt, ha0, hc, wc, wc2, wneg, hmax, h8']
  have h8' : ¬ 8 < (n : Int) := by omega
  by_cases hs2 : r.length < n
  · have hs2' : (s.size : Int) < (a : Int) + 1 + (n : Int) := by omega
    have hR : rNum s a 0 = (0, a, 4) := by rw [rNum, hrn, if_neg h8, if_pos hs2]; simp
    rw [hR]
    simp -implicitDefEqProofs [x_sleuthref07_reader_number, hl, hlt, ha0, hc, wc, wc2, wneg, hmax, h8', wa, wan, hs2']
  have hs2' : ¬ (s.size : Int) < (a : Int) + 1 + (n : Int) := by omega
  obtain ⟨ds, hds⟩ : ∃ ds, ds = (r.take n).map fun b : UInt8 => 255 - b.toNat := ⟨_, rfl⟩
  have hdl : ds.length = n := by rw [hds]; simp; omega
  have hdg : ∀ i d, ds[i]? = some d → d < 256 ∧ ∃ c : UInt8, s.data[a + 1 + i]? = some c ∧ d = 255 - c.toNat := by
    intro i d e
    rw [hds, List.getElem?_map, List.getElem?_take] at e
    split at e
    · rw [← hr i]
      cases he : r[i]? with
      | none => rw [he] at e; cases e
      | some b =>
        rw [he] at e
        simp only [Option.map_some, Option.some.injEq] at e
        have := UInt8.toNat_lt b
        exact ⟨by omega, b, rfl, by omega⟩
    · cases e
  have hall : ∀ d ∈ ds, d < 256 := fun d hd => by
    obtain ⟨i, hi⟩ := List.getElem?_of_mem hd
    exact (hdg i d hi).1
  rw [if_neg h8, if_neg hs2, ← hds] at hrn
  have hvk : ∀ k, k ≤ 8 → valD (ds.take k) < 256 ^ k := fun k hk => by
    have h1 := foldl_lt (ds.take k) 0 0 (fun d hd => hall d (List.mem_of_mem_take hd)) (by simp)
    have h2 : (256 : Nat) ^ (0 + (ds.take k).length) ≤ 256 ^ k := Nat.pow_le_pow_right (by decide) (by simp; omega)
    unfold valD
    omega
  simp -implicitDefEqProofs [x_sleuthref07_reader_number, hl, hlt, ha0, hc, wc, wc2, wneg, hmax, h8', wa, wan, hs2']
  refine loop_list ds (fun k st h' => Sees st [(0, .ptr l 0), (3, vi (-(n : Int))), (4, vi n), (5, vk .u64 (valD (ds.take k))), (6, vi k)] ∧ h' = h.set l (.box false [vs s, vi a, vi 0]) ∧ (k ≠ 0 → ds.head? ≠ some 0)) ?_ ?_ _ _
    ⟨by simp [valD], rfl, fun h => absurd rfl h⟩
  · rintro B f hB hf k d st h' hd hk ⟨⟨h0, h3, h4, h5, h6, -⟩, rfl, hh⟩ K
    obtain ⟨hd256, c2, hc2, hdc⟩ := hdg k d hd
    have hc2l := UInt8.toNat_lt c2
    have hklt : (k : Int) < n := by omega
    have w1 : IntKind.i64.wrap ((a : Int) + 1 + (k : Int)) = (a : Int) + 1 + (k : Int) := wrap_i64 (by omega) (by omega)
    have hge : (0 : Int) ≤ (a : Int) + 1 + (k : Int) := by omega
    have hak : ((a : Int) + 1 + (k : Int)).toNat = a + 1 + k := by omega
    have hm := hvk k (by omega)
    have hm8 : valD (ds.take k) * 256 + d < 18446744073709551616 := by
      have h8 : 256 ^ k ≤ 256 ^ 7 := Nat.pow_le_pow_right (by decide) (by omega)
      have : (256 : Nat) ^ 7 = 72057594037927936 := by decide
      omega
    have hsn : valD (ds.take (k + 1)) = 256 * valD (ds.take k) + d := by rw [take_at hd, valD_snoc]
    generalize valD (ds.take k) = m at *
    have wm : IntKind.u64.wrap ((m : Int) * 256) = (m : Int) * 256 := by rw [wrap_u64]; omega
    have wd : IntKind.u64.wrap (d : Int) = (d : Int) := by rw [wrap_u64]; omega
    have ws : IntKind.u64.wrap ((m : Int) * 256 + (d : Int)) = 256 * (m : Int) + (d : Int) := by rw [wrap_u64]; omega
    have hx : IntKind.u8.wrap (255 - (c2.toNat : Int)) = (d : Int) := by rw [wrap_u8]; omega
    have hlz : 0 < n := by omega
    have wk := wrap_up (k := k) (by omega)
    have m8 : min 8 IntKind.u64.bits = 8 := rfl
    by_cases hk0 : k = 0
    · have hkz : ((k : Int) == 0) = true := by simp [hk0]
      have hhd : ds.head? = some d := by rw [List.head?_eq_getElem?]; rw [hk0] at hd; exact hd
      by_cases hd0 : d = 0
      · have hdz : ((d : Int) == 0) = true := by simp [hd0]
        have hR : rNum s a 0 = (0, a, 3) := by rw [rNum, hrn, numE, hhd, hd0]; simp
        rw [hR]
        simp -implicitDefEqProofs [hB, hf, x_sleuthref07_reader_number_l0, hl, h0, h3, h4, h5, h6, hklt, wa, w1, hge, hak, hc2, hlz, hx, hkz, hdz]
      · have hdz : ((d : Int) == 0) = false := by simp; omega
        simp -implicitDefEqProofs [hB, x_sleuthref07_reader_number_l0, hl, h0, h3, h4, h5, h6, hklt, wa, w1, hge, hak, hc2, hlz, hx, hkz, hdz, m8, wm, wd, ws]
        refine K _ _ ⟨?_, rfl, fun _ => by rw [hhd]; simpa using hd0⟩
        simp only [sees_cons, sees_nil]
        simp [h0, h3, h4, hsn, wk]
    · have hkz : ((k : Int) == 0) = false := by simp; omega
      simp -implicitDefEqProofs [hB, x_sleuthref07_reader_number_l0, hl, h0, h3, h4, h5, h6, hklt, wa, w1, hge, hak, hc2, hlz, hx, hkz, m8, wm, wd, ws]
      refine K _ _ ⟨?_, rfl, fun _ => hh hk0⟩
      simp only [sees_cons, sees_nil]
      simp [h0, h3, h4, hsn, wk]
  · rintro B hB st h' ⟨⟨h0, h3, h4, h5, h6, -⟩, rfl, hh⟩
    have hz : ds.head? ≠ some 0 := by
      by_cases h0 : ds.length = 0
      · have : ds = [] := List.eq_nil_of_length_eq_zero h0
        rw [this]; simp
      · exact hh h0
    have hm := hvk ds.length (by omega)
    rw [List.take_length] at hm h5
    have hval : valD ds < 18446744073709551616 := by
      have h2 : (256 : Nat) ^ ds.length ≤ 256 ^ 8 := Nat.pow_le_pow_right (by decide) (by omega)
      have h3 : (256 : Nat) ^ 8 = 18446744073709551616 := by decide
      omega
    have hE : numE a true ds = if valD ds > 9223372036854775808 then (0, 0, 3) else (-(valD ds : Int), a + 1 + ds.length, 0) := by
      rw [numE, if_neg hz]
      by_cases hb : valD ds > 9223372036854775808
      · rw [if_pos hb]
        simp only
        rw [if_pos (by first | exact .inr hb | exact .inl ⟨rfl, hb⟩ | exact .inl ⟨trivial, hb⟩)]
      · rw [if_neg hb]
        simp only
        rw [if_neg (by rintro (⟨h', hx⟩ | hx) <;> first | exact absurd hx hb | omega | exact absurd h' (by decide))]
        rfl
    rw [hE] at hrn
    rw [hdl] at h6 hrn
    have hn0 : 0 < n := by omega
    have hnn : ¬ (n : Int) < 0 := by omega
    have hmz : n = 0 → valD ds = 0 := fun h => by
      have : ds = [] := List.eq_nil_of_length_eq_zero (by omega)
      rw [this]; rfl
    generalize valD ds = m at *
    by_cases hbig : m > 9223372036854775808
    · have hb' : 9223372036854775808 < (m : Int) := by omega
      have hR : rNum s a 0 = (0, a, 3) := by rw [rNum, hrn, if_pos hbig]; simp
      rw [hR]
      simp -implicitDefEqProofs [hB, x_sleuthref07_reader_number_l0, hl, h0, h3, h4, h5, h6, hn0, hnn, hb']
    · have hb' : ¬ 9223372036854775808 < (m : Int) := by omega
      have hR : rNum s a 0 = (-(m : Int), a + 1 + n, 0) := by rw [rNum, hrn, if_neg hbig]; simp
      rw [hR]
      have wm : IntKind.i64.wrap (IntKind.u64.wrap (-(m : Int))) = -(m : Int) := by rw [wrap_u64]; exact wrap_back (by omega) (by omega)
      simp -implicitDefEqProofs [hB, x_sleuthref07_reader_number_l0, hl, h0, h3, h4, h5, h6, hn0, hnn, hb', wa, wan, wm]
theorem q7_pos (hl : l < h.length) (hs : s.size ≤ 10000000000000) (ha : a ≤ s.size) {c : UInt8} {r : List UInt8} (hd : (bts s).drop a = c :: r) (hneg0 : ¬ c.toNat < 128) :
    run XP i_sleuthref07_reader_number [.ptr l 0] (h.set l (.box false [vs s, vi a, vi 0])) = some (vi (rNum s a 0).1, h.set l (.box false [vs s, vi (rNum s a 0).2.1, vi (rNum s a 0).2.2])) := by
  obtain ⟨hc, hsz, hr⟩ := bts_drop hd
  have hc256 := UInt8.toNat_lt c
  have hlt : ¬ s.size ≤ a := by omega
  have ha0 : (0 : Int) ≤ (a : Int) := by omega
  have wc : IntKind.i64.wrap (c.toNat : Int) = c.toNat := by rw [wrap_i64 (by omega) (by omega)]
  obtain ⟨n, hn⟩ : ∃ n, n = c.toNat - 128 := ⟨_, rfl⟩
  have wc2 : IntKind.i64.wrap ((c.toNat : Int) - 128) = (n : Int) := by rw [wrap_i64 (by omega) (by omega)]; omega
  have wneg : IntKind.i64.wrap (-(n : Int)) = -(n : Int) := wrap_i64 (by omega) (by omega)
  have hmax : (if (n : Int) < -(n : Int) then -(n : Int) else (n : Int)) = (n : Int) := by split <;> omega
  have wa : IntKind.i64.wrap ((a : Int) + 1) = (a : Int) + 1 := wrap_i64 (by omega) (by omega)
  have wan : IntKind.i64.wrap ((a : Int) + 1 + (n : Int)) = (a : Int) + 1 + (n : Int) := wrap_i64 (by omega) (by omega)
  have hneg : (decide (c.toNat < 128)) = false := by simp; omega
  have hrn : rn s a = if n > 8 then (0, 0, 3) else if r.length < n then (0, 0, 4) else numE a false ((r.take n).map fun b => b.toNat) := by
    rw [rn, hd]
    simp only [hneg]
    have h1 : (c.toNat < 128) = False := by simp [hneg0]
    simp only [h1, if_false, ← hn]
  have hat : (h.set l (.box false [vs s, vi a, vi 0]))[l]? = some (.box false [vs s, vi a, vi 0]) := by simp [hl]
  rw [run_eq, xp_sleuthref07_reader_number]
  by_cases h8 : n > 8
  · have h8' : 8 < (n : Int) := by omega
    have hR : rNum s a 0 = (0, a, 3) := by rw [rNum, hrn, if_pos h8]; simp
    rw [hR]
    simp -implicitDefEqProofs [x_sleuthref07_reader_number, hl, hlt, ha0, hc, wc, wc2, wneg, hmax, h8']
  have h8' : ¬ 8 < (n : Int) := by omega
  by_cases hs2 : r.length < n
  · have hs2' : (s.size : Int) < (a : Int) + 1 + (n : Int) := by omega
    have hR : rNum s a 0 = (0, a, 4) := by rw [rNum, hrn, if_neg h8, if_pos hs2]; simp
    rw [hR]
    simp -implicitDefEqProofs [x_sleuthref07_reader_number, hl, hlt, ha0, hc, wc, wc2, wneg, hmax, h8', wa, wan, hs2']
  have hs2' : ¬ (s.size : Int) < (a : Int) + 1 + (n : Int) := by omega
  obtain ⟨ds, hds⟩ : ∃ ds, ds = (r.take n).map fun b : UInt8 => b.toNat := ⟨_, rfl⟩
  have hdl : ds.length = n := by rw [hds]; simp; omega
  have hdg : ∀ i d, ds[i]? = some d → d < 256 ∧ ∃ c : UInt8, s.data[a + 1 + i]? = some c ∧ d = c.toNat := by
    intro i d e
    rw [hds, List.getElem?_map, List.getElem?_take] at e
    split at e
    · rw [← hr i]
      cases he : r[i]? with
      | none => rw [he] at e; cases e
      | some b =>
        rw [he] at e
        simp only [Option.map_some, Option.some.injEq] at e
        have := UInt8.toNat_lt b
        exact ⟨by omega, b, rfl, by omega⟩
    · cases e
  have hall : ∀ d ∈ ds, d < 256 := fun d hd => by
    obtain ⟨i, hi⟩ := List.getElem?_of_mem hd
    exact (hdg i d hi).1
  rw [if_neg h8, if_neg hs2, ← hds] at hrn
  have hvk : ∀ k, k ≤ 8 → valD (ds.take k) < 256 ^ k := fun k hk => by
    have h1 := foldl_lt (ds.take k) 0 0 (fun d hd => hall d (List.mem_of_mem_take hd)) (by simp)
    have h2 : (256 : Nat) ^ (0 + (ds.take k).length) ≤ 256 ^ k := Nat.pow_le_pow_right (by decide) (by simp; omega)
    unfold valD
    omega
  simp -implicitDefEqProofs [x_sleuthref07_reader_number, hl, hlt, ha0, hc, wc, wc2, wneg, hmax, h8', wa, wan, hs2']
  refine loop_list ds (fun k st h' => Sees st [(0, .ptr l 0), (3, vi ((n : Int))), (4, vi n), (5, vk .u64 (valD (ds.take k))), (6, vi k)] ∧ h' = h.set l (.box false [vs s, vi a, vi 0]) ∧ (k ≠ 0 → ds.head? ≠ some 0)) ?_ ?_ _ _
    ⟨by simp [valD], rfl, fun h => absurd rfl h⟩
  · rintro B f hB hf k d st h' hd hk ⟨⟨h0, h3, h4, h5, h6, -⟩, rfl, hh⟩ K
    obtain ⟨hd256, c2, hc2, hdc⟩ := hdg k d hd
    have hc2l := UInt8.toNat_lt c2
    have hklt : (k : Int) < n := by omega
    have w1 : IntKind.i64.wrap ((a : Int) + 1 + (k : Int)) = (a : Int) + 1 + (k : Int) := wrap_i64 (by omega) (by omega)
    have hge : (0 : Int) ≤ (a : Int) + 1 + (k : Int) := by omega
    have hak : ((a : Int) + 1 + (k : Int)).toNat = a + 1 + k := by omega
    have hm := hvk k (by omega)
    have hm8 : valD (ds.take k) * 256 + d < 18446744073709551616 := by
      have h8 : 256 ^ k ≤ 256 ^ 7 := Nat.pow_le_pow_right (by decide) (by omega)
      have : (256 : Nat) ^ 7 = 72057594037927936 := by decide
      omega
    have hsn : valD (ds.take (k + 1)) = 256 * valD (ds.take k) + d := by rw [take_at hd, valD_snoc]
    generalize valD (ds.take k) = m at *
    have wm : IntKind.u64.wrap ((m : Int) * 256) = (m : Int) * 256 := by rw [wrap_u64]; omega
    have wd : IntKind.u64.wrap (d : Int) = (d : Int) := by rw [wrap_u64]; omega
    have ws : IntKind.u64.wrap ((m : Int) * 256 + (d : Int)) = 256 * (m : Int) + (d : Int) := by rw [wrap_u64]; omega
    have hx : (c2.toNat : Int) = (d : Int) := by omega
    have hlz : ¬ (n : Int) < 0 := by omega
    have wk := wrap_up (k := k) (by omega)
    have m8 : min 8 IntKind.u64.bits = 8 := rfl
    by_cases hk0 : k = 0
    · have hkz : ((k : Int) == 0) = true := by simp [hk0]
      have hhd : ds.head? = some d := by rw [List.head?_eq_getElem?]; rw [hk0] at hd; exact hd
      by_cases hd0 : d = 0
      · have hdz : ((d : Int) == 0) = true := by simp [hd0]
        have hR : rNum s a 0 = (0, a, 3) := by rw [rNum, hrn, numE, hhd, hd0]; simp
        rw [hR]
        simp -implicitDefEqProofs [hB, hf, x_sleuthref07_reader_number_l0, hl, h0, h3, h4, h5, h6, hklt, wa, w1, hge, hak, hc2, hlz, hx, hkz, hdz]
      · have hdz : ((d : Int) == 0) = false := by simp; omega
        simp -implicitDefEqProofs [hB, x_sleuthref07_reader_number_l0, hl, h0, h3, h4, h5, h6, hklt, wa, w1, hge, hak, hc2, hlz, hx, hkz, hdz, m8, wm, wd, ws]
        refine K _ _ ⟨?_, rfl, fun _ => by rw [hhd]; simpa using hd0⟩
        simp only [sees_cons, sees_nil]
        simp [h0, h3, h4, hsn, wk]
    · have hkz : ((k : Int) == 0) = false := by simp; omega
      simp -implicitDefEqProofs [hB, x_sleuthref07_reader_number_l0, hl, h0, h3, h4, h5, h6, hklt, wa, w1, hge, hak, hc2, hlz, hx, hkz, m8, wm, wd, ws]
      refine K _ _ ⟨?_, rfl, fun _ => hh hk0⟩
      simp only [sees_cons, sees_nil]
      simp [h0, h3, h4, hsn, wk]
  · rintro B hB st h' ⟨⟨h0, h3, h4, h5, h6, -⟩, rfl, hh⟩
    have hz : ds.head? ≠ some 0 := by
      by_cases h0 : ds.length = 0
      · have : ds = [] := List.eq_nil_of_length_eq_zero h0
        rw [this]; simp
      · exact hh h0
    have hm := hvk ds.length (by omega)
    rw [List.take_length] at hm h5
    have hval : valD ds < 18446744073709551616 := by
      have h2 : (256 : Nat) ^ ds.length ≤ 256 ^ 8 := Nat.pow_le_pow_right (by decide) (by omega)
      have h3 : (256 : Nat) ^ 8 = 18446744073709551616 := by decide
      omega
    have hE : numE a false ds = if valD ds > 9223372036854775807 then (0, 0, 3) else ((valD ds : Int), a + 1 + ds.length, 0) := by
      rw [numE, if_neg hz]
      by_cases hb : valD ds > 9223372036854775807
      · rw [if_pos hb]
        simp only
        rw [if_pos (by first | exact .inr hb | exact .inl ⟨rfl, hb⟩ | exact .inl ⟨trivial, hb⟩)]
      · rw [if_neg hb]
        simp only
        rw [if_neg (by rintro (⟨h', hx⟩ | hx) <;> first | exact absurd hx hb | omega | exact absurd h' (by decide))]
        rfl
    rw [hE] at hrn
    rw [hdl] at h6 hrn
    have hn0 : True := trivial
    have hnn : ¬ (n : Int) < 0 := by omega
    have hmz : n = 0 → valD ds = 0 := fun h => by
      have : ds = [] := List.eq_nil_of_length_eq_zero (by omega)
      rw [this]; rfl
    generalize valD ds = m at *
    by_cases hbig : m > 9223372036854775807
    · have hn1 : 0 < n := by
        rcases Nat.eq_zero_or_pos n with h | h
        · have := hmz h; omega
        · exact h
      have hb' : 9223372036854775807 < (m : Int) := by omega
      have hR : rNum s a 0 = (0, a, 3) := by rw [rNum, hrn, if_pos hbig]; simp
      rw [hR]
      simp -implicitDefEqProofs [hB, x_sleuthref07_reader_number_l0, hl, h0, h3, h4, h5, h6, hn1, hnn, hb']
    · have hb' : ¬ 9223372036854775807 < (m : Int) := by omega
      have hR : rNum s a 0 = ((m : Int), a + 1 + n, 0) := by rw [rNum, hrn, if_neg hbig]; simp
      rw [hR]
      have wm : IntKind.i64.wrap (m : Int) = (m : Int) := wrap_i64 (by omega) (by omega)
      rcases Nat.eq_zero_or_pos n with hn1 | hn1
      · subst hn1
        simp at wan h3 h4 h6
        simp -implicitDefEqProofs [hB, x_sleuthref07_reader_number_l0, hl, h0, h3, h4, h5, h6, hb', wa, wan, wm]
      · simp -implicitDefEqProofs [hB, x_sleuthref07_reader_number_l0, hl, h0, h3, h4, h5, h6, hn1, hnn, hb', wa, wan, wm]
end
end Go.Proofs.Sl

namespace Go.Proofs.Sl
section
variable {h t : H} {l : Nat} {s : ByteArray} {a : Nat} {e : Int}
theorem q7_number (hl : l < h.length) (hs : s.size ≤ 10000000000000) (ha : a ≤ s.size) :
    run XP i_sleuthref07_reader_number [.ptr l 0] (h.set l (.box false [vs s, vi a, vi e])) = some (vi (rNum s a e).1, h.set l (.box false [vs s, vi (rNum s a e).2.1, vi (rNum s a e).2.2])) := by
  by_cases he : e = 0
  · subst he
    cases hd : (bts s).drop a with
    | nil =>
      have hge : s.size ≤ a := by
        have := congrArg List.length hd
        rw [List.length_drop, bts_length] at this
        simp at this
        omega
      have hR : rNum s a 0 = (0, a, 4) := by rw [rNum, rn, hd]; simp
      rw [hR, run_eq, xp_sleuthref07_reader_number]
      simp -implicitDefEqProofs [x_sleuthref07_reader_number, hl, hge]
    | cons c r =>
      by_cases hn : c.toNat < 128
      · exact q7_neg hl hs ha hd hn
      · exact q7_pos hl hs ha hd hn
  · have he' : (e != 0) = true := by simpa using he
    have hR : rNum s a e = (0, a, e) := by rw [rNum, if_pos he]
    rw [hR, run_eq, xp_sleuthref07_reader_number]
    simp -implicitDefEqProofs [x_sleuthref07_reader_number, hl, he']

/-- A reader of the reference. -/
def rr (h : H) (s : ByteArray) (a : Nat) (e : Int) (t : H) : H := h ++ (.box false [vs s, vi a, vi e] :: t)
theorem rr_length : (rr h s a e t).length = h.length + 1 + t.length := by simp [rr]; omega
theorem rr_at : (rr h s a e t)[h.length]? = some (.box false [vs s, vi a, vi e]) := by simp [rr]
theorem rr_set (a' : Nat) (e' : Int) : (rr h s a e t).set h.length (.box false [vs s, vi a', vi e']) = rr h s a' e' t := by simp [rr]
theorem rr_take : (rr h s a e t).take h.length = h := by simp [rr]
theorem rr_takes (a' : Nat) (e' : Int) : (rr h s a e t).take (rr h s a' e' t).length = rr h s a e t := List.take_of_length_le (by rw [rr_length, rr_length]; exact Nat.le_refl _)
theorem RR_number (hs : s.size ≤ 10000000000000) (ha : a ≤ s.size) : run XP i_sleuthref07_reader_number [.ptr h.length 0] (rr h s a e t) = some (vi (rNum s a e).1, rr h s (rNum s a e).2.1 (rNum s a e).2.2 t) := by
  have := q7_number (h := rr h s a e t) (l := h.length) (s := s) (a := a) (e := e) (by rw [rr_length]; omega) hs ha
  rwa [rr_set, rr_set] at this
def rgE (e n lo hi : Int) : Int := if e = 0 ∧ (n < lo ∨ hi < n) then 2 else e
theorem RR_ranged (n lo hi : Int) : run XP i_sleuthref07_reader_ranged [.ptr h.length 0, vi n, vi lo, vi hi] (rr h s a e t) = some (.tup [], rr h s a (rgE e n lo hi) t) := by
  have hat := rr_at (h := h) (s := s) (a := a) (e := e) (t := t)
  have hst := rr_set (h := h) (s := s) (a := a) (e := e) (t := t) a 2
  have htk := rr_takes (h := h) (s := s) (a := a) (e := 2) (t := t) a e
  rw [run_eq, xp_sleuthref07_reader_ranged]
  unfold rgE
  by_cases he : e = 0
  · subst he
    by_cases h1 : n < lo
    · simp -implicitDefEqProofs [x_sleuthref07_reader_ranged, hat, h1, hst, htk]
    · by_cases h2 : hi < n
      · simp -implicitDefEqProofs [x_sleuthref07_reader_ranged, hat, h1, h2, hst, htk]
      · simp -implicitDefEqProofs [x_sleuthref07_reader_ranged, hat, h1, h2, hst, htk]
  · have he' : (e == 0) = false := by simpa using he
    simp -implicitDefEqProofs [x_sleuthref07_reader_ranged, hat, he, he']
def cntE (s : ByteArray) (a : Nat) (e most lim : Int) : Int :=
  if (rNum s a e).2.2 ≠ 0 then (rNum s a e).2.2 else if (rNum s a e).1 < 0 then 3 else if most < (rNum s a e).1 then lim else if (s.size : Int) - (rNum s a e).2.1 < (rNum s a e).1 then 4 else 0
theorem cntE_sz (most lim : Int) : cntE s a 0 most lim = szE s a most lim := by
  by_cases h : (rn s a).2.2 = 0
  · have hR : rNum s a 0 = rn s a := by
      unfold rNum
      rw [if_neg (by simp), if_neg (by simpa using h)]
      exact Prod.ext rfl (Prod.ext rfl h.symm)
    unfold cntE szE
    rw [hR]
  · have hR : rNum s a 0 = (0, a, (rn s a).2.2) := by
      unfold rNum
      rw [if_neg (by simp), if_pos h]
    unfold cntE szE
    rw [hR, if_pos h, if_pos h]
theorem RR_count (hs : s.size ≤ 10000000000000) (ha : a ≤ s.size) (most lim : Int) (hlim : lim ≠ 0) : run XP i_sleuthref07_reader_count [.ptr h.length 0, vi most, vi lim] (rr h s a e t) =
    some (vi (if cntE s a e most lim = 0 then (rNum s a e).1 else 0), rr h s (rNum s a e).2.1 (cntE s a e most lim) t) := by
  have n1 := RR_number (h := h) (t := t) (e := e) hs ha
  have ha2 := rNum_le ha e
  have hat := fun (a : Nat) (e : Int) => rr_at (h := h) (s := s) (a := a) (e := e) (t := t)
  have hst := fun (a : Nat) (e e' : Int) => rr_set (h := h) (s := s) (a := a) (e := e) (t := t) a e'
  have htk := fun (a a' : Nat) (e e' : Int) => rr_takes (h := h) (s := s) (a := a) (e := e) (t := t) a' e'
  rw [run_eq, xp_sleuthref07_reader_count]
  unfold cntE
  generalize rNum s a e = r at *
  obtain ⟨n, a2, x⟩ := r
  simp only at n1 ha2 ⊢
  by_cases h0 : x = 0
  · subst h0
    have hw : IntKind.i64.wrap ((s.size : Int) - (a2 : Int)) = (s.size : Int) - (a2 : Int) := wrap_i64 (by omega) (by omega)
    by_cases h1 : n < 0
    · simp -implicitDefEqProofs [x_sleuthref07_reader_count, n1, hat, h1, hst, htk]
    · by_cases h2 : most < n
      · have hl' : (lim != 0) = true := by simpa using hlim
        simp -implicitDefEqProofs [x_sleuthref07_reader_count, n1, hat, h1, h2, hst, htk, hlim, hl']
      · by_cases h3 : (s.size : Int) - (a2 : Int) < n
        · simp -implicitDefEqProofs [x_sleuthref07_reader_count, n1, hat, h1, h2, hw, h3, hst, htk]
        · simp -implicitDefEqProofs [x_sleuthref07_reader_count, n1, hat, h1, h2, hw, h3, hst, htk]
  · have h0' : (x != 0) = true := by simpa using h0
    simp -implicitDefEqProofs [x_sleuthref07_reader_count, n1, hat, h0, h0', htk]
end
section
variable {h : H} {v w : V} {vs ws : List Int}
theorem ref_shortest (hv : Rd h 1 v (il vs)) (hr : ∀ n ∈ vs, OkV n) (hn : vs.length ≤ 10000) : run XP i_sleuthref07_Shortest [v] h = some (.tup [tx (bestP vs 4).1, vi (bestP vs 4).2], h) := by
  have f1 := ref_form hv hr hn (k := 1) (by omega) (by omega)
  have hb1 : bestP vs 1 = (fCol vs 1, 1) := by simp [bestP]
  rw [show ((1 : Nat) : Int) = 1 from rfl] at f1
  rw [run_eq, xp_sleuthref07_Shortest]
  simp -implicitDefEqProofs [x_sleuthref07_Shortest, hv.arg0, f1, tx_plain]
  refine loop_up 3 (fun k s h' => Sees s [(0, v), (4, tx (bestP vs (k + 1)).1), (5, vi (bestP vs (k + 1)).2), (6, vi ((k : Int) + 2))] ∧ h' = h) ?_ ?_ _ _ ⟨by simp [hb1], rfl⟩
  · rintro B f hB hf k s h' hk ⟨⟨h0, h4, h5, h6, -⟩, rfl⟩ K
    have f2 := ref_form hv hr hn (k := k + 2) (by omega) (by omega)
    rw [show ((k + 2 : Nat) : Int) = (k : Int) + 2 from rfl] at f2
    have hle : (k : Int) + 2 ≤ 4 := by omega
    have hw : IntKind.i64.wrap ((k : Int) + 2 + 1) = (k : Int) + 1 + 2 := by rw [wrap_i64 (by omega) (by omega)]; omega
    have hne := (bestP_ok vs (k + 1)).1 (by omega)
    by_cases hl : (fCol vs (k + 2)).length < (bestP vs (k + 1)).1.length
    · have hb : bestP vs (k + 1 + 1) = (fCol vs (k + 2), k + 2) := by rw [bestP, if_pos (.inr hl)]
      simp -implicitDefEqProofs [hB, x_sleuthref07_Shortest_l0, h0, h4, h5, h6, hle, hv.arg0, f2, tx_plain, lenT_tx, hl]
      refine K _ _ ⟨?_, rfl⟩
      simp only [sees_cons, sees_nil, hb]
      simp [h0, hw]
    · have h2 : (fCol vs (k + 1 + 1)).length = (fCol vs (k + 2)).length := rfl
      have hb : bestP vs (k + 1 + 1) = bestP vs (k + 1) := by rw [bestP, if_neg (by simp [hne]; omega)]
      simp -implicitDefEqProofs [hB, x_sleuthref07_Shortest_l0, h0, h4, h5, h6, hle, hv.arg0, f2, tx_plain, lenT_tx, hl]
      refine K _ _ ⟨?_, rfl⟩
      simp only [sees_cons, sees_nil, hb]
      simp [h0, h4, h5, hw]
  · rintro B hB s h' ⟨⟨h0, h4, h5, h6, -⟩, rfl⟩
    have hle : ¬ ((3 : Nat) : Int) + 2 ≤ 4 := by decide
    simp -implicitDefEqProofs [hB, x_sleuthref07_Shortest_l0, h0, h4, h5, h6, hle, tx_plain]
theorem ref_same (hv : Rd h 1 v (il vs)) (hw : Rd h 1 w (il vs)) (hn : vs.length ≤ 10000) : run XP i_sleuthref07_Same [v, w] h = some (vb true, h) := by
  rw [run_eq, xp_sleuthref07_Same]
  simp -implicitDefEqProofs [x_sleuthref07_Same, hv.toL, hw.toL, il_length]
  refine loop_list vs (fun k s h' => Sees s [(0, v), (1, w), (5, vi k)] ∧ h' = h) ?_ ?_ _ _ ⟨by simp, rfl⟩
  · rintro B f hB hf k e s h' he hk ⟨⟨h0, h1, h5, -⟩, rfl⟩ K
    obtain ⟨p, hp, hld⟩ := hv.at1 (il_at he) rfl
    obtain ⟨p2, hp2, hld2⟩ := hw.at1 (il_at he) rfl
    have hlt : (k : Int) < vs.length := by omega
    simp -implicitDefEqProofs [hB, x_sleuthref07_Same_l0, h0, h1, h5, hv.toL, il_length, hlt, hp, hld, hp2, hld2]
    refine K _ _ ⟨?_, rfl⟩
    simp [h0, h1, wrap_up (by omega : k < 100000000000)]
  · rintro B hB s h' ⟨⟨h0, h1, h5, -⟩, rfl⟩
    simp -implicitDefEqProofs [hB, x_sleuthref07_Same_l0, h0, h1, h5, hv.toL, il_length]
end
end Go.Proofs.Sl

namespace Go.Proofs.Sl
def pvalsR (d : List UInt8) (w : Nat) (least : Int) : Nat → Nat → List Int → List Int × Int
  | 0, _, l => (l, 0)
  | n + 1, i, l => if 1152921504606846976 < least + dval d w i w then (l ++ [least + dval d w i w], 2) else pvalsR d w least n (i + 1) (l ++ [least + dval d w i w])
theorem pvalsR_eq (d : List UInt8) (w : Nat) (least : Int) : ∀ (n i : Nat) (l : List Int), (pvalsR d w least n i l).2 = (pvals d w least n i l).2 ∧ ((pvals d w least n i l).2 = 0 → (pvalsR d w least n i l).1 = (pvals d w least n i l).1)
  | 0, i, l => ⟨rfl, fun _ => rfl⟩
  | n + 1, i, l => by
    rw [pvalsR, pvals]
    split
    · exact ⟨rfl, fun h => by cases h⟩
    · exact pvalsR_eq d w least n (i + 1) _
theorem fl_rgE (x n lo hi : Int) : fl x 0 (decide (n < lo) || decide (hi < n)) 2 = rgE x n lo hi := by
  unfold fl rgE
  by_cases h : x = 0
  · subst h
    by_cases h1 : n < lo
    · simp [h1]
    · by_cases h2 : hi < n
      · simp [h1, h2]
      · simp [h1, h2]
  · simp [h]
theorem rgE_ne {e n lo hi : Int} (h : e ≠ 0) : rgE e n lo hi = e := by rw [rgE, if_neg (by simp [h])]
theorem rNum_ne {s : ByteArray} {a : Nat} {e : Int} (h : e ≠ 0) : rNum s a e = (0, a, e) := by rw [rNum, if_pos h]
theorem cntE_ne {s : ByteArray} {a : Nat} {e most lim : Int} (h : e ≠ 0) : cntE s a e most lim = e := by rw [cntE, rNum_ne h, if_pos h]
theorem rgE_zero {e n lo hi : Int} (h : rgE e n lo hi = 0) : e = 0 ∧ lo ≤ n ∧ n ≤ hi := by
  unfold rgE at h
  split at h
  · cases h
  · rename_i hh; subst h; simp at hh; omega
/-- The errors of the reference, one behind the other. -/
theorem pck_err {s : ByteArray} {a : Nat} {n1 n2 n3 : Int} {a1 a2 a3 : Nat} {x1 x2 x3 e1 e2 e3 ce : Int} (h1 : rNum s a 0 = (n1, a1, x1)) (g1 : e1 = rgE x1 n1 0 4096) (h2 : rNum s a1 e1 = (n2, a2, x2)) (g2 : e2 = rgE x2 n2 (-1152921504606846976) 1152921504606846976)
    (h3 : rNum s a2 e2 = (n3, a3, x3)) (g3 : e3 = rgE x3 n3 0 62) (hc : ce = cntE s a3 e3 32768 5) :
    (ce ≠ 0 → (pckC s a).e = ce) ∧ (ce = 0 → x1 = 0 ∧ x2 = 0 ∧ x3 = 0 ∧ e1 = 0 ∧ e2 = 0 ∧ e3 = 0 ∧ 0 ≤ n1 ∧ n1 ≤ 4096 ∧ OkV n2 ∧ 0 ≤ n3 ∧ n3 ≤ 62 ∧
      pckC s a = (let T := rText s a3 0 32768
        let E4 := fl T.2.2 0 ((T.1.size : Int) != (((n1.toNat * n3.toNat + 7) / 8 : Nat) : Int)) 3
        if E4 ≠ 0 then ⟨T.2.1, T.2.2, [], E4⟩ else ⟨T.2.1, 0, (pvals (bts T.1) n3.toNat n2 n1.toNat 0 []).1, (pvals (bts T.1) n3.toNat n2 n1.toNat 0 []).2⟩)) := by
  have hE1 := fl_rgE x1 n1 0 4096
  have hE2 : fl x2 0 (wrongB n2) 2 = rgE x2 n2 (-1152921504606846976) 1152921504606846976 := fl_rgE x2 n2 _ _
  have hE3 := fl_rgE x3 n3 0 62
  rw [← g1] at hE1
  rw [← g2] at hE2
  rw [← g3] at hE3
  by_cases k1 : e1 = 0
  · subst k1
    obtain ⟨rfl, b1, b2⟩ := rgE_zero g1.symm
    by_cases k2 : e2 = 0
    · subst k2
      obtain ⟨rfl, b3, b4⟩ := rgE_zero g2.symm
      by_cases k3 : e3 = 0
      · subst k3
        obtain ⟨rfl, b5, b6⟩ := rgE_zero g3.symm
        have hT : (rText s a3 0 32768).2.2 = szE s a3 32768 5 := by
          simp only [rText, rSz]
          rw [if_neg (by decide)]
          by_cases hz : szE s a3 32768 5 = 0
          · rw [if_neg (by simpa using hz), hz]
          · rw [if_pos hz]
        rw [cntE_sz] at hc
        have hp : pckC s a = (let T := rText s a3 0 32768
            let E4 := fl T.2.2 0 ((T.1.size : Int) != (((n1.toNat * n3.toNat + 7) / 8 : Nat) : Int)) 3
            if E4 ≠ 0 then ⟨T.2.1, T.2.2, [], E4⟩ else ⟨T.2.1, 0, (pvals (bts T.1) n3.toNat n2 n1.toNat 0 []).1, (pvals (bts T.1) n3.toNat n2 n1.toNat 0 []).2⟩) := by
          unfold pckC
          simp only [h1, hE1, ne_eq, not_true, if_false, h2, hE2, h3, hE3]
        refine ⟨fun h => ?_, fun h => ⟨rfl, rfl, rfl, rfl, rfl, rfl, b1, b2, ⟨b3, b4⟩, b5, b6, hp⟩⟩
        rw [hp]
        simp only [hT, ← hc]
        have : ∀ w, fl ce 0 w 3 = ce := fun w => by rw [fl, if_neg (by simp), if_pos h]
        simp only [this, ne_eq, h, not_false_eq_true, if_true]
      · rw [cntE_ne k3] at hc
        subst hc
        refine ⟨fun h => ?_, fun h => absurd h k3⟩
        unfold pckC
        simp only [h1, hE1, ne_eq, not_true, if_false, h2, hE2, h3, hE3, k3, not_false_eq_true, if_true]
    · rw [rNum_ne k2] at h3
      obtain ⟨rfl, rfl, rfl⟩ : 0 = n3 ∧ a2 = a3 ∧ e2 = x3 := by simpa using h3
      rw [rgE_ne k2] at g3
      subst g3
      rw [cntE_ne k2] at hc
      subst hc
      refine ⟨fun h => ?_, fun h => absurd h k2⟩
      unfold pckC
      simp only [h1, hE1, ne_eq, not_true, if_false, h2, hE2, k2, not_false_eq_true, if_true]
  · rw [rNum_ne k1] at h2
    obtain ⟨rfl, rfl, rfl⟩ : 0 = n2 ∧ a1 = a2 ∧ e1 = x2 := by simpa using h2
    rw [rgE_ne k1] at g2
    subst g2
    rw [rNum_ne k1] at h3
    obtain ⟨rfl, rfl, rfl⟩ : 0 = n3 ∧ a1 = a3 ∧ e2 = x3 := by simpa using h3
    rw [rgE_ne k1] at g3
    subst g3
    rw [cntE_ne k1] at hc
    subst hc
    refine ⟨fun h => ?_, fun h => absurd h k1⟩
    unfold pckC
    simp only [h1, hE1, ne_eq, k1, not_false_eq_true, if_true]
section
variable {h t : H} {s : ByteArray} {a : Nat}
theorem RR_packed (hs : s.size ≤ 10000000000000) (ha : a ≤ s.size) : ∃ v a', run XP i_sleuthref07_packed [.ptr h.length 0] (rr h s a 0 t) = some (v, rr h s a' (pckC s a).e t) ∧ (v = vnil ∨ ∃ l, v = .own 1 (il l)) ∧ ((pckC s a).e = 0 → v = wcl (pckC s a).vals) := by
  have n1 := RR_number (h := h) (t := t) (e := 0) hs ha
  have ha1 := rNum_le ha 0
  generalize h1 : rNum s a 0 = r1 at *
  obtain ⟨N, a1, x1⟩ := r1
  simp only at n1 ha1
  obtain ⟨e1, g1⟩ : ∃ e1, e1 = rgE x1 N 0 4096 := ⟨_, rfl⟩
  have r1 := RR_ranged (h := h) (t := t) (s := s) (a := a1) (e := x1) N 0 4096
  rw [← g1] at r1
  have n2 := RR_number (h := h) (t := t) (e := e1) hs ha1
  have ha2 := rNum_le ha1 e1
  generalize h2 : rNum s a1 e1 = r2 at *
  obtain ⟨least, a2, x2⟩ := r2
  simp only at n2 ha2
  obtain ⟨e2, g2⟩ : ∃ e2, e2 = rgE x2 least (-1152921504606846976) 1152921504606846976 := ⟨_, rfl⟩
  have r2 := RR_ranged (h := h) (t := t) (s := s) (a := a2) (e := x2) least (-1152921504606846976) 1152921504606846976
  rw [← g2] at r2
  have n3 := RR_number (h := h) (t := t) (e := e2) hs ha2
  have ha3 := rNum_le ha2 e2
  generalize h3 : rNum s a2 e2 = r3 at *
  obtain ⟨W, a3, x3⟩ := r3
  simp only at n3 ha3
  obtain ⟨e3, g3⟩ : ∃ e3, e3 = rgE x3 W 0 62 := ⟨_, rfl⟩
  have r3 := RR_ranged (h := h) (t := t) (s := s) (a := a3) (e := x3) W 0 62
  rw [← g3] at r3
  have n4 := RR_count (h := h) (t := t) (e := e3) hs ha3 32768 5 (by decide)
  have ha4 := rNum_le ha3 e3
  obtain ⟨ce, hc⟩ : ∃ ce, ce = cntE s a3 e3 32768 5 := ⟨_, rfl⟩
  rw [← hc] at n4
  obtain ⟨p1, p2⟩ := pck_err h1 g1 h2 g2 h3 g3 hc
  have hat := fun (a : Nat) (e : Int) (t : H) => rr_at (h := h) (s := s) (a := a) (e := e) (t := t)
  have hst := fun (a a' : Nat) (e e' : Int) (t : H) => rr_set (h := h) (s := s) (a := a) (e := e) (t := t) a' e'
  have htk := fun (a a' : Nat) (e e' : Int) => rr_takes (h := h) (s := s) (a := a) (e := e) (t := t) a' e'
  by_cases hce : ce = 0
  · subst hce
    obtain ⟨rfl, rfl, rfl, rfl, rfl, rfl, b1, b2, hlo, b5, b6, hp⟩ := p2 rfl
    rw [if_pos rfl] at n4
    obtain ⟨n, rfl⟩ : ∃ m : Nat, N = m := ⟨N.toNat, by omega⟩
    obtain ⟨w, rfl⟩ : ∃ m : Nat, W = m := ⟨W.toNat, by omega⟩
    simp only [Int.toNat_natCast] at hp
    -- the text
    rw [cntE_sz] at hc
    obtain ⟨z1, z2, z3, z4⟩ := szE_ok hc.symm (by decide)
    have hrn : rNum s a3 0 = rn s a3 := by
      unfold rNum
      rw [if_neg (by decide), if_neg (by simpa using z1)]
      exact Prod.ext rfl (Prod.ext rfl z1.symm)
    have hrs : rSz s a3 0 32768 5 = ((rn s a3).1.toNat, (rn s a3).2.1, 0) := by
      unfold rSz
      rw [if_neg (by decide), if_neg (by rw [← hc]; simp)]
    have hT : rText s a3 0 32768 = (⟨(((bts s).drop (rn s a3).2.1).take (rn s a3).1.toNat).toArray⟩, (rn s a3).2.1 + (rn s a3).1.toNat, 0) := by
      simp only [rText, hrs]
    rw [hrn] at n4 ha4
    have ha4' := (rn_ok z1).1
    obtain ⟨SZ, hSZ⟩ : ∃ SZ : Nat, (rn s a3).1 = SZ := ⟨(rn s a3).1.toNat, by omega⟩
    rw [hSZ, Int.toNat_natCast] at hT
    rw [hSZ] at n4 z4
    generalize (rn s a3).2.1 = a4 at *
    obtain ⟨d, hd⟩ : ∃ d, d = ((bts s).drop a4).take SZ := ⟨_, rfl⟩
    have hdl : d.length = SZ := by rw [hd]; simp [bts_length]; omega
    have hsize : (⟨(((bts s).drop a4).take SZ).toArray⟩ : ByteArray).size = SZ := by rw [← hd, size_vbs, hdl]
    have hbt : bts ⟨(((bts s).drop a4).take SZ).toArray⟩ = d := by rw [hd]; simp [bts]
    rw [hT] at hp
    simp only [hsize, hbt] at hp
    have hprod : n * w ≤ 4096 * 62 := Nat.mul_le_mul (by omega) (by omega)
    obtain ⟨Q, hQ⟩ : ∃ Q, Q = (n * w + 7) / 8 := ⟨_, rfl⟩
    rw [← hQ] at hp
    have w1 : IntKind.i64.wrap ((n : Int) * (w : Int)) = (n : Int) * (w : Int) := by
      rw [← Int.natCast_mul, wrap_i64 (by omega) (by omega)]
    have w2 : IntKind.i64.wrap ((n : Int) * (w : Int) + 7) = (n : Int) * (w : Int) + 7 := by rw [← Int.natCast_mul, wrap_i64 (by omega) (by omega)]
    have w3 : IntKind.i64.wrap (((n : Int) * (w : Int) + 7).tdiv 8) = (Q : Int) := by
      rw [← Int.natCast_mul, show Int.tdiv (((n * w : Nat) : Int) + 7) 8 = (((n * w + 7) / 8 : Nat) : Int) from rfl, ← hQ, wrap_i64 (by omega) (by omega)]
    have w4 : IntKind.i64.wrap ((a4 : Int) + (SZ : Int)) = (a4 : Int) + (SZ : Int) := wrap_i64 (by omega) (by omega)
    have hst' := hst a4 (a4 + SZ)
    rw [show ((a4 + SZ : Nat) : Int) = (a4 : Int) + (SZ : Int) from by omega] at hst'
    by_cases hq : SZ = Q
    · have hne : ((SZ : Int) != (Q : Int)) = false := by simp [hq]
      rw [hne, show fl 0 0 false 3 = 0 from rfl] at hp
      simp only [ne_eq, not_true, if_false] at hp
      obtain ⟨q1, q2⟩ := pvalsR_eq d w least n 0 []
      obtain ⟨F, hF⟩ : ∃ F, F = pvalsR d w least n 0 [] := ⟨_, rfl⟩
      rw [← hF] at q1 q2
      rw [hp]
      simp only
      rw [← q1] at q2 ⊢
      refine ⟨wcl F.1, a4 + SZ, ?_, ?_, fun h => by rw [q2 h]⟩
      · rw [run_eq, xp_sleuthref07_packed]
        simp -implicitDefEqProofs [x_sleuthref07_packed, n1, r1, n2, r2, n3, r3, n4, hat, w1, w2, w3, hne]
        refine loop_ind (fun i : Nat => n + 1 - i) (fun i st h' => ∃ (l : List Int) (e : Int), Sees st [(0, .ptr h.length 0), (3, vi n), (4, vi least), (5, vi w), (6, vi SZ), (7, gv (h.length + 1 + t.length) (il l)), (8, vi i)] ∧ h' = rr h s a4 e (t ++ gt 1 (il l)) ∧ l.length = i ∧ i ≤ n ∧ (if e = 0 then pvalsR d w least (n - i) i l = F else F = (l, e))) ?_ 0 _ _
          ⟨[], 0, by simp [gv, il], by simp [gt, il], rfl, by omega, by rw [if_pos rfl]; exact hF.symm⟩
        rintro B f hB hf i st h' ⟨l, e, ⟨h0, h3, h4, h5, h6, h7, h8, -⟩, rfl, hll, hin, hx⟩ K
        have hfin : ∀ (st : Sl) , st 0 = .ptr h.length 0 → st 6 = vi SZ → st 7 = gv (h.length + 1 + t.length) (il l) → F = (l, e) → f (.exit 0, ⟨st, rr h s a4 e (t ++ gt 1 (il l))⟩) = some (wcl F.1, rr h s (a4 + SZ) F.2 t) := by
          intro st g0 g6 g7 hFe
          have hlen0 : (rr h s a 0 t).length = h.length + 1 + t.length := rr_length
          have htk2 : (rr h s (a4 + SZ) e (t ++ gt 1 (il l))).take (h.length + 1 + t.length) = rr h s (a4 + SZ) e t := by
            have : rr h s (a4 + SZ) e (t ++ gt 1 (il l)) = rr h s (a4 + SZ) e t ++ gt 1 (il l) := by simp [rr]
            rw [this, List.take_append_of_le_length (by rw [rr_length]; exact Nat.le_refl _)]
            exact List.take_of_length_le (by rw [rr_length]; exact Nat.le_refl _)
          by_cases hl0 : l = []
          · subst hl0
            rw [show gv (h.length + 1 + t.length) (il []) = vnil from by simp [gv, il]] at g7
            simp -implicitDefEqProofs [hf, g0, g6, g7, hat, w4, hst', hFe, hlen0, htk2, wcl]
          · have hil : il l ≠ [] := by simpa [il] using hl0
            have hgt : (rr h s (a4 + SZ) e (t ++ gt 1 (il l)))[h.length + 1 + t.length]? = some (.arr false 1 (il l)) := by
              have : rr h s (a4 + SZ) e (t ++ gt 1 (il l)) = rr h s (a4 + SZ) e t ++ gt 1 (il l) := by simp [rr]
              rw [this, List.getElem?_append_right (by rw [rr_length]; exact Nat.le_refl _), rr_length, Nat.sub_self]
              simp [gt, hil]
            rw [gv, if_neg hil, il_length] at g7
            simp -implicitDefEqProofs [hf, g0, g6, g7, hat, w4, hst', hFe, hlen0, htk2, wcl_own hl0, hgt, il_length, closeds_il]
        by_cases he : e = 0
        · subst he
          rw [if_pos rfl] at hx
          by_cases hlt : i < n
          · have hlt' : (i : Int) < n := by omega
            have iw : i * w + w ≤ n * w := by
              have : (i + 1) * w ≤ n * w := Nat.mul_le_mul_right _ hlt
              rwa [Nat.add_mul, Nat.one_mul] at this
            simp -implicitDefEqProofs [hB, x_sleuthref07_packed_l1, h0, h3, h4, h5, h6, h7, h8, hlt', hat]
            refine loop_up w (fun b st h' => Sees st [(0, .ptr h.length 0), (3, vi n), (4, vi least), (5, vi w), (6, vi SZ), (7, gv (h.length + 1 + t.length) (il l)), (8, vi i), (9, vi (dval d w i b)), (10, vi b)] ∧ h' = rr h s a4 0 (t ++ gt 1 (il l))) ?_ ?_ _ _ ⟨by simp [h0, h3, h4, h5, h6, h7, h8, dval], rfl⟩
            · rintro B2 f2 hB2 hf2 b st h' hb ⟨⟨h0, h3, h4, h5, h6, h7, h8, h9, h10, -⟩, rfl⟩ K2
              have hblt : (b : Int) < w := by omega
              obtain ⟨k, hk⟩ : ∃ k, k = i * w + b := ⟨_, rfl⟩
              obtain ⟨q, hqq⟩ : ∃ q, q = k / 8 := ⟨_, rfl⟩
              obtain ⟨m, hm⟩ : ∃ m, m = k % 8 := ⟨_, rfl⟩
              have v1 : IntKind.i64.wrap ((i : Int) * (w : Int)) = (i : Int) * (w : Int) := by
                rw [← Int.natCast_mul, wrap_i64 (by omega) (by omega)]
              have v2 : IntKind.i64.wrap ((i : Int) * (w : Int) + (b : Int)) = (k : Int) := by
                rw [← Int.natCast_mul, wrap_i64 (by omega) (by omega)]
                omega
              have v3 : IntKind.i64.wrap ((k : Int) / 8) = (q : Int) := by
                rw [wrap_i64 (by omega) (by omega)]; omega
              have v4 : (k : Int).tmod 8 = (m : Int) := by
                rw [show Int.tmod (k : Int) 8 = ((k % 8 : Nat) : Int) from rfl, ← hm]
              have v8 : IntKind.i64.wrap ((a4 : Int) + (q : Int)) = (a4 : Int) + (q : Int) := wrap_i64 (by omega) (by omega)
              have v9 : (0 : Int) ≤ (a4 : Int) + (q : Int) := by omega
              have v10 : ((a4 : Int) + (q : Int)).toNat = a4 + q := by omega
              obtain ⟨c, hcc⟩ : ∃ c, d[q]? = some c := ⟨_, List.getElem?_eq_getElem (by omega)⟩
              have hcd : s.data[a4 + q]? = some c := by
                rw [bts_at, ← hcc, hd, List.getElem?_take, if_pos (by omega), List.getElem?_drop]
              have um : IntKind.u64.wrap (m : Int) = (m : Int) := by rw [wrap_u64]; omega
              have ub : IntKind.u64.wrap (b : Int) = (b : Int) := by rw [wrap_u64]; omega
              have hmin8 : min m IntKind.u8.bits = m := Nat.min_eq_left (by have : IntKind.u8.bits = 8 := rfl; omega)
              have hsh := shr_nat c.toNat m (kk := .u8) (by have : IntKind.u8.bits = 8 := rfl; omega)
              rw [hmin8] at hsh
              have hc8 := UInt8.toNat_lt c
              obtain ⟨D3, hD3⟩ : ∃ D3, D3 = c.toNat / 2 ^ m := ⟨_, rfl⟩
              rw [← hD3] at hsh
              have hD3l : D3 < 256 := by
                have := Nat.div_le_self c.toNat (2 ^ m)
                omega
              have hand := and1_u8 D3 hD3l
              have hbit : dbit d k = D3 % 2 := by
                rw [dbit, ← hqq, ← hm, List.getD_eq_getElem?_getD, hcc, hD3]; rfl
              obtain ⟨x, hxx⟩ : ∃ x, x = D3 % 2 := ⟨_, rfl⟩
              rw [← hxx] at hand hbit
              have hx1 : x = 0 ∨ x = 1 := by omega
              have hdv : dval d w i (b + 1) = dval d w i b + x * 2 ^ b := by rw [dval, ← hk, hbit]
              have hdlt := dval_lt d w i b
              have hp61 : 2 ^ b ≤ 2 ^ 61 := Nat.pow_le_pow_right (by decide) (by omega)
              have e61 : (2 : Nat) ^ 61 = 2305843009213693952 := by decide
              rcases hx1 with rfl | rfl
              · rw [Nat.zero_mul, Nat.add_zero] at hdv
                simp -implicitDefEqProofs [hB2, x_sleuthref07_packed_l0, h0, h3, h4, h5, h6, h7, h8, h9, h10, hblt, v1, v2, v3, v4, hat, v8, v9, v10, hcd, um, hmin8, hsh, hand]
                refine K2 _ _ ⟨?_, rfl⟩
                simp only [sees_cons, sees_nil]
                simp [h0, h3, h4, h5, h6, h7, h8, h9, hdv, wrap_up (by omega : b < 100000000000)]
              · rw [Nat.one_mul] at hdv
                have hminb : min b IntKind.i64.bits = b := Nat.min_eq_left (by have : IntKind.i64.bits = 64 := rfl; omega)
                have v6 := shl1_i64 (m := b) (by omega)
                obtain ⟨sh, hs2⟩ : ∃ sh, sh = 2 ^ b := ⟨_, rfl⟩
                rw [← hs2] at v6 hdv hdlt hp61
                have v7 : IntKind.i64.wrap ((dval d w i b : Int) + (sh : Int)) = (dval d w i b : Int) + (sh : Int) := wrap_i64 (by omega) (by omega)
                simp -implicitDefEqProofs [hB2, x_sleuthref07_packed_l0, h0, h3, h4, h5, h6, h7, h8, h9, h10, hblt, v1, v2, v3, v4, hat, v8, v9, v10, hcd, um, ub, hmin8, hsh, hand, hminb, v6, v7]
                refine K2 _ _ ⟨?_, rfl⟩
                simp only [sees_cons, sees_nil]
                simp [h0, h3, h4, h5, h6, h7, h8, hdv, wrap_up (by omega : b < 100000000000)]
            · rintro B2 hB2 st h' ⟨⟨h0, h3, h4, h5, h6, h7, h8, h9, h10, -⟩, rfl⟩
              rw [show n - i = (n - (i + 1)) + 1 from by omega, pvalsR] at hx
              have hdl2 := dval_lt d w i w
              have hp62 : 2 ^ w ≤ 2 ^ 62 := Nat.pow_le_pow_right (by decide) (by omega)
              have e62 : (2 : Nat) ^ 62 = 4611686018427387904 := by decide
              obtain ⟨y, hy⟩ : ∃ y, y = dval d w i w := ⟨_, rfl⟩
              rw [← hy] at hx h9 hdl2
              obtain ⟨z, hz⟩ : ∃ z, z = least + (y : Int) := ⟨_, rfl⟩
              have hwa : IntKind.i64.wrap (least + (y : Int)) = z := by rw [hz]; exact wrap_i64 (by have := hlo.1; omega) (by have := hlo.2; omega)
              rw [← hz] at hx
              have hrg := RR_ranged (h := h) (t := t ++ gt 1 (il l)) (s := s) (a := a4) (e := 0) z (-1152921504606846976) 1152921504606846976
              have hga : ∀ e, xappend (rr h s a4 e (t ++ gt 1 (il l))) 1 17592186044416 (gv (h.length + 1 + t.length) (il l)) (.lst 1 [vi z]) = some (gv (h.length + 1 + t.length) (il (l ++ [z])), rr h s a4 e (t ++ gt 1 (il (l ++ [z])))) := fun e => by
                have := gv_app (h := rr h s a4 e t) (k := 1) (n := h.length + 1 + t.length) (lim := 17592186044416) (es := il l) (ys := [vi z]) (by rw [rr_length]) rfl rfl (by simp) (by simp [il_length]; omega)
                have e1 : rr h s a4 e t ++ gt 1 (il l) = rr h s a4 e (t ++ gt 1 (il l)) := by simp [rr]
                have e2 : il l ++ [vi z] = il (l ++ [z]) := by simp [il]
                rw [e1, e2] at this
                rw [this]
                simp [rr]
              have hrange : rgE 0 z (-1152921504606846976) 1152921504606846976 = if 1152921504606846976 < z then 2 else 0 := by
                unfold rgE
                have : ¬ z < -1152921504606846976 := by have := hlo.1; omega
                simp [this]
              rw [hrange] at hrg
              simp -implicitDefEqProofs [hB2, x_sleuthref07_packed_l0, h0, h3, h4, h5, h6, h7, h8, h9, h10, hwa, hrg, hga]
              refine K (i + 1) _ _ (by omega) ⟨l ++ [z], _, ?_, rfl, by simp [hll], by omega, ?_⟩
              · simp only [sees_cons, sees_nil]
                simp [h0, h3, h4, h5, h6, wrap_up (by omega : i < 100000000000)]
              · by_cases hbig : 1152921504606846976 < z
                · rw [if_pos hbig] at hx ⊢
                  rw [if_neg (by decide)]
                  exact hx.symm
                · rw [if_neg hbig] at hx ⊢
                  rw [if_pos rfl]
                  exact hx
          · have hlt' : ¬ (i : Int) < n := by omega
            rw [show n - i = 0 from by omega, pvalsR] at hx
            simp -implicitDefEqProofs [hB, x_sleuthref07_packed_l1, h0, h3, h4, h5, h6, h7, h8, hlt', hat]
            refine hfin _ ?_ ?_ ?_ hx.symm
            · simpa using h0
            · simpa using h6
            · simpa using h7
        · rw [if_neg he] at hx
          have he' : (e == 0) = false := by simpa using he
          by_cases hlt' : (i : Int) < n
          · simp -implicitDefEqProofs [hB, x_sleuthref07_packed_l1, h0, h3, h4, h5, h6, h7, h8, hlt', hat, he']
            refine hfin _ ?_ ?_ ?_ hx
            · simpa using h0
            · simpa using h6
            · simpa using h7
          · simp -implicitDefEqProofs [hB, x_sleuthref07_packed_l1, h0, h3, h4, h5, h6, h7, h8, hlt', hat]
            refine hfin _ ?_ ?_ ?_ hx
            · simpa using h0
            · simpa using h6
            · simpa using h7
      · by_cases hl0 : F.1 = []
        · left; simp [wcl, hl0]
        · right; exact ⟨F.1, wcl_own hl0⟩
    · have hne : ((SZ : Int) != (Q : Int)) = true := by simp; omega
      rw [hne, show fl 0 0 true 3 = 3 from rfl] at hp
      simp only [ne_eq, show ¬ (3 : Int) = 0 from by decide, not_false_eq_true, if_true] at hp
      rw [hp]
      refine ⟨vnil, a4 + SZ, ?_, .inl rfl, fun h => by cases h⟩
      rw [run_eq, xp_sleuthref07_packed]
      simp -implicitDefEqProofs [x_sleuthref07_packed, n1, r1, n2, r2, n3, r3, n4, hat, w1, w2, w3, hne, hst]
      rw [loopW_cps]
      by_cases hn0 : 0 < n
      · simp -implicitDefEqProofs [x_sleuthref07_packed_l1, hn0, hat, w4, hst', htk]
      · simp -implicitDefEqProofs [x_sleuthref07_packed_l1, hn0, hat, w4, hst', htk]
  · rw [if_neg hce] at n4
    rw [p1 hce]
    have hce' : (ce == 0) = false := by simpa using hce
    obtain ⟨a4, ha4e⟩ : ∃ a4, a4 = (rNum s a3 e3).2.1 := ⟨_, rfl⟩
    rw [← ha4e] at n4 ha4
    have w4 : IntKind.i64.wrap (a4 : Int) = (a4 : Int) := wrap_i64 (by omega) (by omega)
    refine ⟨vnil, a4, ?_, .inl rfl, fun h => absurd h hce⟩
    rw [run_eq, xp_sleuthref07_packed]
    simp -implicitDefEqProofs [x_sleuthref07_packed, n1, r1, n2, r2, n3, r3, n4, hat, hce']
    rw [loopW_cps]
    by_cases hn0 : 0 < N
    · simp -implicitDefEqProofs [x_sleuthref07_packed_l1, hn0, hat, hce', w4, hst, htk]
    · simp -implicitDefEqProofs [x_sleuthref07_packed_l1, hn0, hat, w4, hst, htk]
end
end Go.Proofs.Sl

namespace Go.Proofs.Sl
theorem valE_f {s : ByteArray} {a : Nat} : valE s a false 0 = rgE (rNum s a 0).2.2 (rNum s a 0).1 (-1152921504606846976) 1152921504606846976 ∧ ((rNum s a 0).2.2 = 0 → valN s a false 0 = (rNum s a 0).1) := by
  by_cases h : (rn s a).2.2 = 0
  · have hR : rNum s a 0 = rn s a := by
      unfold rNum
      rw [if_neg (by simp), if_neg (by simpa using h)]
      exact Prod.ext rfl (Prod.ext rfl h.symm)
    have hN : valN s a false 0 = (rn s a).1 := by simp [valN]
    refine ⟨?_, fun _ => by rw [hR, hN]⟩
    rw [hR, valE, if_neg (by simpa using h), if_neg (by simp), hN, ← fl_rgE, h]
    rfl
  · have hR : rNum s a 0 = (0, a, (rn s a).2.2) := by
      unfold rNum
      rw [if_neg (by simp), if_pos h]
    refine ⟨?_, fun h' => by rw [hR] at h'; exact absurd h' h⟩
    rw [hR, valE, if_pos h, rgE_ne h]
theorem valE_t {s : ByteArray} {a : Nat} {q : Int} (hx : (rNum s a 0).2.2 = 0) : valE s a true q = rgE (rgE 0 (rNum s a 0).1 (-2305843009213693952) 2305843009213693952) (q + (rNum s a 0).1) (-1152921504606846976) 1152921504606846976 ∧ valN s a true q = q + (rNum s a 0).1 := by
  have h : (rn s a).2.2 = 0 := by
    rcases Classical.em ((rn s a).2.2 = 0) with h | h
    · exact h
    · exfalso
      have hR : rNum s a 0 = (0, a, (rn s a).2.2) := by
        unfold rNum
        rw [if_neg (by simp), if_pos h]
      rw [hR] at hx
      exact h hx
  have hR : rNum s a 0 = rn s a := by
    unfold rNum
    rw [if_neg (by simp), if_neg (by simpa using h)]
    exact Prod.ext rfl (Prod.ext rfl h.symm)
  have hN : valN s a true q = q + (rn s a).1 := by simp [valN]
  rw [hR]
  refine ⟨?_, hN⟩
  rw [valE, if_neg (by simpa using h), hN]
  by_cases hc : (rn s a).1 < -2305843009213693952 ∨ 2305843009213693952 < (rn s a).1
  · rw [if_pos ⟨rfl, hc⟩]
    have : rgE 0 (rn s a).1 (-2305843009213693952) 2305843009213693952 = 2 := by rw [rgE, if_pos ⟨rfl, hc⟩]
    rw [this, rgE_ne (by decide)]
  · rw [if_neg (by simp; omega)]
    have : rgE 0 (rn s a).1 (-2305843009213693952) 2305843009213693952 = 0 := by rw [rgE, if_neg (by simp; omega)]
    rw [this, ← fl_rgE]
    rfl
theorem valE_e {s : ByteArray} {a : Nat} {d : Bool} {q : Int} (hx : (rNum s a 0).2.2 ≠ 0) : valE s a d q = (rNum s a 0).2.2 := by
  by_cases h : (rn s a).2.2 = 0
  · have hR : rNum s a 0 = rn s a := by
      unfold rNum
      rw [if_neg (by simp), if_neg (by simpa using h)]
      exact Prod.ext rfl (Prod.ext rfl h.symm)
    rw [hR] at hx
    exact absurd h hx
  · have hR : rNum s a 0 = (0, a, (rn s a).2.2) := by
      unfold rNum
      rw [if_neg (by simp), if_pos h]
    rw [hR, valE, if_pos h]
theorem lstC_stuck {s : ByteArray} {d : Bool} {n i : Nat} {c : CS} (h : c.e ≠ 0) : (lstC s d n i c).e = c.e := by
  have hf : fl c.e0 c.e false 0 = c.e := by rw [fl, if_pos h]
  cases n with
  | zero => rw [lstC, failC]; exact hf
  | succ n => rw [lstC, if_pos (by rw [hf]; exact h), failC]; exact hf
section
variable {h : H} {s : ByteArray}
theorem rr_gt (a : Nat) (e : Int) (l : List Int) : rr h s a e (gt 1 (il l)) = rr h s a e [] ++ gt 1 (il l) := by simp [rr]
theorem rr_app {a : Nat} {e : Int} {l : List Int} {z : Int} (hl : l.length ≤ 100000) : xappend (rr h s a e (gt 1 (il l))) 1 17592186044416 (gv (h.length + 1) (il l)) (.lst 1 [vi z]) = some (gv (h.length + 1) (il (l ++ [z])), rr h s a e (gt 1 (il (l ++ [z])))) := by
  have := gv_app (h := rr h s a e []) (k := 1) (n := h.length + 1) (lim := 17592186044416) (es := il l) (ys := [vi z]) (by rw [rr_length]; rfl) rfl rfl (by simp) (by simp [il_length]; omega)
  have e2 : il l ++ [vi z] = il (l ++ [z]) := by simp [il]
  rw [← rr_gt, e2, ← rr_gt] at this
  exact this
theorem rr_rd (a : Nat) (e : Int) (l : List Int) : Rd (rr h s a e (gt 1 (il l))) 1 (gv (h.length + 1) (il l)) (il l) := by
  rw [rr_gt]
  exact gv_rd0 1 (il l) (by rw [rr_length]; rfl)
theorem rr_inner (base i N : Nat) (kind : Int) {f : Ex × St → Option (V × H)} {b : Option (V × H)} (st : Sl) (a : Nat) (e : Int) (out : List Int) (v T : Int) (m : Nat) (h0 : st 0 = vs s) (h4 : st 4 = .ptr h.length 0) (h5 : st 5 = vi kind) (h6 : st 6 = gv (h.length + 1) (il out)) (h7 : st 7 = vi N) (h8 : st 8 = vi i) (h9 : st 9 = vi v) (h10 : st 10 = vi T) (h11 : st 11 = vi 0)
    (hT : e = 0 → T = m) (hl : e = 0 → out.length + m ≤ 90000) (kk : ∀ st' : Sl, Sees st' [(0, vs s), (4, .ptr h.length 0), (5, vi kind), (6, gv (h.length + 1) (il (if e = 0 then out ++ List.replicate m v else out))), (7, vi N), (8, vi i)] → f (.exit 2, ⟨st', rr h s a e (gt 1 (il (if e = 0 then out ++ List.replicate m v else out)))⟩) = b) :
    ob (loopW (xcode (run XP) loopW base x_sleuthref07_Open_l0) ⟨st, rr h s a e (gt 1 (il out))⟩) f = b := by
  have hat := fun (a : Nat) (e : Int) (t : H) => rr_at (h := h) (s := s) (a := a) (e := e) (t := t)
  by_cases he : e = 0
  · subst he
    obtain rfl := hT rfl
    have hl := hl rfl
    refine loop_up m (fun k st h' => Sees st [(0, vs s), (4, .ptr h.length 0), (5, vi kind), (6, gv (h.length + 1) (il (out ++ List.replicate k v))), (7, vi N), (8, vi i), (9, vi v), (10, vi m), (11, vi k)] ∧ h' = rr h s a 0 (gt 1 (il (out ++ List.replicate k v)))) ?_ ?_ _ _ ⟨by simp [h0, h4, h5, h6, h7, h8, h9, h10, h11], by simp⟩
    · rintro B f' hB hf k st h' hk ⟨⟨h0, h4, h5, h6, h7, h8, h9, h10, h11, -⟩, rfl⟩ K
      have hlt : (k : Int) < m := by omega
      have hga := rr_app (h := h) (s := s) (a := a) (e := 0) (l := out ++ List.replicate k v) (z := v) (by simp; omega)
      have hrep : out ++ List.replicate k v ++ [v] = out ++ List.replicate (k + 1) v := by rw [List.replicate_succ']; simp
      rw [hrep] at hga
      generalize il (out ++ List.replicate k v) = L1 at *
      generalize il (out ++ List.replicate (k + 1) v) = L2 at *
      simp -implicitDefEqProofs [hB, x_sleuthref07_Open_l0, h0, h4, h5, h6, h7, h8, h9, h10, h11, hlt, hat, hga]
      refine K _ _ ⟨?_, rfl⟩
      simp [h0, h4, h5, h7, h8, h9, h10, wrap_up (by omega : k < 100000000000)]
    · rintro B hB st h' ⟨⟨h0, h4, h5, h6, h7, h8, h9, h10, h11, -⟩, rfl⟩
      rw [if_pos rfl] at kk
      generalize out ++ List.replicate m v = L1 at *
      simp -implicitDefEqProofs [hB, x_sleuthref07_Open_l0, h10, h11]
      refine kk _ ?_
      simp only [sees_cons, sees_nil]
      simp [h0, h4, h5, h6, h7, h8]
  · rw [if_neg he] at kk
    have he' : (e == 0) = false := by simpa using he
    rw [loopW_cps]
    by_cases hlt : 0 < T
    · simp -implicitDefEqProofs [x_sleuthref07_Open_l0, h4, h10, h11, hlt, hat, he']
      refine kk _ ?_
      simp only [sees_cons, sees_nil]
      simp [h0, h4, h5, h6, h7, h8]
    · simp -implicitDefEqProofs [x_sleuthref07_Open_l0, h4, h10, h11, hlt, hat]
      refine kk _ ?_
      simp only [sees_cons, sees_nil]
      simp [h0, h4, h5, h6, h7, h8]
end
end Go.Proofs.Sl

namespace Go.Proofs.Sl
section
variable {h : H} {s : ByteArray}
theorem valE_any (s : ByteArray) (a : Nat) (q : Int) : valE s a false q = valE s a false 0 := by
  unfold valE valN
  simp
theorem valN_any (s : ByteArray) (a : Nat) (q : Int) : valN s a false q = valN s a false 0 := by
  unfold valN
  simp
/-- What the answer is made of, in the end. -/
def finR (s : ByteArray) (e : Int) (out : List Int) : V := if e ≠ 0 then .tup [vnil, vi e] else if (bestP out 4).1 ≠ bts s then .tup [vnil, vi 3] else .tup [lv 1 (lstO out), vi 0]
/-- What is read so far, of a kind. -/
def RdC (s : ByteArray) (k : Nat) (n i : Nat) (a : Nat) (e : Int) (out : List Int) (F : CS) : Prop :=
  (e ≠ 0 → F.e = e) ∧ (e = 0 → (∀ x ∈ out, OkV x) ∧ out.length ≤ 4096 ∧ (if k = 3 then runC s n ⟨a, 0, out, 0⟩ = F else out.length = i ∧ lstC s (k == 2) n i ⟨a, 0, out, 0⟩ = F))

theorem RR_kind (hs : s.size ≤ 10000000000000) {k : Nat} (hk : k = 1 ∨ k = 2 ∨ k = 3) {a1 : Nat} (hr : rNum s 0 0 = ((k : Int), a1, 0)) : run XP i_sleuthref07_Open [vs s] h = some (finR s (openC s).e (openC s).vals, h) := by
  have hat := fun (a : Nat) (e : Int) (t : H) => rr_at (h := h) (s := s) (a := a) (e := e) (t := t)
  have htk := fun (a : Nat) (e : Int) (t : H) => rr_take (h := h) (s := s) (a := a) (e := e) (t := t)
  have n1 := RR_number (h := h) (t := []) (s := s) (a := 0) (e := 0) hs (Nat.zero_le _)
  have ha1 : a1 ≤ s.size := by have := rNum_le (s := s) (Nat.zero_le _) 0; rw [hr] at this; exact this
  have hO : openC s = decC s k a1 := by rw [openC, hr]
  rw [hr] at n1
  simp only at n1
  have n2 := RR_count (h := h) (t := []) (s := s) (a := a1) (e := 0) hs ha1 4096 6 (by decide)
  have hbox : h ++ [.box false [vs s, vi 0, vi 0]] = rr h s 0 0 [] := rfl
  have hdec := decC_ok ha1 k
  rw [← hO] at hdec
  -- the count
  have hcap := rSz_cap s a1 0 4096 6 (by decide) (by decide)
  obtain ⟨a2, ce, N, q1, q2, q3, q4, q5⟩ : ∃ (a2 : Nat) (ce : Int) (N : Nat), a2 ≤ s.size ∧ N ≤ 4096 ∧ run XP i_sleuthref07_reader_count [.ptr h.length 0, vi 4096, vi 6] (rr h s a1 0 []) = some (vi N, rr h s a2 ce []) ∧
      RdC s k N 0 a2 ce [] (openC s) ∧ (ce ≠ 0 → N = 0) := by
    have hde : decC s k a1 = if k = 3 then runC s (rSz s a1 0 4096 6).1 (cntC s a1) else lstC s (k == 2) (rSz s a1 0 4096 6).1 0 (cntC s a1) := by
      rcases hk with rfl | rfl | rfl <;> rfl
    rw [cntE_sz] at n2
    by_cases hz : szE s a1 4096 6 = 0
    · obtain ⟨z1, z2, z3, z4⟩ := szE_ok hz (by decide)
      have hrn : rNum s a1 0 = rn s a1 := by
        unfold rNum
        rw [if_neg (by decide), if_neg (by simpa using z1)]
        exact Prod.ext rfl (Prod.ext rfl z1.symm)
      have hrs : rSz s a1 0 4096 6 = ((rn s a1).1.toNat, (rn s a1).2.1, 0) := by
        unfold rSz
        rw [if_neg (by decide), if_neg (by simpa using hz)]
      have hc : cntC s a1 = ⟨(rn s a1).2.1, 0, [], 0⟩ := by rw [cntC, hrs]
      rw [hrn, hz, if_pos rfl] at n2
      refine ⟨(rn s a1).2.1, 0, (rn s a1).1.toNat, (rn_ok z1).1, by omega, ?_, ⟨fun h => absurd rfl h, fun _ => ⟨by simp, by simp, ?_⟩⟩, fun h => absurd rfl h⟩
      · rw [n2, Int.toNat_of_nonneg z2]
      · rw [hO, hde, hrs, hc]
        rcases hk with rfl | rfl | rfl <;> simp
    · rw [if_neg hz] at n2
      have hrs : rSz s a1 0 4096 6 = (0, a1, szE s a1 4096 6) := by
        unfold rSz
        rw [if_neg (by decide), if_pos (by simpa using hz)]
      refine ⟨(rNum s a1 0).2.1, szE s a1 4096 6, 0, rNum_le ha1 0, by omega, by rw [n2]; rfl, ⟨fun _ => ?_, fun h => absurd h hz⟩, fun _ => rfl⟩
      have hfe : (failC (cntC s a1)).e = szE s a1 4096 6 := by
        have : cntC s a1 = ⟨a1, szE s a1 4096 6, [], 0⟩ := by rw [cntC, hrs]
        rw [this]
        simp only [failC, fl, ne_eq, not_true, if_false, hz, not_false_eq_true, if_true]
      rw [hO, hde, hrs]
      rcases hk with rfl | rfl | rfl
      · exact hfe
      · exact hfe
      · exact hfe
  generalize openC s = F at *
  clear n2
  have k4 : ((k : Int) == 4) = false := by rcases hk with rfl | rfl | rfl <;> rfl
  have k1 : ¬ (k : Int) < 1 := by omega
  have k5 : ¬ 4 < (k : Int) := by omega
  have k1' : ¬ k < 1 := by omega
  rw [run_eq, xp_sleuthref07_Open]
  simp -implicitDefEqProofs [x_sleuthref07_Open, noOwn, addParts, putRow, hbox, n1, hat, k1, k5, k4, q3]
  refine loop_ind (fun i : Nat => N + 1 - i) (fun i st h' => ∃ (a : Nat) (e : Int) (out : List Int), Sees st [(0, vs s), (4, .ptr h.length 0), (5, vi k), (6, gv (h.length + 1) (il out)), (7, vi N), (8, vi i)] ∧ h' = rr h s a e (gt 1 (il out)) ∧ i ≤ N ∧ a ≤ s.size ∧ out.length ≤ 4097 ∧ RdC s k (N - i) i a e out F) ?_ 0 _ _
    ⟨a2, ce, [], by simp [gv, il], by simp [gt, il], by omega, q1, by simp, q4⟩
  rintro B f hB hf i st h' ⟨a, e, out, ⟨h0, h4, h5, h6, h7, h8, -⟩, rfl, hiN, haS, hol, hx1, hx2⟩ K
  have hfin : ∀ (st : Sl), st 0 = vs s → st 4 = .ptr h.length 0 → st 6 = gv (h.length + 1) (il out) → (e = 0 → F.e = 0 ∧ F.vals = out) → f (.exit 0, ⟨st, rr h s a e (gt 1 (il out))⟩) = some (finR s F.e F.vals, h) := by
    intro st g0 g4 g6 hF
    unfold finR
    by_cases he : e = 0
    · obtain ⟨f1, f2⟩ := hF he
      subst he
      rw [f1, f2, if_neg (by simp)]
      have hrd := rr_rd (h := h) (s := s) a 0 out
      have hsh := ref_shortest hrd (hx2 rfl).1 (by omega)
      by_cases hb : (bestP out 4).1 = bts s
      · have hb' : ((bestP out 4).1 == bts s) = true := by simp [hb]
        rw [if_neg (by simpa using hb)]
        by_cases ho : out = []
        · subst ho
          rw [show gv (h.length + 1) (il []) = vnil from by simp [gv, il]] at g6 hsh
          simp -implicitDefEqProofs [hf, g0, g4, g6, hat, hsh, htk, neq_txs, hb', lstO, lv, tx_plain]
        · have hil : il out ≠ [] := by simpa [il] using ho
          have hg : gv (h.length + 1) (il out) = .ref (h.length + 1) out.length := by rw [gv, if_neg hil, il_length]
          rw [hg] at g6 hsh
          have hgt : (rr h s a 0 (gt 1 (il out)))[h.length + 1]? = some (.arr false 1 (il out)) := by
            rw [rr_gt, List.getElem?_append_right (by rw [rr_length]; exact Nat.le_refl _), rr_length]
            simp [gt, hil]
          simp -implicitDefEqProofs [hf, g0, g4, g6, hat, hsh, htk, neq_txs, hb', lstO, lv, tx_plain, hgt, il_length, closeds_il, ho]
      · have hb' : ((bestP out 4).1 == bts s) = false := by simpa using hb
        rw [if_pos hb]
        have harg := hrd.arg0
        simp -implicitDefEqProofs [hf, g0, g4, g6, hat, harg, hsh, htk, neq_txs, hb', tx_plain]
    · have he' : (e != 0) = true := by simpa using he
      rw [hx1 he, if_pos he]
      simp -implicitDefEqProofs [hf, g0, g4, g6, hat, htk, he']
  by_cases hlt : i < N
  · have hlt' : (i : Int) < N := by omega
    by_cases he : e = 0
    · subst he
      obtain ⟨x1, x2, x3⟩ := hx2 rfl
      have nn := RR_number (h := h) (t := gt 1 (il out)) (s := s) (a := a) (e := 0) hs haS
      have ha3 := rNum_le haS 0
      have wi : IntKind.i64.wrap ((i : Int) + 1) = (i : Int) + 1 := wrap_up (by omega)
      have hrgf := valE_f (s := s) (a := a)
      have fin : ∀ (a' : Nat) (e' : Int) (out' : List Int) (st' : Sl), Sees st' [(0, vs s), (4, .ptr h.length 0), (5, vi k), (6, gv (h.length + 1) (il out')), (7, vi N), (8, vi i)] → a' ≤ s.size → out'.length ≤ 4097 → RdC s k (N - (i + 1)) (i + 1) a' e' out' F → ∀ st2 : Sl, st2 = upd (upd (upd st' 48 (vi i)) 49 (vi ((i : Int) + 1))) 8 (vi ((i : Int) + 1)) →
          ob (loopW B ⟨st2, rr h s a' e' (gt 1 (il out'))⟩) f = some (finR s F.e F.vals, h) := by
        rintro a' e' out' st' ⟨g0, g4, g5, g6, g7, g8, -⟩ b1 b2 b3 st2 rfl
        refine K (i + 1) _ _ (by omega) ⟨a', e', out', ?_, rfl, by omega, b1, b2, b3⟩
        simp only [sees_cons, sees_nil]
        simp [g0, g4, g5, g6, g7]
      have hsplit : N - i = (N - (i + 1)) + 1 := by omega
      have hvN := valN_any s a
      have hvE := valE_any s a
      have hcl : ∀ x, fl 0 0 false x = 0 := fun _ => rfl
      -- a value, where it does not differ from another one
      have plainStep : ∀ (last : Int), stepV s false last ⟨a, 0, out, 0⟩ = ⟨(rNum s a 0).2.1, (rNum s a 0).2.2, if rgE (rNum s a 0).2.2 (rNum s a 0).1 (-1152921504606846976) 1152921504606846976 = 0 then out ++ [(rNum s a 0).1] else out, rgE (rNum s a 0).2.2 (rNum s a 0).1 (-1152921504606846976) 1152921504606846976⟩ := fun last => by
        unfold stepV
        simp only [hvE last, hvN last, hrgf.1]
        congr 1
        by_cases hz : rgE (rNum s a 0).2.2 (rNum s a 0).1 (-1152921504606846976) 1152921504606846976 = 0
        · rw [if_pos hz, if_pos hz, hrgf.2 (rgE_zero hz).1]
        · rw [if_neg hz, if_neg hz]
      have diffStep : ∀ q, stepV s true q ⟨a, 0, out, 0⟩ = ⟨(rNum s a 0).2.1, (rNum s a 0).2.2, if (if (rNum s a 0).2.2 ≠ 0 then (rNum s a 0).2.2 else rgE (rgE 0 (rNum s a 0).1 (-2305843009213693952) 2305843009213693952) (q + (rNum s a 0).1) (-1152921504606846976) 1152921504606846976) = 0 then out ++ [q + (rNum s a 0).1] else out,
          if (rNum s a 0).2.2 ≠ 0 then (rNum s a 0).2.2 else rgE (rgE 0 (rNum s a 0).1 (-2305843009213693952) 2305843009213693952) (q + (rNum s a 0).1) (-1152921504606846976) 1152921504606846976⟩ := fun q => by
        unfold stepV
        by_cases hx : (rNum s a 0).2.2 = 0
        · obtain ⟨t1, t2⟩ := valE_t (q := q) hx
          simp only [t1, t2, hx, ne_eq, not_true, if_false]
        · have t1 := valE_e (d := true) (q := q) hx
          simp only [t1, ne_eq, hx, not_false_eq_true, if_true, if_false]
      have hvN3 := hrgf.2
      generalize rNum s a 0 = r at *
      obtain ⟨v, a3, x⟩ := r
      simp only at nn ha3 plainStep diffStep hvN3
      have rg := RR_ranged (h := h) (t := gt 1 (il out)) (s := s) (a := a3) (e := x) v (-1152921504606846976) 1152921504606846976
      obtain ⟨e1, he1⟩ : ∃ e1, e1 = rgE x v (-1152921504606846976) 1152921504606846976 := ⟨_, rfl⟩
      rw [← he1] at rg
      simp only [← he1] at plainStep
      have hok1 : e1 = 0 → x = 0 ∧ OkV v := fun h => by
        rw [h] at he1
        obtain ⟨b1, b2, b3⟩ := rgE_zero he1.symm
        exact ⟨b1, b2, b3⟩
      -- behind it, for a list
      have plainRd : ∀ d, lstC s d (N - i) i ⟨a, 0, out, 0⟩ = F → (d && decide (0 < i)) = false → out.length = i → ∀ k, k ≠ 3 → (k == 2) = d → RdC s k (N - (i + 1)) (i + 1) a3 e1 (if e1 = 0 then out ++ List.replicate 1 v else out) F := by
        intro d hF hd hli k hk3 hkd
        rw [hsplit, lstC, hcl, if_neg (by simp), hd, plainStep] at hF
        by_cases hz : e1 = 0
        · subst hz
          obtain ⟨rfl, hov⟩ := hok1 rfl
          rw [if_pos rfl] at hF ⊢
          refine ⟨fun h => absurd rfl h, fun _ => ⟨fun y hy => ?_, by simp; omega, ?_⟩⟩
          · simp only [List.mem_append, List.replicate_one, List.mem_singleton] at hy
            rcases hy with hy | rfl
            · exact x1 y hy
            · exact hov
          · rw [if_neg hk3, hkd]
            exact ⟨by simp [hli], hF⟩
        · rw [if_neg hz] at hF ⊢
          refine ⟨fun _ => ?_, fun h => absurd h hz⟩
          rw [← hF]
          exact lstC_stuck hz
      have hone : out.length + 1 ≤ 90000 := by omega
      have hlen1 : ∀ e : Int, out.length ≤ 4096 → (if e = 0 then out ++ List.replicate 1 v else out).length ≤ 4097 := fun e h => by
        split
        · simp; omega
        · omega
      rcases hk with rfl | rfl | rfl
      · rw [if_neg (by decide)] at x3
        have hc : ((1 : Nat) : Int) = 1 := rfl
        rw [hc] at h5
        simp -implicitDefEqProofs [hB, x_sleuthref07_Open_l1, h0, h4, h5, h6, h7, h8, hlt', hat, nn, rg]
        refine rr_inner _ i N 1 _ a3 e1 out v 1 1 ?_ ?_ ?_ ?_ ?_ ?_ ?_ ?_ ?_ (fun _ => rfl) (fun _ => hone) fun st' hs' => ?_
        iterate 9 (· simp [h0, h4, h5, h6, h7, h8])
        have g8 := hs'.2.2.2.2.2.1
        simp -implicitDefEqProofs [g8, wi]
        exact fin _ _ _ st' hs' ha3 (hlen1 _ x2) (plainRd false x3.2 (by simp) x3.1 1 (by decide) rfl) _ rfl
      · rw [if_neg (by decide)] at x3
        have hc : ((2 : Nat) : Int) = 2 := rfl
        rw [hc] at h5
        by_cases hi0 : i = 0
        · have hgt : ¬ 0 < i := by omega
          simp -implicitDefEqProofs [hB, x_sleuthref07_Open_l1, h0, h4, h5, h6, h7, h8, hlt', hat, nn, rg, hgt]
          refine rr_inner _ i N 2 _ a3 e1 out v 1 1 ?_ ?_ ?_ ?_ ?_ ?_ ?_ ?_ ?_ (fun _ => rfl) (fun _ => hone) fun st' hs' => ?_
          iterate 9 (· simp [h0, h4, h5, h6, h7, h8])
          have g8 := hs'.2.2.2.2.2.1
          simp -implicitDefEqProofs [g8, wi]
          exact fin _ _ _ st' hs' ha3 (hlen1 _ x2) (plainRd true x3.2 (by simp [hi0]) x3.1 2 (by decide) rfl) _ rfl
        · have hgt : 0 < i := by omega
          have hwi : IntKind.i64.wrap ((i : Int) - 1) = ((i - 1 : Nat) : Int) := by rw [wrap_i64 (by omega) (by omega)]; omega
          have hli := x3.1
          have hF : lstC s true (N - i) i ⟨a, 0, out, 0⟩ = F := x3.2
          obtain ⟨q, hq⟩ : ∃ q, out[i - 1]? = some q := ⟨_, List.getElem?_eq_getElem (by omega)⟩
          have hqo := x1 q (List.mem_of_getElem? hq)
          have hlc : lastC i ⟨a, 0, out, 0⟩ = q := by simp [lastC, hgt, hq]
          rw [hsplit, lstC, hcl, if_neg (by simp), show (true && decide (0 < i)) = true from by simp [hgt], hlc, diffStep] at hF
          by_cases hx0 : x = 0
          · subst hx0
            simp only [ne_eq, not_true, if_false] at hF
            obtain ⟨e0, he0⟩ : ∃ e0, e0 = rgE 0 v (-2305843009213693952) 2305843009213693952 := ⟨_, rfl⟩
            have rg0 := RR_ranged (h := h) (t := gt 1 (il out)) (s := s) (a := a3) (e := 0) v (-2305843009213693952) 2305843009213693952
            rw [← he0] at rg0 hF
            by_cases hz0 : e0 = 0
            · subst hz0
              obtain ⟨-, c1, c2⟩ := rgE_zero he0.symm
              obtain ⟨z, hz⟩ : ∃ z, z = q + v := ⟨_, rfl⟩
              have hwz : IntKind.i64.wrap (q + v) = z := by rw [hz]; exact wrap_i64 (by have := hqo.1; omega) (by have := hqo.2; omega)
              obtain ⟨e2, he2⟩ : ∃ e2, e2 = rgE 0 z (-1152921504606846976) 1152921504606846976 := ⟨_, rfl⟩
              have rg2 := RR_ranged (h := h) (t := gt 1 (il out)) (s := s) (a := a3) (e := 0) z (-1152921504606846976) 1152921504606846976
              rw [← hz, ← he2] at hF
              rw [← he2] at rg2
              have hrd := rr_rd (h := h) (s := s) a3 0 out
              obtain ⟨p, hp, hld⟩ := hrd.at1 (il_at hq) rfl
              simp -implicitDefEqProofs [hB, x_sleuthref07_Open_l1, h0, h4, h5, h6, h7, h8, hlt', hat, nn, rg0, hgt, hwi, hp, hld, hwz, rg2]
              refine rr_inner _ i N 2 _ a3 e2 out z 1 1 ?_ ?_ ?_ ?_ ?_ ?_ ?_ ?_ ?_ (fun _ => rfl) (fun _ => hone) fun st' hs' => ?_
              iterate 9 (· simp [h0, h4, h5, h6, h7, h8])
              have g8 := hs'.2.2.2.2.2.1
              simp -implicitDefEqProofs [g8, wi]
              refine fin _ _ _ st' hs' ha3 (by split <;> first | omega | (simp; omega)) ?_ _ rfl
              by_cases hz2 : e2 = 0
              · subst hz2
                obtain ⟨-, c3, c4⟩ := rgE_zero he2.symm
                rw [if_pos rfl] at hF ⊢
                refine ⟨fun h => absurd rfl h, fun _ => ⟨fun y hy => ?_, by simp; omega, ?_⟩⟩
                · simp only [List.mem_append, List.replicate_one, List.mem_singleton] at hy
                  rcases hy with hy | rfl
                  · exact x1 y hy
                  · exact ⟨c3, c4⟩
                · rw [if_neg (by decide)]
                  exact ⟨by simp [hli], hF⟩
              · rw [if_neg hz2] at hF ⊢
                refine ⟨fun _ => ?_, fun h => absurd h hz2⟩
                rw [← hF]
                exact lstC_stuck hz2
            · have hz0' : (e0 == 0) = false := by simpa using hz0
              rw [rgE_ne hz0, if_neg hz0] at hF
              have rg2 := RR_ranged (h := h) (t := gt 1 (il out)) (s := s) (a := a3) (e := e0) v (-1152921504606846976) 1152921504606846976
              rw [rgE_ne hz0] at rg2
              simp -implicitDefEqProofs [hB, x_sleuthref07_Open_l1, h0, h4, h5, h6, h7, h8, hlt', hat, nn, rg0, hgt, hz0', rg2]
              refine rr_inner _ i N 2 _ a3 e0 out v 1 1 ?_ ?_ ?_ ?_ ?_ ?_ ?_ ?_ ?_ (fun _ => rfl) (fun _ => hone) fun st' hs' => ?_
              iterate 9 (· simp [h0, h4, h5, h6, h7, h8])
              have g8 := hs'.2.2.2.2.2.1
              simp -implicitDefEqProofs [g8, wi]
              refine fin _ _ _ st' hs' ha3 (hlen1 _ x2) ?_ _ rfl
              rw [if_neg hz0]
              refine ⟨fun _ => ?_, fun h => absurd h hz0⟩
              rw [← hF]
              exact lstC_stuck hz0
          · have hx0' : (x == 0) = false := by simpa using hx0
            have he1x : e1 = x := by rw [he1, rgE_ne hx0]
            subst he1x
            simp only [ne_eq, hx0, not_false_eq_true, if_true, if_false] at hF
            simp -implicitDefEqProofs [hB, x_sleuthref07_Open_l1, h0, h4, h5, h6, h7, h8, hlt', hat, nn, hgt, hx0', rg]
            refine rr_inner _ i N 2 _ a3 e1 out v 1 1 ?_ ?_ ?_ ?_ ?_ ?_ ?_ ?_ ?_ (fun _ => rfl) (fun _ => hone) fun st' hs' => ?_
            iterate 9 (· simp [h0, h4, h5, h6, h7, h8])
            have g8 := hs'.2.2.2.2.2.1
            simp -implicitDefEqProofs [g8, wi]
            refine fin _ _ _ st' hs' ha3 (hlen1 _ x2) ?_ _ rfl
            rw [if_neg hx0]
            refine ⟨fun _ => ?_, fun h => absurd h hx0⟩
            rw [← hF]
            exact lstC_stuck hx0
      · rw [if_pos rfl] at x3
        have hc : ((3 : Nat) : Int) = 3 := rfl
        rw [hc] at h5
        rw [hsplit, runC, plainStep] at x3
        simp only at x3
        by_cases hz1 : e1 = 0
        · obtain ⟨hx0, hov⟩ := hok1 hz1
          subst hz1
          subst hx0
          rw [hcl, if_neg (by simp), if_pos rfl, hvN3 rfl] at x3
          have n4 := RR_number (h := h) (t := gt 1 (il out)) (s := s) (a := a3) (e := 0) hs ha3
          have ha4 := rNum_le ha3 0
          have hrr4 := rNum_rng s a3 0
          generalize rNum s a3 0 = r4 at *
          obtain ⟨T, a4, y⟩ := r4
          simp only at n4 ha4 hrr4 x3
          have hlo : ((out ++ [v]).length : Int) = out.length + 1 := by simp
          have hhi : 4096 - ((out.length : Int) + 1) + 1 = 4096 - (out.length : Int) := by omega
          rw [hlo, hhi, fl_rgE] at x3
          obtain ⟨e2, he2⟩ : ∃ e2, e2 = rgE y T 1 (4096 - (out.length : Int)) := ⟨_, rfl⟩
          have rg2 := RR_ranged (h := h) (t := gt 1 (il out)) (s := s) (a := a4) (e := y) T 1 (4096 - (out.length : Int))
          rw [← he2] at rg2 x3
          have hrd := rr_rd (h := h) (s := s) a4 y out
          have hwl : IntKind.i64.wrap (4096 - (out.length : Int)) = 4096 - (out.length : Int) := wrap_i64 (by omega) (by omega)
          simp -implicitDefEqProofs [hB, x_sleuthref07_Open_l1, h0, h4, h5, h6, h7, h8, hlt', hat, nn, rg, n4, hrd.toL, il_length, hwl, rg2]
          refine rr_inner _ i N 3 _ a4 e2 out v T T.toNat ?_ ?_ ?_ ?_ ?_ ?_ ?_ ?_ ?_ (fun h => ?_) (fun h => ?_) fun st' hs' => ?_
          iterate 9 (· simp [h0, h4, h5, h6, h7, h8])
          · rw [h] at he2
            obtain ⟨-, b2, -⟩ := rgE_zero he2.symm
            omega
          · rw [h] at he2
            obtain ⟨-, b2, b3⟩ := rgE_zero he2.symm
            omega
          have g8 := hs'.2.2.2.2.2.1
          simp -implicitDefEqProofs [g8, wi]
          by_cases hz2 : e2 = 0
          · subst hz2
            obtain ⟨rfl, b2, b3⟩ := rgE_zero he2.symm
            rw [if_neg (by simp)] at x3
            have hrep : out ++ [v] ++ List.replicate (T - 1).toNat v = out ++ List.replicate T.toNat v := by
              have : T.toNat = (T - 1).toNat + 1 := by omega
              rw [this, List.replicate_succ]
              simp
            rw [hrep] at x3
            refine fin _ _ _ st' hs' ha4 (by rw [if_pos rfl]; simp; omega) ?_ _ rfl
            rw [if_pos rfl]
            refine ⟨fun h => absurd rfl h, fun _ => ⟨fun y hy => ?_, by simp; omega, ?_⟩⟩
            · simp only [List.mem_append] at hy
              rcases hy with hy | hy
              · exact x1 y hy
              · rw [(List.mem_replicate.1 hy).2]; exact hov
            · rw [if_pos rfl]; exact x3
          · rw [if_pos hz2] at x3
            refine fin _ _ _ st' hs' ha4 (by rw [if_neg hz2]; omega) ?_ _ rfl
            rw [if_neg hz2]
            exact ⟨fun _ => by rw [← x3], fun h => absurd h hz2⟩
        · have hz1' : (e1 == 0) = false := by simpa using hz1
          have hfe : fl x e1 false 0 = e1 := by rw [fl, if_pos hz1]
          rw [hfe, if_pos hz1] at x3
          simp -implicitDefEqProofs [hB, x_sleuthref07_Open_l1, h0, h4, h5, h6, h7, h8, hlt', hat, nn, rg, hz1']
          refine rr_inner _ i N 3 _ a3 e1 out v 1 1 ?_ ?_ ?_ ?_ ?_ ?_ ?_ ?_ ?_ (fun _ => rfl) (fun _ => hone) fun st' hs' => ?_
          iterate 9 (· simp [h0, h4, h5, h6, h7, h8])
          have g8 := hs'.2.2.2.2.2.1
          simp -implicitDefEqProofs [g8, wi]
          refine fin _ _ _ st' hs' ha3 (hlen1 _ x2) ?_ _ rfl
          rw [if_neg hz1]
          refine ⟨fun _ => ?_, fun h => absurd h hz1⟩
          rw [← x3]
          exact hfe
    · have he' : (e == 0) = false := by simpa using he
      simp -implicitDefEqProofs [hB, x_sleuthref07_Open_l1, h0, h4, h5, h6, h7, h8, hlt', hat, he']
      refine hfin _ ?_ ?_ ?_ fun h => absurd h he
      · simpa using h0
      · simpa using h4
      · simpa using h6
  · have hlt' : ¬ (i : Int) < N := by omega
    simp -implicitDefEqProofs [hB, x_sleuthref07_Open_l1, h0, h4, h5, h6, h7, h8, hlt', hat]
    refine hfin _ ?_ ?_ ?_ fun h => ?_
    · simpa using h0
    · simpa using h4
    · simpa using h6
    · obtain ⟨x1, x2, x3⟩ := hx2 h
      rw [show N - i = 0 from by omega] at x3
      by_cases hk3 : k = 3
      · rw [if_pos hk3, runC] at x3
        rw [← x3]
        exact ⟨rfl, rfl⟩
      · rw [if_neg hk3, lstC] at x3
        rw [← x3.2]
        exact ⟨rfl, rfl⟩
end
end Go.Proofs.Sl

namespace Go.Proofs.Sl
theorem cutN {a b : Int} {A B : List UInt8} (ha : Rng a) (hb : Rng b) (h : fNum a ++ A = fNum b ++ B) : a = b ∧ A = B := by
  have e1 := rn_form (s := ⟨(fNum a ++ A).toArray⟩) (a := 0) (n := a) (rest := A) ha (by simp [bts])
  have e2 := rn_form (s := ⟨(fNum a ++ A).toArray⟩) (a := 0) (n := b) (rest := B) hb (by simp [bts, h])
  rw [e1] at e2
  have : a = b := congrArg (·.1) e2
  subst this
  exact ⟨rfl, List.append_cancel_left h⟩
theorem cutNs : ∀ {as bs : List Int} {A B : List UInt8}, (∀ n ∈ as, Rng n) → (∀ n ∈ bs, Rng n) → as.length = bs.length → fNums as ++ A = fNums bs ++ B → A = B
  | [], [], A, B, _, _, _, h => by simpa [fNums] using h
  | a :: as, b :: bs, A, B, ha, hb, hl, h => by
    simp only [fNums, List.append_assoc] at h
    obtain ⟨-, h⟩ := cutN (ha a (by simp)) (hb b (by simp)) h
    exact cutNs (fun n hn => ha n (by simp [hn])) (fun n hn => hb n (by simp [hn])) (by simpa using hl) h
  | [], _ :: _, _, _, _, _, hl, _ => by simp at hl
  | _ :: _, [], _, _, _, _, hl, _ => by simp at hl
section
variable {s : ByteArray}
theorem rNum_inv {a : Nat} (h : (rNum s a 0).2.2 = 0) : rNum s a 0 = rn s a ∧ (bts s).drop a = fNum (rNum s a 0).1 ++ (bts s).drop (rNum s a 0).2.1 := by
  by_cases hz : (rn s a).2.2 = 0
  · have hR : rNum s a 0 = rn s a := by
      unfold rNum
      rw [if_neg (by simp), if_neg (by simpa using hz)]
      exact Prod.ext rfl (Prod.ext rfl hz.symm)
    rw [hR]
    exact ⟨rfl, rn_inv hz⟩
  · have hR : rNum s a 0 = (0, a, (rn s a).2.2) := by
      unfold rNum
      rw [if_neg (by simp), if_pos hz]
    rw [hR] at h
    exact absurd h hz
theorem stepV_inv {d : Bool} {last : Int} {c : CS} (h : (stepV s d last c).e = 0) : ∃ n, Rng n ∧ (bts s).drop c.a = fNum n ++ (bts s).drop (stepV s d last c).a := by
  obtain ⟨-, h2, -⟩ := stepV_zero h
  exact ⟨_, rNum_rng s c.a 0, (rNum_inv (a := c.a) h2).2⟩
theorem lstC_inv {d : Bool} : ∀ (n i : Nat) (c : CS), (lstC s d n i c).e = 0 → ∃ ns : List Int, ns.length = n ∧ (∀ x ∈ ns, Rng x) ∧ (bts s).drop c.a = fNums ns ++ (bts s).drop (lstC s d n i c).a
  | 0, i, c, h => ⟨[], rfl, by simp, by simp [fNums, lstC, failC]⟩
  | n + 1, i, c, h => by
    rw [lstC] at h ⊢
    by_cases hf : fl c.e0 c.e false 0 = 0
    · rw [if_neg (by simpa using hf)] at h ⊢
      by_cases he : (stepV s (d && decide (0 < i)) (lastC i c) c).e = 0
      · obtain ⟨v, hv, hd⟩ := stepV_inv he
        obtain ⟨ns, h1, h2, h3⟩ := lstC_inv n (i + 1) _ h
        exact ⟨v :: ns, by simp [h1], by simpa using ⟨hv, h2⟩, by rw [hd, h3]; simp [fNums]⟩
      · rw [lstC_stuck he] at h
        exact absurd h he
    · rw [if_pos hf] at h
      exact absurd h hf
theorem runC_inv : ∀ (n : Nat) (c : CS), (runC s n c).e = 0 → ∃ ns : List Int, ns.length = 2 * n ∧ (∀ x ∈ ns, Rng x) ∧ (bts s).drop c.a = fNums ns ++ (bts s).drop (runC s n c).a
  | 0, c, h => ⟨[], rfl, by simp, by simp [fNums, runC, failC]⟩
  | n + 1, c, h => by
    rw [runC] at h ⊢
    by_cases hf : fl (stepV s false 0 c).e0 (stepV s false 0 c).e false 0 = 0
    · rw [if_neg (by simpa using hf)] at h ⊢
      obtain ⟨z1, z2⟩ := fl_zero0 hf
      obtain ⟨v, hv, hd⟩ := stepV_inv z1
      generalize stepV s false 0 c = c2 at *
      by_cases hg : fl (rNum s c2.a 0).2.2 0 (decide ((rNum s c2.a 0).1 < 1) || decide (4096 - (c2.vals.length : Int) + 1 < (rNum s c2.a 0).1)) 2 = 0
      · rw [if_neg (by simpa using hg)] at h ⊢
        obtain ⟨-, g2, -⟩ := fl_zero hg (by decide)
        have hi := (rNum_inv g2).2
        obtain ⟨ns, h1, h2, h3⟩ := runC_inv n _ h
        simp only at h3
        exact ⟨v :: (rNum s c2.a 0).1 :: ns, by simp [h1]; omega, by simpa using ⟨hv, rNum_rng s c2.a 0, h2⟩, by rw [hd, hi, h3]; simp [fNums]⟩
      · rw [if_pos hg] at h
        exact absurd h hg
    · rw [if_pos hf] at h
      exact absurd h hf
theorem cnt_inv {a : Nat} (h : (rSz s a 0 4096 6).2.2 = 0) : (bts s).drop a = fNum ((rSz s a 0 4096 6).1 : Nat) ++ (bts s).drop (rSz s a 0 4096 6).2.1 := by
  by_cases hz : szE s a 4096 6 = 0
  · obtain ⟨z1, z2, z3, z4⟩ := szE_ok hz (by decide)
    have hrs : rSz s a 0 4096 6 = ((rn s a).1.toNat, (rn s a).2.1, 0) := by
      unfold rSz
      rw [if_neg (by decide), if_neg (by simpa using hz)]
    rw [hrs]
    simp only
    rw [Int.toNat_of_nonneg z2]
    exact rn_inv z1
  · have hrs : rSz s a 0 4096 6 = (0, a, szE s a 4096 6) := by
      unfold rSz
      rw [if_neg (by decide), if_pos (by simpa using hz)]
    rw [hrs] at h
    exact absurd h hz
/-- The form of a kind but the last one: numbers. -/
theorem fCol_nums {vs : List Int} (hr : ∀ n ∈ vs, OkV n) (hn : vs.length ≤ 5000) {k : Nat} (hk : k = 1 ∨ k = 2 ∨ k = 3) : ∃ (M : Nat) (ms : List Int), M ≤ 5000 ∧ (∀ x ∈ ms, Rng x) ∧ ms.length = (if k = 3 then 2 * M else M) ∧ fCol vs k = fNum k ++ (fNum (M : Nat) ++ fNums ms) := by
  rcases hk with rfl | rfl | rfl
  · exact ⟨vs.length, vs, hn, fun x hx => (hr x hx).rng, by simp, by simp [fCol, fKind, fPlain]⟩
  · exact ⟨vs.length, difs 0 vs, hn, difs_rng vs 0 ⟨by decide, by decide⟩ hr, by simp [difs_length], by simp [fCol, fKind, fDelta]⟩
  · obtain ⟨g1, g2⟩ := grpNs_bounds _ vs rfl
    refine ⟨(grp vs).length, grpNs (grp vs), by omega, fun n hm => ?_, by simp [grpNs_len], by simp [fCol, fKind, fRuns]⟩
    simp only [grpNs, List.mem_flatMap, List.mem_cons, List.not_mem_nil, or_false] at hm
    obtain ⟨p, hp, rfl | rfl⟩ := hm
    · exact (hr _ (g2 p hp).1).rng
    · exact rng_nat (by have := (g2 p hp).2; omega)
theorem bestP_kind (vs : List Int) : ∀ k, k ≠ 0 → 1 ≤ (bestP vs k).2 ∧ (bestP vs k).2 ≤ k ∧ (bestP vs k).1 = fCol vs (bestP vs k).2
  | 0, h => absurd rfl h
  | k + 1, _ => by
    rw [bestP]
    split
    · exact ⟨by simp, by simp, rfl⟩
    · rename_i hc
      simp only [not_or] at hc
      have hk0 : k ≠ 0 := fun h => hc.1 (by rw [h]; rfl)
      obtain ⟨h1, h2, h3⟩ := bestP_kind vs k hk0
      exact ⟨h1, by omega, h3⟩
theorem open_left (hs : s.size ≤ 10000000000000) (hK : kindE s = 0) (hE : (openC s).e = 0) (hB : (bestP (openC s).vals 4).1 = bts s) : ¬ (openC s).a < s.size := by
  unfold kindE at hK
  obtain ⟨-, k1, g⟩ := fl_zero hK (by decide)
  simp only [Bool.or_eq_false_iff, decide_eq_false_iff_not] at g
  obtain ⟨g1, g2⟩ := g
  have hi0 := (rNum_inv k1).2
  rw [List.drop_zero] at hi0
  have ha1 : (rNum s 0 0).2.1 ≤ s.size := rNum_le (Nat.zero_le _) 0
  have hO : openC s = decC s (rNum s 0 0).1 (rNum s 0 0).2.1 := rfl
  obtain ⟨hok, hvl, -⟩ := decC_ok ha1 (rNum s 0 0).1
  rw [← hO] at hok hvl
  obtain ⟨b1, b2, b3⟩ := bestP_kind (openC s).vals 4 (by decide)
  rw [hB] at b3
  generalize (bestP (openC s).vals 4).2 = kb at *
  generalize rNum s 0 0 = r at *
  obtain ⟨kind, a1, x⟩ := r
  simp only at *
  obtain ⟨k, rfl⟩ : ∃ k : Nat, kind = k := ⟨kind.toNat, by omega⟩
  have hkr : Rng (k : Int) := rng_nat (by omega)
  have hkbr : Rng (kb : Int) := rng_nat (by omega)
  have key : (bts s).drop (openC s).a = [] := by
    have hkk : k = 1 ∨ k = 2 ∨ k = 3 ∨ k = 4 := by omega
    by_cases hk4 : k = 4
    · subst hk4
      have hb0 : fNum (kb : Int) ++ fKind (openC s).vals kb = fNum ((4 : Nat) : Int) ++ (bts s).drop a1 := by rw [← hi0]; exact b3.symm
      obtain ⟨c1, c2⟩ := cutN hkbr hkr hb0
      have hkb : kb = 4 := by omega
      subst hkb
      -- what is read
      have hOp : openC s = pckC s a1 := by rw [hO, decC, if_neg (by decide), if_neg (by decide), if_neg (by decide)]
      rw [hOp] at hE c2 hok hvl ⊢
      have r1 := rNum_rng s a1 0
      have inv1 := rNum_inv (s := s) (a := a1)
      generalize h1 : rNum s a1 0 = R1v at *
      obtain ⟨n1, b1, x1⟩ := R1v
      obtain ⟨e1, g1⟩ : ∃ e1, e1 = rgE x1 n1 0 4096 := ⟨_, rfl⟩
      have r2 := rNum_rng s b1 e1
      generalize h2 : rNum s b1 e1 = R2v at *
      obtain ⟨n2, b2, x2⟩ := R2v
      obtain ⟨e2, g2⟩ : ∃ e2, e2 = rgE x2 n2 (-1152921504606846976) 1152921504606846976 := ⟨_, rfl⟩
      have r3 := rNum_rng s b2 e2
      generalize h3 : rNum s b2 e2 = R3v at *
      obtain ⟨n3, b3, x3⟩ := R3v
      obtain ⟨e3, g3⟩ : ∃ e3, e3 = rgE x3 n3 0 62 := ⟨_, rfl⟩
      obtain ⟨p1, p2⟩ := pck_err h1 g1 h2 g2 h3 g3 rfl
      by_cases hce : cntE s b3 e3 32768 5 = 0
      · obtain ⟨y1, y2, y3, y4, y5, y6, l1, l2, l3, l4, l5, hp⟩ := p2 hce
        clear p1 p2
        subst y4
        subst y5
        subst y6
        have i1 := (inv1 y1).2
        have i2 := (rNum_inv (s := s) (a := b1) (by rw [h2]; exact y2)).2
        have i3 := (rNum_inv (s := s) (a := b2) (by rw [h3]; exact y3)).2
        rw [h2] at i2
        rw [h3] at i3
        rw [cntE_sz] at hce
        obtain ⟨z1, z2, z3, z4⟩ := szE_ok hce (by decide)
        have i4 := rn_inv z1
        have ha4 := (rn_ok z1).1
        have hr4 := (rn_ok z1).2.2
        have hrs : rSz s b3 0 32768 5 = ((rn s b3).1.toNat, (rn s b3).2.1, 0) := by
          unfold rSz
          rw [if_neg (by decide), if_neg (by rw [hce]; simp)]
        have hT : rText s b3 0 32768 = (⟨(((bts s).drop (rn s b3).2.1).take (rn s b3).1.toNat).toArray⟩, (rn s b3).2.1 + (rn s b3).1.toNat, 0) := by
          simp only [rText, hrs]
        rw [hT] at hp
        generalize rn s b3 = R4 at *
        have hPa : (pckC s a1).a = R4.2.1 + R4.1.toNat := by
          rw [hp]
          simp only
          split <;> rfl
        rw [hPa]
        rw [i1, i2, i3, i4] at c2
        simp only [fKind, fPacked, fText] at c2
        obtain ⟨-, c2⟩ := cutN (rng_nat (by omega)) r1 c2
        obtain ⟨hz1, -, -, -⟩ := zoneP_ok hok.v
        obtain ⟨-, c2⟩ := cutN hz1.rng r2 c2
        have hW := widthP_le hok.v
        obtain ⟨-, c2⟩ := cutN (rng_nat (by omega)) r3 c2
        have hdl : (dataP (pckC s a1).vals).length = sizeP (pckC s a1).vals := dataK_length _ _ _
        have hsz : sizeP (pckC s a1).vals ≤ 100000 := by
          have : (pckC s a1).vals.length * widthP (pckC s a1).vals ≤ 10000 * 62 := Nat.mul_le_mul (by omega) hW
          unfold sizeP
          omega
        obtain ⟨c3, c2⟩ := cutN (rng_nat (by rw [size_vbs]; omega)) hr4 c2
        rw [size_vbs] at c3
        have hlen := congrArg List.length c2
        simp [bts, bts_length] at hlen
        have hbl := bts_length s
        simp only [bts] at hbl
        rw [← List.drop_drop]
        have hx : (bts s).drop R4.2.1 = dataP (pckC s a1).vals := by rw [← c2]; simp [bts]
        rw [hx]
        exact List.drop_of_length_le (by omega)
      · rw [p1 hce] at hE
        exact absurd hE hce
    · have hk3 : k = 1 ∨ k = 2 ∨ k = 3 := by omega
      have hde : decC s k a1 = if k = 3 then runC s (rSz s a1 0 4096 6).1 (cntC s a1) else lstC s (k == 2) (rSz s a1 0 4096 6).1 0 (cntC s a1) := by
        rcases hk3 with rfl | rfl | rfl <;> rfl
      have hkb : kb = k ∧ fKind (openC s).vals kb = (bts s).drop a1 := by
        have hb0 : fNum (kb : Int) ++ fKind (openC s).vals kb = fNum (k : Int) ++ (bts s).drop a1 := by rw [← hi0]; exact b3.symm
        obtain ⟨c1, c2⟩ := cutN hkbr hkr hb0
        exact ⟨by omega, c2⟩
      obtain ⟨rfl, c2⟩ := hkb
      obtain ⟨M, ms, m1, m2, m3, m4⟩ := fCol_nums hok.v (by omega) hk3
      rw [fCol] at m4
      have m5 := List.append_cancel_left m4
      rw [c2] at m5
      clear m4
      have hcap := rSz_cap s a1 0 4096 6 (by decide) (by decide)
      rw [← hO] at hde
      -- the count was read
      have hce : (rSz s a1 0 4096 6).2.2 = 0 := by
        rcases Classical.em ((rSz s a1 0 4096 6).2.2 = 0) with h | h
        · exact h
        · exfalso
          rw [hde, rSz_zero s a1 0 4096 6 h] at hE
          have hfe : (failC (cntC s a1)).e = (rSz s a1 0 4096 6).2.2 := by
            simp only [failC, cntC, fl, ne_eq, not_true, if_false, h, not_false_eq_true, if_true]
          split at hE
          · rw [runC, hfe] at hE; exact h hE
          · rw [lstC, hfe] at hE; exact h hE
      have hci := cnt_inv hce
      rw [hci] at m5
      obtain ⟨d1, m6⟩ := cutN (rng_nat (by omega)) (rng_nat (by omega)) m5
      have hM : (rSz s a1 0 4096 6).1 = M := by omega
      have hca : (cntC s a1).a = (rSz s a1 0 4096 6).2.1 := rfl
      by_cases hk33 : kb = 3
      · subst hk33
        rw [if_pos rfl] at hde m3
        rw [hde] at hE ⊢
        obtain ⟨ns, j1, j2, j3⟩ := runC_inv _ _ hE
        rw [← hca, j3] at m6
        have := cutNs (B := []) j2 m2 (by rw [j1, m3, hM]) (by rw [m6, List.append_nil])
        exact this
      · rw [if_neg hk33] at hde m3
        rw [hde] at hE ⊢
        obtain ⟨ns, j1, j2, j3⟩ := lstC_inv _ _ _ hE
        rw [← hca, j3] at m6
        have := cutNs (B := []) j2 m2 (by rw [j1, m3, hM]) (by rw [m6, List.append_nil])
        exact this
  intro hlt
  have := congrArg List.length key
  simp [bts_length] at this
  omega
end
end Go.Proofs.Sl

namespace Go.Proofs.Sl
section
variable {h : H} {s : ByteArray}
theorem RR_pack (hs : s.size ≤ 10000000000000) {a1 : Nat} (hr : rNum s 0 0 = (4, a1, 0)) : run XP i_sleuthref07_Open [vs s] h = some (finR s (openC s).e (openC s).vals, h) := by
  have hat := fun (a : Nat) (e : Int) (t : H) => rr_at (h := h) (s := s) (a := a) (e := e) (t := t)
  have htk := fun (a : Nat) (e : Int) (t : H) => rr_take (h := h) (s := s) (a := a) (e := e) (t := t)
  have n1 := RR_number (h := h) (t := []) (s := s) (a := 0) (e := 0) hs (Nat.zero_le _)
  have ha1 : a1 ≤ s.size := by have := rNum_le (s := s) (Nat.zero_le _) 0; rw [hr] at this; exact this
  have hO : openC s = pckC s a1 := by rw [openC, hr]; simp only [decC]; rw [if_neg (by decide), if_neg (by decide), if_neg (by decide)]
  rw [hr] at n1
  simp only at n1
  have hbox : h ++ [.box false [vs s, vi 0, vi 0]] = rr h s 0 0 [] := rfl
  obtain ⟨v, a', pk, hv, hv0⟩ := RR_packed (h := h) (t := []) hs ha1
  obtain ⟨hok, hvl, -⟩ := pckC_ok ha1
  rw [← hO] at pk hv0 hok hvl
  generalize openC s = F at *
  rw [run_eq, xp_sleuthref07_Open]
  unfold finR
  by_cases he : F.e = 0
  · have hv1 := hv0 he
    subst hv1
    rw [he] at pk
    rw [he, if_neg (by simp)]
    have hrd := rr_rd (h := h) (s := s) a' 0 F.vals
    have hsh := ref_shortest hrd hok.v (by omega)
    by_cases ho : F.vals = []
    · rw [ho] at pk hsh ⊢
      rw [show gv (h.length + 1) (il []) = vnil from by simp [gv, il], show gt 1 (il []) = [] from by simp [gt, il]] at hsh
      rw [show wcl [] = vnil from rfl] at pk
      by_cases hb : (bestP [] 4).1 = bts s
      · have hb' : ((bestP [] 4).1 == bts s) = true := by simp [hb]
        rw [if_neg (by simpa using hb)]
        simp -implicitDefEqProofs [x_sleuthref07_Open, noOwn, addParts, putRow, hbox, n1, hat, pk, hsh, htk, neq_txs, hb', lstO, lv, tx_plain]
      · have hb' : ((bestP [] 4).1 == bts s) = false := by simpa using hb
        rw [if_pos hb]
        simp -implicitDefEqProofs [x_sleuthref07_Open, noOwn, addParts, putRow, hbox, n1, hat, pk, hsh, htk, neq_txs, hb', tx_plain]
    · have hil : il F.vals ≠ [] := by simpa [il] using ho
      have hg : gv (h.length + 1) (il F.vals) = .ref (h.length + 1) F.vals.length := by rw [gv, if_neg hil, il_length]
      rw [hg] at hsh
      rw [wcl_own ho] at pk
      have hgg : rr h s a' 0 [] ++ [.arr false 1 (il F.vals)] = rr h s a' 0 (gt 1 (il F.vals)) := by rw [rr_gt]; simp [gt, hil]
      have hrl : (rr h s a' 0 []).length = h.length + 1 := rr_length
      have hgt : (rr h s a' 0 (gt 1 (il F.vals)))[h.length + 1]? = some (.arr false 1 (il F.vals)) := by
        rw [rr_gt, List.getElem?_append_right (by rw [rr_length]; exact Nat.le_refl _), rr_length]
        simp [gt, hil]
      by_cases hb : (bestP F.vals 4).1 = bts s
      · have hb' : ((bestP F.vals 4).1 == bts s) = true := by simp [hb]
        rw [if_neg (by simpa using hb)]
        simp -implicitDefEqProofs [x_sleuthref07_Open, noOwn, addParts, putRow, hbox, n1, hat, pk, hgg, hrl, il_length, hsh, htk, neq_txs, hb', lstO, lv, tx_plain, hgt, closeds_il, ho]
      · have hb' : ((bestP F.vals 4).1 == bts s) = false := by simpa using hb
        rw [if_pos hb]
        simp -implicitDefEqProofs [x_sleuthref07_Open, noOwn, addParts, putRow, hbox, n1, hat, pk, hgg, hrl, il_length, hsh, htk, neq_txs, hb', tx_plain]
  · have he' : (F.e != 0) = true := by simpa using he
    rw [if_pos he]
    rcases hv with rfl | ⟨l, rfl⟩
    · simp -implicitDefEqProofs [x_sleuthref07_Open, noOwn, addParts, putRow, hbox, n1, hat, pk, he', htk]
    · have hat2 : ∀ X : O, (rr h s a' F.e [] ++ [X])[h.length]? = some (.box false [vs s, vi a', vi F.e]) := fun X => by
        have : rr h s a' F.e [] ++ [X] = rr h s a' F.e [X] := by simp [rr]
        rw [this]
        exact hat _ _ _
      have htk2 : ∀ X : O, (rr h s a' F.e [] ++ [X]).take h.length = h := fun X => by
        have : rr h s a' F.e [] ++ [X] = rr h s a' F.e [X] := by simp [rr]
        rw [this]
        exact htk _ _ _
      simp -implicitDefEqProofs [x_sleuthref07_Open, noOwn, addParts, putRow, hbox, n1, hat, pk, he', hat2, htk2]
theorem RR_bad (hs : s.size ≤ 10000000000000) (hK : kindE s ≠ 0) : run XP i_sleuthref07_Open [vs s] h = some (.tup [vnil, vi (kindE s)], h) := by
  have hat := fun (a : Nat) (e : Int) (t : H) => rr_at (h := h) (s := s) (a := a) (e := e) (t := t)
  have htk := fun (a : Nat) (e : Int) (t : H) => rr_take (h := h) (s := s) (a := a) (e := e) (t := t)
  have n1 := RR_number (h := h) (t := []) (s := s) (a := 0) (e := 0) hs (Nat.zero_le _)
  have hle := rNum_le (s := s) (Nat.zero_le _) 0
  have hbox : h ++ [.box false [vs s, vi 0, vi 0]] = rr h s 0 0 [] := rfl
  by_cases hx : (rNum s 0 0).2.2 = 0
  · have hE : kindE s = 12 ∧ ((rNum s 0 0).1 < 1 ∨ 4 < (rNum s 0 0).1) := by
      unfold kindE fl at hK ⊢
      rw [hx] at hK ⊢
      simp only [ne_eq, not_true, if_false] at hK ⊢
      split at hK
      · rename_i h1
        rw [if_pos h1]
        simp at h1
        exact ⟨rfl, h1⟩
      · exact absurd rfl hK
    rw [hE.1]
    generalize rNum s 0 0 = r at *
    obtain ⟨kind, a1, x⟩ := r
    simp only at n1 hx hE
    subst hx
    rw [run_eq, xp_sleuthref07_Open]
    rcases hE.2 with h1 | h1
    · simp -implicitDefEqProofs [x_sleuthref07_Open, noOwn, addParts, putRow, hbox, n1, hat, h1, htk]
    · have h2 : ¬ kind < 1 := by omega
      simp -implicitDefEqProofs [x_sleuthref07_Open, noOwn, addParts, putRow, hbox, n1, hat, h1, h2, htk]
  · have hE : kindE s = (rNum s 0 0).2.2 := by
      unfold kindE fl
      rw [if_neg (by simp), if_pos hx]
    have hR : rNum s 0 0 = (0, 0, (rNum s 0 0).2.2) := by
      by_cases hz : (rn s 0).2.2 = 0
      · have hR : rNum s 0 0 = rn s 0 := by
          unfold rNum
          rw [if_neg (by simp), if_neg (by simpa using hz)]
          exact Prod.ext rfl (Prod.ext rfl hz.symm)
        rw [hR] at hx
        exact absurd hz hx
      · have : rNum s 0 0 = (0, 0, (rn s 0).2.2) := by
          unfold rNum
          rw [if_neg (by simp), if_pos hz]
        rw [this]
    rw [hE]
    rw [hR] at n1
    generalize (rNum s 0 0).2.2 = x at *
    have hc := RR_count (h := h) (t := []) (s := s) (a := 0) (e := x) hs (Nat.zero_le _) 4096 6 (by decide)
    rw [cntE_ne hx, if_neg hx, rNum_ne hx] at hc
    have hx1 : (x == 0) = false := by simpa using hx
    have hx2 : (x != 0) = true := by simpa using hx
    simp only at n1 hc
    rw [run_eq, xp_sleuthref07_Open]
    simp -implicitDefEqProofs [x_sleuthref07_Open, noOwn, addParts, putRow, hbox, n1, hat, hx1, hc]
    rw [loopW_cps]
    simp -implicitDefEqProofs [x_sleuthref07_Open_l1, hat, hx1, hx2, htk]
theorem RR_Open (hs : s.size ≤ 10000000000000) : run XP i_sleuthref07_Open [vs s] h = some (if kindE s ≠ 0 then .tup [vnil, vi (kindE s)] else finR s (openC s).e (openC s).vals, h) := by
  by_cases E1 : kindE s = 0
  · rw [if_neg (by simpa using E1)]
    have hK := E1
    unfold kindE at hK
    obtain ⟨-, k1, g⟩ := fl_zero hK (by decide)
    simp only [Bool.or_eq_false_iff, decide_eq_false_iff_not] at g
    obtain ⟨g1, g2⟩ := g
    have hr : rNum s 0 0 = ((rNum s 0 0).1, (rNum s 0 0).2.1, 0) := Prod.ext rfl (Prod.ext rfl k1)
    have hkk : (rNum s 0 0).1 = 1 ∨ (rNum s 0 0).1 = 2 ∨ (rNum s 0 0).1 = 3 ∨ (rNum s 0 0).1 = 4 := by omega
    rcases hkk with h1 | h1 | h1 | h1 <;> rw [h1] at hr
    · exact RR_kind hs (k := 1) (.inl rfl) hr
    · exact RR_kind hs (k := 2) (.inr (.inl rfl)) hr
    · exact RR_kind hs (k := 3) (.inr (.inr rfl)) hr
    · exact RR_pack hs hr
  · rw [if_pos E1]
    exact RR_bad hs E1
theorem col_Values {o : Option (List V)} {vs : List Int} (ho : o.getD [] = il vs) (hn : vs.length ≤ 10000) : ∃ r p, run XP i_column_Column_Values [colV o vs] h = some (r, h) ∧ res0 r = lv 1 p ∧ p.getD [] = il vs := by
  have hv : Rd h 1 (lv 1 o) (il vs) := by rw [← ho]; exact Rd.lv _ _ _
  obtain ⟨r, p, hcl, hr0, hp⟩ := run_clone hv hn
  have hr1 : retV h.length h .v (lv 1 p) [] = some (lv 1 p, []) := plain_retV (lv_plain 1 p) _ _ _
  refine ⟨lv 1 p, p, ?_, by simp, hp⟩
  rw [run_eq, xp_column_Column_Values]
  simp -implicitDefEqProofs [x_column_Column_Values, colV_def, hcl, hr0]
end
theorem opens_law {s : ByteArray} : run XP i_sleuthlaw07_ColumnOpens [vs s] [] = some (vb true, []) := by
  have hkn := known7_ok []
  rw [run_eq, xp_sleuthlaw07_ColumnOpens]
  by_cases h200 : 200 < (s.size : Int)
  · simp -implicitDefEqProofs [x_sleuthlaw07_ColumnOpens, hkn, h200]
  have hs : s.size ≤ 10000000000000 := by omega
  have e1 := C_Open [] hs
  have e2 := RR_Open (h := []) hs
  by_cases E1 : kindE s = 0
  · have hop := open_left hs E1
    have ha1 : (rNum s 0 0).2.1 ≤ s.size := rNum_le (Nat.zero_le _) 0
    obtain ⟨hok, hvl, -⟩ := decC_ok ha1 (rNum s 0 0).1
    rw [show decC s (rNum s 0 0).1 (rNum s 0 0).2.1 = openC s from rfl] at hok hvl
    rw [openV, if_neg (by simpa using E1)] at e1
    rw [if_neg (by simpa using E1)] at e2
    unfold finR at e2
    generalize openC s = F at *
    by_cases E2 : F.e = 0
    · rw [if_neg (by simpa using E2)] at e1 e2
      by_cases E3 : (bestP F.vals 4).1 = bts s
      · have hl := hop E2 E3
        rw [if_neg (by simp [hl, E3])] at e1
        rw [if_neg (by simpa using E3)] at e2
        obtain ⟨r, p, e3, e4, e5⟩ := col_Values (h := []) (lstO_get F.vals) (by omega)
        have hv1 : Rd [] 1 (lv 1 p) (il F.vals) := by rw [← e5]; exact Rd.lv _ _ _
        have hv2 : Rd [] 1 (lv 1 (lstO F.vals)) (il F.vals) := by rw [← lstO_get]; exact Rd.lv _ _ _
        have e6 := ref_same hv1 hv2 (by omega)
        have e7 := col_Encode [] (o := lstO F.vals) F.vals
        have hb : ((bestP F.vals 4).1 == bts s) = true := by simp [E3]
        simp -implicitDefEqProofs [x_sleuthlaw07_ColumnOpens, hkn, h200, e1, e2, col_nilPtr, col_res0, col_arg0, e3, e4, e6, e7, eql_txs, hb, tx_plain]
      · rw [if_pos (.inr E3)] at e1
        rw [if_pos E3] at e2
        simp -implicitDefEqProofs [x_sleuthlaw07_ColumnOpens, hkn, h200, e1, e2]
    · rw [if_pos E2] at e1 e2
      have hx1 : (F.e == 0) = false := by simpa using E2
      have hx2 : (F.e != F.e) = false := by simp
      simp -implicitDefEqProofs [x_sleuthlaw07_ColumnOpens, hkn, h200, e1, e2, hx1, hx2]
  · rw [openV, if_pos E1] at e1
    rw [if_pos E1] at e2
    have hx1 : (kindE s == 0) = false := by simpa using E1
    simp -implicitDefEqProofs [x_sleuthlaw07_ColumnOpens, hkn, h200, e1, e2, hx1]
end Go.Proofs.Sl

