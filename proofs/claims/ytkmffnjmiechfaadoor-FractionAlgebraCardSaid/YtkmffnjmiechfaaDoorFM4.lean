/- The fraction seat: texts of fractions, in plain Lean. -/
import Derived.Test.YtkmffnjmiechfaaDoorFW1
import Derived.Lib.ParseIntBTie
namespace Go.Proofs.YtkmffnjmiechfaaDoor
open Go.Sx
theorem digit_nat {d : Nat} (h : d < 10) : (UInt8.ofNat (48 + d)).toNat = 48 + d := by
  rw [UInt8.toNat_ofNat']
  exact Nat.mod_eq_of_lt (by omega)
theorem dec_digits : ∀ (u : Nat), ∀ c ∈ Lib.decDigits u, 48 ≤ c.toNat ∧ c.toNat ≤ 57 := by
  intro u
  induction u using Nat.strongRecOn with
  | _ u ih =>
    intro c hc
    rw [Lib.decDigits] at hc
    by_cases h : u < 10
    · rw [dif_pos h] at hc
      simp only [List.mem_singleton] at hc
      subst hc
      rw [digit_nat h]
      omega
    · rw [dif_neg h, List.mem_append] at hc
      rcases hc with hc | hc
      · exact ih (u / 10) (by omega) c hc
      · simp only [List.mem_singleton] at hc
        subst hc
        rw [digit_nat (Nat.mod_lt _ (by omega))]
        omega
theorem parse_append : ∀ (l : List UInt8) (acc : Nat) (c : UInt8) (a : Nat), Lib.parseUint10 acc l = .ok a → Lib.parseUint10 acc (l ++ [c]) = Lib.parseUint10 a [c]
  | [], acc, c, a, h => by
    simp only [Lib.parseUint10] at h
    cases h
    rfl
  | x :: l, acc, c, a, h => by
    rw [List.cons_append, Lib.parseUint10]
    rw [Lib.parseUint10] at h
    split at h
    · rename_i h1
      rw [if_pos h1]
      split at h
      · cases h
      · rename_i h2
        rw [if_neg h2]
        split at h
        · cases h
        · rename_i h3
          rw [if_neg h3]
          exact parse_append l _ c a h
    · cases h
theorem dec_parse : ∀ (u : Nat), u < 18446744073709551616 → Lib.parseUint10 0 (Lib.decDigits u) = .ok u := by
  intro u
  induction u using Nat.strongRecOn with
  | _ u ih =>
    intro hu
    rw [Lib.decDigits]
    by_cases h : u < 10
    · rw [dif_pos h]
      simp only [Lib.parseUint10]
      rw [digit_nat h, if_pos (by omega), if_neg (by omega), if_neg (by omega)]
      congr 1
      omega
    · rw [dif_neg h, parse_append _ 0 _ (u / 10) (ih (u / 10) (by omega) (by omega))]
      simp only [Lib.parseUint10]
      rw [digit_nat (Nat.mod_lt u (by omega)), if_pos (by omega), if_neg (by omega), if_neg (by omega)]
      congr 1
      omega
theorem dec_cons (u : Nat) : ∃ c r, Lib.decDigits u = c :: r := by
  cases h : Lib.decDigits u with
  | cons c r => exact ⟨c, r, rfl⟩
  | nil =>
    have := Lib.decDigits_length u
    rw [h] at this
    have := Lib.nDigits_pos u
    simp at *
    omega
theorem dec_mag (u : Nat) (hu : u < 18446744073709551616) : Lib.parseMag (Lib.decDigits u) = .ok u := by
  unfold Lib.parseMag
  obtain ⟨c, r, h⟩ := dec_cons u
  rw [if_neg (by rw [h]; exact List.cons_ne_nil _ _), dec_parse u hu]
theorem pInt_itoa {n : Int} (h0 : -9223372036854775808 ≤ n) (h1 : n ≤ 9223372036854775807) : pInt (Lib.itoa n) = (n, true) := by
  unfold pInt
  rw [Lib.parseIntB_64]
  have key : Lib.atoiAll (Lib.itoa n) = .ok n := by
    by_cases hn : n < 0
    · have e : Lib.itoa n = 45 :: Lib.decDigits n.natAbs := by unfold Lib.itoa; rw [if_pos hn]
      rw [e]
      simp only [Lib.atoiAll]
      rw [if_pos (by decide), dec_mag _ (by omega)]
      have e45 : (45 : UInt8).toNat = 45 := rfl
      simp only [e45]
      rw [if_neg (by simp), if_neg (by omega)]
      simp
      omega
    · have e : Lib.itoa n = Lib.decDigits n.toNat := by unfold Lib.itoa; rw [if_neg hn]
      obtain ⟨c, r, h⟩ := dec_cons n.toNat
      have hc := dec_digits n.toNat c (by rw [h]; exact List.mem_cons_self ..)
      have hm := dec_mag n.toNat (by omega)
      rw [e, h]
      rw [h] at hm
      simp only [Lib.atoiAll]
      rw [if_neg (by omega), hm]
      have e45 : ¬ c.toNat = 45 := by omega
      simp only [e45]
      rw [if_neg (by omega), if_neg (by simp)]
      simp
      omega
  rw [key]
theorem itoa_no {n : Int} : ∀ c ∈ Lib.itoa n, c ≠ 47 := by
  intro c hc h
  subst h
  unfold Lib.itoa at hc
  split at hc
  · rcases List.mem_cons.1 hc with h | h
    · exact absurd h (by decide)
    · exact absurd (dec_digits _ _ h) (by decide)
  · exact absurd (dec_digits _ _ hc) (by decide)
theorem index_hit : ∀ (a b : List UInt8), (∀ c ∈ a, c ≠ 47) → Lib.index (a ++ 47 :: b) [47] = a.length
  | [], b, _ => by simp [Lib.index]
  | x :: a, b, h => by
    have hx : x ≠ 47 := h x (List.mem_cons_self ..)
    have ih := index_hit a b fun c hc => h c (List.mem_cons_of_mem _ hc)
    rw [List.cons_append, Lib.index]
    have e : List.isPrefixOf [47] (x :: (a ++ 47 :: b)) = false := by
      simp [List.isPrefixOf, hx.symm]
    rw [e, ih]
    have : ((a.length : Int) == -1) = false := by rw [beq_eq_false_iff_ne]; omega
    simp [this]
theorem index_miss : ∀ (a : List UInt8), (∀ c ∈ a, c ≠ 47) → Lib.index a [47] = -1
  | [], _ => rfl
  | x :: a, h => by
    have hx : x ≠ 47 := h x (List.mem_cons_self ..)
    have ih := index_miss a fun c hc => h c (List.mem_cons_of_mem _ hc)
    rw [Lib.index]
    have e : List.isPrefixOf [47] (x :: a) = false := by
      simp [List.isPrefixOf, hx.symm]
    rw [e, ih]
    rfl
/-- A fraction's text as a list. -/
def tl (n d : Int) : List UInt8 := if d = 1 then Lib.itoa n else Lib.itoa n ++ 47 :: Lib.itoa d
theorem txt_list (n d : Int) : (txt n d).data.toList = tl n d := by
  unfold txt tl fmtI
  split
  · simp
  · simp [ByteArray.data_append]
theorem tl_cut (n d : Int) : Lib.cut (tl n d) [47] = if d = 1 then (Lib.itoa n, [], false) else (Lib.itoa n, Lib.itoa d, true) := by
  unfold tl Lib.cut
  by_cases h : d = 1
  · rw [if_pos h, if_pos h, index_miss _ itoa_no]
    rfl
  · rw [if_neg h, if_neg h, index_hit _ _ itoa_no]
    rw [if_pos (by omega)]
    simp
theorem ba_eq {a b : ByteArray} (h : a.data.toList = b.data.toList) : a = b := by
  cases a; cases b
  congr 1
  exact Array.toList_inj.1 h
theorem ba_beq (a b : ByteArray) : (a.toList == b.toList) = true ↔ a = b := by
  rw [ByteArray.toList_eq, ByteArray.toList_eq, beq_iff_eq]
  exact ⟨ba_eq, fun h => h ▸ rfl⟩
theorem txt_inj {n d n' d' : Int} (h : vF n d = true) (h' : vF n' d' = true) (e : txt n d = txt n' d') : n = n' ∧ d = d' := by
  rw [vF_iff] at h h'
  have c : Lib.cut (tl n d) [47] = Lib.cut (tl n' d') [47] := by rw [← txt_list, ← txt_list, e]
  rw [tl_cut, tl_cut] at c
  have pn := pInt_itoa (n := n) (by omega) (by omega)
  have pn' := pInt_itoa (n := n') (by omega) (by omega)
  have pd := pInt_itoa (n := d) (by omega) (by omega)
  have pd' := pInt_itoa (n := d') (by omega) (by omega)
  by_cases h1 : d = 1 <;> by_cases h2 : d' = 1
  · rw [if_pos h1, if_pos h2] at c
    have c1 : Lib.itoa n = Lib.itoa n' := (Prod.mk.inj c).1
    rw [c1, pn'] at pn
    exact ⟨((Prod.mk.inj pn).1).symm, by omega⟩
  · rw [if_pos h1, if_neg h2] at c
    have := (Prod.mk.inj (Prod.mk.inj c).2).2
    cases this
  · rw [if_neg h1, if_pos h2] at c
    have := (Prod.mk.inj (Prod.mk.inj c).2).2
    cases this
  · rw [if_neg h1, if_neg h2] at c
    have c1 : Lib.itoa n = Lib.itoa n' := (Prod.mk.inj c).1
    have c2 : Lib.itoa d = Lib.itoa d' := (Prod.mk.inj (Prod.mk.inj c).2).1
    rw [c1, pn'] at pn
    rw [c2, pd'] at pd
    exact ⟨((Prod.mk.inj pn).1).symm, ((Prod.mk.inj pd).1).symm⟩
theorem par_yes {n d : Int} {s : ByteArray} (h : vF n d = true) (e : txt n d = s) : parN s = n ∧ parD s = d ∧ parE s = 0 := by
  have hx : ∃ q : Int × Int, vF q.1 q.2 = true ∧ txt q.1 q.2 = s := ⟨(n, d), h, e⟩
  have hc := hx.choose_spec
  have hj := txt_inj hc.1 h (hc.2.trans e.symm)
  have hq : parQ s = (hx.choose.1, hx.choose.2, 0) := dif_pos hx
  unfold parN parD parE
  rw [hq]
  exact ⟨hj.1, hj.2, rfl⟩
theorem par_no {s : ByteArray} (h : ¬ ∃ q : Int × Int, vF q.1 q.2 = true ∧ txt q.1 q.2 = s) : parN s = 0 ∧ parD s = 0 ∧ parE s = 2 := by
  have hq : parQ s = (0, 0, 2) := dif_neg h
  unfold parN parD parE
  rw [hq]
  exact ⟨rfl, rfl, rfl⟩
end Go.Proofs.YtkmffnjmiechfaaDoor
