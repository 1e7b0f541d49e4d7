/- The codec seat: plain law: Decode and First of an encoding. -/
import Derived.Test.YtcmphojichgfeaaDoorCP6
namespace Go.Proofs.YtcmphojichgfeaaDoor.QC
open Go.RowKit Go.Proofs.YtcmphojichgfeaaDoorW.PrintWords Go.Proofs.YtcmphojichgfeaaDoorW.PrintLast Go.Proofs.YtcmphojichgfeaaDoorW.PrintMore
set_option linter.unusedVariables false
set_option linter.unusedSimpArgs false
theorem cb_refl : ∀ l : List UInt8, Lib.compareBytes l l = 0
  | [] => rfl
  | a :: l => by
    have h : ¬ a < a := by rw [UInt8.lt_iff_toNat_lt]; omega
    rw [Lib.compareBytes, if_neg h, if_neg h, cb_refl l]
theorem ci_refl (x : Int) : Lib.compareInt x x = 0 := by unfold Lib.compareInt; rw [if_neg (by omega), if_neg (by omega)]
mutual
theorem cmp_refl : ∀ x : S32, cmpS x x = 0
  | ⟨a, b, c, l⟩ => by rw [cmpS, ci_refl, ci_refl, cb_refl, cmpL_refl l]; rfl
theorem cmpL_refl : ∀ l : List S32, cmpL l l = 0
  | [] => rfl
  | x :: l => by rw [cmpL, cmp_refl x, cmpL_refl l]; rfl
end
theorem equal_refl (x : S32) : codec_Equal.f x.f0 x.f1 x.f2 x.f3 x.f0 x.f1 x.f2 x.f3 = some true := by
  have h : cmpV x.f0 x.f1 x.f2 x.f3 x.f0 x.f1 x.f2 x.f3 = 0 := cmp_refl _
  rw [codec_Equal.f, codec_Compare.f, h]
  rfl
/-- Bytes as numbers. -/
def byB (L : List Int) : Prop := ∀ n ∈ L, 0 ≤ n ∧ n ≤ 255
theorem cnt_by (n : Nat) : byB (cnt n) := by
  induction n using Nat.strongRecOn with
  | _ n ih =>
    intro m hm
    rw [cnt] at hm
    by_cases h : n < 128
    · rw [dif_pos h] at hm
      simp at hm
      omega
    · rw [dif_neg h] at hm
      rcases List.mem_cons.1 hm with rfl | hm
      · omega
      · exact ih (n / 128) (by omega) m hm
theorem ints_by (c : ByteArray) : byB (ints c) := by
  intro m hm
  obtain ⟨b, _, rfl⟩ := List.mem_map.1 hm
  have := b.toNat_lt
  omega
theorem byB_cons {a : Int} {L : List Int} (ha : 0 ≤ a ∧ a ≤ 255) (h : byB L) : byB (a :: L) := by
  intro m hm
  rcases List.mem_cons.1 hm with rfl | hm
  · exact ha
  · exact h m hm
theorem byB_app {A B : List Int} (ha : byB A) (hb : byB B) : byB (A ++ B) := by
  intro m hm
  rcases List.mem_append.1 hm with hm | hm
  · exact ha m hm
  · exact hb m hm
mutual
theorem enc_by : ∀ x : S32, byB (encV x)
  | ⟨a, b, c, l⟩ => by
    rw [encV]
    split
    · exact byB_cons (by omega) (cnt_by _)
    · split
      · exact byB_cons (by omega) (byB_app (cnt_by _) (ints_by _))
      · exact byB_cons (by omega) (byB_app (cnt_by _) (encL_by l))
theorem encL_by : ∀ l : List S32, byB (encL l)
  | [] => fun _ h => by cases h
  | x :: l => by rw [encL]; exact byB_app (enc_by x) (encL_by l)
end
theorem son_size (L : List Int) : (strOfNums L).size = L.length := by simp [strOfNums, ByteArray.size]
/-- A string that begins with these bytes. -/
theorem at_pre {L : List Int} (hL : byB L) (rest : ByteArray) : At (strOfNums L ++ rest) 0 L := by
  intro j hj
  have h1 : 0 + j < (strOfNums L ++ rest).size := by rw [ByteArray.size_append, son_size]; omega
  refine ⟨h1, ?_⟩
  have hr := hL L[j] (List.getElem_mem hj)
  unfold byteAt
  rw [ByteArray.data_append, Array.toList_append, Nat.zero_add, List.getD_eq_getElem?_getD, List.getElem?_append_left (by simpa [strOfNums] using hj)]
  simp only [strOfNums, List.getElem?_map, List.getElem?_eq_getElem hj, Option.map_some, Option.getD_some]
  rw [UInt8.toNat_ofNat', Nat.mod_eq_of_lt (by omega)]
  omega
theorem at_self {L : List Int} (hL : byB L) : At (strOfNums L) 0 L := by
  have := at_pre hL ⟨#[]⟩
  have e : strOfNums L ++ (⟨#[]⟩ : ByteArray) = strOfNums L := by
    apply ByteArray.ext
    rw [ByteArray.data_append]
    simp
  rwa [e] at this
theorem son_of_at {s : ByteArray} {L : List Int} (h : At s 0 L) (hl : s.size = L.length) : strOfNums L = s := by
  apply ByteArray.ext
  apply Array.toList_inj.1
  apply List.ext_getElem?
  intro j
  by_cases hj : j < L.length
  · obtain ⟨h1, h2⟩ := h j hj
    rw [Nat.zero_add] at h2
    rw [byteAt_get s j (by omega)] at h2
    rw [List.getElem?_eq_getElem (l := s.data.toList) (by simpa using (show j < s.size by omega))]
    simp only [strOfNums, List.getElem?_map, List.getElem?_eq_getElem hj, Option.map_some]
    rw [← h2, Int.toNat_natCast]
    congr 1
    exact UInt8.ofNat_toNat
  · rw [List.getElem?_eq_none (by simp [strOfNums]; omega), List.getElem?_eq_none (by simp; omega)]
/-- The beginning of a string, told by its bytes. -/
theorem at_of_ext {s t : ByteArray} {L : List Int} (h : At s 0 L) (hl : s.size = L.length) (he : (t.extract 0 s.size).toList = s.toList) (hle : s.size ≤ t.size) : At t 0 L := by
  rw [ByteArray.toList_eq, ByteArray.toList_eq, ByteArray.data_extract, Array.toList_extract, List.extract_eq_take_drop] at he
  intro j hj
  obtain ⟨h1, h2⟩ := h j hj
  refine ⟨by omega, ?_⟩
  rw [← h2]
  unfold byteAt
  rw [← he]
  simp only [Nat.zero_add, List.getD_eq_getElem?_getD, Nat.sub_zero, List.drop_zero]
  rw [List.getElem?_take_of_lt (by omega)]
theorem chk_ok {x : S32} (h : chk x = 0) : posV x = true ∧ dep x ≤ 16 := by
  unfold chk at h
  by_cases hp : posV x = true
  · rw [if_pos hp] at h
    refine ⟨hp, ?_⟩
    by_cases hd : 16 < dep x
    · rw [if_pos hd] at h; omega
    · omega
  · rw [if_neg hp] at h; omega
theorem chk_zero {x : S32} (hp : posV x = true) (hd : dep x ≤ 16) : chk x = 0 := by
  unfold chk
  rw [if_pos hp, if_neg (by omega)]
theorem encS_size (x : S32) : (encS x).size = (encV x).length := son_size _
/-- First of what begins with an encoding. -/
theorem first_enc {x : S32} (hc : chk x = 0) (hr : rngV x) {s : ByteArray} (hs : s.size ≤ 1000000) (hA : At s 0 (encV x)) : codec_First.f s = some (x.f0, x.f1, x.f2, x.f3, ((encV x).length : Int), 0) := by
  obtain ⟨hp, hd⟩ := chk_ok hc
  have h := valRd s _ x (Nat.le_refl _) hp hr 16 0 hd hA
  rw [codec_First.f, firstV_some (by omega) h, Nat.zero_add]
theorem decode_enc {x : S32} (hc : chk x = 0) (hr : rngV x) (hl : (encV x).length ≤ 1000000) : codec_Decode.f (encS x) = some (x.f0, x.f1, x.f2, x.f3, 0) := by
  rw [codec_Decode.f, first_enc (s := encS x) hc hr (by rw [encS_size]; exact hl) (at_self (enc_by x))]
  simp only [Option.bind_some, if_true]
  rw [if_pos (by rw [encS_size])]
/-- Decode of whatever. -/
theorem decode_any (s : ByteArray) (hs : s.size ≤ 1000000) : (codec_Decode.f s = some (0, 0, ⟨#[]⟩, [], 2)) ∨ ∃ x : S32, codec_Decode.f s = some (x.f0, x.f1, x.f2, x.f3, 0) ∧ chk x = 0 ∧ encS x = s := by
  rw [codec_Decode.f, codec_First.f]
  cases h : rdV s 17 0 with
  | none =>
    rw [firstV_none (by omega) h]
    exact .inl (by simp)
  | some p =>
    obtain ⟨x, j⟩ := p
    obtain ⟨h1, h2, h3, h4, h5⟩ := rdVal s hs 16 0 x j h
    rw [firstV_some (by omega) h]
    simp only [Option.bind_some, if_true]
    by_cases hj : (j : Int) = (s.size : Int)
    · rw [if_pos hj]
      exact .inr ⟨x, rfl, chk_zero h1 h2, son_of_at h4 (by omega)⟩
    · rw [if_neg hj]
      exact .inl rfl
end Go.Proofs.YtcmphojichgfeaaDoor.QC
