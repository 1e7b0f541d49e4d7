/- The codec seat: plain law: the reference's First and Decode, and values handed to its side. -/
import Derived.Test.YtcmphojichgfeaaDoorCP8
namespace Go.Proofs.YtcmphojichgfeaaDoor.QC
open Go.RowKit Go.Proofs.YtcmphojichgfeaaDoorW.PrintWords Go.Proofs.YtcmphojichgfeaaDoorW.PrintLast Go.Proofs.YtcmphojichgfeaaDoorW.PrintMore
set_option linter.unusedVariables false
set_option linter.unusedSimpArgs false
theorem refFirst_none {s : ByteArray} (hs : s.size ≤ 1000000) (h : rdV s 17 0 = none) : Ev (fun k => gangsawref02_First.f k s) (0, 0, ⟨#[]⟩, [], 0, 2) := by
  have hr := readE s hs 16 0 (by omega) (by omega)
  rw [h] at hr
  simp only [gangsawref02_First.f, if_neg (show ¬ (s.size : Int) > 1000000 by omega)]
  refine Ev.bind hr ?_
  simp only [rdR, Bool.false_eq_true, if_false]
  exact Ev.some
theorem refFirst_some {s : ByteArray} (hs : s.size ≤ 1000000) {x : S32} {j : Nat} (h : rdV s 17 0 = some (x, j)) : Ev (fun k => gangsawref02_First.f k s) (x.f0, x.f1, x.f2, toRL x.f3, (j : Int), 0) := by
  have hr := readE s hs 16 0 (by omega) (by omega)
  rw [h] at hr
  simp only [gangsawref02_First.f, if_neg (show ¬ (s.size : Int) > 1000000 by omega)]
  refine Ev.bind hr ?_
  simp only [rdR, okR, if_true]
  exact Ev.some
mutual
theorem nodes_enc : ∀ x : S32, posV x = true → nodes (toR x) ≤ (encV x).length
  | ⟨a, b, c, l⟩, h => by
    rw [toR, nodes, encV]
    by_cases h1 : a = 1
    · subst h1
      obtain ⟨_, rfl⟩ := posV_one h
      rw [if_pos rfl, toRL, nodesL, List.length_cons]
      omega
    · by_cases h2 : a = 2
      · subst h2
        obtain ⟨_, rfl⟩ := posV_two h
        rw [if_neg (by decide), if_pos rfl, toRL, nodesL, List.length_cons]
        omega
      · obtain ⟨_, _, _, hp⟩ := posV_three h h1 h2
        have := nodesL_enc l hp
        rw [if_neg h1, if_neg h2, List.length_cons, List.length_append]
        omega
theorem nodesL_enc : ∀ l : List S32, posL l = true → nodesL (toRL l) ≤ (encL l).length
  | [], _ => Nat.le_refl _
  | x :: l, h => by
    rw [posL, Bool.and_eq_true] at h
    have := nodes_enc x h.1
    have := nodesL_enc l h.2
    rw [toRL, nodesL, encL, List.length_append]
    omega
end
theorem toRL_get : ∀ (l : List S32) (i : Nat) (h : i < l.length), toR l[i] ∈ toRL l
  | [], i, h => by simp at h
  | x :: l, 0, h => by simp [toRL]
  | x :: l, i + 1, h => by
    simp only [toRL, List.getElem_cons_succ]
    exact List.mem_cons_of_mem _ (toRL_get l i (by simpa using h))
theorem mineE : ∀ (N : Nat) (x : S32), SizeOf.sizeOf x ≤ N → nodes (toR x) ≤ 1000000 → Ev (fun k => gangsawlaw02_mine.f k x.f0 x.f1 x.f2 x.f3) (x.f0, x.f1, x.f2, toRL x.f3)
  | 0, x, h, _ => absurd h (by cases x; simp only [S32.mk.sizeOf_spec]; omega)
  | N + 1, ⟨a, b, c, l⟩, h, hn => by
    rw [toR, nodes] at hn
    have hll := nodesL_len (toRL l)
    rw [toRL_len] at hll
    have loop : ∀ (m i : Nat) (acc : List S24), i + m = l.length → acc.length = i → Ev (fun k => gangsawlaw02_mine.l0 k (i : Int) a b c l a b c acc) (a, b, c, acc ++ toRL (l.drop i)) := by
      intro m
      induction m with
      | zero =>
        intro i acc hi ha
        refine Ev.succ' ?_
        simp only [gangsawlaw02_mine.l0, if_neg (show ¬ (i : Int) < (l.length : Int) by omega)]
        rw [List.drop_eq_nil_of_le (by omega), toRL, List.append_nil]
        exact Ev.some
      | succ m ih =>
        intro i acc hi ha
        have hlt : i < l.length := by omega
        have h1 := mineE N l[i] (by have := size_mem32 (List.getElem_mem hlt) a b c; omega) (by have := nodesL_mem (toRL_get l i hlt); omega)
        have h2 := ih (i + 1) (acc ++ [toR l[i]]) (by omega) (by simp [ha])
        rw [List.drop_eq_getElem_cons hlt, toRL]
        rw [List.append_assoc, List.singleton_append] at h2
        refine Ev.succ' ?_
        simp only [gangsawlaw02_mine.l0, if_pos (show (i : Int) < (l.length : Int) by omega), if_pos (show (0 : Int) ≤ (i : Int) by omega), rd32 l i hlt, w64s i (by omega), if_pos (show acc.length < 2513169434916 by omega)]
        refine Ev.bind h1 ?_
        simp only [show (⟨l[i].f0, l[i].f1, l[i].f2, toRL l[i].f3⟩ : S24) = toR l[i] by cases l[i]; rw [toR]]
        exact h2
    have hL := loop l.length 0 [] (by omega) rfl
    refine Ev.succ' ?_
    simp only [gangsawlaw02_mine.f]
    exact hL
theorem toR_eta (x : S32) : (⟨x.f0, x.f1, x.f2, toRL x.f3⟩ : S24) = toR x := by cases x; rw [toR]
/-- A value that was handed over is the reference's. -/
theorem mine_cmp (x : S32) (hn : nodes (toR x) ≤ 1000000) : Ev (fun k => gangsawref02_Compare.f k x.f0 x.f1 x.f2 (toRL x.f3) x.f0 x.f1 x.f2 (toRL x.f3)) 0 := by
  have h := compareE (toR x) (toR x) hn
  rw [← toR_eta] at h
  have e : cmpS (toY ⟨x.f0, x.f1, x.f2, toRL x.f3⟩) (toY ⟨x.f0, x.f1, x.f2, toRL x.f3⟩) = 0 := cmp_refl _
  rw [e] at h
  exact h
abbrev zS : S32 := ⟨0, 0, ⟨#[]⟩, []⟩
theorem zS_nodes : nodes (toR zS) ≤ 1000000 := by decide
end Go.Proofs.YtcmphojichgfeaaDoor.QC
