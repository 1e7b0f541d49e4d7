/- The fraction seat: the examples. -/
import Derived.Test.YtkmffnjmiechfaaDoorFW4
import Derived.Test.YtkmffnjmiechfaaDoorFF10
import Derived.Test.YtkmffnjmiechfaaDoorFF11
import Derived.Test.YtkmffnjmiechfaaDoorFF14
namespace Go.Proofs.YtkmffnjmiechfaaDoor
open Go.Sx
set_option linter.unusedVariables false
set_option linter.unusedSimpArgs false
set_option maxRecDepth 100000


theorem dec_small {u : Nat} (h : u < 10) : Lib.decDigits u = [UInt8.ofNat (48 + u)] := by rw [Lib.decDigits, dif_pos h]
theorem txt_32 : txt (-3) 2 = ⟨#[45, 51, 47, 50]⟩ := by
  apply ba_eq
  rw [txt_list]
  show tl (-3) 2 = [45, 51, 47, 50]
  unfold tl Lib.itoa
  rw [if_neg (by decide), if_pos (by decide), if_neg (by decide), show (-3 : Int).natAbs = 3 from rfl, show (2 : Int).toNat = 2 from rfl, dec_small (by decide), dec_small (by decide)]
  rfl
theorem par_24 : parE ⟨#[50, 47, 52]⟩ = 2 := by
  refine (par_no ?_).2.2
  rintro ⟨⟨n, d⟩, hv, ht⟩
  have hv' := hv
  simp only [vF_iff] at hv'
  have ec : tl n d = [50, 47, 52] := by rw [← txt_list, show txt n d = _ from ht]
  have c : Lib.cut (tl n d) [47] = ([50], [52], true) := by rw [ec]; rfl
  rw [tl_cut] at c
  have pn := pInt_itoa (n := n) (by omega) (by omega)
  have pd := pInt_itoa (n := d) (by omega) (by omega)
  by_cases h1 : d = 1
  · rw [if_pos h1] at c
    have := (Prod.mk.inj (Prod.mk.inj c).2).2
    cases this
  · rw [if_neg h1] at c
    rw [(Prod.mk.inj c).1] at pn
    rw [(Prod.mk.inj (Prod.mk.inj c).2).1] at pd
    have en : n = 2 := (Prod.mk.inj pn).1.symm
    have ed : d = 4 := (Prod.mk.inj pd).1.symm
    subst en ed
    have : gI 2 4 = 1 := hv'.2.2
    exact absurd this (by decide)

theorem t16  (Q : List Sc → Prop) : (fnT (cfgOf Tryd.prog sigs [21, 42, 11, 14, 25, 33, 37, 35, 29, 30] [39, 74, 83, 84] noLoop) 16 Tryd.f16 (bodyOf Tryd.f16) ⟨[], [sb], none, none, none⟩ 100).holds Φ [] (resQ Φ Q) =
  (cond (NewP 6 (-4))
  (cond (ParP (⟨#[50, 47, 52]⟩ : ByteArray))
  (cond (cmpI .eql (New2 6 (-4)) 0)
   (cond ((cmpI .eql (New0 6 (-4)) (off0 (-3) 2)) && (cmpI .eql (New1 6 (-4)) (off1 (-3) 2)))
    (cond (cmpI .eql (Flo0 (New0 6 (-4)) (New1 6 (-4))) (-2))
     (cond (cmpI .eql (Rou0 (New0 6 (-4)) (New1 6 (-4))) (-2))
      (cond (cmpI .eql (Rou0 (off0 5 2) (off1 5 2)) 3)
       (cond (cmpI .eql (Add2 (off0 1 3) (off1 1 3) (off0 1 6) (off1 1 6)) 0)
        (cond ((cmpI .eql (Add0 (off0 1 3) (off1 1 3) (off0 1 6) (off1 1 6)) (off0 1 2)) && (cmpI .eql (Add1 (off0 1 3) (off1 1 3) (off0 1 6) (off1 1 6)) (off1 1 2)))
         (cond (cmpI .eql (Div2 (off0 1 3) (off1 1 3) (off0 2 3) (off1 2 3)) 0)
          (cond ((cmpI .eql (Div0 (off0 1 3) (off1 1 3) (off0 2 3) (off1 2 3)) (off0 1 2)) && (cmpI .eql (Div1 (off0 1 3) (off1 1 3) (off0 2 3) (off1 2 3)) (off1 1 2)))
           (cond (cmpI .eql (Pow2 (off0 2 3) (off1 2 3) 3) 0)
            (cond ((cmpI .eql (Pow0 (off0 2 3) (off1 2 3) 3) (off0 8 27)) && (cmpI .eql (Pow1 (off0 2 3) (off1 2 3) 3) (off1 8 27)))
             (cond (cmpI .eql (Sim2 (off0 3 10) (off1 3 10) (off0 2 5) (off1 2 5)) 0)
              (cond ((cmpI .eql (Sim0 (off0 3 10) (off1 3 10) (off0 2 5) (off1 2 5)) (off0 1 3)) && (cmpI .eql (Sim1 (off0 3 10) (off1 3 10) (off0 2 5) (off1 2 5)) (off1 1 3)))
               (cond (cmpI .eql (Sim2 (off0 (-7) 2) (off1 (-7) 2) (off0 (-3) 2) (off1 (-3) 2)) 0)
                (cond ((cmpI .eql (Sim0 (off0 (-7) 2) (off1 (-7) 2) (off0 (-3) 2) (off1 (-3) 2)) (off0 (-2) 1)) && (cmpI .eql (Sim1 (off0 (-7) 2) (off1 (-7) 2) (off0 (-3) 2) (off1 (-3) 2)) (off1 (-2) 1)))
                 (cond (cmpI .eql (Txt1 (off0 (-3) 2) (off1 (-3) 2)) 0)
                  (cond ((Txt0 (off0 (-3) 2) (off1 (-3) 2)).toList == (⟨#[45, 51, 47, 50]⟩ : ByteArray).toList)
                   (Q [.bool (cmpI .eql (Par2 (⟨#[50, 47, 52]⟩ : ByteArray)) 2)])
                   (Q [.bool false]))
                  (Q [.bool false]))
                 (Q [.bool false]))
                (Q [.bool false]))
               (Q [.bool false]))
              (Q [.bool false]))
             (Q [.bool false]))
            (Q [.bool false]))
           (Q [.bool false]))
          (Q [.bool false]))
         (Q [.bool false]))
        (Q [.bool false]))
       (Q [.bool false]))
      (Q [.bool false]))
     (Q [.bool false]))
    (Q [.bool false]))
   (Q [.bool false]))
  False)
  False) := by kernel_rfl
theorem c16 : CT Tryd.prog sigs Φ 16 :=
  ct_of [21, 42, 11, 14, 25, 33, 37, 35, 29, 30] [39, 74, 83, 84] noLoop 100 mixed rfl Tryd.func16 (by kernel_rfl) (forall_cons c21 (forall_cons c42 (forall_cons c11 (forall_cons c14 (forall_cons c25 (forall_cons c33 (forall_cons c37 (forall_cons c35 (forall_cons c29 (forall_cons c30 forall_nil)))))))))) fun l0 hl0 hp => by

    cases canon_nil hl0
    clear hl0
    show T.holds _ _ _ (resQ Φ fun rs => rs = [.bool awk0])
    rw [t16]
    rw [show (NewP 6 (-4)) = true from by kernel_rfl]
    rw [show (ParP (⟨#[50, 47, 52]⟩ : ByteArray)) = true from by kernel_rfl]
    rw [show (cmpI .eql (New2 6 (-4)) 0) = true from by kernel_rfl]
    rw [show ((cmpI .eql (New0 6 (-4)) (off0 (-3) 2)) && (cmpI .eql (New1 6 (-4)) (off1 (-3) 2))) = true from by kernel_rfl]
    rw [show (cmpI .eql (Flo0 (New0 6 (-4)) (New1 6 (-4))) (-2)) = true from by kernel_rfl]
    rw [show (cmpI .eql (Rou0 (New0 6 (-4)) (New1 6 (-4))) (-2)) = true from by kernel_rfl]
    rw [show (cmpI .eql (Rou0 (off0 5 2) (off1 5 2)) 3) = true from by kernel_rfl]
    rw [show (cmpI .eql (Add2 (off0 1 3) (off1 1 3) (off0 1 6) (off1 1 6)) 0) = true from by kernel_rfl]
    rw [show ((cmpI .eql (Add0 (off0 1 3) (off1 1 3) (off0 1 6) (off1 1 6)) (off0 1 2)) && (cmpI .eql (Add1 (off0 1 3) (off1 1 3) (off0 1 6) (off1 1 6)) (off1 1 2))) = true from by kernel_rfl]
    rw [show (cmpI .eql (Div2 (off0 1 3) (off1 1 3) (off0 2 3) (off1 2 3)) 0) = true from by kernel_rfl]
    rw [show ((cmpI .eql (Div0 (off0 1 3) (off1 1 3) (off0 2 3) (off1 2 3)) (off0 1 2)) && (cmpI .eql (Div1 (off0 1 3) (off1 1 3) (off0 2 3) (off1 2 3)) (off1 1 2))) = true from by kernel_rfl]
    rw [show (cmpI .eql (Pow2 (off0 2 3) (off1 2 3) 3) 0) = true from by kernel_rfl]
    rw [show ((cmpI .eql (Pow0 (off0 2 3) (off1 2 3) 3) (off0 8 27)) && (cmpI .eql (Pow1 (off0 2 3) (off1 2 3) 3) (off1 8 27))) = true from by kernel_rfl]
    rw [show (cmpI .eql (Sim2 (off0 3 10) (off1 3 10) (off0 2 5) (off1 2 5)) 0) = true from by kernel_rfl]
    rw [show ((cmpI .eql (Sim0 (off0 3 10) (off1 3 10) (off0 2 5) (off1 2 5)) (off0 1 3)) && (cmpI .eql (Sim1 (off0 3 10) (off1 3 10) (off0 2 5) (off1 2 5)) (off1 1 3))) = true from by kernel_rfl]
    rw [show (cmpI .eql (Sim2 (off0 (-7) 2) (off1 (-7) 2) (off0 (-3) 2) (off1 (-3) 2)) 0) = true from by kernel_rfl]
    rw [show ((cmpI .eql (Sim0 (off0 (-7) 2) (off1 (-7) 2) (off0 (-3) 2) (off1 (-3) 2)) (off0 (-2) 1)) && (cmpI .eql (Sim1 (off0 (-7) 2) (off1 (-7) 2) (off0 (-3) 2) (off1 (-3) 2)) (off1 (-2) 1))) = true from by kernel_rfl]
    rw [show (cmpI .eql (Txt1 (off0 (-3) 2) (off1 (-3) 2)) 0) = true from by kernel_rfl]
    rw [show ((Txt0 (off0 (-3) 2) (off1 (-3) 2)).toList == (⟨#[45, 51, 47, 50]⟩ : ByteArray).toList) = true from by rw [show Txt0 (off0 (-3) 2) (off1 (-3) 2) = ⟨#[45, 51, 47, 50]⟩ from (show (if vF (-3) 2 = true then txt (-3) 2 else ⟨#[]⟩) = _ by rw [if_pos (by kernel_rfl)]; exact txt_32)]; exact beq_self_eq_true _]
    show [Sc.bool (decide (parE ⟨#[50, 47, 52]⟩ = 2))] = _
    rw [par_24]
    rfl

end Go.Proofs.YtkmffnjmiechfaaDoor
