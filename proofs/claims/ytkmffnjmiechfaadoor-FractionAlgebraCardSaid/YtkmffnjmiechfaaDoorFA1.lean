/- The fraction seat: the law of the algebra, case by case. -/
import Derived.Test.YtkmffnjmiechfaaDoorFA0
namespace Go.Proofs.YtkmffnjmiechfaaDoor
open Go.Sx
set_option maxRecDepth 100000
theorem t4_0000000 (an ad bn bd cn cd : Int) (Q : List Sc → Prop) : (fnTF (cfgOf Tryd.prog sigs [11, 13, 12, 14, 16] [39, 74, 83, 84] noLoop) 4 Tryd.f4 (bodyOf Tryd.f4) ⟨[(iv 2), (iv 2), (iv 2)], [sb], none, none, none⟩ 100 (facts4 false false false false false false false)).holds Φ [.int an, .int ad, .int bn, .int bd, .int cn, .int cd] (resQ Φ Q) = Q [.bool true] := by kernel_rfl
theorem t4_0001000 (an ad bn bd cn cd : Int) (Q : List Sc → Prop) : (fnTF (cfgOf Tryd.prog sigs [11, 13, 12, 14, 16] [39, 74, 83, 84] noLoop) 4 Tryd.f4 (bodyOf Tryd.f4) ⟨[(iv 2), (iv 2), (iv 2)], [sb], none, none, none⟩ 100 (facts4 false false false true false false false)).holds Φ [.int an, .int ad, .int bn, .int bd, .int cn, .int cd] (resQ Φ Q) = Q [.bool true] := by kernel_rfl
theorem t4_0100000 (an ad bn bd cn cd : Int) (Q : List Sc → Prop) : (fnTF (cfgOf Tryd.prog sigs [11, 13, 12, 14, 16] [39, 74, 83, 84] noLoop) 4 Tryd.f4 (bodyOf Tryd.f4) ⟨[(iv 2), (iv 2), (iv 2)], [sb], none, none, none⟩ 100 (facts4 false true false false false false false)).holds Φ [.int an, .int ad, .int bn, .int bd, .int cn, .int cd] (resQ Φ Q) = Q [.bool true] := by kernel_rfl
theorem t4_0101000 (an ad bn bd cn cd : Int) (Q : List Sc → Prop) : (fnTF (cfgOf Tryd.prog sigs [11, 13, 12, 14, 16] [39, 74, 83, 84] noLoop) 4 Tryd.f4 (bodyOf Tryd.f4) ⟨[(iv 2), (iv 2), (iv 2)], [sb], none, none, none⟩ 100 (facts4 false true false true false false false)).holds Φ [.int an, .int ad, .int bn, .int bd, .int cn, .int cd] (resQ Φ Q) = Q [.bool true] := by kernel_rfl
theorem t4_0101100 (an ad bn bd cn cd : Int) (Q : List Sc → Prop) : (fnTF (cfgOf Tryd.prog sigs [11, 13, 12, 14, 16] [39, 74, 83, 84] noLoop) 4 Tryd.f4 (bodyOf Tryd.f4) ⟨[(iv 2), (iv 2), (iv 2)], [sb], none, none, none⟩ 100 (facts4 false true false true true false false)).holds Φ [.int an, .int ad, .int bn, .int bd, .int cn, .int cd] (resQ Φ Q) = Q [.bool true] := by kernel_rfl
theorem t4_0101110 (an ad bn bd cn cd : Int) (Q : List Sc → Prop) : (fnTF (cfgOf Tryd.prog sigs [11, 13, 12, 14, 16] [39, 74, 83, 84] noLoop) 4 Tryd.f4 (bodyOf Tryd.f4) ⟨[(iv 2), (iv 2), (iv 2)], [sb], none, none, none⟩ 100 (facts4 false true false true true true false)).holds Φ [.int an, .int ad, .int bn, .int bd, .int cn, .int cd] (resQ Φ Q) = Q [.bool true] := by kernel_rfl
theorem t4_0101111 (an ad bn bd cn cd : Int) (Q : List Sc → Prop) : (fnTF (cfgOf Tryd.prog sigs [11, 13, 12, 14, 16] [39, 74, 83, 84] noLoop) 4 Tryd.f4 (bodyOf Tryd.f4) ⟨[(iv 2), (iv 2), (iv 2)], [sb], none, none, none⟩ 100 (facts4 false true false true true true true)).holds Φ [.int an, .int ad, .int bn, .int bd, .int cn, .int cd] (resQ Φ Q) = Q [.bool true] := by kernel_rfl
theorem t4_0110000 (an ad bn bd cn cd : Int) (Q : List Sc → Prop) : (fnTF (cfgOf Tryd.prog sigs [11, 13, 12, 14, 16] [39, 74, 83, 84] noLoop) 4 Tryd.f4 (bodyOf Tryd.f4) ⟨[(iv 2), (iv 2), (iv 2)], [sb], none, none, none⟩ 100 (facts4 false true true false false false false)).holds Φ [.int an, .int ad, .int bn, .int bd, .int cn, .int cd] (resQ Φ Q) = Q [.bool true] := by kernel_rfl
theorem t4_0111000 (an ad bn bd cn cd : Int) (Q : List Sc → Prop) : (fnTF (cfgOf Tryd.prog sigs [11, 13, 12, 14, 16] [39, 74, 83, 84] noLoop) 4 Tryd.f4 (bodyOf Tryd.f4) ⟨[(iv 2), (iv 2), (iv 2)], [sb], none, none, none⟩ 100 (facts4 false true true true false false false)).holds Φ [.int an, .int ad, .int bn, .int bd, .int cn, .int cd] (resQ Φ Q) = Q [.bool true] := by kernel_rfl
theorem t4_0111100 (an ad bn bd cn cd : Int) (Q : List Sc → Prop) : (fnTF (cfgOf Tryd.prog sigs [11, 13, 12, 14, 16] [39, 74, 83, 84] noLoop) 4 Tryd.f4 (bodyOf Tryd.f4) ⟨[(iv 2), (iv 2), (iv 2)], [sb], none, none, none⟩ 100 (facts4 false true true true true false false)).holds Φ [.int an, .int ad, .int bn, .int bd, .int cn, .int cd] (resQ Φ Q) = Q [.bool true] := by kernel_rfl
theorem t4_0111110 (an ad bn bd cn cd : Int) (Q : List Sc → Prop) : (fnTF (cfgOf Tryd.prog sigs [11, 13, 12, 14, 16] [39, 74, 83, 84] noLoop) 4 Tryd.f4 (bodyOf Tryd.f4) ⟨[(iv 2), (iv 2), (iv 2)], [sb], none, none, none⟩ 100 (facts4 false true true true true true false)).holds Φ [.int an, .int ad, .int bn, .int bd, .int cn, .int cd] (resQ Φ Q) = Q [.bool true] := by kernel_rfl
theorem t4_0111111 (an ad bn bd cn cd : Int) (Q : List Sc → Prop) : (fnTF (cfgOf Tryd.prog sigs [11, 13, 12, 14, 16] [39, 74, 83, 84] noLoop) 4 Tryd.f4 (bodyOf Tryd.f4) ⟨[(iv 2), (iv 2), (iv 2)], [sb], none, none, none⟩ 100 (facts4 false true true true true true true)).holds Φ [.int an, .int ad, .int bn, .int bd, .int cn, .int cd] (resQ Φ Q) = Q [.bool true] := by kernel_rfl
theorem t4_1000000 (an ad bn bd cn cd : Int) (Q : List Sc → Prop) : (fnTF (cfgOf Tryd.prog sigs [11, 13, 12, 14, 16] [39, 74, 83, 84] noLoop) 4 Tryd.f4 (bodyOf Tryd.f4) ⟨[(iv 2), (iv 2), (iv 2)], [sb], none, none, none⟩ 100 (facts4 true false false false false false false)).holds Φ [.int an, .int ad, .int bn, .int bd, .int cn, .int cd] (resQ Φ Q) = Q [.bool true] := by kernel_rfl
theorem t4_1001000 (an ad bn bd cn cd : Int) (Q : List Sc → Prop) : (fnTF (cfgOf Tryd.prog sigs [11, 13, 12, 14, 16] [39, 74, 83, 84] noLoop) 4 Tryd.f4 (bodyOf Tryd.f4) ⟨[(iv 2), (iv 2), (iv 2)], [sb], none, none, none⟩ 100 (facts4 true false false true false false false)).holds Φ [.int an, .int ad, .int bn, .int bd, .int cn, .int cd] (resQ Φ Q) = Q [.bool true] := by kernel_rfl
theorem t4_1100000 (an ad bn bd cn cd : Int) (Q : List Sc → Prop) : (fnTF (cfgOf Tryd.prog sigs [11, 13, 12, 14, 16] [39, 74, 83, 84] noLoop) 4 Tryd.f4 (bodyOf Tryd.f4) ⟨[(iv 2), (iv 2), (iv 2)], [sb], none, none, none⟩ 100 (facts4 true true false false false false false)).holds Φ [.int an, .int ad, .int bn, .int bd, .int cn, .int cd] (resQ Φ Q) = Q [.bool true] := by kernel_rfl
theorem t4_1101000 (an ad bn bd cn cd : Int) (Q : List Sc → Prop) : (fnTF (cfgOf Tryd.prog sigs [11, 13, 12, 14, 16] [39, 74, 83, 84] noLoop) 4 Tryd.f4 (bodyOf Tryd.f4) ⟨[(iv 2), (iv 2), (iv 2)], [sb], none, none, none⟩ 100 (facts4 true true false true false false false)).holds Φ [.int an, .int ad, .int bn, .int bd, .int cn, .int cd] (resQ Φ Q) = Q [.bool true] := by kernel_rfl
theorem t4_1101100 (an ad bn bd cn cd : Int) (Q : List Sc → Prop) : (fnTF (cfgOf Tryd.prog sigs [11, 13, 12, 14, 16] [39, 74, 83, 84] noLoop) 4 Tryd.f4 (bodyOf Tryd.f4) ⟨[(iv 2), (iv 2), (iv 2)], [sb], none, none, none⟩ 100 (facts4 true true false true true false false)).holds Φ [.int an, .int ad, .int bn, .int bd, .int cn, .int cd] (resQ Φ Q) = Q [.bool true] := by kernel_rfl
theorem t4_1101110 (an ad bn bd cn cd : Int) (Q : List Sc → Prop) : (fnTF (cfgOf Tryd.prog sigs [11, 13, 12, 14, 16] [39, 74, 83, 84] noLoop) 4 Tryd.f4 (bodyOf Tryd.f4) ⟨[(iv 2), (iv 2), (iv 2)], [sb], none, none, none⟩ 100 (facts4 true true false true true true false)).holds Φ [.int an, .int ad, .int bn, .int bd, .int cn, .int cd] (resQ Φ Q) = Q [.bool true] := by kernel_rfl
theorem t4_1101111 (an ad bn bd cn cd : Int) (Q : List Sc → Prop) : (fnTF (cfgOf Tryd.prog sigs [11, 13, 12, 14, 16] [39, 74, 83, 84] noLoop) 4 Tryd.f4 (bodyOf Tryd.f4) ⟨[(iv 2), (iv 2), (iv 2)], [sb], none, none, none⟩ 100 (facts4 true true false true true true true)).holds Φ [.int an, .int ad, .int bn, .int bd, .int cn, .int cd] (resQ Φ Q) = Q [.bool true] := by kernel_rfl
theorem t4_1110000 (an ad bn bd cn cd : Int) (Q : List Sc → Prop) : (fnTF (cfgOf Tryd.prog sigs [11, 13, 12, 14, 16] [39, 74, 83, 84] noLoop) 4 Tryd.f4 (bodyOf Tryd.f4) ⟨[(iv 2), (iv 2), (iv 2)], [sb], none, none, none⟩ 100 (facts4 true true true false false false false)).holds Φ [.int an, .int ad, .int bn, .int bd, .int cn, .int cd] (resQ Φ Q) = Q [.bool true] := by kernel_rfl
theorem t4_1111000 (an ad bn bd cn cd : Int) (Q : List Sc → Prop) : (fnTF (cfgOf Tryd.prog sigs [11, 13, 12, 14, 16] [39, 74, 83, 84] noLoop) 4 Tryd.f4 (bodyOf Tryd.f4) ⟨[(iv 2), (iv 2), (iv 2)], [sb], none, none, none⟩ 100 (facts4 true true true true false false false)).holds Φ [.int an, .int ad, .int bn, .int bd, .int cn, .int cd] (resQ Φ Q) = Q [.bool true] := by kernel_rfl
theorem t4_1111100 (an ad bn bd cn cd : Int) (Q : List Sc → Prop) : (fnTF (cfgOf Tryd.prog sigs [11, 13, 12, 14, 16] [39, 74, 83, 84] noLoop) 4 Tryd.f4 (bodyOf Tryd.f4) ⟨[(iv 2), (iv 2), (iv 2)], [sb], none, none, none⟩ 100 (facts4 true true true true true false false)).holds Φ [.int an, .int ad, .int bn, .int bd, .int cn, .int cd] (resQ Φ Q) = Q [.bool true] := by kernel_rfl
theorem t4_1111110 (an ad bn bd cn cd : Int) (Q : List Sc → Prop) : (fnTF (cfgOf Tryd.prog sigs [11, 13, 12, 14, 16] [39, 74, 83, 84] noLoop) 4 Tryd.f4 (bodyOf Tryd.f4) ⟨[(iv 2), (iv 2), (iv 2)], [sb], none, none, none⟩ 100 (facts4 true true true true true true false)).holds Φ [.int an, .int ad, .int bn, .int bd, .int cn, .int cd] (resQ Φ Q) = Q [.bool true] := by kernel_rfl
theorem t4_1111111 (an ad bn bd cn cd : Int) (Q : List Sc → Prop) : (fnTF (cfgOf Tryd.prog sigs [11, 13, 12, 14, 16] [39, 74, 83, 84] noLoop) 4 Tryd.f4 (bodyOf Tryd.f4) ⟨[(iv 2), (iv 2), (iv 2)], [sb], none, none, none⟩ 100 (facts4 true true true true true true true)).holds Φ [.int an, .int ad, .int bn, .int bd, .int cn, .int cd] (resQ Φ Q) = Q [.bool true] := by kernel_rfl
theorem t4 (b1 b3 bz c1 c2 c3 c4 : Bool) (hz : b3 = false → bz = false) (h2 : (b3 && c1) = false → c2 = false) (h3 : c2 = false → c3 = false) (h4 : c3 = false → c4 = false) (an ad bn bd cn cd : Int) (Q : List Sc → Prop) : (fnTF (cfgOf Tryd.prog sigs [11, 13, 12, 14, 16] [39, 74, 83, 84] noLoop) 4 Tryd.f4 (bodyOf Tryd.f4) ⟨[(iv 2), (iv 2), (iv 2)], [sb], none, none, none⟩ 100 (facts4 b1 b3 bz c1 c2 c3 c4)).holds Φ [.int an, .int ad, .int bn, .int bd, .int cn, .int cd] (resQ Φ Q) = Q [.bool true] := by
  cases b3 with
  | false =>
    obtain rfl := hz rfl
    obtain rfl := h2 rfl
    obtain rfl := h3 rfl
    obtain rfl := h4 rfl
    cases b1 with
    | false => cases c1 with
      | false => exact t4_0000000 ..
      | true => exact t4_0001000 ..
    | true => cases c1 with
      | false => exact t4_1000000 ..
      | true => exact t4_1001000 ..
  | true =>
    cases b1 with
    | false =>
      cases c1 with
      | false =>
        obtain rfl := h2 rfl
        obtain rfl := h3 rfl
        obtain rfl := h4 rfl
        cases bz with
        | false => exact t4_0100000 ..
        | true => exact t4_0110000 ..
      | true => cases c2 with
        | false =>
          obtain rfl := h3 rfl
          obtain rfl := h4 rfl
          cases bz with
          | false => exact t4_0101000 ..
          | true => exact t4_0111000 ..
        | true => cases c3 with
          | false =>
            obtain rfl := h4 rfl
            cases bz with
            | false => exact t4_0101100 ..
            | true => exact t4_0111100 ..
          | true => cases c4 with
            | false =>
              cases bz with
              | false => exact t4_0101110 ..
              | true => exact t4_0111110 ..
            | true =>
              cases bz with
              | false => exact t4_0101111 ..
              | true => exact t4_0111111 ..
    | true =>
      cases c1 with
      | false =>
        obtain rfl := h2 rfl
        obtain rfl := h3 rfl
        obtain rfl := h4 rfl
        cases bz with
        | false => exact t4_1100000 ..
        | true => exact t4_1110000 ..
      | true => cases c2 with
        | false =>
          obtain rfl := h3 rfl
          obtain rfl := h4 rfl
          cases bz with
          | false => exact t4_1101000 ..
          | true => exact t4_1111000 ..
        | true => cases c3 with
          | false =>
            obtain rfl := h4 rfl
            cases bz with
            | false => exact t4_1101100 ..
            | true => exact t4_1111100 ..
          | true => cases c4 with
            | false =>
              cases bz with
              | false => exact t4_1101110 ..
              | true => exact t4_1111110 ..
            | true =>
              cases bz with
              | false => exact t4_1101111 ..
              | true => exact t4_1111111 ..
end Go.Proofs.YtkmffnjmiechfaaDoor
