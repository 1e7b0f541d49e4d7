/- The codec seat: what the program's functions compute, in plain Lean. -/
import Derived.Test.YtcmphojichgfeaaDoorCT
import Derived.Test.YtcmphojichgfeaaDoorCLib
namespace Go.Proofs.YtcmphojichgfeaaDoor.QC
open Go.RowKit
set_option linter.unusedVariables false
/-! ### Possible values -/
mutual
def posV : S32 → Bool
  | ⟨a, b, c, l⟩ => if a = 1 then (decide (c.toList = []) && decide (l.length = 0)) else if a = 2 then (decide (b = 0) && decide (l.length = 0)) else if a = 3 then (decide (b = 0) && (decide (c.toList = []) && posL l)) else false
def posL : List S32 → Bool
  | [] => true
  | x :: l => posV x && posL l
end
def pos (a b : Int) (c : ByteArray) (l : List S32) : Bool := posV ⟨a, b, c, l⟩
/-! ### The encoding -/
def cnt (n : Nat) : List Int := if h : n < 128 then [(n : Int)] else ((n % 128 + 128 : Nat) : Int) :: cnt (n / 128)
termination_by n
decreasing_by omega
def zigI (n : Int) : Int := Go.bits .xor .u64 (IntKind.u64.wrap ((IntKind.u64.wrap (n)) * 2)) (IntKind.u64.wrap (n / 9223372036854775808))
def zig (n : Int) : Nat := (zigI n).toNat
def ints (c : ByteArray) : List Int := c.data.toList.map fun b => (b.toNat : Int)
mutual
def encV : S32 → List Int
  | ⟨a, b, c, l⟩ => if a = 1 then 110 :: cnt (zig b) else if a = 2 then 116 :: (cnt c.size ++ ints c) else 108 :: (cnt l.length ++ encL l)
def encL : List S32 → List Int
  | [] => []
  | x :: l => encV x ++ encL l
end
def enc (a b : Int) (c : ByteArray) (l : List S32) : List Int := encV ⟨a, b, c, l⟩
/-! ### The order -/
def orI (a b : Int) : Int := if a = 0 then b else a
mutual
def cmpS : S32 → S32 → Int
  | ⟨a, b, c, l⟩, ⟨a', b', c', l'⟩ => orI (Lib.compareInt a a') (orI (Lib.compareInt b b') (orI (Lib.compareBytes c.data.toList c'.data.toList) (cmpL l l')))
def cmpL : List S32 → List S32 → Int
  | [], [] => 0
  | [], _ :: _ => -1
  | _ :: _, [] => 1
  | x :: l, y :: l' => orI (cmpS x y) (cmpL l l')
end
def cmpV (a b : Int) (c : ByteArray) (l : List S32) (a' b' : Int) (c' : ByteArray) (l' : List S32) : Int := cmpS ⟨a, b, c, l⟩ ⟨a', b', c', l'⟩
/-! ### Reading -/
def byteAt (s : ByteArray) (i : Nat) : Nat := (s.data.toList.getD i 0).toNat
/-- A count at an offset: rounds left, shift, what is read so far. -/
def rdC (s : ByteArray) : Nat → Nat → Nat → Nat → Option (Nat × Nat)
  | 0, _, _, _ => none
  | r + 1, sh, n, i =>
    if i < s.size then
      if (sh = 63 ∧ 1 < byteAt s i) ∨ (0 < sh ∧ byteAt s i = 0) then none
      else if byteAt s i < 128 then some (n + byteAt s i * 2 ^ sh, i + 1) else rdC s r (sh + 7) (n + (byteAt s i % 128) * 2 ^ sh) (i + 1)
    else none
def cntAt (s : ByteArray) (i : Nat) : Option (Nat × Nat) := rdC s 10 0 0 i
def unz (n : Nat) : Int := if n % 2 = 0 then ((n / 2 : Nat) : Int) else -((n / 2 : Nat) : Int) - 1
def rdL (f : Nat → Option (S32 × Nat)) : Nat → Nat → Option (List S32 × Nat)
  | 0, i => some ([], i)
  | n + 1, i => (f i).bind fun x => (rdL f n x.2).bind fun y => some (x.1 :: y.1, y.2)
def rdV (s : ByteArray) : Nat → Nat → Option (S32 × Nat)
  | 0, _ => none
  | d + 1, i =>
    if i < s.size then
      if byteAt s i = 110 then (cntAt s (i + 1)).bind fun c => some (⟨1, unz c.1, ⟨#[]⟩, []⟩, c.2)
      else if byteAt s i = 116 then (cntAt s (i + 1)).bind fun c => if c.1 ≤ s.size - c.2 then some (⟨2, 0, s.extract c.2 (c.2 + c.1), []⟩, c.2 + c.1) else none
      else if byteAt s i = 108 then (cntAt s (i + 1)).bind fun c => if d = 0 then none else if c.1 ≤ s.size - c.2 then (rdL (rdV s d) c.1 c.2).bind fun y => some (⟨3, 0, ⟨#[]⟩, y.1⟩, y.2) else none
      else none
    else none
def firstV (s : ByteArray) : Int × Int × ByteArray × (List S32) × Int × Int :=
  if 1000000 < s.size then (0, 0, ⟨#[]⟩, [], 0, 7) else match rdV s 17 0 with
    | some (⟨a, b, c, l⟩, i) => (a, b, c, l, (i : Int), 0)
    | none => (0, 0, ⟨#[]⟩, [], 0, 2)
/-! ### The digest -/
def dstep (h : Nat) (b : UInt8) : Nat := ((((h * 128 + h / 144115188075855872) % 18446744073709551616) ^^^ b.toNat) * 18397679294719823053) % 18446744073709551616
def dhash (s : ByteArray) : Nat := s.data.toList.foldl dstep 11400714819323198485
def dfin (h : Nat) : Nat := h ^^^ (h / 4294967296)
def hexD (n : Nat) : UInt8 := if n < 10 then (48 + n).toUInt8 else (87 + n).toUInt8
def hex : Nat → Nat → List UInt8
  | 0, _ => []
  | k + 1, n => hex k (n / 16) ++ [hexD (n % 16)]
def digB (s : ByteArray) : ByteArray := ⟨(hex 16 (dfin (dhash s))).toArray⟩
/-! ### The premise on the world: the laid tables -/
def GG (w : World) : Prop := w.cell? ⟨3, 15, none⟩ = some (.int .u8 4)
theorem GG.mono {w w' : World} (h : GG w) (hb : Below w.heap.size w w') : GG w' := (hb.cell (World.block_lt_of_cell? _ _ h)).trans h
end Go.Proofs.YtcmphojichgfeaaDoor.QC
