/- The fraction seat: what each function answers, in plain Lean. -/
import Derived.Test.YtkmffnjmiechfaaDoorSx16
import Derived.Test.YtkmffnjmiechfaaDoorChecked
import Derived.Test.YtkmffnjmiechfaaDoorFLib
import Derived.Test.YtkmffnjmiechfaaDoorFK1
namespace Go.Proofs.YtkmffnjmiechfaaDoor
open Go.Sx
set_option linter.unusedVariables false
abbrev iv (n : Nat) : Sh := .agg (List.replicate n (.int .i64))
abbrev i1 : Sh := .one (.int .i64)
abbrev sb : Sh := .one .bool
abbrev BD : Int := 1000000000000000000
def uu (n : Int) : Bool := decide (0 ≤ n) && decide (n < 18446744073709551616)
def ii (n : Int) : Bool := decide (-9223372036854775808 ≤ n) && decide (n ≤ 9223372036854775807)
/-- Two words of a number below 2^126. -/
def wu (h l : Int) : Bool := uu l && decide (0 ≤ h) && decide (h < 4611686018427387904)
abbrev mg (h l : Int) : Int := h * 18446744073709551616 + l
def ab (n : Int) : Int := if n < 0 then -n else n
def gI (a b : Int) : Int := ((Nat.gcd a.natAbs b.natAbs : Nat) : Int)
/-- A fraction. -/
def vF (n d : Int) : Bool := decide (1 ≤ d) && decide (d < BD) && decide (-BD < n) && decide (n < BD) && decide (gI n d = 1)
/-- The fraction N / D in lowest terms, or the error. -/
def frOk (N D : Int) : Bool := decide (ab N / gI N D < BD) && decide (D / gI N D < BD)
def frN (N D : Int) : Int := if frOk N D = true then N.tdiv (gI N D) else 0
def frD (N D : Int) : Int := if frOk N D = true then D / gI N D else 0
def frE (N D : Int) : Int := if frOk N D = true then 0 else 6
def cmp3 (a b : Int) : Int := if a < b then -1 else if b < a then 1 else 0
def rp (n d : Int) : Int := (2 * n + d) / (2 * d)
def rnd (n d : Int) : Int := if n < 0 then -rp (-n) d else rp n d
/-- Powers. -/
def pow3 (an ad : Int) : Nat → Int × Int × Int
  | 0 => (1, 1, 0)
  | k + 1 => if (pow3 an ad k).2.2 = 0 then (frN ((pow3 an ad k).1 * an) ((pow3 an ad k).2.1 * ad), frD ((pow3 an ad k).1 * an) ((pow3 an ad k).2.1 * ad), frE ((pow3 an ad k).1 * an) ((pow3 an ad k).2.1 * ad)) else (0, 0, 6)
def powN (an ad : Int) (k : Nat) : Int := (pow3 an ad k).1
def powD (an ad : Int) (k : Nat) : Int := (pow3 an ad k).2.1
def powE (an ad : Int) (k : Nat) : Int := (pow3 an ad k).2.2
/-- The simplest fraction between two positive ones. -/
def simF : Nat → Int → Int → Int → Int → Int × Int
  | 0, _, _, _, _ => (0, 1)
  | k + 1, an, ad, bn, bd => if an % ad = 0 then (an / ad, 1) else if an / ad + 1 ≤ bn / bd then (an / ad + 1, 1) else
    (an / ad * (simF k bd (bn - an / ad * bd) ad (an - an / ad * ad)).1 + (simF k bd (bn - an / ad * bd) ad (an - an / ad * ad)).2, (simF k bd (bn - an / ad * bd) ad (an - an / ad * ad)).1)
def simN (an ad bn bd : Int) : Int := (simF (ad + bd).toNat an ad bn bd).1
def simD (an ad bn bd : Int) : Int := (simF (ad + bd).toNat an ad bn bd).2
def simB (an ad bn bd : Int) : Bool := decide (1 ≤ an) && decide (an < BD) && decide (1 ≤ ad) && decide (ad < BD) && decide (1 ≤ bn) && decide (bn < BD) && decide (1 ≤ bd) && decide (bd < BD) && decide (an * bd ≤ bn * ad)
def fst0 (l : List Int) : Int := firstE l
/-- Texts. -/
def fmtI (n : Int) : ByteArray := ⟨(Lib.itoa n).toArray⟩
def txt (n d : Int) : ByteArray := if d = 1 then fmtI n else fmtI n ++ ((⟨#[47]⟩ : ByteArray) ++ fmtI d)
open Classical in
noncomputable def parQ (s : ByteArray) : Int × Int × Int := if h : ∃ q : Int × Int, vF q.1 q.2 = true ∧ txt q.1 q.2 = s then (h.choose.1, h.choose.2, 0) else (0, 0, 2)
noncomputable def parN (s : ByteArray) : Int := (parQ s).1
noncomputable def parD (s : ByteArray) : Int := (parQ s).2.1
noncomputable def parE (s : ByteArray) : Int := (parQ s).2.2


abbrev Add0 (an : Int) (ad : Int) (bn : Int) (bd : Int) : Int := if (vF an ad && vF bn bd) = true then frN (an * bd + bn * ad) (ad * bd) else 0
abbrev Add1 (an : Int) (ad : Int) (bn : Int) (bd : Int) : Int := if (vF an ad && vF bn bd) = true then frD (an * bd + bn * ad) (ad * bd) else 0
abbrev Add2 (an : Int) (ad : Int) (bn : Int) (bd : Int) : Int := if (vF an ad && vF bn bd) = true then frE (an * bd + bn * ad) (ad * bd) else 1
abbrev Sub0 (an : Int) (ad : Int) (bn : Int) (bd : Int) : Int := if (vF an ad && vF bn bd) = true then frN (an * bd - bn * ad) (ad * bd) else 0
abbrev Sub1 (an : Int) (ad : Int) (bn : Int) (bd : Int) : Int := if (vF an ad && vF bn bd) = true then frD (an * bd - bn * ad) (ad * bd) else 0
abbrev Sub2 (an : Int) (ad : Int) (bn : Int) (bd : Int) : Int := if (vF an ad && vF bn bd) = true then frE (an * bd - bn * ad) (ad * bd) else 1
abbrev Mul0 (an : Int) (ad : Int) (bn : Int) (bd : Int) : Int := if (vF an ad && vF bn bd) = true then frN (an * bn) (ad * bd) else 0
abbrev Mul1 (an : Int) (ad : Int) (bn : Int) (bd : Int) : Int := if (vF an ad && vF bn bd) = true then frD (an * bn) (ad * bd) else 0
abbrev Mul2 (an : Int) (ad : Int) (bn : Int) (bd : Int) : Int := if (vF an ad && vF bn bd) = true then frE (an * bn) (ad * bd) else 1
abbrev Div0 (an : Int) (ad : Int) (bn : Int) (bd : Int) : Int := if (vF an ad && vF bn bd) = true ∧ bn ≠ 0 then frN (if bn < 0 then -(an * bd) else an * bd) (ad * ab bn) else 0
abbrev Div1 (an : Int) (ad : Int) (bn : Int) (bd : Int) : Int := if (vF an ad && vF bn bd) = true ∧ bn ≠ 0 then frD (if bn < 0 then -(an * bd) else an * bd) (ad * ab bn) else 0
abbrev Div2 (an : Int) (ad : Int) (bn : Int) (bd : Int) : Int := if (vF an ad && vF bn bd) = true ∧ bn ≠ 0 then frE (if bn < 0 then -(an * bd) else an * bd) (ad * ab bn) else 1
abbrev two0 (an : Int) (ad : Int) (bn : Int) (bd : Int) : Bool := vF an ad && vF bn bd
abbrev awk0  : Bool := true
abbrev rAdd0 (an : Int) (ad : Int) (bn : Int) (bd : Int) : Int := frN (an * bd + bn * ad) (ad * bd)
abbrev rAdd1 (an : Int) (ad : Int) (bn : Int) (bd : Int) : Int := frD (an * bd + bn * ad) (ad * bd)
abbrev rAdd2 (an : Int) (ad : Int) (bn : Int) (bd : Int) : Int := frE (an * bd + bn * ad) (ad * bd)
def rAddP (an : Int) (ad : Int) (bn : Int) (bd : Int) : Bool := vF an ad && vF bn bd
abbrev rSub0 (an : Int) (ad : Int) (bn : Int) (bd : Int) : Int := frN (an * bd - bn * ad) (ad * bd)
abbrev rSub1 (an : Int) (ad : Int) (bn : Int) (bd : Int) : Int := frD (an * bd - bn * ad) (ad * bd)
abbrev rSub2 (an : Int) (ad : Int) (bn : Int) (bd : Int) : Int := frE (an * bd - bn * ad) (ad * bd)
def rSubP (an : Int) (ad : Int) (bn : Int) (bd : Int) : Bool := vF an ad && vF bn bd
abbrev rMul0 (an : Int) (ad : Int) (bn : Int) (bd : Int) : Int := frN (an * bn) (ad * bd)
abbrev rMul1 (an : Int) (ad : Int) (bn : Int) (bd : Int) : Int := frD (an * bn) (ad * bd)
abbrev rMul2 (an : Int) (ad : Int) (bn : Int) (bd : Int) : Int := frE (an * bn) (ad * bd)
def rMulP (an : Int) (ad : Int) (bn : Int) (bd : Int) : Bool := vF an ad && vF bn bd
abbrev rDiv0 (an : Int) (ad : Int) (bn : Int) (bd : Int) : Int := frN (if bn < 0 then -(an * bd) else an * bd) (ad * ab bn)
abbrev rDiv1 (an : Int) (ad : Int) (bn : Int) (bd : Int) : Int := frD (if bn < 0 then -(an * bd) else an * bd) (ad * ab bn)
abbrev rDiv2 (an : Int) (ad : Int) (bn : Int) (bd : Int) : Int := frE (if bn < 0 then -(an * bd) else an * bd) (ad * ab bn)
def rDivP (an : Int) (ad : Int) (bn : Int) (bd : Int) : Bool := vF an ad && vF bn bd && decide (bn ≠ 0)
abbrev New0 (num : Int) (den : Int) : Int := if den ≠ 0 then frN (if den < 0 then -num else num) (ab den) else 0
abbrev New1 (num : Int) (den : Int) : Int := if den ≠ 0 then frD (if den < 0 then -num else num) (ab den) else 0
abbrev New2 (num : Int) (den : Int) : Int := if den ≠ 0 then frE (if den < 0 then -num else num) (ab den) else 1
def NewP (num : Int) (den : Int) : Bool := ii num && ii den
abbrev rNew0 (num : Int) (den : Int) : Int := if den ≠ 0 then frN (if den < 0 then -num else num) (ab den) else 0
abbrev rNew1 (num : Int) (den : Int) : Int := if den ≠ 0 then frD (if den < 0 then -num else num) (ab den) else 0
abbrev rNew2 (num : Int) (den : Int) : Int := if den ≠ 0 then frE (if den < 0 then -num else num) (ab den) else 1
def rNewP (num : Int) (den : Int) : Bool := ii num && ii den
abbrev Val0 (n : Int) (d : Int) : Bool := vF n d
abbrev rVal0 (n : Int) (d : Int) : Bool := vF n d
abbrev Pow0 (an : Int) (ad : Int) (n : Int) : Int := if vF an ad = true ∧ 0 ≤ n ∧ n ≤ 64 then powN an ad n.toNat else 0
abbrev Pow1 (an : Int) (ad : Int) (n : Int) : Int := if vF an ad = true ∧ 0 ≤ n ∧ n ≤ 64 then powD an ad n.toNat else 0
abbrev Pow2 (an : Int) (ad : Int) (n : Int) : Int := if vF an ad = true ∧ 0 ≤ n ∧ n ≤ 64 then powE an ad n.toNat else 1
abbrev rPow0 (an : Int) (ad : Int) (n : Int) : Int := powN an ad n.toNat
abbrev rPow1 (an : Int) (ad : Int) (n : Int) : Int := powD an ad n.toNat
abbrev rPow2 (an : Int) (ad : Int) (n : Int) : Int := powE an ad n.toNat
def rPowP (an : Int) (ad : Int) (n : Int) : Bool := vF an ad && decide (0 ≤ n) && decide (n ≤ 64)
abbrev Cmp0 (an : Int) (ad : Int) (bn : Int) (bd : Int) : Int := if (vF an ad && vF bn bd) = true then cmp3 (an * bd) (bn * ad) else 0
abbrev rCmp0 (an : Int) (ad : Int) (bn : Int) (bd : Int) : Int := cmp3 (an * bd) (bn * ad)
def rCmpP (an : Int) (ad : Int) (bn : Int) (bd : Int) : Bool := vF an ad && vF bn bd
abbrev Flo0 (n : Int) (d : Int) : Int := if vF n d = true then n / d else 0
abbrev Rou0 (n : Int) (d : Int) : Int := if vF n d = true then rnd n d else 0
abbrev rFlo0 (n : Int) (d : Int) : Int := n / d
def rFloP (n : Int) (d : Int) : Bool := decide (1 ≤ d) && decide (d < BD) && decide (-BD < n) && decide (n < BD)
abbrev rRou0 (n : Int) (d : Int) : Int := rnd n d
def rRouP (n : Int) (d : Int) : Bool := decide (1 ≤ d) && decide (d < BD) && decide (-BD < n) && decide (n < BD)
abbrev Sim0 (an : Int) (ad : Int) (bn : Int) (bd : Int) : Int := if (vF an ad && vF bn bd) = true ∧ an * bd ≤ bn * ad then (if 0 < an then simN an ad bn bd else if bn < 0 then -simN (-bn) bd (-an) ad else 0) else 0
abbrev Sim1 (an : Int) (ad : Int) (bn : Int) (bd : Int) : Int := if (vF an ad && vF bn bd) = true ∧ an * bd ≤ bn * ad then (if 0 < an then simD an ad bn bd else if bn < 0 then simD (-bn) bd (-an) ad else 1) else 0
abbrev Sim2 (an : Int) (ad : Int) (bn : Int) (bd : Int) : Int := if (vF an ad && vF bn bd) = true ∧ an * bd ≤ bn * ad then 0 else 1
abbrev rSim0 (an : Int) (ad : Int) (bn : Int) (bd : Int) : Int := if 0 < an then simN an ad bn bd else if bn < 0 then -simN (-bn) bd (-an) ad else 0
abbrev rSim1 (an : Int) (ad : Int) (bn : Int) (bd : Int) : Int := if 0 < an then simD an ad bn bd else if bn < 0 then simD (-bn) bd (-an) ad else 1
def rSimP (an : Int) (ad : Int) (bn : Int) (bd : Int) : Bool := vF an ad && vF bn bd && decide (an * bd ≤ bn * ad)
noncomputable abbrev Par0 (s : ByteArray) : Int := parN s
noncomputable abbrev Par1 (s : ByteArray) : Int := parD s
noncomputable abbrev Par2 (s : ByteArray) : Int := parE s
def ParP (s : ByteArray) : Bool := decide (s.size ≤ 1000)
noncomputable abbrev rPar0 (s : ByteArray) : Int := parN s
noncomputable abbrev rPar1 (s : ByteArray) : Int := parD s
noncomputable abbrev rPar2 (s : ByteArray) : Bool := decide (parE s = 0)
def rParP (s : ByteArray) : Bool := decide (s.size ≤ 1000)
abbrev Txt0 (n : Int) (d : Int) : ByteArray := if vF n d = true then txt n d else ⟨#[]⟩
abbrev Txt1 (n : Int) (d : Int) : Int := if vF n d = true then 0 else 1
abbrev rTxt0 (n : Int) (d : Int) : ByteArray := txt n d
def rTxtP (n : Int) (d : Int) : Bool := vF n d
abbrev add0 (an : Int) (ad : Int) (bn : Int) (bd : Int) : Int := frN (an * bd + bn * ad) (ad * bd)
abbrev add1 (an : Int) (ad : Int) (bn : Int) (bd : Int) : Int := frD (an * bd + bn * ad) (ad * bd)
abbrev add2 (an : Int) (ad : Int) (bn : Int) (bd : Int) : Int := frE (an * bd + bn * ad) (ad * bd)
def addP (an : Int) (ad : Int) (bn : Int) (bd : Int) : Bool := vF an ad && vF bn bd
abbrev mul0 (an : Int) (ad : Int) (bn : Int) (bd : Int) : Int := frN (an * bn) (ad * bd)
abbrev mul1 (an : Int) (ad : Int) (bn : Int) (bd : Int) : Int := frD (an * bn) (ad * bd)
abbrev mul2 (an : Int) (ad : Int) (bn : Int) (bd : Int) : Int := frE (an * bn) (ad * bd)
def mulP (an : Int) (ad : Int) (bn : Int) (bd : Int) : Bool := vF an ad && vF bn bd
abbrev off0 (n : Int) (d : Int) : Int := n
abbrev off1 (n : Int) (d : Int) : Int := d
abbrev low0 (h : Int) (l : Int) (s : Bool) (i : Int) (m : Int) (t : Bool) : Int := frN (if s = true then -mg h l else mg h l) (mg i m)
abbrev low1 (h : Int) (l : Int) (s : Bool) (i : Int) (m : Int) (t : Bool) : Int := frD (if s = true then -mg h l else mg h l) (mg i m)
abbrev low2 (h : Int) (l : Int) (s : Bool) (i : Int) (m : Int) (t : Bool) : Int := frE (if s = true then -mg h l else mg h l) (mg i m)
def lowP (h : Int) (l : Int) (s : Bool) (i : Int) (m : Int) (t : Bool) : Bool := wu h l && wu i m && decide (0 < mg i m)
abbrev plu0 (h : Int) (l : Int) (s : Bool) (i : Int) (m : Int) (t : Bool) : Int := (if (s == t) = true then mg h l + mg i m else ab (mg h l - mg i m)) / 18446744073709551616
abbrev plu1 (h : Int) (l : Int) (s : Bool) (i : Int) (m : Int) (t : Bool) : Int := (if (s == t) = true then mg h l + mg i m else ab (mg h l - mg i m)) % 18446744073709551616
abbrev plu2 (h : Int) (l : Int) (s : Bool) (i : Int) (m : Int) (t : Bool) : Bool := if (s == t) = true then s else if mg h l < mg i m then t else s
def pluP (h : Int) (l : Int) (s : Bool) (i : Int) (m : Int) (t : Bool) : Bool := wu h l && wu i m
abbrev tim0 (a : Int) (b : Int) : Int := ab a * ab b / 18446744073709551616
abbrev tim1 (a : Int) (b : Int) : Int := ab a * ab b % 18446744073709551616
abbrev tim2 (a : Int) (b : Int) : Bool := (decide (a < 0) != decide (b < 0))
def timP (a : Int) (b : Int) : Bool := ii a && ii b
abbrev mns0 (h : Int) (l : Int) (s : Bool) : Int := h
abbrev mns1 (h : Int) (l : Int) (s : Bool) : Int := l
abbrev mns2 (h : Int) (l : Int) (s : Bool) : Bool := !s
abbrev siz0 (n : Int) : Int := ab n
def sizP (n : Int) : Bool := ii n
abbrev gcd0 (a : Int) (b : Int) : Int := gI a b
def gcdP (a : Int) (b : Int) : Bool := uu a && uu b
abbrev mak0 (s : Bool) (a : Int) (b : Int) : Int := if a < BD ∧ b < BD then (if s = true then -a else a) else 0
abbrev mak1 (s : Bool) (a : Int) (b : Int) : Int := if a < BD ∧ b < BD then b else 0
abbrev mak2 (s : Bool) (a : Int) (b : Int) : Int := if a < BD ∧ b < BD then 0 else 6
def makP (s : Bool) (a : Int) (b : Int) : Bool := uu a && uu b
abbrev one0 (n : Int) : Int := 0
abbrev one1 (n : Int) : Int := ab n
abbrev one2 (n : Int) : Bool := decide (n < 0)
def oneP (n : Int) : Bool := ii n
abbrev rgcd0 (a : Int) (b : Int) : Int := gI a b
def rgcdP (a : Int) (b : Int) : Bool := uu a && uu b
abbrev rsiz0 (n : Int) : Int := ab n
def rsizP (n : Int) : Bool := ii n
abbrev pro0 (a : Int) (b : Int) : Bool := (decide (a < 0) != decide (b < 0))
abbrev pro1 (a : Int) (b : Int) : Int := ab a * ab b / 18446744073709551616
abbrev pro2 (a : Int) (b : Int) : Int := ab a * ab b % 18446744073709551616
def proP (a : Int) (b : Int) : Bool := ii a && ii b
abbrev sgn0 (n : Int) (d : Int) : Int := cmp3 n 0
abbrev ci0 (a : Int) (b : Int) : Int := cmp3 a b
abbrev cmw0 (s : Bool) (h : Int) (l : Int) (t : Bool) (i : Int) (m : Int) : Int := cmp3 (mg h l) (mg i m)
def cmwP (s : Bool) (h : Int) (l : Int) (t : Bool) (i : Int) (m : Int) : Bool := uu h && uu l && uu i && uu m
abbrev zer0 (h : Int) (l : Int) (s : Bool) : Bool := decide (h = 0) && decide (l = 0)
abbrev flo0 (n : Int) (d : Int) : Int := n / d
def floP (n : Int) (d : Int) : Bool := decide (1 ≤ d) && decide (d < BD) && decide (-BD < n) && decide (n < BD)
abbrev sim0 (an : Int) (ad : Int) (bn : Int) (bd : Int) : Int := simN an ad bn bd
abbrev sim1 (an : Int) (ad : Int) (bn : Int) (bd : Int) : Int := simD an ad bn bd
def simP (an : Int) (ad : Int) (bn : Int) (bd : Int) : Bool := simB an ad bn bd
abbrev btw0 (an : Int) (ad : Int) (bn : Int) (bd : Int) : Int := simN an ad bn bd
abbrev btw1 (an : Int) (ad : Int) (bn : Int) (bd : Int) : Int := simD an ad bn bd
def btwP (an : Int) (ad : Int) (bn : Int) (bd : Int) : Bool := simB an ad bn bd && decide (gI an ad = 1) && decide (gI bn bd = 1)
abbrev txt0 (n : Int) (d : Int) : ByteArray := txt n d
def txtP (n : Int) (d : Int) : Bool := ii n && ii d
abbrev fmt0 (n : Int) (b : Int) : ByteArray := fmtI n
def fmtP (n : Int) (b : Int) : Bool := ii n && decide (b = 10)
abbrev sum0 (s : Bool) (h : Int) (l : Int) (t : Bool) (i : Int) (m : Int) : Bool := if (s == t) = true then s else if mg h l < mg i m then t else s
abbrev sum1 (s : Bool) (h : Int) (l : Int) (t : Bool) (i : Int) (m : Int) : Int := (if (s == t) = true then mg h l + mg i m else ab (mg h l - mg i m)) / 18446744073709551616
abbrev sum2 (s : Bool) (h : Int) (l : Int) (t : Bool) (i : Int) (m : Int) : Int := (if (s == t) = true then mg h l + mg i m else ab (mg h l - mg i m)) % 18446744073709551616
def sumP (s : Bool) (h : Int) (l : Int) (t : Bool) (i : Int) (m : Int) : Bool := wu h l && wu i m
abbrev ovr0 (s : Bool) (h : Int) (l : Int) (d : Int) : Int := mg h l / d % 18446744073709551616
abbrev ovr1 (s : Bool) (h : Int) (l : Int) (d : Int) : Int := mg h l % d
abbrev ovr2 (s : Bool) (h : Int) (l : Int) (d : Int) : Bool := decide (h < d)
def ovrP (s : Bool) (h : Int) (l : Int) (d : Int) : Bool := uu h && uu l && uu d && decide (0 < d)
abbrev mu0 (a : Int) (b : Int) : Int := a * b / 18446744073709551616
abbrev mu1 (a : Int) (b : Int) : Int := a * b % 18446744073709551616
def muP (a : Int) (b : Int) : Bool := uu a && uu b
abbrev com0 (h : Int) (l : Int) (s : Bool) (i : Int) (m : Int) (t : Bool) : Int := gI (mg h l) (mg i m) / 18446744073709551616
abbrev com1 (h : Int) (l : Int) (s : Bool) (i : Int) (m : Int) (t : Bool) : Int := gI (mg h l) (mg i m) % 18446744073709551616
abbrev com2 (h : Int) (l : Int) (s : Bool) (i : Int) (m : Int) (t : Bool) : Bool := false
def comP (h : Int) (l : Int) (s : Bool) (i : Int) (m : Int) (t : Bool) : Bool := wu h l && wu i m
abbrev dvd0 (h : Int) (l : Int) (s : Bool) (i : Int) (m : Int) (t : Bool) : Int := mg h l / mg i m / 18446744073709551616
abbrev dvd1 (h : Int) (l : Int) (s : Bool) (i : Int) (m : Int) (t : Bool) : Int := mg h l / mg i m % 18446744073709551616
abbrev dvd2 (h : Int) (l : Int) (s : Bool) (i : Int) (m : Int) (t : Bool) : Bool := false
abbrev dvd3 (h : Int) (l : Int) (s : Bool) (i : Int) (m : Int) (t : Bool) : Int := mg h l % mg i m / 18446744073709551616
abbrev dvd4 (h : Int) (l : Int) (s : Bool) (i : Int) (m : Int) (t : Bool) : Int := mg h l % mg i m % 18446744073709551616
abbrev dvd5 (h : Int) (l : Int) (s : Bool) (i : Int) (m : Int) (t : Bool) : Bool := false
def dvdP (h : Int) (l : Int) (s : Bool) (i : Int) (m : Int) (t : Bool) : Bool := wu h l && wu i m && decide (0 < mg i m)
abbrev ad0 (a : Int) (b : Int) (c : Int) : Int := (a + b + c) % 18446744073709551616
abbrev ad1 (a : Int) (b : Int) (c : Int) : Int := (a + b + c) / 18446744073709551616
def adP (a : Int) (b : Int) (c : Int) : Bool := uu a && uu b && decide (0 ≤ c) && decide (c ≤ 1)
abbrev abv0 (h : Int) (l : Int) (s : Bool) (i : Int) (m : Int) (t : Bool) : Bool := decide (mg i m < mg h l)
def abvP (h : Int) (l : Int) (s : Bool) (i : Int) (m : Int) (t : Bool) : Bool := uu h && uu l && uu i && uu m
abbrev sb'0 (a : Int) (b : Int) (c : Int) : Int := (a - b - c) % 18446744073709551616
abbrev sb'1 (a : Int) (b : Int) (c : Int) : Int := if a - b - c < 0 then 1 else 0
def sb'P (a : Int) (b : Int) (c : Int) : Bool := uu a && uu b && decide (0 ≤ c) && decide (c ≤ 1)
abbrev cj0 (a : Int) (b : Int) : Int := cmp3 a b
abbrev cu0 (a : Int) (b : Int) : Int := cmp3 a b
abbrev div0 (a : Int) (b : Int) (d : Int) : Int := mg a b / d
abbrev div1 (a : Int) (b : Int) (d : Int) : Int := mg a b % d
def divP (a : Int) (b : Int) (d : Int) : Bool := uu a && uu b && uu d && decide (a < d)
abbrev bit0 (h : Int) (l : Int) (s : Bool) (k : Int) : Int := mg h l / 2 ^ k.toNat % 2
def bitP (h : Int) (l : Int) (s : Bool) (k : Int) : Bool := uu h && uu l && decide (0 ≤ k) && decide (k ≤ 127)
abbrev lz0 (n : Int) : Int := 64 - (Lib.bitLen n.toNat : Int)
def lzP (n : Int) : Bool := uu n
/-- The seat's contracts. -/
def sigs : Nat → Option Sig
  | 11 => some ⟨[(iv 2), (iv 2)], [(iv 2), i1], none, none, none⟩
  | 12 => some ⟨[(iv 2), (iv 2)], [(iv 2), i1], none, none, none⟩
  | 13 => some ⟨[(iv 2), (iv 2)], [(iv 2), i1], none, none, none⟩
  | 14 => some ⟨[(iv 2), (iv 2)], [(iv 2), i1], none, none, none⟩
  | 15 => some ⟨[(iv 2), (iv 2)], [sb], none, none, none⟩
  | 16 => some ⟨[], [sb], none, none, none⟩
  | 17 => some ⟨[(iv 2), (iv 2)], [(iv 2), i1], none, none, none⟩
  | 18 => some ⟨[(iv 2), (iv 2)], [(iv 2), i1], none, none, none⟩
  | 19 => some ⟨[(iv 2), (iv 2)], [(iv 2), i1], none, none, none⟩
  | 20 => some ⟨[(iv 2), (iv 2)], [(iv 2), i1], none, none, none⟩
  | 21 => some ⟨[i1, i1], [(iv 2), i1], none, none, none⟩
  | 22 => some ⟨[i1, i1], [(iv 2), i1], none, none, none⟩
  | 23 => some ⟨[(iv 2)], [sb], none, none, none⟩
  | 24 => some ⟨[(iv 2)], [sb], none, none, none⟩
  | 25 => some ⟨[(iv 2), i1], [(iv 2), i1], none, none, none⟩
  | 26 => some ⟨[(iv 2), i1], [(iv 2), i1], none, none, none⟩
  | 27 => some ⟨[(iv 2), (iv 2)], [i1], none, none, none⟩
  | 28 => some ⟨[(iv 2), (iv 2)], [i1], none, none, none⟩
  | 29 => some ⟨[(iv 2)], [i1], none, none, none⟩
  | 30 => some ⟨[(iv 2)], [i1], none, none, none⟩
  | 31 => some ⟨[(iv 2)], [i1], none, none, none⟩
  | 32 => some ⟨[(iv 2)], [i1], none, none, none⟩
  | 33 => some ⟨[(iv 2), (iv 2)], [(iv 2), i1], none, none, none⟩
  | 34 => some ⟨[(iv 2), (iv 2)], [(iv 2)], none, none, none⟩
  | 35 => some ⟨[(.one .str)], [(iv 2), i1], none, none, none⟩
  | 36 => some ⟨[(.one .str)], [(iv 2), sb], none, none, none⟩
  | 37 => some ⟨[(iv 2)], [(.one .str), i1], none, none, none⟩
  | 38 => some ⟨[(iv 2)], [(.one .str)], none, none, none⟩
  | 40 => some ⟨[(iv 2), (iv 2)], [(iv 2), i1], none, none, none⟩
  | 41 => some ⟨[(iv 2), (iv 2)], [(iv 2), i1], none, none, none⟩
  | 42 => some ⟨[i1, i1], [(iv 2)], none, none, none⟩
  | 43 => some ⟨[(.agg [.int .u64, .int .u64, .bool]), (.agg [.int .u64, .int .u64, .bool])], [(iv 2), i1], none, none, none⟩
  | 44 => some ⟨[(.agg [.int .u64, .int .u64, .bool]), (.agg [.int .u64, .int .u64, .bool])], [(.agg [.int .u64, .int .u64, .bool])], none, none, none⟩
  | 45 => some ⟨[i1, i1], [(.agg [.int .u64, .int .u64, .bool])], none, none, none⟩
  | 46 => some ⟨[(.agg [.int .u64, .int .u64, .bool])], [(.agg [.int .u64, .int .u64, .bool])], none, none, none⟩
  | 47 => some ⟨[i1], [(.one (.int .u64))], none, none, none⟩
  | 48 => some ⟨[(.one (.int .u64)), (.one (.int .u64))], [(.one (.int .u64))], none, none, none⟩
  | 49 => some ⟨[sb, (.one (.int .u64)), (.one (.int .u64))], [(iv 2), i1], none, none, none⟩
  | 50 => some ⟨[i1], [(.agg [.int .u64, .int .u64, .bool])], none, none, none⟩
  | 51 => some ⟨[(.one (.int .u64)), (.one (.int .u64))], [(.one (.int .u64))], none, none, none⟩
  | 52 => some ⟨[i1], [(.one (.int .u64))], none, none, none⟩
  | 53 => some ⟨[i1, i1], [(.agg [.bool, .int .u64, .int .u64])], none, none, none⟩
  | 54 => some ⟨[(iv 2)], [i1], none, none, none⟩
  | 55 => some ⟨[i1, i1], [i1], none, none, none⟩
  | 56 => some ⟨[(.agg [.bool, .int .u64, .int .u64]), (.agg [.bool, .int .u64, .int .u64])], [i1], none, none, none⟩
  | 57 => some ⟨[(.agg [.int .u64, .int .u64, .bool])], [sb], none, none, none⟩
  | 58 => some ⟨[i1, i1], [i1], none, none, none⟩
  | 59 => some ⟨[i1, i1, i1, i1], [i1, i1], none, none, none⟩
  | 60 => some ⟨[(iv 2), (iv 2)], [(iv 2)], none, none, none⟩
  | 63 => some ⟨[(iv 2)], [(.one .str)], none, none, none⟩
  | 64 => some ⟨[i1, i1], [(.one .str)], none, none, none⟩
  | 65 => some ⟨[(.agg [.bool, .int .u64, .int .u64]), (.agg [.bool, .int .u64, .int .u64])], [(.agg [.bool, .int .u64, .int .u64])], none, none, none⟩
  | 66 => some ⟨[(.agg [.bool, .int .u64, .int .u64]), (.one (.int .u64))], [(.one (.int .u64)), (.one (.int .u64)), sb], none, none, none⟩
  | 67 => some ⟨[(.one (.int .u64)), (.one (.int .u64))], [(.one (.int .u64)), (.one (.int .u64))], none, none, none⟩
  | 68 => some ⟨[(.agg [.int .u64, .int .u64, .bool]), (.agg [.int .u64, .int .u64, .bool])], [(.agg [.int .u64, .int .u64, .bool])], none, none, none⟩
  | 69 => some ⟨[(.agg [.int .u64, .int .u64, .bool]), (.agg [.int .u64, .int .u64, .bool])], [(.agg [.int .u64, .int .u64, .bool]), (.agg [.int .u64, .int .u64, .bool])], none, none, none⟩
  | 70 => some ⟨[(.one (.int .u64)), (.one (.int .u64)), (.one (.int .u64))], [(.one (.int .u64)), (.one (.int .u64))], none, none, none⟩
  | 71 => some ⟨[(.agg [.int .u64, .int .u64, .bool]), (.agg [.int .u64, .int .u64, .bool])], [sb], none, none, none⟩
  | 72 => some ⟨[(.one (.int .u64)), (.one (.int .u64)), (.one (.int .u64))], [(.one (.int .u64)), (.one (.int .u64))], none, none, none⟩
  | 73 => some ⟨[i1, i1], [i1], none, none, none⟩
  | 76 => some ⟨[(.one (.int .u64)), (.one (.int .u64))], [i1], none, none, none⟩
  | 81 => some ⟨[(.one (.int .u64)), (.one (.int .u64)), (.one (.int .u64))], [(.one (.int .u64)), (.one (.int .u64))], none, none, none⟩
  | 82 => some ⟨[(.agg [.int .u64, .int .u64, .bool]), i1], [(.one (.int .u64))], none, none, none⟩
  | 95 => some ⟨[(.one (.int .u64))], [i1], none, none, none⟩
  | 75 => some ⟨[], [i1], some (.int .i64), none, none⟩
  | _ => none
def s11 : FnSem := ⟨fun _ => true, fun | [.int an, .int ad, .int bn, .int bd] => [.int (Add0 an ad bn bd), .int (Add1 an ad bn bd), .int (Add2 an ad bn bd)] | _ => []⟩
def s12 : FnSem := ⟨fun _ => true, fun | [.int an, .int ad, .int bn, .int bd] => [.int (Sub0 an ad bn bd), .int (Sub1 an ad bn bd), .int (Sub2 an ad bn bd)] | _ => []⟩
def s13 : FnSem := ⟨fun _ => true, fun | [.int an, .int ad, .int bn, .int bd] => [.int (Mul0 an ad bn bd), .int (Mul1 an ad bn bd), .int (Mul2 an ad bn bd)] | _ => []⟩
def s14 : FnSem := ⟨fun _ => true, fun | [.int an, .int ad, .int bn, .int bd] => [.int (Div0 an ad bn bd), .int (Div1 an ad bn bd), .int (Div2 an ad bn bd)] | _ => []⟩
def s15 : FnSem := ⟨fun _ => true, fun | [.int an, .int ad, .int bn, .int bd] => [.bool (two0 an ad bn bd)] | _ => []⟩
def s16 : FnSem := ⟨fun _ => true, fun | [] => [.bool awk0] | _ => []⟩
def s17 : FnSem := ⟨fun | [.int an, .int ad, .int bn, .int bd] => rAddP an ad bn bd | _ => true, fun | [.int an, .int ad, .int bn, .int bd] => [.int (rAdd0 an ad bn bd), .int (rAdd1 an ad bn bd), .int (rAdd2 an ad bn bd)] | _ => []⟩
def s18 : FnSem := ⟨fun | [.int an, .int ad, .int bn, .int bd] => rSubP an ad bn bd | _ => true, fun | [.int an, .int ad, .int bn, .int bd] => [.int (rSub0 an ad bn bd), .int (rSub1 an ad bn bd), .int (rSub2 an ad bn bd)] | _ => []⟩
def s19 : FnSem := ⟨fun | [.int an, .int ad, .int bn, .int bd] => rMulP an ad bn bd | _ => true, fun | [.int an, .int ad, .int bn, .int bd] => [.int (rMul0 an ad bn bd), .int (rMul1 an ad bn bd), .int (rMul2 an ad bn bd)] | _ => []⟩
def s20 : FnSem := ⟨fun | [.int an, .int ad, .int bn, .int bd] => rDivP an ad bn bd | _ => true, fun | [.int an, .int ad, .int bn, .int bd] => [.int (rDiv0 an ad bn bd), .int (rDiv1 an ad bn bd), .int (rDiv2 an ad bn bd)] | _ => []⟩
def s21 : FnSem := ⟨fun | [.int num, .int den] => NewP num den | _ => true, fun | [.int num, .int den] => [.int (New0 num den), .int (New1 num den), .int (New2 num den)] | _ => []⟩
def s22 : FnSem := ⟨fun | [.int num, .int den] => rNewP num den | _ => true, fun | [.int num, .int den] => [.int (rNew0 num den), .int (rNew1 num den), .int (rNew2 num den)] | _ => []⟩
def s23 : FnSem := ⟨fun _ => true, fun | [.int n, .int d] => [.bool (Val0 n d)] | _ => []⟩
def s24 : FnSem := ⟨fun _ => true, fun | [.int n, .int d] => [.bool (rVal0 n d)] | _ => []⟩
def s25 : FnSem := ⟨fun _ => true, fun | [.int an, .int ad, .int n] => [.int (Pow0 an ad n), .int (Pow1 an ad n), .int (Pow2 an ad n)] | _ => []⟩
def s26 : FnSem := ⟨fun | [.int an, .int ad, .int n] => rPowP an ad n | _ => true, fun | [.int an, .int ad, .int n] => [.int (rPow0 an ad n), .int (rPow1 an ad n), .int (rPow2 an ad n)] | _ => []⟩
def s27 : FnSem := ⟨fun _ => true, fun | [.int an, .int ad, .int bn, .int bd] => [.int (Cmp0 an ad bn bd)] | _ => []⟩
def s28 : FnSem := ⟨fun | [.int an, .int ad, .int bn, .int bd] => rCmpP an ad bn bd | _ => true, fun | [.int an, .int ad, .int bn, .int bd] => [.int (rCmp0 an ad bn bd)] | _ => []⟩
def s29 : FnSem := ⟨fun _ => true, fun | [.int n, .int d] => [.int (Flo0 n d)] | _ => []⟩
def s30 : FnSem := ⟨fun _ => true, fun | [.int n, .int d] => [.int (Rou0 n d)] | _ => []⟩
def s31 : FnSem := ⟨fun | [.int n, .int d] => rFloP n d | _ => true, fun | [.int n, .int d] => [.int (rFlo0 n d)] | _ => []⟩
def s32 : FnSem := ⟨fun | [.int n, .int d] => rRouP n d | _ => true, fun | [.int n, .int d] => [.int (rRou0 n d)] | _ => []⟩
def s33 : FnSem := ⟨fun _ => true, fun | [.int an, .int ad, .int bn, .int bd] => [.int (Sim0 an ad bn bd), .int (Sim1 an ad bn bd), .int (Sim2 an ad bn bd)] | _ => []⟩
def s34 : FnSem := ⟨fun | [.int an, .int ad, .int bn, .int bd] => rSimP an ad bn bd | _ => true, fun | [.int an, .int ad, .int bn, .int bd] => [.int (rSim0 an ad bn bd), .int (rSim1 an ad bn bd)] | _ => []⟩
noncomputable def s35 : FnSem := ⟨fun | [.str s] => ParP s | _ => true, fun | [.str s] => [.int (Par0 s), .int (Par1 s), .int (Par2 s)] | _ => []⟩
noncomputable def s36 : FnSem := ⟨fun | [.str s] => rParP s | _ => true, fun | [.str s] => [.int (rPar0 s), .int (rPar1 s), .bool (rPar2 s)] | _ => []⟩
def s37 : FnSem := ⟨fun _ => true, fun | [.int n, .int d] => [.str (Txt0 n d), .int (Txt1 n d)] | _ => []⟩
def s38 : FnSem := ⟨fun | [.int n, .int d] => rTxtP n d | _ => true, fun | [.int n, .int d] => [.str (rTxt0 n d)] | _ => []⟩
def s40 : FnSem := ⟨fun | [.int an, .int ad, .int bn, .int bd] => addP an ad bn bd | _ => true, fun | [.int an, .int ad, .int bn, .int bd] => [.int (add0 an ad bn bd), .int (add1 an ad bn bd), .int (add2 an ad bn bd)] | _ => []⟩
def s41 : FnSem := ⟨fun | [.int an, .int ad, .int bn, .int bd] => mulP an ad bn bd | _ => true, fun | [.int an, .int ad, .int bn, .int bd] => [.int (mul0 an ad bn bd), .int (mul1 an ad bn bd), .int (mul2 an ad bn bd)] | _ => []⟩
def s42 : FnSem := ⟨fun _ => true, fun | [.int n, .int d] => [.int (off0 n d), .int (off1 n d)] | _ => []⟩
def s43 : FnSem := ⟨fun | [.int h, .int l, .bool s, .int i, .int m, .bool t] => lowP h l s i m t | _ => true, fun | [.int h, .int l, .bool s, .int i, .int m, .bool t] => [.int (low0 h l s i m t), .int (low1 h l s i m t), .int (low2 h l s i m t)] | _ => []⟩
def s44 : FnSem := ⟨fun | [.int h, .int l, .bool s, .int i, .int m, .bool t] => pluP h l s i m t | _ => true, fun | [.int h, .int l, .bool s, .int i, .int m, .bool t] => [.int (plu0 h l s i m t), .int (plu1 h l s i m t), .bool (plu2 h l s i m t)] | _ => []⟩
def s45 : FnSem := ⟨fun | [.int a, .int b] => timP a b | _ => true, fun | [.int a, .int b] => [.int (tim0 a b), .int (tim1 a b), .bool (tim2 a b)] | _ => []⟩
def s46 : FnSem := ⟨fun _ => true, fun | [.int h, .int l, .bool s] => [.int (mns0 h l s), .int (mns1 h l s), .bool (mns2 h l s)] | _ => []⟩
def s47 : FnSem := ⟨fun | [.int n] => sizP n | _ => true, fun | [.int n] => [.int (siz0 n)] | _ => []⟩
def s48 : FnSem := ⟨fun | [.int a, .int b] => gcdP a b | _ => true, fun | [.int a, .int b] => [.int (gcd0 a b)] | _ => []⟩
def s49 : FnSem := ⟨fun | [.bool s, .int a, .int b] => makP s a b | _ => true, fun | [.bool s, .int a, .int b] => [.int (mak0 s a b), .int (mak1 s a b), .int (mak2 s a b)] | _ => []⟩
def s50 : FnSem := ⟨fun | [.int n] => oneP n | _ => true, fun | [.int n] => [.int (one0 n), .int (one1 n), .bool (one2 n)] | _ => []⟩
def s51 : FnSem := ⟨fun | [.int a, .int b] => rgcdP a b | _ => true, fun | [.int a, .int b] => [.int (rgcd0 a b)] | _ => []⟩
def s52 : FnSem := ⟨fun | [.int n] => rsizP n | _ => true, fun | [.int n] => [.int (rsiz0 n)] | _ => []⟩
def s53 : FnSem := ⟨fun | [.int a, .int b] => proP a b | _ => true, fun | [.int a, .int b] => [.bool (pro0 a b), .int (pro1 a b), .int (pro2 a b)] | _ => []⟩
def s54 : FnSem := ⟨fun _ => true, fun | [.int n, .int d] => [.int (sgn0 n d)] | _ => []⟩
def s55 : FnSem := ⟨fun _ => true, fun | [.int a, .int b] => [.int (ci0 a b)] | _ => []⟩
def s56 : FnSem := ⟨fun | [.bool s, .int h, .int l, .bool t, .int i, .int m] => cmwP s h l t i m | _ => true, fun | [.bool s, .int h, .int l, .bool t, .int i, .int m] => [.int (cmw0 s h l t i m)] | _ => []⟩
def s57 : FnSem := ⟨fun _ => true, fun | [.int h, .int l, .bool s] => [.bool (zer0 h l s)] | _ => []⟩
def s58 : FnSem := ⟨fun | [.int n, .int d] => floP n d | _ => true, fun | [.int n, .int d] => [.int (flo0 n d)] | _ => []⟩
def s59 : FnSem := ⟨fun | [.int an, .int ad, .int bn, .int bd] => simP an ad bn bd | _ => true, fun | [.int an, .int ad, .int bn, .int bd] => [.int (sim0 an ad bn bd), .int (sim1 an ad bn bd)] | _ => []⟩
def s60 : FnSem := ⟨fun | [.int an, .int ad, .int bn, .int bd] => btwP an ad bn bd | _ => true, fun | [.int an, .int ad, .int bn, .int bd] => [.int (btw0 an ad bn bd), .int (btw1 an ad bn bd)] | _ => []⟩
def s63 : FnSem := ⟨fun | [.int n, .int d] => txtP n d | _ => true, fun | [.int n, .int d] => [.str (txt0 n d)] | _ => []⟩
def s64 : FnSem := ⟨fun | [.int n, .int b] => fmtP n b | _ => true, fun | [.int n, .int b] => [.str (fmt0 n b)] | _ => []⟩
def s65 : FnSem := ⟨fun | [.bool s, .int h, .int l, .bool t, .int i, .int m] => sumP s h l t i m | _ => true, fun | [.bool s, .int h, .int l, .bool t, .int i, .int m] => [.bool (sum0 s h l t i m), .int (sum1 s h l t i m), .int (sum2 s h l t i m)] | _ => []⟩
def s66 : FnSem := ⟨fun | [.bool s, .int h, .int l, .int d] => ovrP s h l d | _ => true, fun | [.bool s, .int h, .int l, .int d] => [.int (ovr0 s h l d), .int (ovr1 s h l d), .bool (ovr2 s h l d)] | _ => []⟩
def s67 : FnSem := ⟨fun | [.int a, .int b] => muP a b | _ => true, fun | [.int a, .int b] => [.int (mu0 a b), .int (mu1 a b)] | _ => []⟩
def s68 : FnSem := ⟨fun | [.int h, .int l, .bool s, .int i, .int m, .bool t] => comP h l s i m t | _ => true, fun | [.int h, .int l, .bool s, .int i, .int m, .bool t] => [.int (com0 h l s i m t), .int (com1 h l s i m t), .bool (com2 h l s i m t)] | _ => []⟩
def s69 : FnSem := ⟨fun | [.int h, .int l, .bool s, .int i, .int m, .bool t] => dvdP h l s i m t | _ => true, fun | [.int h, .int l, .bool s, .int i, .int m, .bool t] => [.int (dvd0 h l s i m t), .int (dvd1 h l s i m t), .bool (dvd2 h l s i m t), .int (dvd3 h l s i m t), .int (dvd4 h l s i m t), .bool (dvd5 h l s i m t)] | _ => []⟩
def s70 : FnSem := ⟨fun | [.int a, .int b, .int c] => adP a b c | _ => true, fun | [.int a, .int b, .int c] => [.int (ad0 a b c), .int (ad1 a b c)] | _ => []⟩
def s71 : FnSem := ⟨fun | [.int h, .int l, .bool s, .int i, .int m, .bool t] => abvP h l s i m t | _ => true, fun | [.int h, .int l, .bool s, .int i, .int m, .bool t] => [.bool (abv0 h l s i m t)] | _ => []⟩
def s72 : FnSem := ⟨fun | [.int a, .int b, .int c] => sb'P a b c | _ => true, fun | [.int a, .int b, .int c] => [.int (sb'0 a b c), .int (sb'1 a b c)] | _ => []⟩
def s73 : FnSem := ⟨fun _ => true, fun | [.int a, .int b] => [.int (cj0 a b)] | _ => []⟩
def s76 : FnSem := ⟨fun _ => true, fun | [.int a, .int b] => [.int (cu0 a b)] | _ => []⟩
def s81 : FnSem := ⟨fun | [.int a, .int b, .int d] => divP a b d | _ => true, fun | [.int a, .int b, .int d] => [.int (div0 a b d), .int (div1 a b d)] | _ => []⟩
def s82 : FnSem := ⟨fun | [.int h, .int l, .bool s, .int k] => bitP h l s k | _ => true, fun | [.int h, .int l, .bool s, .int k] => [.int (bit0 h l s k)] | _ => []⟩
def s95 : FnSem := ⟨fun | [.int n] => lzP n | _ => true, fun | [.int n] => [.int (lz0 n)] | _ => []⟩
def s75 : FnSem := ⟨fun l => decide (l.length ≤ 1000), fun l => [.int (fst0 (l.map Sc.toInt))]⟩
noncomputable def Φ : Ctx
  | 11 => s11
  | 12 => s12
  | 13 => s13
  | 14 => s14
  | 15 => s15
  | 16 => s16
  | 17 => s17
  | 18 => s18
  | 19 => s19
  | 20 => s20
  | 21 => s21
  | 22 => s22
  | 23 => s23
  | 24 => s24
  | 25 => s25
  | 26 => s26
  | 27 => s27
  | 28 => s28
  | 29 => s29
  | 30 => s30
  | 31 => s31
  | 32 => s32
  | 33 => s33
  | 34 => s34
  | 35 => s35
  | 36 => s36
  | 37 => s37
  | 38 => s38
  | 40 => s40
  | 41 => s41
  | 42 => s42
  | 43 => s43
  | 44 => s44
  | 45 => s45
  | 46 => s46
  | 47 => s47
  | 48 => s48
  | 49 => s49
  | 50 => s50
  | 51 => s51
  | 52 => s52
  | 53 => s53
  | 54 => s54
  | 55 => s55
  | 56 => s56
  | 57 => s57
  | 58 => s58
  | 59 => s59
  | 60 => s60
  | 63 => s63
  | 64 => s64
  | 65 => s65
  | 66 => s66
  | 67 => s67
  | 68 => s68
  | 69 => s69
  | 70 => s70
  | 71 => s71
  | 72 => s72
  | 73 => s73
  | 76 => s76
  | 81 => s81
  | 82 => s82
  | 95 => s95
  | 75 => s75
  | _ => ⟨fun _ => true, fun _ => []⟩
end Go.Proofs.YtkmffnjmiechfaaDoor
