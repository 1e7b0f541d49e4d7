/- A symbolic executor over the loaded program of a seat: its definitions. It proves nothing by itself. -/
import Derived.Test.YtdfcphfoccgopaaGG
import Derived.Orders
import Derived.Deep.MidRow
import Derived.Great.BuildSlice
import Derived.Laws.StructEq
import Derived.KernelRfl
namespace Go.Sx
open Go.RowKit (Below)

/-! ### Scalars, expressions -/
inductive Sc where
  | int (n : Int)
  | bool (b : Bool)
  | str (s : ByteArray)
def Sc.toInt : Sc → Int
  | .int n => n
  | _ => 0
def Sc.toBool : Sc → Bool
  | .bool b => b
  | _ => false
def Sc.toStr : Sc → ByteArray
  | .str s => s
  | _ => ⟨#[]⟩

structure FnSem where
  pre : List Sc → Bool
  res : List Sc → List Sc
abbrev Ctx := Nat → FnSem

inductive E where
  | int (n : Int)
  | bool (b : Bool)
  | str (s : ByteArray)
  | var (i : Nat)
  | ar (op : BinOp) (k : IntKind) (x y : E)
  | cmp (op : BinOp) (x y : E)
  | eqb (x y : E)
  | not (x : E)
  | and (x y : E)
  | conv (k : IntKind) (x : E)
  | mx (x y : E)
  | mn (x y : E)
  | ite (c x y : E)
  | toI (x : E)
  | toB (x : E)
  | toS (x : E)
  | eqs (x y : E)
  | slt (x y : E)
  | slen (x : E)
  | sat (x i : E)
  | ssub (x lo hi : E)
  | scat (x y : E)
  | szok (x y : E)
  | nil
  | cons (x xs : E)
  | app (f : Nat) (a : E) (i : Nat)
  deriving DecidableEq

def arI (op : BinOp) (k : IntKind) (a b : Int) : Int :=
  match op with
  | .add => k.wrap (a + b)
  | .sub => k.wrap (a - b)
  | .mul => k.wrap (a * b)
  | .quo => k.wrap (a.tdiv b)
  | .rem => a.tmod b
  | .shl => k.wrap (a * 2 ^ (min b.toNat k.bits))
  | .shr => a.fdiv (2 ^ (min b.toNat k.bits))
  | .and => bits .and k a b
  | .or => bits .or k a b
  | .xor => bits .xor k a b
  | .andNot => bits .andNot k a b
  | _ => 0
def cmpI (op : BinOp) (a b : Int) : Bool :=
  match op with
  | .eql => a == b
  | .lss => decide (a < b)
  | _ => false
def byteAt (s : ByteArray) (i : Int) : Int := ((s.data.getD i.toNat 0).toNat : Int)
def mxI (x y : Int) : Int := if y > x then y else x
def mnI (x y : Int) : Int := if y < x then y else x

def szB (x y : ByteArray) : Bool := decide (((x.size + y.size : Nat) : Int) ≤ IntKind.i64.max)

def E.dn (Φ : Ctx) (ρ : List Sc) : E → Sc × List Sc
  | .int n => (.int n, [])
  | .bool b => (.bool b, [])
  | .str s => (.str s, [])
  | .var i => (ρ.getD i (.int 0), [])
  | .ar op k x y => (.int (arI op k (x.dn Φ ρ).1.toInt (y.dn Φ ρ).1.toInt), [])
  | .cmp op x y => (.bool (cmpI op (x.dn Φ ρ).1.toInt (y.dn Φ ρ).1.toInt), [])
  | .eqb x y => (.bool ((x.dn Φ ρ).1.toBool == (y.dn Φ ρ).1.toBool), [])
  | .not x => (.bool (!(x.dn Φ ρ).1.toBool), [])
  | .and x y => (.bool ((x.dn Φ ρ).1.toBool && (y.dn Φ ρ).1.toBool), [])
  | .conv k x => (.int (k.wrap (x.dn Φ ρ).1.toInt), [])
  | .mx x y => (.int (mxI (x.dn Φ ρ).1.toInt (y.dn Φ ρ).1.toInt), [])
  | .mn x y => (.int (mnI (x.dn Φ ρ).1.toInt (y.dn Φ ρ).1.toInt), [])
  | .ite c x y => (cond (c.dn Φ ρ).1.toBool (x.dn Φ ρ).1 (y.dn Φ ρ).1, [])
  | .toI x => (.int (x.dn Φ ρ).1.toInt, [])
  | .toB x => (.bool (x.dn Φ ρ).1.toBool, [])
  | .toS x => (.str (x.dn Φ ρ).1.toStr, [])
  | .eqs x y => (.bool ((x.dn Φ ρ).1.toStr.toList == (y.dn Φ ρ).1.toStr.toList), [])
  | .slt x y => (.bool (Op.bytesLess (x.dn Φ ρ).1.toStr.toList (y.dn Φ ρ).1.toStr.toList), [])
  | .slen x => (.int (x.dn Φ ρ).1.toStr.size, [])
  | .sat x i => (.int (byteAt (x.dn Φ ρ).1.toStr (i.dn Φ ρ).1.toInt), [])
  | .ssub x lo hi => (.str ((x.dn Φ ρ).1.toStr.extract (lo.dn Φ ρ).1.toInt.toNat (hi.dn Φ ρ).1.toInt.toNat), [])
  | .scat x y => (.str ((x.dn Φ ρ).1.toStr ++ (y.dn Φ ρ).1.toStr), [])
  | .szok x y => (.bool (szB (x.dn Φ ρ).1.toStr (y.dn Φ ρ).1.toStr), [])
  | .nil => (.int 0, [])
  | .cons x xs => (.int 0, (x.dn Φ ρ).1 :: (xs.dn Φ ρ).2)
  | .app f a i => (((Φ f).res (a.dn Φ ρ).2).getD i (.int 0), [])
def E.den (Φ : Ctx) (ρ : List Sc) (e : E) : Sc := (e.dn Φ ρ).1
def E.dens (Φ : Ctx) (ρ : List Sc) (e : E) : List Sc := (e.dn Φ ρ).2

/-! ### Facts -/
abbrev Facts := List (E × Bool)
def look : Facts → E → Option Bool
  | [], _ => none
  | (e', b) :: fs, e => if e' = e then some b else look fs e
def litIn : Facts → E → Option Int
  | [], _ => none
  | (.cmp .eql x (.int n), true) :: fs, e => if x = e then some n else litIn fs e
  | _ :: fs, e => litIn fs e
def lit? (fs : Facts) : E → Option Int
  | .int n => some n
  | e => litIn fs e
def resolve (fs : Facts) (e : E) : E :=
  match e with
  | .bool b => .bool b
  | e => match look fs e with
    | some b => .bool b
    | none => match e with
      | .cmp op x y => match lit? fs x, lit? fs y with
        | some m, some n => .bool (cmpI op m n)
        | _, _ => e
      | e => e

def mkAr (op : BinOp) (k : IntKind) : E → E → E
  | .int a, .int b => .int (arI op k a b)
  | x, y => .ar op k x y
def mkNot : E → E
  | .bool b => .bool (!b)
  | .not x => x
  | x => .not x
def mkEq (fs : Facts) (x y : E) : E :=
  match x with
  | .int _ => resolve fs (.cmp .eql y x)
  | _ => resolve fs (.cmp .eql x y)
def mkCmp (fs : Facts) (op : BinOp) (x y : E) : E :=
  match op with
  | .eql => mkEq fs x y
  | .neq => mkNot (mkEq fs x y)
  | .lss => resolve fs (.cmp .lss x y)
  | .gtr => resolve fs (.cmp .lss y x)
  | .leq => mkNot (resolve fs (.cmp .lss y x))
  | .geq => mkNot (resolve fs (.cmp .lss x y))
  | _ => .bool false
def mkAnd : E → E → E
  | .bool true, y => y
  | .bool false, _ => .bool false
  | x, .bool true => x
  | _, .bool false => .bool false
  | x, y => .and x y
def mkEqb : E → E → E
  | .bool true, y => y
  | .bool false, y => mkNot y
  | x, .bool true => x
  | x, .bool false => mkNot x
  | x, y => .eqb x y
def mkIte : E → E → E → E
  | .bool true, x, _ => x
  | .bool false, _, y => y
  | c, x, y => .ite c x y
def mkConv (k : IntKind) : E → E
  | .int a => .int (k.wrap a)
  | x => .conv k x
def mkMx : E → E → E
  | .int a, .int b => .int (mxI a b)
  | x, y => .mx x y
def mkMn : E → E → E
  | .int a, .int b => .int (mnI a b)
  | x, y => .mn x y

/-! ### Abstract values -/
inductive Cell where
  | int (k : IntKind) (e : E)
  | bool (e : E)
  | str (e : E)
  | ptr (b o : Nat)
  | nil
  | sl (b o len cap : Nat)
  | slnil
  | vec (b len s : Nat)
  | fn (f : Nat) (caps : List (Nat × Nat))
  | unk
  deriving DecidableEq
inductive AV where
  | c (c : Cell)
  | agg (cs : List Cell)
  deriving DecidableEq
inductive TV where
  | av (v : AV)
  | tup (vs : List AV)
  deriving DecidableEq
abbrev TV.ce (c : Cell) : TV := .av (.c c)
def TV.undef : TV := .tup []
structure Blk where
  cells : List Cell
  ty : Nat
structure St where
  tm : List TV
  heap : List (Option Blk)
  facts : Facts
  nv : Nat

def constCell : Value → Option Cell
  | .int k n => some (.int k (.int n))
  | .bool b => some (.bool (.bool b))
  | .string s => some (.str (.str s))
  | .pointer none => some .nil
  | .slice none 0 0 => some .slnil
  | .func (.func f) ⟨[]⟩ ⟨[]⟩ => some (.fn f [])
  | _ => none
def constAV : Value → Option AV
  | .agg cs => (cs.toList.mapM constCell).map .agg
  | v => (constCell v).map .c
def constTV : Value → Option TV
  | .tuple ⟨[]⟩ => some (.tup [])
  | v => (constAV v).map .av
def evalV (tm : Nat → Option TV) : Operand → Option TV
  | .tmp t => tm t
  | .const v => constTV v
  | .global _ => none
  | .func f => some (.ce (.fn f []))
def evalA (tm : List TV) : Operand → Option TV := evalV fun t => tm[t]?

/-! ### Signatures of functions that are taken by contract -/
inductive K where
  | int (k : IntKind)
  | bool
  | str
  deriving DecidableEq
inductive Sh where
  | one (k : K)
  | agg (ks : List K)
  deriving DecidableEq
structure Sig where
  args : List Sh
  res : List Sh
  lst : Option K := none
  off : Option Nat := none
  cst : Option Int := none
def flatCell : K → Cell → Option E
  | .int k, .int k' e => if k = k' then some (.toI e) else none
  | .bool, .bool e => some (.toB e)
  | .str, .str e => some (.toS e)
  | _, _ => none
def flatCells : List K → List Cell → Option (List E)
  | [], [] => some []
  | k :: ks, c :: cs => match flatCell k c, flatCells ks cs with
    | some e, some es => some (e :: es)
    | _, _ => none
  | _, _ => none
def flatAV : Sh → AV → Option (List E)
  | .one k, .c c => flatCells [k] [c]
  | .agg ks, .agg cs => flatCells ks cs
  | _, _ => none
def flatAVs : List Sh → List AV → Option (List E)
  | [], [] => some []
  | s :: ss, v :: vs => match flatAV s v, flatAVs ss vs with
    | some es, some es' => some (es ++ es')
    | _, _ => none
  | _, _ => none
def listE : List E → E
  | [] => .nil
  | e :: es => .cons e (listE es)
def K.cell : K → E → Cell
  | .int k, e => .int k e
  | .bool, e => .bool e
  | .str, e => .str e
def resCells (f : Nat) (a : E) : List K → Nat → List Cell
  | [], _ => []
  | k :: ks, i => k.cell (.app f a i) :: resCells f a ks (i + 1)
def resAV (f : Nat) (a : E) : Sh → Nat → AV
  | .one k, i => .c (k.cell (.app f a i))
  | .agg ks, i => .agg (resCells f a ks i)
def Sh.size : Sh → Nat
  | .one _ => 1
  | .agg ks => ks.length
def resAVs (f : Nat) (a : E) : List Sh → Nat → List AV
  | [], _ => []
  | s :: ss, i => resAV f a s i :: resAVs f a ss (i + s.size)
def tvOf : List AV → TV
  | [v] => .av v
  | vs => .tup vs

/-! ### One operation -/
inductive Need where
  | c (e : E)
  | pre (f : Nat) (a : E)
inductive Eff where
  | no
  | new (id : Nat) (b : Blk)
  | wr (b o : Nat) (cs : List Cell)
inductive SR where
  | ok (needs : List Need) (tv : TV) (eff : Eff)
  | fork (c : E)
  | bad

structure LoopCfg where
  mods : List (Nat × K)
  cells : List (Nat × Nat × K)
structure Cfg where
  P : Program
  con : Nat → Option Sig
  inl : Nat → Bool
  loop : Nat → Nat → Option LoopCfg

def zeroCells (P : Program) (t : TypeId) : Option (List Cell) :=
  match (P.info? t).bind (·.zero) with
  | some (.agg cs) => cs.toList.mapM constCell
  | some v => (constCell v).map fun c => [c]
  | none => none
def sizeP (P : Program) (t : TypeId) : Option Nat := (P.info? t).map (·.size)
def aggP (P : Program) (t : TypeId) : Option Bool := (P.underlying t).map (·.isRow)
def AV.cells : AV → List Cell
  | .c x => [x]
  | .agg cs => cs
def Cell.known : Cell → Bool
  | .unk => false
  | _ => true
def setCellsA : List Cell → Nat → List Cell → List Cell
  | cs, _, [] => cs
  | cs, o, c :: r => setCellsA (cs.set o c) (o + 1) r
def fillA (place : Nat → Option (Nat × Nat)) (cells : List Cell) : List (Nat × AV) → Option (List Cell)
  | [] => some cells
  | (i, v) :: rest =>
    match place i with
    | none => none
    | some (off, size) =>
      if v.cells.length ≠ size || off + v.cells.length > cells.length then none
      else fillA place (setCellsA cells off v.cells) rest
def placesP (P : Program) : List Field → Option (List (Nat × Nat))
  | [] => some []
  | f :: fs => match sizeP P f.type, placesP P fs with
    | some n, some r => some ((f.offset, n) :: r)
    | _, _ => none
def asAVs : List TV → Option (List AV)
  | [] => some []
  | .av v :: r => if v.cells.all Cell.known then (asAVs r).map (v :: ·) else none
  | _ => none
def builtA (P : Program) (t : TypeId) (parts : List (Nat × AV)) : Option (List Cell) :=
  match P.underlying t, zeroCells P t with
  | some (.array _ e), some z => match sizeP P e with
    | some n => fillA (fun i => some (i * n, n)) z parts
    | none => none
  | some (.struct fields), some z => match placesP P fields.toList with
    | some pl => fillA (fun i => pl[i]?) z parts
    | none => none
  | _, _ => none
def rep (z : List Cell) : Nat → List Cell
  | 0 => []
  | n + 1 => z ++ rep z n
def repK (ks : List K) : Nat → List K
  | 0 => []
  | n + 1 => ks ++ repK ks n
/-- The kinds of the cells of a type that is made of integers and bools alone. -/
def kindsF (P : Program) (g : TypeId → Option (List K)) : Nat → List Field → Option (List K)
  | _, [] => some []
  | off, f :: fs => if f.name ≠ "_" ∧ f.offset = off then
      match g f.type with
      | some ks => if sizeP P f.type = some ks.length then (kindsF P g (off + ks.length) fs).map (ks ++ ·) else none
      | none => none
    else none
def kindsP (P : Program) : Nat → TypeId → Option (List K)
  | 0, _ => none
  | d + 1, t => match P.underlying t with
    | some (.int k) => some [.int k]
    | some .bool => some [.bool]
    | some (.struct fs) => if P.stoodInHeld t then none else kindsF P (kindsP P d) 0 fs.toList
    | some (.array n e) => match kindsP P d e with
      | some ks => if sizeP P e = some ks.length then some (repK ks n) else none
      | none => none
    | _ => none
def eqCells (fs : Facts) : List K → List Cell → List Cell → Option E
  | [], [], [] => some (.bool true)
  | .int k :: ks, .int k1 x :: xs, .int k2 y :: ys => if k1 = k ∧ k2 = k then (eqCells fs ks xs ys).map (mkAnd (mkCmp fs .eql x y)) else none
  | .bool :: ks, .bool x :: xs, .bool y :: ys => (eqCells fs ks xs ys).map (mkAnd (mkEqb x y))
  | _, _, _ => none

def binA (P : Program) (fs : Facts) (op : BinOp) (t : TypeId) (x y : TV) : SR :=
  match x, y with
  | .av (.c (.int k x)), .av (.c (.int k' y)) =>
    match op with
    | .shl | .shr => .ok [.c (mkCmp fs .geq y (.int 0))] (.ce (.int k (mkAr op k x y))) .no
    | _ =>
      if k = k' then
        match op with
        | .add | .sub | .mul | .and | .or | .xor | .andNot => .ok [] (.ce (.int k (mkAr op k x y))) .no
        | .quo | .rem => .ok [.c (mkCmp fs .neq y (.int 0))] (.ce (.int k (mkAr op k x y))) .no
        | .eql | .neq | .lss | .leq | .gtr | .geq => .ok [] (.ce (.bool (mkCmp fs op x y))) .no
        | _ => .bad
      else .bad
  | .av (.c (.bool x)), .av (.c (.bool y)) =>
    match P.underlying t with
    | some .bool => match op with
      | .eql => .ok [] (.ce (.bool (mkEqb x y))) .no
      | .neq => .ok [] (.ce (.bool (mkNot (mkEqb x y)))) .no
      | _ => .bad
    | _ => .bad
  | .av (.c (.str x)), .av (.c (.str y)) =>
    match op with
    | .eql => .ok [] (.ce (.bool (resolve fs (.eqs x y)))) .no
    | .neq => .ok [] (.ce (.bool (mkNot (resolve fs (.eqs x y))))) .no
    | .lss => .ok [] (.ce (.bool (resolve fs (.slt x y)))) .no
    | .add => .ok [.c (.szok x y)] (.ce (.str (.scat x y))) .no
    | _ => .bad
  | .av (.agg xs), .av (.agg ys) =>
    if P.eqGuardType P.depth t then .bad else
      match aggP P t, kindsP P 50 t with
      | some true, some ks => match op, eqCells fs ks xs ys with
        | .eql, some e => .ok [] (.ce (.bool e)) .no
        | .neq, some e => .ok [] (.ce (.bool (mkNot e))) .no
        | _, _ => .bad
      | _, _ => .bad
  | _, _ => .bad
def partA (P : Program) (t : TypeId) (cs : List Cell) (off : Nat) : Option AV :=
  match aggP P t, sizeP P t with
  | some true, some s => if off + s ≤ cs.length then some (.agg ((cs.drop off).take s)) else none
  | some false, _ => match cs[off]? with
    | some c => if c.known then some (.c c) else none
    | none => none
  | _, _ => none
def callable (P : Program) (f : Nat) : Bool :=
  match P.funcs[f]? with
  | some fn => !(fn.name == "runtime.NumGoroutine") && fn.body.isSome
  | none => false
/-- A call's result: an application, or a number that is known. -/
def resTV (sg : Sig) (f : Nat) (a : E) : TV :=
  match sg.cst with
  | none => tvOf (resAVs f a sg.res 0)
  | some c => match sg.res with
    | [.one (.int k)] => .ce (.int k (.int c))
    | [.one .bool] => .ce (.bool (.bool (c == 1)))
    | _ => .ce .unk
def stepCall (C : Cfg) (f : Nat) (args : List AV) : SR :=
  match C.con f with
  | some sg => if sg.lst = none ∧ sg.off = none then match flatAVs sg.args args with
      | some es => .ok [.pre f (listE es)] (resTV sg f (listE es)) .no
      | none => .bad
    else .bad
  | none => .bad
/-- The first index below n that is neither refuted nor known. -/
def forkIx (fs : Facts) (x : E) : Nat → Nat → SR
  | 0, _ => .bad
  | n + 1, i => match resolve fs (.cmp .eql x (.int i)) with
    | .bool false => forkIx fs x n (i + 1)
    | c => .fork c
/-- A call of a function that moves a pointer on by a number below n. -/
def stepOff (C : Cfg) (fs : Facts) (f b o : Nat) (x : E) : SR :=
  match C.con f with
  | some sg => match sg.off with
    | some n => match lit? fs x with
      | some i => if callable C.P f = true ∧ 0 ≤ i ∧ i < n then .ok [] (.ce (.ptr b (o + i.toNat))) .no else .bad
      | none => forkIx fs x n 0
    | none => .bad
  | none => .bad
def isOff (C : Cfg) (f : Nat) : Bool := match C.con f with
  | some sg => sg.off.isSome
  | none => false
/-- A call of a function that reads one slice of scalars. -/
def stepList (C : Cfg) (f n : Nat) (mem : Option (List Cell)) : SR :=
  match C.con f, mem with
  | some sg, some cs => match sg.lst with
    | some k => match flatCells (List.replicate n k) cs with
      | some es => if callable C.P f = true ∧ 0 < n ∧ sg.off = none then .ok [.pre f (listE es)] (resTV sg f (listE es)) .no else .bad
      | none => .bad
    | none => .bad
  | _, _ => .bad
def isList (C : Cfg) (f : Nat) : Bool := match C.con f with
  | some sg => sg.lst.isSome
  | none => false
def addrOf (P : Program) (fs : Facts) (b o len : Nat) (elem : TypeId) (x : E) (lim : Nat) : SR :=
  match lit? fs x with
  | some i => match sizeP P elem with
    | some s => if 0 ≤ i ∧ i < len ∧ len ≤ lim then .ok [] (.ce (.ptr b (o + i.toNat * s))) .no else .bad
    | none => .bad
  | none => forkIx fs x len 0
def foldMM (g : E → E → E) (k : IntKind) : E → List TV → Option E
  | x, [] => some x
  | x, .av (.c (.int k' y)) :: r => if k = k' then foldMM g k (g x y) r else none
  | _, _ => none
def step (C : Cfg) (fs : Facts) (op : Op) (vs : List TV) (mem : Option (List Cell)) (id : Nat) : SR :=
  match op, vs with
  | .move _, [v] => .ok [] v .no
  | .assign _, [v] => .ok [] v .no
  | .pick _ _ _, [.av (.c (.bool c)), x, y] => match resolve fs c with
    | .bool true => .ok [] x .no
    | .bool false => .ok [] y .no
    | c => match x, y with
      | .av (.c (.int k x)), .av (.c (.int k' y)) => if k = k' then .ok [] (.ce (.int k (mkIte c x y))) .no else .bad
      | .av (.c (.bool x)), .av (.c (.bool y)) => .ok [] (.ce (.bool (mkIte c x y))) .no
      | _, _ => .bad
  | .alloc t, [] => match zeroCells C.P t with
    | some z => .ok [] (.ce (.ptr id 0)) (.new id ⟨z, t⟩)
    | none => .bad
  | .box t _, [.av v] => if v.cells.all Cell.known then .ok [] (.ce (.ptr id 0)) (.new id ⟨v.cells, t⟩) else .bad
  | .build t ps, vs => match asAVs vs with
    | some avs => match builtA C.P t ((ps.toList.map (·.1)).zip avs) with
      | some cs => .ok [] (.av (.agg cs)) .no
      | none => .bad
    | none => .bad
  | .buildSlice t len ps, vs => match C.P.underlying t, asAVs vs with
    | some (.slice e), some avs => match sizeP C.P e, zeroCells C.P e with
      | some s, some z =>
        if z.length = s ∧ (0 < len * s ∨ len = 0) ∧ len * s ≤ 1000 then
          match fillA (fun i => some (i * s, s)) (rep z len) ((ps.toList.map (·.1)).zip avs) with
          | some cs => .ok [] (.ce (.sl id 0 len len)) (.new id ⟨cs, e⟩)
          | none => .bad
        else .bad
      | _, _ => .bad
    | _, _ => .bad
  | .load t _, [.av (.c (.ptr _ _))] => match aggP C.P t, mem with
    | some true, some cs => .ok [] (.av (.agg cs)) .no
    | some false, some [c] => if c.known then .ok [] (.ce c) .no else .bad
    | _, _ => .bad
  | .store t _ _, [.av (.c (.ptr b o)), .av v] => match mem, sizeP C.P t with
    | some old, some s => if v.cells.length = s ∧ old.length = s ∧ v.cells.all Cell.known then .ok [] .undef (.wr b o v.cells) else .bad
    | _, _ => .bad
  | .nilCheck _, [.av (.c (.ptr b o))] => .ok [] (.ce (.ptr b o)) .no
  | .binOp op t _ _ _, [x, y] => binA C.P fs op t x y
  | .unOp .not _ _, [.av (.c (.bool x))] => .ok [] (.ce (.bool (mkNot x))) .no
  | .unOp .neg _ _, [.av (.c (.int k x))] => .ok [] (.ce (.int k (mkAr .sub k (.int 0) x))) .no
  | .unOp .xor _ _, [.av (.c (.int k x))] => .ok [] (.ce (.int k (mkAr .xor k (.int (if k.signed then -1 else k.max)) x))) .no
  | .convert s d _, [.av (.c (.int _ x))] => match C.P.underlying s, C.P.underlying d with
    | some _, some (.int k) => .ok [] (.ce (.int k (mkConv k x))) .no
    | _, _ => .bad
  | .fieldAddr s _ f, [.av (.c (.ptr b o))] => match C.P.underlying s with
    | some (.struct fields) => match fields[f]? with
      | some fd => match sizeP C.P fd.type with
        | some n => if n = 0 then .bad else .ok [] (.ce (.ptr b (o + fd.offset))) .no
        | none => .bad
      | none => .bad
    | _ => .bad
  | .field t _ f, [.av (.agg cs)] => match C.P.underlying t with
    | some (.struct fields) => match fields[f]? with
      | some fd => match partA C.P fd.type cs fd.offset with
        | some v => .ok [] (.av v) .no
        | none => .bad
      | none => .bad
    | _ => .bad
  | .indexAddr t _ _, [.av (.c (.ptr b o)), .av (.c (.int _ x))] => match C.P.underlying t with
    | some (.array len e) => addrOf C.P fs b o len e x len
    | _ => .bad
  | .indexAddr t _ _, [.av (.c (.sl b o len _)), .av (.c (.int _ x))] => match C.P.underlying t with
    | some (.slice e) => addrOf C.P fs b o len e x len
    | _ => .bad
  | .index t _ _, [.av (.agg cs), .av (.c (.int _ x))] => match C.P.underlying t with
    | some (.array len e) => match lit? fs x with
      | some i => match sizeP C.P e with
        | some s => if 0 ≤ i ∧ i < len then
            match partA C.P e cs (i.toNat * s) with
            | some v => .ok [] (.av v) .no
            | none => .bad
          else .bad
        | none => .bad
      | none => forkIx fs x len 0
    | _ => .bad
  | .extract _ i, [.tup vs] => match vs[i]? with
    | some v => .ok [] (.av v) .no
    | none => .bad
  | .call { callee := .builtin .len, argTypes := ⟨[t]⟩, .. }, [.av v] => match C.P.underlying t, v with
    | some (.slice _), .c (.sl _ _ n _) => .ok [] (.ce (.int .i64 (.int n))) .no
    | some (.slice _), .c (.vec _ n _) => .ok [] (.ce (.int .i64 (.int n))) .no
    | some (.slice _), .c .slnil => .ok [] (.ce (.int .i64 (.int 0))) .no
    | some (.array n _), _ => .ok [] (.ce (.int .i64 (.int n))) .no
    | some .string, .c (.str e) => .ok [] (.ce (.int .i64 (.slen e))) .no
    | _, _ => .bad
  | .call { callee := .builtin .max, .. }, .av (.c (.int k x)) :: r => match foldMM mkMx k x r with
    | some e => .ok [] (.ce (.int k e)) .no
    | none => .bad
  | .call { callee := .builtin .min, .. }, .av (.c (.int k x)) :: r => match foldMM mkMn k x r with
    | some e => .ok [] (.ce (.int k e)) .no
    | none => .bad
  | .call { callee := .value _, .. }, .av (.c (.fn f [])) :: r => if isList C f then match r with
      | [.av (.c (.sl _ _ n _))] => stepList C f n mem
      | _ => .bad
    else if isOff C f then match r with
      | [.av (.c (.ptr b o)), .av (.c (.int .i64 x))] => stepOff C fs f b o x
      | _ => .bad
    else match asAVs r with
    | some args => stepCall C f args
    | none => .bad
  | .makeFunc (.func f) ⟨[]⟩ _, vs => match capsOf vs with
    | some caps => .ok [] (.ce (.fn f caps)) .no
    | none => .bad
  | .indexAddr t _ _, [.av (.c (.vec b len _)), .av (.c (.int _ x))] => match C.P.underlying t with
    | some (.slice e) => addrOf C.P fs b 0 len e x len
    | _ => .bad
  | _, _ => .bad
where
  capsOf : List TV → Option (List (Nat × Nat))
    | [] => some []
    | .av (.c (.ptr b o)) :: r => (capsOf r).map ((b, o) :: ·)
    | _ => none
/-- The cells that an operation reads or writes in memory. -/
def foot (C : Cfg) (op : Op) (vs : List TV) : Option (Nat × Nat × Nat) :=
  match op, vs with
  | .load t _, .av (.c (.ptr b o)) :: _ => (sizeP C.P t).map fun n => (b, o, n)
  | .store t _ _, .av (.c (.ptr b o)) :: _ => (sizeP C.P t).map fun n => (b, o, n)
  | .call { callee := .value _, .. }, [.av (.c (.fn f [])), .av (.c (.sl b o n _))] => if isList C f then some (b, o, n) else none
  | _, _ => none
def readH (heap : List (Option Blk)) : Nat × Nat × Nat → Option (List Cell)
  | (b, o, n) => match heap[b]? with
    | some (some blk) => if o + n ≤ blk.cells.length then some ((blk.cells.drop o).take n) else none
    | _ => none
def memOf (C : Cfg) (heap : List (Option Blk)) (op : Op) (vs : List TV) : Option (List Cell) := (foot C op vs).bind (readH heap)
def Eff.apply (heap : List (Option Blk)) : Eff → List (Option Blk)
  | .no => heap
  | .new id b => heap.set id (some b)
  | .wr b o cs => match heap[b]? with
    | some (some blk) => heap.set b (some { blk with cells := setCellsA blk.cells o cs })
    | _ => heap
def putA (tm : List TV) (dst : Option Nat) (tv : TV) : List TV :=
  match dst with
  | some d => tm.set d tv
  | none => tm
def dstOk (tm : List TV) : Option Nat → Bool
  | some d => decide (d < tm.length)
  | none => true
/-- Is the operation wanted? none: cannot be said. -/
def wantedV (ops : List Oper) (tm : Nat → Option TV) (o : Oper) : Option Bool :=
  match o.guard with
  | none => some true
  | some (j, want) => match (ops[j]?).bind (·.dst) with
    | none => none
    | some d => match tm d with
      | some (.av (.c (.bool (.bool b)))) => some (b == want)
      | some (.tup _) => some false
      | _ => none
def wantedA (ops : List Oper) (tm : List TV) (o : Oper) : Option Bool := wantedV ops (fun t => tm[t]?) o

/-! ### Trees -/
inductive Ex where
  | normal
  | exit (id : Nat)
  | ret
inductive Out where
  | st (x : Ex) (σ : St)
  | cont (d : Nat) (es : List E)
  | ret (tv : TV) (σ : St)
  | res (es : List E)
inductive T where
  | leaf (o : Out)
  | ite (c : E) (a b : T)
  | need (n : Need) (t : T)
  | loop (init : List E) (body : T)
  | bad
/-- Under one more loop: 'cont 0' is the innermost loop's next round. -/
def T.shift : T → Nat → T
  | .leaf (.cont d es), k => .leaf (.cont (if d < k then d else d + 1) es)
  | .leaf o, _ => .leaf o
  | .ite c a b, k => .ite c (a.shift k) (b.shift k)
  | .need n t, k => .need n (t.shift k)
  | .loop i b, k => .loop i (b.shift (k + 1))
  | .bad, _ => .bad
def T.bind : T → (Out → T) → T
  | .leaf (.cont d es), _ => .leaf (.cont d es)
  | .leaf o, f => f o
  | .ite c a b, f => .ite c (a.bind f) (b.bind f)
  | .need n t, f => .need n (t.bind f)
  | .loop i b, f => .loop i (b.bind fun o => (f o).shift 0)
  | .bad, _ => .bad
inductive R (α : Type) where
  | leaf (a : α)
  | ite (c : E) (a b : R α)
  | need (n : Need) (t : R α)
  | bad
def R.toT {α : Type} : R α → (α → T) → T
  | .leaf a, f => f a
  | .ite c a b, f => .ite c (a.toT f) (b.toT f)
  | .need n t, f => .need n (t.toT f)
  | .bad, _ => .bad
def R.bind {α β : Type} : R α → (α → R β) → R β
  | .leaf a, f => f a
  | .ite c a b, f => .ite c (a.bind f) (b.bind f)
  | .need n t, f => .need n (t.bind f)
  | .bad, _ => .bad
def R.needs {α : Type} : List Need → R α → R α
  | [], r => r
  | .c (.bool true) :: ns, r => R.needs ns r
  | n :: ns, r => .need n (R.needs ns r)
def forkR {α : Type} (c : E) (fs : Facts) (k : Facts → Bool → R α) : R α :=
  match c with
  | .bool b => k fs b
  | .not c => .ite c (k ((c, true) :: fs) false) (k ((c, false) :: fs) true)
  | c => .ite c (k ((c, true) :: fs) true) (k ((c, false) :: fs) false)
def runStep (mk : Facts → SR) : Nat → Facts → R (Facts × TV × Eff)
  | 0, _ => .bad
  | n + 1, fs => match mk fs with
    | .ok ns tv eff => .needs ns (.leaf (fs, tv, eff))
    | .fork c => forkR c fs fun fs' _ => runStep mk n fs'
    | .bad => .bad
def isGuard (ops : List Oper) (i : Nat) : Bool := ops.any fun o => match o.guard with
  | some (j, _) => j == i
  | none => false
def litGuard (g : Bool) (x : Facts × TV × Eff) : R (Facts × TV × Eff) :=
  match g, x with
  | true, (fs, .av (.c (.bool e)), eff) => forkR (resolve fs e) fs fun fs' b => .leaf (fs', .ce (.bool (.bool b)), eff)
  | _, x => .leaf x
def opR (C : Cfg) (ops : List Oper) (i : Nat) (o : Oper) (vs : List TV) (mem : Option (List Cell)) (id : Nat) (fs : Facts) : R (Facts × TV × Eff) :=
  (runStep (fun fs => step C fs o.op vs mem id) 20 fs).bind (litGuard (isGuard ops i))
def Eff.isNew : Eff → Bool
  | .new _ _ => true
  | _ => false
def operandsV (tm : Nat → Option TV) (op : Op) : Option (List TV) := op.operands.toList.mapM (evalV tm)
def operands (tm : List TV) (op : Op) : Option (List TV) := operandsV (fun t => tm[t]?) op
/-! ### Scopes -/
def E.sc (n : Nat) : E → Bool
  | .var i => decide (i < n)
  | .ar _ _ x y => x.sc n && y.sc n
  | .cmp _ x y => x.sc n && y.sc n
  | .eqb x y => x.sc n && y.sc n
  | .not x => x.sc n
  | .and x y => x.sc n && y.sc n
  | .conv _ x => x.sc n
  | .mx x y => x.sc n && y.sc n
  | .mn x y => x.sc n && y.sc n
  | .ite c x y => c.sc n && x.sc n && y.sc n
  | .toI x => x.sc n
  | .toB x => x.sc n
  | .toS x => x.sc n
  | .eqs x y => x.sc n && y.sc n
  | .slt x y => x.sc n && y.sc n
  | .slen x => x.sc n
  | .sat x y => x.sc n && y.sc n
  | .ssub x y z => x.sc n && y.sc n && z.sc n
  | .scat x y => x.sc n && y.sc n
  | .szok x y => x.sc n && y.sc n
  | .cons x y => x.sc n && y.sc n
  | .app _ a _ => a.sc n
  | _ => true
def Cell.scE (n : Nat) : Cell → Bool
  | .int _ e => e.sc n
  | .bool e => e.sc n
  | .str e => e.sc n
  | _ => true
def AV.scE (n : Nat) : AV → Bool
  | .c x => x.scE n
  | .agg cs => cs.all (·.scE n)
def TV.scE (n : Nat) : TV → Bool
  | .av v => v.scE n
  | .tup vs => vs.all (·.scE n)
/-! ### A region in the order of the text -/
def inlOf (C : Cfg) (op : Op) (vs : List TV) : Option (Nat × List TV) :=
  match op, vs with
  | .call { callee := .value _, .. }, .av (.c (.fn f caps)) :: r => if C.inl f && callable C.P f then some (f, r ++ caps.map fun p => .ce (.ptr p.1 p.2)) else none
  | _, _ => none
def cellV (heap : List (Option Blk)) (b o : Nat) : Option Cell := match heap[b]? with
  | some (some blk) => blk.cells[o]?
  | _ => none
def tyV (heap : List (Option Blk)) (b : Nat) : Option Nat := match heap[b]? with
  | some (some blk) => some blk.ty
  | _ => none
/-- 'append': the new slice, the block that is read no more, the new block. -/
def appOf (C : Cfg) (op : Op) (vs : List TV) (heap : List (Option Blk)) : Option (TV × Option Nat × Blk) :=
  match op, vs with
  | .call { callee := .builtin .append, argTypes := ⟨[t, t']⟩, .. }, [.av (.c s), .av (.c (.sl b2 o2 k _))] =>
    match C.P.underlying t with
    | some (.slice e) => match C.P.info? e, zeroCells C.P e with
      | some i, some z => match readH heap (b2, o2, k * i.size) with
        | some news =>
          if t' = t ∧ z.length = i.size ∧ 0 < i.size ∧ 0 < k ∧ news.all Cell.known = true then
            match s with
            | .slnil => if k * i.bytes ≤ 1000000 ∧ k ≤ 1000000 then some (.ce (.vec heap.length k i.size), none, ⟨news, e⟩) else none
            | .sl b 0 n cap => match readH heap (b, 0, n * i.size) with
              | some olds => if cap < n + k ∧ (n + k) * i.bytes ≤ 1000000 ∧ n + k ≤ 1000000 then some (.ce (.vec heap.length (n + k) i.size), none, ⟨olds ++ news, e⟩) else none
              | none => none
            | .vec b n s' => match readH heap (b, 0, n * i.size), tyV heap b with
              | some olds, some T => if s' = i.size ∧ T = e ∧ 0 < n ∧ b ≠ b2 ∧ (n + k) * i.bytes ≤ 1000000 ∧ n + k ≤ 1000000 then some (.ce (.vec heap.length (n + k) i.size), some b, ⟨olds ++ news, e⟩) else none
              | _, _ => none
            | _ => none
          else none
        | none => none
      | _, _ => none
    | _ => none
  | _, _ => none
def kill (heap : List (Option Blk)) : Option Nat → List (Option Blk)
  | none => heap
  | some b => match heap[b]? with
    | some (some blk) => heap.set b (some { blk with cells := [] })
    | _ => heap
def seqOps (C : Cfg) (call : Nat → List TV → St → T) (ops : List Oper) : Nat → List Oper → St → T
  | _, [], σ => .leaf (.st .normal σ)
  | i, o :: rest, σ =>
    if dstOk σ.tm o.dst then
      match wantedA ops σ.tm o with
      | none => .bad
      | some false => seqOps C call ops (i + 1) rest { σ with tm := putA σ.tm o.dst .undef }
      | some true => match operands σ.tm o.op with
        | none => .bad
        | some vs => match appOf C o.op vs σ.heap with
         | some (tv, src, blk) => seqOps C call ops (i + 1) rest { σ with tm := putA σ.tm o.dst tv, heap := kill σ.heap src ++ [some blk] }
         | none => match inlOf C o.op vs with
          | some (f, args) => (call f args σ).bind fun
            | .ret tv σ' => if σ'.nv = σ.nv ∨ σ.tm.all (TV.scE σ.nv) = true then seqOps C call ops (i + 1) rest { σ' with tm := putA σ.tm o.dst tv } else .bad
            | out => .leaf out
          | none => (opR C ops i o vs (memOf C σ.heap o.op vs) σ.heap.length σ.facts).toT fun (fs, tv, eff) =>
            seqOps C call ops (i + 1) rest { σ with tm := putA σ.tm o.dst tv, heap := eff.apply (if eff.isNew then σ.heap ++ [none] else σ.heap), facts := fs }
    else .bad
/-! ### A region that draws its order -/
structure Rec where
  dst : Option Nat
  looks : List Nat
  tv : TV
  eff : Eff
  rd : Option (Nat × Nat × Nat)
def tmpsOf (xs : List Operand) : List Nat := xs.filterMap fun | .tmp t => some t | _ => none
def looksOf (ops : List Oper) (o : Oper) : List Nat :=
  tmpsOf o.op.operands.toList ++ (match o.guard with
    | some (j, _) => ((ops[j]?).bind (·.dst)).toList
    | none => [])
def drawOps (C : Cfg) (ops : List Oper) (base : Nat) : Nat → List Oper → St → R (St × List Rec)
  | _, [], σ => .leaf (σ, [])
  | i, o :: rest, σ =>
    if dstOk σ.tm o.dst then
      match wantedA ops σ.tm o with
      | none => .bad
      | some false => (drawOps C ops base (i + 1) rest { σ with tm := putA σ.tm o.dst .undef }).bind fun (σ', rs) =>
        .leaf (σ', ⟨o.dst, looksOf ops o, .undef, .no, none⟩ :: rs)
      | some true => match operands σ.tm o.op with
        | none => .bad
        | some vs => (opR C ops i o vs (memOf C σ.heap o.op vs) (base + i) σ.facts).bind fun (fs, tv, eff) =>
          (drawOps C ops base (i + 1) rest { σ with tm := putA σ.tm o.dst tv, heap := eff.apply σ.heap, facts := fs }).bind fun (σ', rs) =>
            .leaf (σ', ⟨o.dst, looksOf ops o, tv, eff, foot C o.op vs⟩ :: rs)
    else .bad
def Eff.touch : Eff → Option (Nat × Option (Nat × Nat))
  | .no => none
  | .new id _ => some (id, none)
  | .wr b o cs => some (b, some (o, cs.length))
def Rec.rdTouch (r : Rec) : Option (Nat × Option (Nat × Nat)) := r.rd.map fun (b, o, n) => (b, some (o, n))
def meet : Option (Nat × Option (Nat × Nat)) → Option (Nat × Option (Nat × Nat)) → Bool
  | some (b, x), some (b', y) => b == b' && (match x, y with
    | some (o, n), some (o', n') => decide (o < o' + n') && decide (o' < o + n)
    | _, _ => true)
  | _, _ => false
def Rec.clash (x y : Rec) : Bool :=
  (match x.dst with
   | some d => y.looks.contains d || y.dst == some d
   | none => false) ||
  (match y.dst with
   | some d => x.looks.contains d
   | none => false) ||
  meet x.eff.touch y.eff.touch || meet x.eff.touch y.rdTouch || meet y.eff.touch x.rdTouch
def maskOf (ms : List Nat) (o : Oper) : Nat :=
  o.after.toList.foldl (fun s e => if Region.binds .any e then s ||| (2 ^ e.on) ||| ms.getD e.on 0 else s) 0
def masks : List Oper → List Nat → List Nat
  | [], ms => ms
  | o :: os, ms => masks os (ms ++ [maskOf ms o])
def edgesOk : Nat → List Oper → Bool
  | _, [] => true
  | i, o :: os => o.after.toList.all (fun e => !Region.binds .any e || decide (e.on < i)) && edgesOk (i + 1) os
/-- Record j against all that stand before it. -/
def clashFree (m : Nat) (r : Rec) : Nat → List Rec → Bool
  | _, [] => true
  | i, x :: xs => (m.testBit i || !x.clash r) && clashFree m r (i + 1) xs
def drawCheck (ms : List Nat) : List Rec → Nat → List Rec → Bool
  | _, _, [] => true
  | before, j, r :: rs => clashFree (ms.getD j 0) r 0 before && drawCheck ms (before ++ [r]) (j + 1) rs
def drawT (C : Cfg) (ops : List Oper) (σ : St) : T :=
  if edgesOk 0 ops then
    (drawOps C ops σ.heap.length 0 ops { σ with heap := σ.heap ++ List.replicate ops.length none }).toT fun (σ', rs) =>
      if drawCheck (masks ops []) [] 0 rs then .leaf (.st .normal σ') else .bad
  else .bad
/-! ### Code -/
def firstRegion : Code → Nat
  | .region id _ _ => id
  | .seq a _ => firstRegion a
  | .block _ c => firstRegion c
  | .loop c => firstRegion c
  | .scope c => firstRegion c
  | _ => 0
def dstsOf : Code → List Nat
  | .region _ ops _ => ops.toList.filterMap (·.dst)
  | .seq a b => dstsOf a ++ dstsOf b
  | .cond _ a b => dstsOf a ++ dstsOf b
  | .block _ c => dstsOf c
  | .loop c => dstsOf c
  | .scope c => dstsOf c
  | _ => []
/-- Expressions below n, pointers to live blocks. -/
def Cell.sc (n : Nat) (live : Nat → Bool) : Cell → Bool
  | .int _ e => e.sc n
  | .bool e => e.sc n
  | .str e => e.sc n
  | .ptr b _ => live b
  | .sl b _ _ _ => live b
  | .vec b _ _ => live b
  | .fn _ caps => caps.all fun p => live p.1
  | _ => true
def AV.sc (n : Nat) (live : Nat → Bool) : AV → Bool
  | .c x => x.sc n live
  | .agg cs => cs.all (·.sc n live)
def TV.sc (n : Nat) (live : Nat → Bool) : TV → Bool
  | .av v => v.sc n live
  | .tup vs => vs.all (·.sc n live)
def St.sc (n : Nat) (σ : St) : Bool :=
  σ.tm.all (·.sc n fun b => (tyV σ.heap b).isSome) && σ.facts.all (fun p => p.1.sc n) && σ.heap.all fun
    | some b => b.cells.all (·.sc n fun b => (tyV σ.heap b).isSome)
    | none => true
def scalarOf (k : K) : Cell → Option E
  | .int k' e => match k with | .int k'' => if k' = k'' then some e else none | _ => none
  | .bool e => match k with | .bool => some e | _ => none
  | _ => none
/-- The values of the slots that a loop changes and that live on. -/
def modVals (σ : St) : List (Nat × K) → Option (List E)
  | [] => some []
  | (t, k) :: r => match σ.tm[t]?, modVals σ r with
    | some (.av (.c c)), some es => (scalarOf k c).map (· :: es)
    | _, _ => none
def cellVals (heap : List (Option Blk)) : List (Nat × Nat × K) → Option (List E)
  | [] => some []
  | (b, o, k) :: r => match readH heap (b, o, 1), cellVals heap r with
    | some [c], some es => (scalarOf k c).map (· :: es)
    | _, _ => none
def blocksOf (σ : St) : List (Nat × Nat × K) → Option (List (Nat × Nat × K))
  | [] => some []
  | (t, o, k) :: r => match σ.tm[t]?, blocksOf σ r with
    | some (.av (.c (.ptr b o'))), some l => some ((b, o' + o, k) :: l)
    | _, _ => none
def setMods (tm : List TV) : Nat → List (Nat × K) → List TV
  | _, [] => tm
  | n, (t, k) :: r => setMods (tm.set t (.ce (k.cell (.var n)))) (n + 1) r
def setMcells (heap : List (Option Blk)) : Nat → List (Nat × Nat × K) → List (Option Blk)
  | _, [] => heap
  | n, (b, o, k) :: r => setMcells (Eff.apply heap (.wr b o [k.cell (.var n)])) (n + 1) r
def forget (tm : List TV) : List Nat → List TV
  | [] => tm
  | t :: ts => forget (tm.set t (.ce .unk)) ts
def TV.fits (p q : TV) : Bool := decide (p = q) || decide (q = .ce .unk)
def fitsAll : List TV → List TV → Bool
  | [], [] => true
  | x :: xs, y :: ys => x.fits y && fitsAll xs ys
  | _, _ => false
def blkFits : Option Blk → Option Blk → Bool
  | some x, some y => decide (x.cells = y.cells) && decide (x.ty = y.ty)
  | _, none => true
  | none, some _ => false
def heapFits : List (Option Blk) → List (Option Blk) → Bool
  | _, [] => true
  | x :: xs, y :: ys => blkFits x y && heapFits xs ys
  | [], _ :: _ => false
/-- Behind a round: the state fits the loop's head, but for what the loop changes. -/
def contOf (σL : St) (nv : Nat) (mods : List (Nat × K)) (mcs : List (Nat × Nat × K)) (σ' : St) : Option (List E) :=
  match modVals σ' mods, cellVals σ'.heap mcs with
  | some es, some es' =>
    if fitsAll (setMods σ'.tm nv mods) σL.tm && heapFits (setMcells σ'.heap (nv + mods.length) mcs) σL.heap then some (es ++ es') else none
  | _, _ => none
def resA (C : Cfg) (σ : St) : ResultVar → Option AV
  | .tmp t => match σ.tm[t]? with
    | some (.av v) => some v
    | _ => none
  | .cell a t => match σ.tm[a]?, aggP C.P t, sizeP C.P t with
    | some (.av (.c (.ptr b o))), some true, some s => (readH σ.heap (b, o, s)).map .agg
    | some (.av (.c (.ptr b o))), some false, some _ => match readH σ.heap (b, o, 1) with
      | some [c] => if c.known then some (.c c) else none
      | _ => none
    | _, _, _ => none
def resultsA (fn : Func) (C : Cfg) (σ : St) : Option TV := (fn.results.toList.mapM (resA C σ)).map tvOf
def forkT (c : E) (σ : St) (k : St → Bool → T) : T :=
  match resolve σ.facts c with
  | .bool b => k σ b
  | .not c => .ite c (k { σ with facts := (c, true) :: σ.facts } false) (k { σ with facts := (c, false) :: σ.facts } true)
  | c => .ite c (k { σ with facts := (c, true) :: σ.facts } true) (k { σ with facts := (c, false) :: σ.facts } false)
def exec (C : Cfg) : Nat → Nat → Code → St → T
  | 0, _, _, _ => .bad
  | n + 1, fid, code, σ => match code with
    | .skip => .leaf (.st .normal σ)
    | .seq a b => (exec C n fid a σ).bind fun
      | .st .normal σ' => exec C n fid b σ'
      | o => .leaf o
    | .cond c a b => match evalA σ.tm c with
      | some (.av (.c (.bool e))) => forkT e σ fun σ' t => if t then exec C n fid a σ' else exec C n fid b σ'
      | _ => .bad
    | .block id c => (exec C n fid c σ).bind fun
      | .st (.exit id') σ' => if id' = id then .leaf (.st .normal σ') else .leaf (.st (.exit id') σ')
      | o => .leaf o
    | .exit id => .leaf (.st (.exit id) σ)
    | .ret => .leaf (.st .ret σ)
    | .region _ ops draw =>
      if draw then drawT C ops.toList σ
      else seqOps C (fun f args σ => match C.P.funcs[f]? with
        | some fn => match fn.body with
          | some body => (exec C n f body { σ with tm := args ++ List.replicate (fn.ntmps - args.length) .undef }).bind fun
            | .st .normal σ' | .st .ret σ' => match resultsA fn C σ' with
              | some tv => .leaf (.ret tv σ')
              | none => .bad
            | _ => .bad
          | none => .bad
        | none => .bad) ops.toList 0 ops.toList σ
    | .loop body => match C.loop fid (firstRegion body) with
      | none => (exec C n fid body σ).bind fun
        | .st .normal σ' => exec C n fid (.loop body) σ'
        | o => .leaf o
      | some lc => match modVals σ lc.mods, blocksOf σ lc.cells with
        | some init, some mcs => match cellVals σ.heap mcs with
          | some init' =>
            if σ.sc σ.nv then
              let σL : St := { tm := setMods (forget σ.tm (dstsOf body)) σ.nv lc.mods, heap := setMcells σ.heap (σ.nv + lc.mods.length) mcs, facts := σ.facts, nv := σ.nv + lc.mods.length + mcs.length }
              .loop (init ++ init') ((exec C n fid body σL).bind fun
                | .st .normal σ' => match contOf σL σ.nv lc.mods mcs σ' with
                  | some es => .leaf (.cont 0 es)
                  | none => .bad
                | o => .leaf o)
            else .bad
          | none => .bad
        | _, _ => .bad
    | _ => .bad

/-! ### A function -/
def argCells : List K → Nat → List Cell
  | [], _ => []
  | k :: ks, i => k.cell (.var i) :: argCells ks (i + 1)
def argAV : Sh → Nat → AV
  | .one k, i => .c (k.cell (.var i))
  | .agg ks, i => .agg (argCells ks i)
def argAVs : List Sh → Nat → List AV
  | [], _ => []
  | s :: ss, i => argAV s i :: argAVs ss (i + s.size)
def shSize : List Sh → Nat
  | [] => 0
  | s :: ss => s.size + shSize ss
def flatTV : List Sh → TV → Option (List E)
  | [s], .av v => flatAVs [s] [v]
  | [_], _ => none
  | ss, .tup vs => flatAVs ss vs
  | _, _ => none
def fnT (C : Cfg) (f : Nat) (fn : Func) (body : Code) (sg : Sig) (fuel : Nat) : T :=
  let args := (argAVs sg.args 0).map TV.av
  (exec C fuel f body { tm := args ++ List.replicate (fn.ntmps - args.length) .undef, heap := [], facts := [], nv := shSize sg.args }).bind fun
    | .st .normal σ' | .st .ret σ' => match (resultsA fn C σ').bind (flatTV sg.res) with
      | some es => .leaf (.res es)
      | none => .bad
    | _ => .bad

def loopQ (it : List Sc → Prop) (Φ : Ctx) (Q : Out → List Sc → Prop) : Out → List Sc → Prop
  | .cont 0 es, ρ => it (es.map (E.den Φ ρ))
  | .cont (d + 1) es, ρ => Q (.cont d es) ρ
  | o, ρ => Q o ρ
def iterH (B : List Sc → (Out → List Sc → Prop) → Prop) (Φ : Ctx) (ρ : List Sc) (Q : Out → List Sc → Prop) : Nat → List Sc → Prop
  | 0, _ => False
  | n + 1, vs => B (ρ ++ vs) (loopQ (iterH B Φ ρ Q n) Φ Q)
def Need.holds (Φ : Ctx) (ρ : List Sc) : Need → Bool
  | .c e => (e.den Φ ρ).toBool
  | .pre f a => (Φ f).pre (a.dens Φ ρ)
def T.holds (Φ : Ctx) : T → List Sc → (Out → List Sc → Prop) → Prop
  | .leaf o, ρ, Q => Q o ρ
  | .ite c a b, ρ, Q => cond (c.den Φ ρ).toBool (a.holds Φ ρ Q) (b.holds Φ ρ Q)
  | .need n t, ρ, Q => cond (n.holds Φ ρ) (t.holds Φ ρ Q) False
  | .loop init b, ρ, Q => ∃ n, iterH (fun ρ' Q' => b.holds Φ ρ' Q') Φ ρ Q n (init.map (E.den Φ ρ))
  | .bad, _, _ => False
def resQ (Φ : Ctx) (Q : List Sc → Prop) : Out → List Sc → Prop
  | .res es, ρ => Q (es.map (E.den Φ ρ))
  | _, _ => False
end Go.Sx
