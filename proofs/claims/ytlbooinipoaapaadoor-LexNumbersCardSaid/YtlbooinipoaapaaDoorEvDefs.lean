/- The evaluator: a program's code over blocks of our own; definitions alone. What is closed (a function's code, its types) is reckoned once by whoever evaluates. -/
import Derived.Orders
namespace Go.Ev

/-! ### Trees by paths -/
inductive D where | a | b | c | d
  deriving DecidableEq
/-- The path of a number: its digits, the least first (a, b, c, d are 1, 2, 3, 4; 0 has none). -/
abbrev Path := List D
noncomputable def digitOf (k : Nat) : D := Nat.casesOn k D.a (fun j => Nat.casesOn j D.b (fun i => Nat.casesOn i D.c (fun _ => D.d)))
noncomputable def pathGo (f : Nat) : Nat → Path := Nat.rec (fun _ => []) (fun _ ih m => Nat.casesOn m [] (fun k => digitOf (k % 4) :: ih (k / 4))) f
noncomputable def pathOf (n : Nat) : Path := pathGo (n + 1) n
noncomputable def inc (p : Path) : Path := List.rec [D.a] (fun x l ih => D.casesOn x (D.b :: l) (D.c :: l) (D.d :: l) (D.a :: ih)) p

inductive Tr (α : Type) where
  | nil
  | node (v : Option α) (t0 t1 t2 t3 : Tr α)
noncomputable def get {α : Type} (p : Path) : Tr α → Option α :=
  List.rec (fun t => Tr.casesOn t none (fun v _ _ _ _ => v)) (fun x _ ih t => Tr.casesOn t none (fun _ t0 t1 t2 t3 => D.casesOn x (ih t0) (ih t1) (ih t2) (ih t3))) p
noncomputable def set {α : Type} (p : Path) (v : Option α) : Tr α → Tr α :=
  List.rec (fun t => Tr.casesOn t (.node v .nil .nil .nil .nil) (fun _ t0 t1 t2 t3 => .node v t0 t1 t2 t3))
    (fun x _ ih t => Tr.casesOn t
      (D.casesOn x (.node none (ih .nil) .nil .nil .nil) (.node none .nil (ih .nil) .nil .nil) (.node none .nil .nil (ih .nil) .nil) (.node none .nil .nil .nil (ih .nil)))
      (fun w t0 t1 t2 t3 => D.casesOn x (.node w (ih t0) t1 t2 t3) (.node w t0 (ih t1) t2 t3) (.node w t0 t1 (ih t2) t3) (.node w t0 t1 t2 (ih t3)))) p

/-! ### Values, slots, blocks -/
inductive AV where
  | bool (b : Bool)
  | int (k : IntKind) (n : Int)
  | res (k : IntKind) (m r : Nat)
  | str (s : ByteArray)
  | ptr (b : Path) (off : Nat)
  | nilp
  | sl (b : Path) (k i n : Nat)
  | sle
  | nils
  | fn (f : FuncId) (first caps : List AV)
  | nilfn
  | ifc (t : TypeId) (v : AV)
  | nilif
  | mp (p : Path)
  | nilm
  | agg (l : List AV)
  | tup (l : List AV)

/-- What a slot holds: a value; nothing as yet; a block of the call's own, by its number and its cells; an address within such a block. -/
inductive Sl where
  | v (a : AV)
  | und
  | box (g : Nat) (l : List AV)
  | lp (d : Path) (g off : Nat)
abbrev FT := Tr Sl

/-- A block: n rows of k cells each; grows: nobody knows its capacity; ro: it came in; map: a map, its rows its entries, of two values each. -/
structure Blk where
  k : Nat
  n : Nat
  rows : Tr (List AV)
  grows : Bool
  ro : Bool
  map : Bool
structure H where
  next : Path
  t : Tr Blk
  gen : Nat
noncomputable def getC (p : Path) (t : Tr Blk) : Option Blk := match get p t with
  | some b => match b.map with | true => none | false => some b
  | none => none
noncomputable def H.new (h : H) (b : Blk) : H := ⟨inc h.next, set h.next (some b) h.t, h.gen⟩
noncomputable def H.put (h : H) (p : Path) (b : Option Blk) : H := ⟨h.next, set p b h.t, h.gen⟩

def ofCell : Value → Option AV
  | .bool b => some (.bool b)
  | .int k n => some (.int k n)
  | .string s => some (.str s)
  | .pointer none => some .nilp
  | .slice none 0 0 => some .nils
  | .nilFunc => some .nilfn
  | .nilIface => some .nilif
  | .map none => some .nilm
  | _ => none
def ofCells : List Value → Option (List AV)
  | [] => some []
  | v :: l => match ofCell v, ofCells l with | some a, some r => some (a :: r) | _, _ => none
def ofValue : Value → Option AV
  | .agg cs => match ofCells cs.toList with | some l => some (.agg l) | none => none
  | v => ofCell v

/-! ### Types -/
def isAggT (P : Program) (t : TypeId) : Option Bool := match P.underlying t with
  | some (.struct _) => some true
  | some (.array _ _) => some true
  | some _ => some false
  | none => none
def sizeT (P : Program) (t : TypeId) : Option Nat := match P.info? t with | some i => some i.size | none => none
def zeroT (P : Program) (t : TypeId) : Option (List AV) := match P.info? t with
  | some i => match i.zero with | some v => ofCells v.cells.toList | none => none
  | none => none
/-- A type's zero value. -/
def zeroV (P : Program) (t : TypeId) : Option AV := match P.info? t with
  | some i => match i.zero with | some v => ofValue v | none => none
  | none => none
def elemT (P : Program) (t : TypeId) : Option TypeId := match P.underlying t with | some (.slice e) => some e | _ => none
/-- Where field i of a struct type lies, how many cells it has, is it a struct or an array. -/
def fieldT (P : Program) (t : TypeId) (i : Nat) : Option (Nat × Nat × Bool) := match P.underlying t with
  | some (.struct fs) => match fs[i]? with
    | some f => match sizeT P f.type, isAggT P f.type with | some n, some g => some (f.offset, n, g) | _, _ => none
    | none => none
  | _ => none

/-! ### Reading and writing -/
/-- An operand, as it is read: a slot, a constant. -/
inductive Rd where
  | sl (p : Path)
  | k (a : AV)
  | bad
noncomputable def rd : Operand → Rd
  | .tmp t => .sl (pathOf t)
  | .const v => match ofValue v with | some a => .k a | none => .bad
  | .func f => .k (.fn f [] [])
  | .global _ => .bad
noncomputable def gv (x : Rd) (fr : FT) : Option AV := match x with
  | .sl p => match get p fr with | some (.v a) => some a | _ => none
  | .k a => some a
  | .bad => none
noncomputable def gvs (l : List Rd) (fr : FT) : Option (List AV) := match l with
  | [] => some []
  | x :: l => match gv x fr with | some a => (match gvs l fr with | some r => some (a :: r) | none => none) | none => none
def asSlot (t : Rd) : Option Path := match t with | .sl p => some p | _ => none
noncomputable def pt (d : Option Path) (s : Option Sl) (fr : FT) : FT := match d with | some d => set d s fr | none => fr

inductive Place where
  | loc (d : Path) (g off : Nat)
  | mem (b : Path) (off : Nat)
noncomputable def place (x : Rd) (fr : FT) : Option Place := match x with
  | .sl p => match get p fr with
    | some (.v (.ptr b o)) => some (.mem b o)
    | some (.box g _) => some (.loc p g 0)
    | some (.lp d g o) => some (.loc d g o)
    | _ => none
  | _ => none

/-- A value's cells; a call's results together are no value. -/
def cells : AV → Option (List AV)
  | .agg l => some l
  | .tup _ => none
  | a => some [a]
/-- n cells of a list, from a place on. -/
def cut (off n : Nat) (l : List AV) : Option (List AV) := match Nat.ble (off + n) l.length with | true => some ((l.drop off).take n) | false => none
def val (agg : Bool) (l : List AV) : Option AV := match agg with
  | true => some (.agg l)
  | false => match l with | [a] => some a | _ => none
/-- A list with cells at a place replaced. -/
def patch (off : Nat) (x l : List AV) : Option (List AV) := match Nat.ble (off + x.length) l.length with
  | true => some (l.take off ++ (x ++ l.drop (off + x.length)))
  | false => none

noncomputable def loadAt (fr : FT) (h : H) (p : Place) (n : Nat) : Option (List AV) := match p with
  | .loc d g o => match get d fr with
    | some (.box g' l) => match Nat.beq g' g with | true => cut o n l | false => none
    | _ => none
  | .mem b o => match getC b h.t with
    | some k => match get (pathOf (o / k.k)) k.rows with | some r => cut (o % k.k) n r | none => none
    | none => none
noncomputable def storeAt (fr : FT) (h : H) (p : Place) (x : List AV) : Option (FT × H) := match p with
  | .loc d g o => match get d fr with
    | some (.box g' l) => match Nat.beq g' g with
      | true => match patch o x l with | some l => some (set d (some (.box g' l)) fr, h) | none => none
      | false => none
    | _ => none
  | .mem b o => match getC b h.t with
    | some k => match k.ro with
      | true => none
      | false => match get (pathOf (o / k.k)) k.rows with
        | some r => match patch (o % k.k) x r with
          | some r => some (fr, h.put b (some { k with rows := set (pathOf (o / k.k)) (some r) k.rows }))
          | none => none
        | none => none
    | none => none

/-- Parts of a value, each at its place. -/
noncomputable def fill (l : List (Nat × Nat × Rd)) (fr : FT) (x : List AV) : Option (List AV) := match l with
  | [] => some x
  | (off, n, r) :: l => match gv r fr with
    | some a => match cells a with
      | some c => match Nat.beq c.length n with
        | true => match patch off c x with | some x => fill l fr x | none => none
        | false => none
      | none => none
    | none => none

/-! ### Rows -/
noncomputable def rowsOf (k : Nat) (n : Nat) : Nat → List AV → Tr (List AV) → Tr (List AV) :=
  Nat.rec (fun _ _ t => t) (fun _ ih i l t => ih (i + 1) (l.drop k) (set (pathOf i) (some (l.take k)) t)) n
noncomputable def repRows (z : List AV) (n : Nat) : Nat → Tr (List AV) → Tr (List AV) :=
  Nat.rec (fun _ t => t) (fun _ ih i t => ih (i + 1) (set (pathOf i) (some z) t)) n
noncomputable def copyRows (src : Tr (List AV)) (n : Nat) : Nat → Nat → Tr (List AV) → Option (Tr (List AV)) :=
  Nat.rec (fun _ _ t => some t) (fun _ ih i j t => Option.casesOn (get (pathOf i) src) none (fun r => ih (i + 1) (j + 1) (set (pathOf j) (some r) t))) n
noncomputable def byteRows (l : List UInt8) : Nat → Tr (List AV) → Tr (List AV) :=
  List.rec (fun _ t => t) (fun c _ ih i t => ih (i + 1) (set (pathOf i) (some [AV.int .u8 (.ofNat c.toNat)]) t)) l
noncomputable def bytesIn (rows : Tr (List AV)) (n : Nat) : Nat → Option (List UInt8) :=
  Nat.rec (fun _ => some []) (fun _ ih i => match get (pathOf i) rows with
    | some [.int .u8 (.ofNat c)] => match ih (i + 1) with | some l => some (UInt8.ofNat c :: l) | none => none
    | _ => none) n

/-! ### Arithmetic -/
def deq : D → D → Bool
  | .a, .a => true
  | .b, .b => true
  | .c, .c => true
  | .d, .d => true
  | _, _ => false
def peq : Path → Path → Bool
  | [], [] => true
  | u :: x, v :: y => match deq u v with | true => peq x y | false => false
  | _, _ => false
def bytesEq : List UInt8 → List UInt8 → Bool
  | [], [] => true
  | a :: x, b :: y => match Nat.beq a.toNat b.toNat with | true => bytesEq x y | false => false
  | _, _ => false
def ilt : Int → Int → Bool
  | .ofNat a, .ofNat b => Nat.blt a b
  | .ofNat _, .negSucc _ => false
  | .negSucc _, .ofNat _ => true
  | .negSucc a, .negSucc b => Nat.blt b a
def ieq : Int → Int → Bool
  | .ofNat a, .ofNat b => Nat.beq a b
  | .negSucc a, .negSucc b => Nat.beq a b
  | _, _ => false
def keq : IntKind → IntKind → Bool
  | .i64, .i64 => true
  | .u8, .u8 => true
  | j, k => decide (j = k)
def wrapF (k : IntKind) (n : Int) : Int := match k with
  | .i64 => match n with
    | .ofNat m => match Nat.blt m 9223372036854775808 with | true => .ofNat m | false => IntKind.wrap .i64 n
    | .negSucc m => match Nat.blt m 9223372036854775808 with | true => .negSucc m | false => IntKind.wrap .i64 n
  | k => k.wrap n
/-- As what two values are held against each other. -/
inductive ET where | bool | int | str | ptr | slc | fn | ifc
def aeq (t : ET) (x y : AV) : Option Bool := match t with
  | .bool => match x, y with
    | .bool a, .bool b => some (match a with | true => b | false => !b)
    | _, _ => none
  | .int => match x, y with
    | .int j a, .int k b => match keq j k with | true => some (ieq a b) | false => none
    | _, _ => none
  | .str => match x, y with
    | .str a, .str b => some (bytesEq a.data.toList b.data.toList)
    | _, _ => none
  | .ptr => match x, y with
    | .nilp, .nilp => some true
    | .nilp, .ptr _ _ => some false
    | .ptr _ _, .nilp => some false
    | _, _ => none
  | .slc => match x, y with
    | .nils, .nils => some true
    | .nils, .sl _ _ _ _ => some false
    | .sl _ _ _ _, .nils => some false
    | .nils, .sle => some false
    | .sle, .nils => some false
    | _, _ => none
  | .fn => match x, y with
    | .nilfn, .nilfn => some true
    | .nilfn, .fn _ _ _ => some false
    | .fn _ _ _, .nilfn => some false
    | _, _ => none
  | .ifc => match x, y with
    | .nilif, .nilif => some true
    | .nilif, .ifc _ _ => some false
    | .ifc _ _, .nilif => some false
    | _, _ => none
def aeqs : List ET → List AV → List AV → Option Bool
  | [], [], [] => some true
  | t :: l, a :: x, b :: y => match aeq t a b with
    | some true => aeqs l x y
    | some false => some false
    | none => none
  | _, _, _ => none
def binInt (op : BinOp) (k : IntKind) (x y : Int) : Option AV := match op with
  | .add => some (.int k (wrapF k (x + y)))
  | .sub => some (.int k (wrapF k (x - y)))
  | .mul => some (.int k (wrapF k (x * y)))
  | .quo => match ieq y 0 with | true => none | false => some (.int k (wrapF k (x.tdiv y)))
  | .rem => match ieq y 0 with | true => none | false => some (.int k (x.tmod y))
  | .eql => some (.bool (ieq x y))
  | .neq => some (.bool (!ieq x y))
  | .lss => some (.bool (ilt x y))
  | .leq => some (.bool (!ilt y x))
  | .gtr => some (.bool (ilt y x))
  | .geq => some (.bool (!ilt x y))
  | _ => none
def binStr (op : BinOp) (x y : ByteArray) : Option AV := match op with
  | .add => match Nat.ble (x.data.toList.length + y.data.toList.length) 9223372036854775807 with | true => some (.str ⟨(x.data.toList ++ y.data.toList).toArray⟩) | false => none
  | .eql => some (.bool (bytesEq x.data.toList y.data.toList))
  | .neq => some (.bool (!bytesEq x.data.toList y.data.toList))
  | .lss => some (.bool (Op.bytesLess x.data.toList y.data.toList))
  | .leq => some (.bool (match Op.bytesLess x.data.toList y.data.toList with | true => true | false => bytesEq x.data.toList y.data.toList))
  | .gtr => some (.bool (match Op.bytesLess x.data.toList y.data.toList with | true => false | false => !bytesEq x.data.toList y.data.toList))
  | .geq => some (.bool (!Op.bytesLess x.data.toList y.data.toList))
  | _ => none
/-- As what values of this type are held against each other by == alone. -/
def eqT (P : Program) (t : TypeId) : Option ET := match P.underlying t with
  | some .bool => some .bool
  | some (.pointer _) => some .ptr
  | some (.slice _) => some .slc
  | some (.func _ _ _) => some .fn
  | some (.interface _) => some .ifc
  | _ => none
/-- Cells of a struct of whole numbers, bools, texts: as what each is held against another one. -/
def cellT (P : Program) (t : TypeId) : Option ET := match P.underlying t with
  | some (.int _) => some .int
  | some .bool => some .bool
  | some .string => some .str
  | _ => none
def cellsT (P : Program) : List Field → Nat → Option (List ET)
  | [], _ => some []
  | f :: l, i => match Nat.beq f.offset i, f.name != "_", cellT P f.type, cellsT P l (i + 1) with | true, true, some t, some r => some (t :: r) | _, _, _, _ => none
/-- What == is at a type. -/
inductive EQ where | no | one (t : ET) | all (l : List ET)
def eqOf (P : Program) (t : TypeId) (x y : Operand) : EQ := match P.underlying t with
  | some (.struct fs) => match P.stoodInHeld t, cellsT P fs.toList 0 with | false, some l => .all l | _, _ => .no
  | some (.interface _) => match x, y with
    | .const _, _ => .one .ifc
    | _, .const _ => .one .ifc
    | _, _ => .no
  | _ => match eqT P t with | some e => .one e | none => .no
def eqlV (op : BinOp) (r : Option Bool) : Option AV := match op, r with
  | .eql, some b => some (.bool b)
  | .neq, some b => some (.bool !b)
  | _, _ => none
def bin (q : EQ) (op : BinOp) (x y : AV) : Option AV := match x with
  | .int j a => match y with
    | .int k b => match keq j k with | true => binInt op k a b | false => none
    | _ => none
  | .res j m r => match y with
    | .int k (.ofNat n) => match op with
      | .rem => match keq j k, Nat.beq m n, Nat.beq n 0 with | true, true, false => some (.int j (.ofNat r)) | _, _, _ => none
      | _ => none
    | _ => none
  | .str a => match y with
    | .str b => binStr op a b
    | _ => none
  | .agg a => match y with
    | .agg b => match q with | .all l => eqlV op (aeqs l a b) | _ => none
    | _ => none
  | a => match q with | .one t => eqlV op (aeq t a y) | _ => none
def un (op : UnOp) (x : AV) : Option AV := match op, x with
  | .not, .bool b => some (.bool !b)
  | .neg, .int k n => some (.int k (wrapF k (0 - n)))
  | _, _ => none
def conv (k : IntKind) (x : AV) : Option AV := match x with
  | .int _ n => some (.int k (wrapF k n))
  | .res _ m r => match k with | .i64 => some (.res .i64 m r) | _ => none
  | _ => none
def natOf : AV → Option Nat
  | .int _ (.ofNat n) => some n
  | _ => none

mutual
/-- Are two values the same one? -/
def aveq : AV → AV → Bool
  | .bool a, .bool b => match a with | true => b | false => !b
  | .int j a, .int k b => match keq j k with | true => ieq a b | false => false
  | .str a, .str b => bytesEq a.data.toList b.data.toList
  | .ptr p o, .ptr q u => match peq p q with | true => Nat.beq o u | false => false
  | .nilp, .nilp => true
  | .sl p k i n, .sl q l j m => match peq p q, Nat.beq k l, Nat.beq i j with | true, true, true => Nat.beq n m | _, _, _ => false
  | .sle, .sle => true
  | .nils, .nils => true
  | .fn f a c, .fn g b d => match Nat.beq f g, avseq a b with | true, true => avseq c d | _, _ => false
  | .nilfn, .nilfn => true
  | .ifc t a, .ifc u b => match Nat.beq t u with | true => aveq a b | false => false
  | .nilif, .nilif => true
  | .mp p, .mp q => peq p q
  | .nilm, .nilm => true
  | .agg a, .agg b => avseq a b
  | .tup a, .tup b => avseq a b
  | _, _ => false
def avseq : List AV → List AV → Bool
  | [], [] => true
  | a :: x, b :: y => match aveq a b with | true => avseq x y | false => false
  | _, _ => false
end

/-! ### Slices -/
def lenS : AV → Option Nat
  | .str s => some s.data.toList.length
  | _ => none
def lenOf : AV → Option Nat
  | .sl _ _ _ n => some n
  | .sle => some 0
  | .nils => some 0
  | _ => none
/-- The rows of a slice that reaches to its block's end. -/
noncomputable def oldRows (rows : Tr (List AV)) (n : Nat) : Nat → Option (Tr (List AV))
  | 0 => some rows
  | i => copyRows rows n i 0 .nil
/-- m rows of src, from i0 on, behind those of a slice (rows of k cells). -/
noncomputable def appendRows (h : H) (k : Nat) (s : AV) (m : Nat) (src : Tr (List AV)) (i0 : Nat) : Option (AV × H) := match s with
  | .nils => match m with
    | 0 => some (.nils, h)
    | _ => match copyRows src m i0 0 .nil with
      | some t => some (.sl h.next k 0 m, h.new ⟨k, m, t, true, false, false⟩)
      | none => none
  | .sl b _ i n => match getC b h.t with
    | some bl => match bl.ro with
      | true => none
      | false => match Nat.beq bl.k k with
        | false => none
        | true => match Nat.ble (i + n + m) bl.n with
          | true => match copyRows src m i0 (i + n) bl.rows with
            | some t => some (.sl b k i (n + m), h.put b (some { bl with rows := t }))
            | none => none
          | false => match Nat.beq (i + n) bl.n with
            | true => match oldRows bl.rows n i with
              | some t => match copyRows src m i0 n t with
                | some t => some (.sl h.next k 0 (n + m), H.new (match bl.grows with | true => h.put b none | false => h) ⟨k, n + m, t, true, false, false⟩)
                | none => none
              | none => none
            | false => none
    | none => none
  | _ => none
/-- A text's bytes behind those of a slice. -/
noncomputable def appendS (h : H) (k : Nat) (s x : AV) : Option (AV × H) := match x with
  | .str y => match Nat.beq k 1 with | true => appendRows h k s y.data.toList.length (byteRows y.data.toList 0 .nil) 0 | false => none
  | _ => none
/-- No slice of ours is longer than this. -/
def most : Nat := 16777216
noncomputable def appendV (h : H) (k : Nat) (s x : AV) : Option (AV × H) := match x with
  | .nils => appendRows h k s 0 .nil 0
  | .sle => appendRows h k s 0 .nil 0
  | .sl b _ i n => match getC b h.t with
    | some bl => match Nat.beq bl.k k with | true => appendRows h k s n bl.rows i | false => none
    | none => none
  | _ => none
def bnd (d : Nat) (x : Option AV) : Option Nat := match x with | none => some d | some a => natOf a
/-- Part of a text. -/
def sliceS (x : AV) (lo hi : Option AV) : Option AV := match x with
  | .str s => match bnd 0 lo, bnd s.data.toList.length hi with
    | some l, some r => match Nat.ble l r, Nat.ble r s.data.toList.length with
      | true, true => some (.str ⟨((s.data.toList.drop l).take (r - l)).toArray⟩)
      | _, _ => none
    | _, _ => none
  | _ => none
/-- Part of a slice (z: the cells of an element). -/
def sliceV (z : Nat) (x : AV) (lo hi : Option AV) : Option AV := match x with
  | .sl b k i n => match bnd 0 lo, bnd n hi with
    | some l, some r => match Nat.ble l r, Nat.ble r n, Nat.beq k z with
      | true, true, true => match l with
        | 0 => some (.sl b k i r)
        | _ => match Nat.beq l n with | true => some .sle | false => some (.sl b k (i + l) (r - l))
      | _, _, _ => none
    | _, _ => none
  | .sle => match bnd 0 lo, bnd 0 hi with
    | some 0, some 0 => some .sle
    | _, _ => none
  | .nils => match bnd 0 lo, bnd 0 hi with
    | some 0, some 0 => some .nils
    | _, _ => none
  | _ => none

/-! ### Operations: each, once its closed parts are known, is a function of the frame and the blocks -/
inductive OpOut where
  | next (fr : FT) (h : H)
  | call (f : FuncId) (args : List AV)
  | pan (v : AV)
  | bad (why : Nat)
/-- pure: of slots alone. look: reads blocks. new: a block more (of slots alone), and a slice of so many rows of it, or its address. eff: all else. -/
inductive OpF where
  | pure (why : Nat) (val : FT → Option Sl)
  | look (why : Nat) (val : FT → H → Option Sl)
  | new (why : Nat) (val : FT → Option (Blk × Option Nat))
  | eff (run : FT → H → OpOut)
noncomputable def retV (r : Option AV) : Option Sl := match r with | some a => some (.v a) | none => none

noncomputable def vMove (x : Rd) (fr : FT) : Option Sl := retV (gv x fr)
noncomputable def vPick (c a b : Rd) (fr : FT) : Option Sl := match gv c fr with
  | some (.bool true) => retV (gv a fr)
  | some (.bool false) => retV (gv b fr)
  | _ => none
noncomputable def bLoc (z : List AV) (d : Path) (fr : FT) (h : H) : OpOut := .next (set d (some (.box h.gen z)) fr) ⟨h.next, h.t, h.gen + 1⟩
noncomputable def oneRow (z : List AV) : Blk := ⟨z.length, 1, set [] (some z) .nil, false, false, false⟩
noncomputable def nBox (z : List AV) (_ : FT) : Option (Blk × Option Nat) := some (oneRow z, none)
noncomputable def nBoxV (n : Nat) (x : Rd) (fr : FT) : Option (Blk × Option Nat) := match gv x fr with
  | some a => match cells a with
    | some c => match Nat.beq c.length n with | true => some (oneRow c, none) | false => none
    | none => none
  | none => none
noncomputable def bLocV (n : Nat) (x : Rd) (d : Path) (fr : FT) (h : H) : OpOut := match gv x fr with
  | some a => match cells a with
    | some c => match Nat.beq c.length n with | true => bLoc c d fr h | false => .bad 5
    | none => .bad 5
  | none => .bad 5
noncomputable def vBuild (z : List AV) (ps : List (Nat × Nat × Rd)) (fr : FT) : Option Sl := match fill ps fr z with
  | some l => some (.v (.agg l))
  | none => none
noncomputable def nSlice (k n : Nat) (z : List AV) (ps : List (Nat × Nat × Rd)) (fr : FT) : Option (Blk × Option Nat) := match fill ps fr z with
  | some l => some (⟨k, n, rowsOf k n 0 l .nil, false, false, false⟩, some n)
  | none => none
noncomputable def lLoad (x : Rd) (n : Nat) (g : Bool) (fr : FT) (h : H) : Option Sl := match place x fr with
  | some p => match loadAt fr h p n with | some l => retV (val g l) | none => none
  | none => none
noncomputable def hStore (x y : Rd) (n : Nat) (fr : FT) (h : H) : OpOut := match place x fr with
  | some p => match gv y fr with
    | some a => match cells a with
      | some c => match Nat.beq c.length n with
        | true => match storeAt fr h p c with | some (fr, h) => .next fr h | none => .bad 9
        | false => .bad 9
      | none => .bad 9
    | none => .bad 9
  | none => .bad 9
noncomputable def vNilCheck (x : Rd) (fr : FT) : Option Sl := match place x fr with
  | some (.loc p g o) => some (.lp p g o)
  | some (.mem b o) => some (.v (.ptr b o))
  | none => match gv x fr with
    | some (.fn f a c) => some (.v (.fn f a c))
    | _ => none
noncomputable def vBin (q : EQ) (op : BinOp) (x y : Rd) (fr : FT) : Option Sl := match gv x fr with
  | some a => (match gv y fr with | some b => retV (bin q op a b) | none => none)
  | none => none
noncomputable def vUn (op : UnOp) (x : Rd) (fr : FT) : Option Sl := match gv x fr with
  | some a => retV (un op a)
  | none => none
noncomputable def vConvInt (k : IntKind) (x : Rd) (fr : FT) : Option Sl := match gv x fr with
  | some a => retV (conv k a)
  | none => none
noncomputable def vConvStr (x : Rd) (fr : FT) : Option Sl := match gv x fr with
  | some (.str s) => some (.v (.str s))
  | _ => none
noncomputable def lBytes (x : Rd) (fr : FT) (h : H) : Option Sl := match gv x fr with
  | some .nils => some (.v (.str ⟨#[]⟩))
  | some (.sl b _ i n) => match getC b h.t with
    | some bl => match Nat.beq bl.k 1 with
      | true => match bytesIn bl.rows n i with | some l => some (.v (.str ⟨l.toArray⟩)) | none => none
      | false => none
    | none => none
  | _ => none
noncomputable def nBytes (x : Rd) (fr : FT) : Option (Blk × Option Nat) := match gv x fr with
  | some (.str s) => some (⟨1, s.data.toList.length, byteRows s.data.toList 0 .nil, true, true, false⟩, some s.data.toList.length)
  | _ => none
noncomputable def vIface (t : TypeId) (x : Rd) (fr : FT) : Option Sl := match gv x fr with
  | some a => some (.v (.ifc t a))
  | none => none
noncomputable def vFunc (f : FuncId) (a c : List Rd) (fr : FT) : Option Sl := match gvs a fr with
  | some a => (match gvs c fr with | some c => some (.v (.fn f a c)) | none => none)
  | none => none
noncomputable def nMake (k : Nat) (z : List AV) (l c : Rd) (fr : FT) : Option (Blk × Option Nat) := match gv l fr with
  | some l => match gv c fr with
    | some c => match natOf l, natOf c with
      | some l, some c => match Nat.ble l c, Nat.ble c most with
        | true, true => some (⟨k, c, repRows z c 0 .nil, false, false, false⟩, some l)
        | _, _ => none
      | _, _ => none
    | none => none
  | none => none
noncomputable def gvo (x : Option Rd) (fr : FT) : Option (Option AV) := match x with
  | none => some none
  | some x => match gv x fr with | some a => some (some a) | none => none
noncomputable def vSliceS (x : Rd) (lo hi : Option Rd) (fr : FT) : Option Sl := match gv x fr with
  | some a => match gvo lo fr with
    | some l => match gvo hi fr with
      | some r => retV (sliceS a l r)
      | none => none
    | none => none
  | none => none
noncomputable def vSlice (z : Nat) (x : Rd) (lo hi : Option Rd) (fr : FT) : Option Sl := match gv x fr with
  | some a => match gvo lo fr with
    | some l => match gvo hi fr with
      | some r => retV (sliceV z a l r)
      | none => none
    | none => none
  | none => none
noncomputable def vFieldAddr (x : Rd) (off : Nat) (fr : FT) : Option Sl := match place x fr with
  | some (.loc p g o) => some (.lp p g (o + off))
  | some (.mem b o) => some (.v (.ptr b (o + off)))
  | none => none
noncomputable def vField (x : Rd) (off n : Nat) (g : Bool) (fr : FT) : Option Sl := match gv x fr with
  | some (.agg l) => match cut off n l with | some r => retV (val g r) | none => none
  | _ => none
noncomputable def vIndexAddr (k : Nat) (x ix : Rd) (fr : FT) : Option Sl := match gv x fr with
  | some (.sl b z i n) => match gv ix fr with
    | some a => match natOf a with
      | some j => match Nat.blt j n, Nat.beq z k with | true, true => some (.v (.ptr b ((i + j) * k))) | _, _ => none
      | none => none
    | none => none
  | _ => none
noncomputable def vIndex (x ix : Rd) (fr : FT) : Option Sl := match gv x fr with
  | some (.str s) => match gv ix fr with
    | some a => match natOf a with
      | some j => match s.data.toList[j]? with | some c => some (.v (.int .u8 (.ofNat c.toNat))) | none => none
      | none => none
    | none => none
  | _ => none
noncomputable def vExtract (x : Rd) (i : Nat) (fr : FT) : Option Sl := match gv x fr with
  | some (.tup l) => retV l[i]?
  | _ => none
noncomputable def vLenS (x : Rd) (fr : FT) : Option Sl := match gv x fr with
  | some a => match lenS a with | some n => some (.v (.int .i64 (.ofNat n))) | none => none
  | none => none
noncomputable def vLen (x : Rd) (fr : FT) : Option Sl := match gv x fr with
  | some a => match lenOf a with | some n => some (.v (.int .i64 (.ofNat n))) | none => none
  | none => none
noncomputable def apOut (d : Option Path) (fr : FT) (r : Option (AV × H)) : OpOut := match r with
  | some (a, h) => match lenOf a with
    | some n => match Nat.ble n most with | true => .next (pt d (some (.v a)) fr) h | false => .bad 24
    | none => .bad 24
  | none => .bad 24
noncomputable def hAppend (k : Nat) (s x : Rd) (d : Option Path) (fr : FT) (h : H) : OpOut := match gv s fr with
  | some s => match gv x fr with
    | some x => apOut d fr (appendV h k s x)
    | none => .bad 24
  | none => .bad 24
noncomputable def hAppendS (k : Nat) (s x : Rd) (d : Option Path) (fr : FT) (h : H) : OpOut := match gv s fr with
  | some s => match gv x fr with
    | some x => apOut d fr (appendS h k s x)
    | none => .bad 24
  | none => .bad 24
noncomputable def vMinMax (mx : Bool) (x y : Rd) (fr : FT) : Option Sl := match gv x fr with
  | some (.int j a) => match gv y fr with
    | some (.int k b) => match keq j k with
      | true => some (.v (.int k (match (match mx with | true => ilt a b | false => ilt b a) with | true => b | false => a)))
      | false => none
    | _ => none
  | _ => none
noncomputable def hCall (f : Rd) (as : List Rd) (fr : FT) (_h : H) : OpOut := match gvs as fr with
  | some as => match gv f fr with
    | some (.fn f a cs) => .call f (a ++ as ++ cs)
    | _ => .bad 26
  | none => .bad 26
/-- Keys of maps: whole numbers, texts, bools. -/
inductive KT where | int (k : IntKind) | str | bool
def keyT (P : Program) (t : TypeId) : Option KT := match P.underlying t with
  | some (.int k) => some (.int k)
  | some .string => some .str
  | some .bool => some .bool
  | _ => none
def isKey : KT → AV → Bool
  | .int k, .int j _ => keq j k
  | .str, .str _ => true
  | .bool, .bool _ => true
  | _, _ => false
def keyEq : AV → AV → Option Bool
  | .int j a, .int k b => match keq j k with | true => some (ieq a b) | false => none
  | .str a, .str b => some (bytesEq a.data.toList b.data.toList)
  | .bool a, .bool b => some (match a with | true => b | false => !b)
  | _, _ => none
/-- Where a key stands among n entries, from i on. -/
noncomputable def findRow (key : AV) (rows : Tr (List AV)) (n : Nat) : Nat → Option (Option (Nat × AV)) :=
  Nat.rec (fun _ => some none) (fun _ ih i => match get (pathOf i) rows with
    | some [ka, va] => match keyEq key ka with
      | some true => some (some (i, va))
      | some false => ih (i + 1)
      | none => none
    | _ => none) n
noncomputable def mapAt (p : Path) (h : H) : Option Blk := match get p h.t with
  | some b => match b.map with | true => some b | false => none
  | none => none
def found (comma : Bool) (v : AV) (ok : Bool) : Sl := match comma with
  | true => .v (.tup [v, .bool ok])
  | false => .v v
noncomputable def lLookup (kt : KT) (z : AV) (comma : Bool) (x k : Rd) (fr : FT) (h : H) : Option Sl := match gv k fr with
  | some ka => match isKey kt ka with
    | true => match gv x fr with
      | some .nilm => some (found comma z false)
      | some (.mp p) => match mapAt p h with
        | some b => match findRow ka b.rows b.n 0 with
          | some (some (_, va)) => some (found comma va true)
          | some none => some (found comma z false)
          | none => none
        | none => none
      | _ => none
    | false => none
  | none => none
noncomputable def hInsert (kt : KT) (m k v : Rd) (fr : FT) (h : H) : OpOut := match gv m fr with
  | some (.mp p) => match mapAt p h with
    | some b => match gv k fr with
      | some ka => match isKey kt ka with
        | true => match gv v fr with
          | some va => match findRow ka b.rows b.n 0 with
            | some (some (j, _)) => .next fr (h.put p (some { b with rows := set (pathOf j) (some [ka, va]) b.rows }))
            | some none => .next fr (h.put p (some { b with n := b.n + 1, rows := set (pathOf b.n) (some [ka, va]) b.rows }))
            | none => .bad 31
          | none => .bad 31
        | false => .bad 31
      | none => .bad 31
    | none => .bad 31
  | _ => .bad 31
noncomputable def hMakeMap (d : Option Path) (fr : FT) (h : H) : OpOut := .next (pt d (some (.v (.mp h.next))) fr) (h.new ⟨2, 0, .nil, true, false, true⟩)
/-- Is a value in an interface of this type? (z: the type's zero value.) -/
noncomputable def vAssert (t : TypeId) (z : AV) (x : Rd) (fr : FT) : Option Sl := match gv x fr with
  | some (.ifc u v) => match Nat.beq u t with | true => some (.v (.tup [v, .bool true])) | false => some (.v (.tup [z, .bool false]))
  | some .nilif => some (.v (.tup [z, .bool false]))
  | _ => none
noncomputable def hPanic (x : Rd) (fr : FT) (_h : H) : OpOut := match gv x fr with
  | some (.ifc t v) => .pan (.ifc t v)
  | _ => .bad 27

/-- Where the fields of a struct lie, and how many cells they have. -/
def placesT (P : Program) (fs : List Field) : Option (List (Nat × Nat)) := fs.mapM fun f => (P.info? f.type).map fun i => (f.offset, i.size)
noncomputable def partsL (places : List (Nat × Nat)) : List (Nat × Operand) → Option (List (Nat × Nat × Rd))
  | [] => some []
  | (i, x) :: l => match places[i]?, partsL places l with | some (off, n), some r => some ((off, n, rd x) :: r) | _, _ => none
noncomputable def dst? (o : Oper) : Option Path := match o.dst with | some d => some (pathOf d) | none => none
noncomputable def rdo : Option Operand → Option Rd
  | some x => some (rd x)
  | none => none

/-- Has an element so few bytes that no slice of ours is too great? -/
def smallT (P : Program) (t : TypeId) : Bool := match P.info? t with | some i => Nat.ble i.bytes 8388608 | none => false
/-- An element: its size and its zero value's cells; it has some, and few bytes. -/
def elT (P : Program) (e : TypeId) : Option (Nat × List AV) := match sizeT P e, zeroT P e, smallT P e with
  | some k, some z, true => match Nat.blt 0 k, Nat.beq z.length k with | true, true => some (k, z) | _, _ => none
  | _, _, _ => none
/-- An operation's function (loc: which slots hold blocks of the call's own). -/
noncomputable def comp (P : Program) (loc : List Tmp) (o : Oper) : Option OpF := match o.op with
  | .move x => some (.pure 1 (vMove (rd x)))
  | .assign x => some (.pure 2 (vMove (rd x)))
  | .pick c a b => some (.pure 3 (vPick (rd c) (rd a) (rd b)))
  | .alloc t => match zeroT P t, sizeT P t, o.dst with
    | some z, some n, some d => match Nat.beq z.length n, Nat.blt 0 n with
      | true, true => match loc.contains d with
        | true => some (.eff (bLoc z (pathOf d)))
        | false => some (.new 4 (nBox z))
      | _, _ => none
    | _, _, _ => none
  | .box t x => match sizeT P t, o.dst with
    | some n, some d => match Nat.blt 0 n with
      | true => match loc.contains d with
        | true => some (.eff (bLocV n (rd x) (pathOf d)))
        | false => some (.new 5 (nBoxV n (rd x)))
      | false => none
    | _, _ => none
  | .build t ps => match P.underlying t, zeroT P t with
    | some (.struct fs), some z => match placesT P fs.toList with
      | some places => (match partsL places ps.toList with | some ps => some (.pure 6 (vBuild z ps)) | none => none)
      | none => none
    | _, _ => none
  | .buildSlice t n ps => match elemT P t with
    | some e => match elT P e with
      | some (k, z) => match Nat.ble (n * k) 16777216 with
        | true => some (.new 7 (nSlice k n (List.replicate n z).flatten (ps.toList.map fun (i, x) => (i * k, k, rd x))))
        | false => none
      | none => none
    | none => none
  | .load t x => match sizeT P t, isAggT P t with
    | some n, some g => match g, Nat.beq n 1 with | false, false => none | _, _ => some (.look 8 (lLoad (rd x) n g))
    | _, _ => none
  | .store t x y => match sizeT P t, o.dst with
    | some n, none => match Nat.blt 0 n with | true => some (.eff (hStore (rd x) (rd y) n)) | false => none
    | _, _ => none
  | .nilCheck x => some (.pure 10 (vNilCheck (rd x)))
  | .binOp op t x y _ => match op with
    | .shl => none
    | .shr => none
    | _ => some (.pure 11 (vBin (eqOf P t x y) op (rd x) (rd y)))
  | .unOp op _ x => some (.pure 12 (vUn op (rd x)))
  | .convert s t x => match P.underlying s, P.underlying t with
    | some (.int _), some (.int k) => some (.pure 13 (vConvInt k (rd x)))
    | some .string, some .string => some (.pure 13 (vConvStr (rd x)))
    | some (.slice e), some .string => match P.underlying e with | some (.int .u8) => some (.look 13 (lBytes (rd x))) | _ => none
    | some .string, some (.slice e) => match P.underlying e with | some (.int .u8) => some (.new 13 (nBytes (rd x))) | _ => none
    | _, _ => none
  | .makeInterface t x => match P.underlying t with | some (.interface _) => none | some _ => some (.pure 14 (vIface t (rd x))) | none => none
  | .makeFunc (.func f) a c => some (.pure 15 (vFunc f (a.toList.map rd) (c.toList.map rd)))
  | .makeSlice t l c => match elemT P t with
    | some e => match elT P e with | some (k, z) => some (.new 16 (nMake k z (rd l) (rd c))) | none => none
    | none => none
  | .slice t x lo hi none => match P.underlying t with
    | some .string => some (.pure 17 (vSliceS (rd x) (rdo lo) (rdo hi)))
    | some (.slice e) => match sizeT P e with | some z => (match Nat.blt 0 z with | true => some (.pure 17 (vSlice z (rd x) (rdo lo) (rdo hi))) | false => none) | none => none
    | _ => none
  | .fieldAddr t x i => match fieldT P t i with | some (off, n, _) => (match Nat.blt 0 n with | true => some (.pure 18 (vFieldAddr (rd x) off)) | false => none) | none => none
  | .field t x i => match fieldT P t i with | some (off, n, g) => (match g, Nat.beq n 1 with | false, false => none | _, _ => some (.pure 19 (vField (rd x) off n g))) | none => none
  | .indexAddr t x ix => match elemT P t with | some e => (match sizeT P e with | some k => some (.pure 20 (vIndexAddr k (rd x) (rd ix))) | none => none) | none => none
  | .index t x ix => match P.underlying t with | some .string => some (.pure 21 (vIndex (rd x) (rd ix))) | _ => none
  | .extract x i => some (.pure 22 (vExtract (rd x) i))
  | .typeAssert x _ t true => match P.underlying t with
    | some (.interface _) => none
    | some _ => match zeroV P t with | some z => some (.pure 28 (vAssert t z (rd x))) | none => none
    | none => none
  | .lookup t x k comma => match P.underlying t with
    | some (.map kt et) => match keyT P kt, zeroV P et with | some kk, some z => some (.look 29 (lLookup kk z comma (rd x) (rd k))) | _, _ => none
    | _ => none
  | .makeMap _ none => some (.eff (hMakeMap (dst? o)))
  | .insert t m k v => match P.underlying t, o.dst with
    | some (.map kt _), none => match keyT P kt with | some kk => some (.eff (hInsert kk (rd m) (rd k) (rd v))) | none => none
    | _, _ => none
  | .mapUpdate t m k v => match P.underlying t, o.dst with
    | some (.map kt _), none => match keyT P kt with | some kk => some (.eff (hInsert kk (rd m) (rd k) (rd v))) | none => none
    | _, _ => none
  | .panic x => some (.eff (hPanic (rd x)))
  | .call c => match c.callee with
    | .builtin .len => match c.args.toList, c.argTypes.toList with
      | [x], [t] => match P.underlying t with
        | some .string => some (.pure 23 (vLenS (rd x)))
        | some (.slice _) => some (.pure 23 (vLen (rd x)))
        | _ => none
      | _, _ => none
    | .builtin .append => match c.args.toList, c.argTypes.toList with
      | [s, x], [t, u] => match elemT P t, P.underlying u with
        | some e, some (.slice _) => (match elT P e with | some (k, _) => some (.eff (hAppend k (rd s) (rd x) (dst? o))) | none => none)
        | some e, some .string => (match elT P e with | some (k, _) => some (.eff (hAppendS k (rd s) (rd x) (dst? o))) | none => none)
        | _, _ => none
      | _, _ => none
    | .builtin .min => match c.args.toList with | [x, y] => some (.pure 25 (vMinMax false (rd x) (rd y))) | _ => none
    | .builtin .max => match c.args.toList with | [x, y] => some (.pure 25 (vMinMax true (rd x) (rd y))) | _ => none
    | .value f => some (.eff (hCall (rd f) (c.args.toList.map rd)))
    | _ => none
  | _ => none

/-! ### Regions -/
/-- A step: an operation (whether its guard's slot must say so; its function; where its result goes); one that must tell the same once more; none that is known. -/
inductive St where
  | op (guard : Option (Path × Bool)) (f : OpF) (dst : Option Path)
  | chk (guard : Option (Path × Bool)) (f : OpF) (dst : Option Path)
  | no
noncomputable def stOf (P : Program) (loc : List Tmp) (ops : Array Oper) (o : Oper) : St := match comp P loc o with
  | some f => match o.guard with
    | none => .op none f (dst? o)
    | some (j, w) => match (ops[j]?).bind (·.dst) with | some d => .op (some (pathOf d, w)) f (dst? o) | none => .no
  | none => .no
noncomputable def chkOf (s : St) : St := match s with
  | .op g f d => .chk g f d
  | s => s
noncomputable def lightOf (s : St) : St := match s with
  | .op _ (.eff _) _ => .no
  | s => s
/-- Is an operation wanted? -/
noncomputable def wantedF (g : Option (Path × Bool)) (fr : FT) : Option Bool := match g with
  | none => some true
  | some (p, w) => match get p fr with
    | some (.v (.bool b)) => some (match w with | true => b | false => !b)
    | some .und => some false
    | _ => none

inductive Out where
  | norm (fr : FT) (h : H)
  | exit (id : Nat) (fr : FT) (h : H)
  | ret (fr : FT) (h : H)
  | pan (v : AV) (fr : FT) (h : H)
  | bad (why : Nat)
inductive CR where
  | ret (v : AV) (h : H)
  | pan (v : AV) (h : H)
  | bad (why : Nat)
abbrev Calls' := FuncId → List AV → H → CR
noncomputable def newS (p : Path) (k : Nat) (n : Option Nat) : Sl := match n with
  | some n => .v (.sl p k 0 n)
  | none => .v (.ptr p 0)
/-- Does the slot hold just this value? -/
noncomputable def holds (d : Option Path) (s : Sl) (fr : FT) : Bool := match d, s with
  | some d, .v a => match get d fr with | some (.v b) => aveq a b | _ => false
  | _, _ => false
noncomputable def evStep (call : Calls') (s : St) (fr : FT) (h : H) : Out := match s with
  | .op g f d => match wantedF g fr with
    | some true => match f with
      | .pure w val => match val fr with | some s => .norm (pt d (some s) fr) h | none => .bad w
      | .look w val => match val fr h with | some s => .norm (pt d (some s) fr) h | none => .bad w
      | .new w val => match val fr with | some (b, n) => .norm (pt d (some (newS h.next b.k n)) fr) (h.new b) | none => .bad w
      | .eff run => match run fr h with
        | .next fr h => .norm fr h
        | .call f as => match call f as h with
          | .ret v h => .norm (pt d (some (.v v)) fr) h
          | .pan v h => .pan v fr h
          | .bad w => .bad w
        | .pan v => .pan v fr h
        | .bad w => .bad w
    | some false => .norm (pt d (some .und) fr) h
    | none => .bad 40
  | .chk g f d => match wantedF g fr with
    | some true => match f with
      | .look w val => match val fr h with | some s => (match holds d s fr with | true => .norm fr h | false => .bad (w + 100)) | none => .bad (w + 200)
      | _ => .norm fr h
    | _ => .norm fr h
  | .no => .bad 41
noncomputable def evSteps (call : Calls') (l : List St) : FT → H → Out := List.rec (fun fr h => .norm fr h)
  (fun s _ ih fr h => match evStep call s fr h with
    | .norm fr h => ih fr h
    | x => x) l

/-! ### The order of a region that may go in any order: all that may be as early as it may; what has effects one by one -/
def heavy (o : Oper) : Bool := match o.op with
  | .store _ _ _ => true
  | .assign _ => true
  | .panic _ => true
  | .makeMap _ _ => true
  | .insert _ _ _ _ => true
  | .mapUpdate _ _ _ _ => true
  | .call c => match c.callee with
    | .value _ => true
    | .builtin .append => true
    | _ => false
  | _ => false
/-- Has all come up that this one waits for? -/
def preds (o : Oper) : List Nat := (o.after.toList.filter (Region.binds .any)).map (·.on)
def memN (i : Nat) (l : List Nat) : Bool := l.any (Nat.beq i)
def readyIn (ops : List Oper) (hv : Bool) (done : List Nat) : Option Nat :=
  ((List.range ops.length).zip ops).findSome? fun (i, o) => match memN i done with
    | true => none
    | false => match hv == heavy o, (preds o).all (memN · done) with | true, true => some i | _, _ => none
/-- The order, last one first. -/
def orderGo (ops : List Oper) : Nat → List Nat → List Nat
  | 0, done => done
  | n + 1, done => match readyIn ops false done with
    | some i => orderGo ops n (i :: done)
    | none => match readyIn ops true done with
      | some i => orderGo ops n (i :: done)
      | none => done
def orderOf (ops : List Oper) : List Nat := (orderGo ops ops.length []).reverse
/-- What is looked at once more, ahead of the next effect and at the end: what has been looked at so far and what no effect so far waited for. -/
def again (ops : List Oper) (pre : List Nat) : List Nat := pre.filter fun i => match ops[i]? with
  | some o => !heavy o && !(pre.any fun j => match ops[j]? with | some q => heavy q && memN i (preds q) | none => false)
  | none => false
/-- Ahead of an effect: what comes up now is that one alone, or waits. -/
def shutAt (ops : List Oper) (pre : List Nat) (j : Nat) : Bool :=
  ((List.range ops.length).zip ops).all fun (i, o) => memN i pre || Nat.beq i j || (preds o).any (fun e => !memN e pre)
/-- Whoever reads a slot that another one writes waits for it, or that one waits for the reader, and has an effect; each slot is written once. -/
def apartIn (ops : List Oper) : Bool :=
  ((List.range ops.length).zip ops).all fun (j, q) => match q.dst with
    | none => true
    | some d => (heavy q || !(q.looksAt ops.toArray).contains d) && ((List.range ops.length).zip ops).all fun (i, o) => Nat.beq i j ||
      ((!(o.looksAt ops.toArray).contains d || memN j (preds o) || (heavy q && memN i (preds q))) && (match o.dst with | some e => !Nat.beq d e | none => true))
def orderOk (ops : List Oper) : List Nat → List Nat → Bool
  | pre, [] => (List.range ops.length).all (memN · pre)
  | pre, i :: rest => match ops[i]? with
    | some o => !memN i pre && (preds o).all (memN · pre) && (!heavy o || shutAt ops pre i) && orderOk ops (pre ++ [i]) rest
    | none => false
noncomputable def drawnGo (P : Program) (loc : List Tmp) (ops : Array Oper) : List Nat → List Nat → List St
  | pre, [] => (again ops.toList pre).map fun i => match ops.toList[i]? with | some o => chkOf (stOf P loc ops o) | none => .no
  | pre, i :: rest => match ops.toList[i]? with
    | some o => match heavy o with
      | true => ((again ops.toList pre).map fun i => match ops.toList[i]? with | some o => chkOf (stOf P loc ops o) | none => .no) ++ (stOf P loc ops o :: drawnGo P loc ops (pre ++ [i]) rest)
      | false => lightOf (stOf P loc ops o) :: drawnGo P loc ops (pre ++ [i]) rest
    | none => [.no]
noncomputable def drawnOf (P : Program) (loc : List Tmp) (ops : Array Oper) : List St := match Region.noSelect ops, apartIn ops.toList, orderOk ops.toList [] (orderOf ops.toList) with
  | true, true, true => drawnGo P loc ops [] (orderOf ops.toList)
  | _, _, _ => [.no]
noncomputable def stepsOf (P : Program) (loc : List Tmp) (ops : Array Oper) : List St := ops.toList.map (stOf P loc ops)

/-! ### Code -/
inductive EC where
  | skip
  | steps (l : List St)
  | drawn (l : List St) (ds : List Path)
  | seq (a b : EC)
  | cond (c : Rd) (a b : EC)
  | block (id : Nat) (c : EC)
  | loop (c : EC)
  | exit (id : Nat)
  | ret
  | no
  | dfr (l : List St) (f : Rd) (as : List Rd) (rest : EC)
  | rcv (l1 : List St) (d : Path) (l2 : List St) (rest : EC)
/-- Slots that operations fill; these slots, emptied. -/
noncomputable def dstsOf (ops : Array Oper) : List Path := ops.toList.filterMap dst?
noncomputable def clr (ds : List Path) : FT → FT := List.rec (fun fr => fr) (fun p _ ih fr => ih (set p none fr)) ds
noncomputable def clrOut (ds : List Path) : Out → Out
  | .pan v fr h => .pan v (clr ds fr) h
  | x => x
noncomputable def compC (P : Program) (loc : List Tmp) : Code → EC
  | .skip => .skip
  | .region _ ops false => .steps (stepsOf P loc ops)
  | .region _ ops true => .drawn (drawnOf P loc ops) (dstsOf ops)
  | .seq a b => .seq (compC P loc a) (compC P loc b)
  | .cond c a b => .cond (rd c) (compC P loc a) (compC P loc b)
  | .block id c => .block id (compC P loc c)
  | .loop c => .loop (compC P loc c)
  | .exit id => .exit id
  | .ret => .ret
  | _ => .no
noncomputable def evC (call : Calls') (fuel : Nat) : EC → FT → H → Out
  | .skip, fr, h => .norm fr h
  | .steps l, fr, h => evSteps call l fr h
  | .drawn l ds, fr, h => clrOut ds (evSteps call l fr h)
  | .seq a b, fr, h => match evC call fuel a fr h with
    | .norm fr h => evC call fuel b fr h
    | x => x
  | .cond c a b, fr, h => match gv c fr with
    | some (.bool true) => evC call fuel a fr h
    | some (.bool false) => evC call fuel b fr h
    | _ => .bad 50
  | .block id c, fr, h => match evC call fuel c fr h with
    | .exit id' fr h => match Nat.beq id' id with | true => .norm fr h | false => .exit id' fr h
    | x => x
  | .loop c, fr, h => Nat.rec (fun _ _ => Out.bad 51) (fun _ ih fr h => match evC call fuel c fr h with
    | .norm fr h => ih fr h
    | x => x) fuel fr h
  | .exit id, fr, h => .exit id fr h
  | .ret, fr, h => .ret fr h
  | .no, _, _ => .bad 52
  | .dfr _ _ _ _, _, _ => .bad 53
  | .rcv _ _ _ _, _, _ => .bad 54

/-! ### The slots whose blocks are the call's own -/
def tmpsOf (l : List Operand) : List Tmp := l.filterMap fun | .tmp t => some t | _ => none
/-- Slots that are used otherwise than as an address. -/
def badUses (o : Oper) : List Tmp := match o.op with
  | .load _ _ => []
  | .store _ _ v => tmpsOf [v]
  | .fieldAddr _ _ _ => []
  | .nilCheck _ => []
  | op => tmpsOf op.operands.toList
def opersOf : Code → List Oper
  | .region _ ops _ => ops.toList
  | .seq a b => opersOf a ++ opersOf b
  | .cond _ a b => opersOf a ++ opersOf b
  | .block _ c => opersOf c
  | .loop c => opersOf c
  | .scope c => opersOf c
  | .rangeFunc _ _ a b => opersOf a ++ opersOf b
  | _ => []
def spread (os : List Oper) (bad : List Tmp) : List Tmp := os.foldr (fun o bad => match o.op, o.dst with
  | .fieldAddr _ (.tmp x) _, some d => if bad.contains d then x :: bad else bad
  | .nilCheck (.tmp x), some d => if bad.contains d then x :: bad else bad
  | _, _ => bad) bad
/-- Operations of regions that go in one order alone. -/
def plainOpers : Code → List Oper
  | .region _ ops false => ops.toList
  | .seq a b => plainOpers a ++ plainOpers b
  | .cond _ a b => plainOpers a ++ plainOpers b
  | .block _ c => plainOpers c
  | .loop c => plainOpers c
  | _ => []
def localsOf (c : Code) : List Tmp :=
  let os := opersOf c
  let bad := spread os (spread os (os.flatMap badUses))
  (plainOpers c).filterMap fun o => match o.op, o.dst with
    | .alloc _, some d => if bad.contains d then none else some d
    | .box _ _, some d => if bad.contains d then none else some d
    | _, _ => none

/-! ### Functions -/
/-- A result: a slot; a block's cells. -/
inductive ER where
  | slot (x : Rd)
  | cell (x : Rd) (n : Nat) (g : Bool)
  | no
structure EF where
  code : EC
  res : List ER
  top : Bool
/-- What a deferred call calls, and with what. -/
def deferOf (o : Oper) : Option (Operand × Array Operand) := match o.op, o.guard, o.dst with
  | .defer ⟨.value f, as, _⟩, none, none => some (f, as)
  | _, _, _ => none
def isRecover (o : Oper) : Bool := match o.op, o.guard with
  | .call ⟨.builtin .recover, _, _⟩, none => true
  | _, _ => false
def lastOf : List Oper → Option (List Oper × Oper)
  | [] => none
  | [o] => some ([], o)
  | o :: l => match lastOf l with | some (i, x) => some (o :: i, x) | none => none
def cutRec : List Oper → Option (List Oper × Oper × List Oper)
  | [] => none
  | o :: l => match isRecover o with
    | true => some ([], o, l)
    | false => match cutRec l with | some (a, x, b) => some (o :: a, x, b) | none => none
/-- Does it defer, or recover? -/
def isTop (c : Code) : Bool := (opersOf c).any fun o => match o.op with
  | .defer _ => true
  | .call ⟨.builtin .recover, _, _⟩ => true
  | _ => false
/-- A region at the front of what defers, or recovers. -/
noncomputable def compR (P : Program) (ops : Array Oper) (rest1 rest2 : EC) (a : EC) : EC := match lastOf ops.toList with
  | some (i, o) => match deferOf o with
    | some (f, as) => .dfr (i.map (stOf P [] ops)) (rd f) (as.toList.map rd) rest1
    | none => match cutRec ops.toList with
      | some (l1, o, l2) => match o.dst with
        | some d => .rcv (l1.map (stOf P [] ops)) (pathOf d) (l2.map (stOf P [] ops)) rest1
        | none => .no
      | none => .seq a rest2
  | none => .seq a rest2
noncomputable def compT (P : Program) : Code → EC
  | .seq a b => match a with
    | .region id ops false => compR P ops (compC P [] b) (compT P b) (compC P [] (.region id ops false))
    | a => .seq (compC P [] a) (compT P b)
  | c => compC P [] c
noncomputable def erOf (P : Program) : ResultVar → ER
  | .tmp t => .slot (.sl (pathOf t))
  | .cell a t => match sizeT P t, isAggT P t with
    | some n, some g => match g, Nat.beq n 1 with | false, false => .no | _, _ => .cell (.sl (pathOf a)) n g
    | _, _ => .no
/-- What a function of ours must be: it has a body, its slots are among its own. -/
def fnOk (fn : Func) (c : Code) : Bool := fn.name != "runtime.NumGoroutine" && (opersOf c).all (fun o => match o.dst with | some d => Nat.blt d fn.ntmps | none => true)
noncomputable def compF (P : Program) (f : FuncId) : Option EF := match P.funcs[f]? with
  | some fn => match fn.body with
    | some c => match fnOk fn c with
      | true => match isTop c with
        | true => some ⟨compT P c, fn.results.toList.map (erOf P), true⟩
        | false => some ⟨compC P (localsOf c) c, fn.results.toList.map (erOf P), false⟩
      | false => none
    | none => none
  | none => none
noncomputable def resV (fr : FT) (h : H) : ER → Option AV
  | .slot x => gv x fr
  | .cell x n g => match place x fr with
    | some p => match loadAt fr h p n with | some l => val g l | none => none
    | none => none
  | .no => none
noncomputable def resVs (fr : FT) (h : H) (l : List ER) : Option (List AV) := match l with
  | [] => some []
  | r :: l => match resV fr h r with | some a => (match resVs fr h l with | some x => some (a :: x) | none => none) | none => none
noncomputable def resultV (l : List ER) (fr : FT) (h : H) : Option AV := match resVs fr h l with
  | some [a] => some a
  | some l => some (.tup l)
  | none => none
noncomputable def initFr (l : List AV) : Nat → FT → FT := List.rec (fun _ fr => fr) (fun a _ ih i fr => ih (i + 1) (set (pathOf i) (some (.v a)) fr)) l
/-- What a function tells, from how its code went. -/
noncomputable def finF (f : FuncId) (res : List ER) : Out → CR
  | .norm fr h => match resultV res fr h with | some v => .ret v h | none => .bad 60
  | .ret fr h => match resultV res fr h with | some v => .ret v h | none => .bad 60
  | .pan v _ h => .pan v h
  | .exit _ _ _ => .bad 61
  | .bad w => .bad (match Nat.ble w 999 with | true => w + 1000 * f | false => w)
/-- No block of the call's own. -/
noncomputable def nobox (t : FT) : Bool := Tr.rec true (fun v _ _ _ _ a b c d => match (match v with | some (.box _ _) => false | _ => true) with
  | true => (match a with | true => (match b with | true => (match c with | true => d | false => false) | false => false) | false => false)
  | false => false) t
/-- What defers: how it went, and what has been deferred. -/
noncomputable def evT (call : Calls') (fuel : Nat) : EC → FT → H → Out × Option (FuncId × List AV)
  | .seq a b, fr, h => match evC call fuel a fr h with
    | .norm fr h => evT call fuel b fr h
    | x => (x, none)
  | .dfr l f as rest, fr, h => match evSteps call l fr h with
    | .norm fr h => match nobox fr, gvs as fr, gv f fr with
      | true, some xs, some (.fn g a cs) => (evC call fuel rest fr h, some (g, a ++ xs ++ cs))
      | _, _, _ => (.bad 55, none)
    | x => (clrOut [] x, none)
  | c, fr, h => (evC call fuel c fr h, none)
inductive DR where
  | ret (recd : Bool) (h : H)
  | pan (v : AV) (h : H)
  | bad (why : Nat)
noncomputable def finD (recd : Bool) (res : List ER) : Out → DR
  | .norm fr h => match resultV res fr h with | some _ => .ret recd h | none => .bad 60
  | .ret fr h => match resultV res fr h with | some _ => .ret recd h | none => .bad 60
  | .pan v _ h => .pan v h
  | .exit _ _ _ => .bad 61
  | .bad w => .bad w
def going : Option AV → Bool
  | some _ => true
  | none => false
def told : Option AV → AV
  | some v => v
  | none => .nilif
/-- A deferred call: while what panics? -/
noncomputable def evD (F : FuncId → Option EF) (call : Calls') (fuel : Nat) (mode : Option AV) (g : FuncId) (as : List AV) (h : H) : DR := match F g with
  | some e => match e.code with
    | .rcv l1 d l2 rest => match evSteps call l1 (initFr as 0 .nil) h with
      | .norm fr h => match evSteps call l2 (set d (some (.v (told mode))) fr) h with
        | .norm fr h => finD (going mode) e.res (evC call fuel rest fr h)
        | .pan v _ h => .pan v h
        | _ => .bad 57
      | _ => .bad 57
    | c => match e.top with
      | true => .bad 58
      | false => finD false e.res (evC call fuel c (initFr as 0 .nil) h)
  | none => .bad (62 + 1000 * g)
/-- Behind what has been deferred. -/
noncomputable def finT (f : FuncId) (res : List ER) (dd : Option AV → FuncId → List AV → H → DR) (x : Out × Option (FuncId × List AV)) : CR := match x.2 with
  | none => finF f res x.1
  | some (g, as) => match x.1 with
    | .norm fr h => (match dd none g as h with | .ret _ h => finF f res (.ret fr h) | .pan v h => .pan v h | .bad w => .bad w)
    | .ret fr h => (match dd none g as h with | .ret _ h => finF f res (.ret fr h) | .pan v h => .pan v h | .bad w => .bad w)
    | .pan v fr h => (match dd (some v) g as h with | .ret true h => finF f res (.ret fr h) | .ret false h => .pan v h | .pan v h => .pan v h | .bad w => .bad w)
    | .exit _ _ _ => .bad 61
    | .bad w => .bad w
noncomputable def evFun (F : FuncId → Option EF) (call : Calls') (fuel : Nat) (f : FuncId) (args : List AV) (h : H) : CR := match F f with
  | some e => match e.top with
    | false => finF f e.res (evC call fuel e.code (initFr args 0 .nil) h)
    | true => finT f e.res (evD F call fuel) (evT call fuel e.code (initFr args 0 .nil) h)
  | none => .bad (62 + 1000 * f)
/-- What is known of some functions without a look at their code. -/
abbrev Lib := FuncId → Option (List AV → H → CR)
noncomputable def libC (lib : Lib) (f : FuncId) (args : List AV) (h : H) : CR := match lib f with | some g => g args h | none => .bad (64 + 1000 * f)
noncomputable def ev (lib : Lib) (F : FuncId → Option EF) (fuel : Nat) (d : Nat) : Calls' := Nat.rec (libC lib) (fun _ ih f args h => match lib f with | some g => g args h | none => evFun F ih fuel f args h) d
def H.empty : H := ⟨[], .nil, 0⟩
end Go.Ev
