/- The evaluator, part 1: its definitions, and what its blocks stand for. -/
import Derived.Orders
import Derived.Tactics
import Derived.Laws.BitsLemmas
import Derived.Laws.AppendOwn
import Derived.Laws.MakeOwn
import Derived.Laws.BytesArg
import Derived.Laws.Strings2
import Derived.Laws.StructEq
import Derived.Laws.Slices
import Derived.Laws.Build
noncomputable section
namespace Go.Ev
class Unk where
  n : Nat → Int
inductive SE where
  | var (i : Nat) (lo hi : Int)
  | lit (n : Int)
  | add (a b : SE)
  | sub (a b : SE)
  | mul (a b : SE)
  | quo (a b : SE)
  | rem (a b : SE)
def SE.val [Unk] : SE → Int
  | .var i _ _ => Unk.n i
  | .lit n => n
  | .add a b => a.val + b.val
  | .sub a b => a.val - b.val
  | .mul a b => a.val * b.val
  | .quo a b => a.val.tdiv b.val
  | .rem a b => a.val.tmod b.val
def SE.ok [Unk] : SE → Prop
  | .var i lo hi => lo ≤ Unk.n i ∧ Unk.n i ≤ hi
  | .lit _ => True
  | .add a b => a.ok ∧ b.ok
  | .sub a b => a.ok ∧ b.ok
  | .mul a b => a.ok ∧ b.ok
  | .quo a b => a.ok ∧ b.ok
  | .rem a b => a.ok ∧ b.ok
inductive SB where
  | b (c : UInt8)
  | s (lo hi : Nat) (e : SE)
def SB.byte [Unk] : SB → UInt8
  | .b c => c
  | .s _ _ e => UInt8.ofNat e.val.toNat
def SB.ok [Unk] : SB → Prop
  | .b _ => True
  | .s lo hi e => (lo : Int) ≤ e.val ∧ e.val ≤ (hi : Int) ∧ hi ≤ 255 ∧ e.ok
def ilt : Int → Int → Bool
  | .ofNat a, .ofNat b => Nat.blt a b
  | .ofNat _, .negSucc _ => false
  | .negSucc _, .ofNat _ => true
  | .negSucc a, .negSucc b => Nat.blt b a
def ieq : Int → Int → Bool
  | .ofNat a, .ofNat b => Nat.beq a b
  | .negSucc a, .negSucc b => Nat.beq a b
  | _, _ => false
def seq : SE → SE → Bool
  | .var i l h, .var j l' h' => match Nat.beq i j, ieq l l' with | true, true => ieq h h' | _, _ => false
  | .lit m, .lit n => ieq m n
  | .add a b, .add c d => match seq a c with | true => seq b d | false => false
  | .sub a b, .sub c d => match seq a c with | true => seq b d | false => false
  | .mul a b, .mul c d => match seq a c with | true => seq b d | false => false
  | .quo a b, .quo c d => match seq a c with | true => seq b d | false => false
  | .rem a b, .rem c d => match seq a c with | true => seq b d | false => false
  | _, _ => false
def mkAddL (a : SE) (c : Int) : SE := match ieq c 0 with
  | true => a
  | false => match a with
    | .lit n => .lit (n + c)
    | .add x (.lit d) => match ieq (d + c) 0 with | true => x | false => .add x (.lit (d + c))
    | a => .add a (.lit c)
def addM (c : Int) (x b : SE) : SE := match b with
  | .rem y d => match x with
    | .quo z e => match seq z y, seq d (.lit c), seq e (.lit c) with
      | true, true, true => z
      | _, _, _ => .add (.mul (.lit c) x) b
    | _ => .add (.mul (.lit c) x) b
  | b => match seq x b with | true => .mul (.lit (c + 1)) x | false => .add (.mul (.lit c) x) b
def mkAdd (a b : SE) : SE := match b with
  | .lit c => mkAddL a c
  | b => match a with
    | .lit c => mkAddL b c
    | .mul (.lit c) x => addM c x b
    | a => match seq a b with | true => .mul (.lit 2) a | false => .add a b
def mkSub (a b : SE) : SE := match b with
  | .lit c => mkAddL a (0 - c)
  | .sub (.lit w) x => match seq a (.lit 0), ieq w 0 with | true, true => x | _, _ => .sub a (.sub (.lit w) x)
  | b => match seq a b with | true => .lit 0 | false => .sub a b
def mulL (c : Int) (a : SE) : SE := match ieq c 0, ieq c 1 with
  | true, _ => .lit 0
  | false, true => a
  | false, false => .mul (.lit c) a
def mkMul (a b : SE) : SE := match a with
  | .lit x => mulL x b
  | a => match b with
    | .lit y => mulL y a
    | b => .mul a b
def mkQuo (a b : SE) : SE := match b with
  | .lit c => match ieq c 1 with | true => a | false => .quo a (.lit c)
  | b => .quo a b
def kmin : IntKind → Int
  | .i8 => -128 | .i16 => -32768 | .i32 => -2147483648 | .i64 => -9223372036854775808
  | .u8 => 0 | .u16 => 0 | .u32 => 0 | .u64 => 0
def kmax : IntKind → Int
  | .i8 => 127 | .i16 => 32767 | .i32 => 2147483647 | .i64 => 9223372036854775807
  | .u8 => 255 | .u16 => 65535 | .u32 => 4294967295 | .u64 => 18446744073709551615
def fitsK (k : IntKind) (lo hi : Int) : Bool := match ilt lo (kmin k), ilt (kmax k) hi with | false, false => true | _, _ => false
def symEq (l1 h1 : Int) (e1 : SE) (l2 h2 : Int) (e2 : SE) : Option Bool := match ilt h1 l2, ilt h2 l1 with
  | false, false => match seq e1 e2 with | true => some true | false => none
  | _, _ => some false
def symLt (l1 h1 : Int) (e1 : SE) (l2 h2 : Int) (e2 : SE) : Option Bool := match ilt h1 l2 with
  | true => some true
  | false => match ilt l1 h2 with
    | false => some false
    | true => match seq e1 e2 with | true => some false | false => none
def sb1 : SB → SB → Option Bool
  | .b c, .b d => some (Nat.beq c.toNat d.toNat)
  | .b c, .s lo hi _ => match Nat.blt c.toNat lo, Nat.blt hi c.toNat with | false, false => none | _, _ => some false
  | .s lo hi _, .b c => match Nat.blt c.toNat lo, Nat.blt hi c.toNat with | false, false => none | _, _ => some false
  | .s l1 h1 e1, .s l2 h2 e2 => symEq (.ofNat l1) (.ofNat h1) e1 (.ofNat l2) (.ofNat h2) e2
def sbEq : List SB → List SB → Option Bool
  | [], [] => some true
  | [], _ :: _ => some false
  | _ :: _, [] => some false
  | a :: x, b :: y => match sb1 a b with
    | some true => sbEq x y
    | some false => some false
    | none => match sbEq x y with | some false => some false | _ => none
def allB : List SB → Option (List UInt8)
  | [] => some []
  | .b c :: l => match allB l with | some r => some (c :: r) | none => none
  | .s _ _ _ :: _ => none
end Go.Ev
namespace Go.Ev

inductive D where | a | b | c | d
  deriving DecidableEq
abbrev Path := List D
def digitOf (k : Nat) : D := Nat.casesOn k D.a (fun j => Nat.casesOn j D.b (fun i => Nat.casesOn i D.c (fun _ => D.d)))
def pathGo (f : Nat) : Nat → Path := Nat.rec (fun _ => []) (fun _ ih m => Nat.casesOn m [] (fun k => digitOf (k % 4) :: ih (k / 4))) f
def pathOf (n : Nat) : Path := pathGo (n + 1) n
def inc (p : Path) : Path := List.rec [D.a] (fun x l ih => D.casesOn x (D.b :: l) (D.c :: l) (D.d :: l) (D.a :: ih)) p

inductive Tr (α : Type) where
  | nil
  | node (v : Option α) (t0 t1 t2 t3 : Tr α)
def get {α : Type} (p : Path) : Tr α → Option α :=
  List.rec (fun t => Tr.casesOn t none (fun v _ _ _ _ => v)) (fun x _ ih t => Tr.casesOn t none (fun _ t0 t1 t2 t3 => D.casesOn x (ih t0) (ih t1) (ih t2) (ih t3))) p
def set {α : Type} (p : Path) (v : Option α) : Tr α → Tr α :=
  List.rec (fun t => Tr.casesOn t (.node v .nil .nil .nil .nil) (fun _ t0 t1 t2 t3 => .node v t0 t1 t2 t3))
    (fun x _ ih t => Tr.casesOn t
      (D.casesOn x (.node none (ih .nil) .nil .nil .nil) (.node none .nil (ih .nil) .nil .nil) (.node none .nil .nil (ih .nil) .nil) (.node none .nil .nil .nil (ih .nil)))
      (fun w t0 t1 t2 t3 => D.casesOn x (.node w (ih t0) t1 t2 t3) (.node w t0 (ih t1) t2 t3) (.node w t0 t1 (ih t2) t3) (.node w t0 t1 t2 (ih t3)))) p

inductive AV where
  | bool (b : Bool)
  | int (k : IntKind) (n : Int)
  | res (k : IntKind) (m r : Nat)
  | str (s : ByteArray)
  | ptr (b : Path) (off : Nat)
  | nilp
  | sl (b : Path) (k i n : Nat)
  | sle
  | nils
  | fn (f : FuncId) (first caps : List AV)
  | nilfn
  | ifc (t : TypeId) (v : AV)
  | nilif
  | mp (p : Path)
  | nilm
  | agg (l : List AV)
  | tup (l : List AV)
  | sym (k : IntKind) (lo hi : Int) (e : SE)
  | ss (l : List SB)

inductive Sl where
  | v (a : AV)
  | und
  | box (g : Nat) (l : List AV)
  | lp (d : Path) (g off : Nat)
abbrev FT := Tr Sl

structure Blk where
  k : Nat
  n : Nat
  rows : Tr (List AV)
  grows : Bool
  ro : Bool
  map : Bool
  ty : Nat
structure H where
  next : Path
  t : Tr Blk
  gen : Nat
def getC (p : Path) (t : Tr Blk) : Option Blk := match get p t with
  | some b => match b.map with | true => none | false => some b
  | none => none
def H.new (h : H) (b : Blk) : H := ⟨inc h.next, set h.next (some b) h.t, h.gen⟩
def H.put (h : H) (p : Path) (b : Option Blk) : H := ⟨h.next, set p b h.t, h.gen⟩

def ofCell : Value → Option AV
  | .bool b => some (.bool b)
  | .int k n => some (.int k n)
  | .string s => some (.str s)
  | .pointer none => some .nilp
  | .slice none 0 0 => some .nils
  | .nilFunc => some .nilfn
  | .nilIface => some .nilif
  | .map none => some .nilm
  | _ => none
def ofCells : List Value → Option (List AV)
  | [] => some []
  | v :: l => match ofCell v, ofCells l with | some a, some r => some (a :: r) | _, _ => none
def ofValue : Value → Option AV
  | .agg cs => match ofCells cs.toList with | some l => some (.agg l) | none => none
  | v => ofCell v

def isAggT (P : Program) (t : TypeId) : Option Bool := match P.underlying t with
  | some (.struct _) => some true
  | some (.array _ _) => some true
  | some _ => some false
  | none => none
def sizeT (P : Program) (t : TypeId) : Option Nat := match P.info? t with | some i => some i.size | none => none
def zeroT (P : Program) (t : TypeId) : Option (List AV) := match P.info? t with
  | some i => match i.zero with | some v => ofCells v.cells.toList | none => none
  | none => none
def zeroV (P : Program) (t : TypeId) : Option AV := match P.info? t with
  | some i => match i.zero with | some v => ofValue v | none => none
  | none => none
def arrT (P : Program) (t : TypeId) : Option (Nat × TypeId) := match P.underlying t with | some (.array n e) => some (n, e) | _ => none
def elemT (P : Program) (t : TypeId) : Option TypeId := match P.underlying t with | some (.slice e) => some e | _ => none
def fieldT (P : Program) (t : TypeId) (i : Nat) : Option (Nat × Nat × Bool) := match P.underlying t with
  | some (.struct fs) => match fs[i]? with
    | some f => match sizeT P f.type, isAggT P f.type with | some n, some g => some (f.offset, n, g) | _, _ => none
    | none => none
  | _ => none

inductive Rd where
  | sl (p : Path)
  | k (a : AV)
  | bad
def rd : Operand → Rd
  | .tmp t => .sl (pathOf t)
  | .const v => match ofValue v with | some a => .k a | none => .bad
  | .func f => .k (.fn f [] [])
  | .global _ => .bad
def gv (x : Rd) (fr : FT) : Option AV := match x with
  | .sl p => match get p fr with | some (.v a) => some a | _ => none
  | .k a => some a
  | .bad => none
def gvs (l : List Rd) (fr : FT) : Option (List AV) := match l with
  | [] => some []
  | x :: l => match gv x fr with | some a => (match gvs l fr with | some r => some (a :: r) | none => none) | none => none
def asSlot (t : Rd) : Option Path := match t with | .sl p => some p | _ => none
def pt (d : Option Path) (s : Option Sl) (fr : FT) : FT := match d with | some d => set d s fr | none => fr

inductive Place where
  | loc (d : Path) (g off : Nat)
  | mem (b : Path) (off : Nat)
def place (x : Rd) (fr : FT) : Option Place := match x with
  | .sl p => match get p fr with
    | some (.v (.ptr b o)) => some (.mem b o)
    | some (.box g _) => some (.loc p g 0)
    | some (.lp d g o) => some (.loc d g o)
    | _ => none
  | _ => none

def cells : AV → Option (List AV)
  | .agg l => some l
  | .tup _ => none
  | a => some [a]
def cut (off n : Nat) (l : List AV) : Option (List AV) := match Nat.ble (off + n) l.length with | true => some ((l.drop off).take n) | false => none
def val (agg : Bool) (l : List AV) : Option AV := match agg with
  | true => some (.agg l)
  | false => match l with | [a] => some a | _ => none
def patch (off : Nat) (x l : List AV) : Option (List AV) := match Nat.ble (off + x.length) l.length with
  | true => some (l.take off ++ (x ++ l.drop (off + x.length)))
  | false => none

def loadAt (fr : FT) (h : H) (p : Place) (n : Nat) : Option (List AV) := match p with
  | .loc d g o => match get d fr with
    | some (.box g' l) => match Nat.beq g' g with | true => cut o n l | false => none
    | _ => none
  | .mem b o => match getC b h.t with
    | some k => match get (pathOf (o / k.k)) k.rows with | some r => cut (o % k.k) n r | none => none
    | none => none
def storeAt (fr : FT) (h : H) (p : Place) (x : List AV) : Option (FT × H) := match p with
  | .loc d g o => match get d fr with
    | some (.box g' l) => match Nat.beq g' g with
      | true => match patch o x l with | some l => some (set d (some (.box g' l)) fr, h) | none => none
      | false => none
    | _ => none
  | .mem b o => match getC b h.t with
    | some k => match k.ro with
      | true => none
      | false => match get (pathOf (o / k.k)) k.rows with
        | some r => match patch (o % k.k) x r with
          | some r => some (fr, h.put b (some { k with rows := set (pathOf (o / k.k)) (some r) k.rows }))
          | none => none
        | none => none
    | none => none

def fill (l : List (Nat × Nat × Rd)) (fr : FT) (x : List AV) : Option (List AV) := match l with
  | [] => some x
  | (off, n, r) :: l => match gv r fr with
    | some a => match cells a with
      | some c => match Nat.beq c.length n with
        | true => match patch off c x with | some x => fill l fr x | none => none
        | false => none
      | none => none
    | none => none

def rowsOf (k : Nat) (n : Nat) : Nat → List AV → Tr (List AV) → Tr (List AV) :=
  Nat.rec (fun _ _ t => t) (fun _ ih i l t => ih (i + 1) (l.drop k) (set (pathOf i) (some (l.take k)) t)) n
def repRows (z : List AV) (n : Nat) : Nat → Tr (List AV) → Tr (List AV) :=
  Nat.rec (fun _ t => t) (fun _ ih i t => ih (i + 1) (set (pathOf i) (some z) t)) n
def copyRows (src : Tr (List AV)) (n : Nat) : Nat → Nat → Tr (List AV) → Option (Tr (List AV)) :=
  Nat.rec (fun _ _ t => some t) (fun _ ih i j t => Option.casesOn (get (pathOf i) src) none (fun r => ih (i + 1) (j + 1) (set (pathOf j) (some r) t))) n
def byteRows (l : List UInt8) : Nat → Tr (List AV) → Tr (List AV) :=
  List.rec (fun _ t => t) (fun c _ ih i t => ih (i + 1) (set (pathOf i) (some [AV.int .u8 (.ofNat c.toNat)]) t)) l
def sbAV : SB → AV
  | .b c => .int .u8 (.ofNat c.toNat)
  | .s lo hi e => .sym .u8 (.ofNat lo) (.ofNat hi) e
def avSB : AV → Option SB
  | .int .u8 (.ofNat c) => match Nat.blt c 256 with | true => some (.b (UInt8.ofNat c)) | false => none
  | .sym .u8 (.ofNat lo) (.ofNat hi) e => match Nat.ble hi 255 with | true => some (.s lo hi e) | false => none
  | _ => none
def sbRows (l : List SB) : Nat → Tr (List AV) → Tr (List AV) :=
  List.rec (fun _ t => t) (fun c _ ih i t => ih (i + 1) (set (pathOf i) (some [sbAV c]) t)) l
def sbIn (rows : Tr (List AV)) (n : Nat) : Nat → Option (List SB) :=
  Nat.rec (fun _ => some []) (fun _ ih i => match get (pathOf i) rows with
    | some [a] => match avSB a, ih (i + 1) with | some c, some l => some (c :: l) | _, _ => none
    | _ => none) n
def bytesIn (rows : Tr (List AV)) (n : Nat) : Nat → Option (List UInt8) :=
  Nat.rec (fun _ => some []) (fun _ ih i => match get (pathOf i) rows with
    | some [.int .u8 (.ofNat c)] => match ih (i + 1) with | some l => some (UInt8.ofNat c :: l) | none => none
    | _ => none) n

def deq : D → D → Bool
  | .a, .a => true
  | .b, .b => true
  | .c, .c => true
  | .d, .d => true
  | _, _ => false
def peq : Path → Path → Bool
  | [], [] => true
  | u :: x, v :: y => match deq u v with | true => peq x y | false => false
  | _, _ => false
def bytesEq : List UInt8 → List UInt8 → Bool
  | [], [] => true
  | a :: x, b :: y => match Nat.beq a.toNat b.toNat with | true => bytesEq x y | false => false
  | _, _ => false
def keq : IntKind → IntKind → Bool
  | .i64, .i64 => true
  | .u8, .u8 => true
  | j, k => decide (j = k)
def wrapF (k : IntKind) (n : Int) : Int := match k with
  | .i64 => match n with
    | .ofNat m => match Nat.blt m 9223372036854775808 with | true => .ofNat m | false => IntKind.wrap .i64 n
    | .negSucc m => match Nat.blt m 9223372036854775808 with | true => .negSucc m | false => IntKind.wrap .i64 n
  | k => k.wrap n
def symU (k : IntKind) (lo hi : Int) (e : SE) : Option AV := match fitsK k lo hi with
  | true => match ieq lo hi with | true => some (.int k lo) | false => some (.sym k lo hi e)
  | false => none
def symV (k : IntKind) (lo hi : Int) (e : SE) : Option AV := match e with
  | .var i l h => match ilt lo l, ilt h hi, fitsK k l h with
    | true, true, true => some (.sym k l h (.var i l h))
    | _, _, _ => symU k lo hi (.var i l h)
  | e => symU k lo hi e
def ofB (r : Option Bool) : Option AV := match r with | some b => some (.bool b) | none => none
def ofNB (r : Option Bool) : Option AV := match r with | some b => some (.bool !b) | none => none
def binSym (op : BinOp) (k : IntKind) (l1 h1 : Int) (e1 : SE) (l2 h2 : Int) (e2 : SE) : Option AV := match op with
  | .add => symV k (l1 + l2) (h1 + h2) (mkAdd e1 e2)
  | .sub => symV k (l1 - h2) (h1 - l2) (mkSub e1 e2)
  | .mul => match ilt l1 0, ilt l2 0 with
    | false, false => symV k (l1 * l2) (h1 * h2) (mkMul e1 e2)
    | true, false => match ilt 0 h1 with
      | false => symV k (l1 * h2) (h1 * l2) (mkMul e1 e2)
      | true => symV k (l1 * h2) (h1 * h2) (mkMul e1 e2)
    | _, _ => none
  | .quo => match ilt 0 l2, ieq l2 h2 with
    | true, true => symV k (l1.tdiv l2) (h1.tdiv l2) (mkQuo e1 e2)
    | _, _ => none
  | .rem => match ilt 0 l2, ieq l2 h2 with
    | true, true => match ilt l1 0, ilt h1 l2 with
      | false, true => symV k l1 h1 e1
      | false, false => symV k 0 (l2 - 1) (.rem e1 e2)
      | true, _ => symV k (1 - l2) (l2 - 1) (.rem e1 e2)
    | _, _ => none
  | .eql => ofB (symEq l1 h1 e1 l2 h2 e2)
  | .neq => ofNB (symEq l1 h1 e1 l2 h2 e2)
  | .lss => ofB (symLt l1 h1 e1 l2 h2 e2)
  | .leq => ofNB (symLt l2 h2 e2 l1 h1 e1)
  | .gtr => ofB (symLt l2 h2 e2 l1 h1 e1)
  | .geq => ofNB (symLt l1 h1 e1 l2 h2 e2)
  | _ => none
def bsOf (s : ByteArray) : List SB := s.data.toList.map SB.b
def mkS (l : List SB) : AV := match allB l with | some r => .str ⟨⟨r⟩⟩ | none => .ss l
def binSS (op : BinOp) (x y : List SB) : Option AV := match op with
  | .add => match Nat.ble (x.length + y.length) 9223372036854775807 with | true => some (mkS (x ++ y)) | false => none
  | .eql => ofB (sbEq x y)
  | .neq => ofNB (sbEq x y)
  | _ => none
inductive ET where | bool | int | str | ptr | slc | fn | ifc
def aeq (t : ET) (x y : AV) : Option Bool := match t with
  | .bool => match x, y with
    | .bool a, .bool b => some (match a with | true => b | false => !b)
    | _, _ => none
  | .int => match x, y with
    | .int j a, .int k b => match keq j k with | true => some (ieq a b) | false => none
    | .int j a, .sym k l h e => match keq j k with | true => symEq a a (.lit a) l h e | false => none
    | .sym j l h e, .int k b => match keq j k with | true => symEq l h e b b (.lit b) | false => none
    | .sym j l h e, .sym k l' h' e' => match keq j k with | true => symEq l h e l' h' e' | false => none
    | _, _ => none
  | .str => match x, y with
    | .str a, .str b => some (bytesEq a.data.toList b.data.toList)
    | .str a, .ss l => sbEq (bsOf a) l
    | .ss l, .str b => sbEq l (bsOf b)
    | .ss l, .ss m => sbEq l m
    | _, _ => none
  | .ptr => match x, y with
    | .nilp, .nilp => some true
    | .nilp, .ptr _ _ => some false
    | .ptr _ _, .nilp => some false
    | _, _ => none
  | .slc => match x, y with
    | .nils, .nils => some true
    | .nils, .sl _ _ _ _ => some false
    | .sl _ _ _ _, .nils => some false
    | .nils, .sle => some false
    | .sle, .nils => some false
    | _, _ => none
  | .fn => match x, y with
    | .nilfn, .nilfn => some true
    | .nilfn, .fn _ _ _ => some false
    | .fn _ _ _, .nilfn => some false
    | _, _ => none
  | .ifc => match x, y with
    | .nilif, .nilif => some true
    | .nilif, .ifc _ _ => some false
    | .ifc _ _, .nilif => some false
    | _, _ => none
def aeqs : List ET → List AV → List AV → Option Bool
  | [], [], [] => some true
  | t :: l, a :: x, b :: y => match aeq t a b with
    | some true => aeqs l x y
    | some false => some false
    | none => none
  | _, _, _ => none
def binInt (op : BinOp) (k : IntKind) (x y : Int) : Option AV := match op with
  | .add => some (.int k (wrapF k (x + y)))
  | .sub => some (.int k (wrapF k (x - y)))
  | .mul => some (.int k (wrapF k (x * y)))
  | .quo => match ieq y 0 with | true => none | false => some (.int k (wrapF k (x.tdiv y)))
  | .rem => match ieq y 0 with | true => none | false => some (.int k (x.tmod y))
  | .eql => some (.bool (ieq x y))
  | .neq => some (.bool (!ieq x y))
  | .lss => some (.bool (ilt x y))
  | .leq => some (.bool (!ilt y x))
  | .gtr => some (.bool (ilt y x))
  | .geq => some (.bool (!ilt x y))
  | _ => none
def binStr (op : BinOp) (x y : ByteArray) : Option AV := match op with
  | .add => match Nat.ble (x.data.toList.length + y.data.toList.length) 9223372036854775807 with | true => some (.str ⟨(x.data.toList ++ y.data.toList).toArray⟩) | false => none
  | .eql => some (.bool (bytesEq x.data.toList y.data.toList))
  | .neq => some (.bool (!bytesEq x.data.toList y.data.toList))
  | .lss => some (.bool (Op.bytesLess x.data.toList y.data.toList))
  | .leq => some (.bool (match Op.bytesLess x.data.toList y.data.toList with | true => true | false => bytesEq x.data.toList y.data.toList))
  | .gtr => some (.bool (match Op.bytesLess x.data.toList y.data.toList with | true => false | false => !bytesEq x.data.toList y.data.toList))
  | .geq => some (.bool (!Op.bytesLess x.data.toList y.data.toList))
  | _ => none
def eqT (P : Program) (t : TypeId) : Option ET := match P.underlying t with
  | some .bool => some .bool
  | some (.pointer _) => some .ptr
  | some (.slice _) => some .slc
  | some (.func _ _ _) => some .fn
  | some (.interface _) => some .ifc
  | _ => none
def cellT (P : Program) (t : TypeId) : Option ET := match P.underlying t with
  | some (.int _) => some .int
  | some .bool => some .bool
  | some .string => some .str
  | _ => none
def cellsT (P : Program) : List Field → Nat → Option (List ET)
  | [], _ => some []
  | f :: l, i => match Nat.beq f.offset i, f.name != "_", cellT P f.type, cellsT P l (i + 1) with | true, true, some t, some r => some (t :: r) | _, _, _, _ => none
inductive EQ where | no | one (t : ET) | all (l : List ET)
def eqOf (P : Program) (t : TypeId) (x y : Operand) : EQ := match P.underlying t with
  | some (.struct fs) => match P.stoodInHeld t, cellsT P fs.toList 0 with | false, some l => .all l | _, _ => .no
  | some (.interface _) => match x, y with
    | .const _, _ => .one .ifc
    | _, .const _ => .one .ifc
    | _, _ => .no
  | _ => match eqT P t with | some e => .one e | none => .no
def eqlV (op : BinOp) (r : Option Bool) : Option AV := match op, r with
  | .eql, some b => some (.bool b)
  | .neq, some b => some (.bool !b)
  | _, _ => none
def bin (q : EQ) (op : BinOp) (x y : AV) : Option AV := match x with
  | .int j a => match y with
    | .int k b => match keq j k with | true => binInt op k a b | false => none
    | .sym k l h e => match keq j k with | true => binSym op k a a (.lit a) l h e | false => none
    | _ => none
  | .sym j l h e => match y with
    | .int k b => match keq j k with | true => binSym op k l h e b b (.lit b) | false => none
    | .sym k l' h' e' => match keq j k with | true => binSym op k l h e l' h' e' | false => none
    | _ => none
  | .ss l => match y with
    | .str b => binSS op l (bsOf b)
    | .ss m => binSS op l m
    | _ => none
  | .res j m r => match y with
    | .int k (.ofNat n) => match op with
      | .rem => match keq j k, Nat.beq m n, Nat.beq n 0 with | true, true, false => some (.int j (.ofNat r)) | _, _, _ => none
      | _ => none
    | _ => none
  | .str a => match y with
    | .str b => binStr op a b
    | .ss l => binSS op (bsOf a) l
    | _ => none
  | .agg a => match y with
    | .agg b => match q with | .all l => eqlV op (aeqs l a b) | _ => none
    | _ => none
  | a => match q with | .one t => eqlV op (aeq t a y) | _ => none
def un (op : UnOp) (x : AV) : Option AV := match op, x with
  | .not, .bool b => some (.bool !b)
  | .neg, .int k n => some (.int k (wrapF k (0 - n)))
  | .neg, .sym k l h e => symV k (0 - h) (0 - l) (mkSub (.lit 0) e)
  | _, _ => none
def conv (k : IntKind) (x : AV) : Option AV := match x with
  | .int _ n => some (.int k (wrapF k n))
  | .res _ m r => match k with | .i64 => some (.res .i64 m r) | _ => none
  | .sym _ l h e => symV k l h e
  | _ => none
def natOf : AV → Option Nat
  | .int _ (.ofNat n) => some n
  | _ => none

def sbsame : List SB → List SB → Bool
  | [], [] => true
  | .b c :: l, .b d :: m => match Nat.beq c.toNat d.toNat with | true => sbsame l m | false => false
  | .s l1 h1 e1 :: l, .s l2 h2 e2 :: m => match Nat.beq l1 l2, Nat.beq h1 h2, seq e1 e2 with | true, true, true => sbsame l m | _, _, _ => false
  | _, _ => false
mutual
def aveq : AV → AV → Bool
  | .bool a, .bool b => match a with | true => b | false => !b
  | .int j a, .int k b => match keq j k with | true => ieq a b | false => false
  | .str a, .str b => bytesEq a.data.toList b.data.toList
  | .ptr p o, .ptr q u => match peq p q with | true => Nat.beq o u | false => false
  | .nilp, .nilp => true
  | .sl p k i n, .sl q l j m => match peq p q, Nat.beq k l, Nat.beq i j with | true, true, true => Nat.beq n m | _, _, _ => false
  | .sle, .sle => true
  | .nils, .nils => true
  | .fn f a c, .fn g b d => match Nat.beq f g, avseq a b with | true, true => avseq c d | _, _ => false
  | .nilfn, .nilfn => true
  | .ifc t a, .ifc u b => match Nat.beq t u with | true => aveq a b | false => false
  | .nilif, .nilif => true
  | .mp p, .mp q => peq p q
  | .nilm, .nilm => true
  | .agg a, .agg b => avseq a b
  | .tup a, .tup b => avseq a b
  | .sym j l h e, .sym k l' h' e' => match keq j k, ieq l l', ieq h h' with | true, true, true => seq e e' | _, _, _ => false
  | .ss l, .ss m => sbsame l m
  | _, _ => false
def avseq : List AV → List AV → Bool
  | [], [] => true
  | a :: x, b :: y => match aveq a b with | true => avseq x y | false => false
  | _, _ => false
end

def lenS : AV → Option Nat
  | .str s => some s.data.toList.length
  | .ss l => some l.length
  | _ => none
def lenOf : AV → Option Nat
  | .sl _ _ _ n => some n
  | .sle => some 0
  | .nils => some 0
  | _ => none
def oldRows (rows : Tr (List AV)) (n : Nat) : Nat → Option (Tr (List AV))
  | 0 => some rows
  | i => copyRows rows n i 0 .nil
def newTy (t : Nat) (b : Blk) (i : Nat) : Nat := match Nat.beq b.ty t, i with | true, 0 => t | _, _ => 0
def appendRows (h : H) (t k : Nat) (s : AV) (m : Nat) (src : Tr (List AV)) (i0 : Nat) : Option (AV × H) := match s with
  | .nils => match m with
    | 0 => some (.nils, h)
    | _ => match copyRows src m i0 0 .nil with
      | some r => some (.sl h.next k 0 m, h.new ⟨k, m, r, true, false, false, t⟩)
      | none => none
  | .sl b _ i n => match getC b h.t with
    | some bl => match bl.ro with
      | true => none
      | false => match Nat.beq bl.k k with
        | false => none
        | true => match Nat.ble (i + n + m) bl.n with
          | true => match copyRows src m i0 (i + n) bl.rows with
            | some r => some (.sl b k i (n + m), h.put b (some { bl with rows := r }))
            | none => none
          | false => match Nat.beq (i + n) bl.n with
            | true => match oldRows bl.rows n i with
              | some r => match copyRows src m i0 n r with
                | some r => some (.sl h.next k 0 (n + m), H.new (match bl.grows with | true => h.put b none | false => h) ⟨k, n + m, r, true, false, false, newTy t bl i⟩)
                | none => none
              | none => none
            | false => none
    | none => none
  | _ => none
def appendS (h : H) (t k : Nat) (s x : AV) : Option (AV × H) := match x with
  | .str y => match Nat.beq k 1 with | true => appendRows h t k s y.data.toList.length (byteRows y.data.toList 0 .nil) 0 | false => none
  | .ss l => match Nat.beq k 1 with | true => appendRows h t k s l.length (sbRows l 0 .nil) 0 | false => none
  | _ => none
def most : Nat := 16777216
def appendV (h : H) (t k : Nat) (s x : AV) : Option (AV × H) := match x with
  | .nils => appendRows h t k s 0 .nil 0
  | .sle => appendRows h t k s 0 .nil 0
  | .sl b _ i n => match getC b h.t with
    | some bl => match Nat.beq bl.k k with | true => appendRows h t k s n bl.rows i | false => none
    | none => none
  | _ => none
def copyV (h : H) (k : Nat) (d x : AV) : Option (Nat × H) := match d with
  | .sl b _ i n => match x with
    | .sl c _ j m => match getC b h.t with
      | some bl => match getC c h.t with
        | some cl => match bl.ro, Nat.beq bl.k k, Nat.beq cl.k k, Nat.ble (i + n) bl.n with
          | false, true, true, true => match copyRows cl.rows (Nat.min m n) j i bl.rows with
            | some t => some (Nat.min m n, h.put b (some ⟨bl.k, bl.n, t, bl.grows, bl.ro, bl.map, bl.ty⟩))
            | none => none
          | _, _, _, _ => none
        | none => none
      | none => none
    | .sle => some (0, h)
    | .nils => some (0, h)
    | _ => none
  | _ => none
def bnd (d : Nat) (x : Option AV) : Option Nat := match x with | none => some d | some a => natOf a
def sliceS (x : AV) (lo hi : Option AV) : Option AV := match x with
  | .str s => match bnd 0 lo, bnd s.data.toList.length hi with
    | some l, some r => match Nat.ble l r, Nat.ble r s.data.toList.length with
      | true, true => some (.str ⟨((s.data.toList.drop l).take (r - l)).toArray⟩)
      | _, _ => none
    | _, _ => none
  | .ss s => match bnd 0 lo, bnd s.length hi with
    | some l, some r => match Nat.ble l r, Nat.ble r s.length with
      | true, true => some (mkS ((s.drop l).take (r - l)))
      | _, _ => none
    | _, _ => none
  | _ => none
def sliceV (z : Nat) (x : AV) (lo hi : Option AV) : Option AV := match x with
  | .sl b k i n => match bnd 0 lo, bnd n hi with
    | some l, some r => match Nat.ble l r, Nat.ble r n, Nat.beq k z with
      | true, true, true => match l with
        | 0 => some (.sl b k i r)
        | _ => match Nat.beq l n with | true => some .sle | false => some (.sl b k (i + l) (r - l))
      | _, _, _ => none
    | _, _ => none
  | .sle => match bnd 0 lo, bnd 0 hi with
    | some 0, some 0 => some .sle
    | _, _ => none
  | .nils => match bnd 0 lo, bnd 0 hi with
    | some 0, some 0 => some .nils
    | _, _ => none
  | _ => none

inductive OpOut where
  | next (fr : FT) (h : H)
  | call (f : FuncId) (args : List AV)
  | pan (v : AV)
  | bad (why : Nat)
inductive OpF where
  | pure (why : Nat) (val : FT → Option Sl)
  | look (why : Nat) (val : FT → H → Option Sl)
  | new (why : Nat) (val : FT → Option (Blk × Option Nat))
  | eff (run : FT → H → OpOut)
def retV (r : Option AV) : Option Sl := match r with | some a => some (.v a) | none => none

def vMove (x : Rd) (fr : FT) : Option Sl := retV (gv x fr)
def vPick (c a b : Rd) (fr : FT) : Option Sl := match gv c fr with
  | some (.bool true) => retV (gv a fr)
  | some (.bool false) => retV (gv b fr)
  | _ => none
def bLoc (z : List AV) (d : Path) (fr : FT) (h : H) : OpOut := .next (set d (some (.box h.gen z)) fr) ⟨h.next, h.t, h.gen + 1⟩
def boxRow (t : Nat) (z : List AV) : Blk := ⟨z.length, 1, set [] (some z) .nil, false, false, false, t⟩
def oneRow (z : List AV) : Blk := boxRow 0 z
def nBox (t : Nat) (z : List AV) (_ : FT) : Option (Blk × Option Nat) := some (boxRow t z, none)
def nBoxV (t n : Nat) (x : Rd) (fr : FT) : Option (Blk × Option Nat) := match gv x fr with
  | some a => match cells a with
    | some c => match Nat.beq c.length n with | true => some (boxRow t c, none) | false => none
    | none => none
  | none => none
def bLocV (n : Nat) (x : Rd) (d : Path) (fr : FT) (h : H) : OpOut := match gv x fr with
  | some a => match cells a with
    | some c => match Nat.beq c.length n with | true => bLoc c d fr h | false => .bad 5
    | none => .bad 5
  | none => .bad 5
def vBuild (z : List AV) (ps : List (Nat × Nat × Rd)) (fr : FT) : Option Sl := match fill ps fr z with
  | some l => some (.v (.agg l))
  | none => none
def nSlice (k n : Nat) (z : List AV) (ps : List (Nat × Nat × Rd)) (fr : FT) : Option (Blk × Option Nat) := match fill ps fr z with
  | some l => some (⟨k, n, rowsOf k n 0 l .nil, false, false, false, 0⟩, some n)
  | none => none
def lLoad (x : Rd) (n : Nat) (g : Bool) (fr : FT) (h : H) : Option Sl := match place x fr with
  | some p => match loadAt fr h p n with | some l => retV (val g l) | none => none
  | none => none
def hStore (x y : Rd) (n : Nat) (fr : FT) (h : H) : OpOut := match place x fr with
  | some p => match gv y fr with
    | some a => match cells a with
      | some c => match Nat.beq c.length n with
        | true => match storeAt fr h p c with | some (fr, h) => .next fr h | none => .bad 9
        | false => .bad 9
      | none => .bad 9
    | none => .bad 9
  | none => .bad 9
def vNilCheck (x : Rd) (fr : FT) : Option Sl := match place x fr with
  | some (.loc p g o) => some (.lp p g o)
  | some (.mem b o) => some (.v (.ptr b o))
  | none => match gv x fr with
    | some (.fn f a c) => some (.v (.fn f a c))
    | _ => none
def vBin (q : EQ) (op : BinOp) (x y : Rd) (fr : FT) : Option Sl := match gv x fr with
  | some a => (match gv y fr with | some b => retV (bin q op a b) | none => none)
  | none => none
def vUn (op : UnOp) (x : Rd) (fr : FT) : Option Sl := match gv x fr with
  | some a => retV (un op a)
  | none => none
def vConvInt (k : IntKind) (x : Rd) (fr : FT) : Option Sl := match gv x fr with
  | some a => retV (conv k a)
  | none => none
def vConvStr (x : Rd) (fr : FT) : Option Sl := match gv x fr with
  | some (.str s) => some (.v (.str s))
  | some (.ss l) => some (.v (.ss l))
  | _ => none
def lBytes (x : Rd) (fr : FT) (h : H) : Option Sl := match gv x fr with
  | some .nils => some (.v (.str ⟨#[]⟩))
  | some (.sl b _ i n) => match getC b h.t with
    | some bl => match Nat.beq bl.k 1 with
      | true => match bytesIn bl.rows n i with
        | some l => some (.v (.str ⟨l.toArray⟩))
        | none => match sbIn bl.rows n i with | some l => some (.v (.ss l)) | none => none
      | false => none
    | none => none
  | _ => none
def nBytes (x : Rd) (fr : FT) : Option (Blk × Option Nat) := match gv x fr with
  | some (.str s) => some (⟨1, s.data.toList.length, byteRows s.data.toList 0 .nil, true, true, false, 0⟩, some s.data.toList.length)
  | some (.ss l) => some (⟨1, l.length, sbRows l 0 .nil, true, true, false, 0⟩, some l.length)
  | _ => none
def vIface (t : TypeId) (x : Rd) (fr : FT) : Option Sl := match gv x fr with
  | some a => some (.v (.ifc t a))
  | none => none
def vFunc (f : FuncId) (a c : List Rd) (fr : FT) : Option Sl := match gvs a fr with
  | some a => (match gvs c fr with | some c => some (.v (.fn f a c)) | none => none)
  | none => none
def nMake (k : Nat) (z : List AV) (l c : Rd) (fr : FT) : Option (Blk × Option Nat) := match gv l fr with
  | some l => match gv c fr with
    | some c => match natOf l, natOf c with
      | some l, some c => match Nat.ble l c, Nat.ble c most with
        | true, true => some (⟨k, c, repRows z c 0 .nil, false, false, false, 0⟩, some l)
        | _, _ => none
      | _, _ => none
    | none => none
  | none => none
def gvo (x : Option Rd) (fr : FT) : Option (Option AV) := match x with
  | none => some none
  | some x => match gv x fr with | some a => some (some a) | none => none
def vSliceS (x : Rd) (lo hi : Option Rd) (fr : FT) : Option Sl := match gv x fr with
  | some a => match gvo lo fr with
    | some l => match gvo hi fr with
      | some r => retV (sliceS a l r)
      | none => none
    | none => none
  | none => none
def vSlice (z : Nat) (x : Rd) (lo hi : Option Rd) (fr : FT) : Option Sl := match gv x fr with
  | some a => match gvo lo fr with
    | some l => match gvo hi fr with
      | some r => retV (sliceV z a l r)
      | none => none
    | none => none
  | none => none
def vFieldAddr (x : Rd) (off : Nat) (fr : FT) : Option Sl := match place x fr with
  | some (.loc p g o) => some (.lp p g (o + off))
  | some (.mem b o) => some (.v (.ptr b (o + off)))
  | none => none
def vField (x : Rd) (off n : Nat) (g : Bool) (fr : FT) : Option Sl := match gv x fr with
  | some (.agg l) => match cut off n l with | some r => retV (val g r) | none => none
  | _ => none
def vIndexAddr (k : Nat) (x ix : Rd) (fr : FT) : Option Sl := match gv x fr with
  | some (.sl b z i n) => match gv ix fr with
    | some a => match natOf a with
      | some j => match Nat.blt j n, Nat.beq z k with | true, true => some (.v (.ptr b ((i + j) * k))) | _, _ => none
      | none => none
    | none => none
  | _ => none
def vIndexArr (m k : Nat) (x ix : Rd) (fr : FT) : Option Sl := match gv x fr with
  | some (.ptr b o) => match gv ix fr with
    | some a => match natOf a with
      | some j => match Nat.blt j m with | true => some (.v (.ptr b (o + j * k))) | false => none
      | none => none
    | none => none
  | _ => none
def vIndex (x ix : Rd) (fr : FT) : Option Sl := match gv x fr with
  | some (.str s) => match gv ix fr with
    | some a => match natOf a with
      | some j => match s.data.toList[j]? with | some c => some (.v (.int .u8 (.ofNat c.toNat))) | none => none
      | none => none
    | none => none
  | some (.ss l) => match gv ix fr with
    | some a => match natOf a with
      | some j => match l[j]? with | some c => some (.v (sbAV c)) | none => none
      | none => none
    | none => none
  | _ => none
def vExtract (x : Rd) (i : Nat) (fr : FT) : Option Sl := match gv x fr with
  | some (.tup l) => retV l[i]?
  | _ => none
def vLenS (x : Rd) (fr : FT) : Option Sl := match gv x fr with
  | some a => match lenS a with | some n => some (.v (.int .i64 (.ofNat n))) | none => none
  | none => none
def vLen (x : Rd) (fr : FT) : Option Sl := match gv x fr with
  | some a => match lenOf a with | some n => some (.v (.int .i64 (.ofNat n))) | none => none
  | none => none
def apOut (d : Option Path) (fr : FT) (r : Option (AV × H)) : OpOut := match r with
  | some (a, h) => match lenOf a with
    | some n => match Nat.ble n most with | true => .next (pt d (some (.v a)) fr) h | false => .bad 24
    | none => .bad 24
  | none => .bad 24
def hAppend (t k : Nat) (s x : Rd) (d : Option Path) (fr : FT) (h : H) : OpOut := match gv s fr with
  | some s => match gv x fr with
    | some x => apOut d fr (appendV h t k s x)
    | none => .bad 24
  | none => .bad 24
def hAppendS (t k : Nat) (s x : Rd) (d : Option Path) (fr : FT) (h : H) : OpOut := match gv s fr with
  | some s => match gv x fr with
    | some x => apOut d fr (appendS h t k s x)
    | none => .bad 24
  | none => .bad 24
def hCopy (k : Nat) (s x : Rd) (d : Option Path) (fr : FT) (h : H) : OpOut := match gv s fr with
  | some s => match gv x fr with
    | some x => match copyV h k s x with
      | some (n, h) => .next (pt d (some (.v (.int .i64 (.ofNat n)))) fr) h
      | none => .bad 32
    | none => .bad 32
  | none => .bad 32
def ivl : AV → Option (IntKind × Int × Int × SE)
  | .int k n => some (k, n, n, .lit n)
  | .sym k l h e => some (k, l, h, e)
  | _ => none
def mmSym (mx : Bool) (a b : AV) : Option AV := match ivl a, ivl b with
  | some (j, l, h, e), some (k, l', h', e') => match keq j k with
    | true => match (match mx with | true => symLt l h e l' h' e' | false => symLt l' h' e' l h e) with
      | some true => some b
      | some false => some a
      | none => none
    | false => none
  | _, _ => none
def vMinMax (mx : Bool) (x y : Rd) (fr : FT) : Option Sl := match gv x fr with
  | some (.int j a) => match gv y fr with
    | some (.int k b) => match keq j k with
      | true => some (.v (.int k (match (match mx with | true => ilt a b | false => ilt b a) with | true => b | false => a)))
      | false => none
    | some b => retV (mmSym mx (.int j a) b)
    | none => none
  | some a => match gv y fr with
    | some b => retV (mmSym mx a b)
    | none => none
  | none => none
def hCall (f : Rd) (as : List Rd) (fr : FT) (_h : H) : OpOut := match gvs as fr with
  | some as => match gv f fr with
    | some (.fn f a cs) => .call f (a ++ as ++ cs)
    | _ => .bad 26
  | none => .bad 26
inductive KT where | int (k : IntKind) | str | bool
def keyT (P : Program) (t : TypeId) : Option KT := match P.underlying t with
  | some (.int k) => some (.int k)
  | some .string => some .str
  | some .bool => some .bool
  | _ => none
def isKey : KT → AV → Bool
  | .int k, .int j _ => keq j k
  | .str, .str _ => true
  | .bool, .bool _ => true
  | _, _ => false
def keyEq : AV → AV → Option Bool
  | .int j a, .int k b => match keq j k with | true => some (ieq a b) | false => none
  | .str a, .str b => some (bytesEq a.data.toList b.data.toList)
  | .bool a, .bool b => some (match a with | true => b | false => !b)
  | _, _ => none
def findRow (key : AV) (rows : Tr (List AV)) (n : Nat) : Nat → Option (Option (Nat × AV)) :=
  Nat.rec (fun _ => some none) (fun _ ih i => match get (pathOf i) rows with
    | some [ka, va] => match keyEq key ka with
      | some true => some (some (i, va))
      | some false => ih (i + 1)
      | none => none
    | _ => none) n
def mapAt (p : Path) (h : H) : Option Blk := match get p h.t with
  | some b => match b.map with | true => some b | false => none
  | none => none
def found (comma : Bool) (v : AV) (ok : Bool) : Sl := match comma with
  | true => .v (.tup [v, .bool ok])
  | false => .v v
def lLookup (kt : KT) (z : AV) (comma : Bool) (x k : Rd) (fr : FT) (h : H) : Option Sl := match gv k fr with
  | some ka => match isKey kt ka with
    | true => match gv x fr with
      | some .nilm => some (found comma z false)
      | some (.mp p) => match mapAt p h with
        | some b => match findRow ka b.rows b.n 0 with
          | some (some (_, va)) => some (found comma va true)
          | some none => some (found comma z false)
          | none => none
        | none => none
      | _ => none
    | false => none
  | none => none
def hInsert (kt : KT) (m k v : Rd) (fr : FT) (h : H) : OpOut := match gv m fr with
  | some (.mp p) => match mapAt p h with
    | some b => match gv k fr with
      | some ka => match isKey kt ka with
        | true => match gv v fr with
          | some va => match findRow ka b.rows b.n 0 with
            | some (some (j, _)) => .next fr (h.put p (some { b with rows := set (pathOf j) (some [ka, va]) b.rows }))
            | some none => .next fr (h.put p (some { b with n := b.n + 1, rows := set (pathOf b.n) (some [ka, va]) b.rows }))
            | none => .bad 31
          | none => .bad 31
        | false => .bad 31
      | none => .bad 31
    | none => .bad 31
  | _ => .bad 31
def hMakeMap (d : Option Path) (fr : FT) (h : H) : OpOut := .next (pt d (some (.v (.mp h.next))) fr) (h.new ⟨2, 0, .nil, true, false, true, 0⟩)
def vAssert (t : TypeId) (z : AV) (x : Rd) (fr : FT) : Option Sl := match gv x fr with
  | some (.ifc u v) => match Nat.beq u t with | true => some (.v (.tup [v, .bool true])) | false => some (.v (.tup [z, .bool false]))
  | some .nilif => some (.v (.tup [z, .bool false]))
  | _ => none
def hPanic (x : Rd) (fr : FT) (_h : H) : OpOut := match gv x fr with
  | some (.ifc t v) => .pan (.ifc t v)
  | _ => .bad 27

def placesT (P : Program) (fs : List Field) : Option (List (Nat × Nat)) := fs.mapM fun f => (P.info? f.type).map fun i => (f.offset, i.size)
def partsL (places : List (Nat × Nat)) : List (Nat × Operand) → Option (List (Nat × Nat × Rd))
  | [] => some []
  | (i, x) :: l => match places[i]?, partsL places l with | some (off, n), some r => some ((off, n, rd x) :: r) | _, _ => none
def dst? (o : Oper) : Option Path := match o.dst with | some d => some (pathOf d) | none => none
def rdo : Option Operand → Option Rd
  | some x => some (rd x)
  | none => none

def smallT (P : Program) (t : TypeId) : Bool := match P.info? t with | some i => Nat.ble i.bytes 8388608 | none => false
def elT (P : Program) (e : TypeId) : Option (Nat × List AV) := match sizeT P e, zeroT P e, smallT P e with
  | some k, some z, true => match Nat.blt 0 k, Nat.beq z.length k with | true, true => some (k, z) | _, _ => none
  | _, _, _ => none
def comp (P : Program) (loc : List Tmp) (o : Oper) : Option OpF := match o.op with
  | .move x => some (.pure 1 (vMove (rd x)))
  | .assign x => some (.pure 2 (vMove (rd x)))
  | .pick c a b => some (.pure 3 (vPick (rd c) (rd a) (rd b)))
  | .alloc t => match zeroT P t, sizeT P t, o.dst with
    | some z, some n, some d => match Nat.beq z.length n, Nat.blt 0 n with
      | true, true => match loc.contains d with
        | true => some (.eff (bLoc z (pathOf d)))
        | false => some (.new 4 (nBox (t + 1) z))
      | _, _ => none
    | _, _, _ => none
  | .box t x => match sizeT P t, o.dst with
    | some n, some d => match Nat.blt 0 n with
      | true => match loc.contains d with
        | true => some (.eff (bLocV n (rd x) (pathOf d)))
        | false => some (.new 5 (nBoxV (t + 1) n (rd x)))
      | false => none
    | _, _ => none
  | .build t ps => match P.underlying t, zeroT P t with
    | some (.struct fs), some z => match placesT P fs.toList with
      | some places => (match partsL places ps.toList with | some ps => some (.pure 6 (vBuild z ps)) | none => none)
      | none => none
    | _, _ => none
  | .buildSlice t n ps => match elemT P t with
    | some e => match elT P e with
      | some (k, z) => match Nat.ble (n * k) 16777216 with
        | true => some (.new 7 (nSlice k n (List.replicate n z).flatten (ps.toList.map fun (i, x) => (i * k, k, rd x))))
        | false => none
      | none => none
    | none => none
  | .load t x => match sizeT P t, isAggT P t with
    | some n, some g => match g, Nat.beq n 1 with | false, false => none | _, _ => some (.look 8 (lLoad (rd x) n g))
    | _, _ => none
  | .store t x y => match sizeT P t, o.dst with
    | some n, none => match Nat.blt 0 n with | true => some (.eff (hStore (rd x) (rd y) n)) | false => none
    | _, _ => none
  | .nilCheck x => some (.pure 10 (vNilCheck (rd x)))
  | .binOp op t x y _ => match op with
    | .shl => none
    | .shr => none
    | _ => some (.pure 11 (vBin (eqOf P t x y) op (rd x) (rd y)))
  | .unOp op _ x => some (.pure 12 (vUn op (rd x)))
  | .convert s t x => match P.underlying s, P.underlying t with
    | some (.int _), some (.int k) => some (.pure 13 (vConvInt k (rd x)))
    | some .string, some .string => some (.pure 13 (vConvStr (rd x)))
    | some (.slice e), some .string => match P.underlying e with | some (.int .u8) => some (.look 13 (lBytes (rd x))) | _ => none
    | some .string, some (.slice e) => match P.underlying e with | some (.int .u8) => some (.new 13 (nBytes (rd x))) | _ => none
    | _, _ => none
  | .makeInterface t x => match P.underlying t with | some (.interface _) => none | some _ => some (.pure 14 (vIface t (rd x))) | none => none
  | .makeFunc (.func f) a c => some (.pure 15 (vFunc f (a.toList.map rd) (c.toList.map rd)))
  | .makeSlice t l c => match elemT P t with
    | some e => match elT P e with | some (k, z) => some (.new 16 (nMake k z (rd l) (rd c))) | none => none
    | none => none
  | .slice t x lo hi none => match P.underlying t with
    | some .string => some (.pure 17 (vSliceS (rd x) (rdo lo) (rdo hi)))
    | some (.slice e) => match sizeT P e with | some z => (match Nat.blt 0 z with | true => some (.pure 17 (vSlice z (rd x) (rdo lo) (rdo hi))) | false => none) | none => none
    | _ => none
  | .fieldAddr t x i => match fieldT P t i with | some (off, n, _) => (match Nat.blt 0 n with | true => some (.pure 18 (vFieldAddr (rd x) off)) | false => none) | none => none
  | .field t x i => match fieldT P t i with | some (off, n, g) => (match g, Nat.beq n 1 with | false, false => none | _, _ => some (.pure 19 (vField (rd x) off n g))) | none => none
  | .indexAddr t x ix => match elemT P t with
    | some e => (match sizeT P e with | some k => some (.pure 20 (vIndexAddr k (rd x) (rd ix))) | none => none)
    | none => (match arrT P t with
      | some (m, e) => (match sizeT P e with | some k => some (.pure 20 (vIndexArr m k (rd x) (rd ix))) | none => none)
      | none => none)
  | .index t x ix => match P.underlying t with | some .string => some (.pure 21 (vIndex (rd x) (rd ix))) | _ => none
  | .extract x i => some (.pure 22 (vExtract (rd x) i))
  | .typeAssert x _ t true => match P.underlying t with
    | some (.interface _) => none
    | some _ => match zeroV P t with | some z => some (.pure 28 (vAssert t z (rd x))) | none => none
    | none => none
  | .lookup t x k comma => match P.underlying t with
    | some (.map kt et) => match keyT P kt, zeroV P et with | some kk, some z => some (.look 29 (lLookup kk z comma (rd x) (rd k))) | _, _ => none
    | _ => none
  | .makeMap _ none => some (.eff (hMakeMap (dst? o)))
  | .insert t m k v => match P.underlying t, o.dst with
    | some (.map kt _), none => match keyT P kt with | some kk => some (.eff (hInsert kk (rd m) (rd k) (rd v))) | none => none
    | _, _ => none
  | .mapUpdate t m k v => match P.underlying t, o.dst with
    | some (.map kt _), none => match keyT P kt with | some kk => some (.eff (hInsert kk (rd m) (rd k) (rd v))) | none => none
    | _, _ => none
  | .panic x => some (.eff (hPanic (rd x)))
  | .call c => match c.callee with
    | .builtin .len => match c.args.toList, c.argTypes.toList with
      | [x], [t] => match P.underlying t with
        | some .string => some (.pure 23 (vLenS (rd x)))
        | some (.slice _) => some (.pure 23 (vLen (rd x)))
        | _ => none
      | _, _ => none
    | .builtin .append => match c.args.toList, c.argTypes.toList with
      | [s, x], [t, u] => match elemT P t, P.underlying u with
        | some e, some (.slice _) => (match elT P e with | some (k, _) => some (.eff (hAppend (e + 1) k (rd s) (rd x) (dst? o))) | none => none)
        | some e, some .string => (match elT P e with | some (k, _) => some (.eff (hAppendS (e + 1) k (rd s) (rd x) (dst? o))) | none => none)
        | _, _ => none
      | _, _ => none
    | .builtin .copy => match c.args.toList, c.argTypes.toList with
      | [s, x], [t, u] => match elemT P t, P.underlying u with
        | some e, some (.slice _) => (match elT P e with | some (k, _) => some (.eff (hCopy k (rd s) (rd x) (dst? o))) | none => none)
        | _, _ => none
      | _, _ => none
    | .builtin .min => match c.args.toList with | [x, y] => some (.pure 25 (vMinMax false (rd x) (rd y))) | _ => none
    | .builtin .max => match c.args.toList with | [x, y] => some (.pure 25 (vMinMax true (rd x) (rd y))) | _ => none
    | .value f => some (.eff (hCall (rd f) (c.args.toList.map rd)))
    | _ => none
  | _ => none

inductive St where
  | op (guard : Option (Path × Bool)) (f : OpF) (dst : Option Path)
  | chk (guard : Option (Path × Bool)) (f : OpF) (dst : Option Path)
  | no
def stOf (P : Program) (loc : List Tmp) (ops : Array Oper) (o : Oper) : St := match comp P loc o with
  | some f => match o.guard with
    | none => .op none f (dst? o)
    | some (j, w) => match (ops[j]?).bind (·.dst) with | some d => .op (some (pathOf d, w)) f (dst? o) | none => .no
  | none => .no
def chkOf (s : St) : St := match s with
  | .op g f d => .chk g f d
  | s => s
def lightOf (s : St) : St := match s with
  | .op _ (.eff _) _ => .no
  | s => s
def wantedF (g : Option (Path × Bool)) (fr : FT) : Option Bool := match g with
  | none => some true
  | some (p, w) => match get p fr with
    | some (.v (.bool b)) => some (match w with | true => b | false => !b)
    | some .und => some false
    | _ => none

inductive Out where
  | norm (fr : FT) (h : H)
  | exit (id : Nat) (fr : FT) (h : H)
  | ret (fr : FT) (h : H)
  | pan (v : AV) (fr : FT) (h : H)
  | bad (why : Nat)
inductive CR where
  | ret (v : AV) (h : H)
  | pan (v : AV) (h : H)
  | bad (why : Nat)
abbrev Calls' := FuncId → List AV → H → CR
def newS (p : Path) (k : Nat) (n : Option Nat) : Sl := match n with
  | some n => .v (.sl p k 0 n)
  | none => .v (.ptr p 0)
def holds (d : Option Path) (s : Sl) (fr : FT) : Bool := match d, s with
  | some d, .v a => match get d fr with | some (.v b) => aveq a b | _ => false
  | _, _ => false
def evStep (call : Calls') (s : St) (fr : FT) (h : H) : Out := match s with
  | .op g f d => match wantedF g fr with
    | some true => match f with
      | .pure w val => match val fr with | some s => .norm (pt d (some s) fr) h | none => .bad w
      | .look w val => match val fr h with | some s => .norm (pt d (some s) fr) h | none => .bad w
      | .new w val => match val fr with | some (b, n) => .norm (pt d (some (newS h.next b.k n)) fr) (h.new b) | none => .bad w
      | .eff run => match run fr h with
        | .next fr h => .norm fr h
        | .call f as => match call f as h with
          | .ret v h => .norm (pt d (some (.v v)) fr) h
          | .pan v h => .pan v fr h
          | .bad w => .bad w
        | .pan v => .pan v fr h
        | .bad w => .bad w
    | some false => .norm (pt d (some .und) fr) h
    | none => .bad 40
  | .chk g f d => match wantedF g fr with
    | some true => match f with
      | .look w val => match val fr h with | some s => (match holds d s fr with | true => .norm fr h | false => .bad (w + 100)) | none => .bad (w + 200)
      | _ => .norm fr h
    | _ => .norm fr h
  | .no => .bad 41
def evSteps (call : Calls') (l : List St) : FT → H → Out := List.rec (fun fr h => .norm fr h)
  (fun s _ ih fr h => match evStep call s fr h with
    | .norm fr h => ih fr h
    | x => x) l

def heavy (o : Oper) : Bool := match o.op with
  | .store _ _ _ => true
  | .assign _ => true
  | .panic _ => true
  | .makeMap _ _ => true
  | .insert _ _ _ _ => true
  | .mapUpdate _ _ _ _ => true
  | .call c => match c.callee with
    | .value _ => true
    | .builtin .append => true
    | .builtin .copy => true
    | _ => false
  | _ => false
def preds (o : Oper) : List Nat := (o.after.toList.filter (Region.binds .any)).map (·.on)
def memN (i : Nat) (l : List Nat) : Bool := l.any (Nat.beq i)
def readyIn (ops : List Oper) (hv : Bool) (done : List Nat) : Option Nat :=
  ((List.range ops.length).zip ops).findSome? fun (i, o) => match memN i done with
    | true => none
    | false => match hv == heavy o, (preds o).all (memN · done) with | true, true => some i | _, _ => none
def orderGo (ops : List Oper) : Nat → List Nat → List Nat
  | 0, done => done
  | n + 1, done => match readyIn ops false done with
    | some i => orderGo ops n (i :: done)
    | none => match readyIn ops true done with
      | some i => orderGo ops n (i :: done)
      | none => done
def orderOf (ops : List Oper) : List Nat := (orderGo ops ops.length []).reverse
def again (ops : List Oper) (pre : List Nat) : List Nat := pre.filter fun i => match ops[i]? with
  | some o => !heavy o && !(pre.any fun j => match ops[j]? with | some q => heavy q && memN i (preds q) | none => false)
  | none => false
def shutAt (ops : List Oper) (pre : List Nat) (j : Nat) : Bool :=
  ((List.range ops.length).zip ops).all fun (i, o) => memN i pre || Nat.beq i j || (preds o).any (fun e => !memN e pre)
def apartIn (ops : List Oper) : Bool :=
  ((List.range ops.length).zip ops).all fun (j, q) => match q.dst with
    | none => true
    | some d => (heavy q || !(q.looksAt ops.toArray).contains d) && ((List.range ops.length).zip ops).all fun (i, o) => Nat.beq i j ||
      ((!(o.looksAt ops.toArray).contains d || memN j (preds o) || (heavy q && memN i (preds q))) && (match o.dst with | some e => !Nat.beq d e | none => true))
def orderOk (ops : List Oper) : List Nat → List Nat → Bool
  | pre, [] => (List.range ops.length).all (memN · pre)
  | pre, i :: rest => match ops[i]? with
    | some o => !memN i pre && (preds o).all (memN · pre) && (!heavy o || shutAt ops pre i) && orderOk ops (pre ++ [i]) rest
    | none => false
def drawnGo (P : Program) (loc : List Tmp) (ops : Array Oper) : List Nat → List Nat → List St
  | pre, [] => (again ops.toList pre).map fun i => match ops.toList[i]? with | some o => chkOf (stOf P loc ops o) | none => .no
  | pre, i :: rest => match ops.toList[i]? with
    | some o => match heavy o with
      | true => ((again ops.toList pre).map fun i => match ops.toList[i]? with | some o => chkOf (stOf P loc ops o) | none => .no) ++ (stOf P loc ops o :: drawnGo P loc ops (pre ++ [i]) rest)
      | false => lightOf (stOf P loc ops o) :: drawnGo P loc ops (pre ++ [i]) rest
    | none => [.no]
def drawnOf (P : Program) (loc : List Tmp) (ops : Array Oper) : List St := match Region.noSelect ops, apartIn ops.toList, orderOk ops.toList [] (orderOf ops.toList) with
  | true, true, true => drawnGo P loc ops [] (orderOf ops.toList)
  | _, _, _ => [.no]
def stepsOf (P : Program) (loc : List Tmp) (ops : Array Oper) : List St := ops.toList.map (stOf P loc ops)

inductive EC where
  | skip
  | steps (l : List St)
  | drawn (l : List St) (ds : List Path)
  | seq (a b : EC)
  | cond (c : Rd) (a b : EC)
  | block (id : Nat) (c : EC)
  | loop (c : EC)
  | exit (id : Nat)
  | ret
  | no
  | dfr (l : List St) (f : Rd) (as : List Rd) (rest : EC)
  | rcv (l1 : List St) (d : Path) (l2 : List St) (rest : EC)
def dstsOf (ops : Array Oper) : List Path := ops.toList.filterMap dst?
def clr (ds : List Path) : FT → FT := List.rec (fun fr => fr) (fun p _ ih fr => ih (set p none fr)) ds
def clrOut (ds : List Path) : Out → Out
  | .pan v fr h => .pan v (clr ds fr) h
  | x => x
def compC (P : Program) (loc : List Tmp) : Code → EC
  | .skip => .skip
  | .region _ ops false => .steps (stepsOf P loc ops)
  | .region _ ops true => .drawn (drawnOf P loc ops) (dstsOf ops)
  | .seq a b => .seq (compC P loc a) (compC P loc b)
  | .cond c a b => .cond (rd c) (compC P loc a) (compC P loc b)
  | .block id c => .block id (compC P loc c)
  | .loop c => .loop (compC P loc c)
  | .exit id => .exit id
  | .ret => .ret
  | _ => .no
def evC (call : Calls') (fuel : Nat) : EC → FT → H → Out
  | .skip, fr, h => .norm fr h
  | .steps l, fr, h => evSteps call l fr h
  | .drawn l ds, fr, h => clrOut ds (evSteps call l fr h)
  | .seq a b, fr, h => match evC call fuel a fr h with
    | .norm fr h => evC call fuel b fr h
    | x => x
  | .cond c a b, fr, h => match gv c fr with
    | some (.bool true) => evC call fuel a fr h
    | some (.bool false) => evC call fuel b fr h
    | _ => .bad 50
  | .block id c, fr, h => match evC call fuel c fr h with
    | .exit id' fr h => match Nat.beq id' id with | true => .norm fr h | false => .exit id' fr h
    | x => x
  | .loop c, fr, h => Nat.rec (fun _ _ => Out.bad 51) (fun _ ih fr h => match evC call fuel c fr h with
    | .norm fr h => ih fr h
    | x => x) fuel fr h
  | .exit id, fr, h => .exit id fr h
  | .ret, fr, h => .ret fr h
  | .no, _, _ => .bad 52
  | .dfr _ _ _ _, _, _ => .bad 53
  | .rcv _ _ _ _, _, _ => .bad 54

def tmpsOf (l : List Operand) : List Tmp := l.filterMap fun | .tmp t => some t | _ => none
def badUses (o : Oper) : List Tmp := match o.op with
  | .load _ _ => []
  | .store _ _ v => tmpsOf [v]
  | .fieldAddr _ _ _ => []
  | .nilCheck _ => []
  | op => tmpsOf op.operands.toList
def opersOf : Code → List Oper
  | .region _ ops _ => ops.toList
  | .seq a b => opersOf a ++ opersOf b
  | .cond _ a b => opersOf a ++ opersOf b
  | .block _ c => opersOf c
  | .loop c => opersOf c
  | .scope c => opersOf c
  | .rangeFunc _ _ a b => opersOf a ++ opersOf b
  | _ => []
def spread (os : List Oper) (bad : List Tmp) : List Tmp := os.foldr (fun o bad => match o.op, o.dst with
  | .fieldAddr _ (.tmp x) _, some d => if bad.contains d then x :: bad else bad
  | .nilCheck (.tmp x), some d => if bad.contains d then x :: bad else bad
  | _, _ => bad) bad
def plainOpers : Code → List Oper
  | .region _ ops false => ops.toList
  | .seq a b => plainOpers a ++ plainOpers b
  | .cond _ a b => plainOpers a ++ plainOpers b
  | .block _ c => plainOpers c
  | .loop c => plainOpers c
  | _ => []
def localsOf (c : Code) : List Tmp :=
  let os := opersOf c
  let bad := spread os (spread os (os.flatMap badUses))
  (plainOpers c).filterMap fun o => match o.op, o.dst with
    | .alloc _, some d => if bad.contains d then none else some d
    | .box _ _, some d => if bad.contains d then none else some d
    | _, _ => none

inductive ER where
  | slot (x : Rd)
  | cell (x : Rd) (n : Nat) (g : Bool)
  | no
structure EF where
  code : EC
  res : List ER
  top : Bool
def deferOf (o : Oper) : Option (Operand × Array Operand) := match o.op, o.guard, o.dst with
  | .defer ⟨.value f, as, _⟩, none, none => some (f, as)
  | _, _, _ => none
def isRecover (o : Oper) : Bool := match o.op, o.guard with
  | .call ⟨.builtin .recover, _, _⟩, none => true
  | _, _ => false
def lastOf : List Oper → Option (List Oper × Oper)
  | [] => none
  | [o] => some ([], o)
  | o :: l => match lastOf l with | some (i, x) => some (o :: i, x) | none => none
def cutRec : List Oper → Option (List Oper × Oper × List Oper)
  | [] => none
  | o :: l => match isRecover o with
    | true => some ([], o, l)
    | false => match cutRec l with | some (a, x, b) => some (o :: a, x, b) | none => none
def isTop (c : Code) : Bool := (opersOf c).any fun o => match o.op with
  | .defer _ => true
  | .call ⟨.builtin .recover, _, _⟩ => true
  | _ => false
def compR (P : Program) (ops : Array Oper) (rest1 rest2 : EC) (a : EC) : EC := match lastOf ops.toList with
  | some (i, o) => match deferOf o with
    | some (f, as) => .dfr (i.map (stOf P [] ops)) (rd f) (as.toList.map rd) rest1
    | none => match cutRec ops.toList with
      | some (l1, o, l2) => match o.dst with
        | some d => .rcv (l1.map (stOf P [] ops)) (pathOf d) (l2.map (stOf P [] ops)) rest1
        | none => .no
      | none => .seq a rest2
  | none => .seq a rest2
def compT (P : Program) : Code → EC
  | .seq a b => match a with
    | .region id ops false => compR P ops (compC P [] b) (compT P b) (compC P [] (.region id ops false))
    | a => .seq (compC P [] a) (compT P b)
  | c => compC P [] c
def erOf (P : Program) : ResultVar → ER
  | .tmp t => .slot (.sl (pathOf t))
  | .cell a t => match sizeT P t, isAggT P t with
    | some n, some g => match g, Nat.beq n 1 with | false, false => .no | _, _ => .cell (.sl (pathOf a)) n g
    | _, _ => .no
def fnOk (fn : Func) (c : Code) : Bool := fn.name != "runtime.NumGoroutine" && (opersOf c).all (fun o => match o.dst with | some d => Nat.blt d fn.ntmps | none => true)
def compF (P : Program) (f : FuncId) : Option EF := match P.funcs[f]? with
  | some fn => match fn.body with
    | some c => match fnOk fn c with
      | true => match isTop c with
        | true => some ⟨compT P c, fn.results.toList.map (erOf P), true⟩
        | false => some ⟨compC P (localsOf c) c, fn.results.toList.map (erOf P), false⟩
      | false => none
    | none => none
  | none => none
def resV (fr : FT) (h : H) : ER → Option AV
  | .slot x => gv x fr
  | .cell x n g => match place x fr with
    | some p => match loadAt fr h p n with | some l => val g l | none => none
    | none => none
  | .no => none
def resVs (fr : FT) (h : H) (l : List ER) : Option (List AV) := match l with
  | [] => some []
  | r :: l => match resV fr h r with | some a => (match resVs fr h l with | some x => some (a :: x) | none => none) | none => none
def resultV (l : List ER) (fr : FT) (h : H) : Option AV := match resVs fr h l with
  | some [a] => some a
  | some l => some (.tup l)
  | none => none
def initFr (l : List AV) : Nat → FT → FT := List.rec (fun _ fr => fr) (fun a _ ih i fr => ih (i + 1) (set (pathOf i) (some (.v a)) fr)) l
def finF (f : FuncId) (res : List ER) : Out → CR
  | .norm fr h => match resultV res fr h with | some v => .ret v h | none => .bad 60
  | .ret fr h => match resultV res fr h with | some v => .ret v h | none => .bad 60
  | .pan v _ h => .pan v h
  | .exit _ _ _ => .bad 61
  | .bad w => .bad (match Nat.ble w 999 with | true => w + 1000 * f | false => w)
def nobox (t : FT) : Bool := Tr.rec true (fun v _ _ _ _ a b c d => match (match v with | some (.box _ _) => false | _ => true) with
  | true => (match a with | true => (match b with | true => (match c with | true => d | false => false) | false => false) | false => false)
  | false => false) t
def evT (call : Calls') (fuel : Nat) : EC → FT → H → Out × Option (FuncId × List AV)
  | .seq a b, fr, h => match evC call fuel a fr h with
    | .norm fr h => evT call fuel b fr h
    | x => (x, none)
  | .dfr l f as rest, fr, h => match evSteps call l fr h with
    | .norm fr h => match nobox fr, gvs as fr, gv f fr with
      | true, some xs, some (.fn g a cs) => (evC call fuel rest fr h, some (g, a ++ xs ++ cs))
      | _, _, _ => (.bad 55, none)
    | x => (clrOut [] x, none)
  | c, fr, h => (evC call fuel c fr h, none)
inductive DR where
  | ret (recd : Bool) (h : H)
  | pan (v : AV) (h : H)
  | bad (why : Nat)
def finD (recd : Bool) (res : List ER) : Out → DR
  | .norm fr h => match resultV res fr h with | some _ => .ret recd h | none => .bad 60
  | .ret fr h => match resultV res fr h with | some _ => .ret recd h | none => .bad 60
  | .pan v _ h => .pan v h
  | .exit _ _ _ => .bad 61
  | .bad w => .bad w
def going : Option AV → Bool
  | some _ => true
  | none => false
def told : Option AV → AV
  | some v => v
  | none => .nilif
def evD (F : FuncId → Option EF) (call : Calls') (fuel : Nat) (mode : Option AV) (g : FuncId) (as : List AV) (h : H) : DR := match F g with
  | some e => match e.code with
    | .rcv l1 d l2 rest => match evSteps call l1 (initFr as 0 .nil) h with
      | .norm fr h => match evSteps call l2 (set d (some (.v (told mode))) fr) h with
        | .norm fr h => finD (going mode) e.res (evC call fuel rest fr h)
        | .pan v _ h => .pan v h
        | _ => .bad 57
      | _ => .bad 57
    | c => match e.top with
      | true => .bad 58
      | false => finD false e.res (evC call fuel c (initFr as 0 .nil) h)
  | none => .bad (62 + 1000 * g)
def finT (f : FuncId) (res : List ER) (dd : Option AV → FuncId → List AV → H → DR) (x : Out × Option (FuncId × List AV)) : CR := match x.2 with
  | none => finF f res x.1
  | some (g, as) => match x.1 with
    | .norm fr h => (match dd none g as h with | .ret _ h => finF f res (.ret fr h) | .pan v h => .pan v h | .bad w => .bad w)
    | .ret fr h => (match dd none g as h with | .ret _ h => finF f res (.ret fr h) | .pan v h => .pan v h | .bad w => .bad w)
    | .pan v fr h => (match dd (some v) g as h with | .ret true h => finF f res (.ret fr h) | .ret false h => .pan v h | .pan v h => .pan v h | .bad w => .bad w)
    | .exit _ _ _ => .bad 61
    | .bad w => .bad w
def evFun (F : FuncId → Option EF) (call : Calls') (fuel : Nat) (f : FuncId) (args : List AV) (h : H) : CR := match F f with
  | some e => match e.top with
    | false => finF f e.res (evC call fuel e.code (initFr args 0 .nil) h)
    | true => finT f e.res (evD F call fuel) (evT call fuel e.code (initFr args 0 .nil) h)
  | none => .bad (62 + 1000 * f)
abbrev Lib := FuncId → Option (List AV → H → CR)
def libC (lib : Lib) (f : FuncId) (args : List AV) (h : H) : CR := match lib f with | some g => g args h | none => .bad (64 + 1000 * f)
def ev (lib : Lib) (F : FuncId → Option EF) (fuel : Nat) (d : Nat) : Calls' := Nat.rec (libC lib) (fun _ ih f args h => match lib f with | some g => g args h | none => evFun F ih fuel f args h) d
def H.empty : H := ⟨[], .nil, 0⟩
end Go.Ev
namespace Go.Ev

def D.val : D → Nat
  | .a => 0 | .b => 1 | .c => 2 | .d => 3
def num : Path → Nat
  | [] => 0
  | x :: l => 4 * num l + x.val + 1

theorem D.val_lt (x : D) : x.val < 4 := by cases x <;> decide
theorem D.val_inj {x y : D} (h : x.val = y.val) : x = y := by cases x <;> cases y <;> first | rfl | exact absurd h (by decide)
theorem num_inj : ∀ {p q : Path}, num p = num q → p = q
  | [], [], _ => rfl
  | [], y :: q, h => by simp [num] at h
  | x :: p, [], h => by simp [num] at h
  | x :: p, y :: q, h => by
    simp only [num] at h
    have h1 := x.val_lt
    have h2 := y.val_lt
    have e1 : x.val = y.val := by omega
    have e2 : num p = num q := by omega
    rw [D.val_inj e1, num_inj e2]

theorem num_inc : ∀ p, num (inc p) = num p + 1
  | [] => rfl
  | x :: l => by
    have ih := num_inc l
    cases x
    · show num (D.b :: l) = _; simp [num, D.val]
    · show num (D.c :: l) = _; simp [num, D.val]
    · show num (D.d :: l) = _; simp [num, D.val]
    · show num (D.a :: inc l) = _; simp only [num, D.val, ih]; omega

theorem val_digitOf {k : Nat} (h : k < 4) : (digitOf k).val = k := by
  match k, h with
  | 0, _ => rfl
  | 1, _ => rfl
  | 2, _ => rfl
  | 3, _ => rfl
theorem pathGo_succ (f m : Nat) : pathGo (f + 1) m = match m with | 0 => [] | k + 1 => digitOf (k % 4) :: pathGo f (k / 4) := by cases m <;> rfl
theorem num_pathGo : ∀ (f m : Nat), m < f → num (pathGo f m) = m
  | 0, m, h => absurd h (by omega)
  | f + 1, 0, _ => rfl
  | f + 1, k + 1, h => by
    rw [pathGo_succ]
    simp only [num]
    rw [num_pathGo f (k / 4) (by omega), val_digitOf (by omega)]
    omega
theorem num_pathOf (n : Nat) : num (pathOf n) = n := num_pathGo (n + 1) n (by omega)
theorem pathOf_inj {m n : Nat} (h : pathOf m = pathOf n) : m = n := by rw [← num_pathOf m, ← num_pathOf n, h]
theorem pathOf_eq_iff {m n : Nat} : pathOf m = pathOf n ↔ m = n := ⟨pathOf_inj, fun h => by rw [h]⟩
theorem pathOf_zero : pathOf 0 = [] := rfl

section
variable {α : Type}
theorem get_nil (p : Path) : get p (.nil : Tr α) = none := by cases p <;> rfl
theorem get_node (v : Option α) (t0 t1 t2 t3 : Tr α) : get [] (.node v t0 t1 t2 t3) = v := rfl
theorem get_cons (x : D) (p : Path) (v : Option α) (t0 t1 t2 t3 : Tr α) :
    get (x :: p) (.node v t0 t1 t2 t3) = match x with | .a => get p t0 | .b => get p t1 | .c => get p t2 | .d => get p t3 := by cases x <;> rfl
theorem set_nil_nil (v : Option α) : set [] v (.nil : Tr α) = .node v .nil .nil .nil .nil := rfl
theorem set_nil_node (v w : Option α) (t0 t1 t2 t3 : Tr α) : set [] v (.node w t0 t1 t2 t3) = .node v t0 t1 t2 t3 := rfl
theorem set_cons_nil (x : D) (p : Path) (v : Option α) : set (x :: p) v (.nil : Tr α) =
    match x with | .a => .node none (set p v .nil) .nil .nil .nil | .b => .node none .nil (set p v .nil) .nil .nil | .c => .node none .nil .nil (set p v .nil) .nil | .d => .node none .nil .nil .nil (set p v .nil) := by cases x <;> rfl
theorem set_cons_node (x : D) (p : Path) (v w : Option α) (t0 t1 t2 t3 : Tr α) : set (x :: p) v (.node w t0 t1 t2 t3) =
    match x with | .a => .node w (set p v t0) t1 t2 t3 | .b => .node w t0 (set p v t1) t2 t3 | .c => .node w t0 t1 (set p v t2) t3 | .d => .node w t0 t1 t2 (set p v t3) := by cases x <;> rfl

theorem get_set_same : ∀ (p : Path) (v : Option α) (t : Tr α), get p (set p v t) = v
  | [], v, .nil => rfl
  | [], v, .node .. => rfl
  | x :: p, v, .nil => by rw [set_cons_nil]; cases x <;> simp only [get_cons] <;> exact get_set_same p v .nil
  | x :: p, v, .node w t0 t1 t2 t3 => by rw [set_cons_node]; cases x <;> simp only [get_cons] <;> exact get_set_same p v _
theorem get_set_other : ∀ (p q : Path) (v : Option α) (t : Tr α), p ≠ q → get p (set q v t) = get p t
  | [], [], _, _, h => absurd rfl h
  | [], y :: q, v, .nil, _ => by rw [set_cons_nil]; cases y <;> rfl
  | [], y :: q, v, .node .., _ => by rw [set_cons_node]; cases y <;> rfl
  | x :: p, [], v, .nil, _ => by rw [set_nil_nil, get_cons, get_nil (x :: p)]; cases x <;> exact get_nil p
  | x :: p, [], v, .node .., _ => by rw [set_nil_node, get_cons, get_cons]
  | x :: p, y :: q, v, .nil, h => by
    rw [set_cons_nil, get_nil]
    cases x <;> cases y <;> simp only [get_cons] <;> first | exact get_nil p | (rw [get_set_other p q v .nil (fun e => h (by rw [e]))]; exact get_nil p)
  | x :: p, y :: q, v, .node w t0 t1 t2 t3, h => by
    rw [set_cons_node]
    cases x <;> cases y <;> simp only [get_cons] <;> exact get_set_other p q v _ (fun e => h (by rw [e]))
theorem get_set (p q : Path) (v : Option α) (t : Tr α) : get p (set q v t) = if p = q then v else get p t := by
  by_cases h : p = q
  · subst h; rw [if_pos rfl, get_set_same]
  · rw [if_neg h, get_set_other _ _ _ _ h]
end
end Go.Ev
namespace Go.Ev

structure Ref where
  blk : Nat
  off : Nat
  k : Nat
  cap : Nat
structure Asg where
  s : Path → Option Ref
  b : Nat → Option Nat
  o : Path → Bool

def sc : AV → Bool
  | .agg _ => false
  | .tup _ => false
  | _ => true

set_option linter.unusedSectionVars false
variable [Unk]
mutual
def VR (s : Path → Option Ref) : AV → Value → Prop
  | .bool b, x => x = .bool b
  | .int k n, x => x = .int k n
  | .res k m r, x => ∃ n : Nat, x = .int k (.ofNat n) ∧ n % m = r ∧ n < 256
  | .str t, x => x = .string t
  | .ptr p o, x => ∃ r, s p = some r ∧ x = .pointer (some ⟨r.blk, r.off + o, none⟩)
  | .nilp, x => x = .pointer none
  | .sl p k i n, x => ∃ r, s p = some r ∧ r.k = k ∧ i + n ≤ r.cap ∧ x = .slice (some ⟨r.blk, r.off + i * r.k, none⟩) n (r.cap - i)
  | .sle, x => ∃ a c, x = .slice (some a) 0 c
  | .nils, x => x = .slice none 0 0
  | .fn f a c, x => ∃ xs ys, x = .func (.func f) xs ys ∧ VRs s a xs.toList ∧ VRs s c ys.toList
  | .nilfn, x => x = .nilFunc
  | .ifc t a, x => ∃ y, x = .iface t y ∧ VR s a y
  | .nilif, x => x = .nilIface
  | .mp p, x => ∃ r, s p = some r ∧ x = .map (some r.blk)
  | .nilm, x => x = .map none
  | .agg l, x => ∃ xs, x = .agg xs ∧ VRs s l xs.toList ∧ l.all sc = true
  | .tup l, x => ∃ xs, x = .tuple xs ∧ VRs s l xs.toList
  | .sym k lo hi e, x => x = .int k e.val ∧ lo ≤ e.val ∧ e.val ≤ hi ∧ e.ok
  | .ss l, x => x = .string ⟨(l.map SB.byte).toArray⟩ ∧ ∀ p ∈ l, p.ok
def VRs (s : Path → Option Ref) : List AV → List Value → Prop
  | [], xs => xs = []
  | a :: l, xs => ∃ y ys, xs = y :: ys ∧ VR s a y ∧ VRs s l ys
end

mutual
theorem VR.mono {s s' : Path → Option Ref} (h : ∀ p r, s p = some r → s' p = some r) : ∀ (a : AV) (x : Value), VR s a x → VR s' a x
  | .bool _, _, e => e
  | .int _ _, _, e => e
  | .res _ _ _, _, e => e
  | .str _, _, e => e
  | .ptr _ _, _, ⟨r, hr, e⟩ => ⟨r, h _ _ hr, e⟩
  | .nilp, _, e => e
  | .sl _ _ _ _, _, ⟨r, hr, e⟩ => ⟨r, h _ _ hr, e⟩
  | .sle, _, e => e
  | .nils, _, e => e
  | .fn _ a c, _, ⟨xs, ys, e, ha, hc⟩ => ⟨xs, ys, e, VRs.mono h a _ ha, VRs.mono h c _ hc⟩
  | .nilfn, _, e => e
  | .ifc _ a, _, ⟨y, e, ha⟩ => ⟨y, e, VR.mono h a y ha⟩
  | .nilif, _, e => e
  | .mp _, _, ⟨r, hr, e⟩ => ⟨r, h _ _ hr, e⟩
  | .nilm, _, e => e
  | .agg l, _, ⟨xs, e, hl, hs⟩ => ⟨xs, e, VRs.mono h l _ hl, hs⟩
  | .tup l, _, ⟨xs, e, hl⟩ => ⟨xs, e, VRs.mono h l _ hl⟩
  | .sym _ _ _ _, _, e => e
  | .ss _, _, e => e
theorem VRs.mono {s s' : Path → Option Ref} (h : ∀ p r, s p = some r → s' p = some r) : ∀ (l : List AV) (xs : List Value), VRs s l xs → VRs s' l xs
  | [], _, e => e
  | a :: l, _, ⟨y, ys, e, ha, hl⟩ => ⟨y, ys, e, VR.mono h a y ha, VRs.mono h l ys hl⟩
end

variable {s : Path → Option Ref}
theorem VRs.iff : ∀ {l : List AV} {xs : List Value}, VRs s l xs ↔ l.length = xs.length ∧ ∀ (i : Nat) (a : AV) (x : Value), l[i]? = some a → xs[i]? = some x → VR s a x
  | [], xs => by
    constructor
    · intro h; simp only [VRs] at h; subst h; exact ⟨rfl, fun i a x h => by simp at h⟩
    · intro ⟨h, _⟩; simp only [VRs]; exact List.eq_nil_of_length_eq_zero h.symm
  | a :: l, xs => by
    simp only [VRs]
    constructor
    · rintro ⟨y, ys, rfl, ha, hl⟩
      obtain ⟨h1, h2⟩ := VRs.iff.1 hl
      refine ⟨by simp [h1], ?_⟩
      intro i b x hb hx
      cases i with
      | zero => simp at hb hx; subst hb; subst hx; exact ha
      | succ i => exact h2 i b x (by simpa using hb) (by simpa using hx)
    · intro ⟨h1, h2⟩
      cases xs with
      | nil => simp at h1
      | cons y ys => exact ⟨y, ys, rfl, h2 0 a y rfl rfl, VRs.iff.2 ⟨by simpa using h1, fun i b x hb hx => h2 (i + 1) b x (by simpa using hb) (by simpa using hx)⟩⟩
theorem VRs.length {l : List AV} {xs : List Value} (h : VRs s l xs) : xs.length = l.length := (VRs.iff.1 h).1.symm
theorem VRs.get {l : List AV} {xs : List Value} (h : VRs s l xs) {i : Nat} {a : AV} (ha : l[i]? = some a) : ∃ x, xs[i]? = some x ∧ VR s a x := by
  obtain ⟨h1, h2⟩ := VRs.iff.1 h
  have hi : i < l.length := by rcases Nat.lt_or_ge i l.length with h | h; exact h; rw [List.getElem?_eq_none h] at ha; cases ha
  exact ⟨xs[i]'(by omega), List.getElem?_eq_getElem _, h2 i a _ ha (List.getElem?_eq_getElem _)⟩
theorem VRs.nil : VRs s [] [] := by simp [VRs]
theorem VRs.cons {a : AV} {x : Value} {l : List AV} {xs : List Value} (ha : VR s a x) (hl : VRs s l xs) : VRs s (a :: l) (x :: xs) := ⟨x, xs, rfl, ha, hl⟩
theorem VRs.append : ∀ {l l' : List AV} {xs ys : List Value}, VRs s l xs → VRs s l' ys → VRs s (l ++ l') (xs ++ ys)
  | [], _, xs, _, h, h' => by simp only [VRs] at h; subst h; exact h'
  | a :: l, _, _, _, ⟨y, ys, e, ha, hl⟩, h' => by subst e; exact ⟨y, _, rfl, ha, VRs.append hl h'⟩
theorem VRs.take : ∀ {l : List AV} {xs : List Value} (n : Nat), VRs s l xs → VRs s (l.take n) (xs.take n)
  | [], xs, n, h => by simp only [VRs] at h; subst h; simp [VRs]
  | a :: l, _, 0, _ => by simp [VRs]
  | a :: l, _, n + 1, ⟨y, ys, e, ha, hl⟩ => by subst e; exact ⟨y, _, rfl, ha, VRs.take n hl⟩
theorem VRs.drop : ∀ {l : List AV} {xs : List Value} (n : Nat), VRs s l xs → VRs s (l.drop n) (xs.drop n)
  | [], xs, n, h => by simp only [VRs] at h; subst h; simp [VRs]
  | a :: l, _, 0, h => h
  | a :: l, _, n + 1, ⟨y, ys, e, ha, hl⟩ => by subst e; exact VRs.drop n hl

theorem VR.cells {a : AV} {x : Value} (h : VR s a x) {c : List AV} (hc : Go.Ev.cells a = some c) : VRs s c x.cells.toList ∧ c.all sc = true := by
  cases a with
  | agg l =>
    obtain ⟨xs, rfl, hl, hs⟩ := h
    cases hc
    exact ⟨hl, hs⟩
  | tup l => cases hc
  | bool b => simp only [VR] at h; subst h; cases hc; exact ⟨.cons (by simp [VR]) .nil, rfl⟩
  | int k n => simp only [VR] at h; subst h; cases hc; exact ⟨.cons (by simp [VR]) .nil, rfl⟩
  | res k m r => have h' := h; obtain ⟨n, rfl, _⟩ := h; cases hc; exact ⟨.cons h' .nil, rfl⟩
  | str t => simp only [VR] at h; subst h; cases hc; exact ⟨.cons (by simp [VR]) .nil, rfl⟩
  | ptr p o => have h' := h; obtain ⟨r, hr, rfl⟩ := h; cases hc; exact ⟨.cons h' .nil, rfl⟩
  | nilp => simp only [VR] at h; subst h; cases hc; exact ⟨.cons (by simp [VR]) .nil, rfl⟩
  | sl p k i n => have h' := h; obtain ⟨r, hr, _, _, rfl⟩ := h; cases hc; exact ⟨.cons h' .nil, rfl⟩
  | sle => have h' := h; obtain ⟨b, d, rfl⟩ := h; cases hc; exact ⟨.cons h' .nil, rfl⟩
  | nils => simp only [VR] at h; subst h; cases hc; exact ⟨.cons (by simp [VR]) .nil, rfl⟩
  | fn f a c => have h' := h; obtain ⟨xs, ys, rfl, _, _⟩ := h; cases hc; exact ⟨.cons h' .nil, rfl⟩
  | nilfn => simp only [VR] at h; subst h; cases hc; exact ⟨.cons (by simp [VR]) .nil, rfl⟩
  | ifc t b => have h' := h; obtain ⟨y, rfl, _⟩ := h; cases hc; exact ⟨.cons h' .nil, rfl⟩
  | nilif => simp only [VR] at h; subst h; cases hc; exact ⟨.cons (by simp [VR]) .nil, rfl⟩
  | mp p => have h' := h; obtain ⟨r, hr, rfl⟩ := h; cases hc; exact ⟨.cons h' .nil, rfl⟩
  | nilm => simp only [VR] at h; subst h; cases hc; exact ⟨.cons (by simp [VR]) .nil, rfl⟩
  | sym k lo hi e => have h' := h; obtain ⟨rfl, _⟩ := h; cases hc; exact ⟨.cons h' .nil, rfl⟩
  | ss l => have h' := h; obtain ⟨rfl, _⟩ := h; cases hc; exact ⟨.cons h' .nil, rfl⟩

theorem VR.one {a : AV} {x : Value} (h : VR s a x) (hs : sc a = true) : (∀ c, x ≠ .agg c) ∧ (∀ c, x ≠ .tuple c) := by
  cases a with
  | agg l => cases hs
  | tup l => cases hs
  | bool b => simp only [VR] at h; subst h; exact ⟨fun _ => by simp, fun _ => by simp⟩
  | int k n => simp only [VR] at h; subst h; exact ⟨fun _ => by simp, fun _ => by simp⟩
  | res k m r => obtain ⟨n, rfl, _⟩ := h; exact ⟨fun _ => by simp, fun _ => by simp⟩
  | str t => simp only [VR] at h; subst h; exact ⟨fun _ => by simp, fun _ => by simp⟩
  | ptr p o => obtain ⟨r, hr, rfl⟩ := h; exact ⟨fun _ => by simp, fun _ => by simp⟩
  | nilp => simp only [VR] at h; subst h; exact ⟨fun _ => by simp, fun _ => by simp⟩
  | sl p k i n => obtain ⟨r, hr, hk, hc, rfl⟩ := h; exact ⟨fun _ => by simp, fun _ => by simp⟩
  | sle => obtain ⟨b, c, rfl⟩ := h; exact ⟨fun _ => by simp, fun _ => by simp⟩
  | nils => simp only [VR] at h; subst h; exact ⟨fun _ => by simp, fun _ => by simp⟩
  | fn f a c => obtain ⟨xs, ys, rfl, _, _⟩ := h; exact ⟨fun _ => by simp, fun _ => by simp⟩
  | nilfn => simp only [VR] at h; subst h; exact ⟨fun _ => by simp, fun _ => by simp⟩
  | ifc t b => obtain ⟨y, rfl, _⟩ := h; exact ⟨fun _ => by simp, fun _ => by simp⟩
  | nilif => simp only [VR] at h; subst h; exact ⟨fun _ => by simp, fun _ => by simp⟩
  | mp p => obtain ⟨r, hr, rfl⟩ := h; exact ⟨fun _ => by simp, fun _ => by simp⟩
  | nilm => simp only [VR] at h; subst h; exact ⟨fun _ => by simp, fun _ => by simp⟩
  | sym k lo hi e => obtain ⟨rfl, _⟩ := h; exact ⟨fun _ => by simp, fun _ => by simp⟩
  | ss l => obtain ⟨rfl, _⟩ := h; exact ⟨fun _ => by simp, fun _ => by simp⟩

theorem ofCell_VR {v : Value} {a : AV} (h : ofCell v = some a) : VR s a v ∧ sc a = true := by
  unfold ofCell at h
  split at h <;> first | (cases h; exact ⟨by simp [VR], rfl⟩) | cases h
theorem ofCells_VR : ∀ {l : List Value} {r : List AV}, ofCells l = some r → VRs s r l ∧ r.all sc = true
  | [], r, h => by simp [ofCells] at h; subst h; exact ⟨.nil, rfl⟩
  | v :: l, r, h => by
    simp only [ofCells] at h
    split at h
    · rename_i a r' ha hr
      cases h
      obtain ⟨h1, h2⟩ := ofCell_VR (s := s) ha
      obtain ⟨h3, h4⟩ := ofCells_VR hr
      exact ⟨.cons h1 h3, by simp [h2, h4]⟩
    · cases h
theorem ofValue_VR {v : Value} {a : AV} (h : ofValue v = some a) : VR s a v := by
  unfold ofValue at h
  split at h
  · split at h
    · rename_i l hl
      cases h
      obtain ⟨h1, h2⟩ := ofCells_VR (s := s) hl
      exact ⟨_, rfl, h1, h2⟩
    · cases h
  · exact (ofCell_VR h).1
end Go.Ev
namespace Go.Ev
set_option linter.unusedSectionVars false

theorem keq_eq {j k : IntKind} (h : keq j k = true) : j = k := by
  unfold keq at h
  split at h
  · rfl
  · rfl
  · exact of_decide_eq_true h
theorem keq_self (k : IntKind) : keq k k = true := by cases k <;> rfl
theorem keq_ne {j k : IntKind} (h : keq j k = false) : j ≠ k := by
  intro e; subst e; rw [keq_self] at h; cases h
theorem natBeq (a b : Nat) : Nat.beq a b = decide (a = b) := Bool.eq_iff_iff.2 ⟨fun h => decide_eq_true (Nat.eq_of_beq_eq_true h), fun h => by rw [of_decide_eq_true h]; exact Nat.beq_refl b⟩
theorem natBlt (a b : Nat) : Nat.blt a b = decide (a < b) := Bool.eq_iff_iff.2 ⟨fun h => decide_eq_true (Nat.blt_eq ▸ h), fun h => by rw [Nat.blt_eq]; exact of_decide_eq_true h⟩
theorem ieq_iff (a b : Int) : ieq a b = decide (a = b) := by
  cases a <;> cases b <;> simp [ieq, natBeq]
  all_goals omega
theorem ieq_beq (a b : Int) : ieq a b = (a == b) := by rw [ieq_iff]; rfl
theorem ilt_iff (a b : Int) : ilt a b = decide (a < b) := by
  cases a with
  | ofNat a => cases b with
    | ofNat b => simp [ilt, natBlt]
    | negSucc b => exact (decide_eq_false (by simp only [Int.ofNat_eq_natCast]; omega)).symm
  | negSucc a => cases b with
    | ofNat b => exact (decide_eq_true (by simp only [Int.ofNat_eq_natCast]; omega)).symm
    | negSucc b => exact Bool.eq_iff_iff.2 (by simp only [ilt, natBlt, decide_eq_true_eq]; omega)
theorem wrapF_eq (k : IntKind) (n : Int) : wrapF k n = k.wrap n := by
  unfold wrapF
  split
  · split
    · split
      · rename_i m h
        have := of_decide_eq_true ((natBlt _ _) ▸ h)
        rw [IntKind.wrap_i64]; simp only [Int.ofNat_eq_natCast]; omega
      · rfl
    · split
      · rename_i m h
        have := of_decide_eq_true ((natBlt _ _) ▸ h)
        rw [IntKind.wrap_i64]; omega
      · rfl
  · rfl
theorem bytesEq_iff : ∀ (x y : List UInt8), bytesEq x y = (x == y)
  | [], [] => rfl
  | [], _ :: _ => rfl
  | _ :: _, [] => rfl
  | a :: x, b :: y => by
    have ih := bytesEq_iff x y
    have e : (a :: x == b :: y) = (a == b && x == y) := rfl
    simp only [bytesEq]
    rw [e, ← ih]
    cases h : Nat.beq a.toNat b.toNat with
    | true =>
      have : a = b := UInt8.toNat_inj.1 (Nat.eq_of_beq_eq_true h)
      subst this
      simp
    | false =>
      have : a ≠ b := fun e => by subst e; simp at h
      simp [beq_eq_false_iff_ne.2 this]
theorem bytesEq_eq {x y : List UInt8} (h : bytesEq x y = true) : x = y := by
  rw [bytesEq_iff] at h; exact eq_of_beq h
theorem deq_eq {u v : D} (h : deq u v = true) : u = v := by cases u <;> cases v <;> first | rfl | cases h
theorem peq_eq : ∀ {p q : Path}, peq p q = true → p = q
  | [], [], _ => rfl
  | [], _ :: _, h => by simp [peq] at h
  | _ :: _, [], h => by simp [peq] at h
  | u :: x, v :: y, h => by
    simp only [peq] at h
    split at h
    · rename_i e; rw [deq_eq e, peq_eq h]
    · cases h
theorem str_eq {a b : ByteArray} (h : bytesEq a.data.toList b.data.toList = true) : a = b := by
  have := bytesEq_eq h
  cases a; cases b
  congr 1
  exact Array.toList_inj.1 this

theorem seq_eq : ∀ {a b : SE}, seq a b = true → a = b
  | .var i l u, b, h => by
    cases b <;> simp only [seq] at h <;> first
      | cases h
      | (split at h
         · rename_i e1 e2; rw [ieq_iff] at e2 h; rw [Nat.eq_of_beq_eq_true e1, of_decide_eq_true e2, of_decide_eq_true h]
         · cases h)
  | .lit n, b, h => by cases b <;> simp only [seq] at h <;> first | cases h | (rw [ieq_iff] at h; rw [of_decide_eq_true h])
  | .add x y, b, h => by
    cases b <;> simp only [seq] at h <;> first
      | cases h
      | (split at h
         · rename_i e; rw [seq_eq e, seq_eq h]
         · cases h)
  | .sub x y, b, h => by
    cases b <;> simp only [seq] at h <;> first
      | cases h
      | (split at h
         · rename_i e; rw [seq_eq e, seq_eq h]
         · cases h)
  | .mul x y, b, h => by
    cases b <;> simp only [seq] at h <;> first
      | cases h
      | (split at h
         · rename_i e; rw [seq_eq e, seq_eq h]
         · cases h)
  | .quo x y, b, h => by
    cases b <;> simp only [seq] at h <;> first
      | cases h
      | (split at h
         · rename_i e; rw [seq_eq e, seq_eq h]
         · cases h)
  | .rem x y, b, h => by
    cases b <;> simp only [seq] at h <;> first
      | cases h
      | (split at h
         · rename_i e; rw [seq_eq e, seq_eq h]
         · cases h)
theorem ieq_eq {a b : Int} (h : ieq a b = true) : a = b := of_decide_eq_true ((ieq_iff a b) ▸ h)
theorem ilt_lt {a b : Int} (h : ilt a b = true) : a < b := of_decide_eq_true ((ilt_iff a b) ▸ h)
theorem ilt_ge {a b : Int} (h : ilt a b = false) : b ≤ a := by have := of_decide_eq_false ((ilt_iff a b) ▸ h); omega
theorem sbsame_eq : ∀ {l m : List SB}, sbsame l m = true → l = m
  | [], m, h => by cases m <;> simp [sbsame] at h; rfl
  | .b c :: l, m, h => by
    cases m with
    | nil => simp [sbsame] at h
    | cons d m =>
      cases d <;> simp only [sbsame] at h <;> first
        | cases h
        | (split at h
           · rename_i e; rw [UInt8.toNat_inj.1 (Nat.eq_of_beq_eq_true e), sbsame_eq h]
           · cases h)
  | .s l1 h1 e1 :: l, m, h => by
    cases m with
    | nil => simp [sbsame] at h
    | cons d m =>
      cases d <;> simp only [sbsame] at h <;> first
        | cases h
        | (split at h
           · rename_i e1 e2 e3; rw [Nat.eq_of_beq_eq_true e1, Nat.eq_of_beq_eq_true e2, seq_eq e3, sbsame_eq h]
           · cases h)
section
variable [Unk]
theorem mkAddL_val (a : SE) (c : Int) : (mkAddL a c).val = a.val + c := by
  unfold mkAddL
  split
  · rename_i h; rw [ieq_eq h]; simp
  · split
    · rfl
    · split
      · rename_i h; have := ieq_eq h; simp only [SE.val]; omega
      · simp only [SE.val]; omega
    · rfl
theorem addM_val (c : Int) (x b : SE) : (addM c x b).val = c * x.val + b.val := by
  unfold addM
  split
  · split
    · split
      · rename_i h1 h2 h3
        rw [seq_eq h1, seq_eq h2, seq_eq h3]
        simp only [SE.val]
        exact (Int.mul_tdiv_add_tmod _ _).symm
      · rfl
    · rfl
  · split
    · rename_i h; rw [seq_eq h]; simp only [SE.val]; rw [Int.add_mul]; omega
    · rfl
theorem mkAdd_val (a b : SE) : (mkAdd a b).val = a.val + b.val := by
  unfold mkAdd
  split
  · rw [mkAddL_val]; rfl
  · split
    · rw [mkAddL_val]; simp only [SE.val]; omega
    · rw [addM_val]; rfl
    · split
      · rename_i h; rw [seq_eq h]; simp only [SE.val]; omega
      · rfl
theorem mkSub_val (a b : SE) : (mkSub a b).val = a.val - b.val := by
  unfold mkSub
  split
  · rw [mkAddL_val]; simp only [SE.val]; omega
  · split
    · rename_i h1 h2; rw [seq_eq h1, ieq_eq h2]; simp only [SE.val]; omega
    · rfl
  · split
    · rename_i h; rw [seq_eq h]; simp only [SE.val]; omega
    · rfl
theorem mulL_val (c : Int) (a : SE) : (mulL c a).val = c * a.val := by
  unfold mulL
  cases h0 : ieq c 0 with
  | true => simp only [SE.val]; rw [ieq_eq h0]; simp
  | false => cases h1 : ieq c 1 with
    | true => simp only; rw [ieq_eq h1]; simp
    | false => simp only [SE.val]
theorem mkMul_val (a b : SE) : (mkMul a b).val = a.val * b.val := by
  unfold mkMul
  split
  · rw [mulL_val]; rfl
  · split
    · rw [mulL_val]; exact Int.mul_comm _ _
    · rfl
theorem mkQuo_val (a b : SE) : (mkQuo a b).val = a.val.tdiv b.val := by
  unfold mkQuo
  split
  · split
    · rename_i h; rw [ieq_eq h]; simp [SE.val]
    · rfl
  · rfl
theorem mkAddL_ok {a : SE} {c : Int} (h : a.ok) : (mkAddL a c).ok := by
  unfold mkAddL
  split
  · exact h
  · split
    · trivial
    · split
      · exact h.1
      · exact ⟨h.1, trivial⟩
    · exact ⟨h, trivial⟩
theorem addM_ok {c : Int} {x b : SE} (hx : x.ok) (hb : b.ok) : (addM c x b).ok := by
  unfold addM
  split
  · split
    · split
      · exact hx.1
      · exact ⟨⟨trivial, hx⟩, hb⟩
    · exact ⟨⟨trivial, hx⟩, hb⟩
  · split
    · exact ⟨trivial, hx⟩
    · exact ⟨⟨trivial, hx⟩, hb⟩
theorem mkAdd_ok {a b : SE} (ha : a.ok) (hb : b.ok) : (mkAdd a b).ok := by
  unfold mkAdd
  split
  · exact mkAddL_ok ha
  · split
    · exact mkAddL_ok hb
    · exact addM_ok ha.2 hb
    · split
      · exact ⟨trivial, ha⟩
      · exact ⟨ha, hb⟩
theorem mkSub_ok {a b : SE} (ha : a.ok) (hb : b.ok) : (mkSub a b).ok := by
  unfold mkSub
  split
  · exact mkAddL_ok ha
  · split
    · exact hb.2
    · exact ⟨ha, hb⟩
  · split
    · trivial
    · exact ⟨ha, hb⟩
theorem mulL_ok {c : Int} {a : SE} (ha : a.ok) : (mulL c a).ok := by
  unfold mulL
  cases ieq c 0 with
  | true => trivial
  | false => cases ieq c 1 with
    | true => exact ha
    | false => exact ⟨trivial, ha⟩
theorem mkMul_ok {a b : SE} (ha : a.ok) (hb : b.ok) : (mkMul a b).ok := by
  unfold mkMul
  split
  · exact mulL_ok hb
  · split
    · exact mulL_ok ha
    · exact ⟨ha, hb⟩
theorem mkQuo_ok {a b : SE} (ha : a.ok) (hb : b.ok) : (mkQuo a b).ok := by
  unfold mkQuo
  split
  · split
    · exact ha
    · exact ⟨ha, hb⟩
  · exact ⟨ha, hb⟩
theorem fitsK_spec {k : IntKind} {lo hi n : Int} (h : fitsK k lo hi = true) (h1 : lo ≤ n) (h2 : n ≤ hi) : k.wrap n = n := by
  unfold fitsK at h
  split at h
  · rename_i h3 h4
    have h3 := ilt_ge h3
    have h4 := ilt_ge h4
    have a1 : kmin k ≤ n := by omega
    have a2 : n ≤ kmax k := by omega
    cases k <;> simp only [kmin, kmax] at a1 a2 <;> simp only [IntKind.wrap, IntKind.bits, IntKind.signed] <;> simp <;> omega
  · cases h
theorem symEq_spec {l1 h1 : Int} {e1 : SE} {l2 h2 : Int} {e2 : SE} {b : Bool} (h : symEq l1 h1 e1 l2 h2 e2 = some b) (a1 : l1 ≤ e1.val ∧ e1.val ≤ h1) (a2 : l2 ≤ e2.val ∧ e2.val ≤ h2) : b = decide (e1.val = e2.val) := by
  unfold symEq at h
  split at h
  · split at h
    · rename_i h'; cases h; rw [seq_eq h']; simp
    · cases h
  · rename_i hx
    cases h
    refine (decide_eq_false ?_).symm
    cases hb : ilt h1 l2 with
    | true => have := ilt_lt hb; omega
    | false => cases hc : ilt h2 l1 with
      | true => have := ilt_lt hc; omega
      | false => exact (hx hb hc).elim
theorem symLt_spec {l1 h1 : Int} {e1 : SE} {l2 h2 : Int} {e2 : SE} {b : Bool} (h : symLt l1 h1 e1 l2 h2 e2 = some b) (a1 : l1 ≤ e1.val ∧ e1.val ≤ h1) (a2 : l2 ≤ e2.val ∧ e2.val ≤ h2) : b = decide (e1.val < e2.val) := by
  unfold symLt at h
  split at h
  · rename_i hb; cases h; have := ilt_lt hb; exact (decide_eq_true (by omega)).symm
  · split at h
    · rename_i hb; cases h; have := ilt_ge hb; exact (decide_eq_false (by omega)).symm
    · split at h
      · rename_i h'; cases h; rw [seq_eq h']; simp
      · cases h
theorem byte_toNat {lo hi : Nat} {e : SE} (h : SB.ok (.s lo hi e)) : ((SB.s lo hi e).byte.toNat : Int) = e.val := by
  obtain ⟨h1, h2, h3, _⟩ := h
  simp only [SB.byte, UInt8.toNat_ofNat']
  omega
theorem sb1_spec {a b : SB} {r : Bool} (h : sb1 a b = some r) (ha : a.ok) (hb : b.ok) : r = decide (a.byte = b.byte) := by
  have out : ∀ {c : UInt8} {lo hi : Nat} {e : SE}, SB.ok (.s lo hi e) → (match Nat.blt c.toNat lo, Nat.blt hi c.toNat with | false, false => (none : Option Bool) | _, _ => some false) = some r → r = false ∧ c ≠ (SB.s lo hi e).byte := fun {c lo hi e} ho hx => by
    have h1 := byte_toNat ho
    obtain ⟨h2, h3, h4, _⟩ := ho
    split at hx
    · cases hx
    · rename_i hy
      cases hx
      refine ⟨rfl, fun e' => ?_⟩
      rw [← e'] at h1
      rw [natBlt, natBlt] at hy
      by_cases q1 : c.toNat < lo
      · omega
      · by_cases q2 : hi < c.toNat
        · omega
        · exact (hy (decide_eq_false q1) (decide_eq_false q2)).elim
  cases a with
  | b c => cases b with
    | b d =>
      simp only [sb1, Option.some.injEq] at h
      subst h
      refine Bool.eq_iff_iff.2 ⟨fun h => decide_eq_true (UInt8.toNat_inj.1 (Nat.eq_of_beq_eq_true h)), fun h => ?_⟩
      have h : c = d := of_decide_eq_true h
      rw [h]; exact Nat.beq_refl _
    | s lo hi e => obtain ⟨rfl, hne⟩ := out hb h; exact (decide_eq_false (by simpa [SB.byte] using hne)).symm
  | s lo hi e => cases b with
    | b c => obtain ⟨rfl, hne⟩ := out ha h; exact (decide_eq_false (by intro e'; exact hne (by simpa [SB.byte] using e'.symm))).symm
    | s lo' hi' e' =>
      have := symEq_spec h ⟨ha.1, ha.2.1⟩ ⟨hb.1, hb.2.1⟩
      subst this
      have h1 := byte_toNat ha
      have h2 := byte_toNat hb
      refine decide_eq_decide.2 ⟨fun e => UInt8.toNat_inj.1 (by omega), fun e => by rw [← h1, ← h2, e]⟩
theorem sbEq_spec : ∀ {l m : List SB} {r : Bool}, sbEq l m = some r → (∀ p ∈ l, p.ok) → (∀ p ∈ m, p.ok) → r = decide (l.map SB.byte = m.map SB.byte)
  | [], [], r, h, _, _ => by simp [sbEq] at h; subst h; rfl
  | [], _ :: _, r, h, _, _ => by simp [sbEq] at h; subst h; simp
  | _ :: _, [], r, h, _, _ => by simp [sbEq] at h; subst h; simp
  | a :: x, b :: y, r, h, ha, hb => by
    simp only [sbEq] at h
    have ha0 := ha a (by simp)
    have hb0 := hb b (by simp)
    have ih := fun {r} (h : sbEq x y = some r) => sbEq_spec h (fun p hp => ha p (by simp [hp])) (fun p hp => hb p (by simp [hp]))
    split at h
    · rename_i h1
      have h1 := sb1_spec h1 ha0 hb0
      have h1 : a.byte = b.byte := by simpa using h1.symm
      rw [ih h]; simp [h1]
    · rename_i h1
      have h1 := sb1_spec h1 ha0 hb0
      have h1 : a.byte ≠ b.byte := by simpa using h1.symm
      cases h; simp [h1]
    · split at h
      · rename_i h1
        have h1 := ih h1
        cases h
        have h1 : ¬ x.map SB.byte = y.map SB.byte := by simpa using h1.symm
        simp [h1]
      · cases h
theorem allB_eq : ∀ {l : List SB} {r : List UInt8}, allB l = some r → l = r.map SB.b
  | [], r, h => by simp [allB] at h; subst h; rfl
  | .b c :: l, r, h => by
    simp only [allB] at h
    split at h
    · rename_i r' hr; cases h; rw [allB_eq hr]; rfl
    · cases h
  | .s _ _ _ :: l, r, h => by simp [allB] at h
theorem map_b (l : List UInt8) : (l.map SB.b).map SB.byte = l := by
  induction l with
  | nil => rfl
  | cons c l ih => simp [SB.byte, ih]
theorem mkS_R {s : Path → Option Ref} {l : List SB} (h : ∀ p ∈ l, p.ok) : VR s (mkS l) (.string ⟨(l.map SB.byte).toArray⟩) := by
  unfold mkS
  split
  · rename_i r hr
    have := allB_eq hr
    subst this
    rw [map_b]
    rfl
  · exact ⟨rfl, h⟩
theorem bsOf_ok (x : ByteArray) : ∀ p ∈ bsOf x, p.ok := fun p hp => by
  obtain ⟨c, _, rfl⟩ := List.mem_map.1 hp
  exact trivial
theorem bsOf_bytes (x : ByteArray) : (bsOf x).map SB.byte = x.data.toList := map_b _
theorem ofB_some {r : Option Bool} {a : AV} (h : ofB r = some a) : ∃ b, r = some b ∧ a = .bool b := by
  unfold ofB at h; split at h
  · cases h; exact ⟨_, rfl, rfl⟩
  · cases h
theorem ofNB_some {r : Option Bool} {a : AV} (h : ofNB r = some a) : ∃ b, r = some b ∧ a = .bool !b := by
  unfold ofNB at h; split at h
  · cases h; exact ⟨_, rfl, rfl⟩
  · cases h
theorem symU_R {s : Path → Option Ref} {k : IntKind} {lo hi : Int} {e : SE} {a : AV} (h : symU k lo hi e = some a) {n : Int} (hn : n = e.val) (h1 : lo ≤ n) (h2 : n ≤ hi) (h3 : e.ok) : VR s a (.int k n) ∧ k.wrap n = n := by
  subst hn
  unfold symU at h
  split at h
  · rename_i hf
    refine ⟨?_, fitsK_spec hf h1 h2⟩
    split at h
    · rename_i he
      cases h
      have := ieq_eq he
      show Value.int k e.val = .int k lo
      rw [show e.val = lo by omega]
    · cases h; exact ⟨rfl, h1, h2, h3⟩
  · cases h
theorem symV_R {s : Path → Option Ref} {k : IntKind} {lo hi : Int} {e : SE} {a : AV} (h : symV k lo hi e = some a) {n : Int} (hn : n = e.val) (h1 : lo ≤ n) (h2 : n ≤ hi) (h3 : e.ok) : VR s a (.int k n) ∧ k.wrap n = n := by
  unfold symV at h
  split at h
  · split at h
    · rename_i l u _ _ hf
      cases h
      subst hn
      exact ⟨⟨rfl, h3.1, h3.2, h3⟩, fitsK_spec hf h3.1 h3.2⟩
    · exact symU_R h hn h1 h2 h3
  · exact symU_R h hn h1 h2 h3
theorem byte_AV {s : Path → Option Ref} {c : SB} (h : c.ok) : VR s (sbAV c) (.int .u8 c.byte.toNat) := by
  cases c with
  | b c => rfl
  | s lo hi e => exact ⟨by rw [byte_toNat h], h.1, h.2.1, h.2.2.2⟩
theorem avSB_R {s : Path → Option Ref} {a : AV} {c : SB} {x : Value} (h : avSB a = some c) (hx : VR s a x) : x = .int .u8 c.byte.toNat ∧ c.ok := by
  unfold avSB at h
  split at h
  · rename_i n
    split at h
    · rename_i hlt
      cases h
      have hx : x = .int .u8 (.ofNat n) := hx
      subst hx
      have hlt := of_decide_eq_true ((natBlt _ _) ▸ hlt)
      refine ⟨?_, trivial⟩
      simp only [SB.byte, UInt8.toNat_ofNat']
      rw [Nat.mod_eq_of_lt (by omega)]
      rfl
    · cases h
  · split at h
    · rename_i lo hi e _ hle
      cases h
      obtain ⟨rfl, h1, h2, h3⟩ := hx
      have hk : SB.ok (.s lo hi e) := ⟨h1, h2, Nat.le_of_ble_eq_true hle, h3⟩
      exact ⟨by rw [byte_toNat hk], hk⟩
    · cases h
  · cases h
end
mutual
theorem aveq_eq : ∀ {x y : AV}, aveq x y = true → x = y
  | .bool a, y, h => by cases y <;> simp only [aveq] at h <;> first | cases h | (cases a <;> simp_all)
  | .int j a, y, h => by
    cases y <;> simp only [aveq] at h <;> first
      | cases h
      | (split at h
         · rename_i e; rw [ieq_iff] at h; rw [keq_eq e, of_decide_eq_true h]
         · cases h)
  | .res _ _ _, y, h => by cases y <;> simp [aveq] at h
  | .str a, y, h => by cases y <;> simp only [aveq] at h <;> first | cases h | rw [str_eq h]
  | .ptr p o, y, h => by
    cases y <;> simp only [aveq] at h <;> first
      | cases h
      | (split at h
         · rename_i e; rw [peq_eq e, Nat.eq_of_beq_eq_true h]
         · cases h)
  | .nilp, y, h => by cases y <;> simp only [aveq] at h <;> first | rfl | cases h
  | .sl p k i n, y, h => by
    cases y <;> simp only [aveq] at h <;> first
      | cases h
      | (split at h
         · rename_i e1 e2 e3; rw [peq_eq e1, Nat.eq_of_beq_eq_true e2, Nat.eq_of_beq_eq_true e3, Nat.eq_of_beq_eq_true h]
         · cases h)
  | .sle, y, h => by cases y <;> simp only [aveq] at h <;> first | rfl | cases h
  | .nils, y, h => by cases y <;> simp only [aveq] at h <;> first | rfl | cases h
  | .fn f a c, y, h => by
    cases y <;> simp only [aveq] at h <;> first
      | cases h
      | (split at h
         · rename_i e1 e2; rw [Nat.eq_of_beq_eq_true e1, avseq_eq e2, avseq_eq h]
         · cases h)
  | .nilfn, y, h => by cases y <;> simp only [aveq] at h <;> first | rfl | cases h
  | .ifc t a, y, h => by
    cases y <;> simp only [aveq] at h <;> first
      | cases h
      | (split at h
         · rename_i e; rw [Nat.eq_of_beq_eq_true e, aveq_eq h]
         · cases h)
  | .nilif, y, h => by cases y <;> simp only [aveq] at h <;> first | rfl | cases h
  | .mp p, y, h => by cases y <;> simp only [aveq] at h <;> first | rw [peq_eq h] | cases h
  | .nilm, y, h => by cases y <;> simp only [aveq] at h <;> first | rfl | cases h
  | .agg l, y, h => by cases y <;> simp only [aveq] at h <;> first | cases h | rw [avseq_eq h]
  | .tup l, y, h => by cases y <;> simp only [aveq] at h <;> first | cases h | rw [avseq_eq h]
  | .sym j l u e, y, h => by
    cases y <;> simp only [aveq] at h <;> first
      | cases h
      | (split at h
         · rename_i e1 e2 e3; rw [ieq_iff] at e2 e3; rw [keq_eq e1, of_decide_eq_true e2, of_decide_eq_true e3, seq_eq h]
         · cases h)
  | .ss l, y, h => by cases y <;> simp only [aveq] at h <;> first | cases h | rw [sbsame_eq h]
theorem avseq_eq : ∀ {x y : List AV}, avseq x y = true → x = y
  | [], y, h => by cases y <;> simp [avseq] at h; rfl
  | a :: x, y, h => by
    cases y with
    | nil => simp [avseq] at h
    | cons b y =>
      simp only [avseq] at h
      split at h
      · rename_i e; rw [aveq_eq e, avseq_eq h]
      · cases h
end
end Go.Ev
namespace Go.Ev
set_option linter.unusedSectionVars false
variable [Unk]

structure BlkR (s : Path → Option Ref) (w : World) (b : Blk) (r : Ref) : Prop where
  k : r.k = b.k
  kpos : 0 < b.k
  cap : b.n ≤ r.cap
  shut : b.grows = false → r.cap = b.n
  top : ∀ j row, get (pathOf j) b.rows = some row → j < b.n
  ty : b.ty = 0 ∨ ∃ cs T fz, w.heap[r.blk]? = some (.cells cs T fz) ∧ b.ty = T + 1 ∧ r.off = 0 ∧ (b.grows = false → cs.size = b.n * b.k)
  cells : ∃ cs T fz, w.heap[r.blk]? = some (.cells cs T fz) ∧ (b.ro = false → fz = (0, 0)) ∧ r.off + r.cap * r.k ≤ cs.size ∧
    ∀ j row, get (pathOf j) b.rows = some row → row.length = b.k ∧ row.all sc = true ∧ ∀ (i : Nat) a, row[i]? = some a → ∃ x, cs[r.off + j * r.k + i]? = some x ∧ VR s a x

def EntR (s : Path → Option Ref) (rows : Tr (List AV)) (j : Nat) (e : MapEntry) : Prop := ∃ ka va, get (pathOf j) rows = some [ka, va] ∧ VR s ka e.key ∧ VR s va e.val
structure MapR (s : Path → Option Ref) (w : World) (b : Blk) (r : Ref) : Prop where
  ro : b.ro = false
  map : ∃ es clock, w.heap[r.blk]? = some (.map es clock) ∧ es.size = b.n ∧ ∀ (j : Nat) e, es[j]? = some e → EntR s b.rows j e
def ObR (s : Path → Option Ref) (w : World) (b : Blk) (r : Ref) : Prop := match b.map with
  | false => BlkR s w b r
  | true => MapR s w b r
theorem ObR.of {s : Path → Option Ref} {w : World} {b : Blk} {r : Ref} (hm : b.map = false) (B : BlkR s w b r) : ObR s w b r := by unfold ObR; rw [hm]; exact B
theorem ObR.blk {s : Path → Option Ref} {w : World} {b : Blk} {r : Ref} (B : ObR s w b r) (hm : b.map = false) : BlkR s w b r := by unfold ObR at B; rw [hm] at B; exact B
theorem ObR.ofMap {s : Path → Option Ref} {w : World} {b : Blk} {r : Ref} (hm : b.map = true) (B : MapR s w b r) : ObR s w b r := by unfold ObR; rw [hm]; exact B
theorem ObR.mapR {s : Path → Option Ref} {w : World} {b : Blk} {r : Ref} (B : ObR s w b r) (hm : b.map = true) : MapR s w b r := by unfold ObR at B; rw [hm] at B; exact B
theorem getC_eq {p : Path} {t : Tr Blk} {b : Blk} (h : getC p t = some b) : get p t = some b ∧ b.map = false := by
  unfold getC at h
  split at h
  · rename_i b' hb
    split at h
    · cases h
    · rename_i hm; cases h; exact ⟨hb, hm⟩
  · cases h

structure HR (A : Asg) (h : H) (w : World) : Prop where
  fresh : ∀ p r, A.s p = some r → num p < num h.next
  live : ∀ p b, get p h.t = some b → num p < num h.next
  bfresh : ∀ g x, A.b g = some x → g < h.gen ∧ x < w.heap.size
  blk : ∀ p b r, get p h.t = some b → A.s p = some r → ObR A.s w b r
  sfresh : ∀ p r, A.s p = some r → r.blk < w.heap.size
  apart : ∀ p q b c r t, p ≠ q → get p h.t = some b → get q h.t = some c → A.s p = some r → A.s q = some t → b.ro = false → r.blk ≠ t.blk
  binj : ∀ g g' x, A.b g = some x → A.b g' = some x → g = g'
  bs : ∀ g x p r, A.b g = some x → A.s p = some r → r.blk ≠ x
  old : ∀ p, A.o p = true → ∃ r b, A.s p = some r ∧ get p h.t = some b ∧ b.ro = true

def SlR (A : Asg) (w : World) : Sl → Value → Prop
  | .v a, x => VR A.s a x
  | .und, x => x = undef
  | .box g l, x => ∃ blk, A.b g = some blk ∧ x = .pointer (some ⟨blk, 0, none⟩) ∧ ∃ cs T, w.heap[blk]? = some (.cells cs T (0, 0)) ∧ VRs A.s l cs.toList ∧ l.all sc = true
  | .lp _ g o, x => ∃ blk, A.b g = some blk ∧ x = .pointer (some ⟨blk, o, none⟩)

structure FrR (A : Asg) (n : Nat) (ok : Path → Prop) (fr : FT) (tmps : Array Value) (w : World) : Prop where
  size : n ≤ tmps.size
  slot : ∀ t s, ok (pathOf t) → get (pathOf t) fr = some s → SlR A w s (tmps.getD t undef)
  bok : ∀ p g l, get p fr = some (.box g l) → ok p
  once : ∀ p q g l l', get p fr = some (.box g l) → get q fr = some (.box g l') → p = q

structure Ent where
  A : Asg
  h : H
  w : World

structure Inv (E : Ent) (A : Asg) (h : H) (w : World) : Prop where
  hr : HR A h w
  os : w.os = E.w.os
  tape : w.tape = E.w.tape
  output : w.output = E.w.output
  size : E.w.heap.size ≤ w.heap.size
  next : num E.h.next ≤ num h.next
  gen : E.h.gen ≤ h.gen
  ext : ∀ p, num p < num E.h.next → A.s p = E.A.s p
  bext : ∀ g, g < E.h.gen → A.b g = E.A.b g
  keep : ∀ x, x < E.w.heap.size → (∀ p r, E.A.s p = some r → r.blk ≠ x) → w.heap[x]? = E.w.heap[x]?
  news : ∀ p r, A.s p = some r → E.w.heap.size ≤ r.blk ∨ ∃ q t, E.A.s q = some t ∧ t.blk = r.blk ∧ (E.A.o q = true → A.o p = true)
  bnew : ∀ g x, E.h.gen ≤ g → A.b g = some x → E.w.heap.size ≤ x
  phan : ∀ p, num p < num E.h.next → E.A.s p = none → get p h.t = get p E.h.t
  rok : ∀ p r, E.A.o p = true → E.A.s p = some r → A.s p = some r ∧ A.o p = true ∧ w.heap[r.blk]? = E.w.heap[r.blk]?

theorem Inv.start {A : Asg} {h : H} {w : World} (hr : HR A h w) : Inv ⟨A, h, w⟩ A h w where
  hr := hr
  os := rfl
  tape := rfl
  output := rfl
  size := Nat.le_refl _
  next := Nat.le_refl _
  gen := Nat.le_refl _
  ext := fun _ _ => rfl
  bext := fun _ _ => rfl
  keep := fun _ _ _ => rfl
  news := fun p r h => .inr ⟨p, r, h, rfl, id⟩
  bnew := fun g x hg hb => absurd (hr.bfresh g x hb).1 (Nat.not_lt.2 hg)
  phan := fun _ _ _ => rfl
  rok := fun _ _ ho hs => ⟨hs, ho, rfl⟩

theorem Inv.trans {E : Ent} {A A' : Asg} {h h' : H} {w w' : World} (I : Inv E A h w) (J : Inv ⟨A, h, w⟩ A' h' w') : Inv E A' h' w' where
  hr := J.hr
  os := J.os.trans I.os
  tape := J.tape.trans I.tape
  output := J.output.trans I.output
  size := Nat.le_trans I.size J.size
  next := Nat.le_trans I.next J.next
  gen := Nat.le_trans I.gen J.gen
  ext := fun p hp => (J.ext p (Nat.lt_of_lt_of_le hp I.next)).trans (I.ext p hp)
  bext := fun g hg => (J.bext g (Nat.lt_of_lt_of_le hg I.gen)).trans (I.bext g hg)
  keep := fun x hx hn => (J.keep x (Nat.lt_of_lt_of_le hx I.size) (fun p r hp e => by
    rcases I.news p r hp with h1 | ⟨q, t, hq, ht, _⟩
    · omega
    · exact hn q t hq (ht.trans e))).trans (I.keep x hx hn)
  news := fun p r hp => by
    rcases J.news p r hp with h1 | ⟨q, t, hq, ht, ho⟩
    · exact .inl (Nat.le_trans I.size h1)
    · rcases I.news q t hq with h2 | ⟨q', t', hq', ht', ho'⟩
      · exact .inl (ht ▸ h2)
      · exact .inr ⟨q', t', hq', ht'.trans ht, fun e => ho (ho' e)⟩
  bnew := fun g x hg hb => by
    by_cases hlt : g < h.gen
    · exact I.bnew g x hg ((J.bext g hlt) ▸ hb)
    · exact Nat.le_trans I.size (J.bnew g x (Nat.not_lt.1 hlt) hb)
  phan := fun p hp hn => (J.phan p (Nat.lt_of_lt_of_le hp I.next) ((I.ext p hp).trans hn)).trans (I.phan p hp hn)
  rok := fun p r ho hs => by
    obtain ⟨h1, h2, h3⟩ := I.rok p r ho hs
    obtain ⟨h4, h5, h6⟩ := J.rok p r h2 h1
    exact ⟨h4, h5, h6.trans h3⟩

theorem FrR.called {A A' : Asg} {h h' : H} {w w' : World} {n : Nat} {ok : Path → Prop} {fr : FT} {tmps : Array Value} (F : FrR A n ok fr tmps w) (hr : HR A h w) (J : Inv ⟨A, h, w⟩ A' h' w') : FrR A' n ok fr tmps w' where
  bok := F.bok
  size := F.size
  once := F.once
  slot := fun t s hk hs => by
    have hm : ∀ p r, A.s p = some r → A'.s p = some r := fun p r hp => (J.ext p (hr.fresh p r hp)).trans hp
    have hb : ∀ g x, A.b g = some x → A'.b g = some x := fun g x hg => (J.bext g (hr.bfresh g x hg).1).trans hg
    have H := F.slot t s hk hs
    cases s with
    | v a => exact VR.mono hm _ _ H
    | und => exact H
    | box g l =>
      obtain ⟨blk, h1, h2, cs, T, h3, h4, h5⟩ := H
      exact ⟨blk, hb g blk h1, h2, cs, T, (J.keep blk (hr.bfresh g blk h1).2 (fun p r hp => hr.bs g blk p r h1 hp)).trans h3, VRs.mono hm _ _ h4, h5⟩
    | lp d g o =>
      obtain ⟨blk, h1, h2⟩ := H
      exact ⟨blk, hb g blk h1, h2⟩

theorem HR.of_heap {A : Asg} {h : H} {w w' : World} (e : w'.heap = w.heap) (hr : HR A h w) : HR A h w' where
  fresh := hr.fresh
  live := hr.live
  bfresh := fun g x hg => by rw [e]; exact hr.bfresh g x hg
  blk := fun p b r hp hs => by
    have B := hr.blk p b r hp hs
    unfold ObR at B ⊢
    split at B
    · exact ⟨B.k, B.kpos, B.cap, B.shut, B.top, by rw [e]; exact B.ty, by rw [e]; exact B.cells⟩
    · exact ⟨B.ro, by rw [e]; exact B.map⟩
  sfresh := fun p r hp => by rw [e]; exact hr.sfresh p r hp
  apart := hr.apart
  binj := hr.binj
  bs := hr.bs
  old := hr.old
theorem Inv.drew {E : Ent} {A : Asg} {h : H} {w : World} (I : Inv E A h w) (k : Nat) : Inv E A h { w with drawn := k } where
  hr := HR.of_heap (w := w) rfl I.hr
  os := I.os
  tape := I.tape
  output := I.output
  size := I.size
  next := I.next
  gen := I.gen
  ext := I.ext
  bext := I.bext
  keep := I.keep
  news := I.news
  bnew := I.bnew
  phan := I.phan
  rok := I.rok
theorem SlR.of_heap {A : Asg} {w w' : World} (e : w'.heap = w.heap) {s : Sl} {x : Value} (h : SlR A w s x) : SlR A w' s x := by
  cases s with
  | v a => exact h
  | und => exact h
  | box g l => obtain ⟨blk, h1, h2, cs, T, h3, h4, h5⟩ := h; exact ⟨blk, h1, h2, cs, T, by rw [e]; exact h3, h4, h5⟩
  | lp d g o => exact h
theorem FrR.of_heap {A : Asg} {w w' : World} (e : w'.heap = w.heap) {n : Nat} {ok : Path → Prop} {fr : FT} {tmps : Array Value} (F : FrR A n ok fr tmps w) : FrR A n ok fr tmps w' :=
  ⟨F.size, fun t s hk hs => (F.slot t s hk hs).of_heap e, F.bok, F.once⟩

theorem getD_setIfInBounds {xs : Array Value} {d t : Nat} {x y : Value} (hd : d < xs.size) : (xs.setIfInBounds d x).getD t y = if t = d then x else xs.getD t y := by
  simp only [Array.getD_eq_getD_getElem?, Array.getElem?_setIfInBounds]
  by_cases h : d = t
  · subst h; simp [hd]
  · rw [if_neg h, if_neg (fun e => h e.symm)]

theorem FrR.fill {A : Asg} {n : Nat} {ok ok' : Path → Prop} {fr : FT} {tmps : Array Value} {w : World} (F : FrR A n ok fr tmps w) {d : Nat} (hd : d < n) {s : Sl} {x : Value}
    (hg : get (pathOf d) fr = some s) (hs : SlR A w s x) (h1 : ∀ p, ok' p → p = pathOf d ∨ ok p) (h2 : ∀ p, ok p → ok' p) : FrR A n ok' fr (tmps.setIfInBounds d x) w where
  size := by rw [Array.size_setIfInBounds]; exact F.size
  slot := fun t s' hk h => by
    rw [getD_setIfInBounds (Nat.lt_of_lt_of_le hd F.size)]
    by_cases e : t = d
    · subst e
      rw [if_pos rfl]
      rw [hg] at h
      cases h
      exact hs
    · rw [if_neg e]
      exact F.slot t s' ((h1 _ hk).resolve_left (fun e' => e (pathOf_inj e'))) h
  bok := fun p g l h => h2 p (F.bok p g l h)
  once := F.once
theorem FrR.ghost {A : Asg} {n : Nat} {ok ok' : Path → Prop} {fr : FT} {tmps : Array Value} {w : World} (F : FrR A n ok fr tmps w) {d : Nat} {s : Sl}
    (hb : ∀ g l, s ≠ .box g l) (h1 : ∀ p, ok' p → p ≠ pathOf d ∧ ok p) (h2 : ∀ p, ok p → p ≠ pathOf d → ok' p) : FrR A n ok' (set (pathOf d) (some s) fr) tmps w where
  size := F.size
  slot := fun t s' hk h => by
    rw [get_set_other _ _ _ _ (fun e => (h1 _ hk).1 e)] at h
    exact F.slot t s' (h1 _ hk).2 h
  bok := fun p g l h => by
    rw [get_set] at h
    split at h
    · cases h; exact absurd rfl (hb g l)
    · exact h2 p (F.bok p g l h) ‹_›
  once := fun p q g l l' h1 h2 => by
    rw [get_set] at h1 h2
    split at h1
    · cases h1; exact absurd rfl (hb g l)
    · split at h2
      · cases h2; exact absurd rfl (hb g l')
      · exact F.once p q g l l' h1 h2
def all : Path → Prop := fun _ => True
theorem FrR.put {A : Asg} {n : Nat} {ok : Path → Prop} {fr : FT} {tmps : Array Value} {w : World} (F : FrR A n ok fr tmps w) {d : Nat} (hd : d < n) {s : Sl} {x : Value} (hs : SlR A w s x) (hb : ∀ g l, s ≠ .box g l) :
    FrR A n ok (set (pathOf d) (some s) fr) (tmps.setIfInBounds d x) w :=
  (F.ghost (ok' := fun p => p ≠ pathOf d ∧ ok p) hb (fun _ h => h) (fun _ h h' => ⟨h', h⟩)).fill hd (by rw [get_set, if_pos rfl]) hs (fun p h => (Classical.em (p = pathOf d)).imp id fun e => ⟨e, h⟩) (fun p h => h.2)

theorem heap_push {w : World} {o : Obj} {x : Nat} (h : x < w.heap.size) : (w.heap.push o)[x]? = w.heap[x]? := by
  rw [Array.getElem?_push, if_neg (Nat.ne_of_lt h)]
theorem BlkR.pushed {s s' : Path → Option Ref} {w w' : World} {b : Blk} {r : Ref} (B : BlkR s w b r) (hm : ∀ p r, s p = some r → s' p = some r) (e : w'.heap[r.blk]? = w.heap[r.blk]?) : BlkR s' w' b r where
  k := B.k
  kpos := B.kpos
  cap := B.cap
  shut := B.shut
  top := B.top
  ty := B.ty.imp id fun ⟨cs, T, fz, h1, h2⟩ => ⟨cs, T, fz, e.trans h1, h2⟩
  cells := by
    obtain ⟨cs, T, fz, h1, h2, h3, h4⟩ := B.cells
    refine ⟨cs, T, fz, e.trans h1, h2, h3, fun j row hj => ?_⟩
    obtain ⟨h5, h6, h7⟩ := h4 j row hj
    exact ⟨h5, h6, fun i a ha => by obtain ⟨x, hx, hv⟩ := h7 i a ha; exact ⟨x, hx, VR.mono hm _ _ hv⟩⟩

theorem ObR.pushed {s s' : Path → Option Ref} {w w' : World} {b : Blk} {r : Ref} (B : ObR s w b r) (hm : ∀ p r, s p = some r → s' p = some r) (e : w'.heap[r.blk]? = w.heap[r.blk]?) : ObR s' w' b r := by
  unfold ObR at B ⊢
  split at B
  · exact BlkR.pushed B hm e
  · refine ⟨B.ro, ?_⟩
    obtain ⟨es, clock, h1, h2, h3⟩ := B.map
    refine ⟨es, clock, e.trans h1, h2, fun j x hj => ?_⟩
    obtain ⟨ka, va, g1, g2, g3⟩ := h3 j x hj
    exact ⟨ka, va, g1, VR.mono hm _ _ g2, VR.mono hm _ _ g3⟩

def Asg.withS (A : Asg) (p : Path) (r : Ref) : Asg := ⟨fun q => if q = p then some r else A.s q, A.b, A.o⟩
def Asg.withB (A : Asg) (g x : Nat) : Asg := ⟨A.s, fun g' => if g' = g then some x else A.b g', A.o⟩
theorem withS_mono {A : Asg} {p : Path} {r : Ref} (h : A.s p = none) : ∀ q t, A.s q = some t → (A.withS p r).s q = some t := fun q t hq => by
  show (if q = p then some r else A.s q) = some t
  rw [if_neg (fun e => by rw [e, h] at hq; cases hq)]
  exact hq
theorem HR.none_next {A : Asg} {h : H} {w : World} (hr : HR A h w) : A.s h.next = none := by
  cases e : A.s h.next with
  | none => rfl
  | some r => exact absurd (hr.fresh _ _ e) (Nat.lt_irrefl _)
theorem HR.get_next {A : Asg} {h : H} {w : World} (hr : HR A h w) : get h.next h.t = none := by
  cases e : get h.next h.t with
  | none => rfl
  | some r => exact absurd (hr.live _ _ e) (Nat.lt_irrefl _)

theorem FrR.pushed {A A' : Asg} {w w' : World} {n : Nat} {ok : Path → Prop} {fr : FT} {tmps : Array Value} (F : FrR A n ok fr tmps w) (hm : ∀ p r, A.s p = some r → A'.s p = some r)
    (hb : ∀ g x, A.b g = some x → A'.b g = some x) (hw : ∀ g x, A.b g = some x → w'.heap[x]? = w.heap[x]?) : FrR A' n ok fr tmps w' where
  size := F.size
  bok := F.bok
  once := F.once
  slot := fun t s hk hs => by
    have H := F.slot t s hk hs
    cases s with
    | v a => exact VR.mono hm _ _ H
    | und => exact H
    | box g l =>
      obtain ⟨blk, h1, h2, cs, T, h3, h4, h5⟩ := H
      exact ⟨blk, hb g blk h1, h2, cs, T, (hw g blk h1).trans h3, VRs.mono hm _ _ h4, h5⟩
    | lp d g o =>
      obtain ⟨blk, h1, h2⟩ := H
      exact ⟨blk, hb g blk h1, h2⟩

theorem Inv.allocB {E : Ent} {A : Asg} {h : H} {w : World} (I : Inv E A h w) (o : Obj) :
    Inv E (A.withB h.gen w.heap.size) ⟨h.next, h.t, h.gen + 1⟩ { w with heap := w.heap.push o } := by
  have hsz : (w.heap.push o).size = w.heap.size + 1 := Array.size_push _
  have hb : ∀ g x, (A.withB h.gen w.heap.size).b g = some x → (g = h.gen ∧ x = w.heap.size) ∨ (g ≠ h.gen ∧ A.b g = some x) := fun g x hg => by
    have hg : (if g = h.gen then some w.heap.size else A.b g) = some x := hg
    split at hg
    · cases hg; exact .inl ⟨‹_›, rfl⟩
    · exact .inr ⟨‹_›, hg⟩
  refine { hr := ?_, os := I.os, tape := I.tape, output := I.output, size := ?_, next := I.next, gen := Nat.le_succ_of_le I.gen, ext := I.ext, bext := ?_, keep := ?_, news := I.news, bnew := ?_, phan := I.phan, rok := ?_ }
  · refine { fresh := I.hr.fresh, live := I.hr.live, bfresh := ?_, blk := ?_, sfresh := ?_, apart := I.hr.apart, binj := ?_, bs := ?_, old := I.hr.old }
    · intro g x hg
      show g < h.gen + 1 ∧ x < (w.heap.push o).size
      rcases hb g x hg with ⟨rfl, rfl⟩ | ⟨_, h1⟩
      · omega
      · have := I.hr.bfresh g x h1; omega
    · intro p c t hp ht
      exact (I.hr.blk p c t hp ht).pushed (fun _ _ e => e) (heap_push (I.hr.sfresh p t ht))
    · intro p t hp
      show t.blk < (w.heap.push o).size
      have := I.hr.sfresh p t hp; omega
    · intro g g' x h1 h2
      rcases hb g x h1 with ⟨rfl, rfl⟩ | ⟨_, h3⟩ <;> rcases hb g' _ h2 with ⟨rfl, e⟩ | ⟨_, h4⟩
      · rfl
      · have := (I.hr.bfresh g' _ h4).2; omega
      · have := (I.hr.bfresh g _ h3).2; omega
      · exact I.hr.binj g g' x h3 h4
    · intro g x p t hg hp
      rcases hb g x hg with ⟨rfl, rfl⟩ | ⟨_, h1⟩
      · have := I.hr.sfresh p t hp; omega
      · exact I.hr.bs g x p t h1 hp
  · show E.w.heap.size ≤ (w.heap.push o).size
    have := I.size; omega
  · intro g hg
    rw [← I.bext g hg]
    show (if g = h.gen then some w.heap.size else A.b g) = A.b g
    rw [if_neg (fun e => by subst e; have := I.gen; omega)]
  · intro x hx hk
    exact (heap_push (Nat.lt_of_lt_of_le hx I.size)).trans (I.keep x hx hk)
  · intro g x hg hx
    rcases hb g x hx with ⟨rfl, rfl⟩ | ⟨_, h1⟩
    · exact I.size
    · exact I.bnew g x hg h1
  · intro p r ho hs
    obtain ⟨h1, h2, h3⟩ := I.rok p r ho hs
    exact ⟨h1, h2, (heap_push (I.hr.sfresh p r h1)).trans h3⟩

def wr (w : World) (x : Nat) (o : Obj) : World := { w with heap := w.heap.setIfInBounds x o }
theorem wr_other {w : World} {x y : Nat} {o : Obj} (h : y ≠ x) : (wr w x o).heap[y]? = w.heap[y]? := by
  show (w.heap.setIfInBounds x o)[y]? = _
  rw [Array.getElem?_setIfInBounds, if_neg (fun e => h e.symm)]
theorem wr_same {w : World} {x : Nat} {o : Obj} (h : x < w.heap.size) : (wr w x o).heap[x]? = some o := by
  show (w.heap.setIfInBounds x o)[x]? = _
  rw [Array.getElem?_setIfInBounds, if_pos rfl, if_pos h]
theorem wr_size {w : World} {x : Nat} {o : Obj} : (wr w x o).heap.size = w.heap.size := Array.size_setIfInBounds

theorem withS_cases {A : Asg} {p : Path} {r : Ref} : ∀ q t, (A.withS p r).s q = some t → (q = p ∧ t = r) ∨ (q ≠ p ∧ A.s q = some t) := fun q t hq => by
  have hq : (if q = p then some r else A.s q) = some t := hq
  split at hq
  · cases hq; exact .inl ⟨‹_›, rfl⟩
  · exact .inr ⟨‹_›, hq⟩
theorem Inv.ghost {E : Ent} {A : Asg} {h : H} {w : World} (I : Inv E A h w) (b : Blk) : Inv E A (h.new b) w := by
  have hn := I.hr.none_next
  have hnum : num (inc h.next) = num h.next + 1 := num_inc _
  have hg : ∀ q c, get q (h.new b).t = some c → (q = h.next ∧ c = b) ∨ (q ≠ h.next ∧ get q h.t = some c) := fun q c hq => by
    have hq : get q (set h.next (some b) h.t) = some c := hq
    rw [get_set] at hq
    split at hq
    · cases hq; exact .inl ⟨‹_›, rfl⟩
    · exact .inr ⟨‹_›, hq⟩
  refine { hr := ?_, os := I.os, tape := I.tape, output := I.output, size := I.size, next := ?_, gen := I.gen, ext := I.ext, bext := I.bext, keep := I.keep, news := I.news, bnew := I.bnew, phan := ?_, rok := I.rok }
  · refine { fresh := ?_, live := ?_, bfresh := I.hr.bfresh, blk := ?_, sfresh := I.hr.sfresh, apart := ?_, binj := I.hr.binj, bs := I.hr.bs, old := ?_ }
    · intro p t hp
      show num p < num (inc h.next)
      have := I.hr.fresh p t hp; omega
    · intro p c hp
      show num p < num (inc h.next)
      rcases hg p c hp with ⟨rfl, _⟩ | ⟨_, h1⟩
      · omega
      · have := I.hr.live p c h1; omega
    · intro p c t hp ht
      rcases hg p c hp with ⟨rfl, _⟩ | ⟨_, h1⟩
      · rw [hn] at ht; cases ht
      · exact I.hr.blk p c t h1 ht
    · intro p q c c' t t' hpq hp hq hpt hqt hro
      rcases hg p c hp with ⟨rfl, _⟩ | ⟨_, h1⟩
      · rw [hn] at hpt; cases hpt
      · rcases hg q c' hq with ⟨rfl, _⟩ | ⟨_, h2⟩
        · rw [hn] at hqt; cases hqt
        · exact I.hr.apart p q c c' t t' hpq h1 h2 hpt hqt hro
    · intro p ho
      obtain ⟨r, b', h1, h2, h3⟩ := I.hr.old p ho
      refine ⟨r, b', h1, ?_, h3⟩
      show get p (set h.next (some b) h.t) = _
      rw [get_set_other _ _ _ _ (fun e => by subst e; rw [hn] at h1; cases h1)]
      exact h2
  · show num E.h.next ≤ num (inc h.next)
    have := I.next; omega
  · intro p hp hn'
    show get p (set h.next (some b) h.t) = _
    rw [get_set_other _ _ _ _ (fun e => by subst e; have := I.next; omega)]
    exact I.phan p hp hn'
theorem Inv.real {E : Ent} {A : Asg} {h : H} {w : World} (I : Inv E A h w) {p : Path} {b : Blk} {r : Ref} {o : Obj} (hp : get p h.t = some b) (hn : A.s p = none) (hge : num E.h.next ≤ num p) (hr : r.blk = w.heap.size)
    (hB : ObR (A.withS p r).s { w with heap := w.heap.push o } b r) : Inv E (A.withS p r) h { w with heap := w.heap.push o } := by
  have hm := withS_mono (r := r) hn
  have hsz : (w.heap.push o).size = w.heap.size + 1 := Array.size_push _
  refine { hr := ?_, os := I.os, tape := I.tape, output := I.output, size := ?_, next := I.next, gen := I.gen, ext := ?_, bext := I.bext, keep := ?_, news := ?_, bnew := I.bnew, phan := I.phan, rok := ?_ }
  · refine { fresh := ?_, live := I.hr.live, bfresh := ?_, blk := ?_, sfresh := ?_, apart := ?_, binj := I.hr.binj, bs := ?_, old := ?_ }
    · intro q t hq
      rcases withS_cases q t hq with ⟨rfl, _⟩ | ⟨_, h1⟩
      · exact I.hr.live _ _ hp
      · exact I.hr.fresh q t h1
    · intro g x hgx
      have := I.hr.bfresh g x hgx
      exact ⟨this.1, by show x < (w.heap.push o).size; omega⟩
    · intro q c t hq ht
      rcases withS_cases q t ht with ⟨rfl, rfl⟩ | ⟨_, h1⟩
      · rw [hp] at hq; cases hq; exact hB
      · exact (I.hr.blk q c t hq h1).pushed hm (heap_push (I.hr.sfresh q t h1))
    · intro q t hq
      show t.blk < (w.heap.push o).size
      rcases withS_cases q t hq with ⟨rfl, rfl⟩ | ⟨_, h1⟩
      · omega
      · have := I.hr.sfresh q t h1; omega
    · intro q q' c c' t t' hqq hq hq' ht ht' hro
      rcases withS_cases q t ht with ⟨rfl, rfl⟩ | ⟨_, h1⟩ <;> rcases withS_cases q' t' ht' with ⟨rfl, rfl⟩ | ⟨_, h2⟩
      · exact absurd rfl hqq
      · have := I.hr.sfresh q' t' h2; omega
      · have := I.hr.sfresh q t h1; omega
      · exact I.hr.apart q q' c c' t t' hqq hq hq' h1 h2 hro
    · intro g x q t hgx hqt
      rcases withS_cases q t hqt with ⟨rfl, rfl⟩ | ⟨_, h1⟩
      · have := (I.hr.bfresh g x hgx).2; omega
      · exact I.hr.bs g x q t hgx h1
    · intro q ho
      obtain ⟨t, c, h1, h2, h3⟩ := I.hr.old q ho
      exact ⟨t, c, hm q t h1, h2, h3⟩
  · show E.w.heap.size ≤ (w.heap.push o).size
    have := I.size; omega
  · intro q hq
    rw [← I.ext q hq]
    show (if q = p then some r else A.s q) = A.s q
    rw [if_neg (fun e => by subst e; omega)]
  · intro x hx hk
    exact (heap_push (Nat.lt_of_lt_of_le hx I.size)).trans (I.keep x hx hk)
  · intro q t hq
    rcases withS_cases q t hq with ⟨rfl, rfl⟩ | ⟨_, h1⟩
    · exact .inl (by have := I.size; omega)
    · exact I.news q t h1
  · intro q t ho hs
    obtain ⟨h1, h2, h3⟩ := I.rok q t ho hs
    exact ⟨hm q t h1, h2, (heap_push (I.hr.sfresh q t h1)).trans h3⟩
theorem get_new {h : H} {b : Blk} : get h.next (h.new b).t = some b := by
  show get h.next (set h.next (some b) h.t) = some b
  rw [get_set, if_pos rfl]
theorem Inv.alloc {E : Ent} {A : Asg} {h : H} {w : World} (I : Inv E A h w) {b : Blk} {r : Ref} {o : Obj} (hr : r.blk = w.heap.size)
    (hB : ObR (A.withS h.next r).s { w with heap := w.heap.push o } b r) : Inv E (A.withS h.next r) (h.new b) { w with heap := w.heap.push o } :=
  (I.ghost b).real get_new I.hr.none_next I.next hr hB
theorem Inv.drop {E : Ent} {A : Asg} {h : H} {w : World} (I : Inv E A h w) {p : Path} {r : Ref} (hs : A.s p = some r) (hrw : ∀ b, get p h.t = some b → b.ro = false) : Inv E A (h.put p none) w := by
  have hg : ∀ q c, get q (h.put p none).t = some c → q ≠ p ∧ get q h.t = some c := fun q c hq => by
    have hq : get q (set p none h.t) = some c := hq
    rw [get_set] at hq
    split at hq
    · cases hq
    · exact ⟨‹_›, hq⟩
  refine { hr := ?_, os := I.os, tape := I.tape, output := I.output, size := I.size, next := I.next, gen := I.gen, ext := I.ext, bext := I.bext, keep := I.keep, news := I.news, bnew := I.bnew, phan := ?_, rok := I.rok }
  · exact { fresh := I.hr.fresh, live := fun q c hq => I.hr.live q c (hg q c hq).2, bfresh := I.hr.bfresh, blk := fun q c t hq => I.hr.blk q c t (hg q c hq).2, sfresh := I.hr.sfresh,
            apart := fun q q' c c' t t' hqq hq hq' => I.hr.apart q q' c c' t t' hqq (hg q c hq).2 (hg q' c' hq').2, binj := I.hr.binj, bs := I.hr.bs,
            old := fun q ho => by
              obtain ⟨t, c, h1, h2, h3⟩ := I.hr.old q ho
              refine ⟨t, c, h1, ?_, h3⟩
              show get q (set p none h.t) = _
              rw [get_set_other _ _ _ _ (fun e => by subst e; have := hrw _ h2; rw [h3] at this; cases this)]
              exact h2 }
  · intro q hq hn
    show get q (set p none h.t) = _
    rw [get_set_other _ _ _ _ (fun e => by subst e; have := I.ext q hq; rw [hn, hs] at this; cases this)]
    exact I.phan q hq hn
theorem Inv.grow {E : Ent} {A : Asg} {h : H} {w : World} (I : Inv E A h w) {p : Path} {b b' : Blk} {r r' : Ref} {o : Obj} (hp : get p h.t = some b) (hs : A.s p = some r) (hro : b.ro = false) (hblk : r'.blk = r.blk)
    (hB : ObR (A.withS h.next r').s (wr w r.blk o) b' r') : Inv E (A.withS h.next r') ((h.put p none).new b') (wr w r.blk o) := by
  have hn := I.hr.none_next
  have hm := withS_mono (r := r') hn
  have hnum : num (inc h.next) = num h.next + 1 := num_inc _
  have hg : ∀ q c, get q ((h.put p none).new b').t = some c → (q = h.next ∧ c = b') ∨ (q ≠ h.next ∧ q ≠ p ∧ get q h.t = some c) := fun q c hq => by
    have hq : get q (set h.next (some b') (set p none h.t)) = some c := hq
    rw [get_set] at hq
    split at hq
    · cases hq; exact .inl ⟨‹_›, rfl⟩
    · rw [get_set] at hq
      split at hq
      · cases hq
      · exact .inr ⟨‹_›, ‹_›, hq⟩
  refine { hr := ?_, os := I.os, tape := I.tape, output := I.output, size := ?_, next := ?_, gen := I.gen, ext := ?_, bext := I.bext, keep := ?_, news := ?_, bnew := I.bnew, phan := ?_, rok := ?_ }
  · refine { fresh := ?_, live := ?_, bfresh := ?_, blk := ?_, sfresh := ?_, apart := ?_, binj := I.hr.binj, bs := ?_, old := ?_ }
    · intro q t hq
      show num q < num (inc h.next)
      rcases withS_cases q t hq with ⟨rfl, _⟩ | ⟨_, h1⟩
      · omega
      · have := I.hr.fresh q t h1; omega
    · intro q c hq
      show num q < num (inc h.next)
      rcases hg q c hq with ⟨rfl, _⟩ | ⟨_, _, h1⟩
      · omega
      · have := I.hr.live q c h1; omega
    · intro g x hgx
      rw [wr_size]; exact I.hr.bfresh g x hgx
    · intro q c t hq ht
      rcases hg q c hq with ⟨rfl, rfl⟩ | ⟨h0, h1, h2⟩
      · rcases withS_cases _ t ht with ⟨_, rfl⟩ | ⟨h3, _⟩
        · exact hB
        · exact absurd rfl h3
      · rcases withS_cases q t ht with ⟨e, _⟩ | ⟨_, h3⟩
        · exact absurd e h0
        · exact (I.hr.blk q c t h2 h3).pushed hm (wr_other (fun e => I.hr.apart p q b c r t (fun e' => h1 e'.symm) hp h2 hs h3 hro e.symm))
    · intro q t hq
      rw [wr_size]
      rcases withS_cases q t hq with ⟨rfl, rfl⟩ | ⟨_, h1⟩
      · rw [hblk]; exact I.hr.sfresh p r hs
      · exact I.hr.sfresh q t h1
    · intro q q' c c' t t' hqq hq hq' ht ht' hc
      rcases hg q c hq with ⟨rfl, rfl⟩ | ⟨h0, h1, h2⟩ <;> rcases hg q' c' hq' with ⟨rfl, rfl⟩ | ⟨h3, h4, h5⟩
      · exact absurd rfl hqq
      · rcases withS_cases _ t ht with ⟨_, rfl⟩ | ⟨e, _⟩
        · rcases withS_cases _ t' ht' with ⟨e, _⟩ | ⟨_, h6⟩
          · exact absurd e h3
          · rw [hblk]; exact I.hr.apart p q' b c' r t' (fun e' => h4 e'.symm) hp h5 hs h6 hro
        · exact absurd rfl e
      · rcases withS_cases _ t' ht' with ⟨_, rfl⟩ | ⟨e, _⟩
        · rcases withS_cases _ t ht with ⟨e, _⟩ | ⟨_, h6⟩
          · exact absurd e h0
          · rw [hblk]; exact fun e => I.hr.apart p q b c r t (fun e' => h1 e'.symm) hp h2 hs h6 hro e.symm
        · exact absurd rfl e
      · rcases withS_cases _ t ht with ⟨e, _⟩ | ⟨_, h6⟩
        · exact absurd e h0
        · rcases withS_cases _ t' ht' with ⟨e, _⟩ | ⟨_, h7⟩
          · exact absurd e h3
          · exact I.hr.apart q q' c c' t t' hqq h2 h5 h6 h7 hc
    · intro g x q t hgx hqt
      rcases withS_cases q t hqt with ⟨rfl, rfl⟩ | ⟨_, h1⟩
      · rw [hblk]; exact I.hr.bs g x p r hgx hs
      · exact I.hr.bs g x q t hgx h1
    · intro q ho
      obtain ⟨t, c, h1, h2, h3⟩ := I.hr.old q ho
      refine ⟨t, c, hm q t h1, ?_, h3⟩
      show get q (set h.next (some b') (set p none h.t)) = _
      rw [get_set_other _ _ _ _ (fun e => by subst e; rw [hn] at h1; cases h1), get_set_other _ _ _ _ (fun e => by subst e; rw [hp] at h2; cases h2; rw [hro] at h3; cases h3)]
      exact h2
  · rw [wr_size]; exact I.size
  · show num E.h.next ≤ num (inc h.next)
    have := I.next; omega
  · intro q hq
    rw [← I.ext q hq]
    show (if q = h.next then some r' else A.s q) = A.s q
    rw [if_neg (fun e => by subst e; have := I.next; omega)]
  · intro x hx hk
    refine (wr_other fun e => ?_).trans (I.keep x hx hk)
    rcases I.news p r hs with h1 | ⟨q, t, hq, ht, _⟩
    · omega
    · exact hk q t hq (ht.trans e.symm)
  · intro q t hq
    rcases withS_cases q t hq with ⟨rfl, rfl⟩ | ⟨_, h1⟩
    · rw [hblk]
      rcases I.news p r hs with h1 | ⟨q, t, hq, ht, ho⟩
      · exact .inl h1
      · refine .inr ⟨q, t, hq, ht, fun e => ?_⟩
        obtain ⟨_, c, _, h2, h3⟩ := I.hr.old p (ho e)
        rw [hp] at h2; cases h2; rw [hro] at h3; cases h3
    · exact I.news q t h1
  · intro q hq hn'
    show get q (set h.next (some b') (set p none h.t)) = _
    rw [get_set_other _ _ _ _ (fun e => by subst e; have := I.next; omega), get_set_other _ _ _ _ (fun e => by subst e; have := I.ext q hq; rw [hn', hs] at this; cases this)]
    exact I.phan q hq hn'
  · intro q t ho hs'
    obtain ⟨h1, h2, h3⟩ := I.rok q t ho hs'
    obtain ⟨_, c, _, h5, h6⟩ := I.hr.old q h2
    have hne : q ≠ p := fun e => by subst e; rw [hp] at h5; cases h5; rw [hro] at h6; cases h6
    exact ⟨hm q t h1, h2, (wr_other fun e => I.hr.apart p q b c r t (fun e' => hne e'.symm) hp h5 hs h1 hro e.symm).trans h3⟩

theorem Inv.write {E : Ent} {A : Asg} {h : H} {w : World} (I : Inv E A h w) {p : Path} {b b' : Blk} {r : Ref} {o : Obj} (hp : get p h.t = some b) (hs : A.s p = some r) (hro : b.ro = false) (hro' : b'.ro = false)
    (hB : ObR A.s (wr w r.blk o) b' r) : Inv E A (h.put p (some b')) (wr w r.blk o) := by
  have hg : ∀ q c, get q (h.put p (some b')).t = some c → (q = p ∧ c = b') ∨ (q ≠ p ∧ get q h.t = some c) := fun q c hq => by
    have hq : get q (set p (some b') h.t) = some c := hq
    rw [get_set] at hq
    split at hq
    · cases hq; exact .inl ⟨‹_›, rfl⟩
    · exact .inr ⟨‹_›, hq⟩
  refine { hr := ?_, os := I.os, tape := I.tape, output := I.output, size := ?_, next := I.next, gen := I.gen, ext := I.ext, bext := I.bext, keep := ?_, news := I.news, bnew := I.bnew, phan := ?_, rok := ?_ }
  · refine { fresh := I.hr.fresh, live := ?_, bfresh := ?_, blk := ?_, sfresh := ?_, apart := ?_, binj := I.hr.binj, bs := I.hr.bs, old := ?_ }
    · intro q c hq
      rcases hg q c hq with ⟨rfl, _⟩ | ⟨_, h1⟩
      · exact I.hr.live _ _ hp
      · exact I.hr.live _ _ h1
    · intro g x hgx
      rw [wr_size]; exact I.hr.bfresh g x hgx
    · intro q c t hq ht
      rcases hg q c hq with ⟨rfl, rfl⟩ | ⟨h0, h1⟩
      · rw [hs] at ht; cases ht; exact hB
      · exact (I.hr.blk q c t h1 ht).pushed (fun _ _ e => e) (wr_other (fun e => I.hr.apart p q b c r t (fun e' => h0 e'.symm) hp h1 hs ht hro e.symm))
    · intro q t hq
      rw [wr_size]; exact I.hr.sfresh q t hq
    · intro q q' c c' t t' hqq hq hq' ht ht' hc
      rcases hg q c hq with ⟨rfl, rfl⟩ | ⟨h0, h1⟩ <;> rcases hg q' c' hq' with ⟨rfl, rfl⟩ | ⟨h2, h3⟩
      · exact absurd rfl hqq
      · exact I.hr.apart _ _ b c' t t' hqq hp h3 ht ht' hro
      · exact I.hr.apart _ _ c b t t' hqq h1 hp ht ht' hc
      · exact I.hr.apart _ _ c c' t t' hqq h1 h3 ht ht' hc
    · intro q ho
      obtain ⟨t, c, h1, h2, h3⟩ := I.hr.old q ho
      refine ⟨t, c, h1, ?_, h3⟩
      show get q (set p (some b') h.t) = _
      rw [get_set_other _ _ _ _ (fun e => by subst e; rw [hp] at h2; cases h2; rw [hro] at h3; cases h3)]
      exact h2
  · rw [wr_size]; exact I.size
  · intro x hx hk
    refine (wr_other fun e => ?_).trans (I.keep x hx hk)
    rcases I.news p r hs with h1 | ⟨q, t, hq, ht, _⟩
    · omega
    · exact hk q t hq (ht.trans e.symm)
  · intro q hq hn
    show get q (set p (some b') h.t) = _
    rw [get_set_other _ _ _ _ (fun e => by subst e; have := I.ext q hq; rw [hn, hs] at this; cases this)]
    exact I.phan q hq hn
  · intro q t ho hs'
    obtain ⟨h1, h2, h3⟩ := I.rok q t ho hs'
    obtain ⟨_, c, _, h5, h6⟩ := I.hr.old q h2
    have hne : q ≠ p := fun e => by subst e; rw [hp] at h5; cases h5; rw [hro] at h6; cases h6
    exact ⟨h1, h2, (wr_other fun e => I.hr.apart p q b c r t (fun e' => hne e'.symm) hp h5 hs h1 hro e.symm).trans h3⟩

theorem FrR.wrote {A : Asg} {h : H} {w : World} {n : Nat} {ok : Path → Prop} {fr : FT} {tmps : Array Value} (F : FrR A n ok fr tmps w) (hr : HR A h w) {p : Path} {r : Ref} {o : Obj} (hs : A.s p = some r) : FrR A n ok fr tmps (wr w r.blk o) :=
  F.pushed (fun _ _ e => e) (fun _ _ e => e) (fun g x hg => wr_other (fun e => hr.bs g x p r hg hs e.symm))

theorem Inv.writeB {E : Ent} {A : Asg} {h : H} {w : World} (I : Inv E A h w) {g x : Nat} {o : Obj} (hg : A.b g = some x) (hge : E.h.gen ≤ g) : Inv E A h (wr w x o) := by
  refine { hr := ?_, os := I.os, tape := I.tape, output := I.output, size := ?_, next := I.next, gen := I.gen, ext := I.ext, bext := I.bext, keep := ?_, news := I.news, bnew := I.bnew, phan := I.phan, rok := ?_ }
  · refine { fresh := I.hr.fresh, live := I.hr.live, bfresh := ?_, blk := ?_, sfresh := ?_, apart := I.hr.apart, binj := I.hr.binj, bs := I.hr.bs, old := I.hr.old }
    · intro g x hgx
      rw [wr_size]; exact I.hr.bfresh g x hgx
    · intro q c t hq ht
      exact (I.hr.blk q c t hq ht).pushed (fun _ _ e => e) (wr_other (I.hr.bs g x q t hg ht))
    · intro q t hq
      rw [wr_size]; exact I.hr.sfresh q t hq
  · rw [wr_size]; exact I.size
  · intro y hy hk
    exact (wr_other (fun e => by have := I.bnew g x hge hg; omega)).trans (I.keep y hy hk)
  · intro q t ho hs'
    obtain ⟨h1, h2, h3⟩ := I.rok q t ho hs'
    exact ⟨h1, h2, (wr_other (I.hr.bs g x q t hg h1)).trans h3⟩

theorem FrR.wroteB {A : Asg} {h : H} {w : World} {n : Nat} {ok : Path → Prop} {fr : FT} {tmps : Array Value} (F : FrR A n ok fr tmps w) (hr : HR A h w) {p : Path} {g x : Nat} {l l' : List AV} {cs : Array Value} {T : TypeId}
    (hp : get p fr = some (.box g l)) (hg : A.b g = some x) (hl : VRs A.s l' cs.toList) (hsc : l'.all sc = true) : FrR A n ok (set p (some (.box g l')) fr) tmps (wr w x (.cells cs T (0, 0))) where
  size := F.size
  bok := fun q g' l1 h => by
    rw [get_set] at h
    split at h
    · rename_i e; rw [e]; exact F.bok p g l hp
    · exact F.bok q g' l1 h
  once := fun q q' g1 l1 l2 h1 h2 => by
    rw [get_set] at h1 h2
    split at h1 <;> split at h2
    · rename_i e1 e2; rw [e1, e2]
    · rename_i e1 e2; cases h1; exact e1.trans (F.once p q' g _ _ hp h2)
    · rename_i e1 e2; cases h2; exact (F.once q p g _ _ h1 hp).trans e2.symm
    · exact F.once q q' g1 l1 l2 h1 h2
  slot := fun t s hk hs => by
    rw [get_set] at hs
    split at hs
    · rename_i e
      cases hs
      have hx := (hr.bfresh g x hg).2
      have H := F.slot t _ hk (e ▸ hp)
      obtain ⟨blk, h1, h2, _⟩ := H
      rw [hg] at h1
      cases h1
      exact ⟨x, hg, h2, cs, T, wr_same hx, hl, hsc⟩
    · rename_i e
      have H := F.slot t s hk hs
      cases s with
      | v a => exact H
      | und => exact H
      | box g' l1 =>
        obtain ⟨blk, h1, h2, cs1, T1, h3, h4, h5⟩ := H
        refine ⟨blk, h1, h2, cs1, T1, (wr_other (fun e' => ?_)).trans h3, h4, h5⟩
        subst e'
        have := hr.binj g g' blk hg h1
        subst this
        exact e (F.once _ _ g _ _ hs hp)
      | lp d g' o => exact H

theorem FrR.putB {A : Asg} {h : H} {w : World} {n : Nat} {ok : Path → Prop} {fr : FT} {tmps : Array Value} (F : FrR A n ok fr tmps w) (hr : HR A h w) {d : Nat} (hd : d < n) (hk : ok (pathOf d)) {l : List AV} {cs : Array Value} {T : TypeId}
    (hl : VRs A.s l cs.toList) (hsc : l.all sc = true) :
    FrR (A.withB h.gen w.heap.size) n ok (set (pathOf d) (some (.box h.gen l)) fr) (tmps.setIfInBounds d (.pointer (some ⟨w.heap.size, 0, none⟩))) { w with heap := w.heap.push (.cells cs T (0, 0)) } := by
  have hb : ∀ g x, A.b g = some x → (A.withB h.gen w.heap.size).b g = some x := fun g x hg => by
    show (if g = h.gen then some w.heap.size else A.b g) = some x
    rw [if_neg (fun e => by have := (hr.bfresh g x hg).1; omega)]
    exact hg
  have F' := F.pushed (A' := A.withB h.gen w.heap.size) (w' := { w with heap := w.heap.push (.cells cs T (0, 0)) }) (fun _ _ e => e) hb (fun g x hg => heap_push (hr.bfresh g x hg).2)
  have hold : ∀ q l1, get q fr ≠ some (.box h.gen l1) := fun q l1 hq => by
    have e : pathOf (num q) = q := num_inj (num_pathOf _)
    obtain ⟨blk, h1, _⟩ := F.slot (num q) _ (e.symm ▸ F.bok q _ _ hq) (e.symm ▸ hq)
    exact absurd (hr.bfresh _ _ h1).1 (Nat.lt_irrefl _)
  refine ⟨by rw [Array.size_setIfInBounds]; exact F.size, fun t s hkt hs => ?_, fun p g l h1 => ?_, fun p q g l1 l2 h1 h2 => ?_⟩
  · rw [getD_setIfInBounds (Nat.lt_of_lt_of_le hd F.size)]
    rw [get_set] at hs
    by_cases e : t = d
    · subst e
      rw [if_pos rfl] at hs ⊢
      cases hs
      refine ⟨w.heap.size, ?_, rfl, cs, T, ?_, hl, hsc⟩
      · show (if h.gen = h.gen then some w.heap.size else A.b h.gen) = some w.heap.size
        rw [if_pos rfl]
      · show (w.heap.push _)[w.heap.size]? = _
        rw [Array.getElem?_push, if_pos rfl]
    · rw [if_neg (fun e' => e (pathOf_inj e'))] at hs
      rw [if_neg e]
      exact F'.slot t s hkt hs
  · rw [get_set] at h1
    split at h1
    · rename_i e; rw [e]; exact hk
    · exact F.bok p g l h1
  · rw [get_set] at h1 h2
    split at h1 <;> split at h2
    · rename_i e1 e2; rw [e1, e2]
    · cases h1; exact absurd h2 (hold _ _)
    · cases h2; exact absurd h1 (hold _ _)
    · exact F.once p q g l1 l2 h1 h2
end Go.Ev
namespace Go.Ev
set_option linter.unusedSectionVars false
variable [Unk]
variable {P : Program} {A : Asg} {n : Nat} {ok : Path → Prop} {fr : FT} {act : Act} {w : World} {h : H}

def OkO (ok : Path → Prop) (x : Operand) : Prop := ∀ t, x = .tmp t → ok (pathOf t)
theorem gv_VR (F : FrR A n ok fr act.tmps w) {x : Operand} (hx : OkO ok x) {a : AV} (hg : gv (rd x) fr = some a) : VR A.s a (act.eval x) := by
  cases x with
  | tmp t =>
    simp only [rd, gv] at hg
    split at hg
    · rename_i a' hs
      cases hg
      exact F.slot t _ (hx t rfl) hs
    · cases hg
  | const v =>
    simp only [rd] at hg
    split at hg
    · rename_i a' ha
      cases hg
      exact ofValue_VR ha
    · simp [gv] at hg
  | func f =>
    simp only [rd, gv] at hg
    cases hg
    exact ⟨#[], #[], rfl, .nil, .nil⟩
  | global g => simp [rd, gv] at hg
theorem gvs_VR (F : FrR A n ok fr act.tmps w) : ∀ {xs : List Operand}, (∀ x ∈ xs, OkO ok x) → ∀ {l : List AV}, gvs (xs.map rd) fr = some l → VRs A.s l (xs.map act.eval)
  | [], _, l, hg => by simp [gvs] at hg; subst hg; exact .nil
  | x :: xs, hx, l, hg => by
    simp only [List.map_cons, gvs] at hg
    split at hg
    · rename_i a ha
      split at hg
      · rename_i r hr
        cases hg
        exact .cons (gv_VR F (hx x (by simp)) ha) (gvs_VR F (fun y hy => hx y (by simp [hy])) hr)
      · cases hg
    · cases hg
theorem pathOf_num (p : Path) : pathOf (num p) = p := num_inj (num_pathOf _)

def PlR (A : Asg) (x : Value) : Place → Prop
  | .loc _ g o => ∃ blk, A.b g = some blk ∧ x = .pointer (some ⟨blk, o, none⟩)
  | .mem b o => ∃ r, A.s b = some r ∧ x = .pointer (some ⟨r.blk, r.off + o, none⟩)
theorem place_R (F : FrR A n ok fr act.tmps w) {x : Operand} (hx : OkO ok x) {p : Place} (hg : place (rd x) fr = some p) : PlR A (act.eval x) p := by
  cases x with
  | tmp t =>
    simp only [rd, place] at hg
    split at hg
    · rename_i b o hs
      cases hg
      exact F.slot t _ (hx t rfl) hs
    · rename_i g l hs
      cases hg
      obtain ⟨blk, h1, h2, _⟩ := F.slot t _ (hx t rfl) hs
      exact ⟨blk, h1, h2⟩
    · rename_i d g o hs
      cases hg
      exact F.slot t _ (hx t rfl) hs
    · cases hg
  | const v =>
    simp only [rd] at hg
    split at hg <;> simp [place] at hg
  | func f => simp [rd, place] at hg
  | global g => simp [rd, place] at hg

theorem cut_eq {off m : Nat} {l r : List AV} (e : cut off m l = some r) : off + m ≤ l.length ∧ r = (l.drop off).take m := by
  unfold cut at e
  split at e
  · rename_i hb; cases e; exact ⟨Nat.le_of_ble_eq_true hb, rfl⟩
  · cases e
theorem all_drop {l : List AV} (hs : l.all sc = true) (k : Nat) : (l.drop k).all sc = true := by
  rw [List.all_eq_true] at *; exact fun x hx => hs x (List.mem_of_mem_drop hx)
theorem all_take {l : List AV} (hs : l.all sc = true) (k : Nat) : (l.take k).all sc = true := by
  rw [List.all_eq_true] at *; exact fun x hx => hs x (List.mem_of_mem_take hx)

theorem add_none (b o j : Nat) : (⟨b, o, none⟩ : Addr).add j = ⟨b, o + j, none⟩ := by unfold Addr.add; split <;> simp_all

theorem loadAt_R (F : FrR A n ok fr act.tmps w) (hr : HR A h w) {x : Value} {p : Place} (hp : PlR A x p) {m : Nat} {l : List AV} (hl : loadAt fr h p m = some l) :
    l.length = m ∧ l.all sc = true ∧ ∃ a xs, x = .pointer (some a) ∧ VRs A.s l xs ∧ ∀ j v, xs[j]? = some v → w.cell? (a.add j) = some v := by
  cases p with
  | loc d g o =>
    simp only [loadAt] at hl
    split at hl
    · rename_i g' l0 hs
      split at hl
      · rename_i hb
        have hb := Nat.eq_of_beq_eq_true hb
        subst hb
        obtain ⟨h1, rfl⟩ := cut_eq hl
        obtain ⟨blk, e1, e2⟩ := hp
        have H := F.slot (num d) _ (by rw [pathOf_num]; exact F.bok d _ _ hs) (by rw [pathOf_num]; exact hs)
        obtain ⟨blk', e3, _, cs, T, e4, e5, e6⟩ := H
        rw [e1] at e3; cases e3
        refine ⟨by simp; omega, all_take (all_drop e6 o) m, ⟨blk, o, none⟩, (cs.toList.drop o).take m, e2, (e5.drop o).take m, ?_⟩
        intro j v hv
        rw [add_none, cell_of_row w blk (o + j) cs T _ e4]
        rw [List.getElem?_take] at hv
        split at hv
        · rw [List.getElem?_drop] at hv; simpa using hv
        · cases hv
      · cases hl
    · cases hl
  | mem b o =>
    simp only [loadAt] at hl
    split at hl
    · rename_i k hk
      split at hl
      · rename_i row hrow
        obtain ⟨h1, rfl⟩ := cut_eq hl
        obtain ⟨r, e1, e2⟩ := hp
        have B := (hr.blk b k r (getC_eq hk).1 e1).blk (getC_eq hk).2
        obtain ⟨cs, T, fz, e3, _, _, e4⟩ := B.cells
        obtain ⟨e5, e6, e7⟩ := e4 _ _ hrow
        have hlen : ((row.drop (o % k.k)).take m).length = m := by simp; omega
        have hmod : o = o / k.k * k.k + o % k.k := by rw [Nat.mul_comm]; exact (Nat.div_add_mod o k.k).symm
        -- the values that lie there
        have hx : ∀ i, i < m → ∃ v, w.cell? ⟨r.blk, r.off + o + i, none⟩ = some v ∧ ∀ a, ((row.drop (o % k.k)).take m)[i]? = some a → VR A.s a v := by
          intro i hi
          have hi' : o % k.k + i < row.length := by omega
          obtain ⟨v, hv, hvr⟩ := e7 (o % k.k + i) _ (List.getElem?_eq_getElem hi')
          have e8 : r.off + o / k.k * r.k + (o % k.k + i) = r.off + o + i := by rw [B.k]; omega
          rw [e8] at hv
          refine ⟨v, by rw [cell_of_row w r.blk _ cs T fz e3]; exact hv, fun a ha => ?_⟩
          rw [List.getElem?_take, if_pos hi, List.getElem?_drop, List.getElem?_eq_getElem hi'] at ha
          cases ha; exact hvr
        refine ⟨hlen, all_take (all_drop e6 _) m, ⟨r.blk, r.off + o, none⟩, (List.range m).map (fun i => (w.cell? ⟨r.blk, r.off + o + i, none⟩).getD undef), e2, ?_, ?_⟩
        · refine VRs.iff.2 ⟨by simp; omega, fun i a v ha hv => ?_⟩
          have hi : i < m := by rcases Nat.lt_or_ge i m with h | h; exact h; rw [List.getElem?_eq_none (by omega)] at ha; cases ha
          obtain ⟨v', h1, h2⟩ := hx i hi
          simp [hi, h1] at hv
          subst hv
          exact h2 a ha
        · intro j v hv
          rw [add_none]
          have hj : j < m := by rcases Nat.lt_or_ge j m with h | h; exact h; rw [List.getElem?_eq_none (by simp; omega)] at hv; cases hv
          obtain ⟨v', h1, h2⟩ := hx j hj
          simp [hj, h1] at hv
          subst hv; exact h1
      · cases hl
    · cases hl

theorem val_R {s : Path → Option Ref} {g : Bool} {l : List AV} {a : AV} (hv : val g l = some a) {xs : List Value} (hl : VRs s l xs) (hs : l.all sc = true) :
    (g = true ∧ a = .agg l ∧ VR s a (.agg xs.toArray)) ∨ (g = false ∧ ∃ x, l = [a] ∧ xs = [x] ∧ VR s a x) := by
  unfold val at hv
  split at hv
  · cases hv; exact .inl ⟨rfl, rfl, xs.toArray, rfl, hl, hs⟩
  · split at hv
    · cases hv
      obtain ⟨y, ys, rfl, h1, h2⟩ := hl
      simp only [VRs] at h2; subst h2
      exact .inr ⟨rfl, y, rfl, rfl, h1⟩
    · cases hv

theorem run_isAgg {t : TypeId} {g : Bool} (hg : isAggT P t = some g) (w : World) : (isAgg t).run P w = .ok g w := by
  unfold isAggT at hg
  unfold isAgg
  split at hg <;> first | cases hg | skip
  all_goals (rename_i hu; simp [run_underlying hu])
theorem run_size {t : TypeId} {m : Nat} (hm : sizeT P t = some m) (w : World) : (sizeOf t).run P w = .ok m w := by
  unfold sizeT at hm
  split at hm
  · rename_i i hi; cases hm; simp [sizeOf, typeInfo, hi]
  · cases hm

theorem patch_eq {off : Nat} {x l r : List AV} (e : patch off x l = some r) : off + x.length ≤ l.length ∧ r = l.take off ++ (x ++ l.drop (off + x.length)) := by
  unfold patch at e
  split at e
  · rename_i hb; cases e; exact ⟨Nat.le_of_ble_eq_true hb, rfl⟩
  · cases e
theorem foldl_put (off : Nat) : ∀ (vs : List Value) (j : Nat) (cells : Array Value), off + j + vs.length ≤ cells.size →
    ((vs.zipIdx j).foldl (fun cs (x : Value × Nat) => cs.setIfInBounds (off + x.2) x.1) cells).toList = cells.toList.take (off + j) ++ vs ++ cells.toList.drop (off + j + vs.length)
  | [], j, cells, _ => by simp
  | v :: vs, j, cells, hl => by
    simp only [List.length_cons] at hl
    rw [List.zipIdx_cons, List.foldl_cons, foldl_put off vs (j + 1) _ (by simp; omega)]
    have := list_seg_step cells.toList (off + j) v vs (by simp; omega)
    simp only [Array.toList_setIfInBounds, List.length_cons]
    rw [show off + (j + 1) = off + j + 1 by omega]
    exact this
theorem patch_VRs {s : Path → Option Ref} {off : Nat} {x l r : List AV} (e : patch off x l = some r) {vs ls : List Value} (hx : VRs s x vs) (hl : VRs s l ls) :
    VRs s r (ls.take off ++ vs ++ ls.drop (off + vs.length)) := by
  obtain ⟨_, rfl⟩ := patch_eq e
  rw [hx.length, List.append_assoc]
  exact VRs.append (hl.take off) (VRs.append hx (hl.drop _))
theorem all_append {l r : List AV} (h1 : l.all sc = true) (h2 : r.all sc = true) : (l ++ r).all sc = true := by rw [List.all_append, h1, h2]; rfl
theorem patch_all {off : Nat} {x l r : List AV} (e : patch off x l = some r) (hx : x.all sc = true) (hl : l.all sc = true) : r.all sc = true := by
  obtain ⟨_, rfl⟩ := patch_eq e
  exact all_append (all_take hl _) (all_append hx (all_drop hl _))

theorem fill_R (F : FrR A n ok fr act.tmps w) (place : Nat → Option (Nat × Nat)) : ∀ (ps : List (Nat × Operand)) (qs : List (Nat × Nat × Rd)),
    (ps.length = qs.length ∧ ∀ (i : Nat) p q, ps[i]? = some p → qs[i]? = some q → place p.1 = some (q.1, q.2.1) ∧ q.2.2 = rd p.2) → (∀ x ∈ ps.map (·.2), OkO ok x) →
    ∀ (z l : List AV) (cs : Array Value), Go.Ev.fill qs fr z = some l → VRs A.s z cs.toList → z.all sc = true →
    ∃ cs', Instr.fill place cs (ps.map fun x => (x.1, act.eval x.2)) = some cs' ∧ VRs A.s l cs'.toList ∧ l.all sc = true
  | [], [], _, _, z, l, cs, hf, hz, hs => by simp only [Go.Ev.fill] at hf; cases hf; exact ⟨cs, rfl, hz, hs⟩
  | [], _ :: _, hq, _, _, _, _, _, _, _ => by simp at hq
  | _ :: _, [], hq, _, _, _, _, _, _, _ => by simp at hq
  | (i, x) :: ps, (off, m, r) :: qs, hq, hk, z, l, cs, hf, hz, hs => by
    obtain ⟨h1, h2⟩ := hq.2 0 _ _ rfl rfl
    simp only at h1 h2
    subst h2
    simp only [Go.Ev.fill] at hf
    split at hf
    · rename_i a ha
      split at hf
      · rename_i c hca
        split at hf
        · rename_i hm
          have hm := Nat.eq_of_beq_eq_true hm
          split at hf
          · rename_i z' hz'
            obtain ⟨hc, hcs⟩ := (gv_VR F (hk x (by simp)) ha).cells hca
            have hlen := hc.length
            obtain ⟨hb, _⟩ := patch_eq hz'
            have hzl := hz.length
            have hfold := foldl_put off (act.eval x).cells.toList 0 cs (by simp at hlen hzl ⊢; omega)
            have hcells : ((act.eval x).cells.zipIdx.foldl (fun cs (c : Value × Nat) => cs.setIfInBounds (off + c.2) c.1) cs).toList = cs.toList.take off ++ (act.eval x).cells.toList ++ cs.toList.drop (off + (act.eval x).cells.toList.length) := by
              rw [← Array.foldl_toList, Array.toList_zipIdx]
              simpa using hfold
            obtain ⟨cs', e1, e2, e3⟩ := fill_R F place ps qs ⟨by simpa using hq.1, fun j p q hp hq' => hq.2 (j + 1) p q (by simpa using hp) (by simpa using hq')⟩ (fun y hy => hk y (by simp at hy ⊢; exact .inr hy)) z' l
              ((act.eval x).cells.zipIdx.foldl (fun cs (c : Value × Nat) => cs.setIfInBounds (off + c.2) c.1) cs) hf (by rw [hcells]; exact patch_VRs hz' hc hz) (patch_all hz' hcs hs)
            refine ⟨cs', ?_, e2, e3⟩
            simp only [List.map_cons, Instr.fill, h1]
            rw [if_neg (by simp at hlen hzl ⊢; omega)]
            exact e1
          · cases hf
        · cases hf
      · cases hf
    · cases hf
end Go.Ev
namespace Go.Ev
set_option linter.unusedSectionVars false
variable [Unk]
variable {P : Program} {A : Asg} {n : Nat} {ok : Path → Prop} {fr : FT} {act : Act} {w : World} {h : H}

def Does (P : Program) (A : Asg) (act : Act) (w : World) (o : Oper) (s : Sl) : Prop :=
  ∃ v, (execOp act.eval o).run P w = .ok (.value v) w ∧ SlR A w s v ∧ ∀ g l, s ≠ .box g l
theorem Does.v {o : Oper} {a : AV} {v : Value} (h1 : (execOp act.eval o).run P w = .ok (.value v) w) (h2 : VR A.s a v) : Does P A act w o (.v a) :=
  ⟨v, h1, h2, fun _ _ => by simp⟩
theorem retV_some {r : Option AV} {s : Sl} (e : retV r = some s) : ∃ a, r = some a ∧ s = .v a := by
  unfold retV at e
  split at e
  · cases e; exact ⟨_, rfl, rfl⟩
  · cases e
theorem natOf_int {a : AV} {m : Nat} (e : natOf a = some m) : ∃ k, a = .int k (.ofNat m) := by
  unfold natOf at e
  split at e
  · cases e; exact ⟨_, rfl⟩
  · cases e
theorem elemT_eq {t e : TypeId} (h : elemT P t = some e) : P.underlying t = some (.slice e) := by
  unfold elemT at h
  split at h
  · cases h; assumption
  · cases h
theorem P_elem {t e : TypeId} (h : P.underlying t = some (.slice e)) : P.elem t = e := by simp [Program.elem, h]
theorem sizeT_info {t : TypeId} {m : Nat} (h : sizeT P t = some m) : ∃ i, P.info? t = some i ∧ i.size = m := by
  unfold sizeT at h
  split at h
  · cases h; exact ⟨_, ‹_›, rfl⟩
  · cases h

theorem bin_int {op : BinOp} {k : IntKind} {x y : Int} {r : AV} (e : binInt op k x y = some r) (t : TypeId) (hop : op ≠ .shl ∧ op ≠ .shr) :
    ∃ v, (binOp op t (.int k x) (.int k y)).run P w = .ok v w ∧ VR A.s r v := by
  unfold binInt at e
  split at e
  · cases e; exact ⟨.int k (k.wrap (x + y)), by rw [binOp_add]; rfl, by simp only [VR, wrapF_eq]⟩
  · cases e; exact ⟨.int k (k.wrap (x - y)), by rw [binOp_sub]; rfl, by simp only [VR, wrapF_eq]⟩
  · cases e; exact ⟨.int k (k.wrap (x * y)), by rw [binOp_mul]; rfl, by simp only [VR, wrapF_eq]⟩
  · split at e
    · cases e
    · rename_i hy
      rw [ieq_iff] at hy
      have hy : y ≠ 0 := of_decide_eq_false hy
      cases e; exact ⟨.int k (k.wrap (x.tdiv y)), by rw [binOp_quo]; simp [Op.intDiv, hy], by simp only [VR, wrapF_eq]⟩
  · split at e
    · cases e
    · rename_i hy
      rw [ieq_iff] at hy
      have hy : y ≠ 0 := of_decide_eq_false hy
      cases e; exact ⟨.int k (x.tmod y), by rw [binOp_rem]; simp [Op.intDiv, hy], by simp only [VR]⟩
  · cases e; exact ⟨_, by rw [binOp_eql]; rfl, by simp [VR, ieq_beq]⟩
  · cases e; exact ⟨_, by rw [binOp_neq]; rfl, by simp [VR, ieq_beq, bne]⟩
  · cases e; exact ⟨_, by rw [binOp_lss]; rfl, by simp [VR, ilt_iff]⟩
  · cases e; exact ⟨_, by rw [binOp_leq]; rfl, by show Value.bool _ = Value.bool _; rw [ilt_iff]; congr 1; rw [Bool.eq_iff_iff]; simp⟩
  · cases e; exact ⟨_, by rw [binOp_gtr]; rfl, by simp [VR, ilt_iff]⟩
  · cases e; exact ⟨_, by rw [binOp_geq]; rfl, by show Value.bool _ = Value.bool _; rw [ilt_iff]; congr 1; rw [Bool.eq_iff_iff]; simp⟩
  · cases e
theorem str_append (x y : ByteArray) : x ++ y = ⟨(x.data.toList ++ y.data.toList).toArray⟩ := by
  cases x with | mk x => cases y with | mk y =>
  apply ByteArray.ext
  rw [ByteArray.data_append]
  simp
theorem bin_str {op : BinOp} {x y : ByteArray} {r : AV} (e : binStr op x y = some r) (t : TypeId) :
    ∃ v, (binOp op t (.string x) (.string y)).run P w = .ok v w ∧ VR A.s r v := by
  unfold binStr at e
  split at e
  · split at e
    · rename_i hb
      have hb := Nat.le_of_ble_eq_true hb
      cases e
      refine ⟨.string (x ++ y), ?_, by simp only [VR, str_append]⟩
      have h1 : x.data.toList.length = x.size := Array.length_toList
      have h2 : y.data.toList.length = y.size := Array.length_toList
      have h3 : ¬ (((x.size + y.size : Nat) : Int) > IntKind.i64.max) := by rw [IntKind.max_i64]; omega
      simp only [binOp, Op.stringOp, if_neg h3]
      rfl
    · cases e
  · cases e; exact ⟨.bool (x.toList == y.toList), by rw [binOp_string_eql]; rfl, by show Value.bool _ = Value.bool _; rw [ByteArray.toList_eq, ByteArray.toList_eq, bytesEq_iff]⟩
  · cases e; exact ⟨.bool !(x.toList == y.toList), by rw [binOp_string_neq]; rfl, by show Value.bool _ = Value.bool _; rw [ByteArray.toList_eq, ByteArray.toList_eq, bytesEq_iff]⟩
  · cases e; exact ⟨.bool (Op.bytesLess x.toList y.toList), by rw [binOp_string_lss]; rfl, by show Value.bool _ = Value.bool _; rw [ByteArray.toList_eq, ByteArray.toList_eq]⟩
  · cases e; exact ⟨.bool (Op.bytesLess x.toList y.toList || x.toList == y.toList), by simp [binOp, Op.stringOp], by show Value.bool _ = Value.bool _; rw [ByteArray.toList_eq, ByteArray.toList_eq, bytesEq_iff]; cases Op.bytesLess x.data.toList y.data.toList <;> rfl⟩
  · cases e; exact ⟨.bool !(Op.bytesLess x.toList y.toList || x.toList == y.toList), by simp [binOp, Op.stringOp], by show Value.bool _ = Value.bool _; rw [ByteArray.toList_eq, ByteArray.toList_eq, bytesEq_iff]; cases Op.bytesLess x.data.toList y.data.toList <;> rfl⟩
  · cases e; exact ⟨.bool !Op.bytesLess x.toList y.toList, by simp [binOp, Op.stringOp], by show Value.bool _ = Value.bool _; rw [ByteArray.toList_eq, ByteArray.toList_eq]⟩
  · cases e

theorem tmod_low {x c : Int} (hc : 0 < c) : 1 - c ≤ x.tmod c ∧ x.tmod c ≤ c - 1 := by
  have h1 := Int.tmod_lt_of_pos x hc
  have h2 := Int.tmod_lt_of_pos (-x) hc
  rw [Int.neg_tmod] at h2
  omega
theorem bin_sym {op : BinOp} {k : IntKind} {l1 h1 : Int} {e1 : SE} {l2 h2 : Int} {e2 : SE} {r : AV} (e : binSym op k l1 h1 e1 l2 h2 e2 = some r) (t : TypeId) (a1 : l1 ≤ e1.val ∧ e1.val ≤ h1 ∧ e1.ok) (a2 : l2 ≤ e2.val ∧ e2.val ≤ h2 ∧ e2.ok) :
    ∃ v, (binOp op t (.int k e1.val) (.int k e2.val)).run P w = .ok v w ∧ VR A.s r v := by
  obtain ⟨a1, b1, o1⟩ := a1
  obtain ⟨a2, b2, o2⟩ := a2
  unfold binSym at e
  split at e
  · obtain ⟨h, hw⟩ := symV_R (s := A.s) e (n := e1.val + e2.val) (mkAdd_val _ _).symm (by omega) (by omega) (mkAdd_ok o1 o2)
    exact ⟨_, by rw [binOp_add]; exact congrArg (fun z => Result.ok (Value.int k z) w) hw, h⟩
  · obtain ⟨h, hw⟩ := symV_R (s := A.s) e (n := e1.val - e2.val) (mkSub_val _ _).symm (by omega) (by omega) (mkSub_ok o1 o2)
    exact ⟨_, by rw [binOp_sub]; exact congrArg (fun z => Result.ok (Value.int k z) w) hw, h⟩
  · have fin : ∀ {lo hi : Int}, symV k lo hi (mkMul e1 e2) = some r → lo ≤ e1.val * e2.val → e1.val * e2.val ≤ hi → ∃ v, (binOp .mul t (.int k e1.val) (.int k e2.val)).run P w = .ok v w ∧ VR A.s r v := fun {lo hi} e q1 q2 => by
      obtain ⟨h, hw⟩ := symV_R (s := A.s) e (n := e1.val * e2.val) (mkMul_val _ _).symm q1 q2 (mkMul_ok o1 o2)
      exact ⟨_, by rw [binOp_mul]; exact congrArg (fun z => Result.ok (Value.int k z) w) hw, h⟩
    split at e
    · rename_i g1 g2
      have g1 := ilt_ge g1
      have g2 := ilt_ge g2
      refine fin e ?_ ?_
      · exact Int.le_trans (Int.mul_le_mul_of_nonneg_right a1 g2) (Int.mul_le_mul_of_nonneg_left a2 (by omega))
      · exact Int.le_trans (Int.mul_le_mul_of_nonneg_right b1 (by omega)) (Int.mul_le_mul_of_nonneg_left b2 (by omega))
    · rename_i g1 g2
      have g1 := ilt_lt g1
      have g2 := ilt_ge g2
      have low : l1 * h2 ≤ e1.val * e2.val := Int.le_trans (Int.mul_le_mul_of_nonpos_left (by omega) b2) (Int.mul_le_mul_of_nonneg_right a1 (by omega))
      split at e
      · rename_i g3
        have g3 := ilt_ge g3
        refine fin e low ?_
        exact Int.le_trans (Int.mul_le_mul_of_nonneg_right b1 (by omega)) (Int.mul_le_mul_of_nonpos_left (by omega) a2)
      · rename_i g3
        have g3 := ilt_lt g3
        refine fin e low ?_
        exact Int.le_trans (Int.mul_le_mul_of_nonneg_right b1 (by omega)) (Int.mul_le_mul_of_nonneg_left b2 (by omega))
    · cases e
  · split at e
    · rename_i g1 g2
      have g1 := ilt_lt g1
      have g2 := ieq_eq g2
      subst g2
      have hc : e2.val = l2 := by omega
      have hn : e2.val ≠ 0 := by omega
      obtain ⟨h, hw⟩ := symV_R (s := A.s) e (n := e1.val.tdiv e2.val) (mkQuo_val _ _).symm (by rw [hc]; exact Int.tdiv_le_tdiv g1 a1) (by rw [hc]; exact Int.tdiv_le_tdiv g1 b1) (mkQuo_ok o1 o2)
      exact ⟨_, by rw [binOp_quo]; simp only [Op.intDiv]; rw [if_neg hn]; exact congrArg (fun z => Result.ok (Value.int k z) w) hw, h⟩
    · cases e
  · split at e
    · rename_i g1 g2
      have g1 := ilt_lt g1
      have g2 := ieq_eq g2
      subst g2
      have hc : e2.val = l2 := by omega
      have hn : e2.val ≠ 0 := by omega
      have run : ∀ {v}, VR A.s r (.int k (e1.val.tmod e2.val)) → v = Value.int k (e1.val.tmod e2.val) → ∃ v, (binOp .rem t (.int k e1.val) (.int k e2.val)).run P w = .ok v w ∧ VR A.s r v := fun {v} h hv => ⟨.int k (e1.val.tmod e2.val), by rw [binOp_rem]; simp only [Op.intDiv]; rw [if_neg hn]; rfl, h⟩
      split at e
      · rename_i g3 g4
        have g3 := ilt_ge g3
        have g4 := ilt_lt g4
        have hm : e1.val.tmod e2.val = e1.val := Int.tmod_eq_of_lt (by omega) (by omega)
        refine run ?_ rfl
        rw [hm]
        exact (symV_R e rfl a1 b1 o1).1
      · rename_i g3 _
        have g3 := ilt_ge g3
        have q := tmod_low (x := e1.val) g1
        have q2 := Int.tmod_nonneg l2 (show 0 ≤ e1.val by omega)
        refine run ?_ rfl
        exact (symV_R e (by rfl) (by rw [hc]; exact q2) (by rw [hc]; exact q.2) ⟨o1, o2⟩).1
      · have q := tmod_low (x := e1.val) g1
        refine run ?_ rfl
        exact (symV_R e (by rfl) (by rw [hc]; exact q.1) (by rw [hc]; exact q.2) ⟨o1, o2⟩).1
    · cases e
  · obtain ⟨b, hb, rfl⟩ := ofB_some e
    have := symEq_spec hb ⟨a1, b1⟩ ⟨a2, b2⟩
    exact ⟨_, by rw [binOp_eql]; rfl, by subst this; simp [VR]; rfl⟩
  · obtain ⟨b, hb, rfl⟩ := ofNB_some e
    have := symEq_spec hb ⟨a1, b1⟩ ⟨a2, b2⟩
    exact ⟨_, by rw [binOp_neq]; rfl, by subst this; simp [VR, bne]; rfl⟩
  · obtain ⟨b, hb, rfl⟩ := ofB_some e
    have := symLt_spec hb ⟨a1, b1⟩ ⟨a2, b2⟩
    exact ⟨_, by rw [binOp_lss]; rfl, by subst this; simp [VR]⟩
  · obtain ⟨b, hb, rfl⟩ := ofNB_some e
    have := symLt_spec hb ⟨a2, b2⟩ ⟨a1, b1⟩
    exact ⟨_, by rw [binOp_leq]; rfl, by subst this; show Value.bool _ = Value.bool _; congr 1; rw [Bool.eq_iff_iff]; simp⟩
  · obtain ⟨b, hb, rfl⟩ := ofB_some e
    have := symLt_spec hb ⟨a2, b2⟩ ⟨a1, b1⟩
    exact ⟨_, by rw [binOp_gtr]; rfl, by subst this; simp [VR]⟩
  · obtain ⟨b, hb, rfl⟩ := ofNB_some e
    have := symLt_spec hb ⟨a1, b1⟩ ⟨a2, b2⟩
    exact ⟨_, by rw [binOp_geq]; rfl, by subst this; show Value.bool _ = Value.bool _; congr 1; rw [Bool.eq_iff_iff]; simp⟩
  · cases e
theorem bin_ss {op : BinOp} {x y : List SB} {r : AV} (e : binSS op x y = some r) (t : TypeId) (hx : ∀ p ∈ x, p.ok) (hy : ∀ p ∈ y, p.ok) :
    ∃ v, (binOp op t (.string ⟨(x.map SB.byte).toArray⟩) (.string ⟨(y.map SB.byte).toArray⟩)).run P w = .ok v w ∧ VR A.s r v := by
  unfold binSS at e
  split at e
  · split at e
    · rename_i hb
      cases e
      have hb' : Nat.ble ((⟨(x.map SB.byte).toArray⟩ : ByteArray).data.toList.length + (⟨(y.map SB.byte).toArray⟩ : ByteArray).data.toList.length) 9223372036854775807 = true := by simpa using hb
      obtain ⟨v, h1, h2⟩ := bin_str (P := P) (w := w) (A := A) (op := .add) (x := ⟨(x.map SB.byte).toArray⟩) (y := ⟨(y.map SB.byte).toArray⟩) (r := .str ⟨(((⟨(x.map SB.byte).toArray⟩ : ByteArray).data.toList ++ (⟨(y.map SB.byte).toArray⟩ : ByteArray).data.toList)).toArray⟩) (by unfold binStr; rw [hb']) t
      refine ⟨v, h1, ?_⟩
      have h2 : v = .string _ := h2
      subst h2
      have := mkS_R (s := A.s) (l := x ++ y) (fun p hp => (List.mem_append.1 hp).elim (hx p) (hy p))
      simpa using this
    · cases e
  · obtain ⟨b, hb, rfl⟩ := ofB_some e
    have := sbEq_spec hb hx hy
    refine ⟨_, by rw [binOp_string_eql]; rfl, ?_⟩
    show Value.bool _ = Value.bool _
    rw [this, ByteArray.toList_eq, ByteArray.toList_eq]
    simp
    exact (Bool.eq_iff_iff.2 (by simp)).symm
  · obtain ⟨b, hb, rfl⟩ := ofNB_some e
    have := sbEq_spec hb hx hy
    refine ⟨_, by rw [binOp_string_neq]; rfl, ?_⟩
    show Value.bool _ = Value.bool _
    rw [this, ByteArray.toList_eq, ByteArray.toList_eq]
    congr 1
    simp
    exact (Bool.eq_iff_iff.2 (by simp)).symm
  · cases e
theorem str_bs {s : Path → Option Ref} {a : ByteArray} {x : Value} (h : VR s (.str a) x) : x = .string ⟨((bsOf a).map SB.byte).toArray⟩ := by
  have h : x = .string a := h
  rw [h, bsOf_bytes]
def ETy (P : Program) (t : TypeId) : ET → Prop
  | .bool => P.underlying t = some .bool
  | .int => ∃ k, P.underlying t = some (.int k)
  | .str => P.underlying t = some .string
  | .ptr => ∃ e, P.underlying t = some (.pointer e)
  | .slc => ∃ e, P.underlying t = some (.slice e)
  | .fn => ∃ a b c, P.underlying t = some (.func a b c)
  | .ifc => ∃ m, P.underlying t = some (.interface m)
theorem equal_R {t : TypeId} {e : ET} (ht : ETy P t e) {a b : AV} {r : Bool} (hr : aeq e a b = some r) {x y : Value} (hx : VR A.s a x) (hy : VR A.s b y) (d : Nat) :
    (Op.equalIn (d + 1) t x y).run P w = .ok r w := by
  cases e with
  | bool =>
    simp only [aeq] at hr
    split at hr
    · rename_i u v
      simp only [VR] at hx hy; subst hx; subst hy
      cases hr
      have ht : P.underlying t = some .bool := ht
      simp only [Op.equalIn, Sem.run_bind, run_underlying ht, Result.andThen_ok, Sem.run_pure]
      cases u <;> cases v <;> rfl
    · cases hr
  | int =>
    simp only [aeq] at hr
    obtain ⟨k0, ht⟩ := ht
    split at hr
    · split at hr
      · rename_i hk
        simp only [VR] at hx hy; subst hx; subst hy
        cases hr
        rw [keq_eq hk, run_equalIn_int w d t _ k0 _ _ ht, ieq_beq]
      · cases hr
    · split at hr
      · rename_i hk
        obtain ⟨rfl, y1, y2, _⟩ := hy
        have hx : x = .int _ _ := hx
        subst hx
        rw [keq_eq hk, run_equalIn_int w d t _ k0 _ _ ht, symEq_spec hr ⟨Int.le_refl _, Int.le_refl _⟩ ⟨y1, y2⟩]
        rfl
      · cases hr
    · split at hr
      · rename_i hk
        obtain ⟨rfl, y1, y2, _⟩ := hx
        have hy : y = .int _ _ := hy
        subst hy
        rw [keq_eq hk, run_equalIn_int w d t _ k0 _ _ ht, symEq_spec hr ⟨y1, y2⟩ ⟨Int.le_refl _, Int.le_refl _⟩]
        rfl
      · cases hr
    · split at hr
      · rename_i hk
        obtain ⟨rfl, y1, y2, _⟩ := hx
        obtain ⟨rfl, z1, z2, _⟩ := hy
        rw [keq_eq hk, run_equalIn_int w d t _ k0 _ _ ht, symEq_spec hr ⟨y1, y2⟩ ⟨z1, z2⟩]
        rfl
      · cases hr
    · cases hr
  | str =>
    simp only [aeq] at hr
    split at hr
    · simp only [VR] at hx hy; subst hx; subst hy
      cases hr
      rw [run_equalIn_string w d t _ _ ht, bytesEq_iff, ByteArray.toList_eq, ByteArray.toList_eq]
    · have e1 := str_bs hx
      obtain ⟨rfl, y2⟩ := hy
      subst e1
      rw [run_equalIn_string w d t _ _ ht, sbEq_spec hr (bsOf_ok _) y2, ByteArray.toList_eq, ByteArray.toList_eq]
      exact congrArg (fun z => Result.ok z w) (Bool.eq_iff_iff.2 (by simp))
    · have e1 := str_bs hy
      obtain ⟨rfl, y2⟩ := hx
      subst e1
      rw [run_equalIn_string w d t _ _ ht, sbEq_spec hr y2 (bsOf_ok _), ByteArray.toList_eq, ByteArray.toList_eq]
      exact congrArg (fun z => Result.ok z w) (Bool.eq_iff_iff.2 (by simp))
    · obtain ⟨rfl, y1⟩ := hx
      obtain ⟨rfl, y2⟩ := hy
      rw [run_equalIn_string w d t _ _ ht, sbEq_spec hr y1 y2, ByteArray.toList_eq, ByteArray.toList_eq]
      exact congrArg (fun z => Result.ok z w) (Bool.eq_iff_iff.2 (by simp))
    · cases hr
  | ptr =>
    simp only [aeq] at hr
    obtain ⟨e, ht⟩ := ht
    split at hr
    · simp only [VR] at hx hy; subst hx; subst hy; cases hr; simp [Op.equalIn, run_underlying ht]
    · simp only [VR] at hx; obtain ⟨q, _, rfl⟩ := hy; subst hx; cases hr; simp [Op.equalIn, run_underlying ht]
    · simp only [VR] at hy; obtain ⟨q, _, rfl⟩ := hx; subst hy; cases hr; simp [Op.equalIn, run_underlying ht]
    · cases hr
  | slc =>
    simp only [aeq] at hr
    obtain ⟨e, ht⟩ := ht
    split at hr
    · simp only [VR] at hx hy; subst hx; subst hy; cases hr; simp [Op.equalIn, run_underlying ht]
    · simp only [VR] at hx; obtain ⟨q, _, _, _, rfl⟩ := hy; subst hx; cases hr; simp [Op.equalIn, run_underlying ht]
    · simp only [VR] at hy; obtain ⟨q, _, _, _, rfl⟩ := hx; subst hy; cases hr; simp [Op.equalIn, run_underlying ht]
    · simp only [VR] at hx; obtain ⟨q, _, rfl⟩ := hy; subst hx; cases hr; simp [Op.equalIn, run_underlying ht]
    · simp only [VR] at hy; obtain ⟨q, _, rfl⟩ := hx; subst hy; cases hr; simp [Op.equalIn, run_underlying ht]
    · cases hr
  | fn =>
    simp only [aeq] at hr
    obtain ⟨e1, e2, e3, ht⟩ := ht
    split at hr
    · simp only [VR] at hx hy; subst hx; subst hy; cases hr; simp [Op.equalIn, run_underlying ht]
    · simp only [VR] at hx; obtain ⟨q, _, rfl, _⟩ := hy; subst hx; cases hr; simp [Op.equalIn, run_underlying ht]
    · simp only [VR] at hy; obtain ⟨q, _, rfl, _⟩ := hx; subst hy; cases hr; simp [Op.equalIn, run_underlying ht]
    · cases hr
  | ifc =>
    simp only [aeq] at hr
    obtain ⟨e, ht⟩ := ht
    split at hr
    · simp only [VR] at hx hy; subst hx; subst hy; cases hr; simp [Op.equalIn, run_underlying ht]
    · simp only [VR] at hx; obtain ⟨q, rfl, _⟩ := hy; subst hx; cases hr; simp [Op.equalIn, run_underlying ht]
    · simp only [VR] at hy; obtain ⟨q, rfl, _⟩ := hx; subst hy; cases hr; simp [Op.equalIn, run_underlying ht]
    · cases hr

theorem cellT_eq {t : TypeId} {e : ET} (h : cellT P t = some e) : ETy P t e ∧ isAggT P t = some false := by
  unfold cellT at h
  split at h
  · cases h; rename_i k hu; exact ⟨⟨k, hu⟩, by simp [isAggT, hu]⟩
  · cases h; rename_i hu; exact ⟨hu, by simp [isAggT, hu]⟩
  · cases h; rename_i hu; exact ⟨hu, by simp [isAggT, hu]⟩
  · cases h
theorem run_part {t : TypeId} (ht : isAggT P t = some false) {cs : Array Value} {i : Nat} {v : Value} (hv : cs[i]? = some v) : (part t cs i).run P w = .ok v w := by
  simp [part, run_isAgg ht, hv]
theorem eqFields_R : ∀ (fs : List Field) (i : Nat) (es : List ET) (xs ys : List AV) (r : Bool) (cs ds : Array Value) (d : Nat), cellsT P fs i = some es → aeqs es xs ys = some r →
    (VRs A.s xs (cs.toList.drop i)) → (VRs A.s ys (ds.toList.drop i)) → (Op.eqFields (d + 1) cs ds fs).run P w = .ok r w
  | [], i, es, xs, ys, r, cs, ds, d, he, hr, hx, hy => by
    simp only [cellsT] at he; cases he
    cases xs <;> cases ys <;> simp [aeqs] at hr
    subst hr
    rfl
  | f :: fs, i, es, xs, ys, r, cs, ds, d, he, hr, hx, hy => by
    simp only [cellsT] at he
    split at he
    · rename_i e es' ho hn ht hrest
      cases he
      have ho := Nat.eq_of_beq_eq_true ho
      have hn : f.name ≠ "_" := by simpa using hn
      obtain ⟨hty, hag⟩ := cellT_eq ht
      cases xs with
      | nil => simp [aeqs] at hr
      | cons a xs =>
        cases ys with
        | nil => simp [aeqs] at hr
        | cons b ys =>
          obtain ⟨x, xs', hxe, hxa, hxs⟩ := hx
          obtain ⟨y, ys', hye, hya, hys⟩ := hy
          have hci : cs[i]? = some x := by
            have : (cs.toList.drop i)[0]? = some x := by rw [hxe]; rfl
            simpa using this
          have hdi : ds[i]? = some y := by
            have : (ds.toList.drop i)[0]? = some y := by rw [hye]; rfl
            simpa using this
          have hcd : cs.toList.drop (i + 1) = xs' := by rw [← List.drop_drop, hxe]; rfl
          have hdd : ds.toList.drop (i + 1) = ys' := by rw [← List.drop_drop, hye]; rfl
          simp only [Op.eqFields, if_pos hn, Sem.run_bind, ho, run_part hag hci, run_part hag hdi, Result.andThen_ok]
          simp only [aeqs] at hr
          split at hr
          · rename_i he
            rw [equal_R hty he hxa hya d]
            simp only [Result.andThen_ok, Bool.not_true, Bool.false_eq_true, if_false]
            exact eqFields_R fs (i + 1) es' xs ys r cs ds d hrest hr (by rw [hcd]; exact hxs) (by rw [hdd]; exact hys)
          · rename_i he
            cases hr
            rw [equal_R hty he hxa hya d]
            rfl
          · cases hr
    · cases he
theorem eqlV_some {op : BinOp} {r : Option Bool} {a : AV} (e : eqlV op r = some a) : ∃ b, r = some b ∧ ((op = .eql ∧ a = .bool b) ∨ (op = .neq ∧ a = .bool !b)) := by
  unfold eqlV at e
  split at e
  · cases e; exact ⟨_, rfl, .inl ⟨rfl, rfl⟩⟩
  · cases e; exact ⟨_, rfl, .inr ⟨rfl, rfl⟩⟩
  · cases e
theorem cellsT_guard : ∀ {fs : List Field} {i : Nat} {es : List ET}, cellsT P fs i = some es → ∀ d, fs.any (fun f => f.name != "_" && P.eqGuardType (d + 1) f.type) = false
  | [], _, _, _, _ => rfl
  | f :: fs, i, es, he, d => by
    simp only [cellsT] at he
    split at he
    · rename_i e es' ho hn ht hrest
      have h1 : P.eqGuardType (d + 1) f.type = false := by
        obtain ⟨hty, _⟩ := cellT_eq ht
        unfold cellT at ht
        split at ht <;> first | cases ht | skip
        all_goals (rename_i hu; simp [Program.eqGuardType, hu])
      simp only [List.any_cons, h1, Bool.and_false, Bool.false_or]
      exact cellsT_guard hrest d
    · cases he

theorem VR.nofloat {s : Path → Option Ref} {a : AV} {x : Value} (h : VR s a x) : (∀ k m, x ≠ .float k m) ∧ (∀ k l m, x ≠ .complex k l m) := by
  cases a with
  | bool b => simp only [VR] at h; subst h; simp
  | int k n => simp only [VR] at h; subst h; simp
  | res k m r => obtain ⟨n, rfl, _⟩ := h; simp
  | str t => simp only [VR] at h; subst h; simp
  | ptr p o => obtain ⟨r, hr, rfl⟩ := h; simp
  | nilp => simp only [VR] at h; subst h; simp
  | sl p k i n => obtain ⟨r, hr, _, _, rfl⟩ := h; simp
  | sle => obtain ⟨b, d, rfl⟩ := h; simp
  | nils => simp only [VR] at h; subst h; simp
  | fn f a c => obtain ⟨xs, ys, rfl, _, _⟩ := h; simp
  | nilfn => simp only [VR] at h; subst h; simp
  | ifc t b => obtain ⟨y, rfl, _⟩ := h; simp
  | nilif => simp only [VR] at h; subst h; simp
  | mp p => obtain ⟨r, hr, rfl⟩ := h; simp
  | nilm => simp only [VR] at h; subst h; simp
  | agg l => obtain ⟨xs, rfl, _⟩ := h; simp
  | tup l => obtain ⟨xs, rfl, _⟩ := h; simp
  | sym k lo hi e => obtain ⟨rfl, _⟩ := h; simp
  | ss l => obtain ⟨rfl, _⟩ := h; simp
theorem aeq_shape {e : ET} {a b : AV} {u : Bool} (hu : aeq e a b = some u) {x : Value} (hx : VR A.s a x) : (∀ c, x ≠ .agg c) ∧ (x = .nilIface → e = .ifc) := by
  cases e <;> simp only [aeq] at hu <;> (split at hu <;> first | cases hu | skip)
  all_goals first
    | (simp only [VR] at hx; subst hx; simp; done)
    | (obtain ⟨_, _, rfl, _⟩ := hx; simp; done)
    | (obtain ⟨_, _, rfl⟩ := hx; simp; done)
    | (obtain ⟨_, _, _, rfl⟩ := hx; simp; done)
    | (obtain ⟨_, _, _, _, rfl⟩ := hx; simp; done)
    | (obtain ⟨_, rfl, _⟩ := hx; simp; done)
    | (obtain ⟨rfl, _⟩ := hx; simp; done)
theorem eqOf_one {t : TypeId} {xo yo : Operand} {e : ET} (he : eqOf P t xo yo = .one e) : ETy P t e ∧ (e = .ifc → (∃ c, xo = .const c) ∨ (∃ c, yo = .const c)) := by
  unfold eqOf at he
  split at he
  · split at he <;> cases he
  · rename_i m hu
    split at he
    · cases he; exact ⟨⟨m, hu⟩, fun _ => .inl ⟨_, rfl⟩⟩
    · cases he; exact ⟨⟨m, hu⟩, fun _ => .inr ⟨_, rfl⟩⟩
    · cases he
  · rename_i h1 h2
    split at he
    · rename_i e' hq
      cases he
      unfold eqT at hq
      split at hq
      · cases hq; exact ⟨by assumption, by simp⟩
      · cases hq; exact ⟨⟨_, by assumption⟩, by simp⟩
      · cases hq; exact ⟨⟨_, by assumption⟩, by simp⟩
      · cases hq; exact ⟨⟨_, _, _, by assumption⟩, by simp⟩
      · rename_i m hu; exact absurd hu (h2 m)
      · cases hq
    · cases he
theorem eql_R {t : TypeId} {xo yo : Operand} {op : BinOp} {e : ET} (he : eqOf P t xo yo = .one e) {a b r : AV} (hq : eqlV op (aeq e a b) = some r) {x y : Value} (hx : VR A.s a x) (hy : VR A.s b y)
    (hni : ∀ k m, x ≠ .int k m) (hns : ∀ m, x ≠ .string m) : ∃ v, (do eqGuard op t xo yo x y; binOp op t x y : Sem Value).run P w = .ok v w ∧ VR A.s r v := by
  obtain ⟨u, hu, hcase⟩ := eqlV_some hq
  obtain ⟨hty, hif⟩ := eqOf_one he
  obtain ⟨hs1, hs2⟩ := aeq_shape hu hx
  have hg : (eqGuard op t xo yo x y).run P w = .ok () w := by
    by_cases h0 : x = .nilIface
    · subst h0
      by_cases hy0 : y = .nilIface
      · subst hy0
        rcases hif (hs2 rfl) with ⟨c, rfl⟩ | ⟨c, rfl⟩
        · rw [eqGuard_nil_constL]; rfl
        · rw [eqGuard_nil_constR]; rfl
      · rcases hcase with ⟨rfl, _⟩ | ⟨rfl, _⟩ <;> cases y <;> first | rfl | exact absurd rfl hy0
    · rcases hcase with ⟨rfl, _⟩ | ⟨rfl, _⟩ <;> cases x <;> first | rfl | exact absurd rfl (hs1 _) | exact absurd rfl h0
  have heq : (Op.equal t x y).run P w = .ok u w := equal_R (w := w) (P := P) hty hu hx hy 9999
  obtain ⟨hf1, hf2⟩ := hx.nofloat
  rcases hcase with ⟨rfl, rfl⟩ | ⟨rfl, rfl⟩
  · refine ⟨.bool u, ?_, rfl⟩
    rw [Sem.run_bind, hg, Result.andThen_ok]
    cases x <;> first
      | exact absurd rfl (hni _ _)
      | exact absurd rfl (hns _)
      | exact absurd rfl (hf1 _ _)
      | exact absurd rfl (hf2 _ _ _)
      | (simp only [binOp, Sem.run_bind, heq, Result.andThen_ok]; rfl)
  · refine ⟨.bool !u, ?_, rfl⟩
    rw [Sem.run_bind, hg, Result.andThen_ok]
    cases x <;> first
      | exact absurd rfl (hni _ _)
      | exact absurd rfl (hns _)
      | exact absurd rfl (hf1 _ _)
      | exact absurd rfl (hf2 _ _ _)
      | (simp only [binOp, Sem.run_bind, heq, Result.andThen_ok]; rfl)
theorem eqGuard_arith (op : BinOp) (t : TypeId) (xo yo : Operand) (x y : Value) (h : (∃ k n, x = .int k n) ∨ (∃ s, x = .string s)) : (eqGuard op t xo yo x y) = pure () := by
  rcases h with ⟨k, n, rfl⟩ | ⟨s, rfl⟩
  · exact eqGuard_at_int op t xo yo y k n
  · exact eqGuard_at_string op t xo yo y s
theorem bin_R {t : TypeId} {xo yo : Operand} {op : BinOp} (hop : op ≠ .shl ∧ op ≠ .shr) {a b r : AV} (hr : bin (eqOf P t xo yo) op a b = some r) {x y : Value} (hx : VR A.s a x) (hy : VR A.s b y) :
    ∃ v, (do eqGuard op t xo yo x y; binOp op t x y : Sem Value).run P w = .ok v w ∧ VR A.s r v := by
  have one : (match eqOf P t xo yo with | .one e => eqlV op (aeq e a b) | _ => none) = some r → (∀ k m, x ≠ .int k m) → (∀ m, x ≠ .string m) → ∃ v, (do eqGuard op t xo yo x y; binOp op t x y : Sem Value).run P w = .ok v w ∧ VR A.s r v := by
    intro h1 h2 h3
    split at h1
    · rename_i e he; exact eql_R he h1 hx hy h2 h3
    · cases h1
  unfold bin at hr
  split at hr
  · split at hr
    · split at hr
      · rename_i hk
        simp only [VR] at hx hy; subst hx; subst hy
        rw [eqGuard_at_int, keq_eq hk]
        exact bin_int hr t hop
      · cases hr
    · split at hr
      · rename_i hk
        have hk := keq_eq hk
        subst hk
        obtain ⟨rfl, y1, y2⟩ := hy
        have hx : x = .int _ _ := hx
        subst hx
        rw [eqGuard_at_int]
        exact bin_sym hr t ⟨Int.le_refl _, Int.le_refl _, trivial⟩ ⟨y1, y2⟩
      · cases hr
    · cases hr
  · split at hr
    · split at hr
      · rename_i hk
        have hk := keq_eq hk
        subst hk
        obtain ⟨rfl, y1, y2⟩ := hx
        have hy : y = .int _ _ := hy
        subst hy
        rw [eqGuard_at_int]
        exact bin_sym hr t ⟨y1, y2⟩ ⟨Int.le_refl _, Int.le_refl _, trivial⟩
      · cases hr
    · split at hr
      · rename_i hk
        have hk := keq_eq hk
        subst hk
        obtain ⟨rfl, y1, y2⟩ := hx
        obtain ⟨rfl, z1, z2⟩ := hy
        rw [eqGuard_at_int]
        exact bin_sym hr t ⟨y1, y2⟩ ⟨z1, z2⟩
      · cases hr
    · cases hr
  · split at hr
    · have e1 := str_bs hy
      obtain ⟨rfl, y2⟩ := hx
      subst e1
      rw [eqGuard_at_string]
      exact bin_ss hr t y2 (bsOf_ok _)
    · obtain ⟨rfl, y1⟩ := hx
      obtain ⟨rfl, y2⟩ := hy
      rw [eqGuard_at_string]
      exact bin_ss hr t y1 y2
    · cases hr
  · split at hr
    · split at hr
      · split at hr
        · rename_i hk hm hn0
          have hm := Nat.eq_of_beq_eq_true hm
          have hk := keq_eq hk
          subst hm
          subst hk
          obtain ⟨n0, rfl, h1, h2⟩ := hx
          simp only [VR] at hy; subst hy
          cases hr
          rw [natBeq] at hn0
          have hn0 := of_decide_eq_false hn0
          rw [eqGuard_at_int]
          refine ⟨.int _ (.ofNat _), ?_, rfl⟩
          show (binOp .rem t (.int _ (.ofNat n0)) (.int _ (.ofNat _))).run P w = _
          rw [binOp_rem]
          simp only [Op.intDiv, Int.ofNat_eq_natCast]
          rw [if_neg (by omega)]
          subst h1
          rfl
        · cases hr
      · cases hr
    · cases hr
  · split at hr
    · simp only [VR] at hx hy; subst hx; subst hy
      rw [eqGuard_at_string]
      exact bin_str hr t
    · have e1 := str_bs hx
      obtain ⟨rfl, y2⟩ := hy
      subst e1
      rw [eqGuard_at_string]
      exact bin_ss hr t (bsOf_ok _) y2
    · cases hr
  · split at hr
    · split at hr
      · rename_i l he
        obtain ⟨u, hu, hcase⟩ := eqlV_some hr
        obtain ⟨xs, rfl, hxs, _⟩ := hx
        obtain ⟨ys, rfl, hys, _⟩ := hy
        unfold eqOf at he
        split at he
        · rename_i fs hu'
          split at he
          · rename_i es hst hc
            cases he
            have hfs : P.fieldsOf t = fs := by simp [Program.fieldsOf, hu']
            have hg : P.eqGuardType P.depth t = false := by
              have e : P.depth = (2 * (P.types.size + Made.depth) + 1) + 1 := rfl
              rw [e]
              simp only [Program.eqGuardType, hu']
              have := cellsT_guard (P := P) hc (2 * (P.types.size + Made.depth))
              rw [← Array.any_toList]
              exact this
            have heq : (Op.equalIn 10000 t (.agg xs) (.agg ys)).run P w = .ok u w := by
              rw [run_equalIn_agg w 9999 t xs ys (by rw [hfs]; exact hu') hst, hfs]
              exact eqFields_R fs.toList 0 _ _ _ u xs ys 9998 hc hu (by simpa using hxs) (by simpa using hys)
            rcases hcase with ⟨rfl, rfl⟩ | ⟨rfl, rfl⟩
            · refine ⟨.bool u, ?_, rfl⟩
              rw [Sem.run_bind, run_eqGuard_agg w .eql t xo yo xs ys hg, Result.andThen_ok, run_eql_struct, heq]
              rfl
            · refine ⟨.bool !u, ?_, rfl⟩
              rw [Sem.run_bind, run_eqGuard_agg w .neq t xo yo xs ys hg, Result.andThen_ok, run_neq_struct, heq]
              rfl
          · cases he
        · split at he <;> cases he
        · split at he <;> cases he
      · cases hr
    · cases hr
  · rename_i n1 n5 n6 n2 n3 n4
    refine one hr ?_ ?_
    · intro k m e
      subst e
      cases a <;> first
        | exact n1 _ _ rfl
        | exact n2 _ _ _ rfl
        | exact n5 _ _ _ _ rfl
        | (simp only [VR] at hx; cases hx; done)
        | (obtain ⟨hx, _⟩ := hx; cases hx; done)
        | (obtain ⟨_, _, hx, _⟩ := hx; cases hx; done)
        | (obtain ⟨_, _, hx⟩ := hx; cases hx; done)
        | (obtain ⟨_, _, _, hx⟩ := hx; cases hx; done)
        | (obtain ⟨_, _, _, _, hx⟩ := hx; cases hx; done)
        | (obtain ⟨_, hx, _⟩ := hx; cases hx; done)
    · intro m e
      subst e
      cases a <;> first
        | exact n3 _ rfl
        | exact n6 _ rfl
        | (simp only [VR] at hx; cases hx; done)
        | (obtain ⟨hx, _⟩ := hx; cases hx; done)
        | (obtain ⟨_, _, hx, _⟩ := hx; cases hx; done)
        | (obtain ⟨_, _, hx⟩ := hx; cases hx; done)
        | (obtain ⟨_, _, _, hx⟩ := hx; cases hx; done)
        | (obtain ⟨_, _, _, _, hx⟩ := hx; cases hx; done)
        | (obtain ⟨_, hx, _⟩ := hx; cases hx; done)
end Go.Ev
end
