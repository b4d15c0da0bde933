/- The pure machine, and what its slots stand for. -/
import Derived.Orders
import Derived.Scope
import Derived.CheckFast
import Derived.Below
import Derived.Deep.AppendSrc
import Derived.Deep.MidRow
import Derived.Laws.Slices
import Derived.ProofKit
import Derived.Laws.BytesString
namespace Go.Proofs.Ytcngkdickmahhaa
section
/- The pure machine: values without memory, a row of slots, and what each operation makes of them. Nothing here speaks of the model's memory. -/

/-- Pure values: they never change. -/
inductive PV where
  | int (k : IntKind) (n : Int)
  | bool (b : Bool)
  | str (s : ByteArray)
  | undef
  | nils
  | sl (s : Nat) (cs : List PV)
  | agg (cs : List PV)
  | fn (f : FuncId)
  | nilp
  | nilf
  | nili
  deriving Inhabited

/-- What a place holds: a pure value; or a slice whose memory the place owns ('full': the elements too; else only what lies behind them): its cells and the known cells behind them. -/
inductive CV where
  | pv (v : PV)
  | own (full : Bool) (s : Nat) (cs sp : List PV)
  | gone
  deriving Inhabited

/-- A component of a tuple: a cell with its generation; a struct that holds owned slices; given away. -/
inductive Cmp where
  | c (g : Nat) (x : CV)
  | s (cs : List CV)
  | gone
  deriving Inhabited

/-- What a slot holds. -/
inductive SV where
  | dead
  | cv (c : CV)
  | st (cs : List CV)
  | box (cs : List (Nat × CV))
  | tup (cs : List Cmp)
  | ref (r k gs gc : Nat)
  | view (r k gs gc a b : Nat)
  | sref (r k gs : Nat)
  | ptr (r off gs : Nat)
  | eptr (r k gs gc o : Nat)
  | fptr (cs : List PV) (o : Nat)
  deriving Inhabited

abbrev Env := List (Nat × SV)

inductive Opd where
  | tmp (t : Nat)
  | con (v : PV)
  deriving Inhabited

inductive POp where
  | mv (x : Opd)
  | asg (x : Opd)
  | pick (c a b : Opd)
  | alloc (zero : List PV)
  | box (x : Opd)
  | build (zero : List PV) (parts : List (Nat × Nat × Opd))
  | bsl (s : Nat) (zero : List PV) (len : Nat) (parts : List (Nat × Opd))
  | load (take : Bool) (n : Option Nat) (a : Opd)
  | store (n : Nat) (a x : Opd)
  | nilck (x : Opd)
  | bin (op : BinOp) (x y : Opd)
  | eqB (neg : Bool) (x y : Opd)
  | eqNil (neg : Bool) (x : Opd)
  | un (op : UnOp) (x : Opd)
  | cvInt (k : IntKind) (x : Opd)
  | cvStr (x : Opd)
  | cvBytes (x : Opd)
  | cvText (x : Opd)
  | cvSame (x : Opd)
  | slice (s : Nat) (x : Opd) (lo hi : Option Opd)
  | sliceS (x : Opd) (lo hi : Option Opd)
  | faddr (off : Nat) (x : Opd)
  | field (off : Nat) (n : Option Nat) (x : Opd)
  | iaddrA (len s : Nat) (x i : Opd)
  | iaddrS (s : Nat) (x i : Opd)
  | indexS (x i : Opd)
  | indexA (len s : Nat) (n : Option Nat) (x i : Opd)
  | extract (x : Opd) (i : Nat)
  | len (x : Opd)
  | lenS (x : Opd)
  | lenC (n : Nat)
  | minmax (mx : Bool) (x : Opd) (xs : List Opd)
  | append (str : Bool) (s bytes : Nat) (x y : Opd)
  | appendZ (s bytes : Nat) (zero : List PV) (x n : Opd)
  | call (f : FuncId) (args : List (Bool × Opd))
  | mkslice (s bytes : Nat) (zero : List PV) (len cap : Opd)
  deriving Inhabited

structure POper where
  dst : Option Nat
  op : POp
  guard : Option (Nat × Bool) := none
  deriving Inhabited

inductive PCode where
  | skip
  | reg (ops : List POper) (draw : Option (List Nat)) (live : List Nat)
  | seq (a b : PCode)
  | cond (c : Opd) (a b : PCode)
  | block (id : Nat) (b : PCode)
  | loop (live : List Nat) (b : PCode)
  | exit (id : Nat)
  | scope (b : PCode)
  | ret
  deriving Inhabited

inductive RVar where
  | tmp (t : Nat)
  | cell (t : Nat) (n : Option Nat)
  deriving Inhabited

structure PFn where
  ntmps : Nat
  /-- The slots below are never written. -/
  low : Nat
  results : List RVar
  body : PCode
  deriving Inhabited

/-- An argument; a result: a cell; a struct that holds owned slices; 'b': what a pointer leads to, handed on whole. -/
inductive PX where
  | c (x : CV)
  | s (cs : List CV)
  | b (cs : List CV)
  deriving Inhabited

abbrev Fns := FuncId → List PX → Option (List PX × List (List CV))

/-- What kind of thing a slot holds. -/
inductive Hd where
  | plain
  | own (s n : Nat)
  | box
  | tup
  deriving DecidableEq, Inhabited

/-- A step on the slots, as a tree of reads and writes ('hd' reads the generation and the kind alone; 'upd' leaves both; 'getc', 'updc': one component of a tuple). -/
inductive Pr where
  | done
  | fail
  | get (t : Nat) (k : Nat × SV → Pr)
  | hd (t : Nat) (k : Nat × Hd → Pr)
  | set (t : Nat) (x : Nat × SV) (k : Pr)
  | upd (t : Nat) (x : Nat × SV) (k : Pr)
  | getc (t j : Nat) (k : Nat × Option Cmp → Pr)
  | updc (t j : Nat) (c : Cmp) (k : Pr)
  | chk (c : Prop) (i : Decidable c) (k : Pr)
  | br (b : Bool) (p q : Pr)
  | opt (o : Option PV) (k : PV → Pr)
  | ans (o : Option (List PX × List (List CV))) (k : List PX × List (List CV) → Pr)

def Env.at (e : Env) (t : Nat) : Nat × SV := e.getD t (0, .dead)

def SV.hd : SV → Hd
  | .cv (.own _ s cs _) => .own s cs.length
  | .box _ => .box
  | .tup _ => .tup
  | _ => .plain

def SV.cmps : SV → List Cmp
  | .tup cs => cs
  | _ => []

def SV.cmp (v : SV) (j : Nat) : Option Cmp := v.cmps[j]?

def Pr.run : Pr → Env → Option Env
  | .done, e => some e
  | .fail, _ => none
  | .get t k, e => (k (e.at t)).run e
  | .hd t k, e => (k ((e.at t).1, (e.at t).2.hd)).run e
  | .set t x k, e => k.run (e.set t x)
  | .upd t x k, e => if x.1 = (e.at t).1 then (if x.2.hd = (e.at t).2.hd then k.run (e.set t x) else none) else none
  | .getc t j k, e => (k ((e.at t).1, (e.at t).2.cmp j)).run e
  | .updc t j c k, e => if j < (e.at t).2.cmps.length then k.run (e.set t ((e.at t).1, .tup ((e.at t).2.cmps.set j c))) else none
  | .chk c i k, e => @ite _ c i (k.run e) none
  | .br b p q, e => match b with
    | true => p.run e
    | false => q.run e
  | .opt o k, e => match o with
    | some v => (k v).run e
    | none => none
  | .ans o k, e => match o with
    | some v => (k v).run e
    | none => none

def SV.isRoot (v : SV) : Bool := v.hd != .plain

def Pr.put (d : Option Nat) (v : SV) : Pr :=
  match d with
  | none => .done
  | some d => .hd d fun x => .set d (if x.2 = .plain then x.1 else x.1 + 1, v) .done

/-- The place (r, k), at its generations: a tuple's component; else the slot itself or a box's cell. 'κ' is told what the slot holds (of a tuple: that it is one). -/
def Pr.place (r k gs gc : Nat) (κ : Nat × SV → CV → Pr) : Pr :=
  .hd r fun h => match h.2 with
    | .tup => .getc r k fun x => if x.1 = gs then (match x.2 with
      | some (.c g c) => if g = gc then κ (x.1, .tup []) c else .fail
      | _ => .fail) else .fail
    | _ => .get r fun x => if x.1 = gs then
      match x.2 with
      | .cv c => if k = 0 then (if gc = 0 then κ x c else .fail) else .fail
      | .box cs => (match cs[k]? with | some p => if p.1 = gc then κ x p.2 else .fail | none => .fail)
      | _ => .fail
    else .fail

/-- The element's size and the number of cells of the owned slice in place (r, k). -/
def Pr.shape (r k gs gc : Nat) (κ : Nat → Nat → Pr) : Pr :=
  .hd r fun h => match h.2 with
    | .own s n => if k = 0 then (if gc = 0 then (if h.1 = gs then κ s n else .fail) else .fail) else .fail
    | _ => Pr.place r k gs gc fun _ c => match c with
      | .own _ s cs _ => κ s cs.length
      | _ => .fail

/-- The struct that is component k of the tuple in slot r. -/
def Pr.comp (r k gs : Nat) (κ : List CV → Pr) : Pr :=
  .getc r k fun x => if x.1 = gs then (match x.2 with | some (.s c) => κ c | _ => .fail) else .fail

def PV.isSc : PV → Bool
  | .agg _ => false
  | .sl .. => false
  | .undef => false
  | _ => true

def PV.isRow : CV → Bool
  | .own .. => true
  | _ => false

/-- What of a cell may be kept in a copy. -/
def CV.view : CV → Option PV
  | .pv v => some v
  | .own _ s c _ => some (.sl s c)
  | .gone => none

def CV.here : CV → Bool
  | .gone => false
  | _ => true

/-- The cell behind the copy: its elements are no more written. -/
def CV.less : CV → CV
  | .own _ s c sp => .own false s c sp
  | c => c

/-- The value of an operand, for reading alone. -/
def Pr.rd (o : Opd) (κ : PV → Pr) : Pr :=
  match o with
  | .con v => κ v
  | .tmp t => .get t fun x => match x.2 with
    | .cv (.pv v) => κ v
    | .cv (.own _ s cs _) => κ (.sl s cs)
    | .ref r k gs gc => Pr.place r k gs gc fun _ c => match c with
      | .own _ s cs _ => κ (.sl s cs)
      | _ => .fail
    | .view r k gs gc a b => Pr.place r k gs gc fun _ c => match c with
      | .own _ s cs _ => κ (.sl s ((cs.take b).drop a))
      | _ => .fail
    | _ => .fail

/-- The place's content written anew: x, what the slot holds; gc, the cell's generation. 'bump': nothing that leads to the place leads anywhere from now on; else its header stays. -/
def Pr.chPl (r k gc : Nat) (x : Nat × SV) (bump : Bool) (c : CV) (κ : Pr) : Pr :=
  match x.2 with
  | .cv _ => if bump then .set r (x.1 + 1, .cv c) κ else .upd r (x.1, .cv c) κ
  | .box cs => .upd r (x.1, .box (cs.set k (if bump then gc + 1 else gc, c))) κ
  | .tup _ => .updc r k (.c (if bump then gc + 1 else gc) c) κ
  | _ => .fail

/-- The value of an operand, for keeping: what it is a part of is no more written. -/
def Pr.emb (o : Opd) (κ : PV → Pr) : Pr :=
  match o with
  | .con v => κ v
  | .tmp t => .get t fun x => match x.2 with
    | .cv (.pv v) => κ v
    | .cv (.own f s cs sp) => if f then .upd t (x.1, .cv (.own false s cs sp)) (κ (.sl s cs)) else κ (.sl s cs)
    | .st cs => (match cs.mapM CV.view with | some vs => .set t (x.1, .st (cs.map CV.less)) (κ (.agg vs)) | none => .fail)
    | .ref r k gs gc => Pr.place r k gs gc fun y c => match c with
      | .own f s cs sp => if f then .chPl r k gc y false (.own false s cs sp) (κ (.sl s cs)) else κ (.sl s cs)
      | _ => .fail
    | .view r k gs gc a b => Pr.place r k gs gc fun y c => match c with
      | .own f s cs sp => if f then .chPl r k gc y false (.own false s cs sp) (κ (.sl s ((cs.take b).drop a))) else κ (.sl s ((cs.take b).drop a))
      | _ => .fail
    | .sref r k gs => Pr.comp r k gs fun c => (match c.mapM CV.view with | some vs => .updc r k (.s (c.map CV.less)) (κ (.agg vs)) | none => .fail)
    | _ => .fail

def Pr.embs (κ : List PV → Pr) : List Opd → Pr
  | [] => κ []
  | o :: os => Pr.emb o fun v => Pr.embs (fun vs => κ (v :: vs)) os

def Pr.rds (κ : List PV → Pr) : List Opd → Pr
  | [] => κ []
  | o :: os => Pr.rd o fun v => Pr.rds (fun vs => κ (v :: vs)) os

def PV.cells : PV → List PV
  | .agg cs => cs
  | .undef => []
  | .int k n => [.int k n]
  | .bool b => [.bool b]
  | .str s => [.str s]
  | .nils => [.nils]
  | .sl s cs => [.sl s cs]
  | .fn f => [.fn f]
  | .nilp => [.nilp]
  | .nilf => [.nilf]
  | .nili => [.nili]

/-- Cells of a new struct: what a temporary owns moves in. -/
def Pr.tk (o : Opd) (κ : List CV → Pr) : Pr :=
  match o with
  | .con v => κ (v.cells.map .pv)
  | .tmp t => .get t fun x => match x.2 with
    | .cv (.own f s cs sp) => .set t (x.1 + 1, .dead) (κ [.own f s cs sp])
    | .st cs => .set t (x.1, .dead) (κ cs)
    | .sref r k gs => Pr.comp r k gs fun c => .updc r k .gone (κ c)
    | _ => Pr.emb o fun v => κ (v.cells.map .pv)

def Pr.tks (κ : List (List CV) → Pr) : List Opd → Pr
  | [] => κ []
  | o :: os => Pr.tk o fun v => Pr.tks (fun vs => κ (v :: vs)) os

def asInt : PV → (Int → Pr) → Pr
  | .int _ n, κ => κ n
  | _, _ => .fail

def pint (op : BinOp) (k : IntKind) (x y : Int) : Option PV :=
  match op with
  | .add => some (.int k (k.wrap (x + y)))
  | .sub => some (.int k (k.wrap (x - y)))
  | .mul => some (.int k (k.wrap (x * y)))
  | .quo => if y = 0 then none else some (.int k (k.wrap (x.tdiv y)))
  | .rem => if y = 0 then none else some (.int k (x.tmod y))
  | .and => some (.int k (k.wrap (BitVec.ofInt k.bits x &&& BitVec.ofInt k.bits y).toNat))
  | .or => some (.int k (k.wrap (BitVec.ofInt k.bits x ||| BitVec.ofInt k.bits y).toNat))
  | .xor => some (.int k (k.wrap (BitVec.ofInt k.bits x ^^^ BitVec.ofInt k.bits y).toNat))
  | .andNot => some (.int k (k.wrap (BitVec.ofInt k.bits x &&& ~~~(BitVec.ofInt k.bits y)).toNat))
  | .shl | .shr => none
  | .eql => some (.bool (x == y))
  | .neq => some (.bool (x != y))
  | .lss => some (.bool (x < y))
  | .leq => some (.bool (x ≤ y))
  | .gtr => some (.bool (x > y))
  | .geq => some (.bool (x ≥ y))

def pshift (op : BinOp) (k : IntKind) (x y : Int) : Option PV :=
  if y < 0 then none
  else match op with
    | .shl => some (.int k (k.wrap (x * 2 ^ (min y.toNat k.bits))))
    | .shr => some (.int k (x.fdiv (2 ^ (min y.toNat k.bits))))
    | _ => none

def pstr (op : BinOp) (x y : ByteArray) : Option PV :=
  match op with
  | .add => if ((x.size + y.size : Nat) : Int) > IntKind.i64.max then none else some (.str (x ++ y))
  | .eql => some (.bool (x.toList == y.toList))
  | .neq => some (.bool !(x.toList == y.toList))
  | .lss => some (.bool (Op.bytesLess x.toList y.toList))
  | .leq => some (.bool (Op.bytesLess x.toList y.toList || x.toList == y.toList))
  | .gtr => some (.bool !(Op.bytesLess x.toList y.toList || x.toList == y.toList))
  | .geq => some (.bool !(Op.bytesLess x.toList y.toList))
  | _ => none

def BinOp.isShift : BinOp → Bool
  | .shl | .shr => true
  | _ => false

def pbin (op : BinOp) (x y : PV) : Option PV :=
  match x, y with
  | .int k a, .int k' b => if BinOp.isShift op then pshift op k a b else if k = k' then pint op k a b else none
  | .str a, .str b => pstr op a b
  | _, _ => none

def pun (op : UnOp) (x : PV) : Option PV :=
  match op, x with
  | .neg, .int k n => some (.int k (k.wrap (0 - n)))
  | .xor, .int k n => pint .xor k (if k.signed then -1 else k.max) n
  | .not, .bool b => some (.bool !b)
  | _, _ => none

def Pr.ofO (o : Option PV) (κ : PV → Pr) : Pr :=
  match o with
  | some v => κ v
  | none => .fail

def bytesOf (s : ByteArray) : List PV := s.data.toList.map fun b => .int .u8 b.toNat

def textOf : List PV → Option (List UInt8)
  | [] => some []
  | .int .u8 n :: r => (textOf r).map fun l => UInt8.ofNat n.toNat :: l
  | _ :: _ => none

/-- Cells laid over a row, each at its place. -/
def lay {α : Type} (cells : List α) : List (Nat × List α) → Option (List α)
  | [] => some cells
  | (off, cs) :: r => if off + cs.length ≤ cells.length then lay (cells.take off ++ cs ++ cells.drop (off + cs.length)) r else none

def reps (n : Nat) (z : List PV) : List PV := (List.replicate n z).flatten

/-- An argument of a call: what is handed on (and the place that may be written, whose content it is), or a whole box. -/
inductive GArg where
  | v (x : PX) (src : Option (Nat × Nat × Nat))
  | b (r : Nat)

/-- Where the owner of place (r, k) stands, of the kind of x. -/
def plSrc (x : SV) (r k : Nat) : Nat × Nat × Nat :=
  match x with
  | .tup _ => (r, k, 0)
  | .cv _ => (r, 0, 0)
  | _ => (r, 0, k)

/-- 'take': what is owned is given away. -/
def Pr.arg (take : Bool) (o : Opd) (κ : GArg → Pr) : Pr :=
  match o with
  | .con v => κ (.v (.c (.pv v)) none)
  | .tmp t => .get t fun x => match x.2 with
    | .cv (.pv v) => κ (.v (.c (.pv v)) none)
    | .cv (.own f s cs sp) => if take then .set t (x.1 + 1, .dead) (κ (.v (.c (.own f s cs sp)) none)) else κ (.v (.c (.pv (.sl s cs))) (if f then some (t, 0, 0) else none))
    | .st cs => if take then .set t (x.1, .dead) (κ (.v (.s cs) none)) else Pr.emb o fun v => κ (.v (.c (.pv v)) none)
    | .sref r k gs => if take then Pr.comp r k gs fun c => .updc r k .gone (κ (.v (.s c) none)) else Pr.emb o fun v => κ (.v (.c (.pv v)) none)
    | .box _ => κ (.b t)
    | .ptr r off gs => if off = 0 then .hd r fun y => if y.1 = gs then (match y.2 with | .box => κ (.b r) | _ => .fail) else .fail else .fail
    | .ref r k gs gc => Pr.place r k gs gc fun z c => match c with
      | .own f s cs sp => if take && (match z.2 with | .box _ => false | _ => true) then .chPl r k gc z true .gone (κ (.v (.c (.own f s cs sp)) none)) else κ (.v (.c (.pv (.sl s cs))) (if f then some (plSrc z.2 r k) else none))
      | _ => .fail
    | .view r k gs gc a b => Pr.place r k gs gc fun z c => match c with
      | .own f s cs sp => if take && f && a == 0 && (match z.2 with | .box _ => false | _ => true) then .chPl r k gc z true .gone (κ (.v (.c (.own true s (cs.take b) (cs.drop b ++ sp))) none))
        else κ (.v (.c (.pv (.sl s ((cs.take b).drop a)))) (if f then some (plSrc z.2 r k) else none))
      | _ => .fail
    | _ => .fail

def Pr.args (κ : List GArg → Pr) : List (Bool × Opd) → Pr
  | [] => κ []
  | o :: os => Pr.arg o.1 o.2 fun v => Pr.args (fun vs => κ (v :: vs)) os

def GArg.boxes : List GArg → List Nat
  | [] => []
  | .v _ _ :: r => GArg.boxes r
  | .b t :: r => t :: GArg.boxes r

def once : List Nat → Bool
  | [] => true
  | x :: l => !l.contains x && once l

/-- No box is handed on twice, and none whose slice is handed on too. -/
def GArg.clear (gs : List GArg) : Bool :=
  once (GArg.boxes gs) && gs.all fun g => match g with
    | .v _ (some (r, _)) => !(GArg.boxes gs).contains r
    | _ => true

/-- The place still owns a slice. -/
def Pr.owned (r j i : Nat) (κ : Pr) : Pr :=
  .hd r fun h => match h.2 with
    | .own .. => if j = 0 then (if i = 0 then κ else .fail) else .fail
    | .tup => if i = 0 then .getc r j fun x => (match x.2 with
      | some (.c _ (.own ..)) => κ
      | _ => .fail) else .fail
    | .box => if j = 0 then .get r fun y => (match y.2 with
      | .box cs => (match cs[i]? with
        | some (_, .own ..) => κ
        | _ => .fail)
      | _ => .fail) else .fail
    | .plain => .fail

/-- What the callee is handed. -/
def Pr.fins (κ : List PX → Pr) : List GArg → Pr
  | [] => κ []
  | .v x none :: l => Pr.fins (fun xs => κ (x :: xs)) l
  | .v x (some (r, j, i)) :: l => Pr.owned r j i (Pr.fins (fun xs => κ (x :: xs)) l)
  | .b r :: l => .get r fun y => match y.2 with
    | .box cs => Pr.fins (fun xs => κ (.b (cs.map (·.2)) :: xs)) l
    | _ => .fail

mutual
def PV.noSl : PV → Bool
  | .sl _ _ => false
  | .agg cs => PV.noSls cs
  | _ => true
def PV.noSls : List PV → Bool
  | [] => true
  | c :: cs => c.noSl && PV.noSls cs
end

def CV.noSl : CV → Bool
  | .pv v => v.noSl
  | .own f _ cs sp => f && PV.noSls cs && PV.noSls sp
  | .gone => true

def PX.noSl : PX → Bool
  | .c x => x.noSl
  | .s cs => cs.all CV.noSl
  | .b cs => cs.all CV.noSl

/-- The places named are no more written. -/
def Pr.demote (κ : Pr) : List GArg → Pr
  | [] => κ
  | .v (.c (.pv (.sl s0 _))) (some (r, j, i)) :: l => .hd r fun h => match h.2 with
    | .tup => if i = 0 then .getc r j fun x => (match x.2 with
      | some (.c g (.own _ s c sp)) => if s = s0 then Pr.chPl r j g (x.1, .tup []) false (.own false s c sp) (Pr.demote κ l) else .fail
      | _ => .fail) else .fail
    | .own .. => if j = 0 ∧ i = 0 then .get r fun x => (match x.2 with
      | .cv (.own _ s c sp) => if s = s0 then Pr.chPl r 0 0 x false (.own false s c sp) (Pr.demote κ l) else .fail
      | _ => .fail) else .fail
    | .box => if j = 0 then .get r fun x => (match x.2 with
      | .box cs => (match cs[i]? with
        | some (g, .own _ s c sp) => if s = s0 then Pr.chPl r i g x false (.own false s c sp) (Pr.demote κ l) else .fail
        | _ => .fail)
      | _ => .fail) else .fail
    | .plain => .fail
  | .v _ (some _) :: _ => .fail
  | .v _ none :: l => Pr.demote κ l
  | .b _ :: l => Pr.demote κ l

/-- What the boxes hold behind the call. -/
def Pr.outs (κ : Pr) : List GArg → List (List CV) → Pr
  | [], _ => κ
  | .v _ _ :: l, _ :: os => Pr.outs κ l os
  | .b r :: l, o :: os => .get r fun x => match x.2 with
    | .box cs => if o.length = cs.length then .upd r (x.1, .box ((cs.zip o).map fun p => (p.1.1 + 1, p.2))) (Pr.outs κ l os) else .fail
    | _ => .fail
  | _, _ => .fail

def PX.cmp : PX → Option Cmp
  | .c x => some (.c 0 x)
  | .s cs => some (.s cs)
  | .b _ => none

def Pr.results (d : Option Nat) (rs : List PX) : Pr :=
  match rs with
  | [.c x] => Pr.put d (.cv x)
  | [.s cs] => Pr.put d (.st cs)
  | [.b cs] => Pr.put d (.box (cs.map fun c => (0, c)))
  | rs => match rs.mapM PX.cmp with
    | some cs => Pr.put d (.tup cs)
    | none => .fail

/-- The known cells of a row that a slice operand leads to; a string's bytes. -/
def PV.row (str : Bool) (s : Nat) : PV → Option (List PV)
  | .nils => if str then none else some []
  | .sl s' cs => if str then none else if s' = s then some cs else none
  | .str b => if str then (if s = 1 then some (bytesOf b) else none) else none
  | _ => none

def optRd (o : Option Opd) (κ : Option Int → Pr) : Pr :=
  match o with
  | none => κ none
  | some o => Pr.rd o fun v => asInt v fun n => κ (some n)

/-- Whether a slice may grow so far. -/
def fits (s bytes n : Nat) : Bool := decide (n / s * bytes ≤ 140737488355328)

def stepOp (F : Fns) (d : Option Nat) (o : POp) : Pr :=
  match o with
  | .mv x => (match x with
    | .con v => Pr.put d (.cv (.pv v))
    | .tmp t => if d = some t then .fail else .hd t fun h => match h.2 with
      | .own .. => Pr.put d (.ref t 0 h.1 0)
      | .box => Pr.put d (.ptr t 0 h.1)
      | .tup => .get t fun y => .set t (y.1 + 1, .dead) (Pr.put d y.2)
      | .plain => .get t fun y => match y.2 with
        | .dead => .fail
        | .st cs => .set t (y.1, .dead) (Pr.put d (.st cs))
        | v => Pr.put d v)
  | .asg x => (match x with
    | .con v => Pr.put d (.cv (.pv v))
    | .tmp t => if d = some t then .fail else .get t fun y => match y.2 with
      | .cv (.pv v) => Pr.put d (.cv (.pv v))
      | .cv (.own f s cs sp) => .set t (y.1 + 1, .dead) (Pr.put d (.cv (.own f s cs sp)))
      | .box cs => .set t (y.1 + 1, .dead) (Pr.put d (.box cs))
      | .tup cs => .set t (y.1 + 1, .dead) (Pr.put d (.tup cs))
      | .st cs => .set t (y.1, .dead) (Pr.put d (.st cs))
      | .ref r k gs gc => if d = some r then Pr.place r k gs gc fun z c => (match z.2, c with
          | .cv _, .own .. => .done
          | _, _ => .fail) else Pr.place r k gs gc fun z c => match c with
        | .own f s cs sp => (match z.2 with
          | .box _ => .chPl r k gc z false (.own false s cs sp) (Pr.put d (.cv (.pv (.sl s cs))))
          | _ => .chPl r k gc z true .gone (Pr.put d (.cv (.own f s cs sp))))
        | _ => .fail
      | .view r k gs gc a b => if d = some r then Pr.place r k gs gc fun z c => (match z.2, c with
          | .cv _, .own f s cs sp => if f && a == 0 then .set r (z.1 + 1, .cv (.own true s (cs.take b) (cs.drop b ++ sp))) .done
            else .set r (z.1 + 1, .cv (.pv (.sl s ((cs.take b).drop a)))) .done
          | _, _ => .fail) else Pr.place r k gs gc fun z c => match c with
        | .own f s cs sp => (match z.2 with
          | .box _ => .chPl r k gc z false (.own false s cs sp) (Pr.put d (.cv (.pv (.sl s ((cs.take b).drop a)))))
          | _ => if f && a == 0 then .chPl r k gc z true .gone (Pr.put d (.cv (.own true s (cs.take b) (cs.drop b ++ sp))))
            else .chPl r k gc z false (.own false s cs sp) (Pr.put d (.cv (.pv (.sl s ((cs.take b).drop a))))))
        | _ => .fail
      | .cv .gone => .fail
      | .dead => .fail
      | v => Pr.put d v)
  | .pick c a b => Pr.rd c fun v => match v with
    | .bool q => Pr.rd (if q then a else b) fun x => if x.isSc then Pr.put d (.cv (.pv x)) else .fail
    | _ => .fail
  | .alloc zero => Pr.put d (.box (zero.map fun v => (0, .pv v)))
  | .box x => Pr.tk x fun cs => Pr.put d (.box (cs.map fun c => (0, c)))
  | .build zero parts => Pr.tks (fun vs =>
      if (parts.zip vs).all fun p => p.2.length == p.1.2.1 then
        match lay (zero.map CV.pv) ((parts.zip vs).map fun p => (p.1.1, p.2)) with
        | some cs => if cs.any PV.isRow then Pr.put d (.st cs) else (match cs.mapM CV.view with
          | some ws => Pr.put d (.cv (.pv (.agg ws)))
          | none => .fail)
        | none => .fail
      else .fail) (parts.map fun p => p.2.2)
  | .bsl s zero len parts => Pr.embs (fun vs =>
      if (parts.zip vs).all fun p => p.2.cells.length == s then
        match lay (reps len zero) ((parts.zip vs).map fun p => (p.1.1 * s, p.2.cells)) with
        | some cs => Pr.put d (.cv (.own true s cs []))
        | none => .fail
      else .fail) (parts.map fun p => p.2)
  | .load take n a => (match a with
    | .con _ => .fail
    | .tmp t => .get t fun y => match y.2 with
      | .box cs => loadBox d take n t y cs 0
      | .ptr r off gs => .get r fun z => if z.1 = gs then (match z.2 with | .box cs => loadBox d take n r z cs off | _ => .fail) else .fail
      | .eptr r k gs gc o => Pr.place r k gs gc fun _ c => match c with
        | .own _ _ cs _ => loadRow d n cs o
        | _ => .fail
      | .fptr cs o => loadRow d n cs o
      | _ => .fail)
  | .store n a x => (match a with
    | .con _ => .fail
    | .tmp t => if d.isSome then .fail else .get t fun y => match y.2 with
      | .eptr .. => Pr.emb x fun v => .get t fun y => match y.2 with
        | .eptr r k gs gc o => Pr.place r k gs gc fun z c => (match c with
          | .own f s cs sp => if f then (if v.cells.length = n then (if o + n ≤ cs.length then
              .chPl r k gc z false (.own f s (cs.take o ++ v.cells ++ cs.drop (o + n)) sp) .done else .fail) else .fail) else .fail
          | _ => .fail)
        | _ => .fail
      | _ => takeX x fun c => .get t fun y => match y.2 with
        | .box _ => intoBox n t y.1 0 c
        | .ptr r off gs => intoBox n r gs off c
        | _ => .fail)
  | .nilck x => (match x with
    | .con _ => .fail
    | .tmp t => .hd t fun h => match h.2 with
      | .box => Pr.put d (.ptr t 0 h.1)
      | .plain => .get t fun y => match y.2 with
        | .ptr r off gs => Pr.put d (.ptr r off gs)
        | _ => .fail
      | _ => .fail)
  | .bin op x y => Pr.rd x fun v => Pr.rd y fun u => Pr.ofO (pbin op v u) fun r => Pr.put d (.cv (.pv r))
  | .eqB neg x y => Pr.rd x fun v => Pr.rd y fun u => match v, u with
    | .bool p, .bool q => Pr.put d (.cv (.pv (.bool (if neg then !(p == q) else p == q))))
    | _, _ => .fail
  | .eqNil neg x => Pr.rd x fun v => match v with
    | .nils => Pr.put d (.cv (.pv (.bool !neg)))
    | .sl _ _ => Pr.put d (.cv (.pv (.bool neg)))
    | _ => .fail
  | .un op x => Pr.rd x fun v => Pr.ofO (pun op v) fun r => Pr.put d (.cv (.pv r))
  | .cvInt k x => Pr.rd x fun v => asInt v fun n => Pr.put d (.cv (.pv (.int k (k.wrap n))))
  | .cvStr x => Pr.rd x fun v => match v with
    | .str s => Pr.put d (.cv (.pv (.str s)))
    | _ => .fail
  | .cvBytes x => Pr.rd x fun v => match v with
    | .str s => Pr.put d (.cv (.own true 1 (bytesOf s) []))
    | _ => .fail
  | .cvText x => Pr.rd x fun v => match v with
    | .nils => Pr.put d (.cv (.pv (.str .empty)))
    | .sl s cs => if s = 1 then (match textOf cs with | some l => Pr.put d (.cv (.pv (.str ⟨l.toArray⟩))) | none => .fail) else .fail
    | _ => .fail
  | .cvSame x => (match x with
    | .con _ => .fail
    | .tmp t => if d = some t then .fail else .get t fun y => match y.2 with
      | .cv (.own true s (c :: cs) sp) => .set t (y.1 + 1, .dead) (Pr.put d (.cv (.own true s (c :: cs) sp)))
      | _ => .fail)
  | .slice s x lo hi => optRd lo fun l => optRd hi fun h =>
      let cut (n max : Nat) (κ : Nat → Nat → Pr) : Pr :=
        if 0 ≤ l.getD 0 then (if l.getD 0 ≤ h.getD n then (if h.getD n ≤ max then κ (l.getD 0).toNat (h.getD n).toNat else .fail) else .fail) else .fail
      let part (r k gs gc a b : Nat) : Pr := Pr.place r k gs gc fun z c => match c with
        | .own f s' cs sp => if s' = s then
            (if ((b - a) / s : Nat) < h.getD 0 ∧ l = none ∧ a = 0 ∧ b = cs.length ∧ f = true then
              (if h.getD 0 ≤ ((cs.length + sp.length) / s : Nat) then
                .chPl r k gc z true .gone (Pr.put d (.cv (.own f s (cs ++ sp.take ((h.getD 0).toNat * s - cs.length)) (sp.drop ((h.getD 0).toNat * s - cs.length)))))
              else .fail)
            else cut ((b - a) / s) ((b - a) / s) fun i j => Pr.put d (.view r k gs gc (a + i * s) (a + j * s))) else .fail
        | _ => .fail
      let keep (v : PV) : Pr := match v with
        | .nils => cut 0 0 fun _ _ => Pr.put d (.cv (.pv .nils))
        | .sl s' cs => if s' = s then cut (cs.length / s) (cs.length / s) fun i j => Pr.put d (.cv (.pv (.sl s ((cs.take (j * s)).drop (i * s))))) else .fail
        | _ => .fail
      match x with
      | .con v => keep v
      | .tmp t => .get t fun y => match y.2 with
        | .cv (.own _ _ cs _) => part t 0 y.1 0 0 cs.length
        | .ref r k gs gc => Pr.place r k gs gc fun _ c => match c with
          | .own _ _ cs _ => part r k gs gc 0 cs.length
          | _ => .fail
        | .view r k gs gc a b => part r k gs gc a b
        | .cv (.pv v) => keep v
        | _ => .fail
  | .sliceS x lo hi => optRd lo fun l => optRd hi fun h => Pr.rd x fun v => match v with
    | .str b => if 0 ≤ l.getD 0 then (if l.getD 0 ≤ h.getD b.size then (if h.getD b.size ≤ b.size then
        Pr.put d (.cv (.pv (.str (b.extract (l.getD 0).toNat (h.getD b.size).toNat)))) else .fail) else .fail) else .fail
    | _ => .fail
  | .faddr off x => (match x with
    | .con _ => .fail
    | .tmp t => .hd t fun h => match h.2 with
      | .box => Pr.put d (.ptr t off h.1)
      | .plain => .get t fun y => match y.2 with
        | .ptr r o gs => Pr.put d (.ptr r (o + off) gs)
        | .eptr r k gs gc o => Pr.put d (.eptr r k gs gc (o + off))
        | .fptr cs o => Pr.put d (.fptr cs (o + off))
        | _ => .fail
      | _ => .fail)
  | .field off n x => Pr.emb x fun v => match v with
    | .agg cs => loadRow d n cs off
    | _ => .fail
  | .iaddrA len s x i => Pr.rd i fun v => asInt v fun n => if 0 ≤ n then (if n < len then (match x with
    | .con _ => .fail
    | .tmp t => .hd t fun h => match h.2 with
      | .box => Pr.put d (.ptr t (n.toNat * s) h.1)
      | .plain => .get t fun y => match y.2 with
        | .ptr r o gs => Pr.put d (.ptr r (o + n.toNat * s) gs)
        | .eptr r k gs gc o => Pr.put d (.eptr r k gs gc (o + n.toNat * s))
        | .fptr cs o => Pr.put d (.fptr cs (o + n.toNat * s))
        | _ => .fail
      | _ => .fail) else .fail) else .fail
  | .iaddrS s x i => Pr.rd i fun v => asInt v fun n =>
    let test (s' m : Nat) (κ : Pr) : Pr := if s' = s then (if 0 ≤ n then (if n < (m / s : Nat) then κ else .fail) else .fail) else .fail
    match x with
    | .con _ => .fail
    | .tmp t => .hd t fun h => match h.2 with
      | .own s' m => test s' m (Pr.put d (.eptr t 0 h.1 0 (n.toNat * s)))
      | .plain => .get t fun y => match y.2 with
        | .cv (.pv (.sl s' cs)) => test s' cs.length (Pr.put d (.fptr cs (n.toNat * s)))
        | .ref r k gs gc => Pr.shape r k gs gc fun s' m => test s' m (Pr.put d (.eptr r k gs gc (n.toNat * s)))
        | .view r k gs gc a b => Pr.shape r k gs gc fun s' _ => test s' (b - a) (Pr.put d (.eptr r k gs gc (a + n.toNat * s)))
        | _ => .fail
      | _ => .fail
  | .indexS x i => Pr.rd x fun v => Pr.rd i fun w => asInt w fun n => match v with
    | .str b => if 0 ≤ n then (match b.data.toList[n.toNat]? with | some c => Pr.put d (.cv (.pv (.int .u8 c.toNat))) | none => .fail) else .fail
    | _ => .fail
  | .indexA len s n x i => Pr.emb x fun v => Pr.rd i fun w => asInt w fun j => match v with
    | .agg cs => if 0 ≤ j then (if j < len then loadRow d n cs (j.toNat * s) else .fail) else .fail
    | _ => .fail
  | .extract x i => (match x with
    | .con _ => .fail
    | .tmp t => .getc t i fun y => match y.2 with
      | some (.c _ (.pv v)) => Pr.put d (.cv (.pv v))
      | some (.c g (.own ..)) => Pr.put d (.ref t i y.1 g)
      | some (.s _) => Pr.put d (.sref t i y.1)
      | _ => .fail)
  | .lenS x => Pr.rd x fun v => match v with
    | .str b => Pr.put d (.cv (.pv (.int .i64 b.size)))
    | _ => .fail
  | .len x =>
    let plain : Pr := Pr.rd x fun v => match v with
      | .nils => Pr.put d (.cv (.pv (.int .i64 0)))
      | .sl s cs => Pr.put d (.cv (.pv (.int .i64 (cs.length / s : Nat))))
      | _ => .fail
    match x with
    | .con _ => plain
    | .tmp t => .hd t fun h => match h.2 with
      | .own s n => Pr.put d (.cv (.pv (.int .i64 (n / s : Nat))))
      | .plain => .get t fun y => match y.2 with
        | .ref r k gs gc => Pr.shape r k gs gc fun s n => Pr.put d (.cv (.pv (.int .i64 (n / s : Nat))))
        | .view r k gs gc a b => Pr.shape r k gs gc fun s _ => Pr.put d (.cv (.pv (.int .i64 ((b - a) / s : Nat))))
        | _ => plain
      | _ => .fail
  | .lenC n => Pr.put d (.cv (.pv (.int .i64 n)))
  | .minmax mx x xs => Pr.rd x fun v => Pr.rds (fun vs =>
      Pr.ofO (vs.foldlM (fun a b => match a, b with
        | .int k m, .int _ n => some (.int k (if mx then (if n > m then n else m) else (if n < m then n else m)))
        | _, _ => none) v) fun r => Pr.put d (.cv (.pv r))) xs
  | .append str s bytes x y => Pr.rd y fun v => Pr.ofO ((v.row str s).map (PV.sl s)) fun w => match w with
    | .sl _ new => appendTo d s bytes x new
    | _ => .fail
  | .appendZ s bytes zero x n => Pr.rd n fun v => asInt v fun m =>
      if 0 ≤ m then (if fits s bytes (m.toNat * s) then appendTo d s bytes x (reps m.toNat zero) else .fail) else .fail
  | .call f args => Pr.args (fun gs => if GArg.clear gs then Pr.fins (fun xs =>
      match F f xs with
      | some (rs, os) => if (GArg.boxes gs).isEmpty && rs.all PX.noSl then Pr.results d rs
        else Pr.demote (Pr.outs (Pr.results d rs) gs os) gs
      | none => .fail) gs else .fail) args
  | .mkslice s bytes zero len cap => Pr.rd len fun v => asInt v fun n => Pr.rd cap fun u => asInt u fun c =>
      if 0 ≤ n then (if n ≤ c then (if c.toNat * bytes ≤ 2 ^ 47 then
        Pr.put d (.cv (.own true s (reps n.toNat zero) (reps (c.toNat - n.toNat) zero))) else .fail) else .fail) else .fail
where
  /-- 'append' of these cells: the place that held the slice gives its right away. -/
  appendTo (d : Option Nat) (s bytes : Nat) (x : Opd) (new : List PV) : Pr :=
    let onto (r k gs gc b : Nat) : Pr := Pr.place r k gs gc fun z c => match c with
      | .own f s' cs sp => if s' = s then
          (if f || b == cs.length then
            (if new.length ≤ (cs.drop b ++ sp).length then
              Pr.chPl r k gc z true (if f then .gone else .pv (.sl s cs)) (Pr.put d (.cv (.own f s (cs.take b ++ new) ((cs.drop b ++ sp).drop new.length))))
            else if fits s bytes (b + new.length) then
              Pr.chPl r k gc z true (if f then .gone else .pv (.sl s cs)) (Pr.put d (.cv (.own f s (cs.take b ++ new) [])))
            else .fail) else .fail) else .fail
      | _ => .fail
    let fresh : Pr := if new.length = 0 then Pr.put d (.cv (.pv .nils)) else if fits s bytes new.length then Pr.put d (.cv (.own true s new [])) else .fail
    match x with
    | .con .nils => fresh
    | .con _ => .fail
    | .tmp t => .get t fun y => match y.2 with
      | .cv (.pv .nils) => fresh
      | .cv (.own _ _ cs _) => onto t 0 y.1 0 cs.length
      | .ref r k gs gc => Pr.place r k gs gc fun _ c => match c with
        | .own _ _ cs _ => onto r k gs gc cs.length
        | _ => .fail
      | .view r k gs gc a b => if a = 0 then onto r k gs gc b else .fail
      | _ => .fail
  loadRow (d : Option Nat) (n : Option Nat) (cs : List PV) (o : Nat) : Pr :=
    match n with
    | none => (match cs[o]? with | some v => Pr.put d (.cv (.pv v)) | none => .fail)
    | some n => if o + n ≤ cs.length then Pr.put d (.cv (.pv (.agg ((cs.drop o).take n)))) else .fail
  /-- A box's cells: taken, or each as it may be kept. -/
  loadBox (d : Option Nat) (take : Bool) (n : Option Nat) (r : Nat) (z : Nat × SV) (cs : List (Nat × CV)) (o : Nat) : Pr :=
    match n with
    | none => (match cs[o]? with
      | some (_, .pv v) => Pr.put d (.cv (.pv v))
      | some (g, .own ..) => Pr.put d (.ref r o z.1 g)
      | _ => .fail)
    | some n => if o + n ≤ cs.length then
        if ((cs.drop o).take n).any fun p => PV.isRow p.2 then
          (if take then .upd r (z.1, .box (cs.take o ++ ((cs.drop o).take n).map (fun p => (p.1 + 1, CV.gone)) ++ cs.drop (o + n))) (Pr.put d (.st (((cs.drop o).take n).map (·.2))))
          else match ((cs.drop o).take n).mapM fun p => p.2.view with
            | some vs => .upd r (z.1, .box (cs.take o ++ ((cs.drop o).take n).map (fun p => (p.1, p.2.less)) ++ cs.drop (o + n))) (Pr.put d (.cv (.pv (.agg vs))))
            | none => .fail)
        else match ((cs.drop o).take n).mapM fun p => p.2.view with
          | some vs => Pr.put d (.cv (.pv (.agg vs)))
          | none => .fail
      else .fail
  /-- Cells of what is stored: a slice that is owned moves in. -/
  takeX (x : Opd) (κ : List CV → Pr) : Pr :=
    match x with
    | .con _ => Pr.tk x κ
    | .tmp t => .get t fun y => match y.2 with
      | .ref r k gs gc => Pr.place r k gs gc fun z c => match c with
        | .own f s cs sp => (match z.2 with
          | .box _ => Pr.tk x κ
          | _ => .chPl r k gc z true .gone (κ [.own f s cs sp]))
        | _ => .fail
      | _ => Pr.tk x κ
  /-- Cells into a box. -/
  intoBox (n r gs o : Nat) (c : List CV) : Pr :=
    if c.length = n ∧ c.all CV.here = true then .get r fun z => if z.1 = gs then (match z.2 with
      | .box cs => if o + n ≤ cs.length then
          .upd r (z.1, .box (cs.take o ++ (((cs.drop o).take n).zip c).map (fun p => (if PV.isRow p.1.2 then p.1.1 + 1 else p.1.1, p.2)) ++ cs.drop (o + n))) .done
        else .fail
      | _ => .fail) else .fail else .fail

def step (F : Fns) (o : POper) : Pr :=
  match o.guard with
  | none => stepOp F o.dst o.op
  | some (t, want) => .get t fun x => match x.2 with
    | .cv (.pv (.bool b)) => if b = want then stepOp F o.dst o.op else Pr.put o.dst (.cv (.pv .undef))
    | .cv (.pv .undef) => Pr.put o.dst (.cv (.pv .undef))
    | _ => .fail

/-- What of a slot a step meets: all; the generation and the kind; all but these; one component of a tuple (and the generation). -/
inductive Acc where
  | all
  | head
  | body
  | comp (j : Nat)
  deriving DecidableEq

abbrev Foot := List (Nat × Acc) × List (Nat × Acc)

/-- What a step reads and writes, on this row of slots. -/
def Pr.foot : Pr → Env → Foot
  | .done, _ => ([], [])
  | .fail, _ => ([], [])
  | .get t k, e => ((t, .all) :: ((k (e.at t)).foot e).1, ((k (e.at t)).foot e).2)
  | .hd t k, e => ((t, .head) :: ((k ((e.at t).1, (e.at t).2.hd)).foot e).1, ((k ((e.at t).1, (e.at t).2.hd)).foot e).2)
  | .set t x k, e => ((k.foot (e.set t x)).1, (t, .all) :: (k.foot (e.set t x)).2)
  | .upd t x k, e => ((t, .head) :: (k.foot (e.set t x)).1, (t, .body) :: (k.foot (e.set t x)).2)
  | .getc t j k, e => ((t, .comp j) :: ((k ((e.at t).1, (e.at t).2.cmp j)).foot e).1, ((k ((e.at t).1, (e.at t).2.cmp j)).foot e).2)
  | .updc t j c k, e => ((t, .comp j) :: (k.foot (e.set t ((e.at t).1, .tup ((e.at t).2.cmps.set j c)))).1,
      (t, .comp j) :: (k.foot (e.set t ((e.at t).1, .tup ((e.at t).2.cmps.set j c)))).2)
  | .chk _ _ k, e => k.foot e
  | .br b p q, e => match b with
    | true => p.foot e
    | false => q.foot e
  | .opt o k, e => match o with
    | some v => (k v).foot e
    | none => ([], [])
  | .ans o k, e => match o with
    | some v => (k v).foot e
    | none => ([], [])

/-- A read (or a write) 'r' of a slot does not meet a write 'w' of the same slot. -/
def Acc.apart (r w : Acc) : Bool :=
  match r, w with
  | .head, .body => true
  | .head, .comp _ => true
  | .comp i, .comp j => i != j
  | _, _ => false

def runOps (F : Fns) : List POper → Env → Option Env
  | [], e => some e
  | o :: os, e => match (step F o).run e with
    | some e' => runOps F os e'
    | none => none

def feet (F : Fns) : List POper → Env → List Foot
  | [], _ => []
  | o :: os, e => (step F o).foot e :: (match (step F o).run e with | some e' => feet F os e' | none => [])

/-- No write of one meets a read or a write of the other. -/
def apart (f g : Foot) : Bool :=
  f.2.all (fun w => g.1.all (fun r => w.1 != r.1 || r.2.apart w.2) && g.2.all (fun v => w.1 != v.1 || v.2.apart w.2)) &&
  g.2.all (fun w => f.1.all (fun r => w.1 != r.1 || r.2.apart w.2) && f.2.all (fun v => w.1 != v.1 || v.2.apart w.2))

/-- Two steps that no edge orders touch nothing in common. 'pre': for each step the steps that must lie ahead of it, as a mask. -/
def calmAt (fs : List Foot) (pre : List Nat) : Bool :=
  (List.range fs.length).all fun j => (List.range j).all fun i => (pre.getD j 0).testBit i || apart (fs.getD i ([], [])) (fs.getD j ([], []))

def SV.still (e : Env) : SV → SV
  | .ref r k gs gc => (match e.at r with
    | (g, .cv _) => if g = gs then (if k = 0 then (if gc = 0 then .ref r k 0 0 else .dead) else .dead) else .dead
    | (g, .box cs) => if g = gs then (match cs[k]? with | some p => if p.1 = gc then .ref r k 0 0 else .dead | none => .dead) else .dead
    | (g, .tup cs) => if g = gs then (match cs[k]? with | some (.c g' _) => if g' = gc then .ref r k 0 0 else .dead | _ => .dead) else .dead
    | _ => .dead)
  | .view r k gs gc a b => (match e.at r with
    | (g, .cv _) => if g = gs then (if k = 0 then (if gc = 0 then .view r k 0 0 a b else .dead) else .dead) else .dead
    | (g, .box cs) => if g = gs then (match cs[k]? with | some p => if p.1 = gc then .view r k 0 0 a b else .dead | none => .dead) else .dead
    | (g, .tup cs) => if g = gs then (match cs[k]? with | some (.c g' _) => if g' = gc then .view r k 0 0 a b else .dead | _ => .dead) else .dead
    | _ => .dead)
  | .eptr r k gs gc o => (match e.at r with
    | (g, .cv _) => if g = gs then (if k = 0 then (if gc = 0 then .eptr r k 0 0 o else .dead) else .dead) else .dead
    | (g, .box cs) => if g = gs then (match cs[k]? with | some p => if p.1 = gc then .eptr r k 0 0 o else .dead | none => .dead) else .dead
    | (g, .tup cs) => if g = gs then (match cs[k]? with | some (.c g' _) => if g' = gc then .eptr r k 0 0 o else .dead | _ => .dead) else .dead
    | _ => .dead)
  | .sref r k gs => (match e.at r with
    | (g, .tup _) => if g = gs then .sref r k 0 else .dead
    | _ => .dead)
  | .ptr r off gs => (match e.at r with
    | (g, .box _) => if g = gs then .ptr r off 0 else .dead
    | _ => .dead)
  | .box cs => .box (cs.map fun p => (0, p.2))
  | .tup cs => .tup (cs.map fun | .c _ x => .c 0 x | c => c)
  | v => v

/-- Behind a region: the generations begin anew, and what leads nowhere is gone. -/
def norm (e : Env) : Env := e.map fun x => (0, x.2.still e)

/-- At a loop's head: the slots that live. -/
def clean (live : List Nat) (e : Env) : Env :=
  norm (e.mapIdx fun i x => if live.contains i then x else (x.1 + 1, .dead))

inductive Ex where
  | normal
  | exit (id : Nat)
  | ret
  deriving Inhabited, DecidableEq

abbrev Run := Env → Option (Ex × Env)

def loopN (body : Run) (live : List Nat) : Nat → Run
  | 0, _ => none
  | n + 1, e => match body (clean live e) with
    | some (.normal, e') => loopN body live n e'
    | r => r

def condOf (c : Opd) (e : Env) : Option Bool :=
  match c with
  | .con (.bool b) => some b
  | .con _ => none
  | .tmp t => match (e.at t).2 with
    | .cv (.pv (.bool b)) => some b
    | _ => none

def evalC (F : Fns) (L : Run → List Nat → Run) : PCode → Run
  | .skip, e => some (.normal, e)
  | .reg ops draw live, e => match runOps F ops e with
    | some e' => (match draw with
      | none => some (.normal, clean live e')
      | some pre => if calmAt (feet F ops e) pre then some (.normal, clean live e') else none)
    | none => none
  | .seq a b, e => match evalC F L a e with
    | some (.normal, e') => evalC F L b e'
    | r => r
  | .cond c a b, e => match condOf c e with
    | some true => evalC F L a e
    | some false => evalC F L b e
    | none => none
  | .block id b, e => match evalC F L b e with
    | some (.exit i, e') => some (if i = id then .normal else .exit i, e')
    | r => r
  | .loop live b, e => L (evalC F L b) live e
  | .exit id, e => some (.exit id, e)
  | .scope b, e => evalC F L b e
  | .ret, e => some (.ret, e)

def PX.slot : PX → Nat × SV
  | .c x => (0, .cv x)
  | .s cs => (0, .st cs)
  | .b cs => (0, .box (cs.map fun c => (0, c)))

def entry (ntmps : Nat) (args : List PX) : Env :=
  args.map PX.slot ++ List.replicate (ntmps - args.length) (0, SV.dead)

def SV.px : SV → Option PX
  | .cv c => some (.c c)
  | .st cs => some (.s cs)
  | .box cs => some (.b (cs.map (·.2)))
  | _ => none

/-- What is handed back, written out. -/
def Pr.lay (base : Nat) : List PX → Pr
  | [] => .done
  | x :: xs => .set base (0, x.slot.2) (Pr.lay (base + 1) xs)

/-- The boxes that were handed in, by the slots that hold them still. -/
def finArgs (low : Nat) : Nat → List PX → Option (List (Bool × Opd))
  | _, [] => some []
  | i, .b _ :: r => if i < low then (finArgs low (i + 1) r).map ((false, .tmp i) :: ·) else none
  | i, _ :: r => (finArgs low (i + 1) r).map ((false, .con .nilp) :: ·)

def finRes (nt : Nat) : Nat → List RVar → List (Bool × Opd)
  | _, [] => []
  | j, .tmp t :: r => (true, .tmp t) :: finRes nt (j + 1) r
  | j, .cell _ _ :: r => (true, .tmp (nt + j)) :: finRes nt (j + 1) r

def finLoads (nt : Nat) : Nat → List RVar → List POper
  | _, [] => []
  | j, .tmp _ :: r => finLoads nt (j + 1) r
  | j, .cell t n :: r => { dst := some (nt + j), op := .load true n (.tmp t) } :: finLoads nt (j + 1) r

def RVar.slot : RVar → Nat
  | .tmp t => t
  | .cell t _ => t

def RVar.ok (nt : Nat) (e : Env) : RVar → Bool
  | .tmp t => decide (t < nt)
  | .cell t _ => decide (t < nt) && (e.at t).2.hd == .box

def outOf : PX × PX → Option (List CV)
  | (.b _, .b o) => some o
  | (.b _, _) => none
  | _ => some []

def evalEnd (f : PFn) (args : List PX) (e : Env) : Option (List PX × List (List CV)) :=
  match finArgs f.low 0 args with
  | none => none
  | some as => if e.length = f.ntmps ∧ f.results.all (RVar.ok f.ntmps e) = true then
    (match runOps (fun _ _ => none) (finLoads f.ntmps 0 f.results) (e ++ List.replicate (f.results.length + (args.length + f.results.length)) (0, SV.dead)) with
    | none => none
    | some e1 => match (Pr.args (fun gs => if GArg.clear gs then Pr.fins (Pr.lay (f.ntmps + f.results.length)) gs else .fail) (as ++ finRes f.ntmps 0 f.results)).run e1 with
      | none => none
      | some e2 => match (e2.drop (f.ntmps + f.results.length)).mapM (fun x => x.2.px) with
        | some xs => (match (args.zip xs).mapM outOf with
          | some os => some (xs.drop args.length, os)
          | none => none)
        | none => none)
    else none

def evalFn (F : Fns) (L : Run → List Nat → Run) (f : PFn) (args : List PX) : Option (List PX × List (List CV)) :=
  match evalC F L f.body (entry f.ntmps args) with
  | some (.exit _, _) => none
  | some (_, e) => evalEnd f args e
  | none => none

def evalN (T : FuncId → Option PFn) : Nat → Fns
  | 0, _, _ => none
  | n + 1, f, args => match T f with
    | some fn => evalFn (evalN T n) (fun b live => loopN b live n) fn args
    | none => none
end

section
/- From the model's code to the pure machine's: each operation with its types resolved. -/

def ofConst1 : Value → Option PV
  | .int k n => some (.int k n)
  | .bool b => some (.bool b)
  | .string s => some (.str s)
  | .pointer none => some .nilp
  | .slice none 0 0 => some .nils
  | .nilFunc => some .nilf
  | .nilIface => some .nili
  | _ => none

def ofConst : Value → Option PV
  | .agg cells => (cells.toList.mapM ofConst1).map .agg
  | v => ofConst1 v

def cOpd : Operand → Option Opd
  | .tmp t => some (.tmp t)
  | .const v => (ofConst v).map .con
  | .global _ => none
  | .func f => some (.con (.fn f))

def cOpds (xs : Array Operand) : Option (List Opd) := xs.toList.mapM cOpd

def cOptOpd : Option Operand → Option (Option Opd)
  | none => some none
  | some x => (cOpd x).map some

def isAggT (P : Program) (t : TypeId) : Option Bool :=
  match P.underlying t with
  | some (.struct _) => some true
  | some (.array _ _) => some true
  | some _ => some false
  | none => none

/-- The cells of a value of this type, if it is a struct or an array. -/
def aggOf (P : Program) (t : TypeId) : Option (Option Nat) :=
  match isAggT P t, P.info? t with
  | some true, some i => some (some i.size)
  | some false, some i => if i.size = 1 then some none else none
  | _, _ => none

def sizeT (P : Program) (t : TypeId) : Option Nat :=
  match P.info? t with
  | some i => if i.size = 0 then none else some i.size
  | none => none

def zeroT (P : Program) (t : TypeId) : Option (List PV) :=
  match P.info? t with
  | some i => (match i.zero with
    | some z => if z.cells.size = i.size then z.cells.toList.mapM ofConst1 else none
    | none => none)
  | none => none

def isNilC : Operand → Bool
  | .const (.slice none 0 0) => true
  | _ => false

def cEq (P : Program) (neg : Bool) (t : TypeId) (x y : Operand) : Option POp :=
  match P.underlying t with
  | some (.int _) => do some (.bin (if neg then .neq else .eql) (← cOpd x) (← cOpd y))
  | some .string => do some (.bin (if neg then .neq else .eql) (← cOpd x) (← cOpd y))
  | some .bool => do some (.eqB neg (← cOpd x) (← cOpd y))
  | some (.slice _) => if isNilC y then do some (.eqNil neg (← cOpd x)) else none
  | _ => none

/-- 'tk': for this operation, what is taken (a load: one; a call: one an argument). -/
def cOp (P : Program) (tk : List Bool) (o : Op) : Option POp :=
  match o with
  | .move x => (cOpd x).map .mv
  | .assign x => (cOpd x).map .asg
  | .pick c a b => do some (.pick (← cOpd c) (← cOpd a) (← cOpd b))
  | .alloc e => do if (← sizeT P e) = 0 then none else some (.alloc (← zeroT P e))
  | .box _ x => (cOpd x).map .box
  | .build t parts => do
    let zero ← zeroT P t
    match P.underlying t with
    | some (.struct fs) => do
      let _ ← fs.toList.mapM fun f => P.info? f.type
      let ps ← parts.toList.mapM fun p => do
        let f ← fs[p.1]?
        some (f.offset, ← sizeT P f.type, ← cOpd p.2)
      some (.build zero ps)
    | some (.array _ e) => do
      let s ← sizeT P e
      let ps ← parts.toList.mapM fun p => do some (p.1 * s, s, ← cOpd p.2)
      some (.build zero ps)
    | _ => none
  | .buildSlice t len parts =>
    match P.underlying t with
    | some (.slice e) => do
      let s ← sizeT P e
      if len * s > 2 ^ 24 then none else
      let ps ← parts.toList.mapM fun p => do some (p.1, ← cOpd p.2)
      some (.bsl s (← zeroT P e) len ps)
    | _ => none
  | .load t a => do some (.load (tk.getD 0 false) (← aggOf P t) (← cOpd a))
  | .store t a x => do some (.store (← sizeT P t) (← cOpd a) (← cOpd x))
  | .nilCheck x => (cOpd x).map .nilck
  | .binOp op t x y _ =>
    match op with
    | .eql => cEq P false t x y
    | .neq => cEq P true t x y
    | _ => do some (.bin op (← cOpd x) (← cOpd y))
  | .unOp op _ x => (cOpd x).map (.un op)
  | .convert src dst x =>
    match P.underlying src, P.underlying dst with
    | some (.int _), some (.int k) => (cOpd x).map (.cvInt k)
    | some .string, some .string => (cOpd x).map .cvStr
    | some .string, some (.slice e) => if (P.underlying e matches some (.int .u8)) && P.bytesOf e == 1 && P.cellsOf e == 1 then (cOpd x).map .cvBytes else none
    | some (.slice _), some (.slice e) => if src == dst && (P.underlying e matches some (.int .u8)) then (cOpd x).map .cvSame else none
    | some (.slice e), some .string => if P.underlying e matches some (.int .u8) then (cOpd x).map .cvText else none
    | _, _ => none
  | .slice t x lo hi mx =>
    match mx with
    | some _ => none
    | none => match P.underlying t with
      | some .string => do some (.sliceS (← cOpd x) (← cOptOpd lo) (← cOptOpd hi))
      | some (.slice e) => do some (.slice (← sizeT P e) (← cOpd x) (← cOptOpd lo) (← cOptOpd hi))
      | _ => none
  | .fieldAddr t x f =>
    match P.underlying t with
    | some (.struct fs) => do
      let f ← fs[f]?
      let _ ← sizeT P f.type
      some (.faddr f.offset (← cOpd x))
    | _ => none
  | .field t x f =>
    match P.underlying t with
    | some (.struct fs) => do
      let f ← fs[f]?
      some (.field f.offset (← aggOf P f.type) (← cOpd x))
    | _ => none
  | .indexAddr t x i =>
    match P.underlying t with
    | some (.array n e) => do some (.iaddrA n (← sizeT P e) (← cOpd x) (← cOpd i))
    | some (.slice e) => do some (.iaddrS (← sizeT P e) (← cOpd x) (← cOpd i))
    | _ => none
  | .index t x i =>
    match P.underlying t with
    | some .string => do some (.indexS (← cOpd x) (← cOpd i))
    | some (.array n e) => do some (.indexA n (← sizeT P e) (← aggOf P e) (← cOpd x) (← cOpd i))
    | _ => none
  | .extract x i => (cOpd x).map (.extract · i)
  | .makeSlice t len cap =>
    match P.underlying t with
    | some (.slice e) => do
      let i ← P.info? e
      if i.bytes = 0 then none else some (.mkslice (← sizeT P e) i.bytes (← zeroT P e) (← cOpd len) (← cOpd cap))
    | _ => none
  | .call c =>
    match c.callee with
    | .value (.func f) => (cOpds c.args).map fun xs => .call f (xs.mapIdx fun i x => (tk.getD i false, x))
    | .builtin .len =>
      match c.argTypes[0]?, c.args[0]? with
      | some t, some x => (match P.underlying t with
        | some .string => (cOpd x).map .lenS
        | some (.slice _) => (cOpd x).map .len
        | some (.array n _) => some (.lenC n)
        | _ => none)
      | _, _ => none
    | .builtin .min => do match ← cOpds c.args with
      | x :: y :: xs => some (.minmax false x (y :: xs))
      | _ => none
    | .builtin .max => do match ← cOpds c.args with
      | x :: y :: xs => some (.minmax true x (y :: xs))
      | _ => none
    | .builtin .append =>
      match c.argTypes.toList, c.args.toList with
      | [t, u], [x, y] => (match P.underlying t with
        | some (.slice e) => (match P.underlying u with
          | some (.int _) => do
            let i ← P.info? e
            let s ← sizeT P e
            if i.bytes = 0 then none else some (.appendZ s i.bytes (← zeroT P e) (← cOpd x) (← cOpd y))
          | some .string => do
            let i ← P.info? e
            let s ← sizeT P e
            let _ ← zeroT P e
            if i.bytes = 0 then none else some (.append true s i.bytes (← cOpd x) (← cOpd y))
          | some (.slice _) => do
            let i ← P.info? e
            let s ← sizeT P e
            let _ ← zeroT P e
            if i.bytes = 0 then none else some (.append false s i.bytes (← cOpd x) (← cOpd y))
          | _ => none)
        | _ => none)
      | _, _ => none
    | _ => none
  | _ => none

def cGuard (ops : Array Oper) : Option (Nat × Bool) → Option (Option (Nat × Bool))
  | none => some none
  | some (j, b) => ((ops[j]?).bind (·.dst)).map fun t => some (t, b)

/-- 'tks': the hints by the slot that an operation writes. -/
def cOper (P : Program) (tks : List (Nat × List Bool)) (ops : Array Oper) (o : Oper) : Option POper := do
  some { dst := o.dst, op := ← cOp P ((tks.lookup (o.dst.getD 0)).getD []) o.op, guard := ← cGuard ops o.guard }

/-- Every edge that binds leads back. -/
def edgesOk (ops : Array Oper) : Bool := ops.toList.zipIdx.all fun x => x.1.after.toList.all fun e => !Region.binds .any e || decide (e.on < x.2)

/-- No operation writes one of the first n temporaries. -/
def lowOps (n : Nat) (ops : Array Oper) : Bool := ops.toList.all fun o => match o.dst with | none => true | some d => decide (n ≤ d)

def lowCode (n : Nat) : Code → Bool
  | .region _ ops _ => lowOps n ops
  | .seq a b => lowCode n a && lowCode n b
  | .cond _ a b => lowCode n a && lowCode n b
  | .block _ b => lowCode n b
  | .loop b => lowCode n b
  | .scope b => lowCode n b
  | _ => true

def cCode (P : Program) (tks : List (Nat × List Bool)) : Code → List (List Nat) → Option (PCode × List (List Nat))
  | .skip, h => some (.skip, h)
  | .region _ ops draw, l :: h => do
    let os ← ops.toList.mapM (cOper P tks ops)
    if draw then (if edgesOk ops then some (.reg os (some (CheckFast.beforeF ops).toList) l, h) else none) else some (.reg os none l, h)
  | .seq a b, h => do
    let (a, h) ← cCode P tks a h
    let (b, h) ← cCode P tks b h
    some (.seq a b, h)
  | .cond c a b, h => do
    let c ← cOpd c
    let (a, h) ← cCode P tks a h
    let (b, h) ← cCode P tks b h
    some (.cond c a b, h)
  | .block id b, h => do
    let (b, h) ← cCode P tks b h
    some (.block id b, h)
  | .loop b, l :: h => do
    let (b, h) ← cCode P tks b h
    some (.loop l b, h)
  | .exit id, h => some (.exit id, h)
  | .scope b, h => do
    let (b, h) ← cCode P tks b h
    some (.scope b, h)
  | .ret, h => some (.ret, h)
  | _, _ => none

def cRes (P : Program) : ResultVar → Option RVar
  | .tmp t => some (.tmp t)
  | .cell t ty => (aggOf P ty).map (.cell t)

def cFn (P : Program) (tks : List (Nat × List Bool)) (h : List (List Nat)) (f : Func) : Option PFn := do
  let b ← f.body
  if f.name != "runtime.NumGoroutine" then
    let (c, h') ← cCode P tks b h
    if h' matches [] then some { ntmps := f.ntmps, low := if lowCode f.params.size b then f.params.size else 0, results := ← f.results.toList.mapM (cRes P), body := c } else none
  else none
end

section
/- What a pure value stands for in the model's memory, who owns which cell, and what leaves all that as it was. -/

/-- The owner of a cell: a slot's box; a slice that lies in a slot's place. -/
inductive Owner where
  | box (t : Nat)
  | pl (t j i : Nat)
  | ext
  deriving DecidableEq

def Owner.slot : Owner → Nat
  | .box t => t
  | .pl t _ _ => t
  | .ext => 0

abbrev Owns := Nat → Nat → Option Owner
abbrev Look := Nat → Nat → Option Value

def PV.isCell : PV → Bool
  | .agg _ => false
  | .undef => false
  | _ => true

abbrev cellAt (w : World) (b o : Nat) : Option Value := w.cell? ⟨b, o, none⟩
/-- Whether some cell of the block may be frozen (one behind its end may). -/
def frozenAt (w : World) (b _o : Nat) : Bool :=
  match w.heap[b]? with
  | some (.cells c _ (lo, hi)) => !(lo == hi || c.size ≤ lo)
  | _ => false

theorem frozen_of {w : World} {b o : Nat} {u : Value} (hu : cellAt w b o = some u) (h : frozenAt w b o = false) : w.frozen? ⟨b, o, none⟩ = false := by
  unfold cellAt World.cell? at hu
  unfold frozenAt at h
  unfold World.frozen?
  split at hu
  · rename_i c e fr hb
    simp only at hb
    simp only [hb] at h ⊢
    obtain ⟨lo, hi⟩ := fr
    simp only at h ⊢
    split at hu
    · cases hu
    · have hlt := (Array.getElem?_eq_some_iff.1 hu).1
      simp only [Bool.not_eq_false', Bool.or_eq_true, beq_iff_eq, decide_eq_true_eq] at h
      simp only at hlt ⊢
      rcases h with h | h
      · subst h
        cases hq : decide (lo ≤ o) <;> simp_all
      · simp; omega
  · cases hu

/-- The cells that nobody owns: they never change. -/
def Frz (w : World) (O : Owns) : Look := fun b o => if O b o = none then cellAt w b o else none

inductive FRep (H : Look) : PV → Value → Prop
  | int (k n) : FRep H (.int k n) (.int k n)
  | bool (b) : FRep H (.bool b) (.bool b)
  | str (s) : FRep H (.str s) (.string s)
  | undef : FRep H .undef Go.undef
  | nils : FRep H .nils (.slice none 0 0)
  | sl (s cs b off) (sp : Option Nat) (len cap) (vs : Nat → Value) (h0 : 0 < s) (hsp : sp = none ∨ cap = 0) (hl : cs.length = len * s) (hc : len ≤ cap)
      (hv : ∀ j, j < cs.length → H b (off + j) = some (vs j)) (hr : ∀ (j : Nat) c, cs[j]? = some c → FRep H c (vs j)) (hi : ∀ c ∈ cs, c.isCell = true) :
      FRep H (.sl s cs) (.slice (some ⟨b, off, sp⟩) len cap)
  | agg (cs) (vs : Array Value) (hl : vs.size = cs.length) (hr : ∀ (j : Nat) c v, cs[j]? = some c → vs[j]? = some v → FRep H c v) (hi : ∀ c ∈ cs, c.isCell = true) :
      FRep H (.agg cs) (.agg vs)
  | fn (f) : FRep H (.fn f) (.func (.func f) #[] #[])
  | nilp : FRep H .nilp (.pointer none)
  | nilf : FRep H .nilf .nilFunc
  | nili : FRep H .nili .nilIface

theorem FRep.mono {H H' : Look} (hh : ∀ b o v, H b o = some v → H' b o = some v) {p : PV} {v : Value} (h : FRep H p v) : FRep H' p v := by
  induction h with
  | int k n => exact .int k n
  | bool b => exact .bool b
  | str s => exact .str s
  | undef => exact .undef
  | nils => exact .nils
  | sl s cs b off sp len cap vs h0 hsp hl hc hv hr hi ih => exact .sl s cs b off sp len cap vs h0 hsp hl hc (fun j hj => hh _ _ _ (hv j hj)) ih hi
  | agg cs vs hl hr hi ih => exact .agg cs vs hl ih hi
  | fn f => exact .fn f
  | nilp => exact .nilp
  | nilf => exact .nilf
  | nili => exact .nili

/-- A row of cells stands at this place. -/
def RowAt (H : Look) (G : Look) (b off : Nat) (cs : List PV) : Prop :=
  ∀ (j : Nat) c, cs[j]? = some c → c.isCell = true ∧ ∃ u, G b (off + j) = some u ∧ FRep H c u

theorem RowAt.mono {H H' G G' : Look} {b off : Nat} {cs : List PV} (h : RowAt H G b off cs) (hh : ∀ b o v, H b o = some v → H' b o = some v)
    (hg : ∀ j v, j < cs.length → G b (off + j) = some v → G' b (off + j) = some v) : RowAt H' G' b off cs := by
  intro j c hj
  obtain ⟨hi, u, hu, hf⟩ := h j c hj
  have hlt : j < cs.length := by
    rcases Nat.lt_or_ge j cs.length with h | h
    · exact h
    · rw [List.getElem?_eq_none h] at hj; cases hj
  exact ⟨hi, u, hg j u hlt hu, hf.mono hh⟩

theorem frep_sl {H : Look} {s : Nat} {cs : List PV} {v : Value} :
    FRep H (.sl s cs) v ↔ ∃ b off sp len cap, v = .slice (some ⟨b, off, sp⟩) len cap ∧ (sp = none ∨ cap = 0) ∧ 0 < s ∧ cs.length = len * s ∧ len ≤ cap ∧ RowAt H H b off cs := by
  constructor
  · intro h
    cases h with
    | sl _ _ b off sp len cap vs h0 hsp hl hc hv hr hi =>
      refine ⟨b, off, sp, len, cap, rfl, hsp, h0, hl, hc, fun j c hj => ?_⟩
      have hlt : j < cs.length := by
        rcases Nat.lt_or_ge j cs.length with h | h
        · exact h
        · rw [List.getElem?_eq_none h] at hj; cases hj
      exact ⟨hi c (List.mem_of_getElem? hj), vs j, hv j hlt, hr j c hj⟩
  · rintro ⟨b, off, sp, len, cap, rfl, hsp, h0, hl, hc, hr⟩
    refine .sl s cs b off sp len cap (fun j => (H b (off + j)).getD Go.undef) h0 hsp hl hc ?_ ?_ ?_
    · intro j hj
      obtain ⟨_, u, hu, _⟩ := hr j cs[j] (List.getElem?_eq_getElem hj)
      rw [hu]; rfl
    · intro j c hj
      obtain ⟨_, u, hu, hf⟩ := hr j c hj
      rw [hu]; exact hf
    · intro c hc
      obtain ⟨j, hj, rfl⟩ := List.getElem_of_mem hc
      exact (hr j _ (List.getElem?_eq_getElem hj)).1

theorem frep_sl_mk {H : Look} {s : Nat} {cs : List PV} {v : Value} (h : ∃ b off len cap, v = .slice (some ⟨b, off, none⟩) len cap ∧ 0 < s ∧ cs.length = len * s ∧ len ≤ cap ∧ RowAt H H b off cs) : FRep H (.sl s cs) v := by
  obtain ⟨b, off, len, cap, h1, h2⟩ := h
  exact frep_sl.2 ⟨b, off, none, len, cap, h1, .inl rfl, h2⟩

theorem frep_agg {H : Look} {cs : List PV} {v : Value} :
    FRep H (.agg cs) v ↔ ∃ vs : Array Value, v = .agg vs ∧ vs.size = cs.length ∧ ∀ (j : Nat) c, cs[j]? = some c → c.isCell = true ∧ ∃ u, vs[j]? = some u ∧ FRep H c u := by
  constructor
  · intro h
    cases h with
    | agg _ vs hl hr hi =>
      refine ⟨vs, rfl, hl, fun j c hj => ?_⟩
      have hlt : j < cs.length := by
        rcases Nat.lt_or_ge j cs.length with h | h
        · exact h
        · rw [List.getElem?_eq_none h] at hj; cases hj
      have hv : vs[j]? = some (vs[j]'(by omega)) := Array.getElem?_eq_getElem (by omega)
      exact ⟨hi c (List.mem_of_getElem? hj), _, hv, hr j c _ hj hv⟩
  · rintro ⟨vs, rfl, hl, hr⟩
    refine .agg cs vs hl ?_ ?_
    · intro j c v hj hv
      obtain ⟨_, u, hu, hf⟩ := hr j c hj
      rw [hu] at hv; cases hv; exact hf
    · intro c hc
      obtain ⟨j, hj, rfl⟩ := List.getElem_of_mem hc
      exact (hr j _ (List.getElem?_eq_getElem hj)).1

/-- An owned slice: where it lies, who owns which of its cells, what they hold. -/
structure OwnRep (w : World) (O : Owns) (p : Owner) (f : Bool) (s : Nat) (cs sp : List PV) (b off len cap : Nat) : Prop where
  pos : 0 < s
  len_eq : cs.length = len * s
  le : len ≤ cap
  room : cs.length + sp.length ≤ cap * s
  cell : ∀ j, j < cap * s → (∃ u, cellAt w b (off + j) = some u) ∧ frozenAt w b (off + j) = false
  mine : ∀ j, j < cap * s → (f = true ∨ cs.length ≤ j) → O b (off + j) = some p
  free : f = false → ∀ j, j < cs.length → O b (off + j) = none
  row : RowAt (Frz w O) (cellAt w) b off (cs ++ sp)

def CRep (w : World) (O : Owns) (p : Owner) : CV → Value → Prop
  | .pv x, v => FRep (Frz w O) x v
  | .own f s cs sp, v => ∃ b off len cap, v = .slice (some ⟨b, off, none⟩) len cap ∧ OwnRep w O p f s cs sp b off len cap
  | .gone, _ => True

def CV.isCell : CV → Bool
  | .pv x => x.isCell
  | _ => true

/-- A cell of a struct. -/
def CellRep (w : World) (O : Owns) (p : Owner) (c : CV) (v : Value) : Prop := c.isCell = true ∧ CRep w O p c v

/-- A struct by value. -/
def StRep (w : World) (O : Owns) (t j : Nat) (cs : List CV) (v : Value) : Prop :=
  ∃ vs : Array Value, v = .agg vs ∧ vs.size = cs.length ∧ ∀ (i : Nat) c, cs[i]? = some c → ∃ u, vs[i]? = some u ∧ CellRep w O (.pl t j i) c u

def BoxRep (w : World) (O : Owns) (t : Nat) (cs : List (Nat × CV)) (v : Value) : Prop :=
  ∃ b, v = .pointer (some ⟨b, 0, none⟩) ∧ ∀ (i : Nat) p, cs[i]? = some p →
    O b i = some (.box t) ∧ frozenAt w b i = false ∧ ∃ u, cellAt w b i = some u ∧ CellRep w O (.pl t 0 i) p.2 u

def CmpRep (w : World) (O : Owns) (t j : Nat) : Cmp → Value → Prop
  | .c _ x, v => CRep w O (.pl t j 0) x v
  | .s cs, v => StRep w O t j cs v
  | .gone, _ => True

def TupRep (w : World) (O : Owns) (t : Nat) (cs : List Cmp) (v : Value) : Prop :=
  ∃ vs : Array Value, v = .tuple vs ∧ vs.size = cs.length ∧ ∀ (j : Nat) m, cs[j]? = some m → ∃ u, vs[j]? = some u ∧ CmpRep w O t j m u

def FptrRep (H : Look) (cs : List PV) (o : Nat) (v : Value) : Prop :=
  ∃ b off, v = .pointer (some ⟨b, off + o, none⟩) ∧ RowAt H H b off cs

/-- What a slot's content stands for in memory. -/
def MRep (w : World) (O : Owns) (t : Nat) : SV → Value → Prop
  | .cv c, v => CRep w O (.pl t 0 0) c v
  | .st cs, v => StRep w O t 0 cs v
  | .box cs, v => BoxRep w O t cs v
  | .tup cs, v => TupRep w O t cs v
  | .fptr cs o, v => FptrRep (Frz w O) cs o v
  | _, _ => True

/-- From (w, O) to (w', O'): the cells that nobody owns, and those whose owner is not in T, are as they were. -/
def Keep (T : Owner → Prop) (w : World) (O : Owns) (w' : World) (O' : Owns) : Prop :=
  ∀ b o u, cellAt w b o = some u → (∀ q, O b o = some q → ¬ T q) → cellAt w' b o = some u ∧ O' b o = O b o ∧ frozenAt w' b o = frozenAt w b o

theorem Keep.refl (T : Owner → Prop) (w : World) (O : Owns) : Keep T w O w O := fun _ _ _ h _ => ⟨h, rfl, rfl⟩
theorem Keep.mono {T T' : Owner → Prop} {w w' : World} {O O' : Owns} (h : Keep T w O w' O') (ht : ∀ q, T q → T' q) : Keep T' w O w' O' :=
  fun b o u hu hq => h b o u hu fun q e hT => hq q e (ht q hT)
theorem Keep.trans {T : Owner → Prop} {w w' w'' : World} {O O' O'' : Owns} (h : Keep T w O w' O') (h' : Keep T w' O' w'' O'') : Keep T w O w'' O'' := by
  intro b o u hu hq
  obtain ⟨h1, h2, h3⟩ := h b o u hu hq
  obtain ⟨k1, k2, k3⟩ := h' b o u h1 (by rw [h2]; exact hq)
  exact ⟨k1, k2.trans h2, k3.trans h3⟩
theorem Keep.frz {T : Owner → Prop} {w w' : World} {O O' : Owns} (h : Keep T w O w' O') : ∀ b o v, Frz w O b o = some v → Frz w' O' b o = some v := by
  intro b o v hv
  unfold Frz at hv ⊢
  by_cases hO : O b o = none
  · rw [if_pos hO] at hv
    obtain ⟨h1, h2, _⟩ := h b o v hv (by rw [hO]; intro q hq; cases hq)
    rw [h2, if_pos hO]; exact h1
  · rw [if_neg hO] at hv; cases hv

theorem OwnRep.keep {T : Owner → Prop} {w w' : World} {O O' : Owns} (h : Keep T w O w' O') {p : Owner} (hp : ¬ T p) {f : Bool} {s : Nat} {cs sp : List PV} {b off len cap : Nat}
    (r : OwnRep w O p f s cs sp b off len cap) : OwnRep w' O' p f s cs sp b off len cap := by
  have key : ∀ j, j < cap * s → ∀ u, cellAt w b (off + j) = some u → cellAt w' b (off + j) = some u ∧ O' b (off + j) = O b (off + j) ∧ frozenAt w' b (off + j) = frozenAt w b (off + j) := by
    intro j hj u hu
    refine h b (off + j) u hu ?_
    intro q hq
    cases f with
    | true => rw [r.mine j hj (.inl rfl)] at hq; cases hq; exact hp
    | false =>
      rcases Nat.lt_or_ge j cs.length with hlt | hge
      · rw [r.free rfl j hlt] at hq; cases hq
      · rw [r.mine j hj (.inr hge)] at hq; cases hq; exact hp
  refine ⟨r.pos, r.len_eq, r.le, r.room, ?_, ?_, ?_, ?_⟩
  · intro j hj
    obtain ⟨⟨u, hu⟩, hf⟩ := r.cell j hj
    obtain ⟨k1, k2, k3⟩ := key j hj u hu
    exact ⟨⟨u, k1⟩, k3.trans hf⟩
  · intro j hj hh
    obtain ⟨⟨u, hu⟩, hf⟩ := r.cell j hj
    rw [(key j hj u hu).2.1]; exact r.mine j hj hh
  · intro hf j hj
    have hjc : j < cap * s := by have := r.room; omega
    obtain ⟨⟨u, hu⟩, _⟩ := r.cell j hjc
    rw [(key j hjc u hu).2.1]; exact r.free hf j hj
  · exact r.row.mono h.frz (fun j v hj hv => (key j (by have := r.room; rw [List.length_append] at hj; omega) v hv).1)

theorem CRep.keep {T : Owner → Prop} {w w' : World} {O O' : Owns} (h : Keep T w O w' O') {p : Owner} {c : CV} (hp : PV.isRow c = true → ¬ T p) {v : Value} (r : CRep w O p c v) : CRep w' O' p c v := by
  cases c with
  | pv x => exact FRep.mono h.frz r
  | own f s cs sp => obtain ⟨b, off, len, cap, hv, hr⟩ := r; exact ⟨b, off, len, cap, hv, hr.keep h (hp rfl)⟩
  | gone => trivial

theorem StRep.keep {T : Owner → Prop} {w w' : World} {O O' : Owns} (h : Keep T w O w' O') {t j : Nat} {cs : List CV} (hp : ∀ (i : Nat) c, cs[i]? = some c → PV.isRow c = true → ¬ T (.pl t j i)) {v : Value} (r : StRep w O t j cs v) : StRep w' O' t j cs v := by
  obtain ⟨vs, hv, hs, hr⟩ := r
  refine ⟨vs, hv, hs, fun i c hc => ?_⟩
  obtain ⟨u, hu, hi, hcr⟩ := hr i c hc
  exact ⟨u, hu, hi, hcr.keep h (hp i c hc)⟩

theorem BoxRep.keep {T : Owner → Prop} {w w' : World} {O O' : Owns} (h : Keep T w O w' O') {t : Nat} {cs : List (Nat × CV)} (hb : ¬ T (.box t)) (hp : ∀ (i : Nat) p, cs[i]? = some p → PV.isRow p.2 = true → ¬ T (.pl t 0 i))
    {v : Value} (r : BoxRep w O t cs v) : BoxRep w' O' t cs v := by
  obtain ⟨b, hv, hr⟩ := r
  refine ⟨b, hv, fun i p hc => ?_⟩
  obtain ⟨ho, hf, u, hu, hi, hcr⟩ := hr i p hc
  obtain ⟨k1, k2, k3⟩ := h b i u hu (by rw [ho]; intro q hq; cases hq; exact hb)
  exact ⟨k2.trans ho, k3.trans hf, u, k1, hi, hcr.keep h (hp i p hc)⟩

/-- The owners that a slot's content needs. -/
def Uses (t : Nat) : SV → Owner → Prop
  | .cv c, q => PV.isRow c = true ∧ q = .pl t 0 0
  | .st cs, q => ∃ (i : Nat) (c : CV), cs[i]? = some c ∧ PV.isRow c = true ∧ q = .pl t 0 i
  | .box cs, q => q = .box t ∨ ∃ (i : Nat) (p : Nat × CV), cs[i]? = some p ∧ PV.isRow p.2 = true ∧ q = .pl t 0 i
  | .tup ms, q => ∃ (j : Nat) (m : Cmp), ms[j]? = some m ∧ match m with
    | .c _ x => PV.isRow x = true ∧ q = .pl t j 0
    | .s cs => ∃ (i : Nat) (c : CV), cs[i]? = some c ∧ PV.isRow c = true ∧ q = .pl t j i
    | .gone => False
  | _, _ => False

theorem Uses.slot {t : Nat} {x : SV} {q : Owner} (h : Uses t x q) : q.slot = t := by
  cases x with
  | cv c => obtain ⟨_, rfl⟩ := h; rfl
  | st cs => obtain ⟨i, c, _, _, rfl⟩ := h; rfl
  | box cs => rcases h with rfl | ⟨i, p, _, _, rfl⟩ <;> rfl
  | tup ms =>
    obtain ⟨j, m, _, hm⟩ := h
    cases m with
    | c g x => obtain ⟨_, rfl⟩ := hm; rfl
    | s cs => obtain ⟨i, c, _, _, rfl⟩ := hm; rfl
    | gone => exact hm.elim
  | _ => exact h.elim

theorem Uses.ext {t : Nat} {x : SV} (h : Uses t x .ext) : False := by
  cases x with
  | cv c => exact absurd h.2 (by simp)
  | st cs => obtain ⟨i, c, _, _, e⟩ := h; cases e
  | box cs => rcases h with e | ⟨i, p, _, _, e⟩ <;> cases e
  | tup ms =>
    obtain ⟨j, m, _, hm⟩ := h
    cases m with
    | c g x => exact absurd hm.2 (by simp)
    | s cs => obtain ⟨i, c, _, _, e⟩ := hm; cases e
    | gone => exact hm.elim
  | _ => exact h.elim

theorem MRep.keep {T : Owner → Prop} {w w' : World} {O O' : Owns} (h : Keep T w O w' O') {t : Nat} {x : SV} (hp : ∀ q, Uses t x q → ¬ T q) {v : Value} (r : MRep w O t x v) : MRep w' O' t x v := by
  cases x with
  | cv c => exact CRep.keep h (fun hr => hp _ ⟨hr, rfl⟩) r
  | st cs => exact StRep.keep h (fun i c hc hr => hp _ ⟨i, c, hc, hr, rfl⟩) r
  | box cs => exact BoxRep.keep h (hp _ (.inl rfl)) (fun i p hc hr => hp _ (.inr ⟨i, p, hc, hr, rfl⟩)) r
  | tup cs =>
    obtain ⟨vs, hv, hs, hr⟩ := r
    refine ⟨vs, hv, hs, fun j m hm => ?_⟩
    obtain ⟨u, hu, hmr⟩ := hr j m hm
    refine ⟨u, hu, ?_⟩
    cases m with
    | c g y => exact CRep.keep h (fun hr => hp _ ⟨j, _, hm, hr, rfl⟩) hmr
    | s cs => exact StRep.keep h (fun i c hc hr => hp _ ⟨j, _, hm, i, c, hc, hr, rfl⟩) hmr
    | gone => trivial
  | fptr cs o =>
    obtain ⟨b, off, hv, hr⟩ := r
    exact ⟨b, off, hv, hr.mono h.frz (fun j v _ hv => h.frz _ _ _ hv)⟩
  | dead => trivial
  | ref r k gs gc => trivial
  | view r k gs gc a b => trivial
  | sref r k gs => trivial
  | ptr r off gs => trivial
  | eptr r k gs gc o => trivial

/-! ## What leads to places -/

/-- The value (a slice's header) in place k of what a slot holds. -/
def hdrAt (w : World) (x : SV) (v : Value) (k : Nat) : Option Value :=
  match x with
  | .cv _ => some v
  | .box _ => (match v with | .pointer (some a) => cellAt w a.block k | _ => none)
  | .tup _ => (match v with | .tuple vs => vs[k]? | _ => none)
  | _ => none

/-- The content of place (k) at these generations. -/
def live (x : Nat × SV) (k gs gc : Nat) : Option CV :=
  if x.1 = gs then
    match x.2 with
    | .cv c => if k = 0 then (if gc = 0 then some c else none) else none
    | .box cs => (match cs[k]? with | some p => if p.1 = gc then some p.2 else none | none => none)
    | .tup cs => (match cs[k]? with | some (.c g c) => if g = gc then some c else none | _ => none)
    | _ => none
  else none

/-- A reference that may be held: it is not of the future, and if it leads somewhere it leads to an owned slice. -/
def RefOK (x : Nat × SV) (k gs gc : Nat) : Prop :=
  gs ≤ x.1 ∧ (gs = x.1 → match x.2 with
    | .cv c => PV.isRow c = true
    | .box cs => ∃ p, cs[k]? = some p ∧ gc ≤ p.1 ∧ (gc = p.1 → PV.isRow p.2 = true)
    | .tup cs => ∃ m, cs[k]? = some m ∧ (match m with | .c g c => gc ≤ g ∧ (gc = g → PV.isRow c = true) | _ => True)
    | _ => False)

def sameRow (c c' : CV) : Prop := ∃ f s cs sp f' cs' sp', c = .own f s cs sp ∧ c' = .own f' s cs' sp' ∧ cs'.length = cs.length

theorem sameRow.refl_of {c : CV} (h : PV.isRow c = true) : sameRow c c := by
  cases c with
  | own f s cs sp => exact ⟨f, s, cs, sp, f, cs, sp, rfl, rfl, rfl⟩
  | pv x => cases h
  | gone => cases h

/-- What the slots lead to. -/
def ARep (env : Env) (tmps : Array Value) (w : World) : SV → Value → Prop
  | .ref r k gs gc, v => RefOK (env.at r) k gs gc ∧ ∀ c, live (env.at r) k gs gc = some c → hdrAt w (env.at r).2 (tmps.getD r undef) k = some v
  | .view r k gs gc a b, v => RefOK (env.at r) k gs gc ∧ ∀ f s cs sp, live (env.at r) k gs gc = some (.own f s cs sp) →
      a ≤ b ∧ b ≤ cs.length ∧ (∃ i, a = i * s) ∧ (∃ j, b = j * s) ∧
      ∃ bl off len cap, hdrAt w (env.at r).2 (tmps.getD r undef) k = some (.slice (some ⟨bl, off, none⟩) len cap) ∧
        ∃ off', v = .slice (some ⟨bl, off', none⟩) ((b - a) / s) (cap - a / s) ∧ (off' = off + a ∨ (a = b ∧ a ≠ 0))
  | .sref r k gs, v => gs ≤ (env.at r).1 ∧ (gs = (env.at r).1 → (env.at r).2.hd = .tup ∧ hdrAt w (env.at r).2 (tmps.getD r undef) k = some v)
  | .ptr r off gs, v => gs ≤ (env.at r).1 ∧ ∃ b, v = .pointer (some ⟨b, off, none⟩) ∧ (gs = (env.at r).1 → (env.at r).2.hd = .box ∧ tmps.getD r undef = .pointer (some ⟨b, 0, none⟩))
  | .eptr r k gs gc o, v => RefOK (env.at r) k gs gc ∧ ∃ bl off, v = .pointer (some ⟨bl, off + o, none⟩) ∧ ∀ c, live (env.at r) k gs gc = some c →
      ∃ len cap, hdrAt w (env.at r).2 (tmps.getD r undef) k = some (.slice (some ⟨bl, off, none⟩) len cap)
  | _, _ => True

/-- What a slot may become, for those that lead to it. -/
structure RootStep (x x' : Nat × SV) (v v' : Value) (w w' : World) : Prop where
  le : x.1 ≤ x'.1
  hd : x'.1 = x.1 → x.2.hd ≠ .plain → x'.2.hd = x.2.hd ∧ v' = v
  ok : ∀ k gs gc, RefOK x k gs gc → RefOK x' k gs gc
  live : ∀ k gs gc c', RefOK x k gs gc → live x' k gs gc = some c' → ∃ c, live x k gs gc = some c ∧ sameRow c c' ∧ hdrAt w' x'.2 v' k = hdrAt w x.2 v k

theorem hdrAt_tup {w w' : World} {x x' : SV} {v : Value} {k : Nat} (h : x.hd = .tup) (h' : x'.hd = .tup) : hdrAt w' x' v k = hdrAt w x v k := by
  cases x with
  | tup cs =>
    cases x' with
    | tup cs' => rfl
    | cv c => cases c <;> cases h'
    | _ => cases h'
  | cv c => cases c <;> cases h
  | _ => cases h

theorem ARep.step {env env' : Env} {tmps tmps' : Array Value} {w w' : World} (h : ∀ r, RootStep (env.at r) (env'.at r) (tmps.getD r undef) (tmps'.getD r undef) w w') {x : SV} {v : Value}
    (a : ARep env tmps w x v) : ARep env' tmps' w' x v := by
  cases x with
  | ref r k gs gc =>
    refine ⟨(h r).ok _ _ _ a.1, fun c' hc' => ?_⟩
    obtain ⟨c, hc, _, hh⟩ := (h r).live k gs gc c' a.1 hc'
    rw [hh]; exact a.2 c hc
  | view r k gs gc i j =>
    refine ⟨(h r).ok _ _ _ a.1, fun f s cs sp hc' => ?_⟩
    obtain ⟨c, hc, hs, hh⟩ := (h r).live k gs gc _ a.1 hc'
    obtain ⟨f0, s0, cs0, sp0, f1, cs1, sp1, rfl, e, hl⟩ := hs
    cases e
    rw [hh, hl]; exact a.2 f0 s cs0 sp0 hc
  | sref r k gs =>
    refine ⟨Nat.le_trans a.1 (h r).le, fun e => ?_⟩
    have h1 := (h r).le
    have h2 := a.1
    obtain ⟨hk, hv⟩ := a.2 (by omega)
    obtain ⟨hk', hv'⟩ := (h r).hd (by omega) (by rw [hk]; decide)
    refine ⟨hk'.trans hk, ?_⟩
    rw [hv', hdrAt_tup hk (hk'.trans hk)]; exact hv
  | ptr r off gs =>
    obtain ⟨h2, b, hv, a2⟩ := a
    refine ⟨Nat.le_trans h2 (h r).le, b, hv, fun e => ?_⟩
    have h1 := (h r).le
    obtain ⟨hk, hb⟩ := a2 (by omega)
    obtain ⟨hk', hv'⟩ := (h r).hd (by omega) (by rw [hk]; decide)
    exact ⟨hk'.trans hk, by rw [hv']; exact hb⟩
  | eptr r k gs gc o =>
    obtain ⟨a1, bl, off, hv, a2⟩ := a
    refine ⟨(h r).ok _ _ _ a1, bl, off, hv, fun c' hc' => ?_⟩
    obtain ⟨c, hc, _, hh⟩ := (h r).live k gs gc c' a1 hc'
    rw [hh]; exact a2 c hc
  | _ => trivial

/-- A slot written anew: its generation has passed, or it held nothing that one could lead to. -/
theorem RootStep.new {x x' : Nat × SV} {v v' : Value} {w w' : World} (h : x.1 < x'.1 ∨ (x.1 = x'.1 ∧ x.2.hd = .plain)) : RootStep x x' v v' w w' := by
  have key : ∀ k gs gc, RefOK x k gs gc → gs < x'.1 := by
    intro k gs gc hr
    rcases h with h | ⟨h, hp⟩
    · exact Nat.lt_of_le_of_lt hr.1 h
    · rcases Nat.lt_or_ge gs x.1 with hlt | hge
      · omega
      · have e : gs = x.1 := Nat.le_antisymm hr.1 hge
        have := hr.2 e
        cases hx : x.2 with
        | cv c => cases c <;> simp_all [SV.hd, PV.isRow]
        | box cs => simp_all [SV.hd]
        | tup cs => simp_all [SV.hd]
        | _ => simp_all
  refine ⟨by rcases h with h | h <;> omega, ?_, ?_, ?_⟩
  · intro e hp
    rcases h with h | ⟨_, h⟩
    · omega
    · exact absurd h hp
  · intro k gs gc hr
    have := key k gs gc hr
    exact ⟨by omega, fun e => by omega⟩
  · intro k gs gc c' hr hl
    have := key k gs gc hr
    unfold Go.Proofs.Ytcngkdickmahhaa.live at hl
    rw [if_neg (by omega)] at hl
    cases hl

/-- The cells of a box (or nothing) that those who lead to it see. -/
theorem RootStep.same {x : Nat × SV} {v : Value} {w w' : World} (h : ∀ cs b k p, x.2 = .box cs → v = .pointer (some ⟨b, 0, none⟩) → cs[k]? = some p → cellAt w' b k = cellAt w b k)
    (hv : ∀ cs, x.2 = .box cs → ∃ b, v = .pointer (some ⟨b, 0, none⟩)) : RootStep x x v v w w' := by
  refine ⟨Nat.le_refl _, fun _ _ => ⟨rfl, rfl⟩, fun _ _ _ h => h, ?_⟩
  intro k gs gc c' hr hl
  refine ⟨c', hl, ?_, ?_⟩
  · have e : gs = x.1 := by
      unfold Go.Proofs.Ytcngkdickmahhaa.live at hl
      split at hl
      · rename_i e; exact e.symm
      · cases hl
    have h2 := hr.2 e
    unfold Go.Proofs.Ytcngkdickmahhaa.live at hl
    rw [if_pos e.symm] at hl
    cases hx : x.2 with
    | cv c =>
      rw [hx] at hl h2; simp only at hl h2
      split at hl
      · split at hl
        · cases hl; exact sameRow.refl_of h2
        · cases hl
      · cases hl
    | box cs =>
      rw [hx] at hl h2; simp only at hl h2
      obtain ⟨p, hp, _, hi⟩ := h2
      rw [hp] at hl; simp only at hl
      split at hl
      · rename_i e'; cases hl; exact sameRow.refl_of (hi e'.symm)
      · cases hl
    | tup cs =>
      rw [hx] at hl h2; simp only at hl h2
      obtain ⟨m, hm, hi⟩ := h2
      rw [hm] at hl
      cases m with
      | c g c =>
        simp only at hl hi
        split at hl
        · rename_i e'; cases hl; exact sameRow.refl_of (hi.2 e'.symm)
        · cases hl
      | _ => cases hl
    | _ => rw [hx] at hl; cases hl
  · cases hx : x.2 with
    | box cs =>
      obtain ⟨b, hb⟩ := hv cs hx
      subst hb
      unfold Go.Proofs.Ytcngkdickmahhaa.live at hl
      rw [hx] at hl
      split at hl
      · simp only at hl
        cases hk : cs[k]? with
        | none => rw [hk] at hl; cases hl
        | some p => exact h cs b k p hx rfl hk
      · cases hl
    | _ => rfl

/-- The whole: a row of slots stands for a row of the model's temporaries. -/
structure Inv (env : Env) (tmps : Array Value) (w : World) (O : Owns) : Prop where
  len : env.length = tmps.size
  bnd : ∀ b o q, O b o = some q → b < w.heap.size
  mem : ∀ t, MRep w O t (env.at t).2 (tmps.getD t undef)
  ali : ∀ t, ARep env tmps w (env.at t).2 (tmps.getD t undef)
end

section
/- How a row of slots that stands for the model's temporaries is turned, and stands for them still. -/

theorem at_set (e : Env) (t : Nat) (x : Nat × SV) (r : Nat) : Env.at (e.set t x) r = if r = t ∧ t < e.length then x else e.at r := by
  unfold Env.at
  simp only [List.getD_eq_getElem?_getD, List.getElem?_set]
  by_cases h : t = r
  · subst h
    by_cases hl : t < e.length
    · simp [hl]
    · simp [hl]
  · have h' : ¬ r = t := fun e => h e.symm
    simp [h, h']

theorem at_set_ne (e : Env) {t r : Nat} (x : Nat × SV) (h : r ≠ t) : Env.at (e.set t x) r = e.at r := by
  rw [at_set, if_neg (fun k => h k.1)]

theorem at_set_same (e : Env) {t : Nat} (x : Nat × SV) (h : t < e.length) : Env.at (e.set t x) t = x := by
  rw [at_set, if_pos ⟨rfl, h⟩]

theorem at_out (e : Env) {t : Nat} (h : e.length ≤ t) : Env.at e t = (0, .dead) := by
  unfold Env.at; simp [List.getElem?_eq_none h]

theorem tmp_set (a : Array Value) (d : Nat) (v : Value) (r : Nat) : (a.setIfInBounds d v).getD r undef = if r = d ∧ d < a.size then v else a.getD r undef := by
  simp only [Array.getD_eq_getD_getElem?, Array.getElem?_setIfInBounds]
  by_cases h : d = r
  · subst h
    by_cases hl : d < a.size
    · simp [hl]
    · simp [hl]
  · have h' : ¬ r = d := fun e => h e.symm
    simp [h, h']

/-- What a step of the walk may do to the rest: the cells that nobody owns stay, and stay so. -/
structure Evo (w : World) (O : Owns) (w' : World) (O' : Owns) : Prop where
  os : w'.os = w.os
  tape : w'.tape = w.tape
  output : w'.output = w.output
  size : w.heap.size ≤ w'.heap.size
  block : ∀ b, b < w.heap.size → (∀ o, O b o = none) → w'.heap[b]? = w.heap[b]?
  cell : ∀ b o, b < w.heap.size → O b o = none → O' b o = none ∧ cellAt w' b o = cellAt w b o ∧ frozenAt w' b o = frozenAt w b o
  ext : ∀ b o u, cellAt w b o = some u → O b o = some .ext → cellAt w' b o = some u ∧ O' b o = some .ext ∧ frozenAt w' b o = frozenAt w b o

theorem Evo.refl (w : World) (O : Owns) : Evo w O w O := ⟨rfl, rfl, rfl, Nat.le_refl _, fun _ _ _ => rfl, fun _ _ _ h => ⟨h, rfl, rfl⟩, fun _ _ _ hu h => ⟨hu, h, rfl⟩⟩
theorem Evo.trans {w w' w'' : World} {O O' O'' : Owns} (h : Evo w O w' O') (k : Evo w' O' w'' O'') : Evo w O w'' O'' := by
  refine ⟨k.os.trans h.os, k.tape.trans h.tape, k.output.trans h.output, Nat.le_trans h.size k.size, ?_, ?_, fun b o u hu ho => ?_⟩
  · intro b hb ho
    exact (k.block b (Nat.lt_of_lt_of_le hb h.size) (fun o => (h.cell b o hb (ho o)).1)).trans (h.block b hb ho)
  · intro b o hb ho
    obtain ⟨h1, h2, h3⟩ := h.cell b o hb ho
    obtain ⟨k1, k2, k3⟩ := k.cell b o (Nat.lt_of_lt_of_le hb h.size) h1
    exact ⟨k1, k2.trans h2, k3.trans h3⟩
  · obtain ⟨h1, h2, h3⟩ := h.ext b o u hu ho
    obtain ⟨k1, k2, k3⟩ := k.ext b o u h1 h2
    exact ⟨k1, k2, k3.trans h3⟩
/-- Owners alone change. -/
theorem Evo.ghost {w : World} {O O' : Owns} (h : ∀ b o, O b o = none → O' b o = none) (hx : ∀ b o u, cellAt w b o = some u → O b o = some .ext → O' b o = some .ext) : Evo w O w O' :=
  ⟨rfl, rfl, rfl, Nat.le_refl _, fun _ _ _ => rfl, fun b o _ ho => ⟨h b o ho, rfl, rfl⟩, fun b o u hu ho => ⟨hu, hx b o u hu ho, rfl⟩⟩
theorem Keep.ext {T : Owner → Prop} {w w' : World} {O O' : Owns} (h : Keep T w O w' O') (hT : ¬ T .ext) : ∀ b o u, cellAt w b o = some u → O b o = some .ext → cellAt w' b o = some u ∧ O' b o = some .ext ∧ frozenAt w' b o = frozenAt w b o := by
  intro b o u hu ho
  obtain ⟨h1, h2, h3⟩ := h b o u hu (fun q hq hTq => by rw [ho] at hq; cases hq; exact hT hTq)
  exact ⟨h1, h2.trans ho, h3⟩
theorem Evo.frz {w w' : World} {O O' : Owns} (h : Evo w O w' O') (b o : Nat) (v : Value) (hv : Frz w O b o = some v) : Frz w' O' b o = some v := by
  unfold Frz at hv ⊢
  by_cases hO : O b o = none
  · rw [if_pos hO] at hv
    have hb : b < w.heap.size := by
      unfold cellAt World.cell? at hv
      split at hv
      · rename_i x1 x2 x3 x4; exact (Array.getElem?_eq_some_iff.1 x4).1
      · cases hv
    obtain ⟨h1, h2, _⟩ := h.cell b o hb hO
    rw [if_pos h1, h2]; exact hv
  · rw [if_neg hO] at hv; cases hv

theorem cellAt_lt {w : World} {b o : Nat} {v : Value} (hv : cellAt w b o = some v) : b < w.heap.size := by
  unfold cellAt World.cell? at hv
  split at hv
  · rename_i x1 x2 x3 x4; exact (Array.getElem?_eq_some_iff.1 x4).1
  · cases hv

/-- The general step: the slots in S are told anew, the others stand. -/
theorem Inv.make {env env' : Env} {tmps tmps' : Array Value} {w w' : World} {O O' : Owns} (inv : Inv env tmps w O) (S : Nat → Prop) (T : Owner → Prop)
    (hlen : env'.length = tmps'.size) (hbnd : ∀ b o q, O' b o = some q → b < w'.heap.size) (hkeep : Keep T w O w' O')
    (hT : ∀ t, ¬ S t → ∀ q, Uses t (env.at t).2 q → ¬ T q)
    (hsame : ∀ t, ¬ S t → env'.at t = env.at t ∧ tmps'.getD t undef = tmps.getD t undef)
    (hmem : ∀ t, S t → MRep w' O' t (env'.at t).2 (tmps'.getD t undef))
    (hroot : ∀ t, S t → RootStep (env.at t) (env'.at t) (tmps.getD t undef) (tmps'.getD t undef) w w')
    (hali : ∀ t, S t → ARep env tmps w (env'.at t).2 (tmps'.getD t undef)) : Inv env' tmps' w' O' := by
  have hR : ∀ r, RootStep (env.at r) (env'.at r) (tmps.getD r undef) (tmps'.getD r undef) w w' := by
    intro r
    by_cases hr : S r
    · exact hroot r hr
    · obtain ⟨h1, h2⟩ := hsame r hr
      rw [h1, h2]
      have hm := inv.mem r
      refine RootStep.same ?_ ?_
      · intro cs b k p hx hv hp
        rw [hx] at hm
        obtain ⟨b', hb', hc⟩ := hm
        rw [hv] at hb'; cases hb'
        obtain ⟨ho, _, u, hu, _⟩ := hc k p hp
        rw [(hkeep b k u hu (by rw [ho]; intro q hq; cases hq; exact hT r hr _ (by rw [hx]; exact .inl rfl))).1, hu]
      · intro cs hx
        rw [hx] at hm
        obtain ⟨b', hb', _⟩ := hm
        exact ⟨b', hb'⟩
  refine ⟨hlen, hbnd, fun t => ?_, fun t => ?_⟩
  · by_cases ht : S t
    · exact hmem t ht
    · obtain ⟨h1, h2⟩ := hsame t ht
      rw [h1, h2]
      exact (inv.mem t).keep hkeep (hT t ht)
  · by_cases ht : S t
    · exact (hali t ht).step hR
    · obtain ⟨h1, h2⟩ := hsame t ht
      rw [h1, h2]
      exact (inv.ali t).step hR

/-- One slot is written (the memory as it was). -/
theorem Inv.put {env : Env} {tmps : Array Value} {w : World} {O : Owns} (inv : Inv env tmps w O) (d : Nat) (g : Nat) (x : SV) (v : Value)
    (hg : (env.at d).1 < g ∨ ((env.at d).1 = g ∧ (env.at d).2.hd = .plain)) (hm : MRep w O d x v) (ha : ARep env tmps w x v) :
    Inv (env.set d (g, x)) (tmps.setIfInBounds d v) w O := by
  by_cases hd : d < env.length
  · have hd' : d < tmps.size := inv.len ▸ hd
    refine inv.make (fun t => t = d) (fun _ => False) (by simp [inv.len]) inv.bnd (Keep.refl _ _ _) (fun _ _ _ _ h => h) ?_ ?_ ?_ ?_
    · intro t ht; rw [at_set_ne _ _ ht, tmp_set, if_neg (fun k => ht k.1)]; exact ⟨rfl, rfl⟩
    · rintro t rfl; rw [at_set_same _ _ hd, tmp_set, if_pos ⟨rfl, hd'⟩]; exact hm
    · rintro t rfl; rw [at_set_same _ _ hd]; exact RootStep.new hg
    · rintro t rfl; rw [at_set_same _ _ hd, tmp_set, if_pos ⟨rfl, hd'⟩]; exact ha
  · have h1 : env.set d (g, x) = env := List.set_eq_of_length_le (by omega)
    have h2 : tmps.setIfInBounds d v = tmps := Array.setIfInBounds_eq_of_size_le (by rw [← inv.len]; omega)
    rw [h1, h2]; exact inv

def putT (tmps : Array Value) (d : Option Nat) (v : Value) : Array Value :=
  match d with
  | none => tmps
  | some d => tmps.setIfInBounds d v

theorem Inv.putD {env env' : Env} {tmps : Array Value} {w : World} {O : Owns} (inv : Inv env tmps w O) {d : Option Nat} {x : SV} (v : Value)
    (h : (Pr.put d x).run env = some env') (hm : ∀ d', d = some d' → MRep w O d' x v) (ha : ARep env tmps w x v) : Inv env' (putT tmps d v) w O := by
  cases d with
  | none => simp only [Pr.put, Pr.run, Option.some.injEq] at h; subst h; exact inv
  | some d =>
    simp only [Pr.put, Pr.run, Option.some.injEq] at h
    subst h
    refine inv.put d _ x v ?_ (hm d rfl) ha
    split
    · rename_i hp; exact .inr ⟨rfl, hp⟩
    · exact .inl (Nat.lt_succ_self _)
end

section
/- Steps that turn no memory: places found, content shared or given away. -/

/-- What an operand of the pure machine stands for. -/
def OpdRep (tmps : Array Value) (o : Opd) (v : Value) : Prop :=
  match o with
  | .tmp t => v = tmps.getD t undef
  | .con p => ∀ H, FRep H p v

theorem ofConst1_rep {c : Value} {p : PV} (h : ofConst1 c = some p) : p.isCell = true ∧ ∀ H, FRep H p c := by
  unfold ofConst1 at h
  split at h <;> cases h
  · exact ⟨rfl, fun H => .int ..⟩
  · exact ⟨rfl, fun H => .bool ..⟩
  · exact ⟨rfl, fun H => .str ..⟩
  · exact ⟨rfl, fun H => .nilp⟩
  · exact ⟨rfl, fun H => .nils⟩
  · exact ⟨rfl, fun H => .nilf⟩
  · exact ⟨rfl, fun H => .nili⟩

theorem mapM_some {α β : Type} {f : α → Option β} : ∀ {l : List α} {r : List β}, l.mapM f = some r → r.length = l.length ∧ ∀ (i : Nat) b, r[i]? = some b → ∃ a, l[i]? = some a ∧ f a = some b
  | [], r, h => by simp at h; subst h; exact ⟨rfl, fun i b hb => by simp at hb⟩
  | a :: l, r, h => by
    simp only [List.mapM_cons] at h
    cases ha : f a with
    | none => simp [ha] at h
    | some b =>
      cases hl : l.mapM f with
      | none => simp [ha, hl] at h
      | some bs =>
        simp [ha, hl] at h
        subst h
        obtain ⟨h1, h2⟩ := mapM_some hl
        refine ⟨by simp [h1], fun i b' hb => ?_⟩
        cases i with
        | zero => simp at hb; subst hb; exact ⟨a, by simp, ha⟩
        | succ i => simp at hb; obtain ⟨a', h3, h4⟩ := h2 i b' hb; exact ⟨a', by simpa using h3, h4⟩

theorem ofConst_rep {c : Value} {p : PV} (h : ofConst c = some p) (H : Look) : FRep H p c := by
  unfold ofConst at h
  split at h
  · rename_i cells
    cases hm : cells.toList.mapM ofConst1 with
    | none => simp [hm] at h
    | some l =>
      simp [hm] at h; subst h
      obtain ⟨hl, hr⟩ := mapM_some hm
      refine frep_agg.2 ⟨cells, rfl, by simpa using hl.symm, fun j x hx => ?_⟩
      obtain ⟨a, ha, hf⟩ := hr j x hx
      obtain ⟨h1, h2⟩ := ofConst1_rep hf
      exact ⟨h1, a, by simpa using ha, h2 H⟩
  · exact (ofConst1_rep h).2 H

theorem cOpd_rep {x : Operand} {o : Opd} (h : cOpd x = some o) (a : Act) : OpdRep a.tmps o (a.eval x) := by
  cases x with
  | tmp t => simp [cOpd] at h; subst h; rfl
  | const v =>
    simp only [cOpd, Option.map_eq_some_iff] at h
    obtain ⟨p, hp, rfl⟩ := h
    exact fun H => ofConst_rep hp H
  | global g => cases h
  | func f => simp [cOpd] at h; subst h; exact fun H => .fn f

/-- Owners and slots turn, the memory and the temporaries do not. -/
structure Gh (tmps : Array Value) (w : World) (env : Env) (O : Owns) (env' : Env) (O' : Owns) : Prop where
  inv : Inv env' tmps w O'
  keep : Keep (fun q => ∃ t, Uses t (env.at t).2 q) w O w O'
  uses : ∀ t q, Uses t (env'.at t).2 q → Uses t (env.at t).2 q
  free : ∀ b o, O b o = none → O' b o = none
  sub : ∀ b o q, O' b o = some q → O b o = some q

theorem Gh.refl {tmps : Array Value} {w : World} {env : Env} {O : Owns} (h : Inv env tmps w O) : Gh tmps w env O env O :=
  ⟨h, Keep.refl _ _ _, fun _ _ h => h, fun _ _ h => h, fun _ _ _ h => h⟩
theorem Gh.trans {tmps : Array Value} {w : World} {env env' env'' : Env} {O O' O'' : Owns} (h : Gh tmps w env O env' O') (k : Gh tmps w env' O' env'' O'') : Gh tmps w env O env'' O'' :=
  ⟨k.inv, h.keep.trans (k.keep.mono fun _ ⟨t, ht⟩ => ⟨t, h.uses t _ ht⟩), fun t q hq => h.uses t q (k.uses t q hq), fun b o ho => k.free b o (h.free b o ho), fun b o q hq => h.sub b o q (k.sub b o q hq)⟩
theorem Gh.evo {tmps : Array Value} {w : World} {env env' : Env} {O O' : Owns} (h : Gh tmps w env O env' O') : Evo w O w O' := Evo.ghost h.free fun b o u hu ho => (h.keep.ext (fun ⟨_, hu⟩ => hu.ext) b o u hu ho).2.1
theorem Gh.frz {tmps : Array Value} {w : World} {env env' : Env} {O O' : Owns} (h : Gh tmps w env O env' O') : ∀ b o v, Frz w O b o = some v → Frz w O' b o = some v := h.keep.frz

/-- A content that no slot holds any more. -/
def Loose (env : Env) (w : World) (O : Owns) (p : Owner) (c : CV) (v : Value) : Prop := CRep w O p c v ∧ ∀ t, ¬ Uses t (env.at t).2 p

theorem Loose.gh {tmps : Array Value} {w : World} {env env' : Env} {O O' : Owns} (h : Gh tmps w env O env' O') {p : Owner} {c : CV} {v : Value} (l : Loose env w O p c v) : Loose env' w O' p c v :=
  ⟨l.1.keep h.keep (fun _ ⟨t, ht⟩ => l.2 t ht), fun t ht => l.2 t (h.uses t _ ht)⟩

def plOwner (x : SV) (r k : Nat) : Owner :=
  match x with
  | .tup _ => .pl r k 0
  | .cv _ => .pl r 0 0
  | _ => .pl r 0 k

/-- What 'place' tells of the slot. -/
def PlaceX (env : Env) (r : Nat) (x : Nat × SV) : Prop :=
  x.1 = (env.at r).1 ∧ ((x.2 = (env.at r).2 ∧ x.2.hd ≠ .tup) ∨ (x.2 = .tup [] ∧ (env.at r).2.hd = .tup))

theorem hd_tup {x : SV} (h : x.hd = .tup) : ∃ cs, x = .tup cs := by
  cases x with
  | tup cs => exact ⟨cs, rfl⟩
  | cv c => cases c <;> cases h
  | _ => cases h

theorem place_run {r k gs gc : Nat} {κ : Nat × SV → CV → Pr} {env env' : Env} (h : (Pr.place r k gs gc κ).run env = some env') :
    ∃ x c, live (env.at r) k gs gc = some c ∧ gs = (env.at r).1 ∧ PlaceX env r x ∧ (κ x c).run env = some env' := by
  unfold Pr.place at h
  simp only [Pr.run] at h
  split at h
  · rename_i ht
    obtain ⟨cs, hcs⟩ := hd_tup ht
    simp only [Pr.run, SV.cmp, hcs, SV.cmps] at h
    split at h
    · rename_i hg
      split at h
      · rename_i g c hc
        split at h
        · rename_i hgc
          refine ⟨((env.at r).1, .tup []), c, ?_, hg.symm, ⟨rfl, .inr ⟨rfl, ht⟩⟩, h⟩
          unfold live; rw [if_pos hg, hcs]; simp only [hc, hgc, if_true]
        · simp [Pr.run] at h
      · simp [Pr.run] at h
    · simp [Pr.run] at h
  · rename_i hnt
    simp only [Pr.run] at h
    split at h
    · rename_i hg
      split at h
      · rename_i c hx
        split at h
        · rename_i hk
          split at h
          · rename_i hgc
            refine ⟨_, c, ?_, hg.symm, ⟨rfl, .inl ⟨rfl, hnt⟩⟩, h⟩
            unfold live; rw [if_pos hg, hx]; simp [hk, hgc]
          · simp [Pr.run] at h
        · simp [Pr.run] at h
      · rename_i cs hx
        split at h
        · rename_i p hp
          split at h
          · rename_i hgc
            refine ⟨_, p.2, ?_, hg.symm, ⟨rfl, .inl ⟨rfl, hnt⟩⟩, h⟩
            unfold live; rw [if_pos hg, hx]; simp only [hp, hgc, if_true]
          · simp [Pr.run] at h
        · simp [Pr.run] at h
      · simp [Pr.run] at h
    · simp [Pr.run] at h

theorem live_rep {env : Env} {tmps : Array Value} {w : World} {O : Owns} (inv : Inv env tmps w O) {r k gs gc : Nat} {c : CV} (h : live (env.at r) k gs gc = some c) :
    ∃ v, hdrAt w (env.at r).2 (tmps.getD r undef) k = some v ∧ CRep w O (plOwner (env.at r).2 r k) c v ∧ (PV.isRow c = true → Uses r (env.at r).2 (plOwner (env.at r).2 r k)) := by
  have hm := inv.mem r
  unfold live at h
  split at h
  · cases hx : (env.at r).2 with
    | cv c' =>
      rw [hx] at h hm; simp only at h
      split at h
      · split at h
        · cases h; rename_i hk _; subst hk; exact ⟨_, rfl, hm, fun hr => ⟨hr, rfl⟩⟩
        · cases h
      · cases h
    | box cs =>
      rw [hx] at h hm; simp only at h
      split at h
      · rename_i p hp
        split at h
        · cases h
          obtain ⟨b, hb, hc⟩ := hm
          obtain ⟨_, _, u, hu, _, hcr⟩ := hc k p hp
          exact ⟨u, by rw [hb]; exact hu, hcr, fun hr => .inr ⟨k, p, hp, hr, rfl⟩⟩
        · cases h
      · cases h
    | tup cs =>
      rw [hx] at h hm; simp only at h
      split at h
      · rename_i g c' hp
        split at h
        · cases h
          obtain ⟨vs, hb, _, hc⟩ := hm
          obtain ⟨u, hu, hcr⟩ := hc k _ hp
          exact ⟨u, by rw [hb]; exact hu, hcr, fun hr => ⟨k, _, hp, hr, rfl⟩⟩
        · cases h
      · cases h
    | _ => rw [hx] at h; cases h
  · cases h

/-- The owned slice of a place, with its header. -/
theorem live_own {env : Env} {tmps : Array Value} {w : World} {O : Owns} (inv : Inv env tmps w O) {r k gs gc : Nat} {f : Bool} {s : Nat} {cs sp : List PV} (h : live (env.at r) k gs gc = some (.own f s cs sp)) :
    ∃ b off len cap, hdrAt w (env.at r).2 (tmps.getD r undef) k = some (.slice (some ⟨b, off, none⟩) len cap) ∧ OwnRep w O (plOwner (env.at r).2 r k) f s cs sp b off len cap := by
  obtain ⟨v, hv, ⟨b, off, len, cap, rfl, hr⟩, _⟩ := live_rep inv h
  exact ⟨b, off, len, cap, hv, hr⟩

/-- The content of a place is turned, its header is not: the memory too may be, at this place's own cells. -/
theorem chPl_inv {env env' : Env} {tmps : Array Value} {w w' : World} {O O' : Owns} (inv : Inv env tmps w O) {r k gs gc : Nat} {c c' : CV} {x : Nat × SV} {bump : Bool} {κ : Pr}
    (hl : live (env.at r) k gs gc = some c) (hrow : PV.isRow c = true) (hx : PlaceX env r x) (h : (Pr.chPl r k gc x bump c' κ).run env = some env')
    (hkeep : Keep (fun q => q = plOwner (env.at r).2 r k) w O w' O') (hbnd : ∀ b o q, O' b o = some q → b < w'.heap.size)
    (hc : ∀ v, hdrAt w (env.at r).2 (tmps.getD r undef) k = some v → CRep w' O' (plOwner (env.at r).2 r k) c' v) (hcell : c'.isCell = true)
    (hb : bump = false → sameRow c c') :
    ∃ env1, κ.run env1 = some env' ∧ Inv env1 tmps w' O' ∧ (∀ t q, Uses t (env1.at t).2 q → (Uses t (env.at t).2 q ∧ (PV.isRow c' = false → q ≠ plOwner (env.at r).2 r k))) ∧ (∀ t, t ≠ r → env1.at t = env.at t) := by
  obtain ⟨v, hv, hcr, hu⟩ := live_rep inv hl
  have hown := hu hrow
  have hslot : (plOwner (env.at r).2 r k).slot = r := hown.slot
  have hr : r < env.length := by
    rcases Nat.lt_or_ge r env.length with h | h
    · exact h
    · rw [at_out env h] at hl; unfold live at hl; split at hl <;> cases hl
  -- the three forms of a place
  have fin : ∀ y : Nat × SV, κ.run (env.set r y) = some env' → MRep w' O' r y.2 (tmps.getD r undef) → RootStep (env.at r) y (tmps.getD r undef) (tmps.getD r undef) w w' →
      (∀ t q, Uses t y.2 q → t = r → (Uses r (env.at r).2 q ∧ (PV.isRow c' = false → q ≠ plOwner (env.at r).2 r k))) → ARep env tmps w y.2 (tmps.getD r undef) →
      ∃ env1, κ.run env1 = some env' ∧ Inv env1 tmps w' O' ∧ (∀ t q, Uses t (env1.at t).2 q → (Uses t (env.at t).2 q ∧ (PV.isRow c' = false → q ≠ plOwner (env.at r).2 r k))) ∧ (∀ t, t ≠ r → env1.at t = env.at t) := by
    intro y hk hm hs hus ha
    refine ⟨_, hk, ?_, ?_, fun t ht => at_set_ne _ _ ht⟩
    · refine inv.make (fun t => t = r) _ (by simpa using inv.len) hbnd hkeep ?_ ?_ ?_ ?_ ?_
      · intro t ht q hq e; subst e; exact ht (hq.slot.symm.trans hslot)
      · intro t ht; exact ⟨at_set_ne _ _ ht, rfl⟩
      · rintro t rfl; rw [at_set_same _ _ hr]; exact hm
      · rintro t rfl; rw [at_set_same _ _ hr]; exact hs
      · rintro t rfl; rw [at_set_same _ _ hr]; exact ha
    · intro t q hq
      by_cases ht : t = r
      · subst ht; rw [at_set_same _ _ hr] at hq; exact hus _ q hq rfl
      · rw [at_set_ne _ _ ht] at hq
        refine ⟨hq, fun _ e => ht ?_⟩
        subst e; exact hq.slot.symm.trans hslot
  have hm0 := inv.mem r
  have hx1 := hx.1
  unfold live at hl
  split at hl
  case isFalse => cases hl
  rename_i hgs
  have hx2 := hx.2
  obtain ⟨sv, he⟩ : ∃ sv, (env.at r).2 = sv := ⟨_, rfl⟩
  cases sv with
  | cv c0 =>
    rw [he] at hl hx2 hm0; simp only at hl
    split at hl
    case isFalse => cases hl
    split at hl
    case isFalse => cases hl
    rename_i hk hgc
    cases hl; subst hk
    have hxe : x.2 = .cv c := by
      rcases hx2 with h2 | h2
      · exact h2.1
      · cases c <;> cases h2.2
    unfold Pr.chPl at h
    rw [hxe] at h; simp only at h
    obtain ⟨h, hhd⟩ : κ.run (env.set r (if bump then x.1 + 1 else x.1, .cv c')) = some env' ∧ (bump = false → (SV.cv c').hd = (SV.cv c).hd) := by
      cases bump with
      | true => exact ⟨h, fun e => by cases e⟩
      | false =>
        simp only [Bool.false_eq_true, if_false, Pr.run] at h ⊢
        by_cases e1 : x.1 = (env.at r).1
        · rw [if_pos e1] at h
          by_cases e2 : (SV.cv c').hd = (env.at r).2.hd
          · rw [if_pos e2] at h
            rw [he] at e2
            exact ⟨h, fun _ => e2⟩
          · rw [if_neg e2] at h; cases h
        · rw [if_neg e1] at h; cases h
    refine fin _ h ?_ ?_ ?_ trivial
    · have := hc v (by rw [he]; rw [he] at hv; exact hv)
      rw [he] at this hv
      simp only [hdrAt, Option.some.injEq] at hv
      rw [← hv] at this; exact this
    · cases bump with
      | true => exact RootStep.new (.inl (by simp [hx1]))
      | false =>
        obtain ⟨f, s, cs, sp, f', cs', sp', rfl, rfl, hlen⟩ := hb rfl
        refine ⟨by simp [hx1], fun _ _ => ⟨by rw [he]; exact hhd rfl, rfl⟩, ?_, ?_⟩
        · intro k' gs' gc' ho
          refine ⟨by have := ho.1; simpa [hx1] using this, fun _ => rfl⟩
        · intro k' gs' gc' c2 ho h2
          unfold live at h2 ⊢
          simp only [hx1, Bool.false_eq_true, if_false] at h2
          split at h2
          · rename_i e
            rw [if_pos e, he]; simp only
            split at h2
            · split at h2
              · rename_i e1 e2
                cases h2
                rw [if_pos e1, if_pos e2]
                exact ⟨_, rfl, ⟨f, s, cs, sp, f', cs', sp', rfl, rfl, hlen⟩, rfl⟩
              · cases h2
            · cases h2
          · cases h2
    · rintro t q hq rfl
      refine ⟨?_, ?_⟩
      · rw [he]; exact ⟨hrow, hq.2⟩
      · intro hn; rw [hq.1] at hn; cases hn
  | box cs =>
    rw [he] at hl hx2 hm0; simp only at hl
    split at hl
    case h_2 => cases hl
    rename_i p hp
    split at hl
    case isFalse => cases hl
    rename_i hgc
    cases hl
    have hxe : x.2 = .box cs := by
      rcases hx2 with h2 | h2
      · exact h2.1
      · cases h2.2
    have hklt : k < cs.length := (List.getElem?_eq_some_iff.1 hp).1
    unfold Pr.chPl at h
    rw [hxe] at h; simp only [Pr.run] at h
    rw [if_pos hx1, if_pos (by rw [he]; rfl)] at h
    obtain ⟨G, hG⟩ : ∃ G, G = (if bump = true then gc + 1 else gc) := ⟨_, rfl⟩
    rw [← hG] at h
    have hG1 : gc ≤ G := by rw [hG]; split <;> omega
    have hG2 : G ≤ gc → bump = false := by intro hle; rw [hG] at hle; cases bump with | true => simp at hle; omega | false => rfl
    clear hG
    have hpe : plOwner (env.at r).2 r k = .pl r 0 k := by rw [he]; rfl
    obtain ⟨b, hbv, hcells⟩ := hm0
    have hbox : ∀ (i : Nat) q, cs[i]? = some q → cellAt w' b i = cellAt w b i ∧ O' b i = some (.box r) ∧ frozenAt w' b i = false := by
      intro i q hq
      obtain ⟨ho, hf, u, hu, _⟩ := hcells i q hq
      obtain ⟨k1, k2, k3⟩ := hkeep b i u hu (by rw [ho, hpe]; intro q' hq'; cases hq'; intro e; cases e)
      exact ⟨k1.trans hu.symm, k2.trans ho, k3.trans hf⟩
    refine fin _ h ?_ ?_ ?_ trivial
    · refine ⟨b, hbv, fun i q hq => ?_⟩
      by_cases e : k = i
      · rw [List.getElem?_set, if_pos e, if_pos hklt] at hq
        cases hq; subst e
        obtain ⟨h1, h2, h3⟩ := hbox _ p hp
        obtain ⟨_, _, u, hu, _⟩ := hcells _ p hp
        refine ⟨h2, h3, u, h1.trans hu, hcell, ?_⟩
        have := hc u (by rw [he, hbv]; exact hu)
        rw [hpe] at this; exact this
      · have hne := e
        rw [List.getElem?_set, if_neg e] at hq
        obtain ⟨h1, h2, h3⟩ := hbox i q hq
        obtain ⟨_, _, u, hu, hi, hcr'⟩ := hcells i q hq
        refine ⟨h2, h3, u, h1.trans hu, hi, hcr'.keep hkeep (fun _ e => ?_)⟩
        rw [hpe] at e; injection e with _ _ e; exact hne e.symm
    · refine ⟨by simp [hx1], fun _ _ => ⟨by rw [he]; rfl, rfl⟩, ?_, ?_⟩
      · intro k' gs' gc' ho
        refine ⟨by have := ho.1; simpa [hx1] using this, fun e => ?_⟩
        have h2 := ho.2 (by simpa [hx1] using e)
        rw [he] at h2; simp only at h2 ⊢
        obtain ⟨p', hp', hle, hi⟩ := h2
        rw [List.getElem?_set]
        by_cases hkk : k = k'
        · subst hkk
          rw [hp] at hp'; cases hp'
          rw [if_pos rfl, if_pos hklt]
          refine ⟨_, rfl, by simp only; omega, fun e' => ?_⟩
          simp only at e'
          obtain ⟨f, s, cs1, sp, f', cs', sp', _, rfl, _⟩ := hb (hG2 (by omega))
          rfl
        · rw [if_neg hkk]; exact ⟨p', hp', hle, hi⟩
      · intro k' gs' gc' c2 ho h2
        unfold live at h2 ⊢
        simp only [hx1] at h2
        split at h2
        · rename_i e
          rw [if_pos e, he]; simp only
          rw [List.getElem?_set] at h2
          by_cases hkk : k = k'
          · subst hkk
            rw [if_pos rfl, if_pos hklt] at h2; simp only at h2
            split at h2
            · rename_i e'
              cases h2
              have ho2 := ho.2 e.symm
              rw [he] at ho2; simp only at ho2
              obtain ⟨p', hp', hle, _⟩ := ho2
              rw [hp] at hp'; cases hp'
              have eG : p.1 = gc' := by omega
              simp only [hp, eG, if_true]
              refine ⟨_, rfl, hb (hG2 (by omega)), ?_⟩
              rw [hbv]; exact (hbox k p hp).1
            · cases h2
          · rw [if_neg hkk] at h2
            split at h2
            · rename_i p' hp'
              split at h2
              · rename_i e'
                cases h2
                simp only [e', if_true]
                have ho2 := ho.2 e.symm
                rw [he] at ho2; simp only at ho2
                obtain ⟨p'', hp'', _, hi⟩ := ho2
                rw [hp'] at hp''; cases hp''
                refine ⟨_, rfl, sameRow.refl_of (hi e'.symm), ?_⟩
                rw [hbv]; exact (hbox k' p' hp').1
              · cases h2
            · cases h2
        · cases h2
    · rintro t q hq rfl
      rw [he]
      rcases hq with rfl | ⟨i, p', hp', hi, rfl⟩
      · exact ⟨.inl rfl, fun _ e => by cases e⟩
      · by_cases e : k = i
        · rw [List.getElem?_set, if_pos e, if_pos hklt] at hp'
          cases hp'; subst e
          exact ⟨.inr ⟨_, p, hp, hrow, rfl⟩, fun hn => by rw [hi] at hn; cases hn⟩
        · rw [List.getElem?_set, if_neg e] at hp'
          refine ⟨.inr ⟨i, p', hp', hi, rfl⟩, fun _ e' => ?_⟩
          injection e' with _ _ e'; exact e e'.symm
  | tup cs =>
    rw [he] at hl hx2 hm0; simp only at hl
    split at hl
    case h_2 => cases hl
    rename_i g c0 hp
    split at hl
    case isFalse => cases hl
    rename_i hgc
    cases hl; subst hgc
    have hxe : x.2 = .tup [] := by
      rcases hx2 with h2 | h2
      · rw [h2.1] at h2; exact absurd rfl h2.2
      · exact h2.1
    have hklt : k < cs.length := (List.getElem?_eq_some_iff.1 hp).1
    unfold Pr.chPl at h
    rw [hxe] at h; simp only [Pr.run, he, SV.cmps] at h
    rw [if_pos hklt] at h
    obtain ⟨G, hG⟩ : ∃ G, G = (if bump = true then g + 1 else g) := ⟨_, rfl⟩
    rw [← hG] at h
    have hG1 : g ≤ G := by rw [hG]; split <;> omega
    have hG2 : G ≤ g → bump = false := by intro hle; rw [hG] at hle; cases bump with | true => simp at hle; omega | false => rfl
    clear hG
    have hpe : plOwner (env.at r).2 r k = .pl r k 0 := by rw [he]; rfl
    obtain ⟨vs, hvs, hsz, hcells⟩ := hm0
    refine fin _ h ?_ ?_ ?_ trivial
    · refine ⟨vs, hvs, by simpa using hsz, fun i m hm => ?_⟩
      by_cases e : k = i
      · rw [List.getElem?_set, if_pos e, if_pos hklt] at hm
        cases hm; subst e
        obtain ⟨u, hu, _⟩ := hcells _ _ hp
        refine ⟨u, hu, ?_⟩
        have := hc u (by rw [he, hvs]; exact hu)
        rw [hpe] at this; exact this
      · have hne := e
        rw [List.getElem?_set, if_neg e] at hm
        obtain ⟨u, hu, hmr⟩ := hcells i m hm
        refine ⟨u, hu, ?_⟩
        cases m with
        | c g1 y => exact CRep.keep hkeep (fun _ e => by rw [hpe] at e; injection e with _ e; exact hne e.symm) hmr
        | s cs1 => exact StRep.keep hkeep (fun i' c1 _ _ e => by rw [hpe] at e; injection e with _ e; exact hne e.symm) hmr
        | gone => trivial
    · refine ⟨Nat.le_refl _, fun _ _ => ⟨by rw [he]; rfl, rfl⟩, ?_, ?_⟩
      · intro k' gs' gc' ho
        refine ⟨ho.1, fun e => ?_⟩
        have h2 := ho.2 e
        rw [he] at h2; simp only at h2 ⊢
        obtain ⟨m, hm, hi⟩ := h2
        rw [List.getElem?_set]
        by_cases hkk : k = k'
        · subst hkk
          rw [hp] at hm; cases hm
          rw [if_pos rfl, if_pos hklt]
          refine ⟨_, rfl, ?_⟩
          simp only at hi ⊢
          refine ⟨by omega, fun e' => ?_⟩
          obtain ⟨f, s, cs1, sp, f', cs', sp', _, rfl, _⟩ := hb (hG2 (by omega))
          rfl
        · rw [if_neg hkk]; exact ⟨m, hm, hi⟩
      · intro k' gs' gc' c2 ho h2
        unfold live at h2 ⊢
        simp only at h2
        split at h2
        · rename_i e
          rw [if_pos e, he]; simp only
          rw [List.getElem?_set] at h2
          by_cases hkk : k = k'
          · subst hkk
            rw [if_pos rfl, if_pos hklt] at h2; simp only at h2
            split at h2
            · rename_i e'
              cases h2
              have ho2 := ho.2 e.symm
              rw [he] at ho2; simp only at ho2
              obtain ⟨m, hm, hi⟩ := ho2
              rw [hp] at hm; cases hm
              simp only at hi
              have eG : g = gc' := by omega
              simp only [hp, eG, if_true]
              refine ⟨_, rfl, hb (hG2 (by omega)), ?_⟩
              rw [hvs]; rfl
            · cases h2
          · rw [if_neg hkk] at h2
            split at h2
            · rename_i g' c' hp'
              split at h2
              · rename_i e'
                cases h2
                simp only [e', if_true]
                have ho2 := ho.2 e.symm
                rw [he] at ho2; simp only at ho2
                obtain ⟨m, hm, hi⟩ := ho2
                rw [hp'] at hm; cases hm
                refine ⟨_, rfl, sameRow.refl_of (hi.2 e'.symm), ?_⟩
                rw [hvs]; rfl
              · cases h2
            · cases h2
        · cases h2
    · rintro t q hq rfl
      rw [he]
      obtain ⟨i, m, hm, hq⟩ := hq
      by_cases e : k = i
      · rw [List.getElem?_set, if_pos e, if_pos hklt] at hm
        cases hm; subst e
        refine ⟨⟨_, _, hp, hrow, hq.2⟩, fun hn => by rw [hq.1] at hn; cases hn⟩
      · have hne := e
        rw [List.getElem?_set, if_neg e] at hm
        refine ⟨⟨i, m, hm, hq⟩, fun _ e => ?_⟩
        cases m with
        | c g1 y => obtain ⟨_, rfl⟩ := hq; injection e with _ e; exact hne e.symm
        | s cs1 => obtain ⟨i', c1, _, _, rfl⟩ := hq; injection e with _ e; exact hne e.symm
        | gone => exact hq
  | dead => rw [he] at hl; cases hl
  | st cs => rw [he] at hl; cases hl
  | ref r k gs gc => rw [he] at hl; cases hl
  | view r k gs gc a b => rw [he] at hl; cases hl
  | sref r k gs => rw [he] at hl; cases hl
  | ptr r off gs => rw [he] at hl; cases hl
  | eptr r k gs gc o => rw [he] at hl; cases hl
  | fptr cs o => rw [he] at hl; cases hl
end

section
/- Operands: read; kept; taken. -/

theorem getElem?_lt {α : Type} {l : List α} {i : Nat} {a : α} (h : l[i]? = some a) : i < l.length := (List.getElem?_eq_some_iff.1 h).1

/-- What an owned slice holds may be shared: from then on nobody owns its elements. -/
theorem OwnRep.share {w : World} {O : Owns} {p : Owner} {f : Bool} {s : Nat} {cs sp : List PV} {b off len cap : Nat} (r : OwnRep w O p f s cs sp b off len cap) :
    ∃ O', OwnRep w O' p false s cs sp b off len cap ∧ Keep (fun q => q = p) w O w O' ∧ (∀ b o, O b o = none → O' b o = none) ∧ (∀ b o q, O' b o = some q → O b o = some q) ∧
      RowAt (Frz w O') (Frz w O') b off cs := by
  cases f with
  | false =>
    refine ⟨O, r, Keep.refl _ _ _, fun _ _ h => h, fun _ _ _ h => h, fun j c hj => ?_⟩
    have hlt := getElem?_lt hj
    obtain ⟨hi, u, hu, hf⟩ := r.row j c (by rw [List.getElem?_append_left hlt]; exact hj)
    exact ⟨hi, u, by unfold Frz; rw [if_pos (r.free rfl j hlt)]; exact hu, hf⟩
  | true =>
    let O' : Owns := fun b' o => if b' = b ∧ off ≤ o ∧ o < off + cs.length then none else O b' o
    have hin : ∀ j, j < cs.length → O' b (off + j) = none := fun j hj => if_pos ⟨rfl, by omega, by omega⟩
    have hout : ∀ b' o, ¬ (b' = b ∧ off ≤ o ∧ o < off + cs.length) → O' b' o = O b' o := fun b' o h => if_neg h
    have hfree : ∀ b' o, O b' o = none → O' b' o = none := by
      intro b' o h
      by_cases hc : b' = b ∧ off ≤ o ∧ o < off + cs.length
      · exact if_pos hc
      · rw [hout _ _ hc]; exact h
    have hk : Keep (fun q => q = p) w O w O' := by
      intro b' o u hu hq
      refine ⟨hu, ?_, rfl⟩
      by_cases hc : b' = b ∧ off ≤ o ∧ o < off + cs.length
      · obtain ⟨rfl, h1, h2⟩ := hc
        have hm := r.mine (o - off) (by have := r.room; omega) (.inl rfl)
        rw [show off + (o - off) = o from by omega] at hm
        exact absurd rfl (hq p hm)
      · exact hout _ _ hc
    refine ⟨O', ⟨r.pos, r.len_eq, r.le, r.room, r.cell, ?_, fun _ => hin, r.row.mono hk.frz (fun _ _ _ h => h)⟩, hk, hfree, ?_, ?_⟩
    · intro j hj hh
      rcases hh with h | h
      · cases h
      · rw [hout _ _ (by omega)]; exact r.mine j hj (.inl rfl)
    · intro b' o q hq
      by_cases hc : b' = b ∧ off ≤ o ∧ o < off + cs.length
      · have : O' b' o = none := if_pos hc
        rw [this] at hq; cases hq
      · rw [hout _ _ hc] at hq; exact hq
    · intro j c hj
      have hlt := getElem?_lt hj
      obtain ⟨hi, u, hu, hf⟩ := r.row j c (by rw [List.getElem?_append_left hlt]; exact hj)
      exact ⟨hi, u, by unfold Frz; rw [if_pos (hin j hlt)]; exact hu, hf.mono hk.frz⟩

theorem CRep.share {w : World} {O : Owns} {p : Owner} {c : CV} {v : Value} (r : CRep w O p c v) (hg : c.view.isSome = true) :
    ∃ O', CRep w O' p c.less v ∧ Keep (fun q => PV.isRow c = true ∧ q = p) w O w O' ∧ (∀ b o, O b o = none → O' b o = none) ∧ (∀ b o q, O' b o = some q → O b o = some q) ∧
      ∃ x, c.view = some x ∧ (c.isCell = true → x.isCell = true) ∧ FRep (Frz w O') x v := by
  cases c with
  | pv x => exact ⟨O, r, Keep.refl _ _ _, fun _ _ h => h, fun _ _ _ h => h, x, rfl, fun h => h, r⟩
  | own f s cs sp =>
    obtain ⟨b, off, len, cap, hv, hr⟩ := r
    obtain ⟨O', h1, h2, h3, h4, h5⟩ := hr.share
    exact ⟨O', ⟨b, off, len, cap, hv, h1⟩, h2.mono fun q e => ⟨rfl, e⟩, h3, h4, _, rfl, fun _ => rfl, frep_sl_mk ⟨b, off, len, cap, hv, hr.pos, hr.len_eq, hr.le, h5⟩⟩
  | gone => cases hg

/-- The same for the cells of a struct. -/
theorem share_many {w : World} (P : Nat → Owner) (hP : ∀ i j, P i = P j → i = j) (cs : List CV) (us : Nat → Value) (hv : ∀ (i : Nat) c, cs[i]? = some c → c.view.isSome = true) :
    ∀ (n : Nat) (O : Owns), (∀ (i : Nat) c, cs[i]? = some c → CRep w O (P i) c (us i)) →
    ∃ O', (∀ (i : Nat) c, i < n → cs[i]? = some c → CRep w O' (P i) c.less (us i) ∧ ∃ x, c.view = some x ∧ (c.isCell = true → x.isCell = true) ∧ FRep (Frz w O') x (us i)) ∧
      (∀ (i : Nat) c, n ≤ i → cs[i]? = some c → CRep w O' (P i) c (us i)) ∧
      Keep (fun q => ∃ i c, cs[i]? = some c ∧ PV.isRow c = true ∧ q = P i) w O w O' ∧ (∀ b o, O b o = none → O' b o = none) ∧ (∀ b o q, O' b o = some q → O b o = some q) := by
  intro n
  induction n with
  | zero => intro O h; exact ⟨O, fun i c hi => absurd hi (Nat.not_lt_zero _), fun i c _ hc => h i c hc, Keep.refl _ _ _, fun _ _ h => h, fun _ _ _ h => h⟩
  | succ n ih =>
    intro O h
    obtain ⟨O1, h1, h2, h3, h4, h5⟩ := ih O h
    cases hc : cs[n]? with
    | none =>
      refine ⟨O1, fun i c hi hcc => ?_, fun i c hi hcc => h2 i c (by omega) hcc, h3, h4, h5⟩
      rcases Nat.lt_or_ge i n with hlt | hge
      · exact h1 i c hlt hcc
      · have : i = n := by omega
        subst this; rw [hc] at hcc; cases hcc
    | some c =>
      obtain ⟨O2, k1, k2, k3, k4, k5⟩ := (h2 n c (Nat.le_refl _) hc).share (hv n c hc)
      have hother : ∀ (i : Nat) c', i ≠ n → cs[i]? = some c' → ∀ c'', CRep w O1 (P i) c'' (us i) → CRep w O2 (P i) c'' (us i) := by
        intro i c' hi hcc c'' hr
        exact hr.keep k2 (fun _ e => hi (hP _ _ e.2))
      refine ⟨O2, ?_, ?_, ?_, fun b o ho => k3 b o (h4 b o ho), fun b o q hq => h5 b o q (k4 b o q hq)⟩
      · intro i c' hi hcc
        by_cases hin : i = n
        · subst hin; rw [hc] at hcc; cases hcc; exact ⟨k1, k5⟩
        · obtain ⟨m1, x, m2, m3, m4⟩ := h1 i c' (by omega) hcc
          exact ⟨hother i c' hin hcc _ m1, x, m2, m3, m4.mono k2.frz⟩
      · intro i c' hi hcc
        exact hother i c' (by omega) hcc _ (h2 i c' (by omega) hcc)
      · exact h3.trans (k2.mono fun q e => ⟨n, c, hc, e.1, e.2⟩)

/-! ## Operands -/

theorem Gh.of_chPl {env env1 : Env} {tmps : Array Value} {w : World} {O O' : Owns} {r k : Nat} {x : SV} (hu : Uses r x (plOwner (env.at r).2 r k)) (hx : x = (env.at r).2)
    (hk : Keep (fun q => q = plOwner (env.at r).2 r k) w O w O') (hi : Inv env1 tmps w O') (hs : ∀ t q, Uses t (env1.at t).2 q → Uses t (env.at t).2 q) (hf : ∀ b o, O b o = none → O' b o = none) (hsub : ∀ b o q, O' b o = some q → O b o = some q) : Gh tmps w env O env1 O' :=
  ⟨hi, hk.mono fun q e => ⟨r, by rw [← hx]; rw [e]; exact hu⟩, hs, hf, hsub⟩

/-- The place's slice is shared: what it holds, and the row of slots behind it. -/
theorem less_run {env env' : Env} {tmps : Array Value} {w : World} {O : Owns} (inv : Inv env tmps w O) {r k gs gc : Nat} {f : Bool} {s : Nat} {cs sp : List PV} {x : Nat × SV} {κ : Pr}
    (hl : live (env.at r) k gs gc = some (.own f s cs sp)) (hx : PlaceX env r x)
    (h : (if f = true then Pr.chPl r k gc x false (.own false s cs sp) κ else κ).run env = some env') :
    ∃ env1 O1, Gh tmps w env O env1 O1 ∧ κ.run env1 = some env' ∧
      ∃ b off len cap, hdrAt w (env.at r).2 (tmps.getD r undef) k = some (.slice (some ⟨b, off, none⟩) len cap) ∧ 0 < s ∧ cs.length = len * s ∧ len ≤ cap ∧ RowAt (Frz w O1) (Frz w O1) b off cs := by
  obtain ⟨b, off, len, cap, hv, hr⟩ := live_own inv hl
  obtain ⟨_, _, _, hu⟩ := live_rep inv hl
  obtain ⟨O1, k1, k2, k3, k4, k5⟩ := hr.share
  cases f with
  | false =>
    simp only [Bool.false_eq_true, if_false] at h
    refine ⟨env, O, Gh.refl inv, h, b, off, len, cap, hv, hr.pos, hr.len_eq, hr.le, fun j c hj => ?_⟩
    have hlt := getElem?_lt hj
    obtain ⟨hi, u, hu, hf⟩ := hr.row j c (by rw [List.getElem?_append_left hlt]; exact hj)
    exact ⟨hi, u, by unfold Frz; rw [if_pos (hr.free rfl j hlt)]; exact hu, hf⟩
  | true =>
    simp only [if_true] at h
    obtain ⟨env1, e1, e2, e3, _⟩ := chPl_inv inv hl rfl hx h k2 (fun b o q hq => inv.bnd b o q (k4 b o q hq))
      (fun v hv' => by rw [hv] at hv'; cases hv'; exact ⟨b, off, len, cap, rfl, k1⟩) rfl (fun _ => ⟨_, _, _, _, _, _, _, rfl, rfl, rfl⟩)
    exact ⟨env1, O1, Gh.of_chPl (hu rfl) rfl k2 e2 (fun t q hq => (e3 t q hq).1) k3 k4, e1, b, off, len, cap, hv, hr.pos, hr.len_eq, hr.le, k5⟩

theorem RowAt.cut {H G : Look} {b off : Nat} {cs : List PV} (h : RowAt H G b off cs) (i j : Nat) : RowAt H G b (off + i) ((cs.take j).drop i) := by
  intro n c hn
  rw [List.getElem?_drop] at hn
  have h2 := getElem?_lt hn
  rw [List.length_take] at h2
  rw [List.getElem?_take, if_pos (by omega)] at hn
  obtain ⟨h3, u, h4, h5⟩ := h (i + n) c hn
  exact ⟨h3, u, by rw [show off + i + n = off + (i + n) from by omega]; exact h4, h5⟩

/-- The cells of a view, off the place's own. -/
theorem view_row {H G : Look} {s bl off len cap a b : Nat} {cs : List PV} {off' : Nat} (h0 : 0 < s) (hlen : cs.length = len * s) (hle : len ≤ cap) (hab : a ≤ b) (hb : b ≤ cs.length)
    (ha : ∃ i, a = i * s) (hb' : ∃ j, b = j * s) (ho : off' = off + a ∨ a = b) (h : RowAt H G bl off cs) :
    ((cs.take b).drop a).length = (b - a) / s * s ∧ (b - a) / s ≤ cap - a / s ∧ RowAt H G bl off' ((cs.take b).drop a) := by
  obtain ⟨i, rfl⟩ := ha
  obtain ⟨j, rfl⟩ := hb'
  have e1 : (j * s - i * s) / s = j - i := by rw [← Nat.sub_mul, Nat.mul_div_cancel _ h0]
  have e2 : i * s / s = i := Nat.mul_div_cancel _ h0
  rw [e1, e2]
  have hij : i ≤ j := Nat.le_of_mul_le_mul_right hab h0
  have hjl : j ≤ len := Nat.le_of_mul_le_mul_right (hlen ▸ hb) h0
  refine ⟨?_, by omega, ?_⟩
  · rw [List.length_drop, List.length_take, Nat.min_eq_left hb, Nat.sub_mul]
  · rcases ho with rfl | e
    · exact h.cut _ _
    · intro n c hn
      have := getElem?_lt hn
      rw [List.length_drop, List.length_take, Nat.min_eq_left hb] at this
      omega

theorem less_cell {c : CV} (h : c.isCell = true) : c.less.isCell = true := by cases c <;> first | exact h | rfl
theorem less_row {c : CV} (h : PV.isRow c.less = true) : PV.isRow c = true := by cases c <;> first | exact h | rfl

theorem comp_run {r k gs : Nat} {κ : List CV → Pr} {env env' : Env} (h : (Pr.comp r k gs κ).run env = some env') :
    ∃ ms cs, (env.at r).2 = .tup ms ∧ ms[k]? = some (.s cs) ∧ gs = (env.at r).1 ∧ (κ cs).run env = some env' := by
  unfold Pr.comp at h
  simp only [Pr.run] at h
  split at h
  · rename_i hg
    split at h
    · rename_i c hc
      cases hx : (env.at r).2 with
      | tup ms => rw [hx] at hc; exact ⟨ms, c, rfl, hc, hg.symm, h⟩
      | _ => rw [hx] at hc; simp [SV.cmp, SV.cmps] at hc
    · simp [Pr.run] at h
  · simp [Pr.run] at h

/-- The struct that is a component of a tuple is shared, or taken. -/
theorem updc_inv {env env' : Env} {tmps : Array Value} {w : World} {O O' : Owns} (inv : Inv env tmps w O) {r k : Nat} {ms : List Cmp} {cs : List CV} {m' : Cmp} {κ : Pr}
    (he : (env.at r).2 = .tup ms) (hk : ms[k]? = some (.s cs)) (h : (Pr.updc r k m' κ).run env = some env')
    (hkeep : Keep (fun q => ∃ i c, cs[i]? = some c ∧ PV.isRow c = true ∧ q = .pl r k i) w O w O') (hbnd : ∀ b o q, O' b o = some q → O b o = some q)
    (hfree : ∀ b o, O b o = none → O' b o = none) (hm' : ∀ g x, m' ≠ .c g x)
    (hc : ∀ vs v, tmps.getD r undef = .tuple vs → vs[k]? = some v → StRep w O r k cs v → CmpRep w O' r k m' v) (hu : ∀ q : Owner, (match m' with | .s cs' => ∃ (i : Nat) (c : CV), cs'[i]? = some c ∧ PV.isRow c = true ∧ q = .pl r k i | _ => False) → ∃ (i : Nat) (c : CV), cs[i]? = some c ∧ PV.isRow c = true ∧ q = .pl r k i) :
    ∃ env1, κ.run env1 = some env' ∧ Gh tmps w env O env1 O' ∧ (m' = .gone → ∀ i t, ¬ Uses t (env1.at t).2 (.pl r k i)) := by
  have hr : r < env.length := by
    rcases Nat.lt_or_ge r env.length with h | h
    · exact h
    · rw [at_out env h] at he; cases he
  have hklt := getElem?_lt hk
  simp only [Pr.run, he, SV.cmps] at h
  rw [if_pos hklt] at h
  have hm := inv.mem r
  rw [he] at hm
  obtain ⟨vs, hvs, hsz, hcells⟩ := hm
  have hset : ∀ (i : Nat) m, (ms.set k m')[i]? = some m → (i = k ∧ m = m') ∨ (i ≠ k ∧ ms[i]? = some m) := by
    intro i m hm
    by_cases e : k = i
    · rw [List.getElem?_set, if_pos e, if_pos hklt] at hm
      cases hm; exact .inl ⟨e.symm, rfl⟩
    · rw [List.getElem?_set, if_neg e] at hm
      exact .inr ⟨fun e' => e e'.symm, hm⟩
  have hinv : Inv (env.set r ((env.at r).1, .tup (ms.set k m'))) tmps w O' := by
    refine inv.make (fun t' => t' = r) _ (by simpa using inv.len) (fun b o q hq => inv.bnd b o q (hbnd b o q hq)) hkeep ?_ ?_ ?_ ?_ ?_
    · intro t' ht' q hq ⟨i, c, _, _, e⟩; subst e; exact ht' hq.slot.symm
    · intro t' ht'; exact ⟨at_set_ne _ _ ht', rfl⟩
    · rintro t' rfl
      rw [at_set_same _ _ hr]
      refine ⟨vs, hvs, by simpa using hsz, fun i m hm => ?_⟩
      rcases hset i m hm with ⟨rfl, rfl⟩ | ⟨hne, hm⟩
      · obtain ⟨u, hu, hmr⟩ := hcells _ _ hk
        exact ⟨u, hu, hc vs u hvs hu hmr⟩
      · obtain ⟨u, hu, hmr⟩ := hcells i m hm
        refine ⟨u, hu, ?_⟩
        cases m with
        | c g y => exact CRep.keep hkeep (fun _ ⟨i', c, _, _, e⟩ => by injection e with _ e; exact hne e) hmr
        | s cs1 => exact StRep.keep hkeep (fun i1 c1 _ _ ⟨i', c, _, _, e⟩ => by injection e with _ e; exact hne e) hmr
        | gone => trivial
    · rintro t' rfl
      rw [at_set_same _ _ hr]
      refine ⟨Nat.le_refl _, fun _ _ => ⟨by rw [he]; rfl, rfl⟩, ?_, ?_⟩
      · intro k' gs' gc' ho
        refine ⟨ho.1, fun e => ?_⟩
        have h2 := ho.2 e
        rw [he] at h2; simp only at h2 ⊢
        obtain ⟨m, hm, hi⟩ := h2
        by_cases e1 : k = k'
        · subst e1
          refine ⟨m', by rw [List.getElem?_set, if_pos rfl, if_pos hklt], ?_⟩
          cases m' with
          | c g x => exact absurd rfl (hm' g x)
          | _ => trivial
        · exact ⟨m, by rw [List.getElem?_set, if_neg e1]; exact hm, hi⟩
      · intro k' gs' gc' c2 ho h2
        unfold live at h2 ⊢
        simp only at h2
        split at h2
        · rename_i e
          rw [if_pos e, he]; simp only
          split at h2
          · rename_i g' c' hp'
            split at h2
            · rename_i e'
              cases h2
              rcases hset k' _ hp' with ⟨rfl, e2⟩ | ⟨hne, hm⟩
              · exact absurd e2.symm (hm' _ _)
              · simp only [hm, e', if_true]
                have ho2 := ho.2 e.symm
                rw [he] at ho2; simp only at ho2
                obtain ⟨m, hm2, hi⟩ := ho2
                rw [hm] at hm2; cases hm2
                exact ⟨_, rfl, sameRow.refl_of (hi.2 e'.symm), rfl⟩
            · cases h2
          · cases h2
        · cases h2
    · rintro t' rfl; rw [at_set_same _ _ hr]; trivial
  have huse : ∀ t q, Uses t ((Env.at (env.set r ((env.at r).1, .tup (ms.set k m'))) t).2) q → Uses t (env.at t).2 q ∧ (m' = .gone → ∀ i, q ≠ .pl r k i) := by
    intro t q hq
    by_cases ht : t = r
    · subst ht
      rw [at_set_same _ _ hr] at hq
      rw [he]
      obtain ⟨i, m, hm, hq⟩ := hq
      rcases hset i m hm with ⟨rfl, rfl⟩ | ⟨hne, hm⟩
      · refine ⟨⟨_, _, hk, hu q ?_⟩, ?_⟩
        · cases m with
          | c g x => exact absurd rfl (hm' g x)
          | s cs' => exact hq
          | gone => exact hq
        · rintro rfl; exact hq.elim
      · refine ⟨⟨i, m, hm, hq⟩, fun _ i' e => ?_⟩
        subst e
        cases m with
        | c g x => obtain ⟨_, e⟩ := hq; injection e with _ e; exact hne e.symm
        | s cs' => obtain ⟨_, _, _, _, e⟩ := hq; injection e with _ e; exact hne e.symm
        | gone => exact hq
    · rw [at_set_ne _ _ ht] at hq
      refine ⟨hq, fun _ i e => ht ?_⟩
      subst e; exact hq.slot.symm
  refine ⟨_, h, ⟨hinv, hkeep.mono ?_, fun t q hq => (huse t q hq).1, hfree, hbnd⟩, fun e i t hq => (huse t _ hq).2 e i rfl⟩
  rintro q ⟨i, c, h1, h2, rfl⟩
  exact ⟨r, by rw [he]; exact ⟨k, _, hk, i, c, h1, h2, rfl⟩⟩

theorem emb_run {env env' : Env} {tmps : Array Value} {w : World} {O : Owns} (inv : Inv env tmps w O) {o : Opd} {v : Value} (ho : OpdRep tmps o v) {κ : PV → Pr} (h : (Pr.emb o κ).run env = some env') :
    ∃ pv env1 O1, Gh tmps w env O env1 O1 ∧ FRep (Frz w O1) pv v ∧ (κ pv).run env1 = some env' := by
  cases o with
  | con p => exact ⟨p, env, O, Gh.refl inv, ho _, h⟩
  | tmp t =>
    have hv : v = tmps.getD t undef := ho
    have hm := inv.mem t
    have ha := inv.ali t
    simp only [Pr.emb, Pr.run] at h
    obtain ⟨sv, he⟩ : ∃ sv, (env.at t).2 = sv := ⟨_, rfl⟩
    rw [he] at h hm ha
    cases sv with
    | cv c =>
      cases c with
      | pv p => exact ⟨p, env, O, Gh.refl inv, by rw [hv]; exact hm, h⟩
      | own f s cs sp =>
        have hl : live (env.at t) 0 (env.at t).1 0 = some (.own f s cs sp) := by unfold live; rw [if_pos rfl, he]; rfl
        have hx : PlaceX env t (env.at t) := ⟨rfl, .inl ⟨rfl, by rw [he]; intro e; cases e⟩⟩
        dsimp only at h
        have h' : (if f = true then Pr.chPl t 0 0 (env.at t) false (.own false s cs sp) (κ (.sl s cs)) else κ (.sl s cs)).run env = some env' := by
          rw [← h]
          cases f with
          | true => simp only [if_true]; unfold Pr.chPl; rw [he]; rfl
          | false => rfl
        obtain ⟨env1, O1, g, hk, b, off, len, cap, hh, h0, h1, h2, h3⟩ := less_run inv hl hx h'
        rw [he] at hh; simp only [hdrAt, Option.some.injEq] at hh
        exact ⟨_, env1, O1, g, frep_sl_mk ⟨b, off, len, cap, by rw [hv]; exact hh, h0, h1, h2, h3⟩, hk⟩
      | gone => simp [Pr.run] at h
    | st cs =>
      simp only at h
      split at h
      · rename_i vs hvs
        simp only [Pr.run] at h
        obtain ⟨us, hus, hsz, hcells⟩ := hm
        obtain ⟨hlen, hview⟩ := mapM_some hvs
        have hsome : ∀ (i : Nat) c, cs[i]? = some c → c.view.isSome = true := by
          intro i c hc
          have hi := getElem?_lt hc
          obtain ⟨c', hc', hv'⟩ := hview i vs[i] (List.getElem?_eq_getElem (by omega))
          rw [hc] at hc'; cases hc'; rw [hv']; rfl
        obtain ⟨O1, k1, _, k3, k4, k5⟩ := share_many (w := w) (fun i => .pl t 0 i) (fun i j e => by injection e) cs (fun i => us.getD i undef) hsome cs.length O (fun i c hc => by
          obtain ⟨u, hu, _, hr⟩ := hcells i c hc
          rw [Array.getD_eq_getD_getElem?, hu]; exact hr)
        have ht : t < env.length := by
          rcases Nat.lt_or_ge t env.length with h | h
          · exact h
          · rw [at_out env h] at he; cases he
        have hget : ∀ (i : Nat) u, us[i]? = some u → us.getD i undef = u := by intro i u hu; rw [Array.getD_eq_getD_getElem?, hu]; rfl
        have hinv : Inv (env.set t ((env.at t).1, .st (cs.map CV.less))) tmps w O1 := by
          refine inv.make (fun t' => t' = t) _ (by simpa using inv.len) (fun b o q hq => inv.bnd b o q (k5 b o q hq)) k3 ?_ ?_ ?_ ?_ ?_
          · intro t' ht' q hq ⟨i, c, _, _, e⟩; subst e; exact ht' hq.slot.symm
          · intro t' ht'; exact ⟨at_set_ne _ _ ht', rfl⟩
          · rintro t' rfl
            rw [at_set_same _ _ ht]
            refine ⟨us, hus, by simpa using hsz, fun i c hc => ?_⟩
            rw [List.getElem?_map, Option.map_eq_some_iff] at hc
            obtain ⟨c0, hc0, rfl⟩ := hc
            obtain ⟨u, hu, hi, _⟩ := hcells i c0 hc0
            obtain ⟨m1, _⟩ := k1 i c0 (getElem?_lt hc0) hc0
            rw [hget i u hu] at m1
            exact ⟨u, hu, less_cell hi, m1⟩
          · rintro t' rfl; rw [at_set_same _ _ ht]; exact RootStep.new (.inr ⟨rfl, by rw [he]; rfl⟩)
          · rintro t' rfl; rw [at_set_same _ _ ht]; trivial
        refine ⟨_, _, O1, ⟨hinv, ?_, ?_, k4, k5⟩, ?_, h⟩
        · refine k3.mono ?_
          rintro q ⟨i, c, hc, hr, rfl⟩
          exact ⟨t, by rw [he]; exact ⟨i, c, hc, hr, rfl⟩⟩
        · intro t' q hq
          by_cases htt : t' = t
          · subst htt
            rw [at_set_same _ _ ht] at hq
            obtain ⟨i, c, hc, hr, rfl⟩ := hq
            rw [List.getElem?_map, Option.map_eq_some_iff] at hc
            obtain ⟨c0, hc0, rfl⟩ := hc
            rw [he]
            exact ⟨i, c0, hc0, less_row hr, rfl⟩
          · rw [at_set_ne _ _ htt] at hq; exact hq
        · rw [hv]
          refine frep_agg.2 ⟨us, hus, by rw [hsz, hlen], fun j x hx => ?_⟩
          obtain ⟨c, hc, hvc⟩ := hview j x hx
          obtain ⟨u, hu, hi, _⟩ := hcells j c hc
          obtain ⟨_, x', e1, e2, e3⟩ := k1 j c (getElem?_lt hc) hc
          rw [hvc] at e1; cases e1
          rw [hget j u hu] at e3
          exact ⟨e2 hi, u, hu, e3⟩
      · simp [Pr.run] at h
    | ref r k gs gc =>
      simp only at h
      obtain ⟨x, c, hl, hg, hx, h⟩ := place_run h
      cases c with
      | own f s cs sp =>
        obtain ⟨env1, O1, g, hk, b, off, len, cap, hh, h0, h1, h2, h3⟩ := less_run inv hl hx (κ := κ (.sl s cs)) (by
          rw [← h])
        have hvv := ha.2 _ hl
        rw [hh, Option.some.injEq] at hvv
        exact ⟨_, env1, O1, g, frep_sl_mk ⟨b, off, len, cap, by rw [hv]; exact hvv.symm, h0, h1, h2, h3⟩, hk⟩
      | _ => simp [Pr.run] at h
    | view r k gs gc a b =>
      simp only at h
      obtain ⟨x, c, hl, hg, hx, h⟩ := place_run h
      cases c with
      | own f s cs sp =>
        obtain ⟨env1, O1, g, hk, bl, off, len, cap, hh, h0, h1, h2, h3⟩ := less_run inv hl hx (κ := κ (.sl s ((cs.take b).drop a))) (by
          rw [← h])
        obtain ⟨hab, hb, hi, hj, bl', off0, len', cap', hh', off', hvv, hoff⟩ := ha.2 f s cs sp hl
        rw [hh] at hh'; cases hh'
        obtain ⟨e1, e2, e3⟩ := view_row h0 h1 h2 hab hb hi hj (hoff.imp id And.left) h3
        exact ⟨_, env1, O1, g, frep_sl_mk ⟨bl, off', _, _, by rw [hv]; exact hvv, h0, e1, e2, e3⟩, hk⟩
      | _ => simp [Pr.run] at h
    | sref r k gs =>
      simp only at h
      obtain ⟨ms, cs, he', hms, hgs, h⟩ := comp_run h
      split at h
      · rename_i vs hvs
        obtain ⟨hlen, hview⟩ := mapM_some hvs
        have hsome : ∀ (i : Nat) c, cs[i]? = some c → c.view.isSome = true := by
          intro i c hc
          have hi := getElem?_lt hc
          obtain ⟨c', hc', hv'⟩ := hview i vs[i] (List.getElem?_eq_getElem (by omega))
          rw [hc] at hc'; cases hc'; rw [hv']; rfl
        have hm := inv.mem r
        rw [he'] at hm
        obtain ⟨tv, htv, htsz, htc⟩ := hm
        obtain ⟨u0, hu0, us, hus, hsz, hcells⟩ := htc k _ hms
        have hvu : v = u0 := by
          have := (ha.2 hgs).2
          rw [he', htv] at this; simp only [hdrAt] at this
          rw [hu0, Option.some.injEq] at this
          rw [hv]; exact this.symm
        obtain ⟨O1, k1, _, k3, k4, k5⟩ := share_many (w := w) (fun i => .pl r k i) (fun i j e => by injection e) cs (fun i => us.getD i undef) hsome cs.length O (fun i c hc => by
          obtain ⟨u, hu, _, hr⟩ := hcells i c hc
          rw [Array.getD_eq_getD_getElem?, hu]; exact hr)
        have hget : ∀ (i : Nat) u, us[i]? = some u → us.getD i undef = u := by intro i u hu; rw [Array.getD_eq_getD_getElem?, hu]; rfl
        obtain ⟨env1, hk1, g, _⟩ := updc_inv inv he' hms h k3 k5 k4 (fun _ _ e => by cases e) (by
          intro tv' vv htv' hvv _
          rw [htv] at htv'; cases htv'
          rw [hu0] at hvv; cases hvv
          refine ⟨us, hus, by simpa using hsz, fun i c hc => ?_⟩
          rw [List.getElem?_map, Option.map_eq_some_iff] at hc
          obtain ⟨c0, hc0, rfl⟩ := hc
          obtain ⟨u, hu, hi, _⟩ := hcells i c0 hc0
          obtain ⟨m1, _⟩ := k1 i c0 (getElem?_lt hc0) hc0
          rw [hget i u hu] at m1
          exact ⟨u, hu, less_cell hi, m1⟩) (by
          rintro q ⟨i, c, hc, hr, rfl⟩
          rw [List.getElem?_map, Option.map_eq_some_iff] at hc
          obtain ⟨c0, hc0, rfl⟩ := hc
          exact ⟨i, c0, hc0, less_row hr, rfl⟩)
        refine ⟨_, env1, O1, g, ?_, hk1⟩
        rw [hvu, hus]
        refine frep_agg.2 ⟨us, rfl, by rw [hsz, hlen], fun j x hx => ?_⟩
        obtain ⟨c, hc, hvc⟩ := hview j x hx
        obtain ⟨u, hu, hi, _⟩ := hcells j c hc
        obtain ⟨_, x', e1, e2, e3⟩ := k1 j c (getElem?_lt hc) hc
        rw [hvc] at e1; cases e1
        rw [hget j u hu] at e3
        exact ⟨e2 hi, u, hu, e3⟩
      · simp [Pr.run] at h
    | _ => simp [Pr.run] at h
end

section
/- Operands read; cells taken; a slot written out of what was taken, with new memory. -/

/-- What is read now (a slice's cells may be owned). -/
def RdRep (w : World) (O : Owns) (p : PV) (v : Value) : Prop :=
  match p with
  | .sl s cs => ∃ b off sp len cap, v = .slice (some ⟨b, off, sp⟩) len cap ∧ (sp = none ∨ cap = 0) ∧ 0 < s ∧ cs.length = len * s ∧ len ≤ cap ∧ RowAt (Frz w O) (cellAt w) b off cs
  | p => FRep (Frz w O) p v

theorem Frz.sub {w : World} {O : Owns} (b o : Nat) (v : Value) (h : Frz w O b o = some v) : cellAt w b o = some v := by
  unfold Frz at h
  split at h
  · exact h
  · cases h

theorem FRep.rd {w : World} {O : Owns} {p : PV} {v : Value} (h : FRep (Frz w O) p v) : RdRep w O p v := by
  cases p with
  | sl s cs =>
    obtain ⟨b, off, sp, len, cap, hv, hsp, h0, h1, h2, h3⟩ := frep_sl.1 h
    exact ⟨b, off, sp, len, cap, hv, hsp, h0, h1, h2, h3.mono (fun _ _ _ h => h) (fun j v _ h => Frz.sub _ _ _ h)⟩
  | _ => exact h

theorem rd_run {env env' : Env} {tmps : Array Value} {w : World} {O : Owns} (inv : Inv env tmps w O) {o : Opd} {v : Value} (ho : OpdRep tmps o v) {κ : PV → Pr} (h : (Pr.rd o κ).run env = some env') :
    ∃ pv, RdRep w O pv v ∧ (κ pv).run env = some env' := by
  cases o with
  | con p => exact ⟨p, (ho _).rd, h⟩
  | tmp t =>
    have hv : v = tmps.getD t undef := ho
    have hm := inv.mem t
    have ha := inv.ali t
    simp only [Pr.rd, Pr.run] at h
    obtain ⟨sv, he⟩ : ∃ sv, (env.at t).2 = sv := ⟨_, rfl⟩
    rw [he] at h hm ha
    cases sv with
    | cv c =>
      cases c with
      | pv p => exact ⟨p, by rw [hv]; exact FRep.rd hm, h⟩
      | own f s cs sp =>
        obtain ⟨b, off, len, cap, hvv, hr⟩ := hm
        exact ⟨.sl s cs, ⟨b, off, none, len, cap, by rw [hv]; exact hvv, .inl rfl, hr.pos, hr.len_eq, hr.le, fun j c hj => hr.row j c (by rw [List.getElem?_append_left (getElem?_lt hj)]; exact hj)⟩, h⟩
      | gone => simp [Pr.run] at h
    | ref r k gs gc =>
      simp only at h
      obtain ⟨x, c, hl, hg, hx, h⟩ := place_run h
      cases c with
      | own f s cs sp =>
        obtain ⟨b, off, len, cap, hh, hr⟩ := live_own inv hl
        have hvv := ha.2 _ hl
        rw [hh, Option.some.injEq] at hvv
        exact ⟨.sl s cs, ⟨b, off, none, len, cap, by rw [hv]; exact hvv.symm, .inl rfl, hr.pos, hr.len_eq, hr.le, fun j c hj => hr.row j c (by rw [List.getElem?_append_left (getElem?_lt hj)]; exact hj)⟩, h⟩
      | _ => simp [Pr.run] at h
    | view r k gs gc a b =>
      simp only at h
      obtain ⟨x, c, hl, hg, hx, h⟩ := place_run h
      cases c with
      | own f s cs sp =>
        obtain ⟨bl, off, len, cap, hh, hr⟩ := live_own inv hl
        obtain ⟨hab, hb, hi, hj, bl', off0, len', cap', hh', off', hvv, hoff⟩ := ha.2 f s cs sp hl
        rw [hh] at hh'; cases hh'
        obtain ⟨e1, e2, e3⟩ := view_row hr.pos hr.len_eq hr.le hab hb hi hj (hoff.imp id And.left) (H := Frz w O) (G := cellAt w) (fun j c hj => hr.row j c (by rw [List.getElem?_append_left (getElem?_lt hj)]; exact hj))
        exact ⟨.sl s ((cs.take b).drop a), ⟨bl, off', none, _, _, by rw [hv]; exact hvv, .inl rfl, hr.pos, e1, e2, e3⟩, h⟩
      | _ => simp [Pr.run] at h
    | _ => simp [Pr.run] at h

/-- Operands and their values. -/
def OpdReps (tmps : Array Value) (os : List Opd) (vs : List Value) : Prop := vs.length = os.length ∧ ∀ (i : Nat) o v, os[i]? = some o → vs[i]? = some v → OpdRep tmps o v

theorem OpdReps.cons {tmps : Array Value} {o : Opd} {os : List Opd} {vs : List Value} (h : OpdReps tmps (o :: os) vs) : ∃ v vs', vs = v :: vs' ∧ OpdRep tmps o v ∧ OpdReps tmps os vs' := by
  cases vs with
  | nil => have := h.1; simp at this
  | cons v vs' => exact ⟨v, vs', rfl, h.2 0 o v rfl rfl, by have := h.1; simpa using this, fun i o' v' h1 h2 => h.2 (i + 1) o' v' h1 h2⟩

theorem OpdReps.nil {tmps : Array Value} {vs : List Value} (h : OpdReps tmps [] vs) : vs = [] := by have := h.1; simpa using this

def All2 {α β : Type} (R : α → β → Prop) : List α → List β → Prop
  | [], [] => True
  | a :: l, b :: m => R a b ∧ All2 R l m
  | _, _ => False

theorem rds_run {env env' : Env} {tmps : Array Value} {w : World} {O : Owns} (inv : Inv env tmps w O) : ∀ (os : List Opd) (vs : List Value) (κ : List PV → Pr), OpdReps tmps os vs → (Pr.rds κ os).run env = some env' →
    ∃ ps, All2 (RdRep w O) ps vs ∧ (κ ps).run env = some env'
  | [], vs, κ, ho, h => ⟨[], by rw [ho.nil]; trivial, h⟩
  | o :: os, vs, κ, ho, h => by
    obtain ⟨v, vs', rfl, h1, h2⟩ := ho.cons
    obtain ⟨p, hp, h⟩ := rd_run inv h1 h
    obtain ⟨ps, hps, h⟩ := rds_run inv os vs' _ h2 h
    exact ⟨p :: ps, ⟨hp, hps⟩, h⟩

theorem All2.imp {α β : Type} {R S : α → β → Prop} (hh : ∀ a b, R a b → S a b) : ∀ {l : List α} {m : List β}, All2 R l m → All2 S l m
  | [], [], _ => trivial
  | _ :: _, _ :: _, h => ⟨hh _ _ h.1, All2.imp hh h.2⟩
  | [], _ :: _, h => h.elim
  | _ :: _, [], h => h.elim

theorem embs_run {env' : Env} {tmps : Array Value} {w : World} : ∀ (os : List Opd) (vs : List Value) (κ : List PV → Pr) (env : Env) (O : Owns), Inv env tmps w O → OpdReps tmps os vs → (Pr.embs κ os).run env = some env' →
    ∃ ps env1 O1, Gh tmps w env O env1 O1 ∧ All2 (FRep (Frz w O1)) ps vs ∧ (κ ps).run env1 = some env'
  | [], vs, κ, env, O, inv, ho, h => ⟨[], env, O, Gh.refl inv, by rw [ho.nil]; trivial, h⟩
  | o :: os, vs, κ, env, O, inv, ho, h => by
    obtain ⟨v, vs', rfl, h1, h2⟩ := ho.cons
    obtain ⟨p, env1, O1, g1, hp, h⟩ := emb_run inv h1 h
    obtain ⟨ps, env2, O2, g2, hps, h⟩ := embs_run os vs' _ env1 O1 g1.inv h2 h
    exact ⟨p :: ps, env2, O2, g1.trans g2, ⟨hp.mono g2.frz, hps⟩, h⟩

/-! ## Cells that were taken -/

/-- A cell on its way: its content, its value, the name of its owner. -/
abbrev Cell3 := CV × Value × Owner

def ro (x : Cell3) : Option Owner := if PV.isRow x.1 then some x.2.2 else none

structure LRow (env : Env) (w : World) (O : Owns) (L : List Cell3) : Prop where
  cell : ∀ x ∈ L, x.1.isCell = true ∧ CRep w O x.2.2 x.1 x.2.1 ∧ (PV.isRow x.1 = true → ∀ t, ¬ Uses t (env.at t).2 x.2.2)
  nodup : (L.filterMap ro).Nodup
  next : ∀ x ∈ L, PV.isRow x.1 = true → x.2.2 ≠ .ext

theorem mem_ro {L : List Cell3} {p : Owner} : p ∈ L.filterMap ro ↔ ∃ x ∈ L, PV.isRow x.1 = true ∧ x.2.2 = p := by
  rw [List.mem_filterMap]
  constructor
  · rintro ⟨x, hx, h⟩
    unfold ro at h
    split at h
    · rename_i hr; cases h; exact ⟨x, hx, hr, rfl⟩
    · cases h
  · rintro ⟨x, hx, hr, rfl⟩
    exact ⟨x, hx, by unfold ro; rw [if_pos hr]⟩

theorem LRow.noext {env : Env} {w : World} {O : Owns} {L : List Cell3} (h : LRow env w O L) : Owner.ext ∉ L.filterMap ro := by
  intro hp
  obtain ⟨x, hx, hr, e⟩ := mem_ro.1 hp
  exact h.next x hx hr e

theorem LRow.gh {tmps : Array Value} {w : World} {env env' : Env} {O O' : Owns} (g : Gh tmps w env O env' O') {L : List Cell3} (h : LRow env w O L) : LRow env' w O' L :=
  ⟨fun x hx => ⟨(h.cell x hx).1, (h.cell x hx).2.1.keep g.keep (fun hr ⟨t, ht⟩ => (h.cell x hx).2.2 hr t ht), fun hr t ht => (h.cell x hx).2.2 hr t (g.uses t _ ht)⟩, h.nodup, h.next⟩

theorem LRow.nil (env : Env) (w : World) (O : Owns) : LRow env w O [] := ⟨fun _ h => (List.not_mem_nil h).elim, List.nodup_nil, fun _ h => (List.not_mem_nil h).elim⟩

theorem LRow.append {env : Env} {w : World} {O : Owns} {L M : List Cell3} (h : LRow env w O L) (k : LRow env w O M) (hd : ∀ p, p ∈ L.filterMap ro → p ∈ M.filterMap ro → False) : LRow env w O (L ++ M) := by
  refine ⟨fun x hx => (List.mem_append.1 hx).elim (h.cell x) (k.cell x), ?_, fun x hx => (List.mem_append.1 hx).elim (h.next x) (k.next x)⟩
  rw [List.filterMap_append, List.nodup_append]
  exact ⟨h.nodup, k.nodup, fun a ha b hb e => hd a ha (e ▸ hb)⟩

/-- Cells that nobody owns. -/
theorem LRow.plain {env : Env} {w : World} {O : Owns} {cs : List PV} {us : List Value} (hl : us.length = cs.length) (h : ∀ (i : Nat) c u, cs[i]? = some c → us[i]? = some u → c.isCell = true ∧ FRep (Frz w O) c u) :
    LRow env w O ((cs.zip us).map fun p => (.pv p.1, p.2, .box 0)) := by
  refine ⟨fun x hx => ?_, ?_, fun x hx hr => ?_⟩
  case refine_3 =>
    obtain ⟨p, _, rfl⟩ := List.mem_map.1 hx
    cases hr
  · obtain ⟨p, hp, rfl⟩ := List.mem_map.1 hx
    obtain ⟨i, hi, e⟩ := List.getElem_of_mem hp
    have h1 : i < cs.length := by rw [List.length_zip] at hi; omega
    have h2 : i < us.length := by omega
    have := h i cs[i] us[i] (List.getElem?_eq_getElem h1) (List.getElem?_eq_getElem h2)
    rw [List.getElem_zip] at e
    subst e
    exact ⟨this.1, this.2, fun hr => by cases hr⟩
  · rw [List.filterMap_eq_nil_iff.2]
    · exact List.nodup_nil
    · intro x hx
      obtain ⟨p, _, rfl⟩ := List.mem_map.1 hx
      rfl

theorem cells_rep {H : Look} {p : PV} {v : Value} (h : FRep H p v) (hp : p.cells ≠ [] ∨ True) :
    p.cells.length ≤ v.cells.size ∧ (p ≠ .undef → v.cells.size = p.cells.length ∧ ∀ (i : Nat) c u, p.cells[i]? = some c → v.cells.toList[i]? = some u → c.isCell = true ∧ FRep H c u) := by
  have one : ∀ (q : PV) (u : Value), q.isCell = true → FRep H q u → ∀ (i : Nat) c u', [q][i]? = some c → [u][i]? = some u' → c.isCell = true ∧ FRep H c u' := by
    intro q u hq hf i c u' h1 h2
    cases i with
    | zero => cases h1; cases h2; exact ⟨hq, hf⟩
    | succ i => simp at h1
  cases h with
  | agg cs vs hl hr hi =>
    refine ⟨by simp [PV.cells, Value.cells, hl], fun _ => ⟨by simp [PV.cells, Value.cells, hl], fun i c u h1 h2 => ⟨hi c (List.mem_of_getElem? h1), hr i c u h1 ?_⟩⟩⟩
    simpa [Value.cells] using h2
  | undef => exact ⟨by simp [PV.cells], fun h => absurd rfl h⟩
  | sl s cs b off sp len cap vs h0 hsp hl hc hv hr hi =>
    exact ⟨by simp [PV.cells, Value.cells], fun _ => ⟨rfl, one _ _ rfl (.sl s cs b off sp len cap vs h0 hsp hl hc hv hr hi)⟩⟩
  | int k n => exact ⟨by simp [PV.cells, Value.cells], fun _ => ⟨rfl, one _ _ rfl (.int k n)⟩⟩
  | bool b => exact ⟨by simp [PV.cells, Value.cells], fun _ => ⟨rfl, one _ _ rfl (.bool b)⟩⟩
  | str s => exact ⟨by simp [PV.cells, Value.cells], fun _ => ⟨rfl, one _ _ rfl (.str s)⟩⟩
  | nils => exact ⟨by simp [PV.cells, Value.cells], fun _ => ⟨rfl, one _ _ rfl .nils⟩⟩
  | fn f => exact ⟨by simp [PV.cells, Value.cells], fun _ => ⟨rfl, one _ _ rfl (.fn f)⟩⟩
  | nilp => exact ⟨by simp [PV.cells, Value.cells], fun _ => ⟨rfl, one _ _ rfl .nilp⟩⟩
  | nilf => exact ⟨by simp [PV.cells, Value.cells], fun _ => ⟨rfl, one _ _ rfl .nilf⟩⟩
  | nili => exact ⟨by simp [PV.cells, Value.cells], fun _ => ⟨rfl, one _ _ rfl .nili⟩⟩

/-- A slot that holds what is no more there. -/
theorem kill_inv {env : Env} {tmps : Array Value} {w : World} {O : Owns} (inv : Inv env tmps w O) (t g : Nat) (hg : (env.at t).1 < g ∨ ((env.at t).1 = g ∧ (env.at t).2.hd = .plain)) :
    Gh tmps w env O (env.set t (g, .dead)) O ∧ ∀ q, q.slot = t → t < env.length → ∀ t', ¬ Uses t' (Env.at (env.set t (g, .dead)) t').2 q := by
  by_cases ht : t < env.length
  · refine ⟨⟨?_, Keep.refl _ _ _, ?_, fun _ _ h => h, fun _ _ _ h => h⟩, ?_⟩
    · refine inv.make (fun t' => t' = t) (fun _ => False) (by simpa using inv.len) inv.bnd (Keep.refl _ _ _) (fun _ _ _ _ h => h) ?_ ?_ ?_ ?_
      · intro t' ht'; exact ⟨at_set_ne _ _ ht', rfl⟩
      · rintro t' rfl; rw [at_set_same _ _ ht]; trivial
      · rintro t' rfl; rw [at_set_same _ _ ht]; exact RootStep.new hg
      · rintro t' rfl; rw [at_set_same _ _ ht]; trivial
    · intro t' q hq
      by_cases e : t' = t
      · subst e; rw [at_set_same _ _ ht] at hq; exact hq.elim
      · rw [at_set_ne _ _ e] at hq; exact hq
    · intro q hq _ t' hu
      have := hu.slot
      rw [hq] at this; subst this
      rw [at_set_same _ _ ht] at hu; exact hu.elim
  · have h1 : env.set t (g, .dead) = env := List.set_eq_of_length_le (by omega)
    rw [h1]
    exact ⟨Gh.refl inv, fun q _ h => absurd h ht⟩

/-- The cells of an operand, taken where they are owned. -/
theorem tk_run {env env' : Env} {tmps : Array Value} {w : World} {O : Owns} (inv : Inv env tmps w O) {o : Opd} {v : Value} (ho : OpdRep tmps o v) {κ : List CV → Pr} (h : (Pr.tk o κ).run env = some env') :
    ∃ L env1 O1, Gh tmps w env O env1 O1 ∧ LRow env1 w O1 L ∧ (L.map (·.1) = [] ∨ v.cells.toList = L.map (·.2.1)) ∧ (∀ p, p ∈ L.filterMap ro → ∃ t, Uses t (env.at t).2 p) ∧ (κ (L.map (·.1))).run env1 = some env' := by
  have plain : ∀ (pv : PV) (env1 : Env) (O1 : Owns), Gh tmps w env O env1 O1 → FRep (Frz w O1) pv v → (κ (pv.cells.map .pv)).run env1 = some env' →
      ∃ L env1 O1, Gh tmps w env O env1 O1 ∧ LRow env1 w O1 L ∧ (L.map (·.1) = [] ∨ v.cells.toList = L.map (·.2.1)) ∧ (∀ p, p ∈ L.filterMap ro → ∃ t, Uses t (env.at t).2 p) ∧ (κ (L.map (·.1))).run env1 = some env' := by
    intro pv env1 O1 g hf hk
    obtain ⟨h1, h2⟩ := cells_rep hf (.inr trivial)
    by_cases hu : pv = .undef
    · subst hu
      exact ⟨[], env1, O1, g, LRow.nil _ _ _, .inl rfl, fun p hp => by simp at hp, hk⟩
    · obtain ⟨h3, h4⟩ := h2 hu
      refine ⟨_, env1, O1, g, LRow.plain (us := v.cells.toList) (by simpa using h3) h4, .inr ?_, ?_, ?_⟩
      · rw [List.map_map]
        have : ((fun x : Cell3 => x.2.1) ∘ fun p : PV × Value => (CV.pv p.1, p.2, Owner.box 0)) = Prod.snd := rfl
        rw [this, List.map_snd_zip]; simp [h3]
      · intro p hp
        obtain ⟨x, hx, hr, _⟩ := mem_ro.1 hp
        obtain ⟨y, _, rfl⟩ := List.mem_map.1 hx
        cases hr
      · rw [List.map_map]
        have : ((fun x : Cell3 => x.1) ∘ fun p : PV × Value => (CV.pv p.1, p.2, Owner.box 0)) = CV.pv ∘ Prod.fst := rfl
        rw [this, ← List.map_map, List.map_fst_zip]
        · exact hk
        · simp [h3]
  cases o with
  | con p => exact plain p env O (Gh.refl inv) (ho _) h
  | tmp t =>
    have hv : v = tmps.getD t undef := ho
    have hm := inv.mem t
    have ha := inv.ali t
    have h0 := h
    simp only [Pr.tk, Pr.run] at h
    obtain ⟨sv, he⟩ : ∃ sv, (env.at t).2 = sv := ⟨_, rfl⟩
    have ht : sv ≠ .dead → t < env.length := by
      intro hne
      rcases Nat.lt_or_ge t env.length with h | h
      · exact h
      · rw [at_out env h] at he; exact absurd he.symm hne
    rw [he] at h hm ha
    have viaEmb : (Pr.emb (.tmp t) fun v => κ (v.cells.map .pv)).run env = some env' →
        ∃ L env1 O1, Gh tmps w env O env1 O1 ∧ LRow env1 w O1 L ∧ (L.map (·.1) = [] ∨ v.cells.toList = L.map (·.2.1)) ∧ (∀ p, p ∈ L.filterMap ro → ∃ t, Uses t (env.at t).2 p) ∧ (κ (L.map (·.1))).run env1 = some env' := fun hh => by
      obtain ⟨pv, env1, O1, g, hf, hk⟩ := emb_run inv ho hh
      exact plain pv env1 O1 g hf hk
    cases sv with
    | cv c =>
      cases c with
      | own f s cs sp =>
        simp only [Pr.run] at h
        obtain ⟨g, hno⟩ := kill_inv inv t ((env.at t).1 + 1) (.inl (Nat.lt_succ_self _))
        refine ⟨[(.own f s cs sp, v, .pl t 0 0)], _, O, g, ⟨?_, ?_, fun x hx _ => by rw [List.mem_singleton] at hx; subst hx; simp⟩, .inr ?_, ?_, h⟩
        · intro x hx
          rw [List.mem_singleton] at hx; subst hx
          exact ⟨rfl, by rw [hv]; exact hm, fun _ => hno _ rfl (ht (by intro e; cases e))⟩
        · simp [ro, PV.isRow]
        · obtain ⟨b, off, len, cap, hvv, _⟩ := hm
          rw [hv, hvv]; rfl
        · intro p hp
          simp [ro, PV.isRow] at hp; subst hp
          exact ⟨t, by rw [he]; exact ⟨rfl, rfl⟩⟩
      | pv p => exact viaEmb h
      | gone => exact viaEmb h
    | st cs =>
      simp only [Pr.run] at h
      obtain ⟨us, hus, hsz, hcells⟩ := hm
      obtain ⟨g, hno⟩ := kill_inv inv t (env.at t).1 (.inr ⟨rfl, by rw [he]; rfl⟩)
      let L : List Cell3 := (cs.zip us.toList).mapIdx fun i p => (p.1, p.2, .pl t 0 i)
      have hlen : L.length = cs.length := by simp [L, hsz]
      have hat : ∀ (i : Nat) x, L[i]? = some x → ∃ c u, cs[i]? = some c ∧ us[i]? = some u ∧ x = (c, u, .pl t 0 i) := by
        intro i x hx
        simp only [L, List.getElem?_mapIdx, Option.map_eq_some_iff] at hx
        obtain ⟨p, hp, rfl⟩ := hx
        rw [List.getElem?_zip_eq_some] at hp
        exact ⟨p.1, p.2, hp.1, by simpa using hp.2, rfl⟩
      have h1 : L.map (·.1) = cs := by
        apply List.ext_getElem?
        intro i
        rw [List.getElem?_map]
        cases hx : L[i]? with
        | none =>
          have : cs.length ≤ i := by rw [← hlen]; exact List.getElem?_eq_none_iff.1 hx
          rw [List.getElem?_eq_none this]; rfl
        | some x => obtain ⟨c, u, hc, _, rfl⟩ := hat i x hx; rw [hc]; rfl
      have h2 : L.map (·.2.1) = us.toList := by
        apply List.ext_getElem?
        intro i
        rw [List.getElem?_map]
        cases hx : L[i]? with
        | none =>
          have : cs.length ≤ i := by rw [← hlen]; exact List.getElem?_eq_none_iff.1 hx
          rw [List.getElem?_eq_none (by simp; omega)]; rfl
        | some x => obtain ⟨c, u, _, hu, rfl⟩ := hat i x hx; simp [hu]
      refine ⟨L, _, O, g, ⟨?_, ?_, fun x hx _ => by
        obtain ⟨i, hi, e⟩ := List.getElem_of_mem hx
        obtain ⟨c, u, hc, hu, rfl⟩ := hat i x (by rw [← e]; exact List.getElem?_eq_getElem hi)
        simp⟩, .inr (by rw [h2, hv, hus]; rfl), ?_, by rw [h1]; exact h⟩
      · intro x hx
        obtain ⟨i, hi, e⟩ := List.getElem_of_mem hx
        obtain ⟨c, u, hc, hu, rfl⟩ := hat i x (by rw [← e]; exact List.getElem?_eq_getElem hi)
        obtain ⟨u', hu', hcc, hr⟩ := hcells i c hc
        rw [hu] at hu'; cases hu'
        exact ⟨hcc, hr, fun _ => hno _ rfl (ht (by intro e; cases e))⟩
      · rw [List.Nodup, List.pairwise_filterMap]
        rw [List.pairwise_iff_getElem]
        intro i j hi hj hij p hp q hq e
        obtain ⟨c, u, _, _, e1⟩ := hat i _ (List.getElem?_eq_getElem hi)
        obtain ⟨c', u', _, _, e2⟩ := hat j _ (List.getElem?_eq_getElem hj)
        rw [e1] at hp; rw [e2] at hq
        unfold ro at hp hq
        split at hp
        · split at hq
          · cases hp; cases hq; injection e with _ _ e; omega
          · cases hq
        · cases hp
      · intro p hp
        obtain ⟨x, hx, hr, rfl⟩ := mem_ro.1 hp
        obtain ⟨i, hi, e⟩ := List.getElem_of_mem hx
        obtain ⟨c, u, hc, hu, rfl⟩ := hat i x (by rw [← e]; exact List.getElem?_eq_getElem hi)
        exact ⟨t, by rw [he]; exact ⟨i, c, hc, hr, rfl⟩⟩
    | sref r k gs =>
      simp only at h
      obtain ⟨ms, cs, he', hms, hgs, h⟩ := comp_run h
      have hm := inv.mem r
      rw [he'] at hm
      obtain ⟨tv, htv, htsz, htc⟩ := hm
      obtain ⟨u0, hu0, us, hus, hsz, hcells⟩ := htc k _ hms
      have hvu : v = u0 := by
        have := (ha.2 hgs).2
        rw [he', htv] at this; simp only [hdrAt] at this
        rw [hu0, Option.some.injEq] at this
        rw [hv]; exact this.symm
      obtain ⟨env1, hk1, g, hno⟩ := updc_inv inv he' hms h (Keep.refl _ _ _) (fun _ _ _ h => h) (fun _ _ h => h) (fun _ _ e => by cases e) (fun _ _ _ _ _ => trivial) (fun _ h => h.elim)
      let L : List Cell3 := (cs.zip us.toList).mapIdx fun i p => (p.1, p.2, .pl r k i)
      have hlen : L.length = cs.length := by simp [L, hsz]
      have hat : ∀ (i : Nat) x, L[i]? = some x → ∃ c u, cs[i]? = some c ∧ us[i]? = some u ∧ x = (c, u, .pl r k i) := by
        intro i x hx
        simp only [L, List.getElem?_mapIdx, Option.map_eq_some_iff] at hx
        obtain ⟨p, hp, rfl⟩ := hx
        rw [List.getElem?_zip_eq_some] at hp
        exact ⟨p.1, p.2, hp.1, by simpa using hp.2, rfl⟩
      have h1 : L.map (·.1) = cs := by
        apply List.ext_getElem?
        intro i
        rw [List.getElem?_map]
        cases hx : L[i]? with
        | none =>
          have : cs.length ≤ i := by rw [← hlen]; exact List.getElem?_eq_none_iff.1 hx
          rw [List.getElem?_eq_none this]; rfl
        | some x => obtain ⟨c, u, hc, _, rfl⟩ := hat i x hx; rw [hc]; rfl
      have h2 : L.map (·.2.1) = us.toList := by
        apply List.ext_getElem?
        intro i
        rw [List.getElem?_map]
        cases hx : L[i]? with
        | none =>
          have : cs.length ≤ i := by rw [← hlen]; exact List.getElem?_eq_none_iff.1 hx
          rw [List.getElem?_eq_none (by simp; omega)]; rfl
        | some x => obtain ⟨c, u, _, hu, rfl⟩ := hat i x hx; simp [hu]
      refine ⟨L, env1, O, g, ⟨?_, ?_, fun x hx _ => by
        obtain ⟨i, hi, e⟩ := List.getElem_of_mem hx
        obtain ⟨c, u, hc, hu, rfl⟩ := hat i x (by rw [← e]; exact List.getElem?_eq_getElem hi)
        simp⟩, .inr (by rw [h2, hvu, hus]; rfl), ?_, by rw [h1]; exact hk1⟩
      · intro x hx
        obtain ⟨i, hi, e⟩ := List.getElem_of_mem hx
        obtain ⟨c, u, hc, hu, rfl⟩ := hat i x (by rw [← e]; exact List.getElem?_eq_getElem hi)
        obtain ⟨u', hu', hcc, hr⟩ := hcells i c hc
        rw [hu] at hu'; cases hu'
        exact ⟨hcc, hr, fun _ t => hno rfl i t⟩
      · rw [List.Nodup, List.pairwise_filterMap]
        rw [List.pairwise_iff_getElem]
        intro i j hi hj hij p hp q hq e
        obtain ⟨c, u, _, _, e1⟩ := hat i _ (List.getElem?_eq_getElem hi)
        obtain ⟨c', u', _, _, e2⟩ := hat j _ (List.getElem?_eq_getElem hj)
        rw [e1] at hp; rw [e2] at hq
        unfold ro at hp hq
        split at hp
        · split at hq
          · cases hp; cases hq; injection e with _ _ e; omega
          · cases hq
        · cases hp
      · intro p hp
        obtain ⟨x, hx, hr, rfl⟩ := mem_ro.1 hp
        obtain ⟨i, hi, e⟩ := List.getElem_of_mem hx
        obtain ⟨c, u, hc, hu, rfl⟩ := hat i x (by rw [← e]; exact List.getElem?_eq_getElem hi)
        exact ⟨r, by rw [he']; exact ⟨k, _, hms, i, c, hc, hr, rfl⟩⟩
    | _ => exact viaEmb h
end

section
/- Many operands taken; cells laid; a slot written with what was taken and with new memory. -/

theorem tks_run {env' : Env} {tmps : Array Value} {w : World} : ∀ (os : List Opd) (vs : List Value) (κ : List (List CV) → Pr) (env : Env) (O : Owns), Inv env tmps w O → OpdReps tmps os vs → (Pr.tks κ os).run env = some env' →
    ∃ Ls env1 O1, Gh tmps w env O env1 O1 ∧ LRow env1 w O1 Ls.flatten ∧ All2 (fun (L : List Cell3) v => L.map (·.1) = [] ∨ v.cells.toList = L.map (·.2.1)) Ls vs ∧ (∀ p, p ∈ Ls.flatten.filterMap ro → ∃ t, Uses t (env.at t).2 p) ∧
      (κ (Ls.map fun L => L.map (·.1))).run env1 = some env'
  | [], vs, κ, env, O, inv, ho, h => ⟨[], env, O, Gh.refl inv, LRow.nil _ _ _, by rw [ho.nil]; trivial, fun p hp => by simp at hp, h⟩
  | o :: os, vs, κ, env, O, inv, ho, h => by
    obtain ⟨v, vs', rfl, h1, h2⟩ := ho.cons
    obtain ⟨L, env1, O1, g1, hL, hc, hu, h⟩ := tk_run inv h1 h
    obtain ⟨Ls, env2, O2, g2, hLs, hcs, hus, h⟩ := tks_run os vs' _ env1 O1 g1.inv h2 h
    refine ⟨L :: Ls, env2, O2, g1.trans g2, ?_, ⟨hc, hcs⟩, ?_, h⟩
    · rw [List.flatten_cons]
      refine (hL.gh g2).append hLs fun p hp hq => ?_
      obtain ⟨t, ht⟩ := hus p hq
      obtain ⟨x, hx, hr, rfl⟩ := mem_ro.1 hp
      exact (hL.cell x hx).2.2 hr t ht
    · intro p hp
      rw [List.flatten_cons, List.filterMap_append, List.mem_append] at hp
      rcases hp with hp | hp
      · exact hu p hp
      · obtain ⟨t, ht⟩ := hus p hp; exact ⟨t, g1.uses t p ht⟩

theorem lay_map {α β : Type} (f : α → β) : ∀ (ps : List (Nat × List α)) (cells : List α), lay (cells.map f) (ps.map fun p => (p.1, p.2.map f)) = (lay cells ps).map (fun l => l.map f)
  | [], cells => rfl
  | (off, cs) :: ps, cells => by
    simp only [List.map_cons, lay, List.length_map]
    split
    · rw [← lay_map f ps]; simp [List.map_append, List.map_take, List.map_drop]
    · rfl

theorem lay_mem {α : Type} : ∀ (ps : List (Nat × List α)) (cells out : List α), lay cells ps = some out → out.length = cells.length ∧ ∀ x ∈ out, x ∈ cells ∨ ∃ p ∈ ps, x ∈ p.2
  | [], cells, out, h => by simp only [lay, Option.some.injEq] at h; subst h; exact ⟨rfl, fun x hx => .inl hx⟩
  | (off, cs) :: ps, cells, out, h => by
    simp only [lay] at h
    split at h
    · rename_i hle
      obtain ⟨h1, h2⟩ := lay_mem ps _ out h
      refine ⟨by rw [h1]; simp; omega, fun x hx => ?_⟩
      rcases h2 x hx with hx | ⟨p, hp, hx⟩
      · simp only [List.mem_append] at hx
        rcases hx with (hx | hx) | hx
        · exact .inl (List.mem_of_mem_take hx)
        · exact .inr ⟨_, List.mem_cons_self, hx⟩
        · exact .inl (List.mem_of_mem_drop hx)
      · exact .inr ⟨p, List.mem_cons_of_mem _ hp, hx⟩
    · cases h

theorem lay_nodup {α β : Type} (f : α → Option β) : ∀ (ps : List (Nat × List α)) (cells out : List α), lay cells ps = some out → (cells.filterMap f ++ (ps.map (·.2)).flatten.filterMap f).Nodup → (out.filterMap f).Nodup
  | [], cells, out, h, hn => by simp only [lay, Option.some.injEq] at h; subst h; simpa using hn
  | (off, cs) :: ps, cells, out, h, hn => by
    simp only [lay] at h
    split at h
    · refine lay_nodup f ps _ out h ?_
      simp only [List.map_cons, List.flatten_cons, List.filterMap_append] at hn ⊢
      have hsub : ((cells.take off).filterMap f ++ (cells.drop (off + cs.length)).filterMap f).Sublist (cells.filterMap f) := by
        rw [← List.filterMap_append]
        refine List.Sublist.filterMap f ?_
        have := List.take_append_drop off cells
        conv => rhs; rw [← this]
        refine List.Sublist.append (List.Sublist.refl _) ?_
        rw [← List.drop_drop]
        exact List.drop_sublist _ _
      have h1 : (((cells.take off).filterMap f ++ (cells.drop (off + cs.length)).filterMap f) ++ (cs.filterMap f ++ (ps.map (·.2)).flatten.filterMap f)).Nodup :=
        List.Sublist.nodup (List.Sublist.append hsub (List.Sublist.refl _)) hn
      refine (List.Perm.nodup_iff ?_).1 h1
      -- A ++ B ++ (C ++ D) ~ A ++ C ++ B ++ D
      simp only [List.append_assoc]
      refine List.Perm.append_left _ ?_
      rw [← List.append_assoc, ← List.append_assoc]
      exact List.Perm.append_right _ List.perm_append_comm
    · cases h

/-- The new names of what was taken. -/
noncomputable def renO (w : World) (O : Owns) (L : List Cell3) (q : Nat → Owner) (N : Owns) : Owns := fun b o =>
  if b < w.heap.size then
    (O b o).map fun p => match Classical.propDecidable (∃ (i : Nat) (x : Cell3), L[i]? = some x ∧ PV.isRow x.1 = true ∧ x.2.2 = p) with
      | .isTrue h => q h.choose
      | .isFalse _ => p
  else N b o

theorem renO_none {w : World} {O : Owns} {L : List Cell3} {q : Nat → Owner} {N : Owns} {b o : Nat} (hb : b < w.heap.size) : renO w O L q N b o = none ↔ O b o = none := by
  unfold renO; rw [if_pos hb]; simp

theorem renO_other {w : World} {O : Owns} {L : List Cell3} {q : Nat → Owner} {N : Owns} {b o : Nat} (hb : b < w.heap.size) {p : Owner} (hO : O b o = some p) (hp : p ∉ L.filterMap ro) : renO w O L q N b o = some p := by
  unfold renO; rw [if_pos hb, hO]; simp only [Option.map_some]
  split
  · rename_i h _
    obtain ⟨i, x, hx, hr, e⟩ := h
    exact absurd (mem_ro.2 ⟨x, List.mem_of_getElem? hx, hr, e⟩) hp
  · rfl

theorem renO_row {w : World} {O : Owns} {L : List Cell3} {q : Nat → Owner} {N : Owns} {b o : Nat} (hb : b < w.heap.size) {i : Nat} {x : Cell3} (hx : L[i]? = some x) (hr : PV.isRow x.1 = true) (hO : O b o = some x.2.2)
    (hn : (L.filterMap ro).Nodup) : renO w O L q N b o = some (q i) := by
  unfold renO; rw [if_pos hb, hO]; simp only [Option.map_some]
  have h0 : ∃ (i : Nat) (y : Cell3), L[i]? = some y ∧ PV.isRow y.1 = true ∧ y.2.2 = x.2.2 := ⟨i, x, hx, hr, rfl⟩
  split
  case h_2 h _ => exact absurd h0 h
  rename_i h _
  congr 2
  obtain ⟨y, hy, hry, e⟩ := h.choose_spec
  generalize h.choose = j at hy
  -- two places of one owner are one
  rw [List.Nodup, List.pairwise_filterMap, List.pairwise_iff_getElem] at hn
  have hi := getElem?_lt hx
  have hj := getElem?_lt hy
  have e1 : L[i] = x := by have := List.getElem?_eq_getElem hi; rw [hx] at this; exact (Option.some.inj this).symm
  have e2 : L[j] = y := by have := List.getElem?_eq_getElem hj; rw [hy] at this; exact (Option.some.inj this).symm
  rcases Nat.lt_trichotomy j i with hlt | heq | hgt
  · exact absurd e (hn j i hj hi hlt _ (by rw [e2]; unfold ro; rw [if_pos hry]) _ (by rw [e1]; unfold ro; rw [if_pos hr]))
  · exact heq
  · exact absurd e.symm (hn i j hi hj hgt _ (by rw [e1]; unfold ro; rw [if_pos hr]) _ (by rw [e2]; unfold ro; rw [if_pos hry]))

/-- From one world to a later one: what was there is there. -/
structure Later (w w' : World) : Prop where
  os : w'.os = w.os
  tape : w'.tape = w.tape
  output : w'.output = w.output
  size : w.heap.size ≤ w'.heap.size
  block : ∀ b, b < w.heap.size → w'.heap[b]? = w.heap[b]?

theorem Later.refl (w : World) : Later w w := ⟨rfl, rfl, rfl, Nat.le_refl _, fun _ _ => rfl⟩
theorem Later.drew (w : World) : Later w w.drew := ⟨rfl, rfl, rfl, Nat.le_refl _, fun _ _ => rfl⟩
theorem Later.alloc (w : World) (o : Obj) : Later w (w.alloc o) := ⟨rfl, rfl, rfl, by show _ ≤ (w.heap.push o).size; simp, fun b hb => Go.RowKit.Below.heap_alloc w o b hb⟩
theorem Later.trans {a b c : World} (h : Later a b) (k : Later b c) : Later a c :=
  ⟨k.os.trans h.os, k.tape.trans h.tape, k.output.trans h.output, Nat.le_trans h.size k.size, fun i hi => (k.block i (Nat.lt_of_lt_of_le hi h.size)).trans (h.block i hi)⟩
theorem Later.cell {w w' : World} (h : Later w w') {b : Nat} (hb : b < w.heap.size) (o : Nat) : cellAt w' b o = cellAt w b o ∧ frozenAt w' b o = frozenAt w b o := by
  unfold cellAt frozenAt World.cell?
  rw [h.block b hb]; exact ⟨rfl, rfl⟩

/-- A taken cell under its new name. -/
theorem CRep.ren {w w' : World} {O : Owns} {L : List Cell3} {q : Nat → Owner} {N : Owns} (hw : Later w w') (_hbnd : ∀ b o p, O b o = some p → b < w.heap.size) (hn : (L.filterMap ro).Nodup)
    {i : Nat} {x : Cell3} (hx : L[i]? = some x) (r : CRep w O x.2.2 x.1 x.2.1) : CRep w' (renO w O L q N) (q i) x.1 x.2.1 := by
  obtain ⟨c, u, p⟩ := x
  simp only at r ⊢
  have hfrz : ∀ b o v, Frz w O b o = some v → Frz w' (renO w O L q N) b o = some v := by
    intro b o v hv
    have hb : b < w.heap.size := cellAt_lt (Frz.sub _ _ _ hv)
    unfold Frz at hv ⊢
    split at hv
    · rename_i hO
      rw [if_pos ((renO_none hb).2 hO), (hw.cell hb o).1]; exact hv
    · cases hv
  cases c with
  | pv y => exact FRep.mono hfrz r
  | gone => trivial
  | own f s cs sp =>
    obtain ⟨b, off, len, cap, hv, k⟩ := r
    have hlt : ∀ j, j < cap * s → b < w.heap.size := by
      intro j hj
      obtain ⟨⟨u, hu⟩, _⟩ := k.cell j hj
      exact cellAt_lt hu
    refine ⟨b, off, len, cap, hv, k.pos, k.len_eq, k.le, k.room, ?_, ?_, ?_, ?_⟩
    · intro j hj
      have hb := hlt j hj
      rw [(hw.cell hb _).1, (hw.cell hb _).2]; exact k.cell j hj
    · intro j hj hh
      exact renO_row (hlt j hj) hx rfl (k.mine j hj hh) hn
    · intro hf j hj
      have hjc : j < cap * s := by have := k.room; omega
      rw [renO_none (hlt j hjc)]; exact k.free hf j hj
    · refine k.row.mono hfrz (fun j v hj hv => ?_)
      rw [(hw.cell (cellAt_lt hv) _).1]; exact hv

/-- A slot is written: out of what was taken, and of new memory. -/
theorem Inv.putW {env env' : Env} {tmps : Array Value} {w w' : World} {O : Owns} (inv : Inv env tmps w O) {L : List Cell3} (hL : LRow env w O L) (hw : Later w w') (N : Owns) (d : Option Nat) (q : Nat → Nat → Owner) (x : SV) (v : Value)
    (hN : ∀ b o p, N b o = some p → b < w'.heap.size) (_hq : ∀ d i, (q d i).slot = d)
    (hrun : (Pr.put d x).run env = some env')
    (hm : ∀ d', d = some d' → ∀ O', (∀ b o, w.heap.size ≤ b → O' b o = N b o) → (∀ b o v, Frz w O b o = some v → Frz w' O' b o = some v) → (∀ b o, b < w.heap.size → (O' b o = none ↔ O b o = none)) → (∀ (i : Nat) y, L[i]? = some y → y.1.isCell = true ∧ CRep w' O' (q d' i) y.1 y.2.1) → MRep w' O' d' x v)
    (ha : ARep env tmps w x v) : ∃ O', Inv env' (putT tmps d v) w' O' ∧ Evo w O w' O' ∧ (∀ b o, w.heap.size ≤ b → O' b o = N b o) := by
  let O' : Owns := renO w O L (q (d.getD 0)) N
  have hnew : ∀ b o, w.heap.size ≤ b → O' b o = N b o := fun b o hb => if_neg (by omega)
  have hnone : ∀ b o, b < w.heap.size → (O' b o = none ↔ O b o = none) := fun b o hb => renO_none hb
  have hfrz : ∀ b o v, Frz w O b o = some v → Frz w' O' b o = some v := by
    intro b o v hv
    have hb : b < w.heap.size := cellAt_lt (Frz.sub _ _ _ hv)
    unfold Frz at hv ⊢
    split at hv
    · rename_i hO
      rw [if_pos ((hnone b o hb).2 hO), (hw.cell hb o).1]; exact hv
    · cases hv
  have hbnd : ∀ b o p, O' b o = some p → b < w'.heap.size := by
    intro b o p hp
    rcases Nat.lt_or_ge b w.heap.size with hb | hb
    · exact Nat.lt_of_lt_of_le hb hw.size
    · rw [hnew b o hb] at hp; exact hN b o p hp
  have hevo : Evo w O w' O' := ⟨hw.os, hw.tape, hw.output, hw.size, fun b hb _ => hw.block b hb, fun b o hb ho => ⟨(hnone b o hb).2 ho, (hw.cell hb o).1, (hw.cell hb o).2⟩, fun b o u hu ho => ⟨(hw.cell (cellAt_lt hu) o).1.trans hu, renO_other (cellAt_lt hu) ho hL.noext, (hw.cell (cellAt_lt hu) o).2⟩⟩
  have hkeep : Keep (fun p => p ∈ L.filterMap ro) w O w' O' := by
    intro b o u hu hq'
    have hb := cellAt_lt hu
    refine ⟨(hw.cell hb o).1.trans hu, ?_, (hw.cell hb o).2⟩
    cases hO : O b o with
    | none => exact (hnone b o hb).2 hO
    | some p => exact renO_other hb hO (hq' p hO)
  have hTL : ∀ t p, Uses t (env.at t).2 p → ¬ p ∈ L.filterMap ro := by
    intro t p hu hp
    obtain ⟨y, hy, hr, rfl⟩ := mem_ro.1 hp
    exact (hL.cell y hy).2.2 hr t hu
  have same : Inv env tmps w' O' :=
    inv.make (fun _ => False) _ inv.len hbnd hkeep (fun t _ p hu => hTL t p hu) (fun _ _ => ⟨rfl, rfl⟩) (fun _ h => h.elim) (fun _ h => h.elim) (fun _ h => h.elim)
  cases d with
  | none =>
    simp only [Pr.put, Pr.run, Option.some.injEq] at hrun
    subst hrun
    exact ⟨O', same, hevo, hnew⟩
  | some d =>
    have hcell : ∀ (i : Nat) y, L[i]? = some y → y.1.isCell = true ∧ CRep w' O' (q d i) y.1 y.2.1 := fun i y hy =>
      ⟨(hL.cell y (List.mem_of_getElem? hy)).1, CRep.ren hw inv.bnd hL.nodup hy (hL.cell y (List.mem_of_getElem? hy)).2.1⟩
    refine ⟨O', same.putD v hrun (fun d' e => ?_) ?_, hevo, hnew⟩
    · cases e; exact hm d rfl O' hnew hfrz hnone hcell
    · refine ha.step fun r => ?_
      have hmr := inv.mem r
      refine RootStep.same ?_ ?_
      · intro cs b k p hx hv hp
        rw [hx] at hmr
        obtain ⟨b', hb', hc⟩ := hmr
        rw [hv] at hb'; cases hb'
        obtain ⟨_, _, u, hu, _⟩ := hc k p hp
        exact (hw.cell (cellAt_lt hu) _).1
      · intro cs hx
        rw [hx] at hmr
        obtain ⟨b', hb', _⟩ := hmr
        exact ⟨b', hb'⟩
end

section
/- The operations, first part: what turns no memory. -/

/-- The operation yields a value (or none), and the slots stand for the temporaries still. -/
def OpVal (P : Program) (o : Oper) (a : Act) (w : World) (env' : Env) (O : Owns) : Prop :=
  ∃ v w' O' n, (execOp a.eval o).run P w = .ok n w' ∧ (n = .value v ∨ (n = .skip ∧ v = undef)) ∧ Inv env' (putT a.tmps o.dst v) w' O' ∧ Evo w O w' O'

variable {P : Program} {o : Oper} {a : Act} {w : World} {env env' : Env} {O : Owns}

theorem OpVal.pure {env1 : Env} {O1 : Owns} {v : Value} {x : SV} (hrun : (execOp a.eval o).run P w = .ok (.value v) w) (g : Gh a.tmps w env O env1 O1) (h : (Pr.put o.dst x).run env1 = some env')
    (hm : ∀ d', o.dst = some d' → MRep w O1 d' x v) (ha : ARep env1 a.tmps w x v) : OpVal P o a w env' O :=
  ⟨v, w, O1, _, hrun, .inl rfl, g.inv.putD v h hm ha, g.evo⟩

def Owner.move (t d : Nat) : Owner → Owner
  | .box s => if s = t then .box d else .box s
  | .pl s j i => if s = t then .pl d j i else .pl s j i
  | .ext => .ext

def moveO (t d : Nat) (O : Owns) : Owns := fun b o => (O b o).map (Owner.move t d)

theorem moveO_none {t d : Nat} {O : Owns} {b o : Nat} : moveO t d O b o = none ↔ O b o = none := by unfold moveO; simp
theorem Frz_move {t d : Nat} : Frz w (moveO t d O) = Frz w O := by
  funext b o
  unfold Frz
  by_cases h : O b o = none
  · rw [if_pos h, if_pos (moveO_none.2 h)]
  · rw [if_neg h, if_neg (fun k => h (moveO_none.1 k))]

theorem CRep.move {t d j i : Nat} {c : CV} {v : Value} (h : CRep w O (.pl t j i) c v) : CRep w (moveO t d O) (.pl d j i) c v := by
  cases c with
  | pv x => show FRep (Frz w (moveO t d O)) x v; rw [Frz_move]; exact h
  | gone => trivial
  | own f s cs sp =>
    obtain ⟨b, off, len, cap, hv, r⟩ := h
    refine ⟨b, off, len, cap, hv, r.pos, r.len_eq, r.le, r.room, r.cell, ?_, ?_, ?_⟩
    · intro k hk hh; unfold moveO; rw [r.mine k hk hh]; simp [Owner.move]
    · intro hf k hk; exact moveO_none.2 (r.free hf k hk)
    · rw [Frz_move]; exact r.row

theorem StRep.move {t d j : Nat} {cs : List CV} {v : Value} (h : StRep w O t j cs v) : StRep w (moveO t d O) d j cs v := by
  obtain ⟨vs, hv, hs, hc⟩ := h
  refine ⟨vs, hv, hs, fun i c hi => ?_⟩
  obtain ⟨u, hu, h1, h2⟩ := hc i c hi
  exact ⟨u, hu, h1, h2.move⟩

theorem MRep.move {t d : Nat} {x : SV} {v : Value} (h : MRep w O t x v) : MRep w (moveO t d O) d x v := by
  cases x with
  | cv c => exact CRep.move h
  | st cs => exact StRep.move h
  | box cs =>
    obtain ⟨b, hv, hc⟩ := h
    refine ⟨b, hv, fun i p hp => ?_⟩
    obtain ⟨h1, h2, u, hu, h3, h4⟩ := hc i p hp
    exact ⟨by unfold moveO; rw [h1]; simp [Owner.move], h2, u, hu, h3, h4.move⟩
  | tup cs =>
    obtain ⟨vs, hv, hs, hc⟩ := h
    refine ⟨vs, hv, hs, fun j m hm => ?_⟩
    obtain ⟨u, hu, hr⟩ := hc j m hm
    refine ⟨u, hu, ?_⟩
    cases m with
    | c g x => exact CRep.move hr
    | s cs => exact StRep.move hr
    | gone => trivial
  | fptr cs o =>
    obtain ⟨b, off, hv, hr⟩ := h
    exact ⟨b, off, hv, by rw [Frz_move]; exact hr⟩
  | _ => trivial

/-- All that a slot holds goes to another. -/
theorem moveRoot {tmps : Array Value} (inv : Inv env tmps w O) (t : Nat) (d : Option Nat) (hne : d ≠ some t) (g : Nat) (hg : (env.at t).1 < g ∨ ((env.at t).1 = g ∧ (env.at t).2.hd = .plain))
    (h : (Pr.put d (env.at t).2).run (env.set t (g, .dead)) = some env') (ha : ARep env tmps w (env.at t).2 (tmps.getD t undef)) :
    ∃ O', Inv env' (putT tmps d (tmps.getD t undef)) w O' ∧ Evo w O w O' := by
  obtain ⟨gk, _⟩ := kill_inv inv t g hg
  cases d with
  | none =>
    simp only [Pr.put, Pr.run, Option.some.injEq] at h; subst h
    exact ⟨O, gk.inv, Evo.refl _ _⟩
  | some d =>
    have hdt : d ≠ t := fun e => hne (by rw [e])
    have hbnd : ∀ b o q, moveO t d O b o = some q → b < w.heap.size := by
      intro b o q hq
      unfold moveO at hq
      rw [Option.map_eq_some_iff] at hq
      obtain ⟨p, hp, _⟩ := hq
      exact inv.bnd b o p hp
    have hkeep : Keep (fun q => q ≠ .ext ∧ (q.slot = t ∨ q.slot = d)) w O w (moveO t d O) := by
      intro b o u hu hq
      refine ⟨hu, ?_, rfl⟩
      unfold moveO
      cases hO : O b o with
      | none => rfl
      | some q =>
        have := hq q hO
        cases q with
        | box s => simp [Owner.slot] at this; simp [Owner.move, this.1]
        | pl s j i => simp [Owner.slot] at this; simp [Owner.move, this.1]
        | ext => rfl
    -- the row of slots without t, under the new names
    have inv1 : Inv (env.set t (g, .dead)) tmps w (moveO t d O) ∨ d < env.length := by
      by_cases hd : d < env.length
      · exact .inr hd
      · left
        refine gk.inv.make (fun t' => t' = t ∨ t' = d) _ gk.inv.len hbnd hkeep ?_ (fun _ _ => ⟨rfl, rfl⟩) ?_ ?_ ?_
        · intro t' ht' q hq hT
          rcases hT.2 with e | e
          · exact ht' (.inl (hq.slot.symm.trans e))
          · exact ht' (.inr (hq.slot.symm.trans e))
        · rintro t' (rfl | rfl)
          · by_cases ht : t' < env.length
            · rw [at_set_same _ _ ht]; trivial
            · rw [at_out _ (by simpa using ht)]; trivial
          · rw [at_out _ (by simpa using hd)]; trivial
        · intro t' ht'
          refine RootStep.same ?_ ?_
          · intro cs b k p _ _ _; rfl
          · intro cs hx
            exfalso
            rcases ht' with rfl | rfl
            · by_cases ht : t' < env.length
              · rw [at_set_same _ _ ht] at hx; cases hx
              · rw [at_out _ (by simpa using ht)] at hx; cases hx
            · rw [at_out _ (by simpa using hd)] at hx; cases hx
        · rintro t' (rfl | rfl)
          · by_cases ht : t' < env.length
            · rw [at_set_same _ _ ht]; trivial
            · rw [at_out _ (by simpa using ht)]; trivial
          · rw [at_out _ (by simpa using hd)]; trivial
    refine ⟨moveO t d O, ?_, Evo.ghost (fun b o ho => moveO_none.2 ho) (fun b o u _ ho => by unfold moveO; rw [ho]; rfl)⟩
    simp only [Pr.put, Pr.run, Option.some.injEq] at h
    subst h
    by_cases hd : d < env.length
    · have hd' : d < tmps.size := inv.len ▸ hd
      have e2 : Env.at (env.set t (g, .dead)) d = env.at d := at_set_ne _ _ hdt
      rw [e2]
      have hd2 : d < (env.set t (g, SV.dead)).length := by simpa using hd
      have e3 : (putT tmps (some d) (tmps.getD t undef)).getD d undef = tmps.getD t undef := by
        show (tmps.setIfInBounds d _).getD d undef = _
        rw [tmp_set, if_pos ⟨rfl, hd'⟩]
      refine inv.make (fun t' => t' = t ∨ t' = d) _ (by simp [inv.len, putT]) hbnd hkeep ?_ ?_ ?_ ?_ ?_
      · intro t' ht' q hq hT
        rcases hT.2 with e | e
        · exact ht' (.inl (hq.slot.symm.trans e))
        · exact ht' (.inr (hq.slot.symm.trans e))
      · intro t' ht'
        rw [at_set_ne _ _ (fun e => ht' (.inr e)), at_set_ne _ _ (fun e => ht' (.inl e))]
        refine ⟨rfl, ?_⟩
        show (tmps.setIfInBounds d _).getD t' undef = _
        rw [tmp_set, if_neg (fun e => ht' (.inr e.1))]
      · rintro t' (rfl | rfl)
        · rw [at_set_ne _ _ (Ne.symm hdt)]
          by_cases ht : t' < env.length
          · rw [at_set_same _ _ ht]; trivial
          · rw [at_out _ (by simpa using ht)]; trivial
        · rw [at_set_same _ _ hd2, e3]
          exact (inv.mem t).move
      · rintro t' (rfl | rfl)
        · rw [at_set_ne _ _ (Ne.symm hdt)]
          by_cases ht : t' < env.length
          · rw [at_set_same _ _ ht]; exact RootStep.new hg
          · rw [at_out (env.set t' (g, SV.dead)) (by simpa using ht), at_out env (by simpa using ht)]; exact RootStep.new (.inr ⟨rfl, rfl⟩)
        · rw [at_set_same _ _ hd2]
          refine RootStep.new ?_
          split
          · rename_i hp; exact .inr ⟨rfl, hp⟩
          · exact .inl (Nat.lt_succ_self _)
      · rintro t' (rfl | rfl)
        · rw [at_set_ne _ _ (Ne.symm hdt)]
          by_cases ht : t' < env.length
          · rw [at_set_same _ _ ht]; trivial
          · rw [at_out _ (by simpa using ht)]; trivial
        · rw [at_set_same _ _ hd2, e3]
          exact ha
    · have h1 := inv1.resolve_right hd
      have e1 : ∀ y, (env.set t (g, SV.dead)).set d y = env.set t (g, SV.dead) := fun y => List.set_eq_of_length_le (by simp; omega)
      have e2 : tmps.setIfInBounds d (tmps.getD t undef) = tmps := Array.setIfInBounds_eq_of_size_le (by rw [← inv.len]; omega)
      rw [e1]; show Inv _ (tmps.setIfInBounds d _) _ _; rw [e2]; exact h1

theorem hd_own {x : SV} {s n : Nat} (h : x.hd = .own s n) : ∃ f cs sp, x = .cv (.own f s cs sp) ∧ cs.length = n := by
  cases x with
  | cv c => cases c with
    | own f s' cs sp => simp only [SV.hd, Hd.own.injEq] at h; obtain ⟨rfl, rfl⟩ := h; exact ⟨f, cs, sp, rfl, rfl⟩
    | _ => cases h
  | _ => cases h
theorem hd_box {x : SV} (h : x.hd = .box) : ∃ cs, x = .box cs := by
  cases x with
  | box cs => exact ⟨cs, rfl⟩
  | cv c => cases c <;> cases h
  | _ => cases h

theorem mv_ok {F : Fns} {x : Operand} {y : Opd} (ho : o.op = .move x) (hx : cOpd x = some y) (inv : Inv env a.tmps w O) (h : (stepOp F o.dst (.mv y)).run env = some env') : OpVal P o a w env' O := by
  have hrun : (execOp a.eval o).run P w = .ok (.value (a.eval x)) w := by simp [execOp, ho]
  have hr := cOpd_rep hx a
  cases y with
  | con v => exact OpVal.pure hrun (Gh.refl inv) h (fun _ _ => hr _) trivial
  | tmp t =>
    have hv : a.eval x = a.tmps.getD t undef := hr
    rw [hv] at hrun
    have hm := inv.mem t
    have ha := inv.ali t
    simp only [stepOp] at h
    split at h
    · simp [Pr.run] at h
    · rename_i hne
      simp only [Pr.run] at h
      split at h
      · rename_i hk
        obtain ⟨f, cs, sp, he, _⟩ := hd_own hk
        refine OpVal.pure hrun (Gh.refl inv) h (fun _ _ => trivial) ⟨⟨Nat.le_refl _, fun _ => by rw [he]; rfl⟩, fun c hc => by rw [he]; rfl⟩
      · rename_i hk
        obtain ⟨cs, he⟩ := hd_box hk
        rw [he] at hm
        obtain ⟨b, hb, _⟩ := hm
        exact OpVal.pure hrun (Gh.refl inv) h (fun _ _ => trivial) ⟨Nat.le_refl _, b, hb, fun _ => ⟨hk, hb⟩⟩
      · rename_i hk
        simp only [Pr.run] at h
        obtain ⟨O', h1, h2⟩ := moveRoot inv t o.dst hne _ (.inl (Nat.lt_succ_self _)) h ha
        exact ⟨_, w, O', _, hrun, .inl rfl, h1, h2⟩
      · rename_i hk
        simp only [Pr.run] at h
        obtain ⟨sv, he⟩ : ∃ sv, (env.at t).2 = sv := ⟨_, rfl⟩
        rw [he] at h hm ha hk
        cases sv with
        | dead => simp [Pr.run] at h
        | st cs =>
          simp only [Pr.run] at h
          obtain ⟨O', h1, h2⟩ := moveRoot inv t o.dst hne (env.at t).1 (.inr ⟨rfl, by rw [he]; rfl⟩) (by rw [he]; exact h) (by rw [he]; trivial)
          exact ⟨_, w, O', _, hrun, .inl rfl, h1, h2⟩
        | cv c =>
          cases c with
          | pv p => exact OpVal.pure hrun (Gh.refl inv) h (fun _ _ => hm) trivial
          | gone => exact OpVal.pure hrun (Gh.refl inv) h (fun _ _ => trivial) trivial
          | own f s cs sp => cases hk
        | box cs => cases hk
        | tup cs => cases hk
        | fptr cs o => exact OpVal.pure hrun (Gh.refl inv) h (fun _ _ => hm) ha
        | ref r k gs gc => exact OpVal.pure hrun (Gh.refl inv) h (fun _ _ => trivial) ha
        | view r k gs gc i j => exact OpVal.pure hrun (Gh.refl inv) h (fun _ _ => trivial) ha
        | sref r k gs => exact OpVal.pure hrun (Gh.refl inv) h (fun _ _ => trivial) ha
        | ptr r off gs => exact OpVal.pure hrun (Gh.refl inv) h (fun _ _ => trivial) ha
        | eptr r k gs gc o => exact OpVal.pure hrun (Gh.refl inv) h (fun _ _ => trivial) ha
end

section
/- The operations, second part: assignments; scalars; addresses. -/

variable {P : Program} {o : Oper} {a : Act} {w : World} {env env' : Env} {O : Owns}

theorem plOwner_ne {x : SV} {r k : Nat} : plOwner x r k ≠ .ext := by
  unfold plOwner; split <;> simp

/-- The slice of a place is taken out of it. -/
theorem takePlace {tmps : Array Value} (inv : Inv env tmps w O) {r k gs gc : Nat} {f : Bool} {s : Nat} {cs sp : List PV} {x : Nat × SV} {κ : Pr}
    (hl : live (env.at r) k gs gc = some (.own f s cs sp)) (hx : PlaceX env r x) (h : (Pr.chPl r k gc x true .gone κ).run env = some env') :
    ∃ env1 v, κ.run env1 = some env' ∧ Gh tmps w env O env1 O ∧ hdrAt w (env.at r).2 (tmps.getD r undef) k = some v ∧ LRow env1 w O [(.own f s cs sp, v, plOwner (env.at r).2 r k)] ∧
      (∀ t, t ≠ r → env1.at t = env.at t) := by
  obtain ⟨v, hv, hcr, hu⟩ := live_rep inv hl
  obtain ⟨env1, e1, e2, e3, e4⟩ := chPl_inv inv hl rfl hx h (Keep.refl _ _ _) inv.bnd (fun _ _ => trivial) rfl (fun e => by cases e)
  refine ⟨env1, v, e1, ⟨e2, Keep.refl _ _ _, fun t q hq => (e3 t q hq).1, fun _ _ h => h, fun _ _ _ h => h⟩, hv, ⟨?_, by simp [ro, PV.isRow], fun x hx _ => by rw [List.mem_singleton] at hx; subst hx; exact plOwner_ne⟩, e4⟩
  intro y hy
  rw [List.mem_singleton] at hy; subst hy
  exact ⟨rfl, hcr, fun _ t ht => (e3 t _ ht).2 rfl rfl⟩

/-- The slice of a place is shared. -/
theorem less_run' {tmps : Array Value} (inv : Inv env tmps w O) {r k gs gc : Nat} {f : Bool} {s : Nat} {cs sp : List PV} {x : Nat × SV} {κ : Pr}
    (hl : live (env.at r) k gs gc = some (.own f s cs sp)) (hx : PlaceX env r x) (h : (Pr.chPl r k gc x false (.own false s cs sp) κ).run env = some env') :
    ∃ env1 O1, Gh tmps w env O env1 O1 ∧ κ.run env1 = some env' ∧
      ∃ b off len cap, hdrAt w (env.at r).2 (tmps.getD r undef) k = some (.slice (some ⟨b, off, none⟩) len cap) ∧ 0 < s ∧ cs.length = len * s ∧ len ≤ cap ∧ RowAt (Frz w O1) (Frz w O1) b off cs := by
  obtain ⟨b, off, len, cap, hv, hr⟩ := live_own inv hl
  obtain ⟨_, _, _, hu⟩ := live_rep inv hl
  obtain ⟨O1, k1, k2, k3, k4, k5⟩ := hr.share
  obtain ⟨env1, e1, e2, e3, _⟩ := chPl_inv inv hl rfl hx h k2 (fun b o q hq => inv.bnd b o q (k4 b o q hq))
    (fun v hv' => by rw [hv] at hv'; cases hv'; exact ⟨b, off, len, cap, rfl, k1⟩) rfl (fun _ => ⟨_, _, _, _, _, _, _, rfl, rfl, rfl⟩)
  exact ⟨env1, O1, Gh.of_chPl (hu rfl) rfl k2 e2 (fun t q hq => (e3 t q hq).1) k3 k4, e1, b, off, len, cap, hv, hr.pos, hr.len_eq, hr.le, k5⟩

/-- The slice of a place is shared and nobody's any more. -/
theorem freeze_run {tmps : Array Value} (inv : Inv env tmps w O) {r k gs gc : Nat} {f : Bool} {s : Nat} {cs sp : List PV} {x : Nat × SV} {κ : Pr}
    (hl : live (env.at r) k gs gc = some (.own f s cs sp)) (hx : PlaceX env r x) (h : (Pr.chPl r k gc x true (.pv (.sl s cs)) κ).run env = some env') :
    ∃ env1 O1, Gh tmps w env O env1 O1 ∧ κ.run env1 = some env' ∧ (∀ t, ¬ Uses t (env1.at t).2 (plOwner (env.at r).2 r k)) ∧
      ∃ b off len cap, hdrAt w (env.at r).2 (tmps.getD r undef) k = some (.slice (some ⟨b, off, none⟩) len cap) ∧ OwnRep w O1 (plOwner (env.at r).2 r k) false s cs sp b off len cap ∧ RowAt (Frz w O1) (Frz w O1) b off cs := by
  obtain ⟨b, off, len, cap, hv, hr⟩ := live_own inv hl
  obtain ⟨_, _, _, hu⟩ := live_rep inv hl
  obtain ⟨O1, k1, k2, k3, k4, k5⟩ := hr.share
  obtain ⟨env1, e1, e2, e3, _⟩ := chPl_inv inv hl rfl hx h k2 (fun b o q hq => inv.bnd b o q (k4 b o q hq))
    (fun v hv' => by rw [hv] at hv'; cases hv'; exact frep_sl_mk ⟨b, off, len, cap, rfl, hr.pos, hr.len_eq, hr.le, k5⟩) rfl (fun e => by cases e)
  exact ⟨env1, O1, Gh.of_chPl (hu rfl) rfl k2 e2 (fun t q hq => (e3 t q hq).1) k3 k4, e1, fun t ht => (e3 t _ ht).2 rfl rfl, b, off, len, cap, hv, k1, k5⟩

/-- An owned slice, cut behind: what was cut off lies behind it. -/
theorem OwnRep.trunc {p : Owner} {s : Nat} {cs sp : List PV} {b off len cap n : Nat} (r : OwnRep w O p true s cs sp b off len cap) (hb : n ≤ cs.length) (hn : ∃ j, n = j * s) :
    OwnRep w O p true s (cs.take n) (cs.drop n ++ sp) b off (n / s) cap := by
  obtain ⟨j, rfl⟩ := hn
  have h0 := r.pos
  have hj : j ≤ len := Nat.le_of_mul_le_mul_right (r.len_eq ▸ hb) h0
  have hroom := r.room
  have hle := r.le
  refine ⟨h0, ?_, ?_, ?_, r.cell, fun k hk _ => r.mine k hk (.inl rfl), (fun h => by cases h), ?_⟩
  · rw [List.length_take, Nat.min_eq_left hb, Nat.mul_div_cancel _ h0]
  · rw [Nat.mul_div_cancel _ h0]; omega
  · rw [List.length_append, List.length_take, List.length_drop, Nat.min_eq_left hb]; omega
  · rw [← List.append_assoc, List.take_append_drop]; exact r.row

theorem putOne {env1 : Env} {tmps : Array Value} (inv1 : Inv env1 tmps w O) {c : CV} {v : Value} {p : Owner} (hL : LRow env1 w O [(c, v, p)]) (d : Option Nat) (h : (Pr.put d (.cv c)).run env1 = some env') :
    ∃ O', Inv env' (putT tmps d v) w O' ∧ Evo w O w O' := by
  obtain ⟨O', h1, h2, _⟩ := inv1.putW hL (Later.refl w) (fun _ _ => none) d (fun d _ => .pl d 0 0) (.cv c) v (fun _ _ _ e => by cases e) (fun _ _ => rfl) h (by
    intro d' _ O' _ _ _ hc
    exact (hc 0 _ rfl).2) trivial
  exact ⟨O', h1, h2⟩

theorem putT_same {tmps : Array Value} {r : Nat} : putT tmps (some r) (tmps.getD r undef) = tmps := by
  apply Array.ext_getElem?
  intro i
  simp only [putT, Array.getElem?_setIfInBounds]
  split
  · rename_i e
    subst e
    split
    · rename_i hlt
      rw [Array.getElem?_eq_getElem hlt]; rfl
    · rename_i hlt
      rw [Array.getElem?_eq_none (by omega)]
  · rfl

theorem asg_ok {F : Fns} {x : Operand} {y : Opd} (ho : o.op = .assign x) (hx : cOpd x = some y) (inv : Inv env a.tmps w O) (h : (stepOp F o.dst (.asg y)).run env = some env') : OpVal P o a w env' O := by
  have hrun : (execOp a.eval o).run P w = .ok (.value (a.eval x)) w := by simp [execOp, ho]
  have hr := cOpd_rep hx a
  cases y with
  | con v => exact OpVal.pure hrun (Gh.refl inv) h (fun _ _ => hr _) trivial
  | tmp t =>
    have hv : a.eval x = a.tmps.getD t undef := hr
    rw [hv] at hrun
    have hm := inv.mem t
    have ha := inv.ali t
    simp only [stepOp] at h
    split at h
    · simp [Pr.run] at h
    · rename_i hne
      simp only [Pr.run] at h
      have mvR : ∀ g, ((env.at t).1 < g ∨ ((env.at t).1 = g ∧ (env.at t).2.hd = .plain)) → (Pr.put o.dst (env.at t).2).run (env.set t (g, .dead)) = some env' → OpVal P o a w env' O := by
        intro g hg hh
        obtain ⟨O', h1, h2⟩ := moveRoot inv t o.dst hne g hg hh ha
        exact ⟨_, w, O', _, hrun, .inl rfl, h1, h2⟩
      obtain ⟨sv, he⟩ : ∃ sv, (env.at t).2 = sv := ⟨_, rfl⟩
      rw [he] at h hm ha
      cases sv with
      | dead => simp [Pr.run] at h
      | st cs => exact mvR (env.at t).1 (.inr ⟨rfl, by rw [he]; rfl⟩) (by rw [he]; exact h)
      | box cs => exact mvR _ (.inl (Nat.lt_succ_self _)) (by rw [he]; exact h)
      | tup cs => exact mvR _ (.inl (Nat.lt_succ_self _)) (by rw [he]; exact h)
      | cv c =>
        cases c with
        | pv p => exact OpVal.pure hrun (Gh.refl inv) h (fun _ _ => hm) trivial
        | gone => simp [Pr.run] at h
        | own f s cs sp => exact mvR _ (.inl (Nat.lt_succ_self _)) (by rw [he]; exact h)
      | fptr cs o => exact OpVal.pure hrun (Gh.refl inv) h (fun _ _ => hm) ha
      | sref r k gs => exact OpVal.pure hrun (Gh.refl inv) h (fun _ _ => trivial) ha
      | ptr r off gs => exact OpVal.pure hrun (Gh.refl inv) h (fun _ _ => trivial) ha
      | eptr r k gs gc o => exact OpVal.pure hrun (Gh.refl inv) h (fun _ _ => trivial) ha
      | ref r k gs gc =>
        simp only at h
        split at h
        · rename_i hd
          obtain ⟨z, c, hl, hg, hz, h⟩ := place_run h
          have hh := ha.2 _ hl
          split at h
          · rename_i c' f s cs sp hz2 
            simp only [Pr.run, Option.some.injEq] at h
            subst h
            have hcv : ∃ c0, (env.at r).2 = .cv c0 := by
              rcases hz.2 with h2 | h2
              · exact ⟨_, h2.1.symm.trans hz2⟩
              · rw [h2.1] at hz2; cases hz2
            obtain ⟨c0, hcv⟩ := hcv
            rw [hcv] at hh; simp only [hdrAt, Option.some.injEq] at hh
            refine ⟨_, w, O, _, hrun, .inl rfl, ?_, Evo.refl _ _⟩
            rw [← hh, hd, putT_same]; exact inv
          · simp [Pr.run] at h
        · obtain ⟨z, c, hl, hg, hz, h⟩ := place_run h
          have hh := ha.2 _ hl
          cases c with
          | own f s cs sp =>
            simp only at h
            split at h
            · obtain ⟨env1, O1, g, hk, b, off, len, cap, hh', h0, h1, h2, h3⟩ := less_run' inv hl hz h
              rw [hh, Option.some.injEq] at hh'
              exact OpVal.pure hrun g hk (fun _ _ => frep_sl_mk ⟨b, off, len, cap, hh', h0, h1, h2, h3⟩) trivial
            · obtain ⟨env1, v, hk, g, hv', hL, _⟩ := takePlace inv hl hz h
              rw [hh, Option.some.injEq] at hv'
              subst hv'
              obtain ⟨O', h1, h2⟩ := putOne g.inv hL o.dst hk
              exact ⟨_, w, O', _, hrun, .inl rfl, h1, h2⟩
          | _ => simp [Pr.run] at h
      | view r k gs gc i j =>
        have cut : ∀ f s cs sp, live (env.at r) k gs gc = some (.own f s cs sp) → ∀ (b off len cap : Nat) (O1 : Owns), hdrAt w (env.at r).2 (a.tmps.getD r undef) k = some (.slice (some ⟨b, off, none⟩) len cap) →
            0 < s → cs.length = len * s → len ≤ cap → RowAt (Frz w O1) (Frz w O1) b off cs → FRep (Frz w O1) (.sl s ((cs.take j).drop i)) (a.tmps.getD t undef) := by
          intro f s cs sp hl b off len cap O1 hh h0 h1 h2 h3
          obtain ⟨hab, hb, hi, hj, bl', off0, len', cap', hh', off', hvv, hoff⟩ := ha.2 f s cs sp hl
          rw [hh] at hh'; cases hh'
          obtain ⟨e1, e2, e3⟩ := view_row h0 h1 h2 hab hb hi hj (hoff.imp id And.left) h3
          exact frep_sl_mk ⟨b, off', _, _, hvv, h0, e1, e2, e3⟩
        have head : ∀ f s cs sp, live (env.at r) k gs gc = some (.own f s cs sp) → i = 0 → ∃ b off len cap, hdrAt w (env.at r).2 (a.tmps.getD r undef) k = some (.slice (some ⟨b, off, none⟩) len cap) ∧
            (∃ q, j = q * s) ∧ j ≤ cs.length ∧ a.tmps.getD t undef = .slice (some ⟨b, off, none⟩) (j / s) cap ∧ OwnRep w O (plOwner (env.at r).2 r k) f s cs sp b off len cap := by
          intro f s cs sp hl hi
          obtain ⟨hab, hb, _, hj, bl', off0, len', cap', hh', off', hvv, hoff⟩ := ha.2 f s cs sp hl
          obtain ⟨b, off, len, cap, hv', hr⟩ := live_own inv hl
          rw [hv', Option.some.injEq] at hh'
          cases hh'
          subst hi
          refine ⟨bl', off0, len', cap', hv', hj, hb, ?_, hr⟩
          rw [hvv]
          simp only [Nat.sub_zero, Nat.zero_div, Nat.add_zero] at hoff ⊢
          rcases hoff with rfl | ⟨_, h⟩
          · rfl
          · exact absurd rfl h
        simp only at h
        split at h
        · rename_i hd
          obtain ⟨z, c, hl, hg, hz, h⟩ := place_run h
          split at h
          · rename_i c' f s cs sp hz2
            have hcv : (env.at r).2 = z.2 ∧ (env.at r).2.hd ≠ .tup := by
              rcases hz.2 with h2 | h2
              · exact ⟨h2.1.symm, by rw [← h2.1]; exact h2.2⟩
              · rw [h2.1] at hz2; cases hz2
            have hcc : (env.at r).2 = .cv (.own f s cs sp) := by
              rw [hcv.1, hz2]
              unfold live at hl
              rw [hcv.1, hz2] at hl
              simp only at hl
              split at hl
              · split at hl
                · split at hl
                  · cases hl; rfl
                  · cases hl
                · cases hl
              · cases hl
            have hzx : z.1 = (env.at r).1 := hz.1
            split at h
            · rename_i hf
              simp only [Bool.and_eq_true, beq_iff_eq] at hf
              obtain ⟨rfl, hi⟩ := hf
              obtain ⟨b, off, len, cap, hh, hj, hb, hvv, hr⟩ := head _ _ _ _ hl hi
              simp only [Pr.run, Option.some.injEq] at h
              subst h
              refine ⟨_, w, O, _, hrun, .inl rfl, ?_, Evo.refl _ _⟩
              rw [hd]
              refine inv.put r _ _ _ (.inl (by rw [hzx]; exact Nat.lt_succ_self _)) ⟨b, off, _, cap, hvv, ?_⟩ trivial
              have := hr.trunc hb hj
              rw [hcc] at this; exact this
            · simp only [Pr.run, Option.some.injEq] at h
              subst h
              obtain ⟨b, off, len, cap, hv', hr⟩ := live_own inv hl
              obtain ⟨O1, k1, k2, k3, k4, k5⟩ := hr.share
              have hrl : r < env.length := by
                rcases Nat.lt_or_ge r env.length with h | h
                · exact h
                · rw [at_out env h] at hcc; cases hcc
              refine ⟨_, w, O1, _, hrun, .inl rfl, ?_, Evo.ghost k3 (fun b o u hu ho => (k2.ext (fun e => plOwner_ne e.symm) b o u hu ho).2.1)⟩
              rw [hd]
              have hf := cut _ _ _ _ hl b off len cap O1 hv' hr.pos hr.len_eq hr.le k5
              have e3 : (putT a.tmps (some r) (a.tmps.getD t undef)).getD r undef = a.tmps.getD t undef := by
                show (a.tmps.setIfInBounds r _).getD r undef = _
                rw [tmp_set, if_pos ⟨rfl, inv.len ▸ hrl⟩]
              refine inv.make (fun t' => t' = r) _ (by simp [inv.len, putT]) (fun b o q hq => inv.bnd b o q (k4 b o q hq)) k2 ?_ ?_ ?_ ?_ ?_
              · intro t' ht' q hq e; subst e
                rw [hcc] at hq; exact ht' (hq.slot.symm.trans rfl)
              · intro t' ht'
                refine ⟨at_set_ne _ _ ht', ?_⟩
                show (a.tmps.setIfInBounds r _).getD t' undef = _
                rw [tmp_set, if_neg (fun e => ht' e.1)]
              · rintro t' rfl
                rw [at_set_same _ _ hrl, e3]; exact hf
              · rintro t' rfl
                rw [at_set_same _ _ hrl]; exact RootStep.new (.inl (by rw [hzx]; exact Nat.lt_succ_self _))
              · rintro t' rfl
                rw [at_set_same _ _ hrl]; trivial
          · simp [Pr.run] at h
        · obtain ⟨z, c, hl, hg, hz, h⟩ := place_run h
          cases c with
          | own f s cs sp =>
            simp only at h
            have shared : ∀ {κ : Pr}, (Pr.chPl r k gc z false (.own false s cs sp) (Pr.put o.dst (.cv (.pv (.sl s ((cs.take j).drop i)))))).run env = some env' → OpVal P o a w env' O := by
              intro _ h
              obtain ⟨env1, O1, g, hk, b, off, len, cap, hh', h0, h1, h2, h3⟩ := less_run' inv hl hz h
              exact OpVal.pure hrun g hk (fun _ _ => cut _ _ _ _ hl b off len cap O1 hh' h0 h1 h2 h3) trivial
            split at h
            · exact shared (κ := .done) h
            · split at h
              · rename_i hf
                simp only [Bool.and_eq_true, beq_iff_eq] at hf
                obtain ⟨rfl, hi⟩ := hf
                obtain ⟨b, off, len, cap, hh, hj, hb, hvv, hr⟩ := head _ _ _ _ hl hi
                obtain ⟨env1, v, hk, g, hv', hL, _⟩ := takePlace inv hl hz h
                have hL2 : LRow env1 w O [(.own true s (cs.take j) (cs.drop j ++ sp), a.tmps.getD t undef, plOwner (env.at r).2 r k)] := by
                  refine ⟨fun y hy => ?_, by simp [ro, PV.isRow], fun x hx _ => by rw [List.mem_singleton] at hx; subst hx; exact plOwner_ne⟩
                  rw [List.mem_singleton] at hy; subst hy
                  exact ⟨rfl, ⟨b, off, _, cap, hvv, hr.trunc hb hj⟩, (hL.cell _ (List.mem_singleton.2 rfl)).2.2⟩
                obtain ⟨O', h1, h2⟩ := putOne g.inv hL2 o.dst hk
                exact ⟨_, w, O', _, hrun, .inl rfl, h1, h2⟩
              · exact shared (κ := .done) h
          | _ => simp [Pr.run] at h
end
end Go.Proofs.Ytcngkdickmahhaa
