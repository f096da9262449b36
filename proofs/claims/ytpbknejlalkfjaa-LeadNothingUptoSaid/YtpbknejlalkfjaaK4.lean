/-
  Code without types ("Cd"), frames as short lists of slots, and what must hold ahead of a piece of code (WP).
-/
import Derived.Test.YtpbknejlalkfjaaK3
set_option linter.unusedSimpArgs false
set_option linter.unusedVariables false
namespace Go.DS
open Go
set_option linter.unusedVariables false

/-- An operand: a slot, or a constant. -/
inductive A where
  | s (n : Nat)
  | c (v : DV)
  deriving Inhabited

abbrev AF := List (Nat × DV)

def look (s : Nat) : AF → DV
  | [] => .junk
  | e :: a => if s = e.1 then e.2 else look s a
def opv (s : Nat) : DV → DV
  | .box _ => .path s 0
  | x => x
def A.val (a : AF) : A → DV
  | .s n => opv n (look n a)
  | .c v => v

def toT (n : Nat) (a : AF) : List DV := (List.range n).map fun i => look i a

/-- What == is told of a type. -/
inductive BD where
  | any | bool | flat (ks : List Nat) | ptr | map | func | bad

/-- The operations. -/
inductive O where
  | mv (x : A)
  | tk (x : A)
  | pick (c x y : A)
  | bin (op : BinOp) (d : BD) (x y : A)
  | un (op : UnOp) (x : A)
  | cvi (k : IntKind) (x : A)
  | cvs (x : A)
  | cvb (x : A)
  | ext (x : A) (i : Nat)
  | exh (x : A)
  | fld (off : Nat) (m : Bool) (k : Nat) (x : A)
  | mov (off : Nat) (x : A)
  | ld (m : Bool) (k : Nat) (x : A)
  | ldx (one m : Bool) (k : Nat) (x : A)
  | ixp (es : Nat) (x i : A)
  | ixq (n es : Nat) (x i : A)
  | ixs (x i : A)
  | ixr (n es : Nat) (m : Bool) (k : Nat) (x i : A)
  | ss (x : A) (lo hi : Option A)
  | sl (es : Nat) (x : A) (lo hi : Option A)
  | sl3 (es : Nat) (x : A) (lo : Option A) (hi mx : A)
  | bld (z : List DV) (ps : List (Nat × Nat × A))
  | bsl (es : Nat) (ps : List A)
  | mki (t : TypeId) (x : A)
  | lkp (ks : List Nat) (ag : Bool) (kn : Nat) (z : DV) (ok : Bool) (m k : A)
  | len (w : Nat) (x : A)
  | mm (b : Bool) (x y : A)
  | new (esc : Bool) (x : A)
  | newz (esc : Bool) (z : List DV)
  | st (k : Nat) (p x : A)
  | app (es w : Nat) (str : Bool) (x y : A)
  | appv (es w : Nat) (str : Bool) (x y : A)
  | mkv (es w : Nat) (z : List DV) (l c : A)
  | bsv (es : Nat) (ps : List A)
  | del (ks : List Nat) (ag : Bool) (kn : Nat) (m k : A)
  | mup (ks : List Nat) (ag : Bool) (kn : Nat) (m k v : A)
  | mkm
  | mkf (fn : Fn) (i : Nat) (xs : List A)
  | call (raw : Option Bool) (fv : A) (args : List A)
  | bad

/-- An operation in its place. nw, fs, us: what a drawn region asks of it. -/
structure Cop where
  dst : Option Nat
  bl : Bool
  g : Option (Nat × Bool)
  op : O
  nw : Bool := false
  fs : Bool := false
  us : List Nat := []

inductive Cd where
  | reg (ops : List Cop) (keep : Option (List Nat)) (draw : Option (List Nat))
  | seq (a b : Cd)
  | ite (x : A) (a b : Cd)
  | block (id : Nat) (c : Cd)
  | loop (keep : Option (List Nat)) (c : Cd)
  | scope (c : Cd)
  | exit (j : Nat)
  | ret
  | skip
  | bad

/-- Looking at the shape of a value, and going on. -/
def OptP {α : Type} (o : Option α) (N : α → Prop) : Prop := match o with
  | some x => N x
  | none => False
def IntP (v : DV) (N : IntKind → Int → Prop) : Prop := match v with
  | .sc (.int k n) => N k n
  | _ => False
def BoolP (v : DV) (N : Bool → Prop) : Prop := match v with
  | .sc (.bool b) => N b
  | _ => False
def StrP (v : DV) (N : ByteArray → Prop) : Prop := match v with
  | .sc (.string s) => N s
  | _ => False
def ListP (v : DV) (N : Bool → Nat → List (List DV) → Prop) : Prop := match v with
  | .list own es l => N own es l
  | _ => False
/-- A slice: a list, a row that is written in place, or nil. -/
def LvP (v : DV) (X : Bool → Nat → List (List DV) → Prop) (Y : Nat → Nat → Nat → Nat → Prop) (Z : Prop) : Prop := match v with
  | .list own es l => X own es l
  | .vec i es off n => Y i es off n
  | .sc (.slice none 0 0) => Z
  | _ => False
def TupP (v : DV) (N : List DV → Prop) : Prop := match v with
  | .tup cs => N cs
  | _ => False
def AggP (v : DV) (N : List DV → Prop) : Prop := match v with
  | .agg cs => N cs
  | _ => False
def ScP (v : DV) (N : Value → Prop) : Prop := match v with
  | .sc x => N x
  | _ => False
def FnP (v : DV) (N : FuncId → List DV → List DV → Prop) : Prop := match v with
  | .fn (.func k) fs cs => N k fs cs
  | _ => False
/-- By a truth value. -/
def BR (b : Bool) (X Y : Prop) : Prop := (b = true → X) ∧ (b = false → Y)
def IdxP {α : Type} (l : List α) (i : Int) (N : α → Prop) : Prop := 0 ≤ i ∧ ∃ c, l[i.toNat]? = some c ∧ N c
def IdxS (s : ByteArray) (i : Int) (N : UInt8 → Prop) : Prop := 0 ≤ i ∧ OptP s[i.toNat]? N
def BndP (dflt top : Nat) (v : Option DV) (N : Nat → Prop) : Prop := match v with
  | none => N dflt
  | some d => IntP d fun _ i => 0 ≤ i ∧ i ≤ (top : Int) ∧ N i.toNat
def optv (a : AF) : Option A → Option DV
  | none => none
  | some x => some (x.val a)
/-- The cells of a variable of the frame. -/
def BoxV (v : DV) (N : List DV → Prop) : Prop := match v with
  | .box cs => N cs
  | _ => False
def BoxP (n : Nat) (a : AF) (s : Nat) (N : List DV → Prop) : Prop := s < n ∧ BoxV (look s a) N
def ObjP (h : DHeap) (i : Nat) (N : List DV → Prop) : Prop := match h[i]? with
  | some (.cells cs) => N cs
  | _ => False
def RowO (h : DHeap) (i : Nat) (N : List DV → Prop) : Prop := match h[i]? with
  | some (.row cs) => N cs
  | _ => False
def MapP (h : DHeap) (i : Nat) (N : List (DV × DV) → Prop) : Prop := match h[i]? with
  | some (.map es) => N es
  | _ => False
def CellsP (n : Nat) (a : AF) (h : DHeap) (v : DV) (N : List DV → Prop) : Prop := match v with
  | .path s off => BoxP n a s fun cs => N (cs.drop off)
  | .ptr i off => ObjP h i fun cs => N (cs.drop off)
  | .rptr i off => RowO h i fun cs => N (cs.drop off)
  | .eptr cs => N cs
  | _ => False
def MovP (n : Nat) (a : AF) (off : Nat) (v : DV) (N : DV → Prop) : Prop := match v with
  | .path s o => BoxP n a s fun _ => N (.path s (o + off))
  | .ptr i o => N (.ptr i (o + off))
  | .rptr i o => N (.rptr i (o + off))
  | .eptr cs => N (.eptr (cs.drop off))
  | _ => False
def TakeV (s : Nat) (a : AF) (v : DV) (N : DV → AF → Prop) : Prop := if (own1 v).isSome = true then N v ((s, v.shed) :: a) else N v.shed a
def HeadP (v : DV) (N : DV → Prop) : Prop := match v with
  | .tup (y :: _) => N (hd1 y)
  | _ => False
def TakeP (a : AF) (x : A) (N : DV → AF → Prop) : Prop := match x with
  | .s s => TakeV s a (opv s (look s a)) N
  | .c v => N v a

/-- Cells of a type, as they are loaded: how many (a struct), or what it is to a nil slice. -/
def tinfK (P : Program) (ty : TypeId) : Option (Bool × Nat) := match tinfo P ty with
  | some (true, n) => some (true, n)
  | some (false, _) => some (false, elK P ty)
  | none => none
def ofC (m : Bool) (k : Nat) (cs : List DV) : Option DV := match m with
  | true => if k ≤ cs.length then some (.agg ((cs.take k).map DV.shed)) else none
  | false => match cs with
    | c :: _ => some (unraw k c.shed)
    | [] => none

def intC (op : BinOp) (k : IntKind) (m n : Int) : Option DV := match op with
  | .add => some (.sc (.int k (k.wrap (m + n))))
  | .sub => some (.sc (.int k (k.wrap (m - n))))
  | .mul => some (.sc (.int k (k.wrap (m * n))))
  | .quo => if n = 0 then none else some (.sc (.int k (k.wrap (m.tdiv n))))
  | .rem => if n = 0 then none else some (.sc (.int k (m.tmod n)))
  | .lss => some (.sc (.bool (decide (m < n))))
  | .leq => some (.sc (.bool (decide (m ≤ n))))
  | .gtr => some (.sc (.bool (decide (n < m))))
  | .geq => some (.sc (.bool (decide (n ≤ m))))
  | .eql => some (.sc (.bool (decide (m = n))))
  | .neq => some (.sc (.bool (!decide (m = n))))
  | _ => none
def strC (op : BinOp) (s u : ByteArray) : Option DV := match op with
  | .add => if (s.size + u.size : Int) ≤ 9223372036854775807 then some (.sc (.string (s ++ u))) else none
  | .eql => some (.sc (.bool (decide (s = u))))
  | .neq => some (.sc (.bool (!decide (s = u))))
  | .lss => some (.sc (.bool (Op.bytesLess s.data.toList u.data.toList)))
  | .leq => some (.sc (.bool (Op.bytesLess s.data.toList u.data.toList || decide (s = u))))
  | .gtr => some (.sc (.bool (!(Op.bytesLess s.data.toList u.data.toList || decide (s = u)))))
  | .geq => some (.sc (.bool (!Op.bytesLess s.data.toList u.data.toList)))
  | _ => none
def isNilC : BD → DV → Option Bool
  | .ptr, .sc (.pointer none) => some true
  | .ptr, .ptr .. | .ptr, .eptr .. | .ptr, .rptr .. => some false
  | .map, .sc (.map none) => some true
  | .map, .mp .. => some false
  | .func, .sc .nilFunc => some true
  | .func, .fn .. => some false
  | _, _ => none
def nilC (op : BinOp) (p q : Option Bool) : Option DV := match op, p, q with
  | .eql, some p, some q => if p || q then some (.sc (.bool (p && q))) else none
  | .neq, some p, some q => if p || q then some (.sc (.bool (!(p && q)))) else none
  | _, _, _ => none
def binC (op : BinOp) (d : BD) (a b : DV) : Option DV := match d with
  | .any => match a, b with
    | .sc (.int k m), .sc (.int k' n) => if k = k' then intC op k m n else none
    | .sc (.string s), .sc (.string u) => strC op s u
    | _, _ => none
  | .bool => match a, b with
    | .sc (.bool p), .sc (.bool q) => match op with
      | .eql => some (.sc (.bool (p == q)))
      | .neq => some (.sc (.bool (!(p == q))))
      | _ => none
    | _, _ => none
  | .flat ks => match a, b with
    | .agg xs, .agg ys => match op, eqs ks xs ys with
      | .eql, some r => some (.sc (.bool r))
      | .neq, some r => some (.sc (.bool (!r)))
      | _, _ => none
    | _, _ => none
  | .bad => none
  | d => nilC op (isNilC d a) (isNilC d b)
def unC (op : UnOp) (v : Value) : Option DV := match op, v with
  | .not, .bool b => some (.sc (.bool (!b)))
  | .neg, .int k n => some (.sc (.int k (k.wrap (0 - n))))
  | _, _ => none

def BuildP (a : AF) : List (Nat × Nat × A) → List DV → (List DV → Prop) → Prop
  | [], cs, N => N cs
  | (off, k, x) :: ps, cs, N => (cellsD (x.val a).shed).length = k ∧ off + k ≤ cs.length ∧ (cellsD (x.val a).shed).all DV.cell = true ∧
      BuildP a ps (cs.take off ++ cellsD (x.val a).shed ++ cs.drop (off + k)) N
def RowP (es : Nat) (a : AF) : List A → (List (List DV) → Prop) → Prop
  | [], N => N []
  | x :: xs, N => (cellsD (x.val a).shed).length = es ∧ (cellsD (x.val a).shed).all DV.cell = true ∧ RowP es a xs fun r => N (cellsD (x.val a).shed :: r)
def keyC (ag : Bool) (kn : Nat) (k : DV) : Bool := match ag, k with
  | true, .agg cs => match scs cs with
    | some xs => xs.length == kn
    | none => false
  | false, .sc _ => true
  | _, _ => false
def MapAt (h : DHeap) (v : DV) (N : List (DV × DV) → Prop) : Prop := match v with
  | .sc (.map none) => N []
  | .mp i => MapP h i N
  | _ => False
def LkK (ok : Bool) (z : DV) (r : Option DV) (N : DV → Prop) : Prop := match ok with
  | true => N (.tup [(r.getD z).shed, .sc (.bool r.isSome)])
  | false => N (r.getD z).shed
def MpP (h : DHeap) (v : DV) (N : Nat → List (DV × DV) → Prop) : Prop := match v with
  | .mp i => MapP h i (N i)
  | _ => False
def kill (s : Nat) : DV → DV
  | .path s' off => if s' = s then .junk else .path s' off
  | d => d
def NewP (esc : Bool) (dst : Option Nat) (a : AF) (h : DHeap) (cs : List DV) (K : DV → AF → DHeap → Prop) : Prop := cs.all DV.cell = true ∧ dst.isSome = true ∧
  match esc with
  | true => K (.ptr h.length 0) a (h ++ [.cells cs])
  | false => K (.box cs) (a.map fun e => (e.1, kill (dst.getD 0) e.2)) h
def StoreP (n : Nat) (a : AF) (h : DHeap) (p : DV) (new : List DV) (N : AF → DHeap → Prop) : Prop := new.all DV.cell = true ∧ match p with
  | .path s off => BoxP n a s fun cs => off + new.length ≤ cs.length ∧ N ((s, .box (cs.take off ++ new ++ cs.drop (off + new.length))) :: a) h
  | .ptr i off => ObjP h i fun cs => off + new.length ≤ cs.length ∧ N a (h.set i (.cells (cs.take off ++ new ++ cs.drop (off + new.length))))
  | .rptr i off => RowO h i fun cs => off + new.length ≤ cs.length ∧ N a (h.set i (.row (cs.take off ++ new.map DV.shed ++ cs.drop (off + new.length))))
  | _ => False
def RowsP (h : DHeap) (es : Nat) (str : Bool) (v : DV) (N : List (List DV) → Prop) : Prop := match v with
  | .list _ es' l => es' = es ∧ N l
  | .sc (.string s) => str = true ∧ N (bytesD s)
  | .sc (.slice none 0 0) => N []
  | .vec i es' off n => es' = es ∧ RowO h i fun cs => (off + n) * es' ≤ cs.length ∧ N (chunk es' n (cs.drop (off * es')))
  | _ => False
/-- What is appended to, in place. -/
def AppV (v : DV) (X : Prop) (Y : Nat → Nat → Nat → Prop) : Prop := match v with
  | .sc (.slice none 0 0) => X
  | .vec i es 0 n => Y i es n
  | _ => False
def OwnP (v : DV) (N : Nat → List (List DV) → Prop) : Prop := match v with
  | .list true es l => N es l
  | _ => False
def CapV (v : DV) (X : List DV → Prop) (Y : DV → Prop) : Prop := match v with
  | .box cs => X cs
  | d => Y d
def CapP (n : Nat) : List A → AF → (List DV → AF → Prop) → Prop
  | [], a, N => N [] a
  | .s s :: xs, a, N => s < n ∧ CapV (look s a) (fun cs => cs.all DV.cell = true ∧ CapP n xs ((s, .eptr (cs.map DV.shed)) :: a) fun ds a' => N (.eptr (cs.map DV.shed) :: ds) a')
      fun d => d.plain = true ∧ CapP n xs a fun ds a' => N (d.shed :: ds) a'
  | .c _ :: _, _, _ => False
def CallP (o : Option (DV × DHeap)) (N : DV → DHeap → Prop) : Prop := match o with
  | some (r, h') => N r h'
  | none => False
def valsC (a : AF) (xs : List A) : List DV := xs.map fun x => (x.val a).shed

/-- Whether a nil slice among the arguments is told as it is. -/
def rawOK : Option Bool → Bool → Prop
  | none, _ => True
  | some r, b => b = r

def LdxK (one : Bool) (o : Option (Nat × List (List DV))) (X : Nat → List (List DV) → Prop) (Y : Prop) : Prop := match one, o with
  | true, some (es, l) => X es l
  | _, _ => Y
/-- One operation: what must hold ahead of it. -/
def WO (P : Program) (C : Cfg) (n : Nat) (dst : Option Nat) (o : O) (a : AF) (h : DHeap) (K : DV → AF → DHeap → Prop) : Prop := match o with
  | .mv x => K (x.val a).shed a h
  | .tk x => TakeP a x fun v a' => K v a' h
  | .pick c x y => BoolP (c.val a) fun b => BR b (K (x.val a).shed a h) (K (y.val a).shed a h)
  | .bin op d x y => OptP (binC op d (x.val a) (y.val a)) fun v => K v a h
  | .un op x => ScP (x.val a) fun v => OptP (unC op v) fun v => K v a h
  | .cvi k x => IntP (x.val a) fun _ m => K (.sc (.int k (k.wrap m))) a h
  | .cvs x => StrP (x.val a) fun s => K (.sc (.string s)) a h
  | .cvb x => ListP (x.val a) fun _ _ l => OptP (unbytes l) fun xs => K (.sc (.string (strOfNums xs))) a h
  | .ext x i => TupP (x.val a) fun cs => OptP cs[i]? fun v => K v.shed a h
  | .exh x => TakeP a x fun v a' => HeadP v fun y => K y a' h
  | .fld off m k x => AggP (x.val a) fun cs => OptP (ofC m k (cs.drop off)) fun v => K v a h
  | .mov off x => MovP n a off (x.val a) fun v => K v a h
  | .ld m k x => CellsP n a h (x.val a) fun cs => OptP (ofC m k cs) fun v => K v a h
  | .ldx one m k x => CellsP n a h (x.val a) fun cs => LdxK one (ownHead cs) (fun es l => StoreP n a h (x.val a) [.list false es l] fun a' h' => K (.list true es l) a' h')
      (OptP (ofC m k cs) fun v => v.isBox = false ∧ K v a h)
  | .ixp es x i => IntP (i.val a) fun _ i => LvP (x.val a) (fun _ es' l => es' = es ∧ IdxP l i fun c => K (.eptr c) a h) (fun j es' off n => es' = es ∧ 0 ≤ i ∧ i < n ∧ K (.rptr j ((off + i.toNat) * es)) a h) False
  | .ixq m es x i => IntP (i.val a) fun _ i => 0 ≤ i ∧ i < m ∧ MovP n a (i.toNat * es) (x.val a) fun v => K v a h
  | .ixs x i => IntP (i.val a) fun _ i => StrP (x.val a) fun s => IdxS s i fun b => K (.sc (.int .u8 b.toNat)) a h
  | .ixr m es ag k x i => IntP (i.val a) fun _ i => AggP (x.val a) fun cs => 0 ≤ i ∧ i < m ∧ OptP (ofC ag k (cs.drop (i.toNat * es))) fun v => K v a h
  | .ss x lo hi => StrP (x.val a) fun s => BndP s.size s.size (optv a hi) fun j => BndP 0 j (optv a lo) fun i => K (.sc (.string (s.extract i j))) a h
  | .sl es x lo hi => LvP (x.val a) (fun _ es' l => es' = es ∧ BndP l.length l.length (optv a hi) fun j => BndP 0 j (optv a lo) fun i => K (.list false es ((l.take j).drop i)) a h)
      (fun r es' off m => es' = es ∧ BndP m m (optv a hi) fun j => BndP 0 j (optv a lo) fun i => K (.vec r es (off + i) (j - i)) a h) False
  | .sl3 es x lo hi mx => LvP (x.val a) (fun _ es' l => es' = es ∧ BndP 0 l.length (some (mx.val a)) fun m => BndP 0 m (some (hi.val a)) fun j => BndP 0 j (optv a lo) fun i => K (.list (decide (m = j)) es ((l.take j).drop i)) a h)
      (fun r es' off q => es' = es ∧ BndP 0 q (some (mx.val a)) fun m => BndP 0 m (some (hi.val a)) fun j => BndP 0 j (optv a lo) fun i => BR (decide (m = i)) (K (.list true es []) a h) (K (.vec r es (off + i) (j - i)) a h)) False
  | .bld z ps => BuildP a ps z fun cs => K (.agg cs) a h
  | .bsl es ps => RowP es a ps fun l => K (.list true es l) a h
  | .mki t x => (x.val a).shed.plain = true ∧ K (.iface t (x.val a).shed) a h
  | .lkp ks ag kn z ok m k => keyC ag kn (k.val a) = true ∧ MapAt h (m.val a) fun es => OptP (findD ks (k.val a) es) fun r => LkK ok z r fun v => K v a h
  | .len w x => match w with
    | 0 => StrP (x.val a) fun s => K (.sc (.int .i64 (s.size : Nat))) a h
    | 1 => LvP (x.val a) (fun _ _ l => K (.sc (.int .i64 (l.length : Nat))) a h) (fun _ _ _ m => K (.sc (.int .i64 (m : Nat))) a h) (K (.sc (.int .i64 0)) a h)
    | _ => MapAt h (x.val a) fun es => K (.sc (.int .i64 (es.length : Nat))) a h
  | .mm b x y => IntP (x.val a) fun k i => IntP (y.val a) fun _ j => K (.sc (.int k (mmI b i j))) a h
  | .new esc x => NewP esc dst a h (cellsD (x.val a).shed) K
  | .newz esc z => NewP esc dst a h z K
  | .st k p x => TakeP a x fun v a' => (cellsD v).length = k ∧ StoreP n a' h (p.val a) (cellsD v) fun a'' h' => K .junk a'' h'
  | .app es w str x y => dst.isSome = true ∧ TakeP a x fun v a' => OwnP v fun es' l => es' = es ∧ RowsP h es str (y.val a) fun m => (l.length + m.length) * w ≤ maxLenD ∧ K (.list true es (l ++ m)) a' h
  | .appv es w str x y => dst.isSome = true ∧ RowsP h es str (y.val a) fun m => AppV (x.val a)
      (m.length * w ≤ maxLenD ∧ BR m.isEmpty (K (.sc (.slice none 0 0)) a h) (K (.vec h.length es 0 m.length) a (h ++ [.row (m.flatten.map DV.shed)])))
      fun j es' q => es' = es ∧ RowO h j fun cs => q * es ≤ cs.length ∧ (q + m.length) * w ≤ maxLenD ∧ K (.vec h.length es 0 (q + m.length)) a (h.set j .dead ++ [.row (cs.take (q * es) ++ m.flatten.map DV.shed)])
  | .mkv es w z l c => IntP (l.val a) fun _ q => IntP (c.val a) fun _ m => q = m ∧ 0 ≤ q ∧ q.toNat * w ≤ maxLenD ∧ K (.vec h.length es 0 q.toNat) a (h ++ [.row (List.replicate q.toNat z).flatten])
  | .bsv es ps => RowP es a ps fun l => K (.vec h.length es 0 l.length) a (h ++ [.row (l.flatten.map DV.shed)])
  | .del ks ag kn m k => keyC ag kn (k.val a) = true ∧ MpP h (m.val a) fun i es => OptP (delKey ks (k.val a) es) fun es' => K .junk a (h.set i (.map es'))
  | .mup ks ag kn m k v => keyC ag kn (k.val a) = true ∧ (v.val a).shed.plain = true ∧ MpP h (m.val a) fun i es => OptP (setKey ks (k.val a) (v.val a).shed es) fun es' => K .junk a (h.set i (.map es'))
  | .mkm => K (.mp h.length) a (h ++ [.map []])
  | .mkf fn i xs => CapP n xs a fun ds a' => K (.fn fn (ds.take i) (ds.drop i)) a' h
  | .call raw fv xs => FnP (fv.val a) fun k fs cs => rawOK raw (C.ext k).isSome ∧ calleeOK P k = true ∧ (valsC a xs).all DV.plain = true ∧ CallP (lim P C k (fs ++ valsC a xs ++ cs) h) fun r h' => K r a h'
  | .bad => False

/-- A truth value is parted at once. -/
def BlP (v : DV) (N : DV → Prop) : Prop := match v with
  | .sc (.bool b) => BR b (N (.sc (.bool true))) (N (.sc (.bool false)))
  | v => N v
def PutP (bl : Bool) (dst : Option Nat) (v : DV) (a : AF) (N : AF → Prop) : Prop := match dst with
  | none => N a
  | some s => match bl with
    | false => N ((s, v) :: a)
    | true => BlP v fun v' => N ((s, v') :: a)
/-- By its guard. -/
def GuP (v : DV) (want : Bool) (X Y : Prop) : Prop := match v with
  | .sc (.bool b) => BR (b == want) X Y
  | .sc (.tuple _) => Y
  | _ => False
def noPathV (s : Nat) : DV → Bool
  | .path s' _ => !(s' == s)
  | _ => true
/-- What a drawn region asks. -/
def preA (n : Nat) (o : Cop) (a : AF) : Bool :=
  (match o.dst with | some s => decide (s < n) && quiet (look s a) | none => true) &&
  (if o.nw then (match o.dst with | some s => a.all fun e => noPathV s e.2 | none => false) else true) &&
  (if o.fs then o.us.all fun s => decide (s < n) && (match look s a with | .box _ => false | _ => true) else true)
def postA (n : Nat) (rs : List Nat) (o : Cop) (v : DV) (a a' : AF) : Bool :=
  (rs.all fun s => chk s (look (s / 2) a')) &&
  (match v with
    | .path s' _ => o.us.any fun s => s == s' || (decide (s < n) && match look s a with | .path s'' _ => s'' == s' | _ => false)
    | .box _ => o.nw
    | _ => true)

def ent (dst : Option Nat) (v : DV) : AF := match dst with
  | some s => [(s, v)]
  | none => []
def WOps (P : Program) (C : Cfg) (n : Nat) (draw : Option (List Nat)) : List Cop → AF → DHeap → (AF → DHeap → Prop) → Prop
  | [], a, h, N => N a h
  | o :: os, a, h, N => match draw with
    | none => match o.g with
      | none => WO P C n o.dst o.op a h fun v a' h' => PutP o.bl o.dst v a' fun a'' => WOps P C n draw os a'' h' N
      | some (g, w) => GuP (look g a) w (WO P C n o.dst o.op a h fun v a' h' => PutP o.bl o.dst v a' fun a'' => WOps P C n draw os a'' h' N) (PutP false o.dst (.sc undef) a fun a'' => WOps P C n draw os a'' h N)
    | some rs => preA n o a = true ∧ match o.g with
      | none => WO P C n o.dst o.op a h fun v a' h' => postA n rs o v a (ent o.dst v ++ a') = true ∧ PutP o.bl o.dst v a' fun a'' => WOps P C n draw os a'' h' N
      | some (g, w) => GuP (look g a) w (WO P C n o.dst o.op a h fun v a' h' => postA n rs o v a (ent o.dst v ++ a') = true ∧ PutP o.bl o.dst v a' fun a'' => WOps P C n draw os a'' h' N) (PutP false o.dst (.sc undef) a fun a'' => WOps P C n draw os a'' h N)

def keepA (ks : Option (List Nat)) (a : AF) : AF := match ks with
  | some l => l.map fun s => (s, look s a)
  | none => a
def IfP (v : DV) (X Y : Prop) : Prop := match v with
  | .sc (.bool b) => BR b X Y
  | _ => False
def LoopP (I : Nat → AF → DHeap → Prop) (body : (AF → DHeap → Prop) → AF → DHeap → Prop) (a : AF) (h : DHeap) : Prop :=
  ∃ m, I m a h ∧ ∀ m a h, I m a h → body (fun a' h' => ∃ m', m' < m ∧ I m' a' h') a h
def DrawP (draw : Option (List Nat)) (a : AF) : Prop := match draw with
  | some rs => (rs.all fun s => chk s (look (s / 2) a)) = true
  | none => True

/-- Behind the first of two; out of a block. -/
def ThenK (N : AF → DHeap → Prop) (Q : XD → AF → DHeap → Prop) (e : XD) (a : AF) (h : DHeap) : Prop := match e with
  | .normal => N a h
  | .exit j => Q (.exit j) a h
  | .ret => Q .ret a h
def OutK (id : Nat) (Q : XD → AF → DHeap → Prop) (e : XD) (a : AF) (h : DHeap) : Prop := match e with
  | .exit j => if j = id then Q .normal a h else Q (.exit j) a h
  | .normal => Q .normal a h
  | .ret => Q .ret a h

def WP (P : Program) (C : Cfg) (n : Nat) : Cd → AF → DHeap → (XD → AF → DHeap → Prop) → Prop
  | .reg ops ks draw, a, h, Q => DrawP draw a ∧ WOps P C n draw ops a h fun a' h' => Q .normal (keepA ks a') h'
  | .seq x y, a, h, Q => WP P C n x a h (ThenK (fun a' h' => WP P C n y a' h' Q) Q)
  | .ite x c d, a, h, Q => IfP (x.val a) (WP P C n c a h Q) (WP P C n d a h Q)
  | .block id c, a, h, Q => WP P C n c a h (OutK id Q)
  | .loop ks c, a, h, Q => ∃ I : Nat → AF → DHeap → Prop, LoopP I (fun N a h => WP P C n c (keepA ks a) h (ThenK N Q)) a h
  | .scope c, a, h, Q => WP P C n c a h Q
  | .exit j, a, h, Q => Q (.exit j) a h
  | .ret, a, h, Q => Q .ret a h
  | .skip, a, h, Q => Q .normal a h
  | .bad, _, _, _ => False

end Go.DS

/-
  Out of the model's code into code without types.
-/
namespace Go.DS
open Go
set_option linter.unusedVariables false

def trA (P : Program) (n : Nat) (ty : TypeId) : Operand → A
  | .tmp s => if s < n then .s s else .c .junk
  | .const v => .c (cst P ty v)
  | .global g => .c (.sc (.pointer (some ⟨g, 0, none⟩)))
  | .func f => .c (.fn (.func f) [] [])

def trBD (P : Program) (ty : TypeId) : BD := match P.underlying ty with
  | some (.int _) => .any
  | some .string => .any
  | some .bool => .bool
  | some (.struct _) => match flatK P 8 ty, tinfo P ty, P.eqGuardType P.depth ty with
    | some ks, some (true, _), false => .flat ks
    | _, _, _ => .bad
  | some (.pointer _) => .ptr
  | some (.map _ _) => .map
  | some (.func _ _ _) => .func
  | _ => .bad

def trParts (P : Program) (n : Nat) (offs : Nat → Option (Nat × Nat × TypeId)) : List (Nat × Operand) → Option (List (Nat × Nat × A))
  | [] => some []
  | p :: ps => match offs p.1, trParts P n offs ps with
    | some (off, k, ty), some r => some ((off, k, trA P n ty p.2) :: r)
    | _, _ => none
def trArg (P : Program) (raw : Bool) (n : Nat) (ty : TypeId) (x : Operand) : A := if (raw && rawNil x) = true then .c (.sc (.slice none 0 0)) else trA P n ty x
def trArgs (P : Program) (raw : Bool) (n : Nat) : List Operand → List TypeId → List A
  | x :: xs, ty :: tys => trArg P raw n ty x :: trArgs P raw n xs tys
  | x :: xs, [] => trArg P raw n 0 x :: trArgs P raw n xs []
  | [], _ => []
def rawOf (C : Cfg) : Operand → Bool
  | .func k => (C.ext k).isSome
  | _ => false

def trKey (P : Program) (kt : TypeId) : Option (List Nat × Bool × Nat) := match flatK P 8 kt, tinfo P kt with
  | some ks, some (ag, kn) => some (ks, ag, kn)
  | _, _ => none

def trCall (P : Program) (C : Cfg) (rw : Bool) (n : Nat) (c : Call) : O := match c.callee with
  | .value fv => .call (if c.args.toList.any rawNil = true then some (rawOf C fv) else none) (trA P n 0 fv) (trArgs P (rawOf C fv) n c.args.toList c.argTypes.toList)
  | .builtin .len => match c.args.toList, c.argTypes.toList with
    | [x], ty :: _ => match P.underlying ty with
      | some .string => .len 0 (trA P n ty x)
      | some (.slice _) => .len 1 (trA P n ty x)
      | some (.map _ _) => .len 2 (trA P n ty x)
      | _ => .bad
    | _, _ => .bad
  | .builtin .max => match c.args.toList with
    | [x, y] => .mm true (trA P n 0 x) (trA P n 0 y)
    | _ => .bad
  | .builtin .min => match c.args.toList with
    | [x, y] => .mm false (trA P n 0 x) (trA P n 0 y)
    | _ => .bad
  | .builtin .append => match c.args.toList, c.argTypes.toList with
    | [x, y], ty :: ty' :: _ => match P.underlying ty', elemOfSlice P ty with
      | some (.int _), _ | none, _ | _, none => .bad
      | some _, some e => match P.info? e with
        | some i => if 0 < i.size ∧ zeroFits i = true then (if rw = true then .appv i.size (i.bytes + i.size + 1) (decide (i.size = 1)) (trA P n ty x) (trA P n ty' y) else .app i.size (i.bytes + i.size + 1) (decide (i.size = 1)) (trA P n ty x) (trA P n ty' y)) else .bad
        | none => .bad
    | _, _ => .bad
  | .builtin .delete => match c.args.toList, c.argTypes.toList with
    | [m, k], ty :: _ => match P.underlying ty with
      | some (.map kt _) => match trKey P kt with
        | some (ks, ag, kn) => .del ks ag kn (trA P n ty m) (trA P n kt k)
        | none => .bad
      | _ => .bad
    | _, _ => .bad
  | _ => .bad

def trO (P : Program) (C : Cfg) (f : FuncId) (n : Nat) (o : Oper) : O := match o.op with
  | .move x => if (raws C f o.dst && rawNil x) = true then .mv (.c (.sc (.slice none 0 0))) else if xfers C f o.dst = true then .tk (trA P n o.type x) else .mv (trA P n o.type x)
  | .assign x => if (raws C f o.dst && rawNil x) = true then .mv (.c (.sc (.slice none 0 0))) else if xfers C f o.dst = true then .mv (trA P n o.type x) else .tk (trA P n o.type x)
  | .pick c a b => .pick (trA P n o.type c) (trA P n o.type a) (trA P n o.type b)
  | .binOp op ty x y yt => .bin op (trBD P ty) (trA P n ty x) (trA P n yt y)
  | .unOp op ty x => .un op (trA P n ty x)
  | .convert src dst x => match P.underlying src, P.underlying dst with
    | some (.int _), some (.int k) => .cvi k (trA P n src x)
    | some .string, some .string => .cvs (trA P n src x)
    | some (.slice e), some .string => match P.underlying e with
      | some (.int .u8) => .cvb (trA P n src x)
      | _ => .bad
    | _, _ => .bad
  | .extract x i => if xfers C f o.dst = true then (if i = 0 then .exh (trA P n o.type x) else .bad) else .ext (trA P n o.type x) i
  | .field ty x f => match fieldOff P ty f with
    | some (ft, off) => match tinfK P ft with
      | some (m, k) => .fld off m k (trA P n ty x)
      | none => .bad
    | none => .bad
  | .fieldAddr s x f => match fieldOff P s f with
    | some (_, off) => .mov off (trA P n o.type x)
    | none => .bad
  | .load ty a => match tinfK P ty with
    | some (m, k) => if raws C f o.dst = true then (if xfers C f o.dst = true ∨ m = true then .bad else .ldx false false 1 (trA P n o.type a)) else if xfers C f o.dst = true then .ldx (!m) m k (trA P n o.type a) else .ld m k (trA P n o.type a)
    | none => .bad
  | .indexAddr ty x i => match P.underlying ty with
    | some (.slice e) => if sz P e ≠ 0 then .ixp (sz P e) (trA P n ty x) (trA P n o.type i) else .bad
    | some (.array m e) => if sz P e ≠ 0 then .ixq m (sz P e) (trA P n ty x) (trA P n o.type i) else .bad
    | _ => .bad
  | .index ty x i => match P.underlying ty with
    | some .string => .ixs (trA P n ty x) (trA P n o.type i)
    | some (.array m e) => match tinfK P e with
      | some (ag, k) => if sz P e ≠ 0 then .ixr m (sz P e) ag k (trA P n ty x) (trA P n o.type i) else .bad
      | none => .bad
    | _ => .bad
  | .slice ty x lo hi mx => match P.underlying ty, mx with
    | some .string, none => .ss (trA P n ty x) (lo.map (trA P n o.type)) (hi.map (trA P n o.type))
    | some (.slice e), none => if sz P e ≠ 0 then .sl (sz P e) (trA P n ty x) (lo.map (trA P n o.type)) (hi.map (trA P n o.type)) else .bad
    | some (.slice e), some m => match hi with
      | some j => if sz P e ≠ 0 then .sl3 (sz P e) (trA P n ty x) (lo.map (trA P n o.type)) (trA P n o.type j) (trA P n o.type m) else .bad
      | none => .bad
    | _, _ => .bad
  | .nilCheck x => .mov 0 (trA P n o.type x)
  | .build ty ps => if raws C f o.dst = true then (match zeroR P (rawO C f o.dst) ty, P.underlying ty with
    | some z, some (.struct fs) => if fs.toList.all (fun f => (P.info? f.type).isSome) = false then .bad else match trParts P n (fun i => (fs[i]?).map fun f => (f.offset, sz P f.type, f.type)) ps.toList with
      | some r => .bld z r
      | none => .bad
    | _, _ => .bad) else match zeroD P ty, P.underlying ty with
    | some (.agg z), some (.struct fs) => if fs.toList.all (fun f => (P.info? f.type).isSome) = false then .bad else match trParts P n (fun i => (fs[i]?).map fun f => (f.offset, sz P f.type, f.type)) ps.toList with
      | some r => .bld (z.map DV.shed) r
      | none => .bad
    | some (.agg z), some (.array _ e) => if (P.info? e).isSome = false then .bad else match trParts P n (fun i => some (i * sz P e, sz P e, e)) ps.toList with
      | some r => .bld (z.map DV.shed) r
      | none => .bad
    | _, _ => .bad
  | .buildSlice ty k ps => match elemOfSlice P ty with
    | some e => if ps.toList.map (·.1) = List.range k ∧ 0 < sz P e ∧ k * sz P e ≤ 65536 ∧ (zeroD P e).isSome = true then (if raws C f o.dst = true then .bsv (sz P e) (ps.toList.map fun p => trA P n e p.2) else .bsl (sz P e) (ps.toList.map fun p => trA P n e p.2)) else .bad
    | none => .bad
  | .makeInterface ty x => match P.underlying ty with
    | some (.interface _) | none => .bad
    | _ => .mki ty (trA P n ty x)
  | .lookup ty m k ok => match P.underlying ty with
    | some (.map kt et) => match trKey P kt, zeroD P et with
      | some (ks, ag, kn), some z => .lkp ks ag kn z ok (trA P n ty m) (trA P n kt k)
      | _, _ => .bad
    | _ => .bad
  | .call c => trCall P C (raws C f o.dst) n c
  | .makeSlice ty l c => match elemOfSlice P ty with
    | some e => match zeroD P e, P.info? e with
      | some z, some i => if 0 < i.size ∧ zeroFits i = true ∧ (cellsD z.shed).length = i.size ∧ (cellsD z.shed).all DV.cell = true then .mkv i.size (i.bytes + i.size + 1) (cellsD z.shed) (trA P n o.type l) (trA P n o.type c) else .bad
      | _, _ => .bad
    | none => .bad
  | .box ty x => match o.dst with
    | some s => .new (C.esc f s) (trA P n ty x)
    | none => .bad
  | .alloc ty => if (raws C f o.dst && escs C f o.dst) = true then (match o.dst, zeroR P (rawO C f o.dst) ty with
    | some s, some z => .newz true z
    | _, _ => .bad) else match o.dst, zeroD P ty with
    | some s, some z => if raws C f o.dst = true then .newz (C.esc f s) (cellsZ z) else .new (C.esc f s) (.c z)
    | _, _ => .bad
  | .store ty a x => match tinfo P ty with
    | some (_, k) => .st k (trA P n o.type a) (trA P n ty x)
    | none => .bad
  | .makeMap ty none => match P.underlying ty with
    | some (.map _ _) => .mkm
    | _ => .bad
  | .mapUpdate ty m k v | .insert ty m k v => match P.underlying ty with
    | some (.map kt et) => match trKey P kt with
      | some (ks, ag, kn) => .mup ks ag kn (trA P n ty m) (trA P n kt k) (trA P n et v)
      | none => .bad
    | _ => .bad
  | .makeFunc fn first cap => .mkf fn first.size ((first.toList ++ cap.toList).map (trA P n 0))
  | _ => .bad

/-! Frames. -/
theorem toT_get (n : Nat) (a : AF) (s : Nat) : (toT n a)[s]? = if s < n then some (look s a) else none := by
  unfold toT
  rw [List.getElem?_map]
  split
  · rename_i h; rw [List.getElem?_range h]; rfl
  · rename_i h; rw [List.getElem?_eq_none (by simpa using Nat.le_of_not_lt h)]; rfl
theorem toT_len (n : Nat) (a : AF) : (toT n a).length = n := by simp [toT]
theorem toT_put (n : Nat) (a : AF) (s : Nat) (v : DV) : toT n ((s, v) :: a) = (toT n a).set s v := by
  apply List.ext_getElem?
  intro i
  rw [toT_get, List.getElem?_set, toT_get, toT_len]
  by_cases h : s = i
  · subst h
    simp only [look, if_true]
  · simp only [look, if_neg h, if_neg (fun e => h (Eq.symm e) : ¬ i = s)]
theorem opnd_val (P : Program) (n : Nat) (a : AF) (ty : TypeId) (x : Operand) : opnd P ty (toT n a) x = (trA P n ty x).val a := by
  cases x with
  | tmp s =>
    by_cases hs : s < n
    · simp only [opnd, trA, toT_get, if_pos hs, A.val]
      cases look s a <;> rfl
    · simp only [opnd, trA, toT_get, if_neg hs, A.val]
  | const v => rfl
  | global g => rfl
  | func f => rfl
end Go.DS

/-
  What must hold ahead of an operation is enough.
-/
namespace Go.DS
open Go
set_option linter.unusedVariables false

theorem OptP.elim {α : Type} {o : Option α} {N : α → Prop} (h : OptP o N) : ∃ x, o = some x ∧ N x := by
  cases o with
  | none => exact False.elim h
  | some x => exact ⟨x, rfl, h⟩
theorem IntP.elim {v : DV} {N : IntKind → Int → Prop} (h : IntP v N) : ∃ k n, v = .sc (.int k n) ∧ N k n := by
  unfold IntP at h; split at h
  · exact ⟨_, _, rfl, h⟩
  · exact h.elim
theorem BoolP.elim {v : DV} {N : Bool → Prop} (h : BoolP v N) : ∃ b, v = .sc (.bool b) ∧ N b := by
  unfold BoolP at h; split at h
  · exact ⟨_, rfl, h⟩
  · exact h.elim
theorem StrP.elim {v : DV} {N : ByteArray → Prop} (h : StrP v N) : ∃ b, v = .sc (.string b) ∧ N b := by
  unfold StrP at h; split at h
  · exact ⟨_, rfl, h⟩
  · exact h.elim
theorem ScP.elim {v : DV} {N : Value → Prop} (h : ScP v N) : ∃ b, v = .sc b ∧ N b := by
  unfold ScP at h; split at h
  · exact ⟨_, rfl, h⟩
  · exact h.elim
theorem ListP.elim {v : DV} {N : Bool → Nat → List (List DV) → Prop} (h : ListP v N) : ∃ o es l, v = .list o es l ∧ N o es l := by
  unfold ListP at h; split at h
  · exact ⟨_, _, _, rfl, h⟩
  · exact h.elim
theorem LvP.elim {v : DV} {X : Bool → Nat → List (List DV) → Prop} {Y : Nat → Nat → Nat → Nat → Prop} {Z : Prop} (h : LvP v X Y Z) : (∃ o es l, v = .list o es l ∧ X o es l) ∨ (∃ i es off n, v = .vec i es off n ∧ Y i es off n) ∨ v = .sc (.slice none 0 0) ∧ Z := by
  unfold LvP at h; split at h
  · exact .inl ⟨_, _, _, rfl, h⟩
  · exact .inr (.inl ⟨_, _, _, _, rfl, h⟩)
  · exact .inr (.inr ⟨rfl, h⟩)
  · exact h.elim
theorem TupP.elim {v : DV} {N : List DV → Prop} (h : TupP v N) : ∃ cs, v = .tup cs ∧ N cs := by
  unfold TupP at h; split at h
  · exact ⟨_, rfl, h⟩
  · exact h.elim
theorem AggP.elim {v : DV} {N : List DV → Prop} (h : AggP v N) : ∃ cs, v = .agg cs ∧ N cs := by
  unfold AggP at h; split at h
  · exact ⟨_, rfl, h⟩
  · exact h.elim
theorem FnP.elim {v : DV} {N : FuncId → List DV → List DV → Prop} (h : FnP v N) : ∃ k fs cs, v = .fn (.func k) fs cs ∧ N k fs cs := by
  unfold FnP at h; split at h
  · exact ⟨_, _, _, rfl, h⟩
  · exact h.elim
theorem BR.elim {b : Bool} {X Y : Prop} (h : BR b X Y) : (b = true ∧ X) ∨ (b = false ∧ Y) := by
  cases b
  · exact .inr ⟨rfl, h.2 rfl⟩
  · exact .inl ⟨rfl, h.1 rfl⟩
theorem BoxP.elim {n : Nat} {a : AF} {s : Nat} {N : List DV → Prop} (h : BoxP n a s N) : ∃ cs, (toT n a)[s]? = some (.box cs) ∧ N cs := by
  obtain ⟨hs, h⟩ := h
  unfold BoxV at h
  split at h
  · rename_i cs e; exact ⟨cs, by rw [toT_get, if_pos hs, e], h⟩
  · exact h.elim
theorem ObjP.elim {h : DHeap} {i : Nat} {N : List DV → Prop} (H : ObjP h i N) : ∃ cs, h[i]? = some (.cells cs) ∧ N cs := by
  unfold ObjP at H; split at H
  · exact ⟨_, by assumption, H⟩
  · exact H.elim
theorem RowO.elim {h : DHeap} {i : Nat} {N : List DV → Prop} (H : RowO h i N) : ∃ cs, h[i]? = some (.row cs) ∧ N cs := by
  unfold RowO at H; split at H
  · exact ⟨_, by assumption, H⟩
  · exact H.elim
theorem MapP.elim {h : DHeap} {i : Nat} {N : List (DV × DV) → Prop} (H : MapP h i N) : ∃ cs, h[i]? = some (.map cs) ∧ N cs := by
  unfold MapP at H; split at H
  · exact ⟨_, by assumption, H⟩
  · exact H.elim
theorem CellsP.elim {n : Nat} {a : AF} {h : DHeap} {v : DV} {N : List DV → Prop} (H : CellsP n a h v N) : ∃ cs, cellsAt (toT n a) h v = some cs ∧ N cs := by
  unfold CellsP at H; split at H
  · obtain ⟨cs, e, q⟩ := H.elim; exact ⟨_, by simp only [cellsAt, e], q⟩
  · obtain ⟨cs, e, q⟩ := H.elim; exact ⟨_, by simp only [cellsAt, e], q⟩
  · obtain ⟨cs, e, q⟩ := H.elim; exact ⟨_, by simp only [cellsAt, e], q⟩
  · exact ⟨_, rfl, H⟩
  · exact H.elim
theorem MovP.elim {n : Nat} {a : AF} {off : Nat} {v : DV} {N : DV → Prop} (H : MovP n a off v N) : ∃ r, moveD (toT n a) off v = some r ∧ N r := by
  unfold MovP at H; split at H
  · obtain ⟨cs, e, q⟩ := H.elim; exact ⟨_, by simp only [moveD, e], q⟩
  · exact ⟨_, rfl, H⟩
  · exact ⟨_, rfl, H⟩
  · exact ⟨_, rfl, H⟩
  · exact H.elim
theorem TakeP.elim {P : Program} {n : Nat} {ty : TypeId} {x : Operand} {a : AF} {N : DV → AF → Prop} (H : TakeP a (trA P n ty x) N) : ∃ d a', takeD P ty (toT n a) x = (d, toT n a') ∧ N d a' := by
  cases x with
  | tmp s =>
    by_cases hs : s < n
    · simp only [trA, if_pos hs, TakeP] at H
      unfold takeD
      rw [opnd_val]
      simp only [trA, if_pos hs, A.val]
      generalize opv s (look s a) = v at H ⊢
      unfold TakeV at H
      split at H
      · rename_i h1
        exact ⟨_, _, by simp only [h1, if_true]; rw [toT_put], H⟩
      · rename_i h1
        exact ⟨_, a, by simp only [h1]; rfl, H⟩
    · simp only [trA, if_neg hs, TakeP] at H
      unfold takeD
      rw [opnd_val]
      simp only [trA, if_neg hs, A.val]
      exact ⟨_, a, rfl, H⟩
  | const v => exact ⟨_, a, rfl, H⟩
  | global g => exact ⟨_, a, rfl, H⟩
  | func f => exact ⟨_, a, rfl, H⟩
theorem ofC_of {P : Program} {ty : TypeId} {m : Bool} {k : Nat} {cs : List DV} (ht : tinfK P ty = some (m, k)) : ofCells P ty cs = ofC m k cs := by
  unfold tinfK at ht
  unfold ofCells ofC
  split at ht
  · rename_i n hi
    cases ht
    rw [hi]
  · rename_i n hi
    cases ht
    rw [hi]
    rfl
  · cases ht
theorem tinfK_one {P : Program} {ty : TypeId} {m : Bool} {k : Nat} (ht : tinfK P ty = some (m, k)) : oneCellTy P ty = !m := by
  unfold tinfK at ht
  unfold oneCellTy
  split at ht
  · rename_i n hi
    cases ht
    rw [hi]
  · rename_i n hi
    cases ht
    rw [hi]
  · cases ht
theorem IdxP.elim {α : Type} {l : List α} {i : Int} {N : α → Prop} (h : IdxP l i N) : 0 ≤ i ∧ ∃ c, l[i.toNat]? = some c ∧ N c := h
theorem BndP.elim {P : Program} {n : Nat} {ty : TypeId} {a : AF} {x : Option Operand} {dflt top : Nat} {N : Nat → Prop} (H : BndP dflt top (optv a (x.map (trA P n ty))) N) : ∃ k, boundD dflt top (x.map (opnd P ty (toT n a))) = some k ∧ N k := by
  cases x with
  | none => exact ⟨dflt, rfl, H⟩
  | some x =>
    simp only [Option.map_some, optv, BndP] at H
    obtain ⟨k, i, e, h1, h2, h3⟩ := H.elim
    refine ⟨i.toNat, ?_, h3⟩
    simp only [Option.map_some, boundD, opnd_val, e, intD, if_pos (And.intro h1 h2)]

theorem intC_sound {P : Program} {op : BinOp} {ty : TypeId} {k : IntKind} {m n : Int} {r : DV} (h : intC op k m n = some r) : (det P (binOp op ty (.int k m) (.int k n))).map DV.sc = some r := by
  cases op <;> simp only [intC, Option.some.injEq, reduceCtorEq] at h
  case quo =>
    split at h
    · cases h
    · rename_i h0; cases h; simp [binOp, Op.intDiv, h0, det, pure]
  case rem =>
    split at h
    · cases h
    · rename_i h0; cases h; simp [binOp, Op.intDiv, h0, det, pure]
  all_goals (subst h; simp [binOp, Op.intArith, Op.intCmp, det, pure])
  all_goals rfl
theorem toList_loop (s : ByteArray) : ∀ (k i : Nat) (r : List UInt8), s.size - i = k → ByteArray.toList.loop s i r = r.reverse ++ s.data.toList.drop i
  | 0, i, r, h => by
    unfold ByteArray.toList.loop
    rw [if_neg (by omega), List.drop_eq_nil_of_le (by simp; show s.size ≤ i; omega)]
    simp
  | k + 1, i, r, h => by
    unfold ByteArray.toList.loop
    have hi : i < s.data.toList.length := by simp; show i < s.size; omega
    rw [if_pos (by omega), toList_loop s k (i + 1) _ (by omega), List.drop_eq_getElem_cons hi]
    have : s.get! i = s.data.toList[i] := by
      have hi' : i < s.data.size := by simpa using hi
      simp only [ByteArray.get!, getElem!_pos s.data i hi', Array.getElem_toList]
    simp [this]
theorem toList_eq (s : ByteArray) : s.toList = s.data.toList := by
  unfold ByteArray.toList
  rw [toList_loop s _ 0 [] rfl]
  simp
theorem toList_beq {s u : ByteArray} : (s.toList == u.toList) = decide (s = u) := by
  by_cases h : s = u
  · subst h; simp
  · simp only [h, decide_false, beq_eq_false_iff_ne, ne_eq]
    intro e
    rw [toList_eq, toList_eq] at e
    apply h
    cases s with
    | mk x => cases u with
      | mk y => congr 1; exact Array.toList_inj.1 e
theorem strC_sound {P : Program} {op : BinOp} {ty : TypeId} {s u : ByteArray} {r : DV} (h : strC op s u = some r) : (det P (binOp op ty (.string s) (.string u))).map DV.sc = some r := by
  cases op <;> simp only [strC, Option.some.injEq, reduceCtorEq] at h
  case add =>
    split at h
    · rename_i h0
      cases h
      have : ¬ ((s.size + u.size : Nat) : Int) > IntKind.i64.max := by
        have : IntKind.i64.max = 9223372036854775807 := by decide
        omega
      simp only [binOp, Op.stringOp, if_neg this]; rfl
    · cases h
  all_goals (subst h; simp only [binOp, Op.stringOp, toList_beq]; first | rfl | (simp only [toList_eq]; rfl))
end Go.DS

/-
  Each operation.
-/
namespace Go.DS
open Go
set_option linter.unusedVariables false

section
variable {P : Program} {C : Cfg} {f : FuncId} {n : Nat} {o : Oper} {a : AF} {h : DHeap} {K : DV → AF → DHeap → Prop}

/-- What an operation comes to. -/
def Does (P : Program) (C : Cfg) (f : FuncId) (n : Nat) (o : Oper) (a : AF) (h : DHeap) (K : DV → AF → DHeap → Prop) : Prop :=
  ∃ v a' h', opD P C f (lim P C) o (toT n a) h = some (putD (toT n a') o.dst v, h') ∧ K v a' h'

/-- Operations that change nothing else. -/
def isCalm (C : Cfg) (f : FuncId) (o : Oper) : Bool := match o.op with
  | .move x => !xfers C f o.dst && !(raws C f o.dst && rawNil x)
  | .assign x => xfers C f o.dst && !(raws C f o.dst && rawNil x)
  | .extract _ _ => !xfers C f o.dst
  | .load _ _ => !xfers C f o.dst && !raws C f o.dst
  | .build _ _ => !raws C f o.dst
  | .buildSlice _ _ _ => !raws C f o.dst
  | .pick .. | .binOp .. | .unOp .. | .convert .. | .field .. | .fieldAddr .. | .indexAddr .. | .index .. | .slice .. | .nilCheck .. | .makeInterface .. | .lookup .. => true
  | .call { callee := .builtin .len, .. } => true
  | .call { callee := .builtin .max, .. } => true
  | .call { callee := .builtin .min, .. } => true
  | _ => false

theorem does_calm {v : DV} (hc : isCalm C f o = true) (hv : calmV P o (toT n a) h = some v) (hk : K v a h) : Does P C f n o a h K := by
  refine ⟨v, a, h, ?_, hk⟩
  unfold isCalm at hc
  unfold opD
  split at hc <;> rename_i ho <;> simp only [ho] <;> try (simp only [hv]; done)
  · simp only [Bool.and_eq_true, Bool.not_eq_true'] at hc
    simp only [calmV, ho, Option.some.injEq] at hv
    subst hv
    simp only [hc.1, hc.2, Bool.false_eq_true, if_false]
  · simp only [Bool.and_eq_true, Bool.not_eq_true'] at hc
    simp only [calmV, ho, Option.some.injEq] at hv
    subst hv
    simp only [hc.1, hc.2, Bool.false_eq_true, if_false, if_true]
  · simp only [Bool.not_eq_true'] at hc
    simp only [hc, hv, Bool.false_eq_true, if_false]
  · simp only [Bool.and_eq_true, Bool.not_eq_true'] at hc
    simp only [calmV, ho] at hv
    split at hv
    · rename_i cs hcs
      simp only [hcs, hc.1, hc.2, ofCellsR, hv, Bool.false_eq_true, false_and, if_false, Bool.or_self]
    · cases hv
  · simp only [Bool.not_eq_true'] at hc
    simp only [hc, hv, Bool.false_eq_true, if_false]
  · simp only [Bool.not_eq_true'] at hc
    simp only [hc, hv, Bool.false_eq_true, if_false]
  · cases hc

theorem does_move {x : Operand} (ho : o.op = .move x) (H : WO P C n o.dst (trO P C f n o) a h K) : Does P C f n o a h K := by
  simp only [trO, ho] at H
  split at H
  · rename_i hr
    exact ⟨_, a, h, by simp only [opD, ho, if_pos hr]; rfl, H⟩
  rename_i hr
  split at H
  · rename_i hx
    obtain ⟨d, a', e, q⟩ := TakeP.elim H
    exact ⟨d, a', h, by simp only [opD, ho, if_neg hr, if_pos hx, e], q⟩
  · rename_i hx
    refine does_calm (by simp only [isCalm, ho, Bool.and_eq_true, Bool.not_eq_true']; exact ⟨by simpa using hx, by simpa using hr⟩) ?_ H
    simp only [calmV, ho, opnd_val]

theorem does_assign {x : Operand} (ho : o.op = .assign x) (H : WO P C n o.dst (trO P C f n o) a h K) : Does P C f n o a h K := by
  simp only [trO, ho] at H
  split at H
  · rename_i hr
    exact ⟨_, a, h, by simp only [opD, ho, if_pos hr]; rfl, H⟩
  rename_i hr
  split at H
  · rename_i hx
    refine does_calm (by simp only [isCalm, ho, Bool.and_eq_true, Bool.not_eq_true']; exact ⟨hx, by simpa using hr⟩) ?_ H
    simp only [calmV, ho, opnd_val]
  · rename_i hx
    obtain ⟨d, a', e, q⟩ := TakeP.elim H
    exact ⟨d, a', h, by simp only [opD, ho, if_neg hr, if_neg hx, e], q⟩

theorem does_pick {c x y : Operand} (ho : o.op = .pick c x y) (H : WO P C n o.dst (trO P C f n o) a h K) : Does P C f n o a h K := by
  simp only [trO, ho, WO] at H
  obtain ⟨b, e, q⟩ := H.elim
  rcases BR.elim q with ⟨rfl, q1⟩ | ⟨rfl, q1⟩ <;> (refine does_calm (by simp [isCalm, ho]) ?_ q1; simp [calmV, ho, opnd_val, e])

theorem eqs_def {ks : List Nat} {a b : List DV} : eqs ks a b = eqs ks a b := rfl

theorem trBD_flat {ty : TypeId} {ks : List Nat} (h : trBD P ty = .flat ks) : flatK P 8 ty = some ks ∧ (∃ m, tinfo P ty = some (true, m)) ∧ P.eqGuardType P.depth ty = false := by
  unfold trBD at h
  split at h <;> try (cases h; done)
  split at h
  · rename_i h1 h2 h3; cases h; exact ⟨h1, ⟨_, h2⟩, h3⟩
  · cases h
theorem trBD_bool {ty : TypeId} (h : trBD P ty = .bool) : P.underlying ty = some .bool := by
  unfold trBD at h
  split at h <;> try (cases h; done)
  · assumption
  · split at h <;> cases h
theorem isNil_of {u : TypeDesc} {d : BD} (hd : (∃ e, u = .pointer e) ∧ d = .ptr ∨ (∃ k e, u = .map k e) ∧ d = .map ∨ (∃ x y z, u = .func x y z) ∧ d = .func) {v : DV} {p : Bool} (h : isNilC d v = some p) : isNil u v = some p := by
  unfold isNilC at h
  split at h <;> (first | cases h | skip) <;> rcases hd with ⟨⟨e, rfl⟩, hd⟩ | ⟨⟨k, e, rfl⟩, hd⟩ | ⟨⟨x, y, z, rfl⟩, hd⟩ <;> first | (cases hd; done) | rfl | (cases z <;> rfl)
theorem trBD_nil {ty : TypeId} {d : BD} (h : trBD P ty = d) (hd : d = .ptr ∨ d = .map ∨ d = .func) :
    ∃ u, P.underlying ty = some u ∧ ((∃ e, u = .pointer e) ∧ d = .ptr ∨ (∃ k e, u = .map k e) ∧ d = .map ∨ (∃ x y z, u = .func x y z) ∧ d = .func) := by
  unfold trBD at h
  split at h
  case h_4 => split at h <;> (subst h; simp at hd)
  case h_5 => subst h; exact ⟨_, by assumption, .inl ⟨⟨_, rfl⟩, rfl⟩⟩
  case h_6 => subst h; exact ⟨_, by assumption, .inr (.inl ⟨⟨_, _, rfl⟩, rfl⟩)⟩
  case h_7 => subst h; exact ⟨_, by assumption, .inr (.inr ⟨⟨_, _, _, rfl⟩, rfl⟩)⟩
  all_goals (subst h; simp at hd)
theorem binD_nil {op : BinOp} {ty : TypeId} {x y : Operand} {u : TypeDesc} {a b : DV} {p q : Bool} {r : DV} (hu : P.underlying ty = some u) (h1 : isNil u a = some p) (h2 : isNil u b = some q) (h4 : nilC op (some p) (some q) = some r) : binD P op ty x y a b = some r := by
  unfold binD
  split
  · simp [isNil] at h1
  · simp [isNil] at h1
  · simp [isNil] at h1
  · simp [isNil] at h1
  · simp only [hu, h1, h2]
    cases op <;> first | exact h4 | cases h4

theorem does_bin {op : BinOp} {ty yt : TypeId} {x y : Operand} (ho : o.op = .binOp op ty x y yt) (H : WO P C n o.dst (trO P C f n o) a h K) : Does P C f n o a h K := by
  simp only [trO, ho, WO] at H
  obtain ⟨r, e, q⟩ := H.elim
  refine does_calm (by simp [isCalm, ho]) ?_ q
  simp only [calmV, ho, opnd_val]
  generalize (trA P n ty x).val a = u at e ⊢
  generalize (trA P n yt y).val a = v at e ⊢
  generalize hd : trBD P ty = d at e
  unfold binC at e
  split at e
  · split at e
    · split at e
      · rename_i hk; subst hk; simp only [binD]; exact intC_sound e
      · cases e
    · simp only [binD]; exact strC_sound e
    · cases e
  · split at e
    · have := trBD_bool hd
      split at e <;> (first | cases e | skip)
      · simp only [binD, this]
      · simp only [binD, this]
    · cases e
  · split at e
    · obtain ⟨h1, ⟨m, h2⟩, h3⟩ := trBD_flat hd
      simp only [binD, h1, h2, h3]
      split at e
      · rename_i h4; rw [h4]; exact e
      · rename_i h4; rw [h4]; exact e
      · cases e
    · cases e
  · cases e
  · rename_i h1 h2 h3 h4
    have hd' : d = .ptr ∨ d = .map ∨ d = .func := by cases d <;> simp_all
    obtain ⟨t, ht, hn⟩ := trBD_nil hd hd'
    have e0 := e
    unfold nilC at e
    split at e <;> try (cases e; done)
    all_goals
      rename_i p q e1 e2
      exact binD_nil ht (isNil_of hn e1) (isNil_of hn e2) (by rw [e1, e2] at e0; exact e0)

theorem does_un {op : UnOp} {ty : TypeId} {x : Operand} (ho : o.op = .unOp op ty x) (H : WO P C n o.dst (trO P C f n o) a h K) : Does P C f n o a h K := by
  simp only [trO, ho, WO] at H
  obtain ⟨v, e, q⟩ := H.elim
  obtain ⟨r, e2, q⟩ := q.elim
  refine does_calm (by simp [isCalm, ho]) ?_ q
  simp only [calmV, ho, opnd_val, e]
  unfold unC at e2
  split at e2 <;> cases e2 <;> rfl

theorem does_convert {s d : TypeId} {x : Operand} (ho : o.op = .convert s d x) (H : WO P C n o.dst (trO P C f n o) a h K) : Does P C f n o a h K := by
  simp only [trO, ho] at H
  split at H
  · rename_i h1 h2
    obtain ⟨k, m, e, q⟩ := IntP.elim H
    refine does_calm (by simp [isCalm, ho]) ?_ q
    simp only [calmV, ho, opnd_val, h1, h2, e]
    rfl
  · rename_i h1 h2
    obtain ⟨m, e, q⟩ := StrP.elim H
    refine does_calm (by simp [isCalm, ho]) ?_ q
    simp only [calmV, ho, opnd_val, h1, h2, e]
  · rename_i e0 h1 h2
    split at H
    · rename_i he
      simp only [WO] at H
      obtain ⟨own, es, l, e, q⟩ := ListP.elim H
      obtain ⟨xs, e2, q⟩ := q.elim
      refine does_calm (by simp [isCalm, ho]) ?_ q
      simp only [calmV, ho, opnd_val, h1, h2, e, he, e2]
    · exact H.elim
  · exact H.elim

theorem does_extract {x : Operand} {i : Nat} (ho : o.op = .extract x i) (H : WO P C n o.dst (trO P C f n o) a h K) : Does P C f n o a h K := by
  simp only [trO, ho] at H
  split at H
  · rename_i hx
    split at H
    · rename_i hi
      subst hi
      obtain ⟨v, a', e, q⟩ := TakeP.elim H
      unfold HeadP at q
      split at q
      · exact ⟨_, a', h, by simp only [opD, ho, if_pos hx, e, headD, if_true], q⟩
      · exact q.elim
    · exact H.elim
  · rename_i hx
    simp only [WO] at H
    obtain ⟨cs, e, q⟩ := H.elim
    obtain ⟨r, e2, q⟩ := q.elim
    refine does_calm (by simp [isCalm, ho, hx]) ?_ q
    simp only [calmV, ho, opnd_val, e, e2, Option.map_some]

theorem does_field {ty : TypeId} {x : Operand} {i : Nat} (ho : o.op = .field ty x i) (H : WO P C n o.dst (trO P C f n o) a h K) : Does P C f n o a h K := by
  simp only [trO, ho] at H
  split at H
  · rename_i ft off h1
    split at H
    · rename_i m k h2
      obtain ⟨cs, e, q⟩ := AggP.elim H
      obtain ⟨r, e2, q⟩ := q.elim
      refine does_calm (by simp [isCalm, ho]) ?_ q
      simp only [calmV, ho, opnd_val, e, h1, ofC_of h2, e2]
    · exact H.elim
  · exact H.elim

theorem does_fieldAddr {ty : TypeId} {x : Operand} {i : Nat} (ho : o.op = .fieldAddr ty x i) (H : WO P C n o.dst (trO P C f n o) a h K) : Does P C f n o a h K := by
  simp only [trO, ho] at H
  split at H
  · rename_i ft off h1
    simp only [WO] at H
    obtain ⟨r, e, q⟩ := MovP.elim H
    refine does_calm (by simp [isCalm, ho]) ?_ q
    simp only [calmV, ho, opnd_val, h1, e]
  · exact H.elim

theorem does_nilCheck {x : Operand} (ho : o.op = .nilCheck x) (H : WO P C n o.dst (trO P C f n o) a h K) : Does P C f n o a h K := by
  simp only [trO, ho, WO] at H
  obtain ⟨r, e, q⟩ := MovP.elim H
  refine does_calm (by simp [isCalm, ho]) ?_ q
  simp only [calmV, ho, opnd_val, e]

theorem StoreP.elim {p : DV} {new : List DV} {N : AF → DHeap → Prop} (H : StoreP n a h p new N) : ∃ a' h', storeD (toT n a) h p new = some (toT n a', h') ∧ N a' h' := by
  obtain ⟨hc, H⟩ := H
  split at H
  · obtain ⟨cs, e, hl, q⟩ := H.elim
    exact ⟨_, _, by simp only [storeD, hc, if_true, e, if_pos hl, toT_put], q⟩
  · obtain ⟨cs, e, hl, q⟩ := H.elim
    exact ⟨_, _, by simp only [storeD, hc, if_true, e, if_pos hl], q⟩
  · obtain ⟨cs, e, hl, q⟩ := H.elim
    exact ⟨_, _, by simp only [storeD, hc, if_true, e, if_pos hl], q⟩
  · exact H.elim

theorem does_load {ty : TypeId} {x : Operand} (ho : o.op = .load ty x) (H : WO P C n o.dst (trO P C f n o) a h K) : Does P C f n o a h K := by
  simp only [trO, ho] at H
  split at H
  · rename_i m k h1
    split at H
    · rename_i hr
      split at H
      · exact H.elim
      rename_i hx
      have hx1 : xfers C f o.dst = false := by simpa using fun e => hx (.inl e)
      have hm : m = false := by simpa using fun e => hx (.inr e)
      subst hm
      simp only [WO] at H
      obtain ⟨cs, e, q⟩ := CellsP.elim H
      have q : OptP (ofC false 1 cs) fun v => v.isBox = false ∧ K v a h := by
        cases hoh : ownHead cs <;> simpa only [LdxK, hoh] using q
      obtain ⟨v, e2, hb, q⟩ := q.elim
      refine ⟨v, a, h, ?_, q⟩
      have e3 : ofCellsR P true ty cs = some v := by
        unfold ofCellsR
        unfold tinfK at h1
        rw [if_pos rfl]
        split at h1
        · cases h1
        · rename_i q' hq'
          rw [hq']
          cases cs with
          | nil => cases e2
          | cons c cs =>
            simp only [ofC, Option.some.injEq] at e2 ⊢
            rw [← e2]
            unfold unraw
            split
            · rename_i e4; rw [if_neg (by omega)]; exact e4
            · rfl
        · cases h1
      simp only [opD, ho, opnd_val, e, hx1, hr, e3, Bool.false_eq_true, false_and, if_false, Bool.false_or, true_and, hb]
    rename_i hr
    have hr : raws C f o.dst = false := by simpa using hr
    split at H
    · rename_i hx
      simp only [WO] at H
      obtain ⟨cs, e, q⟩ := CellsP.elim H
      unfold LdxK at q
      have hone : oneCellTy P ty = !m := tinfK_one h1
      split at q
      · rename_i es l h2 h3
        obtain ⟨a', h', e2, q⟩ := StoreP.elim q
        refine ⟨_, a', h', ?_, q⟩
        have : oneCellTy P ty = true := by rw [hone]; exact h2
        simp only [opD, ho, opnd_val, e, hx, this, h3, Option.isSome_some, and_self, if_true, e2]
      · rename_i h2
        obtain ⟨v, e2, hb, q⟩ := q.elim
        refine ⟨v, a, h, ?_, q⟩
        have : ¬ (xfers C f o.dst = true ∧ oneCellTy P ty = true ∧ (ownHead cs).isSome = true) := by
          rintro ⟨_, h3, h4⟩
          rw [hone] at h3
          obtain ⟨y, hy⟩ := Option.isSome_iff_exists.1 h4
          exact h2 y.1 y.2 h3 (by rw [hy])
        simp only [opD, ho, opnd_val, e, hr, ofCellsR, Bool.false_eq_true, if_false, ofC_of h1, e2]
        rw [if_neg this]
        simp [hb]
    · rename_i hx
      simp only [WO] at H
      obtain ⟨cs, e, q⟩ := CellsP.elim H
      obtain ⟨v, e2, q⟩ := q.elim
      refine does_calm (by simp [isCalm, ho, hx, hr]) ?_ q
      simp only [calmV, ho, opnd_val, e, ofC_of h1, e2]
  · exact H.elim

theorem does_indexAddr {ty : TypeId} {x i : Operand} (ho : o.op = .indexAddr ty x i) (H : WO P C n o.dst (trO P C f n o) a h K) : Does P C f n o a h K := by
  simp only [trO, ho] at H
  split at H
  · rename_i e hu
    split at H
    · rename_i hs
      obtain ⟨k, j, e1, q⟩ := IntP.elim H
      rcases LvP.elim q with ⟨own, es, l, e2, he, hj, c, e3, q⟩ | ⟨r, es, off, m, e2, he, hj, hm, q⟩ | ⟨_, q⟩
      · refine does_calm (by simp [isCalm, ho]) ?_ q
        simp only [calmV, ho, opnd_val, e1, intD, indexAddrD, hu, e2, if_pos (And.intro hj (And.intro he hs)), e3]
      · refine does_calm (by simp [isCalm, ho]) ?_ q
        subst he
        simp only [calmV, ho, opnd_val, e1, intD, indexAddrD, hu, e2]
        rw [if_pos ⟨hj, hm, trivial, hs⟩]
      · exact q.elim
    · exact H.elim
  · rename_i m e hu
    split at H
    · rename_i hs
      obtain ⟨k, j, e1, hj, hm, q⟩ := IntP.elim H
      obtain ⟨r, e2, q⟩ := q.elim
      refine does_calm (by simp [isCalm, ho]) ?_ q
      simp only [calmV, ho, opnd_val, e1, intD, indexAddrD, hu, if_pos (And.intro hj (And.intro hm hs)), e2]
    · exact H.elim
  · exact H.elim

theorem does_index {ty : TypeId} {x i : Operand} (ho : o.op = .index ty x i) (H : WO P C n o.dst (trO P C f n o) a h K) : Does P C f n o a h K := by
  simp only [trO, ho] at H
  split at H
  · rename_i hu
    obtain ⟨k, j, e1, q⟩ := IntP.elim H
    obtain ⟨s, e2, hj, q⟩ := StrP.elim q
    obtain ⟨b, e3, q⟩ := q.elim
    refine does_calm (by simp [isCalm, ho]) ?_ q
    simp only [calmV, ho, opnd_val, e1, e2, intD, hu, if_pos hj, e3, Option.map_some]
  · rename_i m e hu
    split at H
    · rename_i ag k ht
      split at H
      · rename_i hs
        obtain ⟨k, j, e1, q⟩ := IntP.elim H
        obtain ⟨cs, e2, hj, hm, q⟩ := AggP.elim q
        obtain ⟨v, e3, q⟩ := q.elim
        refine does_calm (by simp [isCalm, ho]) ?_ q
        simp only [calmV, ho, opnd_val, e1, e2, intD, hu, if_pos (And.intro hj (And.intro hm hs)), ofC_of ht, e3]
      · exact H.elim
    · exact H.elim
  · exact H.elim

theorem does_slice {ty : TypeId} {x : Operand} {lo hi mx : Option Operand} (ho : o.op = .slice ty x lo hi mx) (H : WO P C n o.dst (trO P C f n o) a h K) : Does P C f n o a h K := by
  simp only [trO, ho] at H
  split at H
  · rename_i hu
    obtain ⟨s, e, q⟩ := StrP.elim H
    obtain ⟨j, e1, q⟩ := BndP.elim q
    obtain ⟨i, e2, q⟩ := BndP.elim q
    refine does_calm (by simp [isCalm, ho]) ?_ q
    simp only [calmV, ho, opnd_val P n a ty, e, sliceD, hu, Option.map_none, e1, e2, Option.map_some, onlyIf]
  · rename_i e0 hu
    split at H
    · rename_i hs
      rcases LvP.elim H with ⟨own, es, l, e, he, q⟩ | ⟨r, es, off, m, e, he, q⟩ | ⟨_, q⟩
      · obtain ⟨j, e1, q⟩ := BndP.elim q
        obtain ⟨i, e2, q⟩ := BndP.elim q
        refine does_calm (by simp [isCalm, ho]) ?_ q
        subst he
        simp only [calmV, ho, opnd_val P n a ty, e, sliceD, hu, Option.map_none, e1, e2, true_and, if_pos hs, Option.map_some, onlyIf, Option.isSome_none, Bool.and_false]
      · obtain ⟨j, e1, q⟩ := BndP.elim q
        obtain ⟨i, e2, q⟩ := BndP.elim q
        refine does_calm (by simp [isCalm, ho]) ?_ q
        subst he
        simp only [calmV, ho, opnd_val P n a ty, e, sliceD, hu, Option.map_none, e1, e2, true_and, if_pos hs, Option.map_some, onlyIf]
      · exact q.elim
    · exact H.elim
  · rename_i e0 m hu
    split at H
    · rename_i j
      split at H
      · rename_i hs
        rcases LvP.elim H with ⟨own, es, l, e, he, q⟩ | ⟨r, es, off, q0, e, he, q⟩ | ⟨_, q⟩
        · obtain ⟨m', e1, q⟩ := BndP.elim (P := P) (n := n) (ty := o.type) (x := some m) q
          obtain ⟨j', e2, q⟩ := BndP.elim (P := P) (n := n) (ty := o.type) (x := some j) q
          obtain ⟨i, e3, q⟩ := BndP.elim q
          refine does_calm (by simp [isCalm, ho]) ?_ q
          simp only [Option.map_some] at e1 e2
          subst he
          simp only [calmV, ho, opnd_val P n a ty, e, sliceD, hu, Option.map_some, e1, e2, e3, true_and, if_pos hs, onlyIf, Option.isSome_some, Bool.and_true]
        · obtain ⟨m', e1, q⟩ := BndP.elim (P := P) (n := n) (ty := o.type) (x := some m) q
          obtain ⟨j', e2, q⟩ := BndP.elim (P := P) (n := n) (ty := o.type) (x := some j) q
          obtain ⟨i, e3, q⟩ := BndP.elim q
          simp only [Option.map_some] at e1 e2
          subst he
          rcases q.elim with ⟨hmi, q⟩ | ⟨hmi, q⟩
          · refine does_calm (by simp [isCalm, ho]) ?_ q
            simp only [calmV, ho, opnd_val P n a ty, e, sliceD, hu, Option.map_some, e1, e2, e3, true_and, if_pos hs, if_pos (of_decide_eq_true hmi), onlyIf, Option.isSome_some, Bool.and_true]
          · refine does_calm (by simp [isCalm, ho]) ?_ q
            simp only [calmV, ho, opnd_val P n a ty, e, sliceD, hu, Option.map_some, e1, e2, e3, true_and, if_pos hs, if_neg (of_decide_eq_false hmi), onlyIf]
        · exact q.elim
      · exact H.elim
    · exact H.elim
  · exact H.elim
end
end Go.DS

/-
  The other operations.
-/
namespace Go.DS
open Go
set_option linter.unusedVariables false

section
variable {P : Program} {C : Cfg} {f : FuncId} {n : Nat} {o : Oper} {a : AF} {h : DHeap} {K : DV → AF → DHeap → Prop}

theorem BuildP.elim {offs : Nat → Option (Nat × Nat × TypeId)} {offs' : Nat → Option (Nat × Nat)} {tyOf : Nat → TypeId} (ho : ∀ i off k ty, offs i = some (off, k, ty) → offs' i = some (off, k) ∧ tyOf i = ty) {N : List DV → Prop} :
    ∀ (ps : List (Nat × Operand)) (r : List (Nat × Nat × A)) (cs : List DV), trParts P n offs ps = some r → BuildP a r cs N →
      ∃ cs', buildD offs' (ps.map fun p => (p.1, opnd P (tyOf p.1) (toT n a) p.2)) cs = some cs' ∧ N cs'
  | [], r, cs, hr, H => by
    simp only [trParts, Option.some.injEq] at hr
    subst hr
    exact ⟨cs, rfl, H⟩
  | p :: ps, r, cs, hr, H => by
    simp only [trParts] at hr
    split at hr
    · rename_i off k ty r' h1 h2
      cases hr
      obtain ⟨q1, q2, q3, q4⟩ := H
      obtain ⟨e1, e2⟩ := ho _ _ _ _ h1
      obtain ⟨cs', e, q⟩ := BuildP.elim ho ps r' _ h2 q4
      refine ⟨cs', ?_, q⟩
      simp only [List.map_cons, buildD, e1, e2, opnd_val]
      rw [if_pos ⟨q1, q2, q3⟩]
      simpa only [opnd_val] using e
    · cases hr

theorem does_build {ty : TypeId} {ps : Array (Nat × Operand)} (ho : o.op = .build ty ps) (H : WO P C n o.dst (trO P C f n o) a h K) : Does P C f n o a h K := by
  simp only [trO, ho] at H
  split at H
  · rename_i hraw
    split at H
    · rename_i z fs hz hu
      split at H
      · exact H.elim
      · rename_i hall
        split at H
        · rename_i r hr
          simp only [WO] at H
          obtain ⟨cs, e, q⟩ := BuildP.elim (offs' := fun i => (fs[i]?).map fun f => (f.offset, sz P f.type)) (tyOf := fty fs) (fun i off k ty hi => by
            unfold fty
            cases hf : fs[i]? with
            | none => simp [hf] at hi
            | some fl => simp [hf] at hi ⊢; obtain ⟨rfl, rfl, rfl⟩ := hi; simp) _ _ _ hr H
          refine ⟨.agg cs, a, h, ?_, q⟩
          have hb : buildR P (rawO C f o.dst) (toT n a) ty ps = some (.agg cs) := by
            simp only [buildR, hz, hu, if_neg hall]
            exact congrArg (Option.map DV.agg) e
          simp only [opD, ho, hraw, if_true, hb]
        · exact H.elim
    · exact H.elim
  rename_i hraw
  have hraw : raws C f o.dst = false := by simpa using hraw
  split at H
  · rename_i z fs hz hu
    split at H
    · exact H.elim
    · rename_i hall
      split at H
      · rename_i r hr
        simp only [WO] at H
        obtain ⟨cs, e, q⟩ := BuildP.elim (offs' := fun i => (fs[i]?).map fun f => (f.offset, sz P f.type)) (tyOf := fun i => match fs[i]? with | some f => f.type | none => 0) (fun i off k ty hi => by
          cases hf : fs[i]? with
          | none => simp [hf] at hi
          | some fl => simp [hf] at hi ⊢; obtain ⟨rfl, rfl, rfl⟩ := hi; simp) _ _ _ hr H
        refine does_calm (by simp [isCalm, ho, hraw]) ?_ q
        simp only [calmV, ho, hz, hu, if_neg hall]
        exact congrArg (Option.map DV.agg) e
      · exact H.elim
  · rename_i z m e0 hz hu
    split at H
    · exact H.elim
    · rename_i hall
      split at H
      · rename_i r hr
        simp only [WO] at H
        obtain ⟨cs, e, q⟩ := BuildP.elim (offs' := fun i => some (i * sz P e0, sz P e0)) (tyOf := fun _ => e0) (fun i off k ty hi => by
          simp at hi ⊢; obtain ⟨rfl, rfl, rfl⟩ := hi; simp) _ _ _ hr H
        refine does_calm (by simp [isCalm, ho, hraw]) ?_ q
        simp only [calmV, ho, hz, hu, if_neg hall]
        exact congrArg (Option.map DV.agg) e
      · exact H.elim
  · exact H.elim

theorem RowP.elim {es : Nat} {ty : TypeId} {N : List (List DV) → Prop} : ∀ (ps : List (Nat × Operand)) (N : List (List DV) → Prop), RowP es a (ps.map fun p => trA P n ty p.2) N →
    (ps.map fun p => cellsD (opnd P ty (toT n a) p.2).shed).all (fun r => r.length == es && r.all DV.cell) = true ∧ N (ps.map fun p => cellsD (opnd P ty (toT n a) p.2).shed)
  | [], N, H => ⟨rfl, H⟩
  | p :: ps, N, H => by
    obtain ⟨q1, q2, q3⟩ := H
    obtain ⟨e1, e2⟩ := RowP.elim (N := N) ps _ q3
    refine ⟨?_, ?_⟩
    · simp only [opnd_val] at e1
      simp only [List.map_cons, List.all_cons, e1, opnd_val, q1, q2, beq_self_eq_true, Bool.and_self]
    · simpa only [List.map_cons, opnd_val] using e2

theorem does_buildSlice {ty : TypeId} {k : Nat} {ps : Array (Nat × Operand)} (ho : o.op = .buildSlice ty k ps) (H : WO P C n o.dst (trO P C f n o) a h K) : Does P C f n o a h K := by
  simp only [trO, ho] at H
  split at H
  · rename_i e0 he
    split at H
    · rename_i hs
      split at H
      · rename_i hr
        simp only [WO] at H
        obtain ⟨e1, q⟩ := RowP.elim (N := fun _ => True) _ _ H
        refine ⟨_, a, _, ?_, q⟩
        simp only [opD, ho, hr, if_true, buildV, he, if_pos hs]
        rw [if_pos e1]
        have hlen : ps.toList.length = k := by have := congrArg List.length hs.1; simpa using this
        simp only [List.length_map, hlen]
      rename_i hr
      simp only [WO] at H
      obtain ⟨e1, q⟩ := RowP.elim (N := fun _ => True) _ _ H
      refine does_calm (by simp [isCalm, ho, hr]) ?_ q
      simp only [calmV, ho, he, if_pos hs]
      rw [if_pos e1]
    · exact H.elim
  · exact H.elim

theorem does_makeInterface {ty : TypeId} {x : Operand} (ho : o.op = .makeInterface ty x) (H : WO P C n o.dst (trO P C f n o) a h K) : Does P C f n o a h K := by
  simp only [trO, ho] at H
  split at H
  · exact H.elim
  · exact H.elim
  · rename_i hu hu'
    simp only [WO] at H
    refine does_calm (by simp [isCalm, ho]) ?_ H.2
    simp only [calmV, ho, opnd_val]
    rw [if_pos H.1]

theorem MapAt.elim {v : DV} {N : List (DV × DV) → Prop} (H : MapAt h v N) : ∃ es, mapAt h v = some es ∧ N es := by
  unfold MapAt at H
  split at H
  · exact ⟨_, rfl, H⟩
  · obtain ⟨es, e, q⟩ := H.elim
    exact ⟨es, by simp only [mapAt, e], q⟩
  · exact H.elim

theorem trKey_some {kt : TypeId} {ks : List Nat} {ag : Bool} {kn : Nat} (h : trKey P kt = some (ks, ag, kn)) : flatK P 8 kt = some ks ∧ tinfo P kt = some (ag, kn) := by
  unfold trKey at h
  split at h
  · cases h; exact ⟨by assumption, by assumption⟩
  · cases h
theorem keyC_ok {kt : TypeId} {ag : Bool} {kn : Nat} {v : DV} (ht : tinfo P kt = some (ag, kn)) (h : keyC ag kn v = true) : keyOK P kt v = true := by
  unfold keyC at h
  unfold keyOK
  rw [ht]
  split at h <;> first | exact h | rfl | cases h

theorem does_lookup {ty : TypeId} {m k : Operand} {ok : Bool} (ho : o.op = .lookup ty m k ok) (H : WO P C n o.dst (trO P C f n o) a h K) : Does P C f n o a h K := by
  simp only [trO, ho] at H
  split at H
  · rename_i kt et hu
    split at H
    · rename_i ks ag kn z hk hz
      obtain ⟨h1, h2⟩ := trKey_some hk
      simp only [WO] at H
      obtain ⟨q1, q2⟩ := H
      obtain ⟨es, e1, q⟩ := q2.elim
      obtain ⟨r, e2, q⟩ := q.elim
      have q1' := keyC_ok h2 q1
      cases ok with
      | true =>
        refine does_calm (by simp [isCalm, ho]) ?_ q
        simp only [calmV, ho, hu, h1, opnd_val, q1', e1, hz, e2, if_true]
      | false =>
        refine does_calm (by simp [isCalm, ho]) ?_ q
        simp only [calmV, ho, hu, h1, opnd_val, q1', e1, hz, e2, Bool.false_eq_true, if_false]
    · exact H.elim
  · exact H.elim

theorem putD_eq (t : List DV) (s : Nat) (v : DV) : putD t (some s) v = t.set s v := rfl

theorem kill_eq (s : Nat) (a : AF) : killPath s (toT n a) = toT n (a.map fun e => (e.1, kill s e.2)) := by
  have hl : ∀ (i : Nat) (a : AF), look i (a.map fun e => (e.1, kill s e.2)) = kill s (look i a) := by
    intro i a
    induction a with
    | nil => rfl
    | cons e a ih =>
      simp only [List.map_cons, look]
      split
      · rfl
      · exact ih
  unfold killPath toT
  rw [List.map_map]
  apply List.map_congr_left
  intro i _
  simp only [Function.comp, hl]
  rfl

theorem NewP.elim {s : Nat} {cs : List DV} (hd : o.dst = some s) (H : NewP (C.esc f s) o.dst a h cs K) : ∃ v a' h', newVar C f o.dst (toT n a) h cs = some (putD (toT n a') o.dst v, h') ∧ K v a' h' := by
  obtain ⟨hc, _, H⟩ := H
  rw [hd] at H ⊢
  split at H
  · rename_i he
    exact ⟨_, _, _, by simp only [newVar, hc, if_true, he, putD], H⟩
  · rename_i he
    refine ⟨_, _, _, ?_, H⟩
    simp only [newVar, hc, if_true, he, Bool.false_eq_true, if_false, putD, kill_eq, Option.getD_some]

theorem does_box {ty : TypeId} {x : Operand} (ho : o.op = .box ty x) (H : WO P C n o.dst (trO P C f n o) a h K) : Does P C f n o a h K := by
  simp only [trO, ho] at H
  split at H
  · rename_i s hs
    simp only [WO] at H
    obtain ⟨v, a', h', e, q⟩ := NewP.elim (n := n) hs H
    exact ⟨v, a', h', by simp only [opD, ho, opnd_val, e], q⟩
  · exact H.elim

theorem does_alloc {ty : TypeId} (ho : o.op = .alloc ty) (H : WO P C n o.dst (trO P C f n o) a h K) : Does P C f n o a h K := by
  simp only [trO, ho] at H
  split at H
  · rename_i hr
    split at H
    · rename_i s z hs hz
      have hr2 := hr
      simp only [Bool.and_eq_true] at hr2
      have he : C.esc f s = true := by have := hr2.2; rw [hs] at this; exact this
      simp only [WO] at H
      rw [← he] at H
      obtain ⟨v, a', h', e, q⟩ := NewP.elim (n := n) hs H
      refine ⟨v, a', h', ?_, q⟩
      simp only [opD, ho, hr, if_true, hz]
      exact e
    · exact H.elim
  rename_i hr
  split at H
  · rename_i s z hs hz
    split at H
    · rename_i hr2
      simp only [WO] at H
      obtain ⟨v, a', h', e, q⟩ := NewP.elim (n := n) hs H
      exact ⟨v, a', h', by simp only [opD, ho, if_neg hr, hz, zcells, if_pos hr2]; exact e, q⟩
    · rename_i hr2
      simp only [WO] at H
      obtain ⟨v, a', h', e, q⟩ := NewP.elim (n := n) hs H
      exact ⟨v, a', h', by simp only [opD, ho, if_neg hr, hz, zcells, if_neg hr2]; exact e, q⟩
  · exact H.elim

theorem does_makeSlice {ty : TypeId} {l c : Operand} (ho : o.op = .makeSlice ty l c) (H : WO P C n o.dst (trO P C f n o) a h K) : Does P C f n o a h K := by
  simp only [trO, ho] at H
  split at H
  · rename_i e0 he
    split at H
    · rename_i z i hz hi
      split at H
      · rename_i hs
        simp only [WO] at H
        obtain ⟨_, q, e1, H⟩ := IntP.elim H
        obtain ⟨_, m, e2, H⟩ := IntP.elim H
        obtain ⟨rfl, h0, hb, H⟩ := H
        refine ⟨_, a, _, ?_, H⟩
        simp only [opD, ho, makeV, he, hz, hi, opnd_val, e1, e2, intD]
        rw [if_pos ⟨hs.1, hs.2.1, trivial, h0, hb, hs.2.2.1, hs.2.2.2⟩]
      · exact H.elim
    · exact H.elim
  · exact H.elim

theorem does_store {ty : TypeId} {x p : Operand} (ho : o.op = .store ty p x) (H : WO P C n o.dst (trO P C f n o) a h K) : Does P C f n o a h K := by
  simp only [trO, ho] at H
  split at H
  · rename_i b k ht
    simp only [WO] at H
    obtain ⟨d, a', e, hl, q⟩ := TakeP.elim H
    obtain ⟨a'', h', e2, q⟩ := StoreP.elim q
    exact ⟨_, a'', h', by simp only [opD, ho, e, ht, if_pos hl, opnd_val, e2], q⟩
  · exact H.elim

theorem does_makeMap {ty : TypeId} {r : Option Operand} (ho : o.op = .makeMap ty r) (H : WO P C n o.dst (trO P C f n o) a h K) : Does P C f n o a h K := by
  cases r with
  | some r => simp only [trO, ho] at H; exact H.elim
  | none =>
    simp only [trO, ho] at H
    split at H
    · rename_i hu
      exact ⟨_, a, _, by simp only [opD, ho, hu], H⟩
    · exact H.elim

theorem MpP.elim {v : DV} {N : Nat → List (DV × DV) → Prop} (H : MpP h v N) : ∃ i es, v = .mp i ∧ h[i]? = some (.map es) ∧ N i es := by
  unfold MpP at H
  split at H
  · obtain ⟨es, e, q⟩ := H.elim
    exact ⟨_, es, rfl, e, q⟩
  · exact H.elim

theorem does_mup {ty : TypeId} {m k v : Operand} (ho : o.op = .mapUpdate ty m k v ∨ o.op = .insert ty m k v) (H : WO P C n o.dst (trO P C f n o) a h K) : Does P C f n o a h K := by
  rcases ho with ho | ho <;>
  · simp only [trO, ho] at H
    split at H
    · rename_i kt et hu
      split at H
      · rename_i ks ag kn hk
        obtain ⟨h1, h2⟩ := trKey_some hk
        simp only [WO] at H
        obtain ⟨q1, q2, q⟩ := H
        obtain ⟨i, es, e1, e2, q⟩ := q.elim
        obtain ⟨es', e3, q⟩ := q.elim
        have q1' := keyC_ok h2 q1
        exact ⟨_, a, _, by simp only [opD, ho, hu, opnd_val, e1, h1, q1', e2, if_pos q2, e3], q⟩
      · exact H.elim
    · exact H.elim

theorem CapP.elim : ∀ (xs : List Operand) (a : AF) (N : List DV → AF → Prop), CapP n (xs.map (trA P n 0)) a N → ∃ ds a', capture P (toT n a) xs = some (ds, toT n a') ∧ N ds a'
  | [], a, N, H => ⟨[], a, rfl, H⟩
  | x :: xs, a, N, H => by
    cases x with
    | tmp s =>
      by_cases hs : s < n
      · simp only [List.map_cons, trA, if_pos hs, CapP] at H
        obtain ⟨_, H⟩ := H
        unfold CapV at H
        have hg : (toT n a)[s]? = some (look s a) := by rw [toT_get, if_pos hs]
        split at H
        · rename_i cs hl
          obtain ⟨hc, H⟩ := H
          obtain ⟨ds, a', e, q⟩ := CapP.elim xs _ _ H
          refine ⟨_, a', ?_, q⟩
          rw [toT_put] at e
          simp only [capture, hg, hl, hc, if_true, e]
        · rename_i hl
          obtain ⟨hc, H⟩ := H
          obtain ⟨ds, a', e, q⟩ := CapP.elim xs _ _ H
          refine ⟨_, a', ?_, q⟩
          simp only [capture, hg, hc, if_true, e]
      · simp only [List.map_cons, trA, if_neg hs, CapP] at H
    | const v => exact False.elim H
    | global g => exact False.elim H
    | func f => exact False.elim H

theorem does_makeFunc {fn : Fn} {xs ys : Array Operand} (ho : o.op = .makeFunc fn xs ys) (H : WO P C n o.dst (trO P C f n o) a h K) : Does P C f n o a h K := by
  simp only [trO, ho, WO] at H
  obtain ⟨ds, a', e, q⟩ := CapP.elim _ _ _ H
  exact ⟨_, a', h, by simp only [opD, ho, e], q⟩

theorem arg_eq (raw : Bool) (ty : TypeId) (x : Operand) : argD P raw (toT n a) ty x = ((trArg P raw n ty x).val a).shed := by
  unfold argD trArg
  split
  · rfl
  · rw [opnd_val]
theorem args_eq (raw : Bool) : ∀ (xs : List Operand) (tys : List TypeId), argsD P raw (toT n a) xs tys = valsC a (trArgs P raw n xs tys)
  | [], tys => by cases tys <;> rfl
  | x :: xs, [] => by simp only [argsD, trArgs, valsC, List.map_cons, arg_eq]; rw [args_eq raw xs []]; rfl
  | x :: xs, ty :: tys => by simp only [argsD, trArgs, valsC, List.map_cons, arg_eq]; rw [args_eq raw xs tys]; rfl

theorem CallP.elim {o : Option (DV × DHeap)} {N : DV → DHeap → Prop} (H : CallP o N) : ∃ r h', o = some (r, h') ∧ N r h' := by
  unfold CallP at H
  split at H
  · exact ⟨_, _, rfl, H⟩
  · exact H.elim

theorem RowsP.elim {es : Nat} {v : DV} {N : List (List DV) → Prop} {e0 : TypeId} (he : sz P e0 = es) (H : RowsP h es (decide (es = 1)) v N) : ∃ m, rowsD P e0 h v = some m ∧ N m := by
  unfold RowsP at H
  split at H
  · obtain ⟨h1, q⟩ := H
    exact ⟨_, by simp only [rowsD]; rw [if_pos (h1.trans he.symm)], q⟩
  · obtain ⟨h1, q⟩ := H
    exact ⟨_, by simp only [rowsD]; rw [if_pos (he.trans (of_decide_eq_true h1))], q⟩
  · exact ⟨_, rfl, H⟩
  · obtain ⟨h1, q⟩ := H
    obtain ⟨cs, e, hl, q⟩ := q.elim
    exact ⟨_, by simp only [rowsD, e]; rw [if_pos ⟨h1.trans he.symm, hl⟩], q⟩
  · exact H.elim

theorem AppV.elim {v : DV} {X : Prop} {Y : Nat → Nat → Nat → Prop} (H : AppV v X Y) : v = .sc (.slice none 0 0) ∧ X ∨ ∃ j es q, v = .vec j es 0 q ∧ Y j es q := by
  unfold AppV at H
  split at H
  · exact .inl ⟨rfl, H⟩
  · exact .inr ⟨_, _, _, rfl, H⟩
  · exact H.elim

theorem OwnP.elim {v : DV} {N : Nat → List (List DV) → Prop} (H : OwnP v N) : ∃ es l, v = .list true es l ∧ N es l := by
  unfold OwnP at H
  split at H
  · exact ⟨_, _, rfl, H⟩
  · exact H.elim

theorem arr1 {α : Type} {xs : Array α} {x : α} (h : xs.toList = [x]) : xs[0]? = some x ∧ xs.size = 1 := by
  have : xs = #[x] := by rw [← Array.toList_inj]; exact h
  subst this; exact ⟨rfl, rfl⟩
theorem arr2 {α : Type} {xs : Array α} {x y : α} (h : xs.toList = [x, y]) : xs[0]? = some x ∧ xs[1]? = some y ∧ xs.size = 2 := by
  have : xs = #[x, y] := by rw [← Array.toList_inj]; exact h
  subst this; exact ⟨rfl, rfl, rfl⟩
theorem arrh {α : Type} {xs : Array α} {x : α} {l : List α} (h : xs.toList = x :: l) : xs[0]? = some x ∧ xs[1]? = l[0]? := by
  rw [← Array.getElem?_toList, ← Array.getElem?_toList, h]; exact ⟨rfl, rfl⟩

theorem argsD_noraw (r1 r2 : Bool) (t : List DV) : ∀ (xs : List Operand) (tys : List TypeId), xs.any rawNil = false → argsD P r1 t xs tys = argsD P r2 t xs tys
  | [], tys, _ => by cases tys <;> rfl
  | x :: xs, [], h => by
    simp only [List.any_cons, Bool.or_eq_false_iff] at h
    simp only [argsD, argD, h.1, Bool.and_false, Bool.false_eq_true, if_false, argsD_noraw r1 r2 t xs [] h.2]
  | x :: xs, ty :: tys, h => by
    simp only [List.any_cons, Bool.or_eq_false_iff] at h
    simp only [argsD, argD, h.1, Bool.and_false, Bool.false_eq_true, if_false, argsD_noraw r1 r2 t xs tys h.2]
theorem does_call {c : Call} (ho : o.op = .call c) (H : WO P C n o.dst (trO P C f n o) a h K) : Does P C f n o a h K := by
  obtain ⟨callee, args, tys⟩ := c
  simp only [trO, ho, trCall] at H
  split at H
  · rename_i fv
    simp only [WO] at H
    obtain ⟨k, fs, cs, e, q⟩ := H.elim
    obtain ⟨q0, q1, q2, q⟩ := q
    obtain ⟨r, h', e2, q⟩ := q.elim
    refine ⟨r, a, h', ?_, q⟩
    simp only [opD, ho, opnd_val, e]
    have hr : argsD P (C.ext k).isSome (toT n a) args.toList tys.toList = argsD P (rawOf C fv) (toT n a) args.toList tys.toList := by
      by_cases hn : args.toList.any rawNil = true
      · rw [if_pos hn] at q0
        have q0 : (C.ext k).isSome = rawOf C fv := q0
        rw [q0]
      · exact argsD_noraw _ _ _ _ _ (by simpa using hn)
    rw [hr, args_eq, if_pos ⟨q1, q2⟩, e2]
  · skip
    split at H
    · rename_i x ty tl hx ht
      obtain ⟨x1, x2⟩ := arr1 hx
      obtain ⟨t1, _⟩ := arrh ht
      split at H
      · rename_i hu
        obtain ⟨s, e, q⟩ := StrP.elim H
        refine does_calm (by simp [isCalm, ho]) ?_ q
        simp only [calmV, ho, x1, t1, x2, opnd_val, e, lenD, hu]
        rfl
      · rename_i hu
        rcases LvP.elim H with ⟨_, _, s, e, q⟩ | ⟨_, _, _, m, e, q⟩ | ⟨e, q⟩
        · refine does_calm (by simp [isCalm, ho]) ?_ q
          simp only [calmV, ho, x1, t1, x2, opnd_val, e, lenD, hu]
          rfl
        · refine does_calm (by simp [isCalm, ho]) ?_ q
          simp only [calmV, ho, x1, t1, x2, opnd_val, e, lenD, hu]
          rfl
        · refine does_calm (by simp [isCalm, ho]) ?_ q
          simp only [calmV, ho, x1, t1, x2, opnd_val, e, lenD, hu]
          rfl
      · rename_i hu
        simp only [WO] at H
        obtain ⟨es, e, q⟩ := MapAt.elim H
        refine does_calm (by simp [isCalm, ho]) ?_ q
        simp only [calmV, ho, x1, t1, x2, opnd_val]
        unfold mapAt at e
        split at e
        · rename_i hv; cases e; simp only [hv, lenD, hu]; rfl
        · rename_i i hv
          split at e
          · rename_i es' he; cases e; simp only [hv, lenD, hu, he]; rfl
          · cases e
        · cases e
      · exact H.elim
    · exact H.elim
  · skip
    split at H
    · rename_i x y hx
      obtain ⟨x1, x2, x3⟩ := arr2 hx
      obtain ⟨k, i, e, q⟩ := IntP.elim H
      obtain ⟨k2, j, e2, q⟩ := IntP.elim q
      refine does_calm (by simp [isCalm, ho]) ?_ q
      simp only [calmV, ho, x1, x2, x3, opnd_val, e, e2, mmD]
    · exact H.elim
  · skip
    split at H
    · rename_i x y hx
      obtain ⟨x1, x2, x3⟩ := arr2 hx
      obtain ⟨k, i, e, q⟩ := IntP.elim H
      obtain ⟨k2, j, e2, q⟩ := IntP.elim q
      refine does_calm (by simp [isCalm, ho]) ?_ q
      simp only [calmV, ho, x1, x2, x3, opnd_val, e, e2, mmD]
    · exact H.elim
  · skip
    split at H
    · rename_i x y ty ty' tl hx ht
      obtain ⟨x1, x2, x3⟩ := arr2 hx
      obtain ⟨t1, t2⟩ := arrh ht
      split at H
      · exact H.elim
      · exact H.elim
      · exact H.elim
      · rename_i u e0 hni hu he
        split at H
        · rename_i i hi
          split at H
          · rename_i hs
            have t2' : tys[1]? = some ty' := by rw [t2]; rfl
            have hsz : sz P e0 = i.size := by simp [sz, hi]
            split at H
            · rename_i hr
              simp only [WO] at H
              obtain ⟨hd, H⟩ := H
              obtain ⟨s, hd⟩ := Option.isSome_iff_exists.1 hd
              obtain ⟨m, e2, H⟩ := RowsP.elim hsz H
              rcases AppV.elim H with ⟨e1, hb, q⟩ | ⟨j, es, q0, e1, he1, q⟩
              · rcases q.elim with ⟨hm, q⟩ | ⟨hm, q⟩
                · refine ⟨_, a, _, ?_, q⟩
                  simp only [opD, ho, x1, x2, x3, t1, t2', hr, if_true]
                  split
                  · rename_i w hw; rw [hu] at hw; cases hw; exact (hni _ rfl).elim
                  · rename_i hw; rw [hu] at hw; cases hw
                  · simp only [hd, appendV, he, hi, opnd_val, e1, e2, if_pos hs, if_pos hb, if_pos hm, putD]
                · refine ⟨_, a, _, ?_, q⟩
                  simp only [opD, ho, x1, x2, x3, t1, t2', hr, if_true]
                  split
                  · rename_i w hw; rw [hu] at hw; cases hw; exact (hni _ rfl).elim
                  · rename_i hw; rw [hu] at hw; cases hw
                  · simp only [hd, appendV, he, hi, opnd_val, e1, e2, if_pos hs, if_pos hb, hm, Bool.false_eq_true, if_false, putD]
              · obtain ⟨cs, e3, hl, hb, q⟩ := q.elim
                refine ⟨_, a, _, ?_, q⟩
                simp only [opD, ho, x1, x2, x3, t1, t2', hr, if_true]
                split
                · rename_i w hw; rw [hu] at hw; cases hw; exact (hni _ rfl).elim
                · rename_i hw; rw [hu] at hw; cases hw
                · subst he1
                  simp only [hd, appendV, he, hi, opnd_val, e1, e2, if_pos hs, e3, putD]
                  rw [if_pos ⟨trivial, hl, hb⟩]
            rename_i hr
            simp only [WO] at H
            obtain ⟨hd, H⟩ := H
            obtain ⟨s, hd⟩ := Option.isSome_iff_exists.1 hd
            obtain ⟨d, a', e, q⟩ := TakeP.elim H
            obtain ⟨es, l, e1, he1, q2⟩ := q.elim
            subst e1
            obtain ⟨m, e2, hm, q3⟩ := RowsP.elim hsz q2
            refine ⟨_, a', h, ?_, q3⟩
            simp only [opD, ho, x1, x2, x3, t1, t2', if_neg hr]
            split
            · rename_i w hw; rw [hu] at hw; cases hw; exact (hni _ rfl).elim
            · rename_i hw; rw [hu] at hw; cases hw
            · simp only [e, hd, appendD, he, opnd_val, e2, hi]
              rw [if_pos ⟨he1, hs.1, hs.2, hm⟩]
              simp only [putD, he1]
          · exact H.elim
        · exact H.elim
    · exact H.elim
  · skip
    split at H
    · rename_i x y ty tl hx ht
      obtain ⟨x1, x2, x3⟩ := arr2 hx
      obtain ⟨t1, _⟩ := arrh ht
      split at H
      · rename_i kt et hu
        split at H
        · rename_i ks ag kn hk
          obtain ⟨h1, h2⟩ := trKey_some hk
          simp only [WO] at H
          obtain ⟨q1, q⟩ := H
          obtain ⟨i, es, e1, e2, q⟩ := q.elim
          obtain ⟨es', e3, q⟩ := q.elim
          have q1' := keyC_ok h2 q1
          exact ⟨_, a, _, by simp only [opD, ho, x1, x2, x3, t1, hu, opnd_val, e1, h1, q1', e2, e3], q⟩
        · exact H.elim
      · exact H.elim
    · exact H.elim
  · exact H.elim

theorem does (H : WO P C n o.dst (trO P C f n o) a h K) : Does P C f n o a h K := by
  cases ho : o.op with
  | makeSlice ty l c => exact does_makeSlice ho H
  | move x => exact does_move ho H
  | assign x => exact does_assign ho H
  | pick c x y => exact does_pick ho H
  | binOp op ty x y yt => exact does_bin ho H
  | unOp op ty x => exact does_un ho H
  | convert s d x => exact does_convert ho H
  | extract x i => exact does_extract ho H
  | field ty x i => exact does_field ho H
  | fieldAddr ty x i => exact does_fieldAddr ho H
  | load ty x => exact does_load ho H
  | indexAddr ty x i => exact does_indexAddr ho H
  | index ty x i => exact does_index ho H
  | slice ty x lo hi mx => exact does_slice ho H
  | nilCheck x => exact does_nilCheck ho H
  | build ty ps => exact does_build ho H
  | buildSlice ty k ps => exact does_buildSlice ho H
  | makeInterface ty x => exact does_makeInterface ho H
  | lookup ty m k ok => exact does_lookup ho H
  | call c => exact does_call ho H
  | box ty x => exact does_box ho H
  | alloc ty => exact does_alloc ho H
  | store ty p x => exact does_store ho H
  | makeMap ty r => exact does_makeMap ho H
  | mapUpdate ty m k v => exact does_mup (.inl ho) H
  | insert ty m k v => exact does_mup (.inr ho) H
  | makeFunc fn xs ys => exact does_makeFunc ho H
  | _ => simp only [trO, ho] at H; exact H.elim
end
end Go.DS

/-
  Regions, code, functions.
-/
namespace Go.DS
open Go
set_option linter.unusedVariables false

def guardSlot (ops : Array Oper) (g : Option (Nat × Bool)) : Option (Option (Nat × Bool)) := match g with
  | none => some none
  | some (j, w) => match (ops[j]?).bind (·.dst) with
    | some s => some (some (s, w))
    | none => none

def boolTy (P : Program) (ty : TypeId) : Bool := match P.underlying ty with
  | some .bool => true
  | _ => false

def badC : Cop := { dst := none, bl := false, g := none, op := .bad }
def good (P : Program) (C : Cfg) (f : FuncId) (n : Nat) (draw : Option (List Nat × List Nat)) (o : Oper) (g : Option (Nat × Bool)) : Cop where
  dst := o.dst
  bl := boolTy P o.type
  g := g
  op := trO P C f n o
  nw := match draw with | some _ => decide (srt C f o = .new) | none => false
  fs := match draw with | some (_, fs) => decide (srt C f o = .func) && (o.dst.toList).all fs.contains | none => false
  us := match draw with | some _ => tmpsOf o.op.operands.toList | none => []
/-- An operation in its place; draw: in a drawn region. -/
def trCop (P : Program) (C : Cfg) (f : FuncId) (n : Nat) (ops : Array Oper) (draw : Option (List Nat × List Nat)) (o : Oper) : Cop :=
  match guardSlot ops o.guard with
  | none => badC
  | some none => good P C f n draw o none
  | some (some (s, w)) => if s < n then good P C f n draw o (some (s, w)) else badC

def tr (P : Program) (C : Cfg) (f : FuncId) (n : Nat) : Code → Cd
  | .skip => .skip
  | .label _ => .skip
  | .ret => .ret
  | .exit j => .exit j
  | .region id ops false => .reg (ops.toList.map (trCop P C f n ops none)) (C.keep f id) none
  | .region id ops true => match P.follows .mixedOrders, drawOK C f ops with
    | true, some (rs, fs) => if rs.all (fun s => decide (s / 2 < n)) = true then .reg (ops.toList.map (trCop P C f n ops (some (rs, fs)))) (C.keep f id) (some rs) else .bad
    | _, _ => .bad
  | .seq a b => .seq (tr P C f n a) (tr P C f n b)
  | .cond c a b => .ite (trA P n 0 c) (tr P C f n a) (tr P C f n b)
  | .block id c => .block id (tr P C f n c)
  | .scope c => .scope (tr P C f n c)
  | .loop c => .loop (C.keep f (loopKey c)) (tr P C f n c)
  | _ => .bad

section
variable {P : Program} {C : Cfg} {f : FuncId} {n : Nat} {a : AF} {h : DHeap} {ops : Array Oper}

theorem GuP.elim {v : DV} {w : Bool} {X Y : Prop} (H : GuP v w X Y) : (∃ b, v = .sc (.bool b) ∧ ((b == w) = true ∧ X ∨ (b == w) = false ∧ Y)) ∨ (∃ vs, v = .sc (.tuple vs) ∧ Y) := by
  unfold GuP at H
  split at H
  · exact .inl ⟨_, rfl, H.elim⟩
  · exact .inr ⟨_, rfl, H⟩
  · exact H.elim

theorem BlP.elim {v : DV} {N : DV → Prop} (H : BlP v N) : N v := by
  unfold BlP at H
  split at H
  · rename_i b
    rcases H.elim with ⟨rfl, q⟩ | ⟨rfl, q⟩ <;> exact q
  · exact H

theorem PutP.elim {bl : Bool} {dst : Option Nat} {v : DV} {N : AF → Prop} (H : PutP bl dst v a N) : ∃ a', toT n a' = putD (toT n a) dst v ∧ a' = ent dst v ++ a ∧ N a' := by
  cases dst with
  | none => exact ⟨a, rfl, rfl, H⟩
  | some s =>
    cases bl with
    | false => exact ⟨_, toT_put .., rfl, H⟩
    | true => exact ⟨_, toT_put .., rfl, BlP.elim (N := fun v' => N ((s, v') :: a)) H⟩

theorem trCop_cases (draw : Option (List Nat × List Nat)) (o : Oper) : trCop P C f n ops draw o = badC ∨ (guardSlot ops o.guard = some none ∧ trCop P C f n ops draw o = good P C f n draw o none) ∨
    ∃ s w, guardSlot ops o.guard = some (some (s, w)) ∧ s < n ∧ trCop P C f n ops draw o = good P C f n draw o (some (s, w)) := by
  unfold trCop
  split
  · exact .inl rfl
  · exact .inr (.inl ⟨by assumption, rfl⟩)
  · rename_i s w hg
    by_cases hs : s < n
    · rw [if_pos hs]; exact .inr (.inr ⟨s, w, hg, hs, rfl⟩)
    · rw [if_neg hs]; exact .inl rfl

theorem wanted_none {o : Oper} (hg : o.guard = none) {t : List DV} : wantedD ops o t = some true := by simp [wantedD, hg]

theorem guard_of {o : Oper} {s : Nat} {w : Bool} (hg : guardSlot ops o.guard = some (some (s, w))) (hs : s < n) {X Y : Prop} (H : GuP (look s a) w X Y) : (wantedD ops o (toT n a) = some true ∧ X) ∨ (wantedD ops o (toT n a) = some false ∧ Y) := by
  unfold guardSlot at hg
  split at hg
  · simp at hg
  · rename_i j w' hgd
    split at hg
    · rename_i s' hd
      simp only [Option.some.injEq, Prod.mk.injEq] at hg
      obtain ⟨rfl, rfl⟩ := hg
      rcases H.elim with ⟨b, e, h1⟩ | ⟨vs, e, h1⟩
      · rcases h1 with ⟨e1, q⟩ | ⟨e1, q⟩
        · exact .inl ⟨by simp only [wantedD, hgd, hd, toT_get, if_pos hs, e, e1], q⟩
        · exact .inr ⟨by simp only [wantedD, hgd, hd, toT_get, if_pos hs, e, e1], q⟩
      · exact .inr ⟨by simp only [wantedD, hgd, hd, toT_get, if_pos hs, e], h1⟩
    · cases hg

theorem guard_none {o : Oper} (hg : guardSlot ops o.guard = some none) : o.guard = none := by
  unfold guardSlot at hg
  split at hg
  · assumption
  · split at hg <;> simp at hg

theorem wops_n (o : Oper) (os : List Cop) (a : AF) (h : DHeap) (N : AF → DHeap → Prop) : WOps P C n none (good P C f n none o none :: os) a h N =
    WO P C n o.dst (trO P C f n o) a h fun v a' h' => PutP (boolTy P o.type) o.dst v a' fun a'' => WOps P C n none os a'' h' N := rfl
theorem wops_g (o : Oper) (s : Nat) (w : Bool) (os : List Cop) (a : AF) (h : DHeap) (N : AF → DHeap → Prop) : WOps P C n none (good P C f n none o (some (s, w)) :: os) a h N =
    GuP (look s a) w (WO P C n o.dst (trO P C f n o) a h fun v a' h' => PutP (boolTy P o.type) o.dst v a' fun a'' => WOps P C n none os a'' h' N) (PutP false o.dst (.sc undef) a fun a'' => WOps P C n none os a'' h N) := rfl
theorem wops_dn (rs fs : List Nat) (o : Oper) (os : List Cop) (a : AF) (h : DHeap) (N : AF → DHeap → Prop) : WOps P C n (some rs) (good P C f n (some (rs, fs)) o none :: os) a h N =
    (preA n (good P C f n (some (rs, fs)) o none) a = true ∧ WO P C n o.dst (trO P C f n o) a h fun v a' h' => postA n rs (good P C f n (some (rs, fs)) o none) v a (ent o.dst v ++ a') = true ∧ PutP (boolTy P o.type) o.dst v a' fun a'' => WOps P C n (some rs) os a'' h' N) := rfl
theorem wops_dg (rs fs : List Nat) (o : Oper) (s : Nat) (w : Bool) (os : List Cop) (a : AF) (h : DHeap) (N : AF → DHeap → Prop) : WOps P C n (some rs) (good P C f n (some (rs, fs)) o (some (s, w)) :: os) a h N =
    (preA n (good P C f n (some (rs, fs)) o (some (s, w))) a = true ∧ GuP (look s a) w (WO P C n o.dst (trO P C f n o) a h fun v a' h' => postA n rs (good P C f n (some (rs, fs)) o (some (s, w))) v a (ent o.dst v ++ a') = true ∧ PutP (boolTy P o.type) o.dst v a' fun a'' => WOps P C n (some rs) os a'' h' N)
      (PutP false o.dst (.sc undef) a fun a'' => WOps P C n (some rs) os a'' h N)) := rfl

theorem ops_plain : ∀ (l : List Oper) (a : AF) (h : DHeap) (N : AF → DHeap → Prop), WOps P C n none (l.map (trCop P C f n ops none)) a h N →
    ∃ a' h', opsD P C f (lim P C) ops l (toT n a) h = some (toT n a', h') ∧ N a' h'
  | [], a, h, N, H => ⟨a, h, rfl, H⟩
  | o :: l, a, h, N, H => by
    rw [List.map_cons] at H
    rcases trCop_cases (P := P) (C := C) (f := f) (n := n) (ops := ops) none o with hc | ⟨hg, hc⟩ | ⟨s, w, hg, hs, hc⟩ <;> rw [hc] at H
    · exact False.elim H
    · have hgn := guard_none hg
      rw [wops_n] at H
      obtain ⟨v, a1, h1, e, q⟩ := does (o := o) (f := f) H
      obtain ⟨a2, e2, _, q⟩ := q.elim (n := n)
      obtain ⟨a', h', e3, q⟩ := ops_plain l a2 h1 N q
      exact ⟨a', h', by simp only [opsD, wanted_none hgn, e, ← e2, e3], q⟩
    · rw [wops_g] at H
      rcases guard_of hg hs H with ⟨e0, H⟩ | ⟨e0, H⟩
      · obtain ⟨v, a1, h1, e, q⟩ := does (o := o) (f := f) H
        obtain ⟨a2, e2, _, q⟩ := q.elim (n := n)
        obtain ⟨a', h', e3, q⟩ := ops_plain l a2 h1 N q
        exact ⟨a', h', by simp only [opsD, e0, e, ← e2, e3], q⟩
      · obtain ⟨a2, e2, _, q⟩ := H.elim (n := n)
        obtain ⟨a', h', e3, q⟩ := ops_plain l a2 h N q
        exact ⟨a', h', by simp only [opsD, e0, ← e2, e3], q⟩

theorem pre_ok {o : Oper} {c : Cop} {rs fs : List Nat} (hd : c.dst = o.dst) (h1 : c.nw = decide (srt C f o = .new)) (h2 : c.fs = (decide (srt C f o = .func) && (o.dst.toList).all fs.contains)) (h3 : c.us = tmpsOf o.op.operands.toList)
    (H : preA n c a = true) : preX C f fs o (toT n a) = true := by
  unfold preA at H
  simp only [Bool.and_eq_true] at H
  obtain ⟨⟨p1, p2⟩, p3⟩ := H
  rw [hd] at p1 p2
  unfold preX
  simp only [Bool.and_eq_true]
  refine ⟨?_, ?_⟩
  · split at p1
    · rename_i s hds
      simp only [Bool.and_eq_true, decide_eq_true_eq] at p1
      simp only [hds, slotQ, toT_get, if_pos p1.1, p1.2]
    · rename_i hds; simp only [hds]
  · split
    · rename_i hs
      rw [h1, hs] at p2
      simp only [decide_true, if_true] at p2
      split at p2
      · rename_i s hds
        simp only [hds]
        unfold noPath
        rw [List.all_eq_true] at p2 ⊢
        intro x hx
        unfold toT at hx
        obtain ⟨i, _, rfl⟩ := List.mem_map.1 hx
        have : ∀ (b : AF), (∀ e ∈ b, noPathV s e.2 = true) → noPathV s (look i b) = true := by
          intro b
          induction b with
          | nil => intro _; rfl
          | cons e b ih =>
            intro hb
            simp only [look]
            split
            · exact hb e List.mem_cons_self
            · exact ih fun e he => hb e (List.mem_cons_of_mem _ he)
        have := this a p2
        unfold noPathV at this
        split at this
        · rename_i hl; rw [hl]; exact this
        · rename_i hl
          split
          · rename_i h4; exact (hl _ _ h4).elim
          · rfl
      · cases p2
    · rename_i hs
      rw [h2, hs] at p3
      split
      · rename_i h4
        simp only [decide_true, h4, Bool.and_self, if_true, h3] at p3
        rw [List.all_eq_true] at p3 ⊢
        intro s hs
        have := p3 s hs
        simp only [Bool.and_eq_true, decide_eq_true_eq] at this
        simp only [noBoxAt, toT_get, if_pos this.1]
        obtain ⟨_, t2⟩ := this
        cases hl : look s a <;> simp_all
      · rfl
    · rfl

theorem stays_ok {rs : List Nat} (hrs : rs.all (fun s => decide (s / 2 < n)) = true) (H : (rs.all fun s => chk s (look (s / 2) a)) = true) : staysAt rs (toT n a) = true := by
  unfold staysAt
  rw [List.all_eq_true] at H hrs ⊢
  intro s hs
  have h1 := of_decide_eq_true (hrs s hs)
  simp only [toT_get, if_pos h1, H s hs]

theorem post_ok {o : Oper} {c : Cop} {rs : List Nat} {v : DV} {a' : AF} {t' : List DV} (hrs : rs.all (fun s => decide (s / 2 < n)) = true) (hd : c.dst = o.dst) (h1 : c.nw = decide (srt C f o = .new)) (h3 : c.us = tmpsOf o.op.operands.toList)
    (ht : toT n (ent c.dst v ++ a') = t') (H : postA n rs c v a (ent c.dst v ++ a') = true) : (staysAt rs t' && pathsAt C f o (toT n a) t') = true := by
  unfold postA at H
  simp only [Bool.and_eq_true] at H ⊢
  obtain ⟨p1, p2⟩ := H
  refine ⟨?_, ?_⟩
  · rw [← ht]; exact stays_ok hrs p1
  · unfold pathsAt
    split
    · rename_i s hs
      rw [hd, hs] at ht
      simp only [ent, List.cons_append, List.nil_append] at ht
      split
      · rename_i x hx
        rw [← ht, toT_get] at hx
        split at hx
        · simp only [look, if_true, Option.some.injEq] at hx
          subst hx
          unfold pathFrom
          split at p2
          · rename_i s' _
            rw [h3] at p2
            rw [List.any_eq_true] at p2 ⊢
            obtain ⟨y, hy, q⟩ := p2
            refine ⟨y, hy, ?_⟩
            simp only [Bool.or_eq_true, Bool.and_eq_true, decide_eq_true_eq] at q ⊢
            rcases q with q | ⟨q1, q2⟩
            · exact .inl q
            · refine .inr ?_
              simp only [toT_get, if_pos q1]
              cases hl : look y a <;> simp_all
          · rw [h1] at p2; exact p2
          · rename_i h5 h6
            cases v with
            | path s' off => exact (h5 _ _ rfl).elim
            | box cs => exact (h6 _ rfl).elim
            | _ => rfl
        · cases hx
      · rfl
    · rfl

theorem ops_draw {rs fs : List Nat} (hrs : rs.all (fun s => decide (s / 2 < n)) = true) : ∀ (l : List Oper) (a : AF) (h : DHeap) (N : AF → DHeap → Prop), WOps P C n (some rs) (l.map (trCop P C f n ops (some (rs, fs)))) a h N →
    ∃ a' h', runX P C f (lim P C) ops rs fs l (toT n a) h = some (toT n a', h') ∧ N a' h'
  | [], a, h, N, H => ⟨a, h, rfl, H⟩
  | o :: l, a, h, N, H => by
    rw [List.map_cons] at H
    rcases trCop_cases (P := P) (C := C) (f := f) (n := n) (ops := ops) (some (rs, fs)) o with hc | ⟨hg, hc⟩ | ⟨s, w, hg, hs, hc⟩ <;> rw [hc] at H
    · exact False.elim H.2
    · have hgn := guard_none hg
      rw [wops_dn] at H
      obtain ⟨hp, H⟩ := H
      have hpre := pre_ok (C := C) (f := f) (o := o) (fs := fs) (rs := rs) rfl rfl rfl rfl hp
      obtain ⟨v, a1, h1, e, hpo, q⟩ := does (o := o) (f := f) H
      obtain ⟨a2, e2, e2', q⟩ := q.elim (n := n)
      obtain ⟨a', h', e3, q⟩ := ops_draw hrs l a2 h1 N q
      refine ⟨a', h', ?_, q⟩
      have hpost := post_ok (C := C) (f := f) (o := o) (v := v) (a' := a1) (t' := putD (toT n a1) o.dst v) hrs rfl rfl rfl (by rw [← e2, e2']; rfl) hpo
      simp only [runX, stepX, hpre, if_true, wanted_none hgn, e]
      rw [if_pos hpost, ← e2]
      exact e3
    · rw [wops_dg] at H
      obtain ⟨hp, H⟩ := H
      have hpre := pre_ok (C := C) (f := f) (o := o) (fs := fs) (rs := rs) rfl rfl rfl rfl hp
      rcases guard_of hg hs H with ⟨e0, H⟩ | ⟨e0, H⟩
      · obtain ⟨v, a1, h1, e, hpo, q⟩ := does (o := o) (f := f) H
        obtain ⟨a2, e2, e2', q⟩ := q.elim (n := n)
        obtain ⟨a', h', e3, q⟩ := ops_draw hrs l a2 h1 N q
        refine ⟨a', h', ?_, q⟩
        have hpost := post_ok (C := C) (f := f) (o := o) (v := v) (a' := a1) (t' := putD (toT n a1) o.dst v) hrs rfl rfl rfl (by rw [← e2, e2']; rfl) hpo
        simp only [runX, stepX, hpre, if_true, e0, e]
        rw [if_pos hpost, ← e2]
        exact e3
      · obtain ⟨a2, e2, _, q⟩ := H.elim (n := n)
        obtain ⟨a', h', e3, q⟩ := ops_draw hrs l a2 h N q
        exact ⟨a', h', by simp only [runX, stepX, hpre, if_true, e0, ← e2, e3], q⟩

theorem keep_eq (id : Nat) : keepD C f id (toT n a) = toT n (keepA (C.keep f id) a) := by
  unfold keepD keepA
  split
  · rename_i ks hk
    rw [hk]
    dsimp only
    clear hk
    have hl : ∀ (i : Nat), look i (ks.map fun s => (s, look s a)) = if ks.contains i then look i a else .junk := by
      intro i
      induction ks with
      | nil => rfl
      | cons s ks ih =>
        simp only [List.map_cons, look, List.contains_cons]
        by_cases hi : i = s
        · subst hi; simp
        · rw [if_neg hi, ih]
          have : (i == s) = false := by simpa using hi
          simp only [this, Bool.false_or]
    have key : ∀ (m i : Nat), keepFrom ks i ((List.range' i m).map fun j => look j a) = (List.range' i m).map fun j => look j (ks.map fun s => (s, look s a)) := by
      intro m
      induction m with
      | zero => intro i; rfl
      | succ m ih =>
        intro i
        simp only [List.range'_succ, List.map_cons, keepFrom, ih, hl]
    have := key n 0
    rw [← List.range_eq_range'] at this
    exact this
  · rename_i hk
    rw [hk]

theorem IfP.elim {v : DV} {X Y : Prop} (H : IfP v X Y) : (v = .sc (.bool true) ∧ X) ∨ (v = .sc (.bool false) ∧ Y) := by
  unfold IfP at H
  split at H
  · rcases BR.elim H with ⟨rfl, q⟩ | ⟨rfl, q⟩
    · exact .inl ⟨rfl, q⟩
    · exact .inr ⟨rfl, q⟩
  · exact H.elim

/-- Code: what must hold ahead is enough. -/
theorem wp_run : ∀ (c : Code) (a : AF) (h : DHeap) (Q : XD → AF → DHeap → Prop), WP P C n (tr P C f n c) a h Q → Run P C f c (toT n a) h fun x t h => ∃ a', t = toT n a' ∧ Q x a' h := by
  intro c
  induction c with
  | skip => intro a h Q H; exact run_skip ⟨a, rfl, H⟩
  | label l => intro a h Q H; exact run_label ⟨a, rfl, H⟩
  | ret => intro a h Q H; exact run_ret ⟨a, rfl, H⟩
  | exit j => intro a h Q H; exact run_exit ⟨a, rfl, H⟩
  | region id ops draw =>
    intro a h Q H
    cases draw with
    | false =>
      simp only [tr, WP] at H
      obtain ⟨a', h', e, q⟩ := ops_plain _ _ _ _ H.2
      exact run_reg (by rw [e]; exact ⟨_, keep_eq id, q⟩)
    | true =>
      simp only [tr] at H
      split at H
      · rename_i rs fs hm hd
        split at H
        · rename_i hrs
          simp only [WP] at H
          obtain ⟨hst, H⟩ := H
          obtain ⟨a', h', e, q⟩ := ops_draw hrs _ _ _ _ H
          exact run_draw hm hd (stays_ok hrs hst) (by rw [e]; exact ⟨_, keep_eq id, q⟩)
        · exact H.elim
      · exact H.elim
  | seq x y ihx ihy =>
    intro a h Q H
    simp only [tr, WP] at H
    refine run_seq fun N hN => (ihx a h _ H).mono ?_
    rintro e t h' ⟨a', rfl, q⟩
    cases e with
    | normal => exact hN _ _ (ihy a' h' Q q)
    | exit j => exact ⟨a', rfl, q⟩
    | ret => exact ⟨a', rfl, q⟩
  | cond b x y ihx ihy =>
    intro a h Q H
    simp only [tr, WP] at H
    rcases H.elim with ⟨e, q⟩ | ⟨e, q⟩
    · exact run_cond (p := true) (by rw [opnd_val]; exact e) (fun _ => ihx a h Q q) (fun e => by cases e)
    · exact run_cond (p := false) (by rw [opnd_val]; exact e) (fun e => by cases e) (fun _ => ihy a h Q q)
  | block id c ih =>
    intro a h Q H
    simp only [tr, WP] at H
    refine run_block ((ih a h _ H).mono ?_)
    rintro e t h' ⟨a', rfl, q⟩
    cases e with
    | normal => exact ⟨a', rfl, q⟩
    | ret => exact ⟨a', rfl, q⟩
    | exit j =>
      simp only [OutK] at q
      simp only [Out]
      split
      · rename_i hj; rw [if_pos hj] at q; exact ⟨a', rfl, q⟩
      · rename_i hj; rw [if_neg hj] at q; exact ⟨a', rfl, q⟩
  | scope c ih =>
    intro a h Q H
    simp only [tr, WP] at H
    exact run_scope (ih a h Q H)
  | loop c ih =>
    intro a h Q H
    simp only [tr, WP] at H
    obtain ⟨I, m, hI, hs⟩ := H
    refine run_loop (fun m t h => ∃ a, t = toT n a ∧ I m a h) ⟨a, rfl, hI⟩ ?_
    rintro m t h ⟨a, rfl, hi⟩
    rw [keep_eq]
    refine (ih _ h _ (hs m a h hi)).mono ?_
    rintro e t h' ⟨a', rfl, q⟩
    cases e with
    | normal =>
      obtain ⟨m', hm, hi'⟩ := q
      exact ⟨m', hm, a', rfl, hi'⟩
    | exit j => exact ⟨a', rfl, q⟩
    | ret => exact ⟨a', rfl, q⟩
  | _ => intro a h Q H; exact H.elim

/-- One result. -/
inductive RV where
  | s (n : Nat)
  | b (n : Nat) (m : Bool) (k : Nat)
def trRV (P : Program) : ResultVar → Option RV
  | .tmp s => some (.s s)
  | .cell s ty => match tinfK P ty with
    | some (m, k) => some (.b s m k)
    | none => none
def trRVs (P : Program) : List ResultVar → Option (List RV)
  | [] => some []
  | r :: rs => match trRV P r, trRVs P rs with
    | some x, some xs => some (x :: xs)
    | _, _ => none
def RetOne (n : Nat) (a : AF) (h : DHeap) (r : RV) (N : DV → Prop) : Prop := match r with
  | .s s => s < n ∧ (look s a).plain = true ∧ N (look s a)
  | .b s m k => s < n ∧ CellsP n a h (opv s (look s a)) fun cs => OptP (ofC m k cs) N
def RetAll (n : Nat) (a : AF) (h : DHeap) : List RV → (List DV → Prop) → Prop
  | [], N => N []
  | r :: rs, N => RetOne n a h r fun x => RetAll n a h rs fun xs => N (x :: xs)
def one (xs : List DV) : DV := match xs with
  | [x] => x
  | xs => .tup (shedRest xs)
/-- The end of a function. -/
def FinP (n : Nat) (rs : List RV) (R : DV → DHeap → Prop) (e : XD) (a : AF) (h : DHeap) : Prop := match e with
  | .exit _ => False
  | _ => RetAll n a h rs fun xs => R (one xs) h

theorem RetOne.elim {r : ResultVar} {x : RV} {N : DV → Prop} (hr : trRV P r = some x) (H : RetOne n a h x N) : ∃ v, retOne P (toT n a) h r = some v ∧ N v := by
  cases r with
  | tmp s =>
    cases hr
    obtain ⟨hs, hp, q⟩ := H
    exact ⟨_, by simp only [retOne, toT_get, if_pos hs, hp, if_true], q⟩
  | cell s ty =>
    simp only [trRV] at hr
    split at hr
    · rename_i m k ht
      cases hr
      obtain ⟨hs, H⟩ := H
      obtain ⟨cs, e, q⟩ := CellsP.elim H
      obtain ⟨v, e2, q⟩ := q.elim
      refine ⟨v, ?_, q⟩
      have : opnd P 0 (toT n a) (.tmp s) = opv s (look s a) := by rw [opnd_val]; simp only [trA, if_pos hs, A.val]
      simp only [retOne, this, e, ofC_of ht, e2]
    · cases hr

theorem RetAll.elim : ∀ (rs : List ResultVar) (xs : List RV) (N : List DV → Prop), trRVs P rs = some xs → RetAll n a h xs N → ∃ vs, retAll P (toT n a) h rs = some vs ∧ N vs
  | [], xs, N, hr, H => by cases hr; exact ⟨[], rfl, H⟩
  | r :: rs, xs, N, hr, H => by
    simp only [trRVs] at hr
    split at hr
    · rename_i y ys h1 h2
      cases hr
      obtain ⟨v, e, q⟩ := RetOne.elim h1 H
      obtain ⟨vs, e2, q⟩ := RetAll.elim rs ys _ h2 q
      exact ⟨v :: vs, by simp only [retAll, e, e2], q⟩
    · cases hr

theorem FinP.elim {fn : Func} {rs : List RV} {R : DV → DHeap → Prop} (hr : trRVs P fn.results.toList = some rs) : ∀ x t h, (∃ a', t = toT n a' ∧ FinP n rs R x a' h) → Fin P fn R x t h := by
  rintro x t h ⟨a, rfl, H⟩
  cases x with
  | exit j => exact H
  | normal =>
    obtain ⟨vs, e, q⟩ := RetAll.elim _ _ _ hr H
    refine ⟨one vs, ?_, q⟩
    simp only [retD, e, one]
    split <;> simp_all
  | ret =>
    obtain ⟨vs, e, q⟩ := RetAll.elim _ _ _ hr H
    refine ⟨one vs, ?_, q⟩
    simp only [retD, e, one]
    split <;> simp_all

/-- The first frame. -/
def af0 : Nat → List DV → AF
  | _, [] => []
  | i, x :: xs => (i, x.shed) :: af0 (i + 1) xs

theorem frame_eq {fn : Func} {args : List DV} (hl : args.length ≤ fn.ntmps) : frame0 fn args = toT fn.ntmps (af0 0 args) := by
  have hk : ∀ (xs : List DV) (i j : Nat), look j (af0 i xs) = if i ≤ j then (xs.map DV.shed)[j - i]?.getD .junk else .junk := by
    intro xs
    induction xs with
    | nil => intro i j; simp [af0, look]
    | cons x xs ih =>
      intro i j
      simp only [af0, look]
      by_cases hj : j = i
      · subst hj; simp
      · rw [if_neg hj, ih]
        by_cases h1 : i + 1 ≤ j
        · rw [if_pos h1, if_pos (by omega)]
          have : j - i = (j - (i + 1)) + 1 := by omega
          rw [this]; simp
        · rw [if_neg h1, if_neg (by omega)]
  apply List.ext_getElem?
  intro i
  rw [toT_get]
  unfold frame0
  rw [List.getElem?_append]
  simp only [List.length_map]
  by_cases h1 : i < args.length
  · rw [if_pos h1, if_pos (by omega), hk]
    simp [h1]
  · rw [if_neg h1, hk]
    by_cases h2 : i < fn.ntmps
    · rw [if_pos h2, List.getElem?_replicate, if_pos (by omega)]
      simp [Nat.not_lt.1 h1]
    · rw [if_neg h2, List.getElem?_replicate, if_neg (by omega)]

/-- A function, by its code without types. -/
structure Fun (P : Program) (C : Cfg) (k : FuncId) (n : Nat) (cd : Cd) (rs : List RV) : Prop where
  ext : C.ext k = none
  ex : ∃ fn c, P.funcs[k]? = some fn ∧ fn.body = some c ∧ fn.ntmps = n ∧ tr P C k n c = cd ∧ trRVs P fn.results.toList = some rs

theorem lim_fun {k : FuncId} {cd : Cd} {rs : List RV} {args : List DV} {r : DV} {h' : DHeap} (F : Fun P C k n cd rs) (hp : C.pure k = false) (hl : args.length ≤ n) (hr : r.plain = true)
    (H : WP P C n cd (af0 0 args) h (FinP n rs fun r1 h1 => r1 = r ∧ h1 = h')) (hg : C.gc k = false := by rfl) : lim P C k args h = some (r, h') := by
  obtain ⟨he, fn, c, hf, hb, rfl, rfl, hrs⟩ := F
  refine lim_body he hp hg hf hb hr ?_
  rw [frame_eq hl]
  exact (wp_run c _ _ _ H).mono (FinP.elim hrs)

theorem lim_fung {k : FuncId} {cd : Cd} {rs : List RV} {args : List DV} {r : DV} {h' : DHeap} (F : Fun P C k n cd rs) (hp : C.pure k = false) (hg : C.gc k = true) (hl : args.length ≤ n) (hr : r.plain = true)
    (H : WP P C n cd (af0 0 args) h (FinP n rs fun r1 h1 => r1 = r ∧ (below h.length r1 && (h1.take h.length).all (belowO h.length)) = true ∧ h.length ≤ h1.length ∧ h1.take h.length = h')) : lim P C k args h = some (r, h') := by
  obtain ⟨he, fn, c, hf, hb, rfl, rfl, hrs⟩ := F
  refine lim_trim he hp hg hf hb hr ?_
  rw [frame_eq hl]
  refine ((wp_run c _ _ _ H).mono (FinP.elim hrs)).mono ?_
  intro x t h1 hq
  cases x with
  | exit j => exact hq
  | normal =>
    obtain ⟨r1, e, rfl, q1, q2, q3⟩ := hq
    exact ⟨r1, e, by subst q3; exact if_pos ⟨q1, q2⟩⟩
  | ret =>
    obtain ⟨r1, e, rfl, q1, q2, q3⟩ := hq
    exact ⟨r1, e, by subst q3; exact if_pos ⟨q1, q2⟩⟩

theorem lim_funp {k : FuncId} {cd : Cd} {rs : List RV} {args : List DV} {r : DV} (F : Fun P C k n cd rs) (hp : C.pure k = true) (hl : args.length ≤ n) (ha : args.all heapFree = true) (hr : heapFree r = true)
    (H : WP P C n cd (af0 0 args) [] (FinP n rs fun r1 _ => r1 = r)) : lim P C k args h = some (r, h) := by
  obtain ⟨he, fn, c, hf, hb, rfl, rfl, hrs⟩ := F
  refine lim_pure he hp hf hb ha hr ?_
  rw [frame_eq hl]
  exact (wp_run c _ _ _ H).mono (FinP.elim hrs)
end
end Go.DS

/-
  Rules by which the simplifier runs code without types.
-/
namespace Go.DS
open Go
set_option linter.unusedVariables false

/-! Short names for operations in their places. -/
def c0 (d : Nat) (o : O) : Cop := { dst := some d, bl := false, g := none, op := o }
def cb (d : Nat) (o : O) : Cop := { dst := some d, bl := true, g := none, op := o }
def cg (d g : Nat) (w : Bool) (o : O) : Cop := { dst := some d, bl := false, g := some (g, w), op := o }
def ch (d g : Nat) (w : Bool) (o : O) : Cop := { dst := some d, bl := true, g := some (g, w), op := o }
def cn (o : O) : Cop := { dst := none, bl := false, g := none, op := o }
def cm (g : Nat) (w : Bool) (o : O) : Cop := { dst := none, bl := false, g := some (g, w), op := o }
def cd (d : Option Nat) (bl : Bool) (g : Option (Nat × Bool)) (o : O) (nw fs : Bool) (us : List Nat) : Cop := { dst := d, bl := bl, g := g, op := o, nw := nw, fs := fs, us := us }
def R (l : List Cop) (ks : List Nat) : Cd := .reg l (some ks) none
def RD (l : List Cop) (ks rs : List Nat) : Cd := .reg l (some ks) (some rs)
def LP (ks : List Nat) (c : Cd) : Cd := .loop (some ks) c
/-- Constants. -/
def ki (k : IntKind) (n : Int) : DV := .sc (.int k n)
def kb (b : Bool) : DV := .sc (.bool b)
/-- A text, by its bytes. -/
def mkB (l : List UInt8) : ByteArray := ⟨⟨l⟩⟩
def bs (s : ByteArray) : List UInt8 := s.data.toList
def ks (l : List UInt8) : DV := .sc (.string (mkB l))
theorem mkB_bs (s : ByteArray) : mkB (bs s) = s := rfl
theorem bs_mkB (l : List UInt8) : bs (mkB l) = l := rfl
theorem mkB_size (l : List UInt8) : (mkB l).size = l.length := rfl
theorem mkB_inj {l m : List UInt8} : mkB l = mkB m ↔ l = m := ⟨fun h => by rw [← bs_mkB l, h, bs_mkB], fun h => by rw [h]⟩
theorem mkB_app (l m : List UInt8) : mkB l ++ mkB m = mkB (l ++ m) := by
  have : bs (mkB l ++ mkB m) = l ++ m := by simp [bs, mkB]
  rw [← this, mkB_bs]
theorem mkB_ext (l : List UInt8) (i j : Nat) : (mkB l).extract i j = mkB ((l.take j).drop i) := by
  have : bs ((mkB l).extract i j) = (l.take j).drop i := by
    simp only [bs, mkB, ByteArray.data_extract, Array.toList_extract, List.extract_eq_take_drop]
    rw [List.drop_take]
  rw [← this, mkB_bs]
theorem mkB_get (l : List UInt8) {k : Nat} (hk : k < (mkB l).size) : (mkB l)[k] = l[k]'(by rw [mkB_size] at hk; exact hk) := rfl
theorem mkB_data (l : List UInt8) : (mkB l).data.toList = l := rfl
theorem mkB_dec (l m : List UInt8) : decide (mkB l = mkB m) = decide (l = m) := by simp only [mkB_inj]
attribute [go_sem] mkB_size mkB_ext mkB_data bs_mkB
def kn (es : Nat) : DV := .list true es []
def kz (es : Nat) : DV := .list false es []
def kf (f : FuncId) : DV := .fn (.func f) [] []

section
variable {P : Program} {C : Cfg} {n : Nat} {a : AF} {h : DHeap} {Q : XD → AF → DHeap → Prop} {N : AF → DHeap → Prop} {K : DV → AF → DHeap → Prop} {o : O} {os : List Cop} {s d g : Nat} {w : Bool} {v : DV} {x y z : A} {X Y : Prop}

/-- To be reckoned first. -/
def Nf {α : Type} (x : α) : α := x
@[go_sem] theorem nf_eq {α : Type} {x : α} : Nf x = x := by
  have h : ∀ b : Bool, Nf x = x := fun b => by cases b <;> rfl
  exact h true
def NfP {α : Type} (x : α) (N : α → Prop) : Prop := N x
@[congr] theorem nfP_congr {α : Type} {x x' : α} {N : α → Prop} (e : x = x') : NfP x N = NfP x' N := by rw [e]
@[go_sem] theorem nfP_eq {α : Type} {x : α} {N : α → Prop} : NfP x N = N x := rfl
/-- What is not looked into. -/
structure Tag {α : Type} (x : α) : Type where
def LoopG (P : Program) (C : Cfg) (n : Nat) (ks : List Nat) (c : Cd) (a : AF) (h : DHeap) (Q : XD → AF → DHeap → Prop) (t1 : Tag c) (t2 : Tag Q) : Prop := WP P C n (LP ks c) a h Q

/-! Nothing of these is looked into before its turn. -/
@[congr] theorem optP_congr {α : Type} {u u' : Option α} {N : α → Prop} (e : u = u') : OptP u N = OptP u' N := by rw [e]
@[congr] theorem intP_congr {v v' : DV} {N : IntKind → Int → Prop} (e : v = v') : IntP v N = IntP v' N := by rw [e]
@[congr] theorem boolP_congr {v v' : DV} {N : Bool → Prop} (e : v = v') : BoolP v N = BoolP v' N := by rw [e]
@[congr] theorem strP_congr {v v' : DV} {N : ByteArray → Prop} (e : v = v') : StrP v N = StrP v' N := by rw [e]
@[congr] theorem listP_congr {v v' : DV} {N : Bool → Nat → List (List DV) → Prop} (e : v = v') : ListP v N = ListP v' N := by rw [e]
@[congr] theorem lvP_congr {v v' : DV} {X : Bool → Nat → List (List DV) → Prop} {Y : Nat → Nat → Nat → Nat → Prop} {Z : Prop} (e : v = v') : LvP v X Y Z = LvP v' X Y Z := by rw [e]
@[congr] theorem tupP_congr {v v' : DV} {N : List DV → Prop} (e : v = v') : TupP v N = TupP v' N := by rw [e]
@[congr] theorem aggP_congr {v v' : DV} {N : List DV → Prop} (e : v = v') : AggP v N = AggP v' N := by rw [e]
@[congr] theorem scP_congr {v v' : DV} {N : Value → Prop} (e : v = v') : ScP v N = ScP v' N := by rw [e]
@[congr] theorem fnP_congr {v v' : DV} {N : FuncId → List DV → List DV → Prop} (e : v = v') : FnP v N = FnP v' N := by rw [e]
@[congr] theorem br_congr {b b' : Bool} (e : b = b') : BR b X Y = BR b' X Y := by rw [e]
@[congr] theorem idxP_congr {α : Type} {l l' : List α} {i i' : Int} {N : α → Prop} (e : l = l') (e2 : i = i') : IdxP l i N = IdxP l' i' N := by rw [e, e2]
@[congr] theorem idxS_congr {u u' : ByteArray} {i i' : Int} {N : UInt8 → Prop} (e : u = u') (e2 : i = i') : IdxS u i N = IdxS u' i' N := by rw [e, e2]
@[congr] theorem bndP_congr {m m' t t' : Nat} {u u' : Option DV} {N : Nat → Prop} (e1 : m = m') (e2 : t = t') (e3 : u = u') : BndP m t u N = BndP m' t' u' N := by rw [e1, e2, e3]
@[congr] theorem boxV_congr {N : List DV → Prop} {v' : DV} (e : v = v') : BoxV v N = BoxV v' N := by rw [e]
@[congr] theorem objP_congr {i i' : Nat} {N : List DV → Prop} (e : i = i') : ObjP h i N = ObjP h i' N := by rw [e]
@[congr] theorem rowO_congr {i i' : Nat} {N : List DV → Prop} (e : i = i') : RowO h i N = RowO h i' N := by rw [e]
@[congr] theorem mapP_congr {i i' : Nat} {N : List (DV × DV) → Prop} (e : i = i') : MapP h i N = MapP h i' N := by rw [e]
@[congr] theorem cellsP_congr {v v' : DV} {N : List DV → Prop} (e : v = v') : CellsP n a h v N = CellsP n a h v' N := by rw [e]
@[congr] theorem movP_congr {k k' : Nat} {v v' : DV} {N : DV → Prop} (e1 : k = k') (e : v = v') : MovP n a k v N = MovP n a k' v' N := by rw [e, e1]
@[congr] theorem takeV_congr {v v' : DV} {N : DV → AF → Prop} (e : v = v') : TakeV s a v N = TakeV s a v' N := by rw [e]
@[congr] theorem callP_congr {u u' : Option (DV × DHeap)} {N : DV → DHeap → Prop} (e : u = u') : CallP u N = CallP u' N := by rw [e]
@[congr] theorem blP_congr {v v' : DV} {N : DV → Prop} (e : v = v') : BlP v N = BlP v' N := by rw [e]
@[congr] theorem putP_congr {bl : Bool} {dst : Option Nat} {v v' : DV} {N : AF → Prop} (e : v = v') : PutP bl dst v a N = PutP bl dst v' a N := by rw [e]
@[congr] theorem guP_congr {v v' : DV} (e : v = v') : GuP v w X Y = GuP v' w X Y := by rw [e]
@[congr] theorem ifP_congr {v v' : DV} (e : v = v') : IfP v X Y = IfP v' X Y := by rw [e]
@[congr] theorem buildP_congr {ps : List (Nat × Nat × A)} {cs cs' : List DV} {N : List DV → Prop} (e : cs = cs') : BuildP a ps cs N = BuildP a ps cs' N := by rw [e]
@[congr] theorem rowsP_congr {k : Nat} {b : Bool} {v v' : DV} {N : List (List DV) → Prop} (e : v = v') : RowsP h k b v N = RowsP h k b v' N := by rw [e]
@[congr] theorem appV_congr {v v' : DV} {X : Prop} {Y : Nat → Nat → Nat → Prop} (e : v = v') : AppV v X Y = AppV v' X Y := by rw [e]
@[congr] theorem ownP_congr {v v' : DV} {N : Nat → List (List DV) → Prop} (e : v = v') : OwnP v N = OwnP v' N := by rw [e]
@[congr] theorem mapAt_congr {v v' : DV} {N : List (DV × DV) → Prop} (e : v = v') : MapAt h v N = MapAt h v' N := by rw [e]
@[congr] theorem mpP_congr {v v' : DV} {N : Nat → List (DV × DV) → Prop} (e : v = v') : MpP h v N = MpP h v' N := by rw [e]
@[congr] theorem capV_congr {v' : DV} {X : List DV → Prop} {Y : DV → Prop} (e : v = v') : CapV v X Y = CapV v' X Y := by rw [e]
@[congr] theorem ldxK_congr {b b' : Bool} {u u' : Option (Nat × List (List DV))} {X : Nat → List (List DV) → Prop} (e1 : b = b') (e : u = u') : LdxK b u X Y = LdxK b' u' X Y := by rw [e, e1]
@[congr] theorem lkK_congr {b : Bool} {z z' : DV} {u u' : Option DV} {N : DV → Prop} (e1 : z = z') (e : u = u') : LkK b z u N = LkK b z' u' N := by rw [e, e1]
@[congr] theorem newP_congr {b : Bool} {dst : Option Nat} {cs cs' : List DV} (e : cs = cs') : NewP b dst a h cs K = NewP b dst a h cs' K := by rw [e]
@[congr] theorem storeP_congr {v v' : DV} {cs cs' : List DV} (e1 : v = v') (e : cs = cs') : StoreP n a h v cs N = StoreP n a h v' cs' N := by rw [e, e1]

/-! Code. -/
@[go_sem ↓] theorem wp_R {l : List Cop} {k : List Nat} : WP P C n (R l k) a h Q = WOps P C n none l a h fun a' h' => NfP (Nf (keepA (some k) a')) fun a'' => Q .normal a'' h' := by simp only [R, WP, DrawP, true_and, NfP, Nf]
@[go_sem ↓] theorem wp_RD {l : List Cop} {k rs : List Nat} : WP P C n (RD l k rs) a h Q = (DrawP (some rs) a ∧ WOps P C n (some rs) l a h fun a' h' => NfP (Nf (keepA (some k) a')) fun a'' => Q .normal a'' h') := rfl
@[go_sem ↓] theorem wp_seq {c e : Cd} : WP P C n (.seq c e) a h Q = WP P C n c a h (ThenK (fun a' h' => WP P C n e a' h' Q) Q) := rfl
@[go_sem ↓] theorem wp_ite {c e : Cd} : WP P C n (.ite x c e) a h Q = IfP (Nf (x.val a)) (WP P C n c a h Q) (WP P C n e a h Q) := rfl
@[go_sem ↓] theorem wp_block {i : Nat} {c : Cd} : WP P C n (.block i c) a h Q = WP P C n c a h (OutK i Q) := rfl
@[go_sem ↓] theorem wp_scope {c : Cd} : WP P C n (.scope c) a h Q = WP P C n c a h Q := rfl
@[go_sem ↓] theorem wp_exit {j : Nat} : WP P C n (.exit j) a h Q = Q (.exit j) a h := rfl
@[go_sem ↓] theorem wp_ret : WP P C n .ret a h Q = Q .ret a h := rfl
@[go_sem ↓] theorem wp_skip : WP P C n .skip a h Q = Q .normal a h := rfl
@[go_sem ↓] theorem wp_bad : WP P C n .bad a h Q = False := rfl
@[go_sem ↓] theorem thenK_n : ThenK N Q .normal a h = N a h := rfl
@[go_sem ↓] theorem thenK_e {j : Nat} : ThenK N Q (.exit j) a h = Q (.exit j) a h := rfl
@[go_sem ↓] theorem thenK_r : ThenK N Q .ret a h = Q .ret a h := rfl
@[go_sem ↓] theorem outK_n {i : Nat} : OutK i Q .normal a h = Q .normal a h := rfl
@[go_sem ↓] theorem outK_e {i j : Nat} : OutK i Q (.exit j) a h = if j = i then Q .normal a h else Q (.exit j) a h := rfl
@[go_sem ↓] theorem outK_r {i : Nat} : OutK i Q .ret a h = Q .ret a h := rfl

@[go_sem ↓] theorem wp_loop {ks : List Nat} {c : Cd} : WP P C n (LP ks c) a h Q = LoopG P C n ks c a h Q ⟨⟩ ⟨⟩ := rfl
/-- A loop: shown by what holds ahead of each round. -/
theorem wp_LP {ks : List Nat} {c : Cd} (I : Nat → AF → DHeap → Prop) (m : Nat) (h0 : I m a h) (hs : ∀ m a h, I m a h → WP P C n c (keepA (some ks) a) h (ThenK (fun a' h' => ∃ m', m' < m ∧ I m' a' h') Q)) {t1 : Tag c} {t2 : Tag Q} : LoopG P C n ks c a h Q t1 t2 :=
  ⟨I, m, h0, hs⟩

/-! Regions. -/
@[go_sem ↓] theorem wops_nil {dr : Option (List Nat)} : WOps P C n dr [] a h N = N a h := by cases dr <;> rfl
@[go_sem ↓] theorem wops_c0 : WOps P C n none (c0 d o :: os) a h N = WO P C n (some d) o a h fun v a' h' => PutP false (some d) (Nf v) a' fun a'' => WOps P C n none os a'' h' N := rfl
@[go_sem ↓] theorem wops_cb : WOps P C n none (cb d o :: os) a h N = WO P C n (some d) o a h fun v a' h' => PutP true (some d) (Nf v) a' fun a'' => WOps P C n none os a'' h' N := rfl
@[go_sem ↓] theorem wops_cn : WOps P C n none (cn o :: os) a h N = WO P C n none o a h fun v a' h' => WOps P C n none os a' h' N := rfl
@[go_sem ↓] theorem wops_cg : WOps P C n none (cg d g w o :: os) a h N = GuP (Nf (look g a)) w (WO P C n (some d) o a h fun v a' h' => PutP false (some d) (Nf v) a' fun a'' => WOps P C n none os a'' h' N) (PutP false (some d) (Nf (.sc undef)) a fun a'' => WOps P C n none os a'' h N) := rfl
@[go_sem ↓] theorem wops_ch : WOps P C n none (ch d g w o :: os) a h N = GuP (Nf (look g a)) w (WO P C n (some d) o a h fun v a' h' => PutP true (some d) (Nf v) a' fun a'' => WOps P C n none os a'' h' N) (PutP false (some d) (Nf (.sc undef)) a fun a'' => WOps P C n none os a'' h N) := rfl
@[go_sem ↓] theorem wops_cm : WOps P C n none (cm g w o :: os) a h N = GuP (Nf (look g a)) w (WO P C n none o a h fun v a' h' => WOps P C n none os a' h' N) (WOps P C n none os a h N) := rfl
@[go_sem ↓] theorem wops_cd_n {rs : List Nat} {dst : Option Nat} {bl nw fs : Bool} {us : List Nat} : WOps P C n (some rs) (cd dst bl none o nw fs us :: os) a h N =
    (Nf (preA n (cd dst bl none o nw fs us) a) = true ∧ WO P C n dst o a h fun v a' h' => NfP (Nf v) fun v => postA n rs (cd dst bl none o nw fs us) v a (ent dst v ++ a') = true ∧ PutP bl dst (Nf v) a' fun a'' => WOps P C n (some rs) os a'' h' N) := rfl
@[go_sem ↓] theorem wops_cd_g {rs : List Nat} {dst : Option Nat} {bl nw fs : Bool} {us : List Nat} : WOps P C n (some rs) (cd dst bl (some (g, w)) o nw fs us :: os) a h N =
    (Nf (preA n (cd dst bl (some (g, w)) o nw fs us) a) = true ∧ GuP (Nf (look g a)) w (WO P C n dst o a h fun v a' h' => NfP (Nf v) fun v => postA n rs (cd dst bl (some (g, w)) o nw fs us) v a (ent dst v ++ a') = true ∧ PutP bl dst (Nf v) a' fun a'' => WOps P C n (some rs) os a'' h' N) (PutP false dst (Nf (.sc undef)) a fun a'' => WOps P C n (some rs) os a'' h N)) := rfl
@[go_sem] theorem cd_dst {dst : Option Nat} {bl nw fs : Bool} {us : List Nat} {gg : Option (Nat × Bool)} : (cd dst bl gg o nw fs us).dst = dst := rfl
@[go_sem] theorem cd_nw {dst : Option Nat} {bl nw fs : Bool} {us : List Nat} {gg : Option (Nat × Bool)} : (cd dst bl gg o nw fs us).nw = nw := rfl
@[go_sem] theorem cd_fs {dst : Option Nat} {bl nw fs : Bool} {us : List Nat} {gg : Option (Nat × Bool)} : (cd dst bl gg o nw fs us).fs = fs := rfl
@[go_sem] theorem cd_us {dst : Option Nat} {bl nw fs : Bool} {us : List Nat} {gg : Option (Nat × Bool)} : (cd dst bl gg o nw fs us).us = us := rfl

/-! Frames. -/
@[go_sem ↓] theorem look_hit {a : AF} : look s ((s, v) :: a) = v := by simp [look]
theorem look_miss {k : Nat} (hk : (s == k) = false) : look s ((k, v) :: a) = look s a := by
  have : s ≠ k := by simpa using hk
  simp [look, this]
attribute [go_sem ↓] look_miss
@[go_sem ↓] theorem look_nil : look s [] = .junk := rfl
@[go_sem ↓] theorem val_s {k : Nat} : (A.s k).val a = opv k (look k a) := rfl
@[go_sem ↓] theorem val_c : (A.c v).val a = v := rfl
@[go_sem] theorem opv_sc {u : Value} : opv s (.sc u) = .sc u := rfl
@[go_sem] theorem opv_list {own : Bool} {es : Nat} {l : List (List DV)} : opv s (.list own es l) = .list own es l := rfl
@[go_sem] theorem opv_ptr {i j : Nat} : opv s (.ptr i j) = .ptr i j := rfl
@[go_sem] theorem opv_eptr {cs : List DV} : opv s (.eptr cs) = .eptr cs := rfl
@[go_sem] theorem opv_mp {i : Nat} : opv s (.mp i) = .mp i := rfl
@[go_sem] theorem opv_rptr {i j : Nat} : opv s (.rptr i j) = .rptr i j := rfl
@[go_sem] theorem opv_vec {i es j k : Nat} : opv s (.vec i es j k) = .vec i es j k := rfl
@[go_sem] theorem opv_fn {f : Fn} {p q : List DV} : opv s (.fn f p q) = .fn f p q := rfl
@[go_sem] theorem opv_iface {t : TypeId} : opv s (.iface t v) = .iface t v := rfl
@[go_sem] theorem opv_agg {cs : List DV} : opv s (.agg cs) = .agg cs := rfl
@[go_sem] theorem opv_tup {cs : List DV} : opv s (.tup cs) = .tup cs := rfl
@[go_sem] theorem opv_path {i j : Nat} : opv s (.path i j) = .path i j := rfl
@[go_sem] theorem opv_box {cs : List DV} : opv s (.box cs) = .path s 0 := rfl
@[go_sem] theorem opv_junk : opv s .junk = .junk := rfl
@[go_sem] theorem shed_sc {u : Value} : (DV.sc u).shed = .sc u := rfl
@[go_sem] theorem shed_list {own : Bool} {es : Nat} {l : List (List DV)} : (DV.list own es l).shed = .list false es l := rfl
@[go_sem] theorem shed_ptr {i j : Nat} : (DV.ptr i j).shed = .ptr i j := rfl
@[go_sem] theorem shed_eptr {cs : List DV} : (DV.eptr cs).shed = .eptr cs := rfl
@[go_sem] theorem shed_mp {i : Nat} : (DV.mp i).shed = .mp i := rfl
@[go_sem] theorem shed_rptr {i j : Nat} : (DV.rptr i j).shed = .rptr i j := rfl
@[go_sem] theorem shed_vec {i es j k : Nat} : (DV.vec i es j k).shed = .vec i es j k := rfl
@[go_sem] theorem shed_fn {f : Fn} {p q : List DV} : (DV.fn f p q).shed = .fn f p q := rfl
@[go_sem] theorem shed_iface {t : TypeId} : (DV.iface t v).shed = .iface t v := rfl
@[go_sem] theorem shed_agg {cs : List DV} : (DV.agg cs).shed = .agg cs := rfl
@[go_sem] theorem shed_tup_list {o : Bool} {es : Nat} {l : List (List DV)} {cs : List DV} : (DV.tup (.list o es l :: cs)).shed = .tup (.list false es l :: cs) := rfl
@[go_sem] theorem shed_tup_sc {u : Value} {cs : List DV} : (DV.tup (.sc u :: cs)).shed = .tup (.sc u :: cs) := rfl
@[go_sem] theorem shed_tup_agg {xs cs : List DV} : (DV.tup (.agg xs :: cs)).shed = .tup (.agg xs :: cs) := rfl
@[go_sem] theorem shed_tup_ptr {i j : Nat} {cs : List DV} : (DV.tup (.ptr i j :: cs)).shed = .tup (.ptr i j :: cs) := rfl
@[go_sem] theorem shed_tup_mp {i : Nat} {cs : List DV} : (DV.tup (.mp i :: cs)).shed = .tup (.mp i :: cs) := rfl
@[go_sem] theorem shed_tup_rptr {i j : Nat} {cs : List DV} : (DV.tup (.rptr i j :: cs)).shed = .tup (.rptr i j :: cs) := rfl
@[go_sem] theorem shed_tup_vec {i es j k : Nat} {cs : List DV} : (DV.tup (.vec i es j k :: cs)).shed = .tup (.vec i es j k :: cs) := rfl
@[go_sem] theorem shed_tup_fn {f : Fn} {p q cs : List DV} : (DV.tup (.fn f p q :: cs)).shed = .tup (.fn f p q :: cs) := rfl
@[go_sem] theorem shed_tup_iface {t : TypeId} {cs : List DV} : (DV.tup (.iface t v :: cs)).shed = .tup (.iface t v :: cs) := rfl
@[go_sem] theorem shed_tup_eptr {xs cs : List DV} : (DV.tup (.eptr xs :: cs)).shed = .tup (.eptr xs :: cs) := rfl
@[go_sem] theorem shed_tup_nil : (DV.tup []).shed = .tup [] := rfl
@[go_sem] theorem shed_path {i j : Nat} : (DV.path i j).shed = .path i j := rfl
@[go_sem] theorem shed_box {cs : List DV} : (DV.box cs).shed = .box cs := rfl
@[go_sem] theorem shed_junk : DV.junk.shed = .junk := rfl
@[go_sem] theorem ki_eq {k : IntKind} {m : Int} : ki k m = .sc (.int k m) := rfl
@[go_sem] theorem kb_eq {b : Bool} : kb b = .sc (.bool b) := rfl
@[go_sem] theorem ks_eq {l : List UInt8} : ks l = .sc (.string (mkB l)) := rfl
@[go_sem] theorem kn_eq {k : Nat} : kn k = .list true k [] := rfl
@[go_sem] theorem kz_eq {k : Nat} : kz k = .list false k [] := rfl
@[go_sem] theorem kf_eq {k : Nat} : kf k = .fn (.func k) [] [] := rfl
@[go_sem ↓] theorem keepA_nil : keepA (some []) a = [] := rfl
@[go_sem ↓] theorem keepA_cons {l : List Nat} : keepA (some (s :: l)) a = (s, look s a) :: keepA (some l) a := rfl
@[go_sem] theorem af0_nil {i : Nat} : af0 i [] = [] := rfl
@[go_sem ↓] theorem af0_cons {i : Nat} {l : List DV} : af0 i (v :: l) = (i, v.shed) :: af0 (i + 1) l := rfl
attribute [go_sem] List.map_cons List.map_nil

/-! Putting. -/
@[go_sem ↓] theorem putP_none {bl : Bool} {N : AF → Prop} : PutP bl none v a N = N a := rfl
@[go_sem] theorem putP_f {N : AF → Prop} : PutP false (some s) v a N = N ((s, v) :: a) := rfl
@[go_sem] theorem putP_t {N : AF → Prop} : PutP true (some s) v a N = BlP (Nf v) fun v' => N ((s, v') :: a) := rfl
@[go_sem] theorem blP_b {b : Bool} {N : DV → Prop} : BlP (.sc (.bool b)) N = BR (Nf b) (N (.sc (.bool true))) (N (.sc (.bool false))) := rfl
@[go_sem] theorem br_t : BR true X Y = X := by simp [BR]
@[go_sem] theorem br_f : BR false X Y = Y := by simp [BR]
theorem br_dec {p : Prop} [Decidable p] : BR (decide p) X Y = ((p → X) ∧ (¬ p → Y)) := by simp [BR]
theorem br_not {b : Bool} : BR (!b) X Y = BR (Nf b) Y X := by cases b <;> simp [BR, Nf]
theorem br_any {b : Bool} : BR b X Y = ((b = true → X) ∧ (b = false → Y)) := rfl
attribute [go_sem low] br_any
attribute [go_sem] br_dec br_not
@[go_sem] theorem guP_t {b : Bool} : GuP (.sc (.bool b)) true X Y = BR (Nf b) X Y := by simp [GuP, Nf]
@[go_sem] theorem guP_f {b : Bool} : GuP (.sc (.bool b)) false X Y = BR (Nf b) Y X := by cases b <;> simp [GuP, BR, Nf]
@[go_sem] theorem guP_u {vs : Array Value} : GuP (.sc (.tuple vs)) w X Y = Y := rfl
@[go_sem] theorem ifP_b {b : Bool} : IfP (.sc (.bool b)) X Y = BR (Nf b) X Y := rfl
@[go_sem] theorem guP_undef : GuP (.sc undef) w X Y = Y := rfl

/-! Shapes. -/
@[go_sem] theorem optP_some {α : Type} {u : α} {N : α → Prop} : OptP (some u) N = N u := rfl
@[go_sem] theorem optP_none {α : Type} {N : α → Prop} : OptP none N = False := rfl
@[go_sem] theorem optP_ite {α : Type} {p : Prop} [Decidable p] {u : Option α} {N : α → Prop} : OptP (if p then u else none) N = (p ∧ OptP u N) := by
  split <;> simp [*, optP_none]
@[go_sem] theorem optP_ite' {α : Type} {p : Prop} [Decidable p] {u : Option α} {N : α → Prop} : OptP (if p then none else u) N = (¬ p ∧ OptP u N) := by
  split <;> simp [*, optP_none]
@[go_sem] theorem intP_i {k : IntKind} {m : Int} {N : IntKind → Int → Prop} : IntP (.sc (.int k m)) N = N k m := rfl
@[go_sem] theorem boolP_b {b : Bool} {N : Bool → Prop} : BoolP (.sc (.bool b)) N = N b := rfl
@[go_sem] theorem strP_s {u : ByteArray} {N : ByteArray → Prop} : StrP (.sc (.string u)) N = N u := rfl
@[go_sem] theorem lvP_l {own : Bool} {es : Nat} {l : List (List DV)} {X : Bool → Nat → List (List DV) → Prop} {Y : Nat → Nat → Nat → Nat → Prop} {Z : Prop} : LvP (.list own es l) X Y Z = X own es l := rfl
@[go_sem] theorem lvP_v {i es off k : Nat} {X : Bool → Nat → List (List DV) → Prop} {Y : Nat → Nat → Nat → Nat → Prop} {Z : Prop} : LvP (.vec i es off k) X Y Z = Y i es off k := rfl
@[go_sem] theorem lvP_n {X : Bool → Nat → List (List DV) → Prop} {Y : Nat → Nat → Nat → Nat → Prop} {Z : Prop} : LvP (.sc (.slice none 0 0)) X Y Z = Z := rfl
@[go_sem] theorem listP_l {own : Bool} {es : Nat} {l : List (List DV)} {N : Bool → Nat → List (List DV) → Prop} : ListP (.list own es l) N = N own es l := rfl
@[go_sem] theorem tupP_t {cs : List DV} {N : List DV → Prop} : TupP (.tup cs) N = N cs := rfl
@[go_sem] theorem aggP_a {cs : List DV} {N : List DV → Prop} : AggP (.agg cs) N = N cs := rfl
@[go_sem] theorem scP_s {u : Value} {N : Value → Prop} : ScP (.sc u) N = N u := rfl
@[go_sem] theorem fnP_f {k : FuncId} {p q : List DV} {N : FuncId → List DV → List DV → Prop} : FnP (.fn (.func k) p q) N = N k p q := rfl
@[go_sem high] theorem idxP_map {α β : Type} {l : List α} {f : α → β} {i : Int} {N : β → Prop} : IdxP (l.map f) i N = IdxP l i fun x => N (f x) := by
  simp only [IdxP, List.getElem?_map, Option.map_eq_some_iff, eq_iff_iff]
  constructor
  · rintro ⟨hi, c, ⟨b, hb, rfl⟩, hn⟩; exact ⟨hi, b, hb, hn⟩
  · rintro ⟨hi, b, hb, hn⟩; exact ⟨hi, _, ⟨b, hb, rfl⟩, hn⟩
theorem idxP_nat {α : Type} {l : List α} {i : Nat} {N : α → Prop} : IdxP l (i : Int) N = ∃ hh : i < l.length, N l[i] := by
  simp only [IdxP, Int.toNat_natCast, eq_iff_iff]
  constructor
  · rintro ⟨hi, c, hc, hn⟩
    obtain ⟨hh, rfl⟩ := List.getElem?_eq_some_iff.1 hc
    exact ⟨hh, hn⟩
  · rintro ⟨hh, hn⟩
    exact ⟨by omega, _, List.getElem?_eq_getElem hh, hn⟩
theorem idxP_int {α : Type} {l : List α} {i : Int} {N : α → Prop} : IdxP l i N = (0 ≤ i ∧ ∃ hh : i.toNat < l.length, N l[i.toNat]) := by
  simp only [IdxP, eq_iff_iff]
  constructor
  · rintro ⟨hi, c, hc, hn⟩
    obtain ⟨hh, rfl⟩ := List.getElem?_eq_some_iff.1 hc
    exact ⟨hi, hh, hn⟩
  · rintro ⟨hi, hh, hn⟩
    exact ⟨hi, _, List.getElem?_eq_getElem hh, hn⟩
attribute [go_sem low] idxP_int
attribute [go_sem] idxP_nat
theorem idxS_nat {l : List UInt8} {i : Nat} {N : UInt8 → Prop} : IdxS (mkB l) (i : Int) N = ∃ hh : i < l.length, N l[i] := by
  simp only [IdxS, Int.toNat_natCast, eq_iff_iff]
  by_cases hh : i < (mkB l).size
  · rw [getElem?_pos (mkB l) i hh]
    exact ⟨fun q => ⟨hh, q.2⟩, fun ⟨_, q⟩ => ⟨by omega, q⟩⟩
  · rw [getElem?_neg (mkB l) i hh]
    exact ⟨fun q => False.elim q.2, fun ⟨q, _⟩ => (hh q).elim⟩
theorem idxS_int {l : List UInt8} {i : Int} {N : UInt8 → Prop} : IdxS (mkB l) i N = (0 ≤ i ∧ ∃ hh : i.toNat < l.length, N l[i.toNat]) := by
  simp only [IdxS, eq_iff_iff]
  by_cases hh : i.toNat < (mkB l).size
  · rw [getElem?_pos (mkB l) _ hh]
    exact ⟨fun q => ⟨q.1, hh, q.2⟩, fun ⟨h0, _, q⟩ => ⟨h0, q⟩⟩
  · rw [getElem?_neg (mkB l) _ hh]
    exact ⟨fun q => False.elim q.2, fun ⟨_, q, _⟩ => (hh q).elim⟩
attribute [go_sem low] idxS_int
attribute [go_sem] idxS_nat
@[go_sem] theorem bndP_none {m t : Nat} {N : Nat → Prop} : BndP m t none N = N m := rfl
@[go_sem] theorem bndP_some {m t : Nat} {k : IntKind} {i : Int} {N : Nat → Prop} : BndP m t (some (.sc (.int k i))) N = (0 ≤ i ∧ i ≤ (t : Int) ∧ N i.toNat) := rfl
@[go_sem] theorem bndP_nat {m t : Nat} {k : IntKind} {i : Nat} {N : Nat → Prop} : BndP m t (some (.sc (.int k (i : Int)))) N = (i ≤ t ∧ N i) := by
  simp [BndP, IntP]
@[go_sem] theorem optv_none : optv a none = none := rfl
@[go_sem ↓] theorem optv_some : optv a (some x) = some (x.val a) := rfl
@[go_sem ↓] theorem boxP_eq {N : List DV → Prop} : BoxP n a s N = (s < n ∧ BoxV (Nf (look s a)) N) := rfl
end
end Go.DS

/-
  Rules for the simplifier: the operations.
-/
namespace Go.DS
open Go
set_option linter.unusedVariables false

section
variable {P : Program} {C : Cfg} {n : Nat} {a : AF} {h : DHeap} {N : AF → DHeap → Prop} {K : DV → AF → DHeap → Prop} {s d g i j k es off : Nat} {w m b own : Bool} {v z : DV} {x y c p f : A} {cs : List DV} {dst : Option Nat} {l : List (List DV)}

@[go_sem ↓] theorem wo_mv : WO P C n dst (.mv x) a h K = NfP (Nf (x.val a).shed) fun v => K v a h := rfl
@[go_sem ↓] theorem wo_tk : WO P C n dst (.tk x) a h K = TakeP a x fun v a' => K v a' h := rfl
@[go_sem ↓] theorem wo_pick : WO P C n dst (.pick c x y) a h K = BoolP (Nf (c.val a)) fun b => BR (Nf b) (NfP (Nf (x.val a).shed) fun v => K v a h) (NfP (Nf (y.val a).shed) fun v => K v a h) := rfl
@[go_sem ↓] theorem wo_bin {op : BinOp} {e : BD} : WO P C n dst (.bin op e x y) a h K = OptP (Nf (binC op e (x.val a) (y.val a))) fun v => K v a h := rfl
@[go_sem ↓] theorem wo_un {op : UnOp} : WO P C n dst (.un op x) a h K = ScP (Nf (x.val a)) fun v => OptP (Nf (unC op v)) fun v => K v a h := rfl
@[go_sem ↓] theorem wo_cvi {k : IntKind} : WO P C n dst (.cvi k x) a h K = IntP (Nf (x.val a)) fun _ m => K (.sc (.int k (k.wrap m))) a h := rfl
@[go_sem ↓] theorem wo_cvs : WO P C n dst (.cvs x) a h K = StrP (Nf (x.val a)) fun s => K (.sc (.string s)) a h := rfl
@[go_sem ↓] theorem wo_cvb : WO P C n dst (.cvb x) a h K = ListP (Nf (x.val a)) fun _ _ l => OptP (Nf (unbytes l)) fun xs => NfP (Nf (strOfNums xs)) fun u => K (.sc (.string u)) a h := rfl
@[go_sem ↓] theorem wo_ext : WO P C n dst (.ext x i) a h K = TupP (Nf (x.val a)) fun cs => OptP (Nf cs[i]?) fun v => K v.shed a h := rfl
@[go_sem ↓] theorem wo_fld : WO P C n dst (.fld off m k x) a h K = AggP (Nf (x.val a)) fun cs => OptP (Nf (ofC m k (cs.drop off))) fun v => K v a h := rfl
@[go_sem ↓] theorem wo_mov : WO P C n dst (.mov off x) a h K = MovP n a off (Nf (x.val a)) fun v => K v a h := rfl
@[go_sem ↓] theorem wo_ld : WO P C n dst (.ld m k x) a h K = CellsP n a h (Nf (x.val a)) fun cs => OptP (Nf (ofC m k cs)) fun v => K v a h := rfl
@[go_sem ↓] theorem wo_ldx : WO P C n dst (.ldx b m k x) a h K = CellsP n a h (Nf (x.val a)) fun cs => LdxK b (Nf (ownHead cs)) (fun es l => StoreP n a h (Nf (x.val a)) [.list false es l] fun a' h' => K (.list true es l) a' h')
      (OptP (Nf (ofC m k cs)) fun v => v.isBox = false ∧ K v a h) := rfl
@[go_sem ↓] theorem wo_ixp : WO P C n dst (.ixp es x y) a h K = IntP (Nf (y.val a)) fun _ i => LvP (Nf (x.val a)) (fun _ es' l => es' = es ∧ IdxP l (Nf i) fun c => K (.eptr c) a h) (fun j es' off n => es' = es ∧ 0 ≤ i ∧ i < n ∧ NfP (Nf ((off + i.toNat) * es)) fun q => K (.rptr j q) a h) False := rfl
@[go_sem ↓] theorem wo_ixq : WO P C n dst (.ixq k es x y) a h K = IntP (Nf (y.val a)) fun _ i => 0 ≤ i ∧ i < k ∧ MovP n a (i.toNat * es) (Nf (x.val a)) fun v => K v a h := rfl
@[go_sem ↓] theorem wo_ixs : WO P C n dst (.ixs x y) a h K = IntP (Nf (y.val a)) fun _ i => StrP (Nf (x.val a)) fun s => IdxS s (Nf i) fun b => K (.sc (.int .u8 b.toNat)) a h := rfl
@[go_sem ↓] theorem wo_ixr : WO P C n dst (.ixr j es m k x y) a h K = IntP (Nf (y.val a)) fun _ i => AggP (Nf (x.val a)) fun cs => 0 ≤ i ∧ i < j ∧ OptP (Nf (ofC m k (cs.drop (i.toNat * es)))) fun v => K v a h := rfl
@[go_sem ↓] theorem wo_ss {lo hi : Option A} : WO P C n dst (.ss x lo hi) a h K = StrP (Nf (x.val a)) fun s => BndP s.size s.size (Nf (optv a hi)) fun j => BndP 0 j (Nf (optv a lo)) fun i => NfP (Nf (s.extract i j)) fun u => K (.sc (.string u)) a h := rfl
@[go_sem ↓] theorem wo_sl {lo hi : Option A} : WO P C n dst (.sl es x lo hi) a h K = LvP (Nf (x.val a)) (fun _ es' l => es' = es ∧ BndP l.length l.length (Nf (optv a hi)) fun j => BndP 0 j (Nf (optv a lo)) fun i => K (.list false es ((l.take j).drop i)) a h)
    (fun r es' off m => es' = es ∧ BndP m m (Nf (optv a hi)) fun j => BndP 0 j (Nf (optv a lo)) fun i => NfP (Nf (off + i)) fun q => NfP (Nf (j - i)) fun u => K (.vec r es q u) a h) False := rfl
@[go_sem ↓] theorem wo_sl3 {lo : Option A} : WO P C n dst (.sl3 es x lo y p) a h K = LvP (Nf (x.val a)) (fun _ es' l => es' = es ∧ BndP 0 l.length (Nf (some (p.val a))) fun m => BndP 0 m (Nf (some (y.val a))) fun j => BndP 0 j (Nf (optv a lo)) fun i => K (.list (decide (m = j)) es ((l.take j).drop i)) a h)
    (fun r es' off q => es' = es ∧ BndP 0 q (Nf (some (p.val a))) fun m => BndP 0 m (Nf (some (y.val a))) fun j => BndP 0 j (Nf (optv a lo)) fun i => BR (Nf (decide (m = i))) (K (.list true es []) a h) (NfP (Nf (off + i)) fun u => NfP (Nf (j - i)) fun v => K (.vec r es u v) a h)) False := rfl
@[go_sem ↓] theorem wo_bld {ps : List (Nat × Nat × A)} : WO P C n dst (.bld cs ps) a h K = NfP (Nf cs) fun cs => BuildP a ps cs fun cs => K (.agg cs) a h := rfl
@[go_sem ↓] theorem wo_bsl {ps : List A} : WO P C n dst (.bsl es ps) a h K = RowP es a ps fun l => K (.list true es l) a h := rfl
@[go_sem ↓] theorem wo_mki {t : TypeId} : WO P C n dst (.mki t x) a h K = NfP (Nf (x.val a).shed) fun v => v.plain = true ∧ K (.iface t v) a h := rfl
@[go_sem ↓] theorem wo_lkp {ks : List Nat} : WO P C n dst (.lkp ks m k z b x y) a h K = NfP (Nf (y.val a)) fun u => Nf (keyC m k u) = true ∧ MapAt h (Nf (x.val a)) fun es => OptP (Nf (findD ks u es)) fun r => LkK b (Nf z) r fun v => K v a h := rfl
@[go_sem ↓] theorem wo_len0 : WO P C n dst (.len 0 x) a h K = StrP (Nf (x.val a)) fun s => K (.sc (.int .i64 (s.size : Nat))) a h := rfl
@[go_sem ↓] theorem wo_len1 : WO P C n dst (.len 1 x) a h K = LvP (Nf (x.val a)) (fun _ _ l => K (.sc (.int .i64 (l.length : Nat))) a h) (fun _ _ _ m => K (.sc (.int .i64 (m : Nat))) a h) (K (.sc (.int .i64 0)) a h) := rfl
@[go_sem ↓] theorem wo_len2 : WO P C n dst (.len 2 x) a h K = MapAt h (Nf (x.val a)) fun es => K (.sc (.int .i64 (es.length : Nat))) a h := rfl
@[go_sem ↓] theorem wo_mm : WO P C n dst (.mm b x y) a h K = IntP (Nf (x.val a)) fun k i => IntP (Nf (y.val a)) fun _ j => K (.sc (.int k (mmI b i j))) a h := rfl
@[go_sem ↓] theorem wo_new : WO P C n dst (.new b x) a h K = NewP b dst a h (Nf (cellsD (x.val a).shed)) K := rfl
@[go_sem ↓] theorem wo_newz {zs : List DV} : WO P C n dst (.newz b zs) a h K = NewP b dst a h (Nf zs) K := rfl
@[go_sem ↓] theorem wo_st : WO P C n dst (.st k p x) a h K = TakeP a x fun v a' => NfP (Nf (cellsD v)) fun cs => cs.length = k ∧ StoreP n a' h (Nf (p.val a)) cs fun a'' h' => K .junk a'' h' := rfl
@[go_sem ↓] theorem wo_app : WO P C n dst (.app es k b x y) a h K = (dst.isSome = true ∧ TakeP a x fun v a' => OwnP (Nf v) fun es' l => es' = es ∧ RowsP h es b (Nf (y.val a)) fun m => (l.length + m.length) * k ≤ maxLenD ∧ K (.list true es (l ++ m)) a' h) := rfl
@[go_sem ↓] theorem wo_appv : WO P C n dst (.appv es k b x y) a h K = (dst.isSome = true ∧ RowsP h es b (Nf (y.val a)) fun m => AppV (Nf (x.val a))
    (m.length * k ≤ maxLenD ∧ BR (Nf m.isEmpty) (K (.sc (.slice none 0 0)) a h) (NfP (Nf h.length) fun i => NfP (Nf m.length) fun q => NfP (Nf (h ++ [.row (m.flatten.map DV.shed)])) fun h' => K (.vec i es 0 q) a h'))
    fun j es' q => es' = es ∧ RowO h (Nf j) fun cs => q * es ≤ cs.length ∧ (q + m.length) * k ≤ maxLenD ∧ NfP (Nf h.length) fun i => NfP (Nf (q + m.length)) fun u => NfP (Nf (h.set j .dead ++ [.row (cs.take (q * es) ++ m.flatten.map DV.shed)])) fun h' => K (.vec i es 0 u) a h') := rfl
@[go_sem ↓] theorem wo_mkv {zs : List DV} : WO P C n dst (.mkv es k zs x y) a h K = IntP (Nf (x.val a)) fun _ q => IntP (Nf (y.val a)) fun _ m => q = m ∧ 0 ≤ q ∧ q.toNat * k ≤ maxLenD ∧ NfP (Nf h.length) fun i => NfP (Nf q.toNat) fun u => NfP (Nf (h ++ [.row (List.replicate u zs).flatten])) fun h' => K (.vec i es 0 u) a h' := rfl
@[go_sem ↓] theorem wo_bsv {ps : List A} : WO P C n dst (.bsv es ps) a h K = RowP es a ps fun l => NfP (Nf h.length) fun i => NfP (Nf l.length) fun u => NfP (Nf (h ++ [.row (l.flatten.map DV.shed)])) fun h' => K (.vec i es 0 u) a h' := rfl
@[go_sem] theorem appV_n {X : Prop} {Y : Nat → Nat → Nat → Prop} : AppV (.sc (.slice none 0 0)) X Y = X := rfl
@[go_sem] theorem appV_v {X : Prop} {Y : Nat → Nat → Nat → Prop} : AppV (.vec i es 0 k) X Y = Y i es k := rfl
@[go_sem ↓] theorem wo_del {ks : List Nat} : WO P C n dst (.del ks m k x y) a h K = NfP (Nf (y.val a)) fun u => Nf (keyC m k u) = true ∧ MpP h (Nf (x.val a)) fun i es => OptP (Nf (delKey ks u es)) fun es' => NfP (Nf (h.set i (.map es'))) fun h' => K .junk a h' := rfl
@[go_sem ↓] theorem wo_mup {ks : List Nat} : WO P C n dst (.mup ks m k x y f) a h K = NfP (Nf (y.val a)) fun u => NfP (Nf (f.val a).shed) fun v => Nf (keyC m k u) = true ∧ v.plain = true ∧ MpP h (Nf (x.val a)) fun i es => OptP (Nf (setKey ks u v es)) fun es' => NfP (Nf (h.set i (.map es'))) fun h' => K .junk a h' := rfl
@[go_sem ↓] theorem wo_mkm : WO P C n dst .mkm a h K = NfP (Nf h.length) fun i => NfP (Nf (h ++ [.map []])) fun h' => K (.mp i) a h' := rfl
@[go_sem ↓] theorem wo_mkf {fn : Fn} {xs : List A} : WO P C n dst (.mkf fn i xs) a h K = CapP n xs a fun ds a' => K (.fn fn (ds.take i) (ds.drop i)) a' h := rfl
@[go_sem] theorem rawOK_none {b : Bool} : rawOK none b = True := rfl
@[go_sem] theorem rawOK_some {r b : Bool} : rawOK (some r) b = (b = r) := rfl
@[go_sem ↓] theorem wo_call {xs : List A} {tg : Option Bool} : WO P C n dst (.call tg f xs) a h K = FnP (Nf (f.val a)) fun k fs cs => rawOK tg (C.ext k).isSome ∧ calleeOK P k = true ∧ NfP (Nf (valsC a xs)) fun vs => vs.all DV.plain = true ∧ CallP (Nf (lim P C k (fs ++ vs ++ cs) h)) fun r h' => K r a h' := rfl
@[go_sem ↓] theorem wo_bad : WO P C n dst .bad a h K = False := rfl

@[go_sem] theorem cellsP_eptr {N : List DV → Prop} : CellsP n a h (.eptr cs) N = N cs := rfl
@[go_sem] theorem cellsP_path {N : List DV → Prop} : CellsP n a h (.path i j) N = BoxP n a i fun cs => NfP (Nf (cs.drop j)) N := rfl
@[go_sem] theorem cellsP_ptr {N : List DV → Prop} : CellsP n a h (.ptr i j) N = ObjP h (Nf i) fun cs => NfP (Nf (cs.drop j)) N := rfl
@[go_sem] theorem cellsP_rptr {N : List DV → Prop} : CellsP n a h (.rptr i j) N = RowO h (Nf i) fun cs => NfP (Nf (cs.drop j)) N := rfl
@[go_sem] theorem boxV_box {N : List DV → Prop} : BoxV (.box cs) N = N cs := rfl
@[go_sem] theorem movP_eptr {N : DV → Prop} : MovP n a off (.eptr cs) N = NfP (Nf (cs.drop off)) fun cs => N (.eptr cs) := rfl
@[go_sem] theorem movP_path {N : DV → Prop} : MovP n a off (.path i j) N = BoxP n a i fun _ => NfP (Nf (j + off)) fun k => N (.path i k) := rfl
@[go_sem] theorem movP_ptr {N : DV → Prop} : MovP n a off (.ptr i j) N = NfP (Nf (j + off)) fun k => N (.ptr i k) := rfl
@[go_sem] theorem movP_rptr {N : DV → Prop} : MovP n a off (.rptr i j) N = NfP (Nf (j + off)) fun k => N (.rptr i k) := rfl
@[go_sem ↓] theorem takeP_s {N : DV → AF → Prop} : TakeP a (.s s) N = TakeV s a (Nf (opv s (look s a))) N := rfl
@[go_sem ↓] theorem takeP_c {N : DV → AF → Prop} : TakeP a (.c v) N = NfP (Nf v) fun v => N v a := rfl
@[go_sem] theorem takeV_own {N : DV → AF → Prop} : TakeV s a (.list true es l) N = N (.list true es l) ((s, .list false es l) :: a) := rfl
@[go_sem] theorem takeV_not {N : DV → AF → Prop} : TakeV s a (.list false es l) N = N (.list false es l) a := rfl
@[go_sem] theorem takeV_sc {u : Value} {N : DV → AF → Prop} : TakeV s a (.sc u) N = N (.sc u) a := rfl
@[go_sem] theorem takeV_ptr {N : DV → AF → Prop} : TakeV s a (.ptr i j) N = N (.ptr i j) a := rfl
@[go_sem] theorem takeV_rptr {N : DV → AF → Prop} : TakeV s a (.rptr i j) N = N (.rptr i j) a := rfl
@[go_sem] theorem takeV_vec {N : DV → AF → Prop} : TakeV s a (.vec i es j k) N = N (.vec i es j k) a := rfl
@[go_sem] theorem takeV_eptr {N : DV → AF → Prop} : TakeV s a (.eptr cs) N = N (.eptr cs) a := rfl
@[go_sem] theorem takeV_mp {N : DV → AF → Prop} : TakeV s a (.mp i) N = N (.mp i) a := rfl
@[go_sem] theorem takeV_fn {fn : Fn} {p q : List DV} {N : DV → AF → Prop} : TakeV s a (.fn fn p q) N = N (.fn fn p q) a := rfl
@[go_sem] theorem takeV_iface {t : TypeId} {N : DV → AF → Prop} : TakeV s a (.iface t v) N = N (.iface t v) a := rfl
@[go_sem] theorem takeV_agg {N : DV → AF → Prop} : TakeV s a (.agg cs) N = N (.agg cs) a := rfl
@[go_sem] theorem takeV_tup_own {N : DV → AF → Prop} : TakeV s a (.tup (.list true es l :: cs)) N = N (.tup (.list true es l :: cs)) ((s, .tup (.list false es l :: cs)) :: a) := rfl
@[go_sem] theorem takeV_tup_not {N : DV → AF → Prop} : TakeV s a (.tup (.list false es l :: cs)) N = N (.tup (.list false es l :: cs)) a := rfl
@[go_sem] theorem takeV_tup_sc {u : Value} {N : DV → AF → Prop} : TakeV s a (.tup (.sc u :: cs)) N = N (.tup (.sc u :: cs)) a := rfl
@[go_sem] theorem takeV_tup_agg {xs : List DV} {N : DV → AF → Prop} : TakeV s a (.tup (.agg xs :: cs)) N = N (.tup (.agg xs :: cs)) a := rfl
@[go_sem] theorem takeV_tup_ptr {N : DV → AF → Prop} : TakeV s a (.tup (.ptr i j :: cs)) N = N (.tup (.ptr i j :: cs)) a := rfl
@[go_sem] theorem takeV_tup_mp {N : DV → AF → Prop} : TakeV s a (.tup (.mp i :: cs)) N = N (.tup (.mp i :: cs)) a := rfl
@[go_sem] theorem takeV_tup_rptr {N : DV → AF → Prop} : TakeV s a (.tup (.rptr i j :: cs)) N = N (.tup (.rptr i j :: cs)) a := rfl
@[go_sem] theorem takeV_tup_vec {N : DV → AF → Prop} : TakeV s a (.tup (.vec i es j k :: cs)) N = N (.tup (.vec i es j k :: cs)) a := rfl
@[go_sem] theorem takeV_tup_nil {N : DV → AF → Prop} : TakeV s a (.tup []) N = N (.tup []) a := rfl
@[go_sem] theorem headP_t {x : DV} {N : DV → Prop} : HeadP (.tup (x :: cs)) N = NfP (Nf (hd1 x)) N := rfl
@[congr] theorem headP_congr {v v' : DV} {N : DV → Prop} (e : v = v') : HeadP v N = HeadP v' N := by rw [e]
@[go_sem] theorem hd1_list {o : Bool} : hd1 (.list o es l) = .list o es l := rfl
@[go_sem] theorem hd1_sc {u : Value} : hd1 (.sc u) = .sc u := rfl
@[go_sem] theorem hd1_agg {xs : List DV} : hd1 (.agg xs) = .agg xs := rfl
@[go_sem] theorem hd1_ptr : hd1 (.ptr i j) = .ptr i j := rfl
@[go_sem] theorem hd1_mp : hd1 (.mp i) = .mp i := rfl
@[go_sem] theorem hd1_rptr : hd1 (.rptr i j) = .rptr i j := rfl
@[go_sem] theorem hd1_vec : hd1 (.vec i es j k) = .vec i es j k := rfl
@[go_sem ↓] theorem wo_exh : WO P C n dst (.exh x) a h K = TakeP a x fun v a' => HeadP (Nf v) fun y => K y a' h := rfl
@[go_sem] theorem takeV_path {N : DV → AF → Prop} : TakeV s a (.path i j) N = N (.path i j) a := rfl
@[go_sem] theorem takeV_junk {N : DV → AF → Prop} : TakeV s a .junk N = N .junk a := rfl
@[go_sem] theorem ofC_f : ofC false 1 (v :: cs) = some v.shed := by
  have : ∀ d : DV, unraw 1 d = d := fun d => by unfold unraw; split <;> rfl
  simp [ofC, this]
@[go_sem] theorem ofC_fl {o : Bool} {es : Nat} {l : List (List DV)} : ofC false k (.list o es l :: cs) = some (.list false es l) := rfl
@[go_sem] theorem ofC_fn : ofC false k (.sc (.slice none 0 0) :: cs) = some (if 2 ≤ k then .list true (k - 2) [] else .sc (.slice none 0 0)) := rfl
@[go_sem] theorem ofC_t : ofC true k cs = if k ≤ cs.length then some (.agg ((cs.take k).map DV.shed)) else none := rfl

/-! Numbers, strings. -/
section
variable {kd : IntKind} {u t : Int} {r q : ByteArray}
@[go_sem] theorem binC_add : binC .add .any (.sc (.int kd u)) (.sc (.int kd t)) = some (.sc (.int kd (kd.wrap (u + t)))) := by simp [binC, intC]
@[go_sem] theorem binC_sub : binC .sub .any (.sc (.int kd u)) (.sc (.int kd t)) = some (.sc (.int kd (kd.wrap (u - t)))) := by simp [binC, intC]
@[go_sem] theorem binC_mul : binC .mul .any (.sc (.int kd u)) (.sc (.int kd t)) = some (.sc (.int kd (kd.wrap (u * t)))) := by simp [binC, intC]
@[go_sem] theorem binC_quo : binC .quo .any (.sc (.int kd u)) (.sc (.int kd t)) = if t = 0 then none else some (.sc (.int kd (kd.wrap (u.tdiv t)))) := by simp [binC, intC]
@[go_sem] theorem binC_rem : binC .rem .any (.sc (.int kd u)) (.sc (.int kd t)) = if t = 0 then none else some (.sc (.int kd (u.tmod t))) := by simp [binC, intC]
@[go_sem] theorem binC_lss : binC .lss .any (.sc (.int kd u)) (.sc (.int kd t)) = some (.sc (.bool (decide (u < t)))) := by simp [binC, intC]
@[go_sem] theorem binC_leq : binC .leq .any (.sc (.int kd u)) (.sc (.int kd t)) = some (.sc (.bool (decide (u ≤ t)))) := by simp [binC, intC]
@[go_sem] theorem binC_gtr : binC .gtr .any (.sc (.int kd u)) (.sc (.int kd t)) = some (.sc (.bool (decide (t < u)))) := by simp [binC, intC]
@[go_sem] theorem binC_geq : binC .geq .any (.sc (.int kd u)) (.sc (.int kd t)) = some (.sc (.bool (decide (t ≤ u)))) := by simp [binC, intC]
@[go_sem] theorem binC_eql : binC .eql .any (.sc (.int kd u)) (.sc (.int kd t)) = some (.sc (.bool (decide (u = t)))) := by simp [binC, intC]
@[go_sem] theorem binC_neq : binC .neq .any (.sc (.int kd u)) (.sc (.int kd t)) = some (.sc (.bool (!decide (u = t)))) := by simp [binC, intC]
@[go_sem] theorem binC_sadd {r q : List UInt8} : binC .add .any (.sc (.string (mkB r))) (.sc (.string (mkB q))) = if (r.length + q.length : Int) ≤ 9223372036854775807 then some (.sc (.string (mkB (r ++ q)))) else none := by
  simp only [binC, strC, mkB_size, mkB_app]
@[go_sem] theorem binC_seql {r q : List UInt8} : binC .eql .any (.sc (.string (mkB r))) (.sc (.string (mkB q))) = some (.sc (.bool (decide (r = q)))) := by
  simp only [binC, strC, mkB_inj]
@[go_sem] theorem binC_sneq {r q : List UInt8} : binC .neq .any (.sc (.string (mkB r))) (.sc (.string (mkB q))) = some (.sc (.bool (!decide (r = q)))) := by
  simp only [binC, strC, mkB_inj]
@[go_sem] theorem binC_slss {r q : List UInt8} : binC .lss .any (.sc (.string (mkB r))) (.sc (.string (mkB q))) = some (.sc (.bool (Op.bytesLess r q))) := rfl
@[go_sem] theorem binC_sleq {r q : List UInt8} : binC .leq .any (.sc (.string (mkB r))) (.sc (.string (mkB q))) = some (.sc (.bool (Op.bytesLess r q || decide (r = q)))) := by
  simp only [binC, strC, mkB_inj]; rfl
@[go_sem] theorem binC_sgtr {r q : List UInt8} : binC .gtr .any (.sc (.string (mkB r))) (.sc (.string (mkB q))) = some (.sc (.bool (!(Op.bytesLess r q || decide (r = q))))) := by
  simp only [binC, strC, mkB_inj]; rfl
@[go_sem] theorem binC_sgeq {r q : List UInt8} : binC .geq .any (.sc (.string (mkB r))) (.sc (.string (mkB q))) = some (.sc (.bool (!Op.bytesLess r q))) := rfl
@[go_sem] theorem binC_beql {u t : Bool} : binC .eql .bool (.sc (.bool u)) (.sc (.bool t)) = some (.sc (.bool (u == t))) := rfl
@[go_sem] theorem binC_bneq {u t : Bool} : binC .neq .bool (.sc (.bool u)) (.sc (.bool t)) = some (.sc (.bool (!(u == t)))) := rfl
@[go_sem] theorem unC_not {b : Bool} : unC .not (.bool b) = some (.sc (.bool (!b))) := rfl
@[go_sem] theorem unC_neg : unC .neg (.int kd u) = some (.sc (.int kd (kd.wrap (0 - u)))) := rfl
@[go_sem] theorem binC_flat_eq {ks : List Nat} {xs ys : List DV} : binC .eql (.flat ks) (.agg xs) (.agg ys) = (eqs ks xs ys).map fun r => .sc (.bool r) := by
  simp only [binC]; cases eqs ks xs ys <;> rfl
@[go_sem] theorem binC_flat_ne {ks : List Nat} {xs ys : List DV} : binC .neq (.flat ks) (.agg xs) (.agg ys) = (eqs ks xs ys).map fun r => .sc (.bool (!r)) := by
  simp only [binC]; cases eqs ks xs ys <;> rfl
@[go_sem] theorem binC_ptr {op : BinOp} {v z : DV} : binC op .ptr v z = nilC op (isNilC .ptr v) (isNilC .ptr z) := rfl
@[go_sem] theorem binC_map {op : BinOp} {v z : DV} : binC op .map v z = nilC op (isNilC .map v) (isNilC .map z) := rfl
@[go_sem] theorem binC_func {op : BinOp} {v z : DV} : binC op .func v z = nilC op (isNilC .func v) (isNilC .func z) := rfl
end
attribute [go_sem] isNilC nilC scs eqV eq1
@[go_sem] theorem eqs_eq {ks : List Nat} {xs ys : List DV} {p q : List Value} (h1 : scs xs = some p) (h2 : scs ys = some q) : eqs ks xs ys = eqV ks p q := by simp only [eqs, h1, h2]

@[go_sem] theorem unbytes_nil : unbytes [] = some [] := rfl
@[go_sem] theorem unbytes_cons {t : Int} : unbytes ([.sc (.int .u8 t)] :: l) = (unbytes l).map fun r => t :: r := by
  simp only [unbytes]; cases unbytes l <;> rfl
@[go_sem] theorem strOfNums_mk {ts : List Int} : strOfNums ts = mkB (ts.map fun t => UInt8.ofNat t.toNat) := rfl
/-! The rest. -/
@[go_sem ↓] theorem buildP_nil {N : List DV → Prop} : BuildP a [] cs N = N cs := rfl
@[go_sem ↓] theorem buildP_cons {ps : List (Nat × Nat × A)} {N : List DV → Prop} : BuildP a ((off, k, x) :: ps) cs N = NfP (Nf (cellsD (x.val a).shed)) fun c => c.length = k ∧ off + k ≤ cs.length ∧ c.all DV.cell = true ∧ NfP (Nf (cs.take off ++ c ++ cs.drop (off + k))) fun cs => BuildP a ps cs N := rfl
@[go_sem ↓] theorem rowP_nil {N : List (List DV) → Prop} : RowP es a [] N = N [] := rfl
@[go_sem ↓] theorem rowP_cons {xs : List A} {N : List (List DV) → Prop} : RowP es a (x :: xs) N = NfP (Nf (cellsD (x.val a).shed)) fun c => c.length = es ∧ c.all DV.cell = true ∧ RowP es a xs fun r => N (c :: r) := rfl
@[go_sem] theorem cellsD_agg : cellsD (.agg cs) = cs.map DV.shed := rfl
@[go_sem] theorem cellsD_sc {u : Value} : cellsD (.sc u) = [.sc u] := rfl
@[go_sem] theorem cellsD_list : cellsD (.list own es l) = [.list own es l] := rfl
@[go_sem] theorem cellsD_ptr : cellsD (.ptr i j) = [.ptr i j] := rfl
@[go_sem] theorem cellsD_eptr : cellsD (.eptr cs) = [.eptr cs] := rfl
@[go_sem] theorem cellsD_mp : cellsD (.mp i) = [.mp i] := rfl
@[go_sem] theorem cellsD_rptr : cellsD (.rptr i j) = [.rptr i j] := rfl
@[go_sem] theorem cellsD_vec : cellsD (.vec i es j k) = [.vec i es j k] := rfl
@[go_sem] theorem cellsD_fn {fn : Fn} {p q : List DV} : cellsD (.fn fn p q) = [.fn fn p q] := rfl
@[go_sem] theorem cellsD_iface {t : TypeId} : cellsD (.iface t v) = [.iface t v] := rfl
@[go_sem] theorem cell_int {k : IntKind} {u : Int} : DV.cell (.sc (.int k u)) = true := rfl
@[go_sem] theorem cell_bool : DV.cell (.sc (.bool b)) = true := rfl
@[go_sem] theorem cell_str {u : ByteArray} : DV.cell (.sc (.string u)) = true := rfl
@[go_sem] theorem cell_nilp : DV.cell (.sc (.pointer none)) = true := rfl
@[go_sem] theorem cell_nilm : DV.cell (.sc (.map none)) = true := rfl
@[go_sem] theorem cell_nilf : DV.cell (.sc .nilFunc) = true := rfl
@[go_sem] theorem cell_nili : DV.cell (.sc .nilIface) = true := rfl
@[go_sem] theorem cell_list : DV.cell (.list own es l) = true := rfl
@[go_sem] theorem cell_ptr : DV.cell (.ptr i j) = true := rfl
@[go_sem] theorem cell_eptr : DV.cell (.eptr cs) = true := rfl
@[go_sem] theorem cell_mp : DV.cell (.mp i) = true := rfl
@[go_sem] theorem cell_rptr : DV.cell (.rptr i j) = true := rfl
@[go_sem] theorem cell_vec : DV.cell (.vec i es j k) = true := rfl
@[go_sem] theorem cell_fn {fn : Fn} {p q : List DV} : DV.cell (.fn fn p q) = true := rfl
@[go_sem] theorem cell_iface {t : TypeId} : DV.cell (.iface t v) = true := rfl
@[go_sem] theorem plain_sc {u : Value} : DV.plain (.sc u) = true := rfl
@[go_sem] theorem plain_list : DV.plain (.list own es l) = true := rfl
@[go_sem] theorem plain_ptr : DV.plain (.ptr i j) = true := rfl
@[go_sem] theorem plain_eptr : DV.plain (.eptr cs) = true := rfl
@[go_sem] theorem plain_mp : DV.plain (.mp i) = true := rfl
@[go_sem] theorem plain_rptr : DV.plain (.rptr i j) = true := rfl
@[go_sem] theorem plain_vec : DV.plain (.vec i es j k) = true := rfl
@[go_sem] theorem plain_fn {fn : Fn} {p q : List DV} : DV.plain (.fn fn p q) = true := rfl
@[go_sem] theorem plain_iface {t : TypeId} : DV.plain (.iface t v) = true := rfl
@[go_sem] theorem plain_agg : DV.plain (.agg cs) = true := rfl
@[go_sem] theorem plain_tup : DV.plain (.tup cs) = true := rfl
@[go_sem] theorem plain_junk : DV.plain .junk = true := rfl
@[go_sem] theorem plain_bx : DV.plain (.box cs) = false := rfl
@[go_sem] theorem plain_pth : DV.plain (.path i j) = false := rfl
@[go_sem] theorem isBox_list : DV.isBox (.list own es l) = false := rfl
@[go_sem] theorem isBox_agg : DV.isBox (.agg cs) = false := rfl
@[go_sem] theorem isBox_sc {u : Value} : DV.isBox (.sc u) = false := rfl
@[go_sem] theorem ownHead_own : ownHead (.list true es l :: cs) = some (es, l) := rfl
@[go_sem] theorem ownHead_not : ownHead (.list false es l :: cs) = none := rfl
@[go_sem] theorem ownHead_sc {u : Value} : ownHead (.sc u :: cs) = none := rfl
@[go_sem] theorem ownHead_ptr : ownHead (.ptr i j :: cs) = none := rfl
@[go_sem] theorem ownHead_rptr : ownHead (.rptr i j :: cs) = none := rfl
@[go_sem] theorem ownHead_vec : ownHead (.vec i es j k :: cs) = none := rfl
@[go_sem] theorem ownHead_mp : ownHead (.mp i :: cs) = none := rfl
@[go_sem] theorem ownHead_eptr {l : List DV} : ownHead (.eptr l :: cs) = none := rfl
@[go_sem] theorem ownHead_fn {fn : Fn} {p q : List DV} : ownHead (.fn fn p q :: cs) = none := rfl
@[go_sem] theorem ownHead_iface {t : TypeId} : ownHead (.iface t v :: cs) = none := rfl
@[go_sem] theorem ldxK_t {X : Nat → List (List DV) → Prop} {Y : Prop} : LdxK true (some (es, l)) X Y = X es l := rfl
@[go_sem] theorem ldxK_f {o : Option (Nat × List (List DV))} {X : Nat → List (List DV) → Prop} {Y : Prop} : LdxK false o X Y = Y := by cases o <;> rfl
@[go_sem] theorem ldxK_n {X : Nat → List (List DV) → Prop} {Y : Prop} : LdxK b none X Y = Y := by cases b <;> rfl
@[go_sem] theorem rowsP_l {N : List (List DV) → Prop} : RowsP h k b (.list own es l) N = (es = k ∧ N l) := rfl
@[go_sem] theorem rowsP_s {u : ByteArray} {N : List (List DV) → Prop} : RowsP h k b (.sc (.string u)) N = (b = true ∧ N (bytesD u)) := rfl
@[go_sem] theorem rowsP_n {N : List (List DV) → Prop} : RowsP h k b (.sc (.slice none 0 0)) N = N [] := rfl
@[go_sem] theorem rowsP_v {N : List (List DV) → Prop} : RowsP h k b (.vec i es off j) N = (es = k ∧ RowO h (Nf i) fun cs => (off + j) * es ≤ cs.length ∧ NfP (Nf (chunk es j (cs.drop (off * es)))) N) := rfl
@[go_sem] theorem ownP_l {N : Nat → List (List DV) → Prop} : OwnP (.list true es l) N = N es l := rfl
@[go_sem] theorem callP_some {r : DV} {h' : DHeap} {N : DV → DHeap → Prop} : CallP (some (r, h')) N = N r h' := rfl
@[go_sem ↓] theorem valsC_nil : valsC a [] = [] := rfl
@[go_sem ↓] theorem valsC_cons {xs : List A} : valsC a (x :: xs) = (x.val a).shed :: valsC a xs := rfl
@[go_sem] theorem newP_f {K : DV → AF → DHeap → Prop} : NewP false (some s) a h cs K = (cs.all DV.cell = true ∧ NfP (Nf (a.map fun e => (e.1, kill s e.2))) fun a' => K (.box cs) a' h) := by simp [NewP, NfP, Nf]
@[go_sem] theorem newP_t {K : DV → AF → DHeap → Prop} : NewP true (some s) a h cs K = (cs.all DV.cell = true ∧ NfP (Nf h.length) fun i => NfP (Nf (h ++ [.cells cs])) fun h' => K (.ptr i 0) a h') := by simp [NewP, NfP, Nf]
@[go_sem] theorem storeP_path {new : List DV} : StoreP n a h (.path i off) new N = (new.all DV.cell = true ∧ BoxP n a i fun cs => off + new.length ≤ cs.length ∧ NfP (Nf (cs.take off ++ new ++ cs.drop (off + new.length))) fun cs => N ((i, .box cs) :: a) h) := rfl
@[go_sem] theorem storeP_ptr {new : List DV} : StoreP n a h (.ptr i off) new N = (new.all DV.cell = true ∧ ObjP h i fun cs => off + new.length ≤ cs.length ∧ NfP (Nf (cs.take off ++ new ++ cs.drop (off + new.length))) fun cs => NfP (Nf (h.set i (.cells cs))) fun h' => N a h') := rfl
@[go_sem] theorem storeP_rptr {new : List DV} : StoreP n a h (.rptr i off) new N = (new.all DV.cell = true ∧ RowO h i fun cs => off + new.length ≤ cs.length ∧ NfP (Nf (cs.take off ++ new.map DV.shed ++ cs.drop (off + new.length))) fun cs => NfP (Nf (h.set i (.row cs))) fun h' => N a h') := rfl
@[go_sem] theorem mapAt_nil {N : List (DV × DV) → Prop} : MapAt h (.sc (.map none)) N = N [] := rfl
@[go_sem] theorem mapAt_mp {N : List (DV × DV) → Prop} : MapAt h (.mp i) N = MapP h (Nf i) N := rfl
@[go_sem] theorem mpP_mp {N : Nat → List (DV × DV) → Prop} : MpP h (.mp i) N = MapP h (Nf i) (N i) := rfl
@[go_sem] theorem lkK_t {o : Option DV} {N : DV → Prop} : LkK true z o N = NfP (Nf (o.getD z).shed) fun v => N (.tup [v, .sc (.bool o.isSome)]) := rfl
@[go_sem] theorem lkK_f {o : Option DV} {N : DV → Prop} : LkK false z o N = NfP (Nf (o.getD z).shed) N := rfl
@[go_sem] theorem kill_path : kill s (.path i j) = if i = s then .junk else .path i j := rfl
@[go_sem] theorem kill_sc {u : Value} : kill s (.sc u) = .sc u := rfl
@[go_sem] theorem kill_list : kill s (.list own es l) = .list own es l := rfl
@[go_sem] theorem kill_ptr : kill s (.ptr i j) = .ptr i j := rfl
@[go_sem] theorem kill_rptr : kill s (.rptr i j) = .rptr i j := rfl
@[go_sem] theorem kill_vec : kill s (.vec i es j k) = .vec i es j k := rfl
@[go_sem] theorem kill_eptr : kill s (.eptr cs) = .eptr cs := rfl
@[go_sem] theorem kill_mp : kill s (.mp i) = .mp i := rfl
@[go_sem] theorem kill_fn {fn : Fn} {p q : List DV} : kill s (.fn fn p q) = .fn fn p q := rfl
@[go_sem] theorem kill_iface {t : TypeId} : kill s (.iface t v) = .iface t v := rfl
@[go_sem] theorem kill_agg : kill s (.agg cs) = .agg cs := rfl
@[go_sem] theorem kill_tup : kill s (.tup cs) = .tup cs := rfl
@[go_sem] theorem kill_box : kill s (.box cs) = .box cs := rfl
@[go_sem] theorem kill_junk : kill s .junk = .junk := rfl
@[go_sem ↓] theorem capP_nil {N : List DV → AF → Prop} : CapP n [] a N = N [] a := rfl
@[go_sem ↓] theorem capP_s {xs : List A} {N : List DV → AF → Prop} : CapP n (.s s :: xs) a N = (s < n ∧ CapV (Nf (look s a)) (fun cs => cs.all DV.cell = true ∧ CapP n xs ((s, .eptr (cs.map DV.shed)) :: a) fun ds a' => N (.eptr (cs.map DV.shed) :: ds) a')
      fun d => d.plain = true ∧ CapP n xs a fun ds a' => N (d.shed :: ds) a') := rfl
@[go_sem] theorem capV_box {X : List DV → Prop} {Y : DV → Prop} : CapV (.box cs) X Y = X cs := rfl
@[go_sem] theorem capV_sc {u : Value} {X : List DV → Prop} {Y : DV → Prop} : CapV (.sc u) X Y = Y (.sc u) := rfl
@[go_sem] theorem capV_list {X : List DV → Prop} {Y : DV → Prop} : CapV (.list own es l) X Y = Y (.list own es l) := rfl
@[go_sem] theorem capV_ptr {X : List DV → Prop} {Y : DV → Prop} : CapV (.ptr i j) X Y = Y (.ptr i j) := rfl
@[go_sem] theorem capV_mp {X : List DV → Prop} {Y : DV → Prop} : CapV (.mp i) X Y = Y (.mp i) := rfl
@[go_sem] theorem capV_rptr {X : List DV → Prop} {Y : DV → Prop} : CapV (.rptr i j) X Y = Y (.rptr i j) := rfl
@[go_sem] theorem capV_vec {X : List DV → Prop} {Y : DV → Prop} : CapV (.vec i es j k) X Y = Y (.vec i es j k) := rfl
@[go_sem] theorem capV_eptr {X : List DV → Prop} {Y : DV → Prop} : CapV (.eptr cs) X Y = Y (.eptr cs) := rfl
@[go_sem] theorem capV_fn {fn : Fn} {p q : List DV} {X : List DV → Prop} {Y : DV → Prop} : CapV (.fn fn p q) X Y = Y (.fn fn p q) := rfl
@[go_sem] theorem capV_agg {X : List DV → Prop} {Y : DV → Prop} : CapV (.agg cs) X Y = Y (.agg cs) := rfl
@[go_sem] theorem keyC_t : keyC true k (.agg cs) = (match scs cs with | some xs => xs.length == k | none => false) := rfl
@[go_sem] theorem keyC_f {u : Value} : keyC false k (.sc u) = true := rfl

/-! Results. -/
@[go_sem ↓] theorem finP_n {rs : List RV} {R : DV → DHeap → Prop} : FinP n rs R .normal a h = RetAll n a h rs fun xs => NfP (Nf (one xs)) fun r => R r h := rfl
@[go_sem ↓] theorem finP_r {rs : List RV} {R : DV → DHeap → Prop} : FinP n rs R .ret a h = RetAll n a h rs fun xs => NfP (Nf (one xs)) fun r => R r h := rfl
@[go_sem ↓] theorem retAll_nil {N : List DV → Prop} : RetAll n a h [] N = N [] := rfl
@[go_sem ↓] theorem retAll_cons {r : RV} {rs : List RV} {N : List DV → Prop} : RetAll n a h (r :: rs) N = RetOne n a h r fun x => RetAll n a h rs fun xs => N (x :: xs) := rfl
@[go_sem ↓] theorem retOne_s {N : DV → Prop} : RetOne n a h (.s s) N = NfP (Nf (look s a)) fun v => s < n ∧ v.plain = true ∧ N v := rfl
@[go_sem ↓] theorem retOne_b {N : DV → Prop} : RetOne n a h (.b s m k) N = (s < n ∧ CellsP n a h (Nf (opv s (look s a))) fun cs => OptP (Nf (ofC m k cs)) N) := rfl
@[go_sem] theorem one_1 : one [v] = v := rfl
@[go_sem] theorem one_0 : one [] = .tup [] := rfl
@[go_sem] theorem one_2 {u : DV} {xs : List DV} : one (v :: u :: xs) = .tup (v :: (u :: xs).map DV.shed) := rfl

/-! Drawn regions. -/
attribute [go_sem] preA postA ent quiet stays chk noPathV DrawP
attribute [go_sem] List.drop_succ_cons List.drop_zero List.take_succ_cons List.take_zero List.length_cons List.length_nil List.all_cons List.all_nil List.cons_append List.nil_append List.append_nil
  Bool.and_true Bool.true_and Bool.and_self true_and and_true Nat.reduceAdd Nat.reduceLeDiff Nat.reduceLT Nat.reduceMul Nat.reduceEqDiff Nat.reduceBEq if_true if_false Int.toNat_natCast List.getElem?_cons_zero List.getElem?_cons_succ
  beq_true beq_false Bool.not_true Bool.not_false Option.isSome_some Option.getD_some Option.getD_none Option.isSome_none Option.map_some Nat.zero_add List.any_cons List.any_nil Bool.or_false Bool.false_or decide_true decide_false Bool.false_eq_true Bool.true_eq_false not_true_eq_false not_false_eq_true
  Int.reduceEq Int.reduceLT Int.reduceLE Int.reduceNeg Int.reduceAdd Int.reduceSub Int.reduceMul Int.reduceToNat Nat.reduceSub Int.natCast_zero Int.cast_ofNat_Int
  implies_true true_imp_iff false_imp_iff imp_self imp_false
  BEq.rfl Bool.or_true Bool.true_or Nat.add_zero Bool.not_not List.length_map List.map_nil Bool.not_eq_true reduceCtorEq Nat.zero_le Int.toNat_zero
end
end Go.DS

/-
  Loops; whole numbers; bytes.
-/
namespace Go.DS
open Go
set_option linter.unusedVariables false

section
variable {P : Program} {C : Cfg} {n : Nat} {a : AF} {h : DHeap} {Q : XD → AF → DHeap → Prop} {ks : List Nat} {c : Cd} {t1 : Tag c} {t2 : Tag Q}
/-- A loop, by a state, what holds of it ahead of each round, and a number that falls. -/
theorem wp_for {σ : Type} (fr : σ → AF) (hp : σ → DHeap) (μ : σ → Nat) (J : σ → Prop) (s : σ) (hJ : J s) (ha : keepA (some ks) a = fr s) (hh : h = hp s)
    (hs : ∀ s, J s → ∀ N : AF → DHeap → Prop, (∀ s' a', μ s' < μ s → J s' → keepA (some ks) a' = fr s' → N a' (hp s')) → WP P C n c (fr s) (hp s) (ThenK N Q)) : LoopG P C n ks c a h Q t1 t2 := by
  refine wp_LP (fun m a h => ∃ s, m = μ s ∧ J s ∧ keepA (some ks) a = fr s ∧ h = hp s) (μ s) ⟨s, rfl, hJ, ha, hh⟩ ?_
  rintro m a h ⟨s, rfl, hJ, ha, rfl⟩
  rw [ha]
  exact hs s hJ _ fun s' a' h1 h2 h3 => ⟨_, h1, s', rfl, h2, h3, rfl⟩
end

theorem wrap64 {x : Int} (h1 : -9223372036854775808 ≤ x) (h2 : x ≤ 9223372036854775807) : IntKind.wrap .i64 x = x := by
  simp [IntKind.wrap, IntKind.signed, IntKind.bits]; omega
attribute [go_sem] wrap64
theorem wrap_succ {k : Nat} (h : k < 9223372036854775807) : IntKind.wrap .i64 ((k : Int) + 1) = ((k + 1 : Nat) : Int) := by
  rw [wrap64 (by omega) (by omega)]; rfl
theorem wrap_pred {k : Nat} (h0 : 0 < k) (h : k < 9223372036854775807) : IntKind.wrap .i64 ((k : Int) - 1) = ((k - 1 : Nat) : Int) := by
  rw [wrap64 (by omega) (by omega)]; omega
theorem wrap_add {k m : Nat} (h : k + m ≤ 9223372036854775807) : IntKind.wrap .i64 ((k : Int) + (m : Int)) = ((k + m : Nat) : Int) := by
  rw [wrap64 (by omega) (by omega)]; rfl
theorem wrap_sub {k m : Nat} (h0 : m ≤ k) (h : k ≤ 9223372036854775807) : IntKind.wrap .i64 ((k : Int) - (m : Int)) = ((k - m : Nat) : Int) := by
  rw [wrap64 (by omega) (by omega)]; omega

end Go.DS

/-
  Drawn regions in which nothing is watched, with less to look at.
-/
namespace Go.DS
open Go
set_option linter.unusedVariables false
set_option linter.unusedSimpArgs false
/-- What a drawn region asks behind an operation, where nothing is kept. -/
def postC (us : List Nat) (n : Nat) (v : DV) (a : AF) : Bool := match v with
  | .path s' _ => us.any fun s => s == s' || (decide (s < n) && match look s a with | .path s'' _ => s'' == s' | _ => false)
  | .box _ => false
  | _ => true
theorem preA_ff {n d : Nat} {bl : Bool} {g : Option (Nat × Bool)} {o : O} {us : List Nat} {a : AF} : preA n (cd (some d) bl g o false false us) a = (decide (d < n) && quiet (look d a)) := by simp [preA, cd]
theorem postA_ff {n d : Nat} {bl : Bool} {g : Option (Nat × Bool)} {o : O} {us : List Nat} {a a' : AF} {v : DV} : postA n [] (cd (some d) bl g o false false us) v a a' = postC us n v a := by
  cases v <;> first | rfl | simp [postA, postC, cd]
theorem postC_sc {us : List Nat} {n : Nat} {a : AF} {x : Value} : postC us n (.sc x) a = true := rfl
theorem postC_list {us : List Nat} {n : Nat} {a : AF} {b : Bool} {k : Nat} {l : List (List DV)} : postC us n (.list b k l) a = true := rfl
theorem postC_agg {us : List Nat} {n : Nat} {a : AF} {l : List DV} : postC us n (.agg l) a = true := rfl
theorem postC_ptr {us : List Nat} {n : Nat} {a : AF} {i j : Nat} : postC us n (.ptr i j) a = true := rfl
theorem postC_eptr {us : List Nat} {n : Nat} {a : AF} {l : List DV} : postC us n (.eptr l) a = true := rfl
theorem postC_rptr {us : List Nat} {n : Nat} {a : AF} {i j : Nat} : postC us n (.rptr i j) a = true := rfl
theorem postC_vec {us : List Nat} {n : Nat} {a : AF} {i es j k : Nat} : postC us n (.vec i es j k) a = true := rfl
theorem postC_mp {us : List Nat} {n : Nat} {a : AF} {i : Nat} : postC us n (.mp i) a = true := rfl
theorem postC_fn {us : List Nat} {n : Nat} {a : AF} {f : Fn} {x y : List DV} : postC us n (.fn f x y) a = true := rfl
theorem postC_tup {us : List Nat} {n : Nat} {a : AF} {x : List DV} : postC us n (.tup x) a = true := rfl
theorem postC_junk {us : List Nat} {n : Nat} {a : AF} : postC us n .junk a = true := rfl
theorem postC_path {s : Nat} {n off : Nat} {a : AF} : postC [s] n (.path s off) a = true := by simp [postC]
theorem postC_path2 {s t : Nat} {n off : Nat} {a : AF} : postC [s] n (.path t off) a = (s == t || (decide (s < n) && match look s a with | .path s'' _ => s'' == t | _ => false)) := by simp [postC]
variable {P : Program} {C : Cfg} {n : Nat} {o : O} {os : List Cop} {a : AF} {h : DHeap} {N : AF → DHeap → Prop} {g : Nat} {w : Bool}
theorem wops_n2 {d : Nat} {bl : Bool} {us : List Nat} : WOps P C n (some []) (cd (some d) bl none o false false us :: os) a h N =
    ((decide (d < n) = true ∧ quiet (look d a) = true) ∧ WO P C n (some d) o a h fun v a' h' => NfP (Nf v) fun v => postC us n v a = true ∧ PutP bl (some d) (Nf v) a' fun a'' => WOps P C n (some []) os a'' h' N) := by
  rw [wops_cd_n]
  simp only [preA_ff, postA_ff, Nf, Bool.and_eq_true]
theorem wops_g2 {d : Nat} {bl : Bool} {us : List Nat} : WOps P C n (some []) (cd (some d) bl (some (g, w)) o false false us :: os) a h N =
    ((decide (d < n) = true ∧ quiet (look d a) = true) ∧ GuP (Nf (look g a)) w (WO P C n (some d) o a h fun v a' h' => NfP (Nf v) fun v => postC us n v a = true ∧ PutP bl (some d) (Nf v) a' fun a'' => WOps P C n (some []) os a'' h' N) (PutP false (some d) (Nf (.sc undef)) a fun a'' => WOps P C n (some []) os a'' h N)) := by
  rw [wops_cd_g]
  simp only [preA_ff, postA_ff, Nf, Bool.and_eq_true]
theorem wp_RD0 {l : List Cop} {k : List Nat} {Q : XD → AF → DHeap → Prop} : WP P C n (RD l k []) a h Q = WOps P C n (some []) l a h fun a' h' => NfP (Nf (keepA (some k) a')) fun a'' => Q .normal a'' h' := by
  rw [wp_RD]
  simp [DrawP]
@[go_sem high] theorem idxP_cons0 {α : Type} {x : α} {l : List α} {N : α → Prop} : IdxP (x :: l) 0 N = N x := by simp [IdxP]
@[go_sem high] theorem idxP_cons1 {α : Type} {x y : α} {l : List α} {N : α → Prop} : IdxP (x :: y :: l) 1 N = N y := by simp [IdxP]
@[go_sem high] theorem idxP_cons2 {α : Type} {x y z : α} {l : List α} {N : α → Prop} : IdxP (x :: y :: z :: l) 2 N = N z := by simp [IdxP]
theorem mkB_eq9 (s u : List UInt8) : (mkB s == mkB u) = decide (s = u) := by
  have h : (mkB s == mkB u) = (Array.mk s == Array.mk u) := rfl
  rw [h, Bool.eq_iff_iff]
  simp
/-- Structs compared, cell by cell. -/
theorem eqs_int {k : IntKind} {m n : Int} {ks : List Nat} {x y : List DV} : eqs (0 :: ks) (.sc (.int k m) :: x) (.sc (.int k n) :: y) = (eqs ks x y).map (fun q => decide (m = n) && q) := by
  unfold eqs
  simp only [scs]
  cases scs x <;> cases scs y <;> simp only [Option.map]
  rename_i a b
  simp only [eqV, eq1, if_true]
  cases eqV ks a b <;> rfl
theorem eqs_str {s u : List UInt8} {ks : List Nat} {x y : List DV} : eqs (2 :: ks) (.sc (.string (mkB s)) :: x) (.sc (.string (mkB u)) :: y) = (eqs ks x y).map (fun q => decide (s = u) && q) := by
  unfold eqs
  simp only [scs]
  cases scs x <;> cases scs y <;> simp only [Option.map]
  rename_i a b
  simp only [eqV, eq1, mkB_eq9]
  cases eqV ks a b <;> rfl
theorem eqs_nil : eqs [] [] [] = some true := rfl
attribute [go_sem low] eqs_int eqs_str eqs_nil
attribute [go_sem] Option.map_some
theorem nat_nn9 (k : Nat) : (0 : Int) ≤ (k : Int) := by omega
theorem exists_true_iff {p : True → Prop} : (∃ h : True, p h) = p trivial := by simp
attribute [go_sem ↓ high] wops_n2 wops_g2 wp_RD0
attribute [go_sem ↓] postC_sc postC_list postC_agg postC_ptr postC_rptr postC_vec postC_eptr postC_path postC_mp postC_fn postC_tup postC_junk
attribute [go_sem] exists_true_left exists_prop
end Go.DS
