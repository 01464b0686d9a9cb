/- The plain machine, its soundness, and the functions told by it: a part of the proof. -/
import Derived.LoopN
import Derived.Laws.AppendOwn
import Derived.Laws.Cells
import Derived.ChangeKeysEq
import Derived.Deep.AppendSrc
import Derived.Laws.MakeOwn
import Derived.Great.BuildSlice
import Derived.Laws.IdiomStrings
import Derived.Laws.Cover4
import Derived.Laws.BytesString
import Derived.Laws.Runes
set_option linter.all false

namespace Ev
open Go

/-- What is known of a slice's room. any: nothing · nilk: it is nil · nn: it is not nil · full: its capacity is its length · tok k e: token k's, its end at e · rm, fresh: results alone. -/
inductive Own where
  | any | nilk | nn | full | tok (k e : Nat) | rm | fresh
  deriving DecidableEq, Inhabited

inductive D where
  | int (k : IntKind) (n : Int)
  | bool (b : Bool)
  | str (s : List UInt8)
  | k (v : Value)
  | sl (o : Own) (w : Nat) (els : List (List D))
  | ref (ds : List D)
  | ptr (j off : Nat)
  | loc (j off w len : Nat)
  | clo (f : Nat) (caps : List D)
  | agg (ds : List D)
  | tup (ds : List D)
  deriving Inhabited

def D.undef : D := .tup []

/-- cells of a value -/
def D.cells : D → List D
  | .agg ds => ds
  | d => [d]

/-- tokens are left behind -/
def D.er : D → D
  | .sl (.tok _ _) w els => .sl .any w els
  | d => d

/-- one cell, nothing tracked in it -/
def D.pc : D → Bool
  | .int _ _ | .bool _ | .str _ | .k _ => true
  | .sl .any _ _ | .sl .nilk _ _ | .sl .nn _ _ | .sl .full _ _ => true
  | _ => false

/-- a value, nothing tracked in it -/
def D.pv : D → Bool
  | .agg ds => ds.all D.pc
  | d => d.pc

inductive Blk where
  | mem (fr : Bool) (cells : List D)
  | iter (s : List UInt8) (pos : Nat)
  | dead
  deriving Inhabited

structure St where
  blks : List Blk
  toks : List Nat

inductive Opd where
  | t (n : Nat)
  | d (x : D)

def Opd.ev (ρ : List D) : Opd → D
  | .t n => ρ.getD n .undef
  | .d x => x

inductive Mode where
  | any | tok | trk
  deriving DecidableEq

abbrev Fn := List D → List Blk → Option (D × List Blk)

inductive Cv where
  | toInt (k : IntKind)
  | same
  | bytes
  | ofBytes
  | ofRune
  deriving DecidableEq

inductive Ins where
  | mov (x : Opd)
  | nilc (x : Opd)
  | pick (c a b : Opd)
  | alloc (zs : List D)
  | box (x : Opd)
  | build (zs : List D) (parts : List (Nat × Nat × Opd))
  | bsl (m : Mode) (w : Nat) (zs : List D) (len : Nat) (parts : List (Nat × Opd))
  | load (w : Nat) (ag : Bool) (x : Opd)
  | store (w : Nat) (x v : Opd)
  | bin (op : BinOp) (x y : Opd)
  | eqb (neg : Bool) (x y : Opd)
  | eqa (n : Nat) (neg : Bool) (x y : Opd)
  | eqnil (neg : Bool) (x y : Opd)
  | neg (op : UnOp) (x : Opd)
  | cv (m : Mode) (c : Cv) (x : Opd)
  | arrp (n : Nat) (x : Opd)
  | slS (w : Nat) (x : Opd) (lo hi : Option Opd)
  | slT (x : Opd) (lo hi : Option Opd)
  | slA (w n : Nat) (x : Opd) (lo hi : Option Opd)
  | fadr (off : Nat) (x : Opd)
  | iadrS (w : Nat) (x i : Opd)
  | iadrA (w n : Nat) (x i : Opd)
  | idxT (x i : Opd)
  | ext (i : Nat) (x : Opd)
  | call (f : Nat) (args : List Opd) (sel : List Nat) (m : Mode)
  | len (x : Opd)
  | lenT (x : Opd)
  | lenC (n : Nat)
  | app (st : Bool) (m : Mode) (w bs : Nat) (x y : Opd)
  | copyB (w : Nat) (x y : Opd)
  | mm (mx : Bool) (args : List Opd)
  | mk (m : Mode) (w bs : Nat) (zs : List D) (len : Opd)
  | rng (x : Opd)
  | nxt (x : Opd)
  | never

structure EOp where
  dst : Option Nat
  ins : Ins
  guard : Option (Nat × Bool) := none

inductive Gh where
  | frz (t : Nat)        -- the block that slot t points to is written no more
  | frzS (t : Nat) (m : Mode)   -- the tracked slice in slot t is written no more: it is a plain one
  | own (t : Nat)        -- a nil or full slice in slot t gets a token

inductive ECode where
  | skip
  | reg (ops : List EOp)
  | regD (ops : List EOp) (ws : List (Nat × Nat))
  | seq (a b : ECode)
  | cond (c : Opd) (a b : ECode)
  | block (id : Nat) (c : ECode)
  | loop (c : ECode)
  | exit (id : Nat)
  | ret
  | gh (g : Gh) (c : ECode)

-- ------------------------------------------------------------------ helpers
/-- what is known of a slice's room behind a slice expression that ends at h of n -/
def Own.slc (o : Own) (h n : Nat) : Own := if h = n ∧ (o = .full ∨ o = .nilk) then .full else .any

def chunks (w : Nat) : Nat → List D → List (List D)
  | 0, _ => []
  | n + 1, ds => ds.take w :: chunks w n (ds.drop w)

/-- a new slice of these elements -/
def St.newSl (A : St) (m : Mode) (o : Own) (w : Nat) (els : List (List D)) : D × St :=
  match m with
  | .any => (.sl o w els, A)
  | .tok => (.sl (.tok A.toks.length els.length) w els, { A with toks := A.toks ++ [els.length] })
  | .trk => (.loc A.blks.length 0 w els.length, { A with blks := A.blks ++ [.mem false els.flatten] })

def St.push (A : St) (b : Blk) : D × St := (.ptr A.blks.length 0, { A with blks := A.blks ++ [b] })

/-- what a slice reads as -/
def St.els (A : St) (w : Nat) : D → Option (List (List D))
  | .sl _ w' els => if w' = w ∨ els = [] then some els else none
  | .loc j off w' n =>
    if w' = w then
      match A.blks[j]? with
      | some (.mem _ cells) => if off + n * w ≤ cells.length then some (chunks w n ((cells.drop off).map D.er)) else none
      | _ => if n = 0 then some [] else none
    else none
  | _ => none

def D.asInt : D → Option Int
  | .int _ n => some n
  | _ => none

def binInt (op : BinOp) (k : IntKind) (a b : Int) : Option D :=
  match op with
  | .add => some (.int k (k.wrap (a + b)))
  | .sub => some (.int k (k.wrap (a - b)))
  | .mul => some (.int k (k.wrap (a * b)))
  | .quo => if b = 0 then none else some (.int k (k.wrap (a.tdiv b)))
  | .rem => if b = 0 then none else some (.int k (a.tmod b))
  | .and => some (.int k (k.wrap (BitVec.ofInt k.bits a &&& BitVec.ofInt k.bits b).toNat))
  | .or => some (.int k (k.wrap (BitVec.ofInt k.bits a ||| BitVec.ofInt k.bits b).toNat))
  | .xor => some (.int k (k.wrap (BitVec.ofInt k.bits a ^^^ BitVec.ofInt k.bits b).toNat))
  | .andNot => some (.int k (k.wrap (BitVec.ofInt k.bits a &&& ~~~ BitVec.ofInt k.bits b).toNat))
  | .eql => some (.bool (a == b))
  | .neq => some (.bool (a != b))
  | .lss => some (.bool (decide (a < b)))
  | .leq => some (.bool (decide (a ≤ b)))
  | .gtr => some (.bool (decide (a > b)))
  | .geq => some (.bool (decide (a ≥ b)))
  | .shl | .shr => none

def shInt (op : BinOp) (k : IntKind) (a b : Int) : Option D :=
  if b < 0 then none else
  match op with
  | .shl => some (.int k (k.wrap (a * 2 ^ (min b.toNat k.bits))))
  | .shr => some (.int k (a.fdiv (2 ^ (min b.toNat k.bits))))
  | _ => none

def binStr (op : BinOp) (x y : List UInt8) : Option D :=
  match op with
  | .add => if x.length + y.length ≤ 2 ^ 62 then some (.str (x ++ y)) else none
  | .eql => some (.bool (x == y))
  | .neq => some (.bool (!(x == y)))
  | .lss => some (.bool (Op.bytesLess x y))
  | .leq => some (.bool (Op.bytesLess x y || x == y))
  | .gtr => some (.bool (!(Op.bytesLess x y || x == y)))
  | .geq => some (.bool (!(Op.bytesLess x y)))
  | _ => none

def runBin (op : BinOp) : D → D → Option D
  | .int k a, .int k' b =>
    match op with
    | .shl | .shr => shInt op k a b
    | _ => if k = k' then binInt op k a b else none
  | .str a, .str b => binStr op a b
  | _, _ => none

/-- arrays of whole numbers -/
def eqCells : List D → List D → Option Bool
  | [], [] => some true
  | .int k a :: r, .int k' b :: r' => if k = k' then (if a = b then eqCells r r' else some false) else none
  | _, _ => none

def runNeg (op : UnOp) : D → Option D
  | .int k n => match op with
    | .neg => some (.int k (k.wrap (0 - n)))
    | .xor => some (.int k (k.wrap (BitVec.ofInt k.bits (if k.signed then -1 else k.max) ^^^ BitVec.ofInt k.bits n).toNat))
    | _ => none
  | .bool b => match op with | .not => some (.bool (!b)) | _ => none
  | _ => none

def byteD (b : UInt8) : List D := [.int .u8 b.toNat]
def bytesD (l : List UInt8) : List (List D) := l.map byteD
def unByte : List D → Option UInt8
  | [.int .u8 n] => some (UInt8.ofNat n.toNat)
  | _ => none
def bound (x : Option D) (dflt : Nat) (mx : Nat) : Option Nat :=
  match x with
  | none => some dflt
  | some (.int _ i) => if 0 ≤ i ∧ i ≤ mx then some i.toNat else none
  | _ => none

/-- lo, hi of a slice expression over n elements -/
def bounds (n : Nat) (lo hi : Option D) : Option (Nat × Nat) :=
  match bound hi n n with
  | none => none
  | some h => match bound lo 0 h with
    | none => none
    | some l => some (l, h)

def putCells (zs : List D) : List (Nat × Nat × D) → Option (List D)
  | [] => some zs
  | (off, size, v) :: r =>
    if v.cells.length = size ∧ off + size ≤ zs.length ∧ v.cells.all D.pc0 then putCells (zs.take off ++ v.cells ++ zs.drop (off + size)) r else none
where D.pc0 : D → Bool
  | .tup _ | .agg _ | .sl .rm _ _ | .sl .fresh _ _ => false
  | _ => true

end Ev

namespace Ev
open Go

def loadD (A : St) (w : Nat) (ag : Bool) : D → Option D
  | .ptr j off =>
    match A.blks[j]? with
    | some (.mem _ cells) =>
      if ag then (if off + w ≤ cells.length then some (.agg (((cells.drop off).take w).map D.er)) else none)
      else cells[off]?
    | _ => none
  | .ref ds => if ag then (if w ≤ ds.length then some (.agg (ds.take w)) else none) else ds[0]?
  | _ => none

def storeD (A : St) (w : Nat) (x v : D) : Option (D × St) :=
  match x with
  | .ptr j off =>
    match A.blks[j]? with
    | some (.mem false cells) =>
      if v.cells.length = w ∧ off + w ≤ cells.length ∧ v.cells.all putCells.D.pc0 then
        some (.undef, { A with blks := A.blks.set j (.mem false (cells.take off ++ v.cells ++ cells.drop (off + w))) })
      else none
    | _ => none
  | _ => none

def sliceS (w : Nat) (x : D) (lo hi : Option D) : Option D :=
  match x with
  | .sl o w' els =>
    if w' = w then
      match bounds els.length lo hi with
      | some (l, h) => some (.sl (o.slc h els.length) w ((els.take h).drop l))
      | none => none
    else none
  | .loc j off w' n =>
    if w' = w then
      match bounds n lo hi with
      | some (l, h) => some (.loc j (off + l * w) w (h - l))
      | none => none
    else none
  | _ => none

def sliceA (A : St) (w n : Nat) (x : D) (lo hi : Option D) : Option D :=
  match bounds n lo hi with
  | none => none
  | some (l, h) =>
    match x with
    | .ptr j off =>
      match A.blks[j]? with
      | some (.mem true cells) =>
        if off + n * w ≤ cells.length ∧ 0 < n ∧ 0 < w then some (.sl (Own.slc .full h n) w (((chunks w n (cells.drop off)).take h).drop l)) else none
      | some (.mem false cells) => if off + n * w ≤ cells.length ∧ 0 < n ∧ 0 < w then some (.loc j (off + l * w) w (h - l)) else none
      | _ => none
    | .ref ds => if n * w ≤ ds.length ∧ 0 < n ∧ 0 < w then some (.sl (Own.slc .full h n) w (((chunks w n ds).take h).drop l)) else none
    | _ => none

def iaS (w : Nat) (x i : D) : Option D :=
  match i with
  | .int _ i =>
    if 0 ≤ i then
      match x with
      | .sl _ _ els => match els[i.toNat]? with
        | some el => if el.length = w then some (.ref el) else none
        | none => none
      | .loc j off w' n => if w' = w ∧ i.toNat < n then some (.ptr j (off + i.toNat * w)) else none
      | _ => none
    else none
  | _ => none

def iaA (w n : Nat) (x i : D) : Option D :=
  match i with
  | .int _ i =>
    if 0 ≤ i ∧ i < n then
      match x with
      | .ptr j off => some (.ptr j (off + i.toNat * w))
      | .ref ds => if i.toNat * w ≤ ds.length then some (.ref (ds.drop (i.toNat * w))) else none
      | _ => none
    else none
  | _ => none

/-- the elements that are appended; st: those of a string -/
def appEls (A : St) (st : Bool) (w : Nat) (y : D) : Option (List (List D)) :=
  if st then
    match y with
    | .str s => if w = 1 then some (bytesD s) else none
    | _ => none
  else A.els w y

def appD (A : St) (st : Bool) (m : Mode) (w bs : Nat) (x y : D) : Option (D × St) :=
  match appEls A st w y with
  | none => none
  | some ys =>
    if ys.all (fun el => el.all D.pc) then
      match x with
      | .sl o w' els =>
        if w' = w ∧ (els.length + ys.length) * bs ≤ 140737488355328 then
          match o, m with
          | .tok k e, .tok => if A.toks[k]? = some e then some (.sl (.tok k (e + ys.length)) w (els ++ ys), { A with toks := A.toks.set k (e + ys.length) }) else none
          | .nilk, .trk => if els = [] then some (A.newSl .trk .any w ys) else none
          | .full, .trk => if els = [] then some (A.newSl .trk .any w ys) else none
          | .nilk, m => some (A.newSl m .any w (els ++ ys))
          | .full, m => some (A.newSl m .any w (els ++ ys))
          | _, _ => none
        else none
      | .loc j off w' n =>
        match m, A.blks[j]? with
        | .trk, some (.mem false cells) =>
          if w' = w ∧ off = 0 ∧ cells.length = n * w ∧ (n + ys.length) * bs ≤ 140737488355328 then
            some (.loc A.blks.length 0 w (n + ys.length), { A with blks := A.blks.set j .dead ++ [.mem false (cells ++ ys.flatten)] })
          else none
        | _, _ => none
      | _ => none
    else none

def copyD (A : St) (w : Nat) (x y : D) : Option (D × St) :=
  match x, y with
  | .loc j off w' n, .sl _ w2 ys =>
    match A.blks[j]? with
    | some (.mem false cells) =>
      if w' = w ∧ w2 = w ∧ off + n * w ≤ cells.length ∧ 0 < n ∧ 0 < w then
        some (.int .i64 (min ys.length n : Nat), { A with blks := A.blks.set j (.mem false (cells.take off ++ (ys.take (min ys.length n)).flatten ++ cells.drop (off + (min ys.length n) * w))) })
      else none
    | _ => none
  | _, _ => none

def cvD (A : St) (m : Mode) (c : Cv) (x : D) : Option (D × St) :=
  match c, x with
  | .toInt k, .int _ n => some (.int k (k.wrap n), A)
  | .same, .str s => some (.str s, A)
  | .bytes, .str s => some (A.newSl m .any 1 (bytesD s))
  | .ofRune, .int _ n => some (.str (Utf8.encode n).data.toList, A)
  | .ofBytes, x =>
    match A.els 1 x with
    | some els => match els.mapM unByte with
      | some l => some (.str l, A)
      | none => none
    | none => none
  | _, _ => none

def mmD (mx : Bool) : D → List D → Option D
  | .int k a, [] => some (.int k a)
  | .int k a, .int k' b :: r => if k = k' then mmD mx (.int k (if mx then (if b > a then b else a) else (if b < a then b else a))) r else none
  | _, _ => none

/-- a result as its caller takes it -/
def takeRes (m : Mode) (A : St) : D → D × St
  | .sl .fresh w els => A.newSl m .any w els
  | .sl .rm w els => A.newSl (if m = .trk then .any else m) .any w els
  | d => (d, A)

def takeRess (m : Mode) (A : St) : List D → List D × St
  | [] => ([], A)
  | d :: r => let x := takeRes m A d; let y := takeRess m x.2 r; (x.1 :: y.1, y.2)

def takeResT (m : Mode) (A : St) : D → D × St
  | .tup ds => let x := takeRess m A ds; (.tup x.1, x.2)
  | d => takeRes m A d

/-- which block an argument speaks of -/
def D.blk : D → Option Nat
  | .ptr j _ => some j
  | .loc j _ _ _ => some j
  | _ => none

/-- an argument as the callee has it: the blocks that it is handed are 0, 1, .. -/
def D.ren (js : List Nat) : D → Option D
  | .ptr j off => match js.idxOf? j with | some i => some (.ptr i off) | none => none
  | .loc j off w n => match js.idxOf? j with | some i => some (.loc i off w n) | none => none
  | d => if d.er.pv then some d.er else none

def setBlks (bs : List Blk) : List Nat → List Blk → List Blk
  | j :: js, b :: r => setBlks (bs.set j b) js r
  | _, _ => bs

def callD (S : Nat → Option Fn) (A : St) (f : Nat) (args : List D) (sel : List Nat) (m : Mode) : Option (D × St) :=
  match S f with
  | none => none
  | some F =>
    match sel.mapM (fun i => (args.getD i .undef).blk) with
    | none => none
    | some js =>
      match js.mapM (fun j => A.blks[j]?), args.mapM (D.ren js) with
      | some B, some args' =>
        if js.Nodup ∧ B.all (fun b => match b with | .mem fr cells => !fr && cells.all D.pc | _ => false) then
          match F args' B with
          | some (r, B') => if B'.length = B.length then some (takeResT m { A with blks := setBlks A.blks js B' } r) else none
          | none => none
        else none
      | _, _ => none

def nilcD : D → Option D
  | .ptr j off => some (.ptr j off)
  | .ref ds => some (.ref ds)
  | _ => none

def eqnilD (ng : Bool) : D → D → Option D
  | .ptr _ _, .k (.pointer none) => some (.bool ng)
  | .k (.pointer none), .k (.pointer none) => some (.bool !ng)
  | .sl .nilk _ _, .sl .nilk _ _ => some (.bool !ng)
  | .sl .nn _ _, .sl .nilk _ _ => some (.bool ng)
  | .sl _ _ (_ :: _), .sl .nilk _ _ => some (.bool ng)
  | _, _ => none

def fadrD (off : Nat) : D → Option D
  | .ptr j o => some (.ptr j (o + off))
  | .ref ds => some (.ref (ds.drop off))
  | _ => none

def lenD : D → Option D
  | .sl _ _ els => some (.int .i64 els.length)
  | .loc _ _ _ n => some (.int .i64 n)
  | _ => none

def Ins.run (S : Nat → Option Fn) (ρ : List D) (A : St) : Ins → Option (D × St)
  | .mov x => some (x.ev ρ, A)
  | .nilc x => match nilcD (x.ev ρ) with | some d => some (d, A) | none => none
  | .pick c a b => match c.ev ρ with
    | .bool t => some (if t then a.ev ρ else b.ev ρ, A)
    | _ => none
  | .alloc zs => some (A.push (.mem false zs))
  | .box x => let v := x.ev ρ; if v.cells.all putCells.D.pc0 then some (A.push (.mem false v.cells)) else none
  | .build zs parts =>
    match putCells zs (parts.map fun p => (p.1, p.2.1, (p.2.2).ev ρ)) with
    | some cs => some (.agg (cs.map D.er), A)
    | none => none
  | .bsl m w zs ln parts =>
    match putCells ((List.replicate ln zs).flatten) (parts.map fun p => (p.1 * w, w, (p.2).ev ρ)) with
    | some cs => let cs' := cs.map D.er; if zs.length = w ∧ cs'.all D.pc then some (A.newSl m .full w (chunks w ln cs')) else none
    | none => none
  | .load w ag x => match loadD A w ag (x.ev ρ) with | some d => some (d, A) | none => none
  | .store w x v => storeD A w (x.ev ρ) (v.ev ρ)
  | .bin op x y => match runBin op (x.ev ρ) (y.ev ρ) with | some d => some (d, A) | none => none
  | .eqb ng x y => match x.ev ρ, y.ev ρ with
    | .bool a, .bool b => some (.bool (if ng then !(a == b) else (a == b)), A)
    | _, _ => none
  | .eqa n ng x y => match x.ev ρ, y.ev ρ with
    | .agg a, .agg b => if a.length = n ∧ b.length = n then (match eqCells a b with | some t => some (.bool (if ng then !t else t), A) | none => none) else none
    | _, _ => none
  | .eqnil ng x y => match eqnilD ng (x.ev ρ) (y.ev ρ) with | some d => some (d, A) | none => none
  | .neg op x => match runNeg op (x.ev ρ) with | some d => some (d, A) | none => none
  | .cv m c x => cvD A m c (x.ev ρ)
  | .arrp n x => match x.ev ρ with
    | .sl _ w els => if w = 1 ∧ 0 < n ∧ n ≤ els.length then some (.ref ((els.take n).flatten), A) else none
    | _ => none
  | .slS w x lo hi => match sliceS w (x.ev ρ) (lo.map (·.ev ρ)) (hi.map (·.ev ρ)) with | some d => some (d, A) | none => none
  | .slT x lo hi => match x.ev ρ with
    | .str s => match bounds s.length (lo.map (·.ev ρ)) (hi.map (·.ev ρ)) with
      | some (l, h) => some (.str ((s.take h).drop l), A)
      | none => none
    | _ => none
  | .slA w n x lo hi => match sliceA A w n (x.ev ρ) (lo.map (·.ev ρ)) (hi.map (·.ev ρ)) with | some d => some (d, A) | none => none
  | .fadr off x => match fadrD off (x.ev ρ) with | some d => some (d, A) | none => none
  | .iadrS w x i => match iaS w (x.ev ρ) (i.ev ρ) with | some d => some (d, A) | none => none
  | .iadrA w n x i => match iaA w n (x.ev ρ) (i.ev ρ) with | some d => some (d, A) | none => none
  | .idxT x i => match x.ev ρ, i.ev ρ with
    | .str s, .int _ i => if 0 ≤ i then (match s[i.toNat]? with | some b => some (.int .u8 b.toNat, A) | none => none) else none
    | _, _ => none
  | .ext i x => match x.ev ρ with
    | .tup ds => match ds[i]? with | some d => some (d, A) | none => none
    | _ => none
  | .call f args sel m => callD S A f (args.map (·.ev ρ)) sel m
  | .len x => match lenD (x.ev ρ) with | some d => some (d, A) | none => none
  | .lenT x => match x.ev ρ with
    | .str s => some (.int .i64 s.length, A)
    | _ => none
  | .lenC n => some (.int .i64 n, A)
  | .app st m w bs x y => appD A st m w bs (x.ev ρ) (y.ev ρ)
  | .copyB w x y => copyD A w (x.ev ρ) (y.ev ρ)
  | .mm mx args => match args.map (·.ev ρ) with
    | a :: r => match mmD mx a r with | some d => some (d, A) | none => none
    | [] => none
  | .mk m w bs zs l => match l.ev ρ with
    | .int _ n => if 0 ≤ n ∧ n * bs ≤ 140737488355328 ∧ n < 9223372036854775808 ∧ zs.length = w ∧ zs.all D.pc then some (A.newSl m .full w (List.replicate n.toNat zs)) else none
    | _ => none
  | .rng x => match x.ev ρ with
    | .str s => some (A.push (.iter s 0))
    | _ => none
  | .nxt x => match x.ev ρ with
    | .ptr j 0 => match A.blks[j]? with
      | some (.iter s pos) =>
        if pos < s.length then
          let c := Utf8.decode ⟨s.toArray⟩ pos
          some (.tup [.bool true, .int .i64 pos, .int .i32 c.1], { A with blks := A.blks.set j (.iter s (pos + c.2)) })
        else some (.tup [.bool false], A)
      | _ => none
    | _ => none
  | .never => none

def EOp.run (S : Nat → Option Fn) (o : EOp) (ρ : List D) (A : St) : Option (List D × St) :=
  let go : Option (List D × St) :=
    match o.ins.run S ρ A with
    | some (d, A') => some (match o.dst with | some t => ρ.set t d | none => ρ, A')
    | none => none
  match o.guard with
  | none => go
  | some (s, want) =>
    match ρ.getD s .undef with
    | .bool b => if b = want then go else some (match o.dst with | some t => ρ.set t .undef | none => ρ, A)
    | .tup [] => some (match o.dst with | some t => ρ.set t .undef | none => ρ, A)
    | _ => none

def runOps (S : Nat → Option Fn) : List EOp → List D → St → Option (List D × St)
  | [], ρ, A => some (ρ, A)
  | o :: r, ρ, A => match o.run S ρ A with
    | some (ρ', A') => runOps S r ρ' A'
    | none => none

def Gh.run (g : Gh) (ρ : List D) (A : St) : Option (List D × St) :=
  match g with
  | .frz t => match ρ.getD t .undef with
    | .ptr j _ => match A.blks[j]? with
      | some (.mem false cells) => if cells.all D.pc then some (ρ, { A with blks := A.blks.set j (.mem true cells) }) else none
      | _ => none
    | _ => none
  | .frzS t m => match ρ.getD t .undef with
    | .loc j off w n => match A.blks[j]? with
      | some (.mem false cells) =>
        if off = 0 ∧ cells.length = n * w ∧ 0 < w ∧ cells.all D.pc then
          let x := ({ A with blks := A.blks.set j .dead } : St).newSl (if m = .trk then .any else m) .any w (chunks w n cells)
          some (ρ.set t x.1, x.2)
        else none
      | _ => none
    | _ => none
  | .own t => match ρ.getD t .undef with
    | .sl .nilk w els => some (ρ.set t (.sl (.tok A.toks.length els.length) w els), { A with toks := A.toks ++ [els.length] })
    | .sl .full w els => some (ρ.set t (.sl (.tok A.toks.length els.length) w els), { A with toks := A.toks ++ [els.length] })
    | _ => none

inductive Ex where
  | normal | exit (id : Nat) | ret

abbrev Step := List D → St → Option (Ex × List D × St)

def rounds (f : Step) : Nat → Step
  | 0, _, _ => none
  | n + 1, ρ, A => match f ρ A with
    | some (.normal, ρ', A') => rounds f n ρ' A'
    | r => r

def ECode.run (S : Nat → Option Fn) (n : Nat) : ECode → Step
  | .skip, ρ, A => some (.normal, ρ, A)
  | .reg ops, ρ, A => match runOps S ops ρ A with | some (ρ', A') => some (.normal, ρ', A') | none => none
  | .regD ops _, ρ, A => match runOps S ops ρ A with | some (ρ', A') => some (.normal, ρ', A') | none => none
  | .seq a b, ρ, A => match a.run S n ρ A with
    | some (.normal, ρ', A') => b.run S n ρ' A'
    | r => r
  | .cond c a b, ρ, A => match c.ev ρ with
    | .bool t => if t then a.run S n ρ A else b.run S n ρ A
    | _ => none
  | .block id c, ρ, A => match c.run S n ρ A with
    | some (.exit id', ρ', A') => if id' = id then some (.normal, ρ', A') else some (.exit id', ρ', A')
    | r => r
  | .loop c, ρ, A => rounds (c.run S n) n ρ A
  | .exit id, ρ, A => some (.exit id, ρ, A)
  | .ret, ρ, A => some (.ret, ρ, A)
  | .gh g c, ρ, A => match g.run ρ A with
    | some (ρ', A') => c.run S n ρ' A'
    | none => none

inductive ERes where
  | tmp (t : Nat)
  | cell (a w : Nat) (ag : Bool)

structure EFn where
  nt : Nat
  res : List ERes
  body : ECode

/-- a result as it leaves; nb: how many blocks were handed in -/
def outRes (A : St) (nb : Nat) : D → Option D
  | .sl (.tok k e) w els => some (.sl (if A.toks[k]? = some e then .rm else .any) w els)
  | .loc j off w n =>
    match A.blks[j]? with
    | some (.mem false cells) => if nb ≤ j ∧ off = 0 ∧ cells.length = n * w ∧ 0 < w ∧ cells.all D.pc then some (.sl .fresh w (chunks w n cells)) else none
    | some (.mem true cells) => if off + n * w ≤ cells.length then some (.sl .any w (chunks w n (cells.drop off))) else none
    | _ => none
  | d => if d.pv then some d else none

def isNew : D → Bool
  | .sl .rm _ _ | .sl .fresh _ _ => true
  | _ => false

def ERes.get (ρ : List D) (A : St) : ERes → Option D
  | .tmp t => some (ρ.getD t .undef)
  | .cell a w ag => loadD A w ag (ρ.getD a .undef)

def EFn.run (S : Nat → Option Fn) (n : Nat) (fn : EFn) (args : List D) (B : List Blk) : Option (D × List Blk) :=
  match fn.body.run S n (args ++ List.replicate (fn.nt - args.length) .undef) { blks := B, toks := [] } with
  | some (.exit _, _, _) | none => none
  | some (_, ρ, A) =>
    match fn.res.mapM (fun r => (r.get ρ A).bind (outRes A B.length)) with
    | none => none
    | some rs =>
      let B' := A.blks.take B.length
      if (rs.filter isNew).length ≤ 1 ∧ B'.all (fun b => match b with | .mem fr cells => !fr && (cells.map D.er).all D.pc | _ => false) then
        some (match rs with | [r] => r | rs => .tup rs, B'.map fun b => match b with | .mem fr cells => .mem fr (cells.map D.er) | b => b)
      else none

end Ev

namespace Ev
open Go

structure G where
  mu : Nat → Nat → Option Value
  nb : Nat
  nt : Nat
  m : Nat → Nat × Nat × Nat
  fr : Nat → Nat
  rho : Nat → Option (Nat × Nat × Nat)

abbrev cellAt (w : World) (b o : Nat) : Option Value := w.cell? ⟨b, o, none⟩
abbrev frozenAt (w : World) (b o : Nat) : Bool := w.frozen? ⟨b, o, none⟩

def OwnR (g : G) (v : Value) (w n : Nat) : Own → Prop
  | .any => True
  | .nilk => v = .slice none 0 0
  | .nn => ∃ a l c, v = .slice (some a) l c
  | .full => ∃ a, v = .slice a n n
  | .tok k e => k < g.nt ∧ e ≤ g.fr k ∧ (e = g.fr k → (∃ a, v = .slice a n n) ∨
      ∃ b off cap sz, v = .slice (some ⟨b, off, none⟩) n cap ∧ g.rho k = some (b, off + n * w, sz) ∧ off + cap * w ≤ sz)
  | .rm => False
  | .fresh => False

def flatV : Value → Bool
  | .pointer none | .nilFunc | .nilIface | .map none | .chan none => true
  | _ => false

inductive R (g : G) : Value → D → Prop
  | int (k : IntKind) (n : Int) : R g (.int k n) (.int k n)
  | bool (b : Bool) : R g (.bool b) (.bool b)
  | str (s : List UInt8) : R g (.string ⟨s.toArray⟩) (.str s)
  | k (v : Value) (hv : flatV v = true) : R g v (.k v)
  | sl0 (a : Option Addr) (o : Own) (w cap : Nat) (ha : a = none → cap = 0) (hs : ∀ x, a = some x → x.spot = x.spot)
      (ho : OwnR g (.slice a 0 cap) w 0 o) : R g (.slice a 0 cap) (.sl o w [])
  | sl (b off cap : Nat) (o : Own) (w : Nat) (els : List (List D)) (vs : Nat → Value) (hcap : els.length ≤ cap)
      (hw : ∀ el, el ∈ els → el.length = w) (hpc : ∀ el, el ∈ els → ∀ c, c ∈ el → c.pc = true)
      (hmu : ∀ j, j < els.length * w → g.mu b (off + j) = some (vs j))
      (hr : ∀ j d, els.flatten[j]? = some d → R g (vs j) d)
      (ho : OwnR g (.slice (some ⟨b, off, none⟩) els.length cap) w els.length o) :
      R g (.slice (some ⟨b, off, none⟩) els.length cap) (.sl o w els)
  | ref (b off : Nat) (ds : List D) (vs : Nat → Value) (hpc : ∀ c, c ∈ ds → c.pc = true) (hmu : ∀ j, j < ds.length → g.mu b (off + j) = some (vs j))
      (hr : ∀ j d, ds[j]? = some d → R g (vs j) d) : R g (.pointer (some ⟨b, off, none⟩)) (.ref ds)
  | ptr (j off : Nat) (hj : j < g.nb) : R g (.pointer (some ⟨(g.m j).1, (g.m j).2.1 + off, none⟩)) (.ptr j off)
  | loc (j off w n cap : Nat) (hj : j < g.nb) (hcap : n ≤ cap) (hl : (g.m j).2.1 + off + cap * w ≤ (g.m j).2.2) :
      R g (.slice (some ⟨(g.m j).1, (g.m j).2.1 + off, none⟩) n cap) (.loc j off w n)
  | loc0 (a : Option Addr) (j off w : Nat) (hj : j < g.nb) (hs : ∀ x, a = some x → x.spot = x.spot) : R g (.slice a 0 0) (.loc j off w 0)
  | clo (f : Nat) (vs : Array Value) (ds : List D) (hl : vs.size = ds.length) (hr : ∀ (i : Nat) v d, vs[i]? = some v → ds[i]? = some d → R g v d) :
      R g (.func (.func f) #[] vs) (.clo f ds)
  | agg (vs : Array Value) (ds : List D) (hl : vs.size = ds.length) (hr : ∀ (i : Nat) v d, vs[i]? = some v → ds[i]? = some d → R g v d) :
      R g (.agg vs) (.agg ds)
  | tup (vs : Array Value) (ds : List D) (hl : vs.size = ds.length) (hr : ∀ (i : Nat) v d, vs[i]? = some v → ds[i]? = some d → R g v d) :
      R g (.tuple vs) (.tup ds)

structure GLe (g g' : G) : Prop where
  mu : ∀ b o v, g.mu b o = some v → g'.mu b o = some v
  nb : g.nb ≤ g'.nb
  nt : g.nt ≤ g'.nt
  m : ∀ j, j < g.nb → g'.m j = g.m j
  tok : ∀ k, k < g.nt → (g'.fr k = g.fr k ∧ g'.rho k = g.rho k) ∨ g.fr k < g'.fr k

theorem GLe.refl (g : G) : GLe g g := ⟨fun _ _ _ h => h, Nat.le_refl _, Nat.le_refl _, fun _ _ => rfl, fun _ _ => .inl ⟨rfl, rfl⟩⟩

theorem GLe.trans {g g' g'' : G} (h : GLe g g') (h' : GLe g' g'') : GLe g g'' := by
  refine ⟨fun b o v x => h'.mu _ _ _ (h.mu _ _ _ x), Nat.le_trans h.nb h'.nb, Nat.le_trans h.nt h'.nt, fun j hj => (h'.m j (Nat.lt_of_lt_of_le hj h.nb)).trans (h.m j hj), fun k hk => ?_⟩
  rcases h.tok k hk with ⟨a, b⟩ | a <;> rcases h'.tok k (Nat.lt_of_lt_of_le hk h.nt) with ⟨c, d⟩ | c
  · exact .inl ⟨c.trans a, d.trans b⟩
  · exact .inr (by omega)
  · exact .inr (by omega)
  · exact .inr (by omega)

theorem OwnR.mono {g g' : G} (h : GLe g g') {v : Value} {w n : Nat} {o : Own} (x : OwnR g v w n o) : OwnR g' v w n o := by
  cases o with
  | tok k e =>
    obtain ⟨a, b, c⟩ := x
    refine ⟨Nat.lt_of_lt_of_le a h.nt, ?_, ?_⟩
    · rcases h.tok k a with ⟨d, _⟩ | d <;> omega
    · intro he
      rcases h.tok k a with ⟨d, d'⟩ | d
      · rw [d']; exact c (by omega)
      · omega
  | _ => exact x

theorem R.mono {g g' : G} (h : GLe g g') {v : Value} {d : D} (x : R g v d) : R g' v d := by
  induction x with
  | int k n => exact .int k n
  | bool b => exact .bool b
  | str s => exact .str s
  | k v hv => exact .k v hv
  | sl0 a o w cap ha hs ho => exact .sl0 a o w cap ha hs (ho.mono h)
  | sl b off cap o w els vs hcap hw hpc hmu hr ho ih => exact .sl b off cap o w els vs hcap hw hpc (fun j hj => h.mu _ _ _ (hmu j hj)) ih (ho.mono h)
  | ref b off ds vs hpc hmu hr ih => exact .ref b off ds vs hpc (fun j hj => h.mu _ _ _ (hmu j hj)) ih
  | ptr j off hj => rw [← h.m j hj]; exact .ptr j off (Nat.lt_of_lt_of_le hj h.nb)
  | loc j off w n cap hj hcap hl =>
    rw [← h.m j hj]; rw [← h.m j hj] at hl
    exact .loc j off w n cap (Nat.lt_of_lt_of_le hj h.nb) hcap hl
  | loc0 a j off w hj hs => exact .loc0 a j off w (Nat.lt_of_lt_of_le hj h.nb) hs
  | clo f vs ds hl hr ih => exact .clo f vs ds hl ih
  | agg vs ds hl hr ih => exact .agg vs ds hl ih
  | tup vs ds hl hr ih => exact .tup vs ds hl ih

theorem OwnR.pc {g g' : G} {v : Value} {w n : Nat} {o : Own} (hp : (D.sl o w []).pc = true) (x : OwnR g v w n o) : OwnR g' v w n o := by
  cases o <;> first | exact x | (simp [D.pc] at hp)

/-- what a cell without anything tracked says rests on what is written no more alone -/
theorem R.of_pc {g g' : G} (h : ∀ b o v, g.mu b o = some v → g'.mu b o = some v) {v : Value} {d : D} (x : R g v d) : d.pc = true → R g' v d := by
  induction x with
  | int k n => exact fun _ => .int k n
  | bool b => exact fun _ => .bool b
  | str s => exact fun _ => .str s
  | k v hv => exact fun _ => .k v hv
  | sl0 a o w cap ha hs ho => exact fun hp => .sl0 a o w cap ha hs (ho.pc hp)
  | sl b off cap o w els vs hcap hw hpc hmu hr ho ih =>
    intro hp
    refine .sl b off cap o w els vs hcap hw hpc (fun j hj => h _ _ _ (hmu j hj)) (fun j d hd => ih j d hd ?_) (ho.pc (by cases o <;> first | rfl | (simp [D.pc] at hp)))
    obtain ⟨el, hel, hd'⟩ := List.mem_flatten.1 (List.mem_of_getElem? hd)
    exact hpc el hel d hd'
  | ref b off ds vs hpc hmu hr ih => intro hp; simp [D.pc] at hp
  | ptr j off hj => intro hp; simp [D.pc] at hp
  | loc j off w n cap hj hcap hl => intro hp; simp [D.pc] at hp
  | loc0 a j off w hj hs => intro hp; simp [D.pc] at hp
  | clo f vs ds hl hr ih => intro hp; simp [D.pc] at hp
  | agg vs ds hl hr ih => intro hp; simp [D.pc] at hp
  | tup vs ds hl hr ih => intro hp; simp [D.pc] at hp

theorem R.er {g : G} {v : Value} {d : D} (x : R g v d) : R g v d.er := by
  cases x with
  | sl0 a o w cap ha hs ho => cases o <;> first | exact .sl0 a _ w cap ha hs ho | exact .sl0 a .any w cap ha hs trivial
  | sl b off cap o w els vs hcap hw hpc hmu hr ho => cases o <;> first | exact .sl b off cap _ w els vs hcap hw hpc hmu hr ho | exact .sl b off cap .any w els vs hcap hw hpc hmu hr trivial
  | int k n => exact .int k n
  | bool b => exact .bool b
  | str s => exact .str s
  | k v hv => exact .k v hv
  | ref b off ds vs hpc hmu hr => exact .ref b off ds vs hpc hmu hr
  | ptr j off hj => exact .ptr j off hj
  | loc j off w n cap hj hcap hl => exact .loc j off w n cap hj hcap hl
  | loc0 a j off w hj hs => exact .loc0 a j off w hj hs
  | clo f vs ds hl hr => exact .clo f vs ds hl hr
  | agg vs ds hl hr => exact .agg vs ds hl hr
  | tup vs ds hl hr => exact .tup vs ds hl hr

/-- a tracked block with a place in memory -/
def live (g : G) (A : St) (j : Nat) : Prop := (g.m j).2.2 ≠ 0 ∧ ((∃ cells, A.blks[j]? = some (.mem false cells)) ∨ (∃ s p, A.blks[j]? = some (.iter s p)))

def BlkOk (g : G) (w : World) (j : Nat) : Blk → Prop
  | .mem false cells => ((g.m j).2.2 = 0 ∧ cells = []) ∨ (g.m j).2.2 ≠ 0 ∧ (g.m j).1 < w.heap.size ∧ (g.m j).2.1 + cells.length ≤ (g.m j).2.2 ∧
      (∀ o, (g.m j).2.1 ≤ o → g.mu (g.m j).1 o = none) ∧
      (∀ o, (g.m j).2.1 ≤ o → o < (g.m j).2.2 → (∃ v, cellAt w (g.m j).1 o = some v) ∧ frozenAt w (g.m j).1 o = false) ∧
      (∀ i d, cells[i]? = some d → ∃ v, cellAt w (g.m j).1 ((g.m j).2.1 + i) = some v ∧ R g v d)
  | .mem true cells => (∀ c, c ∈ cells → c.pc = true) ∧ ∀ i d, cells[i]? = some d → ∃ v, g.mu (g.m j).1 ((g.m j).2.1 + i) = some v ∧ R g v d
  | .iter s p => (g.m j).2.1 = 0 ∧ (g.m j).2.2 ≠ 0 ∧ w.heap[(g.m j).1]? = some (.stringIter ⟨s.toArray⟩ p) ∧ ∀ o, g.mu (g.m j).1 o = none
  | .dead => True

def RoomOk (g : G) (w : World) (b en sz : Nat) : Prop :=
  b < w.heap.size ∧ (∀ o, en ≤ o → g.mu b o = none) ∧ ∀ o, en ≤ o → o < sz → (∃ v, cellAt w b o = some v) ∧ frozenAt w b o = false

structure Inv (g : G) (A : St) (w : World) : Prop where
  nb : A.blks.length = g.nb
  nt : A.toks.length = g.nt
  mem : ∀ b o v, g.mu b o = some v → cellAt w b o = some v
  blk : ∀ j x, A.blks[j]? = some x → BlkOk g w j x
  tok : ∀ (k : Nat) e, A.toks[k]? = some e → g.fr k = e
  rho : ∀ k b en sz, k < g.nt → g.rho k = some (b, en, sz) → RoomOk g w b en sz
  exb : ∀ i j, live g A i → live g A j → (g.m i).1 = (g.m j).1 → i = j
  exr : ∀ k k' b en sz en' sz', k < g.nt → k' < g.nt → g.rho k = some (b, en, sz) → g.rho k' = some (b, en', sz') → k = k'
  exm : ∀ j k en sz, live g A j → k < g.nt → g.rho k ≠ some ((g.m j).1, en, sz)

/-- blocks that may be written -/
def Owns (g : G) (A : St) (b : Nat) : Prop := (∃ j, live g A j ∧ (g.m j).1 = b) ∨ ∃ k en sz, k < g.nt ∧ g.rho k = some (b, en, sz)

structure Fr (A : St) (g : G) (w : World) (A' : St) (g' : G) (w' : World) : Prop where
  le : GLe g g'
  sz : w.heap.size ≤ w'.heap.size
  old : ∀ b, b < w.heap.size → ¬ Owns g A b → w'.heap[b]? = w.heap[b]?
  omu : ∀ b, b < w.heap.size → ¬ Owns g A b → ∀ o, g'.mu b o = g.mu b o
  own : ∀ b, b < w.heap.size → Owns g' A' b → Owns g A b
  os : w'.os = w.os
  tape : w'.tape = w.tape
  out : w'.output = w.output

theorem Fr.refl (A : St) (g : G) (w : World) : Fr A g w A g w :=
  ⟨.refl g, Nat.le_refl _, fun _ _ _ => rfl, fun _ _ _ _ => rfl, fun _ _ h => h, rfl, rfl, rfl⟩

theorem Fr.trans {A A' A'' : St} {g g' g'' : G} {w w' w'' : World} (h : Fr A g w A' g' w') (h' : Fr A' g' w' A'' g'' w'') : Fr A g w A'' g'' w'' := by
  refine ⟨h.le.trans h'.le, Nat.le_trans h.sz h'.sz, fun b hb ho => ?_, fun b hb ho o => ?_, fun b hb ho => ?_, h'.os.trans h.os, h'.tape.trans h.tape, h'.out.trans h.out⟩
  · exact (h'.old b (Nat.lt_of_lt_of_le hb h.sz) (fun x => ho (h.own b hb x))).trans (h.old b hb ho)
  · exact (h'.omu b (Nat.lt_of_lt_of_le hb h.sz) (fun x => ho (h.own b hb x)) o).trans (h.omu b hb ho o)
  · exact h.own b hb (h'.own b (Nat.lt_of_lt_of_le hb h.sz) ho)

theorem cellAt_of_block {w w' : World} {b : Nat} (h : w'.heap[b]? = w.heap[b]?) (o : Nat) : cellAt w' b o = cellAt w b o := World.cell?_of_block (a := ⟨b, o, none⟩) h
theorem frozenAt_of_block {w w' : World} {b : Nat} (h : w'.heap[b]? = w.heap[b]?) (o : Nat) : frozenAt w' b o = frozenAt w b o := World.frozen?_of_block (a := ⟨b, o, none⟩) h
theorem lt_of_cellAt {w : World} {b o : Nat} {v : Value} (h : cellAt w b o = some v) : b < w.heap.size := World.block_lt_of_cell? w ⟨b, o, none⟩ h

theorem live_lt {g : G} {A : St} {j : Nat} (h : live g A j) : j < A.blks.length := by
  rcases h.2 with ⟨c, h⟩ | ⟨s, p, h⟩ <;> exact (List.getElem?_eq_some_iff.1 h).1

theorem Owns.lt {g : G} {A : St} {w : World} (I : Inv g A w) {b : Nat} (h : Owns g A b) : b < w.heap.size := by
  rcases h with ⟨j, ⟨hz, (⟨c, h⟩ | ⟨s, p, h⟩)⟩, rfl⟩ | ⟨k, en, sz, hk, h⟩
  · rcases I.blk j _ h with x | x
    · exact absurd x.1 hz
    · exact x.2.1
  · exact (Array.getElem?_eq_some_iff.1 (I.blk j _ h).2.2.1).1
  · exact (I.rho k b en sz hk h).1

/-- a step that only makes new memory, or turns what nothing here speaks of -/
theorem Inv.world {g : G} {A : St} {w w' : World} (I : Inv g A w) (hs : w.heap.size ≤ w'.heap.size) (h : ∀ b, b < w.heap.size → w'.heap[b]? = w.heap[b]?) : Inv g A w' := by
  have hc : ∀ b o v, cellAt w b o = some v → cellAt w' b o = some v := fun b o v x => by rw [cellAt_of_block (h b (lt_of_cellAt x))]; exact x
  have hf : ∀ b o, b < w.heap.size → frozenAt w' b o = frozenAt w b o := fun b o hb => frozenAt_of_block (h b hb) o
  refine ⟨I.nb, I.nt, fun b o v x => hc _ _ _ (I.mem b o v x), fun j x hx => ?_, I.tok, fun k b en sz hk hr => ?_, I.exb, I.exr, I.exm⟩
  · have hb := I.blk j x hx
    cases x with
    | mem f cells =>
      cases f with
      | true => exact hb
      | false =>
        rcases hb with hb | ⟨h0, h1, h2, h3, h4, h5⟩
        · exact .inl hb
        refine .inr ⟨h0, Nat.lt_of_lt_of_le h1 hs, h2, h3, fun o ho ho' => ?_, fun i d hd => ?_⟩
        · obtain ⟨⟨v, hv⟩, hz⟩ := h4 o ho ho'
          exact ⟨⟨v, hc _ _ _ hv⟩, by rw [hf _ _ h1]; exact hz⟩
        · obtain ⟨v, hv, hR⟩ := h5 i d hd
          exact ⟨v, hc _ _ _ hv, hR⟩
    | iter s p =>
      obtain ⟨h1, h0, h2, h3⟩ := hb
      exact ⟨h1, h0, by rw [h _ (Array.getElem?_eq_some_iff.1 h2).1]; exact h2, h3⟩
    | dead => trivial
  · obtain ⟨h1, h2, h3⟩ := I.rho k b en sz hk hr
    refine ⟨Nat.lt_of_lt_of_le h1 hs, h2, fun o ho ho' => ?_⟩
    obtain ⟨⟨v, hv⟩, hz⟩ := h3 o ho ho'
    exact ⟨⟨v, hc _ _ _ hv⟩, by rw [hf _ _ h1]; exact hz⟩

theorem Fr.world {g : G} {A : St} {w w' : World} (hs : w.heap.size ≤ w'.heap.size) (h : ∀ b, b < w.heap.size → w'.heap[b]? = w.heap[b]?)
    (ho : w'.os = w.os) (ht : w'.tape = w.tape) (hu : w'.output = w.output) : Fr A g w A g w' :=
  ⟨.refl g, hs, fun b hb _ => h b hb, fun _ _ _ _ => rfl, fun _ _ x => x, ho, ht, hu⟩

end Ev

namespace Ev
open Go

theorem BlkOk.mono {g g' : G} {w : World} {j : Nat} {x : Blk} (h : GLe g g') (hj : j < g.nb)
    (hm : (g.m j).2.2 ≠ 0 → (∃ c, x = .mem false c) ∨ (∃ s p, x = .iter s p) → ∀ o, g'.mu (g.m j).1 o = g.mu (g.m j).1 o) (k : BlkOk g w j x) : BlkOk g' w j x := by
  have e := h.m j hj
  cases x with
  | mem f cells =>
    cases f with
    | true =>
      refine ⟨k.1, fun i d hd => ?_⟩
      obtain ⟨v, hv, hR⟩ := k.2 i d hd
      exact ⟨v, by rw [e]; exact h.mu _ _ _ hv, hR.mono h⟩
    | false =>
      rcases k with k | ⟨h0, h1, h2, h3, h4, h5⟩
      · exact .inl (by rw [e]; exact k)
      have hm' := hm h0 (.inl ⟨_, rfl⟩)
      refine .inr ⟨by rw [e]; exact h0, by rw [e]; exact h1, by rw [e]; exact h2, fun o ho => ?_, fun o ho ho' => ?_, fun i d hd => ?_⟩
      · rw [e] at ho ⊢; rw [hm']; exact h3 o ho
      · rw [e] at ho ho' ⊢; exact h4 o ho ho'
      · obtain ⟨v, hv, hR⟩ := h5 i d hd
        exact ⟨v, by rw [e]; exact hv, hR.mono h⟩
  | iter s p =>
    obtain ⟨h1, h0, h2, h3⟩ := k
    have hm' := hm h0 (.inr ⟨_, _, rfl⟩)
    exact ⟨by rw [e]; exact h1, by rw [e]; exact h0, by rw [e]; exact h2, fun o => by rw [e, hm']; exact h3 o⟩
  | dead => trivial

theorem live_of {g : G} {A : St} {j : Nat} {x : Blk} (hz : (g.m j).2.2 ≠ 0) (hx : A.blks[j]? = some x) (h : (∃ c, x = .mem false c) ∨ (∃ s p, x = .iter s p)) : live g A j := by
  rcases h with ⟨c, rfl⟩ | ⟨s, p, rfl⟩
  · exact ⟨hz, .inl ⟨c, hx⟩⟩
  · exact ⟨hz, .inr ⟨s, p, hx⟩⟩

/-- a stretch of a block that nobody owns is written no more from here on -/
def G.ext (g : G) (w : World) (b lo hi : Nat) : G := { g with mu := fun b' o => if b' = b ∧ lo ≤ o ∧ o < hi then cellAt w b o else g.mu b' o }

theorem ext_le {g : G} (w : World) {b lo hi : Nat} (h : ∀ o, lo ≤ o → o < hi → g.mu b o = none) : GLe g (g.ext w b lo hi) := by
  refine ⟨fun b' o v x => ?_, Nat.le_refl _, Nat.le_refl _, fun _ _ => rfl, fun _ _ => .inl ⟨rfl, rfl⟩⟩
  simp only [G.ext]
  split
  · rename_i hc
    obtain ⟨rfl, h1, h2⟩ := hc
    rw [h o h1 h2] at x; cases x
  · exact x

theorem ext_other {g : G} (w : World) {b lo hi b' : Nat} (h : b' ≠ b) (o : Nat) : (g.ext w b lo hi).mu b' o = g.mu b' o := by simp [G.ext, h]

theorem Inv.ext {g : G} {A : St} {w : World} (I : Inv g A w) {b lo hi : Nat} (hb : ¬ Owns g A b) (h : ∀ o, lo ≤ o → o < hi → g.mu b o = none) : Inv (g.ext w b lo hi) A w := by
  have le := ext_le w h
  refine ⟨I.nb, I.nt, fun b' o v x => ?_, fun j x hx => ?_, I.tok, fun k b' en sz hk hr => ?_, I.exb, I.exr, I.exm⟩
  · simp only [G.ext] at x
    split at x
    · rename_i hc; obtain ⟨rfl, _, _⟩ := hc; exact x
    · exact I.mem b' o v x
  · refine (I.blk j x hx).mono le (by rw [← I.nb]; exact (List.getElem?_eq_some_iff.1 hx).1) (fun hz hl o => ext_other w (fun e => hb (.inl ⟨j, live_of hz hx hl, e⟩)) o)
  · obtain ⟨h1, h2, h3⟩ := I.rho k b' en sz hk hr
    refine ⟨h1, fun o ho => ?_, h3⟩
    rw [ext_other w (fun e => hb (.inr ⟨k, en, sz, hk, by rw [← e]; exact hr⟩))]
    exact h2 o ho

def upd {α : Type} (f : Nat → α) (n : Nat) (x : α) : Nat → α := fun k => if k = n then x else f k
@[simp] theorem upd_same {α : Type} (f : Nat → α) (n : Nat) (x : α) : upd f n x n = x := by simp [upd]
theorem upd_ne {α : Type} (f : Nat → α) {n k : Nat} (x : α) (h : k ≠ n) : upd f n x k = f k := by simp [upd, h]

/-- one token more -/
def G.addTok (g : G) (e : Nat) (r : Option (Nat × Nat × Nat)) : G := { g with nt := g.nt + 1, fr := upd g.fr g.nt e, rho := upd g.rho g.nt r }

theorem addTok_le (g : G) (e : Nat) (r : Option (Nat × Nat × Nat)) : GLe g (g.addTok e r) :=
  ⟨fun _ _ _ x => x, Nat.le_refl _, Nat.le_succ _, fun _ _ => rfl, fun k hk => .inl ⟨upd_ne _ _ (Nat.ne_of_lt hk), upd_ne _ _ (Nat.ne_of_lt hk)⟩⟩

theorem Inv.addTok {g : G} {A : St} {w : World} (I : Inv g A w) (e : Nat) (r : Option (Nat × Nat × Nat))
    (h : ∀ b en sz, r = some (b, en, sz) → ¬ Owns g A b ∧ RoomOk g w b en sz) : Inv (g.addTok e r) { A with toks := A.toks ++ [e] } w := by
  have le := addTok_le g e r
  refine ⟨I.nb, by simp [G.addTok, I.nt], I.mem, fun j x hx => ?_, fun k e' hk => ?_, fun k b en sz hk hr => ?_, I.exb, fun k k' b en sz en' sz' hk hk' hr hr' => ?_, fun j k en sz hj hk => ?_⟩
  · exact (I.blk j x hx).mono le (by rw [← I.nb]; exact (List.getElem?_eq_some_iff.1 hx).1) (fun _ _ _ => rfl)
  · by_cases hk' : k = g.nt
    · subst hk'
      simp only [← I.nt, List.getElem?_append_right (Nat.le_refl _), Nat.sub_self] at hk
      simp [G.addTok] at hk ⊢; exact hk
    · have hlt : k < A.toks.length := by have := (List.getElem?_eq_some_iff.1 hk).1; simp at this; have := I.nt; omega
      simp only [List.getElem?_append_left hlt] at hk
      simp only [G.addTok, upd_ne _ _ hk']
      exact I.tok k e' hk
  · by_cases hk' : k = g.nt
    · subst hk'; simp only [G.addTok, upd_same] at hr; exact (h b en sz hr).2
    · simp only [G.addTok, upd_ne _ _ hk'] at hr hk
      exact I.rho k b en sz (by omega) hr
  · simp only [G.addTok] at hk hk' hr hr'
    by_cases a : k = g.nt <;> by_cases a' : k' = g.nt
    · omega
    · subst a; rw [upd_same] at hr; rw [upd_ne _ _ a'] at hr'
      exact absurd (.inr ⟨k', en', sz', by omega, hr'⟩) (h b en sz hr).1
    · subst a'; rw [upd_same] at hr'; rw [upd_ne _ _ a] at hr
      exact absurd (.inr ⟨k, en, sz, by omega, hr⟩) (h b en' sz' hr').1
    · rw [upd_ne _ _ a] at hr; rw [upd_ne _ _ a'] at hr'
      exact I.exr k k' b en sz en' sz' (by omega) (by omega) hr hr'
  · intro hr
    simp only [G.addTok] at hk hr
    by_cases a : k = g.nt
    · subst a; rw [upd_same] at hr
      exact (h _ en sz hr).1 (.inl ⟨j, hj, rfl⟩)
    · rw [upd_ne _ _ a] at hr
      exact I.exm j k en sz hj (by omega) hr

/-- one block more -/
def G.addBlk (g : G) (x : Nat × Nat × Nat) : G := { g with nb := g.nb + 1, m := upd g.m g.nb x }

theorem addBlk_le (g : G) (x : Nat × Nat × Nat) : GLe g (g.addBlk x) :=
  ⟨fun _ _ _ x => x, Nat.le_succ _, Nat.le_refl _, fun j hj => upd_ne _ _ (Nat.ne_of_lt hj), fun _ _ => .inl ⟨rfl, rfl⟩⟩

theorem live_push {g g' : G} {A : St} {x : Blk} {j : Nat} (h : live g' { A with blks := A.blks ++ [x] } j) (hm : j ≠ A.blks.length → g'.m j = g.m j) : live g A j ∨ j = A.blks.length := by
  by_cases hj : j = A.blks.length
  · exact .inr hj
  · have hlt : j < A.blks.length := by have := live_lt h; simp at this; omega
    left
    refine ⟨by rw [← hm hj]; exact h.1, ?_⟩
    rcases h.2 with ⟨c, h⟩ | ⟨s, p, h⟩
    · simp only [List.getElem?_append_left hlt] at h; exact .inl ⟨c, h⟩
    · simp only [List.getElem?_append_left hlt] at h; exact .inr ⟨s, p, h⟩

theorem Inv.addBlk {g : G} {A : St} {w : World} (I : Inv g A w) (b base lim : Nat) (x : Blk) (hb : lim ≠ 0 → ¬ Owns g A b)
    (hx : BlkOk (g.addBlk (b, base, lim)) w g.nb x) : Inv (g.addBlk (b, base, lim)) { A with blks := A.blks ++ [x] } w := by
  have le := addBlk_le g (b, base, lim)
  have hm : ∀ j, j ≠ g.nb → (g.addBlk (b, base, lim)).m j = g.m j := fun j hj => upd_ne _ _ hj
  have hlt : ∀ j, live (g.addBlk (b, base, lim)) { A with blks := A.blks ++ [x] } j → j ≠ g.nb → live g A j := fun j hj hn => (live_push hj (fun h => hm j (by rw [← I.nb]; exact h))).resolve_right (by rw [I.nb]; exact hn)
  have hl0 : live (g.addBlk (b, base, lim)) { A with blks := A.blks ++ [x] } g.nb → lim ≠ 0 := fun h => by have := h.1; rwa [show (g.addBlk (b, base, lim)).m g.nb = (b, base, lim) from upd_same _ _ _] at this
  have hme : (g.addBlk (b, base, lim)).m g.nb = (b, base, lim) := upd_same _ _ _
  refine ⟨by simp [G.addBlk, I.nb], I.nt, I.mem, fun j y hy => ?_, I.tok, fun k b' en sz hk hr => I.rho k b' en sz hk hr, fun i j hi hj e => ?_, I.exr, fun j k en sz hj hk hr => ?_⟩
  · by_cases hj : j = g.nb
    · subst hj
      simp only [← I.nb, List.getElem?_append_right (Nat.le_refl _), Nat.sub_self] at hy
      simp only [List.length_cons, List.length_nil, Nat.zero_add, Nat.lt_add_one, getElem?_pos, List.getElem_cons_zero, Option.some.injEq] at hy
      subst hy; exact hx
    · have hl : j < A.blks.length := by have := (List.getElem?_eq_some_iff.1 hy).1; simp at this; have := I.nb; omega
      simp only [List.getElem?_append_left hl] at hy
      exact (I.blk j y hy).mono le (by rw [← I.nb]; exact hl) (fun _ _ _ => rfl)
  · by_cases a : i = g.nb <;> by_cases a' : j = g.nb
    · omega
    · subst a; rw [hme, hm j a'] at e
      exact absurd (.inl ⟨j, hlt j hj a', e.symm⟩) (hb (hl0 hi))
    · subst a'; rw [hme, hm i a] at e
      exact absurd (.inl ⟨i, hlt i hi a, e⟩) (hb (hl0 hj))
    · rw [hm i a, hm j a'] at e; exact I.exb i j (hlt i hi a) (hlt j hj a') e
  · by_cases a : j = g.nb
    · subst a; rw [hme] at hr; exact hb (hl0 hj) (.inr ⟨k, en, sz, hk, hr⟩)
    · rw [hm j a] at hr; exact I.exm j k en sz (hlt j hj a) hk hr

theorem Owns.addTok {g : G} {A : St} {e : Nat} {r : Option (Nat × Nat × Nat)} {b : Nat} (h : Owns (g.addTok e r) { A with toks := A.toks ++ [e] } b) :
    Owns g A b ∨ ∃ en sz, r = some (b, en, sz) := by
  rcases h with ⟨j, hj, e⟩ | ⟨k, en, sz, hk, hr⟩
  · exact .inl (.inl ⟨j, hj, e⟩)
  · simp only [G.addTok] at hk hr
    by_cases a : k = g.nt
    · subst a; rw [upd_same] at hr; exact .inr ⟨en, sz, hr⟩
    · rw [upd_ne _ _ a] at hr; exact .inl (.inr ⟨k, en, sz, by omega, hr⟩)

theorem Owns.addBlk {g : G} {A : St} (hn : A.blks.length = g.nb) {x : Blk} {y : Nat × Nat × Nat} {b : Nat} (h : Owns (g.addBlk y) { A with blks := A.blks ++ [x] } b) :
    Owns g A b ∨ (b = y.1 ∧ y.2.2 ≠ 0) := by
  rcases h with ⟨j, hj, e⟩ | ⟨k, en, sz, hk, hr⟩
  · by_cases a : j = g.nb
    · subst a; right; have hz := hj.1; rw [← e]; simp only [G.addBlk, upd_same] at hz ⊢; exact ⟨trivial, hz⟩
    · refine .inl (.inl ⟨j, (live_push hj (fun h => upd_ne _ _ a)).resolve_right (by rw [hn]; exact a), ?_⟩)
      rw [← e]; simp [G.addBlk, upd_ne _ _ a]
  · exact .inl (.inr ⟨k, en, sz, hk, hr⟩)

/-- elements that lie in memory that nobody else knows of -/
structure FreshAt (g : G) (w : World) (b off capa wd : Nat) (els : List (List D)) : Prop where
  lt : b < w.heap.size
  cap : els.length ≤ capa
  wid : ∀ el, el ∈ els → el.length = wd
  pc : ∀ el, el ∈ els → ∀ c, c ∈ el → c.pc = true
  mu : ∀ o, off ≤ o → g.mu b o = none
  room : ∀ o, off ≤ o → o < off + capa * wd → (∃ v, cellAt w b o = some v) ∧ frozenAt w b o = false
  el : ∀ j d, els.flatten[j]? = some d → ∃ v, cellAt w b (off + j) = some v ∧ R g v d

theorem flatten_length {els : List (List D)} {wd : Nat} (h : ∀ el, el ∈ els → el.length = wd) : els.flatten.length = els.length * wd := by
  induction els with
  | nil => simp
  | cons a r ih =>
    rw [List.flatten_cons, List.length_append, ih (fun el x => h el (List.mem_cons_of_mem _ x)), h a (List.mem_cons_self ..), List.length_cons, Nat.succ_mul]
    omega

theorem FreshAt.toAny {g : G} {w : World} {b off cap wd : Nat} {els : List (List D)} (F : FreshAt g w b off cap wd els) {o : Own}
    (ho : ∀ g' : G, OwnR g' (.slice (some ⟨b, off, none⟩) els.length cap) wd els.length o) :
    R (g.ext w b off (off + els.length * wd)) (.slice (some ⟨b, off, none⟩) els.length cap) (.sl o wd els) := by
  have le := ext_le (g := g) w (b := b) (lo := off) (hi := off + els.length * wd) (fun o h _ => F.mu o h)
  have hfl := flatten_length F.wid
  refine .sl b off cap o wd els (fun j => (cellAt w b (off + j)).getD default) F.cap F.wid F.pc (fun j hj => ?_) (fun j d hd => ?_) (ho _)
  · simp only [G.ext]
    rw [if_pos (by refine ⟨trivial, ?_, ?_⟩ <;> omega)]
    have : ∃ d, els.flatten[j]? = some d := ⟨els.flatten[j]'(by omega), List.getElem?_eq_getElem _⟩
    obtain ⟨d, hd⟩ := this
    obtain ⟨v, hv, _⟩ := F.el j d hd
    rw [hv]; rfl
  · obtain ⟨v, hv, hR⟩ := F.el j d hd
    rw [hv]
    exact hR.mono le

/-- how the new slice is kept -/
theorem newSl_ok {g : G} {A : St} {w : World} (I : Inv g A w) {b off cap wd : Nat} {els : List (List D)} (F : FreshAt g w b off cap wd els) (hb : ¬ Owns g A b) (m : Mode) {o : Own}
    (ho : ∀ g' : G, OwnR g' (.slice (some ⟨b, off, none⟩) els.length cap) wd els.length o) :
    ∃ g', Inv g' (A.newSl m o wd els).2 w ∧ R g' (.slice (some ⟨b, off, none⟩) els.length cap) (A.newSl m o wd els).1 ∧ GLe g g' ∧
      (∀ b', b' ≠ b → ∀ o, g'.mu b' o = g.mu b' o) ∧ (∀ b', Owns g' (A.newSl m o wd els).2 b' → b' = b ∨ Owns g A b') := by
  have hmu : ∀ o, off ≤ o → o < off + els.length * wd → g.mu b o = none := fun o h _ => F.mu o h
  have le1 := ext_le (g := g) w (b := b) (lo := off) (hi := off + els.length * wd) hmu
  have I1 := I.ext (b := b) (lo := off) (hi := off + els.length * wd) hb hmu
  cases m with
  | any => exact ⟨_, I1, F.toAny ho, le1, fun b' h o => ext_other w h o, fun b' h => .inr h⟩
  | tok =>
    have hr : RoomOk (g.ext w b off (off + els.length * wd)) w b (off + els.length * wd) (off + cap * wd) := by
      refine ⟨F.lt, fun o ho => ?_, fun o ho ho' => F.room o (by omega) ho'⟩
      simp only [G.ext]; rw [if_neg (by omega)]; exact F.mu o (by omega)
    have hb1 : ¬ Owns (g.ext w b off (off + els.length * wd)) A b := hb
    refine ⟨_, I1.addTok els.length (some (b, off + els.length * wd, off + cap * wd)) (fun b' en sz e => ?_), ?_, le1.trans (addTok_le _ _ _), fun b' h o => ext_other w h o, fun b' h => ?_⟩
    · simp only [Option.some.injEq, Prod.mk.injEq] at e
      obtain ⟨rfl, rfl, rfl⟩ := e
      exact ⟨hb1, hr⟩
    · have hR := (F.toAny (o := .any) (fun _ => trivial)).mono (addTok_le (g.ext w b off (off + els.length * wd)) els.length (some (b, off + els.length * wd, off + cap * wd)))
      have hn : A.toks.length = g.nt := I.nt
      have key : OwnR ((g.ext w b off (off + els.length * wd)).addTok els.length (some (b, off + els.length * wd, off + cap * wd))) (.slice (some ⟨b, off, none⟩) els.length cap) wd els.length (.tok A.toks.length els.length) := by
        refine ⟨by simp [G.addTok, G.ext, hn], by simp [G.addTok, G.ext, hn], fun _ => .inr ⟨b, off, cap, off + cap * wd, rfl, by simp [G.addTok, G.ext, hn], Nat.le_refl _⟩⟩
      simp only [St.newSl]
      generalize hv : Value.slice (some ⟨b, off, none⟩) els.length cap = v at hR key ⊢
      cases hR with
      | sl0 a _ _ cap' ha hs _ => exact .sl0 a _ _ cap' ha hs (by simpa using key)
      | sl b' off' cap' _ _ _ vs hcap hw hpc hmu hr _ => exact .sl b' off' cap' _ wd els vs hcap hw hpc hmu hr key
    · rcases h.addTok with h | ⟨en, sz, h⟩
      · exact .inr h
      · simp only [Option.some.injEq, Prod.mk.injEq] at h; exact .inl h.1.symm
  | trk =>
    have hn : A.blks.length = g.nb := I.nb
    by_cases hz : off + cap * wd = 0
    · have hfl : els.flatten = [] := List.eq_nil_of_length_eq_zero (by rw [flatten_length F.wid]; have := Nat.mul_le_mul_right wd F.cap; omega)
      refine ⟨_, I.addBlk b off (off + cap * wd) (.mem false els.flatten) (fun h => absurd hz h) ?_, ?_, addBlk_le _ _, fun _ _ _ => rfl, fun b' h => ?_⟩
      · have e : (g.addBlk (b, off, off + cap * wd)).m g.nb = (b, off, off + cap * wd) := by simp [G.addBlk]
        exact .inl (by rw [e]; exact ⟨hz, hfl⟩)
      · simp only [St.newSl]
        have e : (g.addBlk (b, off, off + cap * wd)).m A.blks.length = (b, off, off + cap * wd) := by simp [G.addBlk, hn]
        have := R.loc (g := g.addBlk (b, off, off + cap * wd)) A.blks.length 0 wd els.length cap (by simp [G.addBlk, hn]) F.cap (by rw [e]; simp)
        rw [e] at this; simpa using this
      · rcases h.addBlk hn with h | h
        · exact .inr h
        · exact .inl h.1
    · refine ⟨_, I.addBlk b off (off + cap * wd) (.mem false els.flatten) (fun _ => hb) ?_, ?_, addBlk_le _ _, fun _ _ _ => rfl, fun b' h => ?_⟩
      · have e : (g.addBlk (b, off, off + cap * wd)).m g.nb = (b, off, off + cap * wd) := by simp [G.addBlk]
        refine .inr ?_
        simp only [e]
        refine ⟨hz, F.lt, ?_, F.mu, F.room, fun i d hd => ?_⟩
        · rw [flatten_length F.wid]; have := Nat.mul_le_mul_right wd F.cap; omega
        · obtain ⟨v, hv, hR⟩ := F.el i d hd
          exact ⟨v, hv, hR.mono (addBlk_le _ _)⟩
      · simp only [St.newSl]
        have e : (g.addBlk (b, off, off + cap * wd)).m A.blks.length = (b, off, off + cap * wd) := by simp [G.addBlk, hn]
        have := R.loc (g := g.addBlk (b, off, off + cap * wd)) A.blks.length 0 wd els.length cap (by simp [G.addBlk, hn]) F.cap (by rw [e]; simp)
        rw [e] at this; simpa using this
      · rcases h.addBlk hn with h | h
        · exact .inr h
        · exact .inl h.1

/-- the same for a nil slice, or one without a place -/
theorem newSl_ok0 {g : G} {A : St} {w : World} (I : Inv g A w) (a : Option Addr) (hs : ∀ x, a = some x → x.spot = x.spot) (wd : Nat) (m : Mode) {o : Own} (ho : o = .any ∨ o = .full) :
    ∃ g', Inv g' (A.newSl m o wd []).2 w ∧ R g' (.slice a 0 0) (A.newSl m o wd []).1 ∧ GLe g g' ∧
      (∀ b' o, g'.mu b' o = g.mu b' o) ∧ (∀ b', Owns g' (A.newSl m o wd []).2 b' → Owns g A b') := by
  cases m with
  | any => exact ⟨g, I, .sl0 a o wd 0 (fun _ => rfl) hs (by rcases ho with rfl | rfl <;> simp [OwnR]), .refl g, fun _ _ => rfl, fun _ h => h⟩
  | tok =>
    refine ⟨_, I.addTok 0 none (fun _ _ _ h => by cases h), ?_, addTok_le _ _ _, fun _ _ => rfl, fun b' h => ?_⟩
    · refine .sl0 a _ wd 0 (fun _ => rfl) hs ⟨by simp [G.addTok, I.nt], by simp, fun _ => .inl ⟨a, rfl⟩⟩
    · rcases h.addTok with h | ⟨_, _, h⟩
      · exact h
      · cases h
  | trk =>
    have hn : A.blks.length = g.nb := I.nb
    refine ⟨_, I.addBlk 0 0 0 (.mem false []) (fun h => absurd rfl h) (.inl ⟨by simp [G.addBlk], rfl⟩), .loc0 a _ 0 wd (by simp [G.addBlk, hn]) hs, addBlk_le _ _, fun _ _ => rfl, fun b' h => ?_⟩
    rcases h.addBlk hn with h | h
    · exact h
    · exact absurd rfl h.2

end Ev

namespace Ev
open Go

theorem add_none (b o n : Nat) : (⟨b, o, none⟩ : Addr).add n = ⟨b, o + n, none⟩ := by
  unfold Addr.add; split
  · rename_i h; subst h; rfl
  · rfl

structure Wrote (w : World) (b lo : Nat) (vs : List Value) (w' : World) : Prop where
  size : w'.heap.size = w.heap.size
  other : ∀ b', b' ≠ b → w'.heap[b']? = w.heap[b']?
  cell : ∀ o, cellAt w' b o = if lo ≤ o ∧ o < lo + vs.length then vs[o - lo]? else cellAt w b o
  frozen : ∀ o, frozenAt w' b o = frozenAt w b o
  os : w'.os = w.os
  tape : w'.tape = w.tape
  out : w'.output = w.output

theorem Wrote.nil (w : World) (b lo : Nat) : Wrote w b lo [] w :=
  ⟨rfl, fun _ _ => rfl, fun o => by rw [if_neg (by simp only [List.length_nil]; omega)], fun _ => rfl, rfl, rfl, rfl⟩

theorem setCell_other (w : World) (a : Addr) (v : Value) {b : Nat} (h : b ≠ a.block) : (w.setCell a v).heap[b]? = w.heap[b]? := by
  simp only [World.setCell, Array.getElem?_modify]
  rw [if_neg (fun e => h e.symm)]

theorem run_storeCells (P : Program) (b base : Nat) : ∀ (vs : List Value) (i : Nat) (w : World),
    (∀ k, k < vs.length → (∃ v, cellAt w b (base + i + k) = some v) ∧ frozenAt w b (base + i + k) = false) → (∀ v, v ∈ vs → v.oneCell' = true) →
    ∃ w', (storeCells ⟨b, base, none⟩ vs i).run P w = .ok () w' ∧ Wrote w b (base + i) vs w'
  | [], i, w, _, _ => ⟨w, by simp [storeCells], .nil w b _⟩
  | v :: vs, i, w, h, h1 => by
    obtain ⟨⟨u, hu⟩, hf⟩ := h 0 (by simp)
    simp only [Nat.add_zero] at hu hf
    have hst : (store (⟨b, base + i, none⟩ : Addr) v).run P w = .ok () (w.setCell ⟨b, base + i, none⟩ v) := by
      rw [run_store P w _ v _ (h1 v (List.mem_cons_self ..))]
      simp only [cellAt] at hu
      simp only [frozenAt] at hf
      rw [hu]; simp [hf]
    obtain ⟨w', hr, W⟩ := run_storeCells P b base vs (i + 1) (w.setCell ⟨b, base + i, none⟩ v) (fun k hk => by
      obtain ⟨⟨u', hu'⟩, hf'⟩ := h (k + 1) (by simp; omega)
      refine ⟨⟨u', ?_⟩, ?_⟩
      · simp only [cellAt] at hu' ⊢
        rw [World.cell?_setCell_other _ _ _ _ (by simp; omega)]
        rw [show base + (i + 1) + k = base + i + (k + 1) by omega]; exact hu'
      · simp only [frozenAt] at hf' ⊢
        rw [World.frozen?_setCell, show base + (i + 1) + k = base + i + (k + 1) by omega]; exact hf') (fun v' hv' => h1 v' (List.mem_cons_of_mem _ hv'))
    refine ⟨w', ?_, ?_⟩
    · simp only [storeCells, Sem.run_bind, add_none, hst, Result.andThen_ok, hr]
    · refine ⟨by rw [W.size]; simp, fun b' hb => by rw [W.other b' hb, setCell_other _ _ _ hb], fun o => ?_, fun o => by rw [W.frozen]; simp [frozenAt], W.os, W.tape, W.out⟩
      rw [W.cell]
      by_cases ho : o = base + i
      · subst ho
        rw [if_neg (by omega), if_pos (by simp)]
        simp only [Nat.sub_self, List.getElem?_cons_zero]
        exact World.cell?_setCell_same _ _ _ hu
      · by_cases hc : base + (i + 1) ≤ o ∧ o < base + (i + 1) + vs.length
        · rw [if_pos hc, if_pos (by simp only [List.length_cons]; omega)]
          rw [show o - (base + i) = (o - (base + (i + 1))) + 1 by omega, List.getElem?_cons_succ]
        · rw [if_neg hc, if_neg (by simp only [List.length_cons]; omega)]
          exact World.cell?_setCell_other _ _ _ _ (by simp; omega)

theorem Inv.worldAt {g : G} {A : St} {w w' : World} (I : Inv g A w) (b : Nat) (hs : w'.heap.size = w.heap.size) (h : ∀ b', b' ≠ b → w'.heap[b']? = w.heap[b']?)
    (hmu : ∀ o v, g.mu b o = some v → cellAt w' b o = some v) (hblk : ∀ j x, A.blks[j]? = some x → live g A j → (g.m j).1 = b → BlkOk g w' j x)
    (hrho : ∀ k en sz, k < g.nt → g.rho k = some (b, en, sz) → RoomOk g w' b en sz) : Inv g A w' := by
  refine ⟨I.nb, I.nt, fun b' o v x => ?_, fun j x hx => ?_, I.tok, fun k b' en sz hk hr => ?_, I.exb, I.exr, I.exm⟩
  · by_cases hb : b' = b
    · subst hb; exact hmu o v x
    · rw [cellAt_of_block (h b' hb)]; exact I.mem b' o v x
  · by_cases hl : live g A j ∧ (g.m j).1 = b
    · exact hblk j x hx hl.1 hl.2
    · have hb := I.blk j x hx
      cases x with
      | mem f cells =>
        cases f with
        | true => exact hb
        | false =>
          rcases hb with hb | ⟨h0, h1, h2, h3, h4, h5⟩
          · exact .inl hb
          have hne : (g.m j).1 ≠ b := fun e => hl ⟨live_of h0 hx (.inl ⟨_, rfl⟩), e⟩
          refine .inr ⟨h0, by rw [hs]; exact h1, h2, h3, fun o ho ho' => ?_, fun i d hd => ?_⟩
          · obtain ⟨⟨v, hv⟩, hz⟩ := h4 o ho ho'
            exact ⟨⟨v, by rw [cellAt_of_block (h _ hne)]; exact hv⟩, by rw [frozenAt_of_block (h _ hne)]; exact hz⟩
          · obtain ⟨v, hv, hR⟩ := h5 i d hd
            exact ⟨v, by rw [cellAt_of_block (h _ hne)]; exact hv, hR⟩
      | iter s p =>
        obtain ⟨h1, h0, h2, h3⟩ := hb
        have hne : (g.m j).1 ≠ b := fun e => hl ⟨live_of h0 hx (.inr ⟨_, _, rfl⟩), e⟩
        exact ⟨h1, h0, by rw [h _ hne]; exact h2, h3⟩
      | dead => trivial
  · by_cases hb : b' = b
    · subst hb; exact hrho k en sz hk hr
    · obtain ⟨h1, h2, h3⟩ := I.rho k b' en sz hk hr
      refine ⟨by rw [hs]; exact h1, h2, fun o ho ho' => ?_⟩
      obtain ⟨⟨v, hv⟩, hz⟩ := h3 o ho ho'
      exact ⟨⟨v, by rw [cellAt_of_block (h _ hb)]; exact hv⟩, by rw [frozenAt_of_block (h _ hb)]; exact hz⟩

theorem live_set {g : G} {A : St} {j : Nat} {x : Blk} {i : Nat} (h : live g { A with blks := A.blks.set j x } i) (hj : live g A j) : live g A i := by
  by_cases e : i = j
  · subst e; exact hj
  · obtain ⟨h0, h⟩ := h
    simp only [List.getElem?_set_ne (fun h => e h.symm)] at h
    exact ⟨h0, h⟩

theorem Owns.set {g : G} {A : St} {j : Nat} {x : Blk} {b : Nat} (hj : live g A j) (h : Owns g { A with blks := A.blks.set j x } b) : Owns g A b := by
  rcases h with ⟨i, hi, e⟩ | h
  · exact .inl ⟨i, live_set hi hj, e⟩
  · exact .inr h

/-- a tracked block is turned -/
theorem Inv.putBlk {g : G} {A : St} {w w' : World} (I : Inv g A w) {j : Nat} (hj : live g A j) (x' : Blk) (hs : w'.heap.size = w.heap.size)
    (h : ∀ b', b' ≠ (g.m j).1 → w'.heap[b']? = w.heap[b']?) (hmu : ∀ o v, g.mu (g.m j).1 o = some v → cellAt w' (g.m j).1 o = some v) (hx' : BlkOk g w' j x') :
    Inv g { A with blks := A.blks.set j x' } w' := by
  refine ⟨by simp [I.nb], I.nt, fun b' o v x => ?_, fun i x hx => ?_, I.tok, fun k b' en sz hk hr => ?_, fun i i' a a' e => I.exb i i' (live_set a hj) (live_set a' hj) e, I.exr, fun i k en sz a hk => I.exm i k en sz (live_set a hj) hk⟩
  · by_cases hb : b' = (g.m j).1
    · subst hb; exact hmu o v x
    · rw [cellAt_of_block (h b' hb)]; exact I.mem b' o v x
  · by_cases e : i = j
    · subst e
      have hl := live_lt hj
      simp only [List.getElem?_set_self hl, Option.some.injEq] at hx
      subst hx; exact hx'
    · simp only [List.getElem?_set_ne (fun h => e h.symm)] at hx
      have hb := I.blk i x hx
      cases x with
      | mem f cells =>
        cases f with
        | true => exact hb
        | false =>
          rcases hb with hb | ⟨h0, h1, h2, h3, h4, h5⟩
          · exact .inl hb
          have hne : (g.m i).1 ≠ (g.m j).1 := fun e' => e (I.exb i j (live_of h0 hx (.inl ⟨_, rfl⟩)) hj e')
          refine .inr ⟨h0, by rw [hs]; exact h1, h2, h3, fun o ho ho' => ?_, fun i d hd => ?_⟩
          · obtain ⟨⟨v, hv⟩, hz⟩ := h4 o ho ho'
            exact ⟨⟨v, by rw [cellAt_of_block (h _ hne)]; exact hv⟩, by rw [frozenAt_of_block (h _ hne)]; exact hz⟩
          · obtain ⟨v, hv, hR⟩ := h5 i d hd
            exact ⟨v, by rw [cellAt_of_block (h _ hne)]; exact hv, hR⟩
      | iter s p =>
        obtain ⟨h1, h0, h2, h3⟩ := hb
        have hne : (g.m i).1 ≠ (g.m j).1 := fun e' => e (I.exb i j (live_of h0 hx (.inr ⟨_, _, rfl⟩)) hj e')
        exact ⟨h1, h0, by rw [h _ hne]; exact h2, h3⟩
      | dead => trivial
  · have hb : b' ≠ (g.m j).1 := fun e => I.exm j k en sz hj hk (e ▸ hr)
    obtain ⟨h1, h2, h3⟩ := I.rho k b' en sz hk hr
    refine ⟨by rw [hs]; exact h1, h2, fun o ho ho' => ?_⟩
    obtain ⟨⟨v, hv⟩, hz⟩ := h3 o ho ho'
    exact ⟨⟨v, by rw [cellAt_of_block (h _ hb)]; exact hv⟩, by rw [frozenAt_of_block (h _ hb)]; exact hz⟩

/-- token k has another end from here on -/
def G.reTok (g : G) (k e : Nat) (r : Option (Nat × Nat × Nat)) : G := { g with fr := upd g.fr k e, rho := upd g.rho k r }

theorem reTok_le {g : G} {k e : Nat} (h : g.fr k < e) (r : Option (Nat × Nat × Nat)) : GLe g (g.reTok k e r) := by
  refine ⟨fun _ _ _ x => x, Nat.le_refl _, Nat.le_refl _, fun _ _ => rfl, fun k' _ => ?_⟩
  by_cases a : k' = k
  · subst a; right; simp only [G.reTok, upd_same]; exact h
  · left; simp only [G.reTok, upd_ne _ _ a]; exact ⟨trivial, trivial⟩

theorem Inv.reTok {g : G} {A : St} {w : World} (I : Inv g A w) {k e : Nat} (hk : k < g.nt) (he : g.fr k < e) (r : Option (Nat × Nat × Nat))
    (h : ∀ b en sz, r = some (b, en, sz) → (¬ Owns g A b ∨ ∃ en0 sz0, g.rho k = some (b, en0, sz0)) ∧ RoomOk g w b en sz) :
    Inv (g.reTok k e r) { A with toks := A.toks.set k e } w := by
  have le := reTok_le he r
  have hr0 : (g.reTok k e r).rho k = r := upd_same _ _ _
  have hrn : ∀ k', k' ≠ k → (g.reTok k e r).rho k' = g.rho k' := fun k' a => upd_ne _ _ a
  refine ⟨I.nb, by simp [G.reTok, I.nt], I.mem, fun j x hx => ?_, fun k' e' hk' => ?_, fun k' b en sz hk' hr => ?_, I.exb, fun k1 k2 b en sz en' sz' h1 h2 r1 r2 => ?_, fun j k' en sz hj hk' hr => ?_⟩
  · exact (I.blk j x hx).mono le (by rw [← I.nb]; exact (List.getElem?_eq_some_iff.1 hx).1) (fun _ _ _ => rfl)
  · by_cases a : k' = k
    · subst a
      have hl : k' < A.toks.length := by rw [I.nt]; exact hk
      simp only [List.getElem?_set_self hl, Option.some.injEq] at hk'
      simp only [G.reTok, upd_same]; exact hk'
    · simp only [List.getElem?_set_ne (fun x => a x.symm)] at hk'
      simp only [G.reTok, upd_ne _ _ a]; exact I.tok k' e' hk'
  · by_cases a : k' = k
    · subst a; rw [hr0] at hr; exact (h b en sz hr).2
    · rw [hrn k' a] at hr; exact I.rho k' b en sz hk' hr
  · by_cases a : k1 = k <;> by_cases a' : k2 = k
    · omega
    · subst a; rw [hr0] at r1; rw [hrn k2 a'] at r2
      rcases (h b en sz r1).1 with x | ⟨en0, sz0, x⟩
      · exact absurd (.inr ⟨k2, en', sz', h2, r2⟩) x
      · exact I.exr k1 k2 b en0 sz0 en' sz' h1 h2 x r2
    · subst a'; rw [hr0] at r2; rw [hrn k1 a] at r1
      rcases (h b en' sz' r2).1 with x | ⟨en0, sz0, x⟩
      · exact absurd (.inr ⟨k1, en, sz, h1, r1⟩) x
      · exact I.exr k1 k2 b en sz en0 sz0 h1 h2 r1 x
    · rw [hrn k1 a] at r1; rw [hrn k2 a'] at r2; exact I.exr k1 k2 b en sz en' sz' h1 h2 r1 r2
  · by_cases a : k' = k
    · subst a; rw [hr0] at hr
      rcases (h _ en sz hr).1 with x | ⟨en0, sz0, x⟩
      · exact x (.inl ⟨j, hj, rfl⟩)
      · exact I.exm j k' en0 sz0 hj hk' x
    · rw [hrn k' a] at hr; exact I.exm j k' en sz hj hk' hr

theorem Owns.reTok {g : G} {A : St} {k e : Nat} {r : Option (Nat × Nat × Nat)} {b : Nat} (h : Owns (g.reTok k e r) { A with toks := A.toks.set k e } b) :
    Owns g A b ∨ ∃ en sz, r = some (b, en, sz) := by
  rcases h with ⟨j, hj, x⟩ | ⟨k', en, sz, hk, hr⟩
  · exact .inl (.inl ⟨j, hj, x⟩)
  · by_cases a : k' = k
    · subst a; rw [show (g.reTok k' e r).rho k' = r from upd_same _ _ _] at hr; exact .inr ⟨en, sz, hr⟩
    · rw [show (g.reTok k e r).rho k' = g.rho k' from upd_ne _ _ a] at hr; exact .inl (.inr ⟨k', en, sz, hk, hr⟩)

/-- what a token's room was filled with is written no more -/
theorem Inv.extTok {g : G} {A : St} {w : World} (I : Inv g A w) {b lo hi : Nat} (hb : ∀ j, live g A j → (g.m j).1 ≠ b)
    (hr0 : ∀ k en sz, k < g.nt → g.rho k = some (b, en, sz) → hi ≤ en) (h : ∀ o, lo ≤ o → o < hi → g.mu b o = none) : Inv (g.ext w b lo hi) A w := by
  have le := ext_le w h
  refine ⟨I.nb, I.nt, fun b' o v x => ?_, fun j x hx => ?_, I.tok, fun k b' en sz hk hr => ?_, I.exb, I.exr, I.exm⟩
  · simp only [G.ext] at x
    split at x
    · rename_i hc; obtain ⟨rfl, _, _⟩ := hc; exact x
    · exact I.mem b' o v x
  · refine (I.blk j x hx).mono le (by rw [← I.nb]; exact (List.getElem?_eq_some_iff.1 hx).1) (fun hz hl o => ext_other w (fun e => hb j (live_of hz hx hl) e) o)
  · obtain ⟨h1, h2, h3⟩ := I.rho k b' en sz hk hr
    refine ⟨h1, fun o ho => ?_, h3⟩
    by_cases e : b' = b
    · subst e
      have := hr0 k en sz hk hr
      simp only [G.ext]; rw [if_neg (by omega)]; exact h2 o ho
    · rw [ext_other w e]; exact h2 o ho

end Ev

namespace Ev
open Go

def okCell : Value → D → Bool
  | .int k n, .int k' n' => decide (k = k') && decide (n = n')
  | .bool b, .bool b' => b == b'
  | .string s, .str l => s.data.toList == l
  | .pointer none, .k (.pointer none) | .nilFunc, .k .nilFunc | .nilIface, .k .nilIface | .map none, .k (.map none) => true
  | .slice none 0 0, .sl .nilk _ [] => true
  | _, _ => false

def okCells : List Value → List D → Bool
  | [], [] => true
  | v :: r, d :: r' => okCell v d && okCells r r'
  | _, _ => false

def okConst : Value → D → Bool
  | .agg vs, .agg ds => okCells vs.toList ds
  | v, d => okCell v d

def okOpd : Operand → Opd → Bool
  | .tmp n, .t m => n == m
  | .const v, .d x => okConst v x
  | .func f, .d (.clo f' []) => f == f'
  | _, _ => false

def okOpds : List Operand → List Opd → Bool
  | [], [] => true
  | v :: r, d :: r' => okOpd v d && okOpds r r'
  | _, _ => false

def okOpt : Option Operand → Option Opd → Bool
  | none, none => true
  | some x, some y => okOpd x y
  | _, _ => false

def aggT (P : Program) (t : TypeId) : Bool := match P.underlying t with | some (.struct _) | some (.array _ _) => true | _ => false
def sizeT (P : Program) (t w : Nat) : Bool := match P.info? t with | some i => i.size == w | none => false
def zeroT (P : Program) (t : Nat) (zs : List D) : Bool := match P.info? t with | some i => (match i.zero with | some z => okCells z.cells.toList zs | none => false) | none => false
def intT (P : Program) (t : Nat) (k : IntKind) : Bool := match P.underlying t with | some (.int k') => decide (k' = k) | _ => false
def anyIntT (P : Program) (t : Nat) : Bool := match P.underlying t with | some (.int _) => true | _ => false

/-- slots, and that they are as the plain ones say -/
def Env (g : G) (tmps : Array Value) (ρ : List D) : Prop :=
  tmps.size = ρ.length ∧ ∀ (i : Nat) v d, tmps[i]? = some v → ρ[i]? = some d → R g v d

theorem Env.mono {g g' : G} (h : GLe g g') {t : Array Value} {ρ : List D} (E : Env g t ρ) : Env g' t ρ :=
  ⟨E.1, fun i v d a b => (E.2 i v d a b).mono h⟩

theorem R.undef (g : G) : R g undef .undef := .tup #[] [] rfl (fun i v d h _ => by simp at h)

theorem Env.set {g : G} {t : Array Value} {ρ : List D} (E : Env g t ρ) (n : Nat) {v : Value} {d : D} (h : R g v d) : Env g (t.setIfInBounds n v) (ρ.set n d) := by
  refine ⟨by simp [E.1], fun i v' d' a b => ?_⟩
  by_cases e : n = i
  · subst e
    have hl : n < ρ.length := by have := (List.getElem?_eq_some_iff.1 b).1; simpa using this
    rw [List.getElem?_set_self hl] at b
    rw [Array.getElem?_setIfInBounds_self_of_lt (by rw [E.1]; exact hl)] at a
    cases a; cases b; exact h
  · rw [List.getElem?_set_ne e] at b
    rw [Array.getElem?_setIfInBounds_ne e] at a
    exact E.2 i v' d' a b

theorem Env.get {g : G} {t : Array Value} {ρ : List D} (E : Env g t ρ) (n : Nat) : R g (t.getD n undef) (ρ.getD n .undef) := by
  rw [Array.getD_eq_getD_getElem?, List.getD_eq_getElem?_getD]
  by_cases h : n < ρ.length
  · have h' : n < t.size := by rw [E.1]; exact h
    rw [Array.getElem?_eq_getElem h', List.getElem?_eq_getElem h]
    exact E.2 n _ _ (Array.getElem?_eq_getElem h') (List.getElem?_eq_getElem h)
  · rw [Array.getElem?_eq_none (by rw [E.1]; omega), List.getElem?_eq_none (by omega)]
    exact .undef g

theorem R.of_okCell (g : G) {v : Value} {d : D} (h : okCell v d = true) : R g v d := by
  unfold okCell at h
  split at h
  · simp at h; obtain ⟨rfl, rfl⟩ := h; exact .int _ _
  · simp at h; subst h; exact .bool _
  · rename_i s l; simp at h; subst h; exact .str s.data.toList
  · exact .k _ rfl
  · exact .k _ rfl
  · exact .k _ rfl
  · exact .k _ rfl
  · exact .sl0 none .nilk _ 0 (fun _ => rfl) (fun x h => by cases h) rfl
  · cases h

theorem R.of_okCells (g : G) : ∀ {vs : List Value} {ds : List D}, okCells vs ds = true → vs.length = ds.length ∧ ∀ (i : Nat) v d, vs[i]? = some v → ds[i]? = some d → R g v d
  | [], [], _ => ⟨rfl, fun i v d h _ => by simp at h⟩
  | v :: r, d :: r', h => by
    simp only [okCells, Bool.and_eq_true] at h
    obtain ⟨a, b⟩ := R.of_okCells g h.2
    refine ⟨by simp [a], fun i v' d' hv hd => ?_⟩
    cases i with
    | zero => simp at hv hd; subst hv; subst hd; exact R.of_okCell g h.1
    | succ i => simp at hv hd; exact b i v' d' hv hd
  | [], _ :: _, h => by simp [okCells] at h
  | _ :: _, [], h => by simp [okCells] at h

theorem R.of_okConst (g : G) {v : Value} {d : D} (h : okConst v d = true) : R g v d := by
  unfold okConst at h
  split at h
  · obtain ⟨a, b⟩ := R.of_okCells g h
    exact .agg _ _ (by simpa using a) (fun i v d hv hd => b i v d (by simpa using hv) hd)
  · exact R.of_okCell g h

theorem R.of_opd {g : G} {a : Act} {ρ : List D} (E : Env g a.tmps ρ) {x : Operand} {y : Opd} (h : okOpd x y = true) : R g (a.eval x) (y.ev ρ) := by
  unfold okOpd at h
  split at h
  · simp at h; subst h; exact E.get _
  · exact R.of_okConst g h
  · simp at h; subst h; exact .clo _ #[] [] rfl (fun i v d h _ => by simp at h)
  · cases h

/-- an operation comes to a value that is as the plain machine says -/
def Good (P : Program) (s : Sem Next) (A : St) (g : G) (w : World) (A' : St) (d : D) : Prop :=
  ∃ v w' g', (s.run P w = .ok (.value v) w' ∨ (s.run P w = .ok .skip w' ∧ v = undef)) ∧ Inv g' A' w' ∧ R g' v d ∧ Fr A g w A' g' w'

theorem Good.same {P : Program} {s : Sem Next} {A : St} {g : G} {w : World} {v : Value} {d : D} (I : Inv g A w) (hr : s.run P w = .ok (.value v) w) (h : R g v d) : Good P s A g w A d :=
  ⟨v, w, g, .inl hr, I, h, .refl A g w⟩

-- what a value is, by what it reads as
theorem R.int_inv {g : G} {v : Value} {k : IntKind} {n : Int} (h : R g v (.int k n)) : v = .int k n := by cases h; rfl
theorem R.bool_inv {g : G} {v : Value} {b : Bool} (h : R g v (.bool b)) : v = .bool b := by cases h; rfl
theorem R.str_inv {g : G} {v : Value} {s : List UInt8} (h : R g v (.str s)) : v = .string ⟨s.toArray⟩ := by cases h; rfl
theorem R.k_inv {g : G} {v v' : Value} (h : R g v (.k v')) : v = v' := by cases h; rfl
theorem R.ptr_inv {g : G} {v : Value} {j off : Nat} (h : R g v (.ptr j off)) : v = .pointer (some ⟨(g.m j).1, (g.m j).2.1 + off, none⟩) ∧ j < g.nb := by cases h; exact ⟨rfl, by assumption⟩
theorem R.ref_inv {g : G} {v : Value} {ds : List D} (h : R g v (.ref ds)) : ∃ (b off : Nat) (vs : Nat → Value), v = .pointer (some ⟨b, off, none⟩) ∧ (∀ c, c ∈ ds → c.pc = true) ∧
    (∀ j, j < ds.length → g.mu b (off + j) = some (vs j)) ∧ (∀ (j : Nat) d, ds[j]? = some d → R g (vs j) d) := by
  cases h with | ref b off ds vs a b' c => exact ⟨b, off, vs, rfl, a, b', c⟩
theorem R.agg_inv {g : G} {v : Value} {ds : List D} (h : R g v (.agg ds)) : ∃ vs, v = .agg vs ∧ vs.size = ds.length ∧ ∀ (i : Nat) v d, vs[i]? = some v → ds[i]? = some d → R g v d := by
  cases h with | agg vs ds a b => exact ⟨vs, rfl, a, b⟩
theorem R.tup_inv {g : G} {v : Value} {ds : List D} (h : R g v (.tup ds)) : ∃ vs, v = .tuple vs ∧ vs.size = ds.length ∧ ∀ (i : Nat) v d, vs[i]? = some v → ds[i]? = some d → R g v d := by
  cases h with | tup vs ds a b => exact ⟨vs, rfl, a, b⟩
theorem R.loc_inv {g : G} {v : Value} {j off w n : Nat} (h : R g v (.loc j off w n)) : j < g.nb ∧ ((∃ cap, v = .slice (some ⟨(g.m j).1, (g.m j).2.1 + off, none⟩) n cap ∧ n ≤ cap ∧ (g.m j).2.1 + off + cap * w ≤ (g.m j).2.2) ∨
    ∃ a, v = .slice a 0 0 ∧ n = 0 ∧ ∀ x, a = some x → x.spot = x.spot) := by
  cases h with
  | loc j off w n cap hj hc hl => exact ⟨hj, .inl ⟨cap, rfl, hc, hl⟩⟩
  | loc0 a j off w hj hs => exact ⟨hj, .inr ⟨a, rfl, rfl, hs⟩⟩
theorem R.sl_inv {g : G} {v : Value} {o : Own} {w : Nat} {els : List (List D)} (h : R g v (.sl o w els)) : ∃ a cap, v = .slice a els.length cap ∧ els.length ≤ cap ∧ OwnR g v w els.length o ∧ (∀ x, a = some x → x.spot = x.spot) ∧
    (∀ el, el ∈ els → el.length = w) ∧ (∀ el, el ∈ els → ∀ c, c ∈ el → c.pc = true) ∧ (a = none → cap = 0) ∧
    (els ≠ [] → ∃ (b off : Nat) (vs : Nat → Value), a = some ⟨b, off, none⟩ ∧ (∀ j, j < els.length * w → g.mu b (off + j) = some (vs j)) ∧ (∀ (j : Nat) d, els.flatten[j]? = some d → R g (vs j) d)) := by
  cases h with
  | sl0 a o w cap ha hs ho => exact ⟨a, cap, rfl, Nat.zero_le _, ho, hs, (fun _ h => by cases h), (fun _ h => by cases h), ha, fun h => absurd rfl h⟩
  | sl b off cap o w els vs hcap hw hpc hmu hr ho =>
    exact ⟨_, cap, rfl, hcap, ho, (fun x h => by cases h; rfl), hw, hpc, (fun h => by cases h), fun _ => ⟨b, off, vs, rfl, hmu, hr⟩⟩

theorem R.oneCell {g : G} {v : Value} {d : D} (h : R g v d) (hp : putCells.D.pc0 d = true) : v.oneCell' = true := by
  cases h with
  | k v hv => cases v <;> first | rfl | (simp [flatV] at hv)
  | agg => simp [putCells.D.pc0] at hp
  | tup => simp [putCells.D.pc0] at hp
  | _ => rfl

/-- a value's cells, one by one -/
theorem R.cells {g : G} {v : Value} {d : D} (h : R g v d) (hp : d.cells.all putCells.D.pc0 = true) :
    v.cells.size = d.cells.length ∧ ∀ (i : Nat) v' d', v.cells[i]? = some v' → d.cells[i]? = some d' → R g v' d' := by
  cases d with
  | agg ds =>
    obtain ⟨vs, rfl, a, b⟩ := h.agg_inv
    exact ⟨a, b⟩
  | _ =>
    have hv : v.cells = #[v] := by
      have := h.oneCell (by simpa [D.cells] using hp)
      cases v <;> first | rfl | (simp [Value.oneCell'] at this)
    rw [hv]
    refine ⟨rfl, fun i v' d' a b => ?_⟩
    cases i with
    | zero => simp [D.cells] at a b; subst a; subst b; exact h
    | succ i => simp at a

end Ev

namespace Ev
open Go

variable {P : Program} {A : St} {g : G} {w : World} {a : Act} {ρ : List D} {o : Oper}

theorem run_und {t : TypeId} {d : TypeDesc} (h : P.underlying t = some d) : (underlying t).run P w = .ok d w := by simp [underlying, h]
theorem run_sizeT {t n : Nat} (h : sizeT P t n = true) : (Go.sizeOf t).run P w = .ok n w := by
  unfold sizeT at h
  split at h
  · rename_i i hi; simp at h; subst h; simp [Go.sizeOf, typeInfo, hi]
  · cases h
theorem run_tinfo {t : TypeId} {i : TypeInfo} (h : P.info? t = some i) : (typeInfo t).run P w = .ok i w := by simp [typeInfo, h]

theorem g_mov (I : Inv g A w) (E : Env g a.tmps ρ) {x : Operand} {y : Opd} (ho : o.op = .move x ∨ o.op = .assign x) (hx : okOpd x y = true) :
    Good P (execOp a.eval o) A g w A (y.ev ρ) := by
  have hR := R.of_opd E hx
  refine .same I ?_ hR
  rcases ho with ho | ho <;> simp [execOp, ho]

theorem g_nilc_ptr (I : Inv g A w) (E : Env g a.tmps ρ) {x : Operand} {y : Opd} (ho : o.op = .nilCheck x) (hx : okOpd x y = true) {d : D}
    (h : nilcD (y.ev ρ) = some d) :
    Good P (execOp a.eval o) A g w A d := by
  have hR := R.of_opd E hx
  unfold nilcD at h
  split at h
  · rename_i j off e; rw [e] at hR; cases h
    obtain ⟨hv, _⟩ := hR.ptr_inv
    refine .same I ?_ hR
    simp only [execOp, ho, hv]; rfl
  · rename_i ds e; rw [e] at hR; cases h
    obtain ⟨b, off, vs, hv, _⟩ := hR.ref_inv
    refine .same I ?_ hR
    simp only [execOp, ho, hv]; rfl
  · cases h

theorem g_pick (I : Inv g A w) (E : Env g a.tmps ρ) {c x x' : Operand} {c' y y' : Opd} (ho : o.op = .pick c x x') (hc : okOpd c c' = true) (hx : okOpd x y = true) (hx' : okOpd x' y' = true) {t : Bool}
    (h : c'.ev ρ = .bool t) : Good P (execOp a.eval o) A g w A (if t then y.ev ρ else y'.ev ρ) := by
  have hR := R.of_opd E hc
  rw [h] at hR
  have hv := hR.bool_inv
  refine .same (v := if t then a.eval x else a.eval x') I ?_ ?_
  · simp [execOp, ho, hv, asBool]
  · cases t
    · exact R.of_opd E hx'
    · exact R.of_opd E hx

theorem run_binOp_int {op : BinOp} {xt : TypeId} {k : IntKind} {m n : Int} {d : D} (h : binInt op k m n = some d) :
    ∃ v, (binOp op xt (.int k m) (.int k n)).run P w = .ok v w ∧ R g v d := by
  cases op <;> simp only [binInt] at h
  case shl => cases h
  case shr => cases h
  case quo =>
    split at h
    · cases h
    · rename_i hz; cases h; exact ⟨_, by simp [binOp, Op.intDiv, hz], .int _ _⟩
  case rem =>
    split at h
    · cases h
    · rename_i hz; cases h; exact ⟨_, by simp [binOp, Op.intDiv, hz], .int _ _⟩
  all_goals (cases h; first | exact ⟨.int _ _, by simp only [binOp, ne_eq, not_true_eq_false, if_false]; rfl, .int _ _⟩ | exact ⟨.bool _, by simp only [binOp, ne_eq, not_true_eq_false, if_false]; rfl, .bool _⟩)

theorem run_binOp_sh {op : BinOp} (hop : op = .shl ∨ op = .shr) {xt : TypeId} {k k' : IntKind} {m n : Int} {d : D} (h : shInt op k m n = some d) :
    ∃ v, (binOp op xt (.int k m) (.int k' n)).run P w = .ok v w ∧ R g v d := by
  unfold shInt at h
  split at h
  · cases h
  · rename_i hz
    rcases hop with rfl | rfl <;> (cases h; exact ⟨_, by simp [binOp, Op.shift, hz] <;> rfl, .int _ _⟩)

theorem toList_loop (b : ByteArray) : ∀ (n i : Nat) (r : List UInt8), b.size - i = n → ByteArray.toList.loop b i r = r.reverse ++ b.data.toList.drop i := by
  intro n
  induction n with
  | zero =>
    intro i r hn
    unfold ByteArray.toList.loop
    have hl : b.data.toList.length = b.size := by simp
    rw [if_neg (by omega), List.drop_of_length_le (by omega)]; simp
  | succ n ih =>
    intro i r hn
    unfold ByteArray.toList.loop
    have hs : b.data.toList.length = b.size := by simp
    have hl : i < b.data.toList.length := by omega
    rw [if_pos (by omega), ih (i + 1) _ (by omega), List.drop_eq_getElem_cons hl]
    simp only [List.reverse_cons, List.append_assoc, List.singleton_append]
    have hl' : i < b.data.size := by simpa using hl
    simp only [ByteArray.get!, getElem!_pos b.data i hl', Array.getElem_toList]

theorem bytes_toList (l : List UInt8) : (ByteArray.mk l.toArray).toList = l := by
  unfold ByteArray.toList
  rw [toList_loop _ _ _ _ rfl]; simp

theorem run_binOp_str {op : BinOp} {xt : TypeId} {x y : List UInt8} {d : D} (h : binStr op x y = some d) :
    ∃ v, (binOp op xt (.string ⟨x.toArray⟩) (.string ⟨y.toArray⟩)).run P w = .ok v w ∧ R g v d := by
  have e1 := bytes_toList x
  have e2 := bytes_toList y
  cases op <;> simp only [binStr] at h
  case add =>
    split at h
    · rename_i hl
      cases h
      refine ⟨.string ⟨(x ++ y).toArray⟩, ?_, .str _⟩
      have hz : ¬ ((((ByteArray.mk x.toArray).size + (ByteArray.mk y.toArray).size : Nat) : Int) > IntKind.i64.max) := by
        simp only [ByteArray.size, List.size_toArray]
        have : IntKind.i64.max = 9223372036854775807 := by decide
        rw [this]; omega
      have ha : (ByteArray.mk x.toArray) ++ (ByteArray.mk y.toArray) = ByteArray.mk (x ++ y).toArray := by
        apply ByteArray.ext; simp
      simp only [binOp, Op.stringOp]
      rw [if_neg hz, ha]; rfl
    · cases h
  all_goals first
    | (cases h; done)
    | (cases h; exact ⟨_, by simp [binOp, Op.stringOp, e1, e2] <;> rfl, .bool _⟩)

theorem eqGuard_lit {op : BinOp} {t : TypeId} {x y : Operand} {u v : Value} (hu : (∃ k n, u = .int k n) ∨ (∃ s, u = .string s) ∨ (∃ b, u = .bool b) ∨ (∃ p, u = .pointer p) ∨ (∃ p l c, u = .slice p l c)) :
    (eqGuard op t x y u v).run P w = .ok () w := by
  rcases hu with ⟨k, n, rfl⟩ | ⟨s, rfl⟩ | ⟨b, rfl⟩ | ⟨p, rfl⟩ | ⟨p, l, c, rfl⟩ <;> cases op <;> simp [eqGuard]

theorem g_bin (I : Inv g A w) (E : Env g a.tmps ρ) {op : BinOp} {xt yt : TypeId} {x x' : Operand} {y y' : Opd} (ho : o.op = .binOp op xt x x' yt) (hx : okOpd x y = true) (hx' : okOpd x' y' = true) {d : D}
    (h : runBin op (y.ev ρ) (y'.ev ρ) = some d) : Good P (execOp a.eval o) A g w A d := by
  have hR := R.of_opd E hx
  have hR' := R.of_opd E hx'
  unfold runBin at h
  split at h
  · rename_i k m k' n e e'
    rw [e] at hR; rw [e'] at hR'
    have hv := hR.int_inv
    have hv' := hR'.int_inv
    have hrun : ∃ v, (binOp op xt (.int k m) (.int k' n)).run P w = .ok v w ∧ R g v d := by
      split at h
      · exact run_binOp_sh (.inl rfl) h
      · exact run_binOp_sh (.inr rfl) h
      · split at h
        · rename_i hk; subst hk; exact run_binOp_int h
        · cases h
    obtain ⟨v, h1, h2⟩ := hrun
    refine .same (v := v) I ?_ h2
    simp only [execOp, ho, hv, hv', Sem.run_bind]
    rw [eqGuard_lit (.inl ⟨_, _, rfl⟩)]
    simp [h1]
  · rename_i s s' e e'
    rw [e] at hR; rw [e'] at hR'
    have hv := hR.str_inv
    have hv' := hR'.str_inv
    obtain ⟨v, h1, h2⟩ := run_binOp_str (P := P) (w := w) (g := g) (xt := xt) h
    refine .same (v := v) I ?_ h2
    simp only [execOp, ho, hv, hv', Sem.run_bind]
    rw [eqGuard_lit (.inr (.inl ⟨_, rfl⟩))]
    simp [h1]
  · cases h

theorem run_equalIn_bool {xt : TypeId} (ht : P.underlying xt = some .bool) (d : Nat) (b b' : Bool) : (Op.equalIn (d + 1) xt (.bool b) (.bool b')).run P w = .ok (b == b') w := by
  simp only [Op.equalIn, Sem.run_bind, run_und ht, Result.andThen_ok]; rfl

theorem g_eqb (I : Inv g A w) (E : Env g a.tmps ρ) {ng : Bool} {xt yt : TypeId} {x x' : Operand} {y y' : Opd} (ho : o.op = .binOp (if ng then .neq else .eql) xt x x' yt) (hx : okOpd x y = true) (hx' : okOpd x' y' = true)
    (ht : P.underlying xt = some .bool) {b b' : Bool} (h : y.ev ρ = .bool b) (h' : y'.ev ρ = .bool b') :
    Good P (execOp a.eval o) A g w A (.bool (if ng then !(b == b') else (b == b'))) := by
  have hR := R.of_opd E hx
  have hR' := R.of_opd E hx'
  rw [h] at hR; rw [h'] at hR'
  have hv := hR.bool_inv
  have hv' := hR'.bool_inv
  refine .same (v := .bool (if ng then !(b == b') else (b == b'))) I ?_ (.bool _)
  simp only [execOp, ho, hv, hv', Sem.run_bind]
  rw [eqGuard_lit (.inr (.inr (.inl ⟨_, rfl⟩)))]
  have he : (Op.equal xt (.bool b) (.bool b')).run P w = .ok (b == b') w := by
    exact run_equalIn_bool ht 9999 b b'
  cases ng <;> simp [binOp, he]

theorem g_neg (I : Inv g A w) (E : Env g a.tmps ρ) {op : UnOp} {xt : TypeId} {x : Operand} {y : Opd} (ho : o.op = .unOp op xt x) (hx : okOpd x y = true) {d : D}
    (h : runNeg op (y.ev ρ) = some d) : Good P (execOp a.eval o) A g w A d := by
  have hR := R.of_opd E hx
  unfold runNeg at h
  split at h
  · rename_i k n e
    rw [e] at hR
    have hv := hR.int_inv
    split at h
    · cases h; exact .same I (by simp [execOp, ho, hv, Op.unary, Op.intArith] <;> rfl) (.int _ _)
    · cases h; exact .same I (by simp [execOp, ho, hv, Op.unary, Op.intBits] <;> rfl) (.int _ _)
    · cases h
  · rename_i b e
    rw [e] at hR
    have hv := hR.bool_inv
    split at h
    · cases h; exact .same I (by simp [execOp, ho, hv, Op.unary] <;> rfl) (.bool _)
    · cases h
  · cases h

theorem g_ext (I : Inv g A w) (E : Env g a.tmps ρ) {i : Nat} {x : Operand} {y : Opd} (ho : o.op = .extract x i) (hx : okOpd x y = true) {ds : List D} {d : D}
    (h : y.ev ρ = .tup ds) (hd : ds[i]? = some d) : Good P (execOp a.eval o) A g w A d := by
  have hR := R.of_opd E hx
  rw [h] at hR
  obtain ⟨vs, hv, hl, hr⟩ := hR.tup_inv
  have hi : i < vs.size := by rw [hl]; exact (List.getElem?_eq_some_iff.1 hd).1
  have hvi : vs[i]? = some vs[i] := Array.getElem?_eq_getElem hi
  exact .same I (by simp [execOp, ho, hv, Instr.extract, hvi] <;> rfl) (hr i _ d hvi hd)

theorem g_idxT (I : Inv g A w) (E : Env g a.tmps ρ) {t : TypeId} {x x' : Operand} {y y' : Opd} (ho : o.op = .index t x x') (hx : okOpd x y = true) (hx' : okOpd x' y' = true)
    (ht : P.underlying t = some .string) {s : List UInt8} {k : IntKind} {i : Int} {b : UInt8} (h : y.ev ρ = .str s) (h' : y'.ev ρ = .int k i) (hi : 0 ≤ i) (hb : s[i.toNat]? = some b) :
    Good P (execOp a.eval o) A g w A (.int .u8 b.toNat) := by
  have hR := R.of_opd E hx
  have hR' := R.of_opd E hx'
  rw [h] at hR; rw [h'] at hR'
  have hv := hR.str_inv
  have hv' := hR'.int_inv
  have hl := (List.getElem?_eq_some_iff.1 hb).1
  have hbb : (ByteArray.mk s.toArray)[i.toNat]? = some b := by
    rw [getElem?_pos _ _ (by simpa [ByteArray.size] using hl)]
    have := (List.getElem?_eq_some_iff.1 hb).2
    simp [ByteArray.getElem_eq_getElem_data, this]
  refine .same I ?_ (.int _ _)
  simp [execOp, ho, hv, hv', Instr.index, asIntOf, run_und ht, hi, hbb]

theorem exec_builtin {ev : Operand → Value} {b : Builtin} {args : Array Operand} {ts : Array TypeId} (ho : o.op = .call { callee := .builtin b, args := args, argTypes := ts }) :
    execOp ev o = builtin b ts o.type (args.map fun | .const _ => true | _ => false) (args.map ev) := by
  simp only [execOp, ho]; rfl

theorem run_len_str {t ty : TypeId} (ht : P.underlying t = some .string) (s : ByteArray) : (Builtin.len_ #[t] ty #[.string s]).run P w = .ok (.int .i64 s.size) w := by
  simp [Builtin.len_, run_und ht, goInt]
theorem run_len_sl {t ty e : TypeId} (ht : P.underlying t = some (.slice e)) (p : Option Addr) (n c : Nat) : (Builtin.len_ #[t] ty #[.slice p n c]).run P w = .ok (.int .i64 n) w := by
  simp [Builtin.len_, run_und ht, goInt]
theorem run_len_arr {t ty e n : TypeId} (ht : P.underlying t = some (.array n e)) (v : Value) : (Builtin.len_ #[t] ty #[v]).run P w = .ok (.int .i64 n) w := by
  simp [Builtin.len_, run_und ht, goInt]

theorem g_len (I : Inv g A w) (E : Env g a.tmps ρ) {t : TypeId} {x : Operand} {y : Opd} (ho : o.op = .call { callee := .builtin .len, args := #[x], argTypes := #[t] }) (hx : okOpd x y = true) {d : D}
    (hu : ∃ e, P.underlying t = some (.slice e))
    (h : lenD (y.ev ρ) = some d) :
    Good P (execOp a.eval o) A g w A d := by
  have hR := R.of_opd E hx
  unfold lenD at h
  obtain ⟨e', hu⟩ := hu
  rw [exec_builtin ho]
  split at h
  · rename_i oo ww els e
    rw [e] at hR; cases h
    obtain ⟨b, cap, hv, _⟩ := hR.sl_inv
    refine .same I (v := .int .i64 els.length) ?_ (.int _ _)
    simp only [List.map_toArray, List.map_cons, List.map_nil, hv, builtin, Sem.run_bind, run_len_sl hu, Result.andThen_ok]; rfl
  · rename_i j off ww n e
    rw [e] at hR; cases h
    refine .same I (v := .int .i64 n) ?_ (.int _ _)
    obtain ⟨_, ⟨cap, hv, _⟩ | ⟨b, hv, rfl, _⟩⟩ := hR.loc_inv
    · simp only [List.map_toArray, List.map_cons, List.map_nil, hv, builtin, Sem.run_bind, run_len_sl hu, Result.andThen_ok]; rfl
    · simp only [List.map_toArray, List.map_cons, List.map_nil, hv, builtin, Sem.run_bind, run_len_sl hu, Result.andThen_ok]; rfl
  · cases h

theorem g_lenT (I : Inv g A w) (E : Env g a.tmps ρ) {t : TypeId} {x : Operand} {y : Opd} (ho : o.op = .call { callee := .builtin .len, args := #[x], argTypes := #[t] }) (hx : okOpd x y = true)
    (hu : P.underlying t = some .string) {s : List UInt8} (h : y.ev ρ = .str s) : Good P (execOp a.eval o) A g w A (.int .i64 s.length) := by
  have hR := R.of_opd E hx
  rw [exec_builtin ho]
  rw [h] at hR
  have hv := hR.str_inv
  refine .same I (v := .int .i64 s.length) ?_ (.int _ _)
  simp only [List.map_toArray, List.map_cons, List.map_nil, hv, builtin, Sem.run_bind, run_len_str hu, Result.andThen_ok]; rfl

theorem g_lenC (I : Inv g A w) {t n e : Nat} {x : Operand} (ho : o.op = .call { callee := .builtin .len, args := #[x], argTypes := #[t] }) (ht : P.underlying t = some (.array n e)) :
    Good P (execOp a.eval o) A g w A (.int .i64 n) := by
  rw [exec_builtin ho]
  refine .same I (v := .int .i64 n) ?_ (.int _ _)
  simp only [List.map_toArray, List.map_cons, List.map_nil, builtin, Sem.run_bind, run_len_arr ht, Result.andThen_ok]; rfl

end Ev

namespace Ev
open Go

variable {P : Program} {A : St} {g : G} {w : World} {a : Act} {ρ : List D} {o : Oper}

def aggIs (P : Program) (t : TypeId) (ag : Bool) : Bool := match P.underlying t with
  | some (.struct _) | some (.array _ _) => ag
  | some _ => !ag
  | none => false

theorem run_isAgg {t : TypeId} {ag : Bool} (h : aggIs P t ag = true) : (isAgg t).run P w = .ok ag w := by
  unfold aggIs at h
  unfold isAgg
  split at h
  · rename_i hu; subst h; simp [run_und hu]
  · rename_i hu; subst h; simp [run_und hu]
  · rename_i d h1 h2 hu
    simp at h; subst h
    simp only [Sem.run_bind, run_und hu, Result.andThen_ok]
    cases d <;> first | rfl | exact absurd rfl (h1 _) | exact absurd rfl (h2 _ _)
  · cases h

/-- memory from a place on reads so -/
def Reads (g : G) (w : World) (b o : Nat) (ds : List D) : Prop := ∀ (i : Nat) d, ds[i]? = some d → ∃ v, cellAt w b (o + i) = some v ∧ R g v d

theorem reads_blk (I : Inv g A w) {j : Nat} {f : Bool} {cells : List D} (h : A.blks[j]? = some (.mem f cells)) : Reads g w (g.m j).1 (g.m j).2.1 cells := by
  have hb := I.blk j _ h
  cases f with
  | true =>
    intro i d hd
    obtain ⟨v, hv, hR⟩ := hb.2 i d hd
    exact ⟨v, I.mem _ _ _ hv, hR⟩
  | false =>
    rcases hb with ⟨_, rfl⟩ | ⟨_, _, _, _, _, h5⟩
    · intro i d hd; simp at hd
    · exact h5

theorem Reads.drop {b o : Nat} {ds : List D} (h : Reads g w b o ds) (n : Nat) : Reads g w b (o + n) (ds.drop n) := by
  intro i d hd
  rw [List.getElem?_drop] at hd
  obtain ⟨v, hv, hR⟩ := h _ d hd
  exact ⟨v, by rw [Nat.add_assoc]; exact hv, hR⟩

theorem Reads.take {b o : Nat} {ds : List D} (h : Reads g w b o ds) (n : Nat) : Reads g w b o (ds.take n) := by
  intro i d hd
  rw [List.getElem?_take] at hd
  split at hd
  · exact h i d hd
  · cases hd

theorem Reads.map_er {b o : Nat} {ds : List D} (h : Reads g w b o ds) : Reads g w b o (ds.map D.er) := by
  intro i d hd
  rw [List.getElem?_map] at hd
  cases hx : ds[i]? with
  | none => rw [hx] at hd; cases hd
  | some x =>
    rw [hx] at hd; cases hd
    obtain ⟨v, hv, hR⟩ := h i x hx
    exact ⟨v, hv, hR.er⟩

theorem reads_ref (I : Inv g A w) {v : Value} {ds : List D} (h : R g v (.ref ds)) : ∃ b o, v = .pointer (some ⟨b, o, none⟩) ∧ Reads g w b o ds := by
  obtain ⟨b, off, vs, rfl, _, hmu, hr⟩ := h.ref_inv
  refine ⟨b, off, rfl, fun i d hd => ?_⟩
  exact ⟨vs i, I.mem _ _ _ (hmu i (List.getElem?_eq_some_iff.1 hd).1), hr i d hd⟩

theorem run_loadAgg {t n b o' : Nat} {ds : List D} (ha : aggIs P t true = true) (hs : sizeT P t n = true) (hr : Reads g w b o' ds) (hn : n = ds.length) :
    ∃ vs, (loadVar t ⟨b, o', none⟩).run P w = .ok (.agg vs) w ∧ R g (.agg vs) (.agg ds) := by
  have hc : ∀ j, j < n → w.cell? ((⟨b, o', none⟩ : Addr).add j) = some ((cellAt w b (o' + j)).getD default) := by
    intro j hj
    obtain ⟨v, hv, _⟩ := hr j _ (List.getElem?_eq_getElem (by omega))
    rw [add_none]; simp only [cellAt] at hv ⊢; rw [hv]; rfl
  refine ⟨((List.range n).map fun j => (cellAt w b (o' + j)).getD default).toArray, ?_, ?_⟩
  · simp only [loadVar, Sem.run_bind, run_isAgg ha, Result.andThen_ok, if_true, run_sizeT hs, run_loadCells w _ n _ hc, Sem.run_pure]
  · refine .agg _ _ (by simp [hn]) (fun i v d hv hd => ?_)
    have hi := (List.getElem?_eq_some_iff.1 hd).1
    obtain ⟨u, hu, hR⟩ := hr i d hd
    simp only [List.getElem?_toArray, List.getElem?_map, List.getElem?_range (show i < n by omega), Option.map_some, Option.some.injEq] at hv
    rw [hu] at hv; simp only [Option.getD_some] at hv; subst hv; exact hR

theorem run_loadOne {t b o' : Nat} {ds : List D} {d : D} (ha : aggIs P t false = true) (hr : Reads g w b o' ds) (hd : ds[0]? = some d) :
    ∃ v, (loadVar t ⟨b, o', none⟩).run P w = .ok v w ∧ R g v d := by
  obtain ⟨v, hv, hR⟩ := hr 0 d hd
  refine ⟨v, ?_, hR⟩
  simp only [cellAt, Nat.add_zero] at hv
  simp [loadVar, run_isAgg ha, hv]

theorem g_load (I : Inv g A w) (E : Env g a.tmps ρ) {t n : Nat} {ag : Bool} {x : Operand} {y : Opd} (ho : o.op = .load t x) (hx : okOpd x y = true) (ha : aggIs P t ag = true)
    (hs : ag = true → sizeT P t n = true) {d : D} (h : loadD A n ag (y.ev ρ) = some d) : Good P (execOp a.eval o) A g w A d := by
  have hR := R.of_opd E hx
  have fin : ∀ {b o' : Nat} {ds : List D}, a.eval x = .pointer (some ⟨b, o', none⟩) → Reads g w b o' ds →
      (if ag then (if n ≤ ds.length then some (D.agg (ds.take n)) else none) else ds[0]?) = some d → Good P (execOp a.eval o) A g w A d := by
    intro b o' ds hv hr h
    cases ag with
    | true =>
      rw [if_pos rfl] at h
      split at h
      · rename_i hn
        cases h
        obtain ⟨vs, h1, h2⟩ := run_loadAgg (P := P) ha (hs rfl) (hr.take n) (by simp; omega)
        exact .same I (by simp [execOp, ho, hv, Instr.loadAt, Instr.sureAddr, h1] <;> rfl) h2
      · cases h
    | false =>
      rw [if_neg (by simp)] at h
      obtain ⟨v, h1, h2⟩ := run_loadOne (P := P) ha hr h
      exact .same I (by simp [execOp, ho, hv, Instr.loadAt, Instr.sureAddr, h1] <;> rfl) h2
  unfold loadD at h
  split at h
  · rename_i j off e
    rw [e] at hR
    obtain ⟨hv, hj⟩ := hR.ptr_inv
    split at h
    · rename_i f cells hb
      cases ag with
      | true =>
        refine fin hv (((reads_blk I hb).drop off).map_er) ?_
        simp only [if_true, List.length_map, List.length_drop, List.map_take] at h ⊢
        by_cases hc : off + n ≤ cells.length
        · rw [if_pos hc] at h; rw [if_pos (by omega)]; exact h
        · rw [if_neg hc] at h; cases h
      | false =>
        refine fin hv ((reads_blk I hb).drop off) ?_
        simp only [Bool.false_eq_true, if_false, List.getElem?_drop, Nat.add_zero] at h ⊢
        exact h
    · cases h
  · rename_i ds e
    rw [e] at hR
    obtain ⟨b, o', hv, hr⟩ := reads_ref I hR
    exact fin hv hr h
  · cases h

theorem pc_pc0 {d : D} (h : d.pc = true) : putCells.D.pc0 d = true := by
  cases d <;> first | rfl | (simp [D.pc] at h)
  rename_i oo _ _; cases oo <;> first | rfl | (simp [D.pc] at h)

theorem g_store (I : Inv g A w) (E : Env g a.tmps ρ) {t n : Nat} {x x' : Operand} {y y' : Opd} (ho : o.op = .store t x x') (hx : okOpd x y = true) (hx' : okOpd x' y' = true)
    (hs : sizeT P t n = true) {d : D} {A' : St} (h : storeD A n (y.ev ρ) (y'.ev ρ) = some (d, A')) : Good P (execOp a.eval o) A g w A' d := by
  have hR := R.of_opd E hx
  have hR' := R.of_opd E hx'
  unfold storeD at h
  split at h
  · rename_i j off e
    rw [e] at hR
    obtain ⟨hv, hj⟩ := hR.ptr_inv
    split at h
    · rename_i cells hb
      split at h
      · rename_i hc
        obtain ⟨hc1, hc2, hc3⟩ := hc
        simp only [Option.some.injEq, Prod.mk.injEq] at h
        obtain ⟨rfl, rfl⟩ := h
        obtain ⟨hsz, hcell⟩ := hR'.cells hc3
        have hB := I.blk j _ hb
        by_cases hlim : (g.m j).2.2 = 0
        · -- nothing there
          rcases hB with ⟨_, rfl⟩ | ⟨h0, _⟩
          case inr => exact absurd hlim h0
          have hn : n = 0 := by simp at hc2; omega
          have hoff : off = 0 := by simp at hc2; omega
          subst hn; subst hoff
          have hy0 : (y'.ev ρ).cells = [] := List.eq_nil_of_length_eq_zero hc1
          have hl0 : (a.eval x').cells.toList = [] := by apply List.eq_nil_of_length_eq_zero; rw [Array.length_toList, hsz, hc1]
          refine ⟨undef, w, g, .inr ⟨?_, rfl⟩, ?_, .undef g, ?_⟩
          · have hz : (a.eval x').cells.size = 0 := by rw [hsz, hc1]
            simp [execOp, ho, hv, Instr.storeAt, Instr.sureAddr, storeVar, run_sizeT hs, hz, hl0, storeCells]
          · rw [hy0]; simp only [List.append_nil, List.take_nil, List.drop_nil, List.nil_append]
            have : ({ A with blks := A.blks.set j (.mem false []) } : St) = A := by
              have hj' := List.getElem?_eq_some_iff.1 hb
              cases A with | mk bl tk => simp only [St.mk.injEq, and_true]; simp only at hj' hb; rw [← hj'.2]; exact List.set_getElem_self _
            rw [this]; exact I
          · rw [hy0]; simp only [List.append_nil, List.take_nil, List.drop_nil, List.nil_append]
            have : ({ A with blks := A.blks.set j (.mem false []) } : St) = A := by
              have hj' := List.getElem?_eq_some_iff.1 hb
              cases A with | mk bl tk => simp only [St.mk.injEq, and_true]; simp only at hj' hb; rw [← hj'.2]; exact List.set_getElem_self _
            rw [this]; exact .refl A g w
        · rcases hB with ⟨h0, _⟩ | ⟨h0, h1, h2, h3, h4, h5⟩
          · exact absurd h0 hlim
          have hl : live g A j := live_of h0 hb (.inl ⟨_, rfl⟩)
          have hvl : (a.eval x').cells.toList.length = n := by rw [Array.length_toList, hsz, hc1]
          obtain ⟨w', hrun, W⟩ := run_storeCells P (g.m j).1 ((g.m j).2.1 + off) (a.eval x').cells.toList 0 w (fun k hk => by
            refine h4 _ (by omega) ?_
            rw [hvl] at hk; omega) (fun v hv => by
            obtain ⟨i, hi, rfl⟩ := List.getElem_of_mem hv
            have hi' : i < (y'.ev ρ).cells.length := by rw [← hsz]; simpa using hi
            have := hcell i _ _ (Array.getElem?_eq_getElem (by simpa using hi)) (List.getElem?_eq_getElem hi')
            simp only [Array.getElem_toList]
            exact this.oneCell (List.all_eq_true.1 hc3 _ (List.getElem_mem hi')))
          simp only [Nat.add_zero] at W
          refine ⟨undef, w', g, .inr ⟨?_, rfl⟩, ?_, .undef g, ?_⟩
          · have hz : (a.eval x').cells.size = n := by rw [hsz, hc1]
            simp [execOp, ho, hv, Instr.storeAt, Instr.sureAddr, storeVar, run_sizeT hs, hz, hrun]
          · refine I.putBlk hl _ W.size W.other (fun o' v hm => ?_) (.inr ⟨h0, by rw [W.size]; exact h1, ?_, h3, fun o' ho1 ho2 => ?_, fun i d hd => ?_⟩)
            · rw [W.cell]
              rw [if_neg (by intro hh; have := h3 o' (by omega); rw [this] at hm; cases hm)]
              exact I.mem _ _ _ hm
            · simp only [List.length_append, List.length_take, List.length_drop]; omega
            · refine ⟨?_, by rw [W.frozen]; exact (h4 o' ho1 ho2).2⟩
              rw [W.cell]
              split
              · rename_i hh
                exact ⟨_, List.getElem?_eq_getElem (by omega)⟩
              · exact (h4 o' ho1 ho2).1
            · rw [W.cell]
              by_cases hi1 : i < off
              · rw [if_neg (by omega)]
                rw [List.append_assoc, List.getElem?_append_left (by simp; omega), List.getElem?_take, if_pos hi1] at hd
                exact h5 i d hd
              · by_cases hi2 : i < off + n
                · rw [if_pos (by omega)]
                  rw [List.append_assoc, List.getElem?_append_right (by simp; omega), List.getElem?_append_left (by simp; omega)] at hd
                  simp only [List.length_take, Nat.min_eq_left (show off ≤ cells.length by omega)] at hd
                  have hk : i - off < (a.eval x').cells.size := by rw [hsz, hc1]; omega
                  refine ⟨(a.eval x').cells[i - off], ?_, hcell _ _ _ (Array.getElem?_eq_getElem hk) hd⟩
                  rw [show (g.m j).2.1 + i - ((g.m j).2.1 + off) = i - off by omega, Array.getElem?_toList]
                  exact Array.getElem?_eq_getElem hk
                · rw [if_neg (by omega)]
                  rw [List.append_assoc, List.getElem?_append_right (by simp; omega), List.getElem?_append_right (by simp; omega), List.getElem?_drop] at hd
                  simp only [List.length_take, Nat.min_eq_left (show off ≤ cells.length by omega), hc1] at hd
                  rw [show off + n + (i - off - n) = i by omega] at hd
                  exact h5 i d hd
          · refine ⟨.refl g, Nat.le_of_eq W.size.symm, fun b hb' hno => W.other b (fun e => hno (.inl ⟨j, hl, e.symm⟩)), fun _ _ _ _ => rfl, fun b _ hO => hO.set hl, W.os, W.tape, W.out⟩
      · cases h
    · cases h
  · cases h

end Ev

namespace Ev
open Go

variable {P : Program} {A : St} {g : G} {w w1 : World} {a : Act} {ρ : List D} {o : Oper}

/-- a world with one block more -/
structure OneMore (w : World) (c : Array Value) (w1 : World) : Prop where
  heap : ∃ ty fz, w1.heap = w.heap.push (.cells c ty fz) ∧ ∀ o, o < c.size → ¬ (fz.1 ≤ o ∧ o < fz.2)
  os : w1.os = w.os
  tape : w1.tape = w.tape
  out : w1.output = w.output

theorem OneMore.size {c : Array Value} (h : OneMore w c w1) : w1.heap.size = w.heap.size + 1 := by
  obtain ⟨ty, fz, h, _⟩ := h.heap; rw [h]; simp
theorem OneMore.old {c : Array Value} (h : OneMore w c w1) {b : Nat} (hb : b < w.heap.size) : w1.heap[b]? = w.heap[b]? := by
  obtain ⟨ty, fz, h, _⟩ := h.heap
  rw [h, Array.getElem?_push]; rw [if_neg (by omega)]
theorem OneMore.cell {c : Array Value} (h : OneMore w c w1) (o : Nat) : cellAt w1 w.heap.size o = c[o]? := by
  obtain ⟨ty, fz, h, _⟩ := h.heap
  simp [cellAt, World.cell?, h]
theorem OneMore.frozen {c : Array Value} (h : OneMore w c w1) {o : Nat} (ho : o < c.size) : frozenAt w1 w.heap.size o = false := by
  obtain ⟨ty, fz, h, hz⟩ := h.heap
  have := hz o ho
  simp [frozenAt, World.frozen?, h]
  intro h1
  exact Nat.le_of_not_lt fun h2 => this ⟨h1, h2⟩

theorem OneMore.inv {c : Array Value} (h : OneMore w c w1) (I : Inv g A w) : Inv g A w1 :=
  I.world (by rw [h.size]; omega) fun _ hb => h.old hb

theorem OneMore.mu {c : Array Value} (_ : OneMore w c w1) (I : Inv g A w) (o : Nat) : g.mu w.heap.size o = none := by
  cases hm : g.mu w.heap.size o with
  | none => rfl
  | some v => have := lt_of_cellAt (I.mem _ _ _ hm); omega

theorem OneMore.free {c : Array Value} (_ : OneMore w c w1) (I : Inv g A w) : ¬ Owns g A w.heap.size := fun h => by
  have := h.lt I; omega

theorem OneMore.fr {c : Array Value} (h : OneMore w c w1) {A' : St} {g' : G} (le : GLe g g') (hm : ∀ b', b' ≠ w.heap.size → ∀ o, g'.mu b' o = g.mu b' o)
    (hO : ∀ b', Owns g' A' b' → b' = w.heap.size ∨ Owns g A b') : Fr A g w A' g' w1 :=
  ⟨le, by rw [h.size]; omega, fun b hb _ => h.old hb, fun b hb _ o => hm b (by omega) o, fun b hb x => (hO b x).resolve_left (by omega), h.os, h.tape, h.out⟩

theorem OneMore.fresh {c : Array Value} (h : OneMore w c w1) (I : Inv g A w) {cap wd : Nat} {els : List (List D)} (hcap : els.length ≤ cap) (hc : c.size = cap * wd)
    (hw : ∀ el, el ∈ els → el.length = wd) (hp : ∀ el, el ∈ els → ∀ x, x ∈ el → x.pc = true) (hr : ∀ (j : Nat) d, els.flatten[j]? = some d → ∃ v, c[j]? = some v ∧ R g v d) :
    FreshAt g w1 w.heap.size 0 cap wd els := by
  refine ⟨by rw [h.size]; omega, hcap, hw, hp, fun o _ => h.mu I o, fun o _ ho => ⟨?_, h.frozen (by omega)⟩, fun j d hd => ?_⟩
  · rw [h.cell]; exact ⟨_, Array.getElem?_eq_getElem (by omega)⟩
  · obtain ⟨v, hv, hR⟩ := hr j d hd
    exact ⟨v, by rw [h.cell, Nat.zero_add]; exact hv, hR⟩

theorem good_newSl {c : Array Value} (h : OneMore w c w1) (I : Inv g A w) {s : Sem Next} {n cap wd : Nat} {els : List (List D)} (hn : n = els.length) (hrun : s.run P w = .ok (.value (.slice (some ⟨w.heap.size, 0, none⟩) n cap)) w1)
    (hcap : els.length ≤ cap) (hc : c.size = cap * wd)
    (hw : ∀ el, el ∈ els → el.length = wd) (hp : ∀ el, el ∈ els → ∀ x, x ∈ el → x.pc = true) (hr : ∀ (j : Nat) d, els.flatten[j]? = some d → ∃ v, c[j]? = some v ∧ R g v d)
    (m : Mode) {oo : Own} (ho : oo = .any ∨ (oo = .full ∧ cap = els.length)) : Good P s A g w (A.newSl m oo wd els).2 (A.newSl m oo wd els).1 := by
  subst hn
  obtain ⟨g', I', hR, le, hm, hO⟩ := newSl_ok (h.inv I) (h.fresh I hcap hc hw hp hr) (h.free I) m (o := oo) (fun g' => by rcases ho with rfl | ⟨rfl, rfl⟩ <;> simp [OwnR])
  exact ⟨_, w1, g', .inl hrun, I', hR, h.fr le hm hO⟩

/-- a new variable -/
theorem good_push {c : Array Value} (h : OneMore w c w1) (I : Inv g A w) {s : Sem Next} {cells : List D} (hrun : s.run P w = .ok (.value (.pointer (some ⟨w.heap.size, 0, none⟩))) w1)
    (hc : c.size = cells.length) (hr : ∀ (j : Nat) v d, c[j]? = some v → cells[j]? = some d → R g v d) : Good P s A g w (A.push (.mem false cells)).2 (A.push (.mem false cells)).1 := by
  have hn : A.blks.length = g.nb := I.nb
  have e : (g.addBlk (w.heap.size, 0, c.size)).m g.nb = (w.heap.size, 0, c.size) := by simp [G.addBlk]
  have I1 := h.inv I
  have hB : BlkOk (g.addBlk (w.heap.size, 0, c.size)) w1 g.nb (.mem false cells) := by
    by_cases hz : c.size = 0
    · left; rw [e]; exact ⟨hz, List.eq_nil_of_length_eq_zero (by omega)⟩
    · right
      rw [e]
      refine ⟨hz, by rw [h.size]; simp, by simp [hc], fun o _ => h.mu I o, fun o _ ho => ⟨?_, h.frozen ho⟩, fun i d hd => ?_⟩
      · rw [h.cell]; exact ⟨_, Array.getElem?_eq_getElem ho⟩
      · have hi : i < c.size := by rw [hc]; exact (List.getElem?_eq_some_iff.1 hd).1
        exact ⟨c[i], by simp only [Nat.zero_add]; rw [h.cell]; exact Array.getElem?_eq_getElem hi, (hr i _ d (Array.getElem?_eq_getElem hi) hd).mono (addBlk_le _ _)⟩
  refine ⟨_, w1, _, .inl hrun, I1.addBlk w.heap.size 0 c.size _ (fun _ => h.free I) hB, ?_, h.fr (addBlk_le _ _) (fun _ _ _ => rfl) (fun b' x => ?_)⟩
  · simp only [St.push]
    have := R.ptr (g := g.addBlk (w.heap.size, 0, c.size)) A.blks.length 0 (by simp [G.addBlk, hn])
    rw [hn, e] at this; rw [hn]; simpa using this
  · rcases x.addBlk hn with x | x
    · exact .inr x
    · exact .inl x.1

theorem oneMore_row (w : World) (c : Array Value) (ty : TypeId) : OneMore w c { w with heap := w.heap.push (.cells c ty) } :=
  ⟨⟨ty, (0, 0), rfl, fun o _ h => by omega⟩, rfl, rfl, rfl⟩

theorem g_alloc (I : Inv g A w) {t : TypeId} {zs : List D} (ho : o.op = .alloc t) (hz : zeroT P t zs = true) : Good P (execOp a.eval o) A g w (A.push (.mem false zs)).2 (A.push (.mem false zs)).1 := by
  unfold zeroT at hz
  split at hz
  · rename_i i hi
    split at hz
    · rename_i z hzz
      obtain ⟨hl, hr⟩ := R.of_okCells g hz
      refine good_push (oneMore_row w z.cells t) I ?_ (by simpa using hl) (fun j v d hv hd => hr j v d (by simpa using hv) hd)
      simp [execOp, ho, Instr.alloc, zeroValue, typeInfo, hi, hzz, newVar, newRow]
    · cases hz
  · cases hz

theorem g_box (I : Inv g A w) (E : Env g a.tmps ρ) {t : TypeId} {x : Operand} {y : Opd} (ho : o.op = .box t x) (hx : okOpd x y = true) (hp : (y.ev ρ).cells.all putCells.D.pc0 = true) :
    Good P (execOp a.eval o) A g w (A.push (.mem false (y.ev ρ).cells)).2 (A.push (.mem false (y.ev ρ).cells)).1 := by
  have hR := R.of_opd E hx
  obtain ⟨hl, hr⟩ := hR.cells hp
  refine good_push (oneMore_row w (a.eval x).cells t) I ?_ hl hr
  simp [execOp, ho, Instr.box, newVar, newRow]

-- ------------------------------------------------------------------ places
def fieldT (P : Program) (s f off : Nat) : Bool := match P.underlying s with
  | some (.struct fs) => match fs[f]? with
    | some fd => fd.offset == off && (match P.info? fd.type with | some i => i.size != 0 | none => false)
    | none => false
  | _ => false

theorem run_fieldAt {s f off b o' : Nat} (h : fieldT P s f off = true) : (Instr.fieldAt s (.pointer (some ⟨b, o', none⟩)) f).run P w = .ok (.pointer (some ⟨b, o' + off, none⟩)) w := by
  unfold fieldT at h
  split at h
  · rename_i fs hu
    split at h
    · rename_i fd hf
      simp only [Bool.and_eq_true, beq_iff_eq] at h
      obtain ⟨rfl, h2⟩ := h
      split at h2
      · rename_i i hi
        have hz : ¬ i.size = 0 := by simpa using h2
        simp [Instr.fieldAt, run_und hu, hf, Instr.sureAddr, fieldPlace, Go.sizeOf, typeInfo, hi, hz, add_none]
      · cases h2
    · cases h
  · cases h

theorem R.ref_drop {v : Value} {ds : List D} (h : R g v (.ref ds)) {b off : Nat} (hv : v = .pointer (some ⟨b, off, none⟩)) (n : Nat) : R g (.pointer (some ⟨b, off + n, none⟩)) (.ref (ds.drop n)) := by
  obtain ⟨b', off', vs, hv', hpc, hmu, hr⟩ := h.ref_inv
  rw [hv'] at hv; simp only [Value.pointer.injEq, Option.some.injEq, Addr.mk.injEq] at hv
  obtain ⟨rfl, rfl, _⟩ := hv
  refine .ref b' (off' + n) _ (fun j => vs (n + j)) (fun c hc => hpc c (List.mem_of_mem_drop hc)) (fun j hj => ?_) (fun j d hd => ?_)
  · simp only [List.length_drop] at hj
    rw [Nat.add_assoc]; exact hmu _ (by omega)
  · rw [List.getElem?_drop] at hd; exact hr _ d hd

theorem R.ref_take {v : Value} {ds : List D} (h : R g v (.ref ds)) (n : Nat) : R g v (.ref (ds.take n)) := by
  obtain ⟨b', off', vs, rfl, hpc, hmu, hr⟩ := h.ref_inv
  refine .ref b' off' _ vs (fun c hc => hpc c (List.mem_of_mem_take hc)) (fun j hj => hmu j (by simp at hj; omega)) (fun j d hd => ?_)
  rw [List.getElem?_take] at hd
  split at hd
  · exact hr _ d hd
  · cases hd

theorem g_fadr (I : Inv g A w) (E : Env g a.tmps ρ) {s f off : Nat} {x : Operand} {y : Opd} (ho : o.op = .fieldAddr s x f) (hx : okOpd x y = true) (hf : fieldT P s f off = true) {d : D}
    (h : fadrD off (y.ev ρ) = some d) : Good P (execOp a.eval o) A g w A d := by
  have hR := R.of_opd E hx
  unfold fadrD at h
  split at h
  · rename_i j o' e
    rw [e] at hR; cases h
    obtain ⟨hv, hj⟩ := hR.ptr_inv
    refine .same I ?_ (.ptr j (o' + off) hj)
    simp [execOp, ho, hv, run_fieldAt hf, Nat.add_assoc]
  · rename_i ds e
    rw [e] at hR; cases h
    obtain ⟨b, off', vs, hv, _⟩ := hR.ref_inv
    refine .same I ?_ (hR.ref_drop hv off)
    simp [execOp, ho, hv, run_fieldAt hf]
  · cases h

theorem flatten_take_drop {els : List (List D)} {wd : Nat} (h : ∀ el, el ∈ els → el.length = wd) {i : Nat} {el : List D} (hi : els[i]? = some el) (j : Nat) (hj : j < wd) : els.flatten[i * wd + j]? = el[j]? := by
  induction els generalizing i with
  | nil => simp at hi
  | cons e r ih =>
    have he := h e (List.mem_cons_self ..)
    cases i with
    | zero => simp at hi; subst hi; rw [List.flatten_cons, List.getElem?_append_left (by omega)]; simp
    | succ i =>
      simp at hi
      rw [List.flatten_cons, List.getElem?_append_right (by rw [he, Nat.succ_mul]; omega), he]
      rw [show (i + 1) * wd + j - wd = i * wd + j by rw [Nat.succ_mul]; omega]
      exact ih (fun el x => h el (List.mem_cons_of_mem _ x)) hi

theorem g_iadrS (I : Inv g A w) (E : Env g a.tmps ρ) {t e wd : Nat} {x x' : Operand} {y y' : Opd} (ho : o.op = .indexAddr t x x') (hx : okOpd x y = true) (hx' : okOpd x' y' = true)
    (ht : P.underlying t = some (.slice e)) (hs : sizeT P e wd = true) {d : D} (h : iaS wd (y.ev ρ) (y'.ev ρ) = some d) : Good P (execOp a.eval o) A g w A d := by
  have hR := R.of_opd E hx
  have hR' := R.of_opd E hx'
  unfold iaS at h
  split at h
  · rename_i k i ei
    rw [ei] at hR'
    have hvi := hR'.int_inv
    split at h
    · rename_i h0
      split at h
      · rename_i oo w' els ee
        rw [ee] at hR
        split at h
        · rename_i el hel
          split at h
          · rename_i hw
            cases h
            have hl := (List.getElem?_eq_some_iff.1 hel).1
            obtain ⟨b, cap, hv, hc, _, _, hwid, hpc, _, hsome⟩ := hR.sl_inv
            obtain ⟨bb, off, vs, rfl, hmu, hr⟩ := hsome (fun e0 => by rw [e0] at hl; simp at hl)
            have hww : w' = wd := by rw [← hwid el (List.mem_of_getElem? hel)]; exact hw
            subst hww
            refine .same I ?_ (.ref bb (off + i.toNat * w') el (fun j => vs (i.toNat * w' + j)) (hpc el (List.mem_of_getElem? hel)) (fun j hj => ?_) (fun j d hd => ?_))
            · have hi2 : i < (els.length : Int) := by omega
              simp [execOp, ho, hv, hvi, Instr.indexAt, asIntOf, run_und ht, run_sizeT hs, h0, hi2, add_none]
            · rw [Nat.add_assoc]
              refine hmu _ ?_
              have := Nat.mul_le_mul_right w' (show i.toNat + 1 ≤ els.length from hl)
              rw [Nat.succ_mul] at this; omega
            · have hj : j < w' := by rw [← hw]; exact (List.getElem?_eq_some_iff.1 hd).1
              exact hr _ d (by rw [flatten_take_drop hwid hel j hj]; exact hd)
          · cases h
        · cases h
      · rename_i j off w' n ee
        rw [ee] at hR
        split at h
        · rename_i hw
          obtain ⟨rfl, hn⟩ := hw
          cases h
          obtain ⟨hj, ⟨cap, hv, _⟩ | ⟨_, _, rfl, _⟩⟩ := hR.loc_inv
          · refine .same I ?_ (.ptr j (off + i.toNat * w') hj)
            have hi2 : i < (n : Int) := by omega
            simp [execOp, ho, hv, hvi, Instr.indexAt, asIntOf, run_und ht, run_sizeT hs, h0, hi2, add_none, Nat.add_assoc]
          · omega
        · cases h
      · cases h
    · cases h
  · cases h

theorem g_iadrA (I : Inv g A w) (E : Env g a.tmps ρ) {t e wd n : Nat} {x x' : Operand} {y y' : Opd} (ho : o.op = .indexAddr t x x') (hx : okOpd x y = true) (hx' : okOpd x' y' = true)
    (ht : P.underlying t = some (.array n e)) (hs : sizeT P e wd = true) {d : D} (h : iaA wd n (y.ev ρ) (y'.ev ρ) = some d) : Good P (execOp a.eval o) A g w A d := by
  have hR := R.of_opd E hx
  have hR' := R.of_opd E hx'
  unfold iaA at h
  split at h
  · rename_i k i ei
    rw [ei] at hR'
    have hvi := hR'.int_inv
    split at h
    · rename_i h0
      split at h
      · rename_i j o' ee
        rw [ee] at hR; cases h
        obtain ⟨hv, hj⟩ := hR.ptr_inv
        refine .same I ?_ (.ptr j _ hj)
        simp [execOp, ho, hv, hvi, Instr.indexAt, asIntOf, run_und ht, run_sizeT hs, h0.1, h0.2, add_none, Instr.sureAddr, Nat.add_assoc]
      · rename_i ds ee
        rw [ee] at hR
        split at h
        · cases h
          obtain ⟨b, off', vs, hv, _⟩ := hR.ref_inv
          refine .same I ?_ (hR.ref_drop hv _)
          simp [execOp, ho, hv, hvi, Instr.indexAt, asIntOf, run_und ht, run_sizeT hs, h0.1, h0.2, add_none, Instr.sureAddr]
        · cases h
      · cases h
    · cases h
  · cases h

end Ev

namespace Ev
open Go

variable {P : Program} {A : St} {g : G} {w w1 : World} {a : Act} {ρ : List D} {o : Oper}

/-- an optional operand -/
def OptR (g : G) : Option Value → Option D → Prop
  | none, none => True
  | some v, some d => R g v d
  | _, _ => False

theorem OptR.of {a : Act} {ρ : List D} (E : Env g a.tmps ρ) {x : Option Operand} {y : Option Opd} (h : okOpt x y = true) : OptR g (x.map a.eval) (y.map (·.ev ρ)) := by
  unfold okOpt at h
  split at h
  · trivial
  · exact R.of_opd E h
  · cases h

theorem run_bound {v : Value} {d : D} (h : R g v d) {dflt mx r cap : Nat} {code : BoundsCode} (hc : mx ≤ cap) (hb : bound (some d) dflt mx = some r) :
    (Instr.sliceBound v cap code).run P w = .ok r w ∧ r ≤ mx := by
  unfold bound at hb
  split at hb
  · rename_i e; cases e
  · rename_i k i e
    cases e
    have hv := R.int_inv h
    subst hv
    split at hb
    · rename_i h0
      cases hb
      have : i ≤ (cap : Int) := by omega
      exact ⟨by simp [Instr.sliceBound, asIntOf, h0.1, this], by omega⟩
    · cases hb
  · cases hb

theorem run_bounds {b : Bool} {n cap : Nat} {lo hi : Option Value} {lo' hi' : Option D} (hl : OptR g lo lo') (hh : OptR g hi hi') (hc : n ≤ cap) {l h : Nat} (hb : bounds n lo' hi' = some (l, h)) :
    (Instr.sliceBounds b n cap lo hi none).run P w = .ok (l, h, cap) w ∧ l ≤ h ∧ h ≤ n := by
  unfold bounds at hb
  split at hb
  · cases hb
  · rename_i h' hh'
    split at hb
    · cases hb
    · rename_i l' hl'
      simp only [Option.some.injEq, Prod.mk.injEq] at hb
      obtain ⟨rfl, rfl⟩ := hb
      cases hi with
      | none =>
        cases hi' with
        | some _ => exact hh.elim
        | none =>
          simp only [bound, Option.some.injEq] at hh'
          subst hh'
          cases lo with
          | none =>
            cases lo' with
            | some _ => exact hl.elim
            | none =>
              simp only [bound, Option.some.injEq] at hl'
              subst hl'
              exact ⟨by simp [Instr.sliceBounds], Nat.zero_le _, Nat.le_refl _⟩
          | some v =>
            cases lo' with
            | none => exact hl.elim
            | some d =>
              obtain ⟨x, y⟩ := run_bound (P := P) (w := w) (code := .sliceB) hl (Nat.le_refl _) hl'
              exact ⟨by simp [Instr.sliceBounds, x], y, Nat.le_refl _⟩
      | some u =>
        cases hi' with
        | none => exact hh.elim
        | some du =>
          obtain ⟨x1, y1⟩ := run_bound (P := P) (w := w) (code := if b then .sliceAcap else .sliceAlen) hh hc hh'
          cases lo with
          | none =>
            cases lo' with
            | some _ => exact hl.elim
            | none =>
              simp only [bound, Option.some.injEq] at hl'
              subst hl'
              exact ⟨by simp [Instr.sliceBounds, x1], Nat.zero_le _, y1⟩
          | some v =>
            cases lo' with
            | none => exact hl.elim
            | some d =>
              obtain ⟨x, y⟩ := run_bound (P := P) (w := w) (code := .sliceB) hl (Nat.le_refl _) hl'
              exact ⟨by simp [Instr.sliceBounds, x1, x], y, y1⟩

theorem flatten_drop {els : List (List D)} {wd : Nat} (h : ∀ el, el ∈ els → el.length = wd) : ∀ l, (els.drop l).flatten = els.flatten.drop (l * wd) := by
  induction els with
  | nil => simp
  | cons e r ih =>
    intro l
    cases l with
    | zero => simp
    | succ l =>
      have he := h e (List.mem_cons_self ..)
      rw [List.drop_succ_cons, ih (fun el x => h el (List.mem_cons_of_mem _ x)), List.flatten_cons, Nat.succ_mul, Nat.add_comm, ← List.drop_drop, ← he, List.drop_left]

theorem flatten_take {els : List (List D)} {wd : Nat} (h : ∀ el, el ∈ els → el.length = wd) : ∀ l, (els.take l).flatten = els.flatten.take (l * wd) := by
  induction els with
  | nil => simp
  | cons e r ih =>
    intro l
    cases l with
    | zero => simp
    | succ l =>
      have he := h e (List.mem_cons_self ..)
      rw [List.take_succ_cons, List.flatten_cons, ih (fun el x => h el (List.mem_cons_of_mem _ x)), List.flatten_cons, Nat.succ_mul, Nat.add_comm, ← he, List.take_length_add_append]

theorem R.sub {a0 : Option Addr} {cap : Nat} {oo : Own} {wd : Nat} {els : List (List D)} (hR : R g (.slice a0 els.length cap) (.sl oo wd els)) {l h : Nat} (h1 : l ≤ h) (h2 : h ≤ els.length) :
    R g (.slice (if cap = l then a0 else a0.map (·.add (l * wd))) (h - l) (cap - l)) (.sl .any wd ((els.take h).drop l)) := by
  obtain ⟨a1, cap1, hv, hcap, _, hsp, hwid, hpc, hnone, hsome⟩ := hR.sl_inv
  simp only [Value.slice.injEq] at hv
  obtain ⟨rfl, _, rfl⟩ := hv
  have hlen : ((els.take h).drop l).length = h - l := by simp; omega
  by_cases hz : h - l = 0
  · have he : (els.take h).drop l = [] := List.eq_nil_of_length_eq_zero (by omega)
    rw [he, hz]
    refine .sl0 _ _ _ _ (fun hn => ?_) (fun x hx => ?_) trivial
    · split at hn
      · have := hnone hn; omega
      · have := hnone (by cases a0 <;> simp_all); omega
    · split at hx
      · exact hsp x hx
      · cases a0 with
        | none => cases hx
        | some y =>
          simp only [Option.map_some, Option.some.injEq] at hx
          have := hsp y rfl
          subst hx; unfold Addr.add; split <;> simp_all
  · have hne : els ≠ [] := by intro e; rw [e] at h2; simp at h2; omega
    obtain ⟨b, off, vs, rfl, hmu, hr⟩ := hsome hne
    have hcl : ¬ cap = l := by omega
    rw [if_neg hcl]
    simp only [Option.map_some, add_none]
    rw [← hlen]
    have hfl : ((els.take h).drop l).flatten = (els.flatten.take (h * wd)).drop (l * wd) := by
      rw [flatten_drop (fun el x => hwid el (List.mem_of_mem_take x)), flatten_take hwid]
    have hmulh : h * wd ≤ els.length * wd := Nat.mul_le_mul_right wd h2
    have hmull : (h - l) * wd + l * wd = h * wd := by rw [← Nat.add_mul]; congr 1; omega
    refine .sl b (off + l * wd) (cap - l) _ wd _ (fun j => vs (l * wd + j)) (by rw [hlen]; omega) (fun el x => hwid el (List.mem_of_mem_take (List.mem_of_mem_drop x)))
      (fun el x => hpc el (List.mem_of_mem_take (List.mem_of_mem_drop x))) (fun j hj => ?_) (fun j d hd => ?_) trivial
    · rw [hlen] at hj
      rw [Nat.add_assoc]; exact hmu _ (by omega)
    · rw [hfl, List.getElem?_drop, List.getElem?_take] at hd
      split at hd
      · exact hr _ d hd
      · cases hd

theorem R.own {v : Value} {oo o' : Own} {wd : Nat} {els : List (List D)} (h : R g v (.sl oo wd els)) (k : OwnR g v wd els.length o') : R g v (.sl o' wd els) := by
  cases h with
  | sl0 a0 _ _ cap ha hs _ => exact .sl0 a0 _ _ cap ha hs k
  | sl b off cap _ _ _ vs h1 h2 h3 h4 h5 _ => exact .sl b off cap _ _ _ vs h1 h2 h3 h4 h5 k

theorem R.subO {a0 : Option Addr} {cap : Nat} {oo : Own} {wd : Nat} {els : List (List D)} (hR : R g (.slice a0 els.length cap) (.sl oo wd els)) {l h : Nat} (h1 : l ≤ h) (h2 : h ≤ els.length) :
    R g (.slice (if cap = l then a0 else a0.map (·.add (l * wd))) (h - l) (cap - l)) (.sl (oo.slc h els.length) wd ((els.take h).drop l)) := by
  have hs := hR.sub h1 h2
  by_cases hc : h = els.length ∧ (oo = .full ∨ oo = .nilk)
  · rw [show oo.slc h els.length = .full from if_pos hc]
    obtain ⟨rfl, ho⟩ := hc
    obtain ⟨a1, cap1, hv, hcap, hown, _⟩ := hR.sl_inv
    have hce : cap = els.length := by
      rcases ho with rfl | rfl
      · obtain ⟨a, e⟩ := hown
        cases e; rfl
      · have e : Value.slice a0 els.length cap = .slice none 0 0 := hown
        simp only [Value.slice.injEq] at e
        omega
    refine hs.own ?_
    have hlen : ((els.take els.length).drop l).length = els.length - l := by simp
    exact ⟨_, by rw [hlen, hce]⟩
  · rw [show oo.slc h els.length = .any from if_neg hc]
    exact hs

theorem g_slS (I : Inv g A w) (E : Env g a.tmps ρ) {t e wd : Nat} {x : Operand} {y : Opd} {lo hi : Option Operand} {lo' hi' : Option Opd} (ho : o.op = .slice t x lo hi none) (hx : okOpd x y = true)
    (hlo : okOpt lo lo' = true) (hhi : okOpt hi hi' = true) (ht : P.underlying t = some (.slice e)) (hs : sizeT P e wd = true) {d : D}
    (h : sliceS wd (y.ev ρ) (lo'.map (·.ev ρ)) (hi'.map (·.ev ρ)) = some d) : Good P (execOp a.eval o) A g w A d := by
  have hR := R.of_opd E hx
  have hL := OptR.of E hlo
  have hH := OptR.of E hhi
  have hexec : ∀ {p : Option Addr} {n cap l hh : Nat}, a.eval x = .slice p n cap → (Instr.sliceBounds true n cap (lo.map a.eval) (hi.map a.eval) none).run P w = .ok (l, hh, cap) w →
      (execOp a.eval o).run P w = .ok (.value (.slice (if cap = l then p else p.map (·.add (l * wd))) (hh - l) (cap - l))) w := by
    intro p n cap l hh hv hb
    simp [execOp, ho, hv, Instr.sliceAt, Instr.slice, run_und ht, run_sizeT hs, hb]
  unfold sliceS at h
  split at h
  · rename_i oo w' els ee
    rw [ee] at hR
    split at h
    · rename_i hw
      split at h
      · rename_i l hh hb
        cases h
        subst hw
        have hR2 := hR
        obtain ⟨a0, cap, hv, hcap, _⟩ := hR2.sl_inv
        obtain ⟨hrun, h1, h2⟩ := run_bounds (P := P) (w := w) (b := true) hL hH hcap hb
        rw [hv] at hR2
        exact .same I (hexec hv hrun) (hR2.subO h1 h2)
      · cases h
    · cases h
  · rename_i j off w' n ee
    rw [ee] at hR
    split at h
    · rename_i hw
      subst hw
      split at h
      · rename_i l hh hb
        cases h
        obtain ⟨hj, ⟨cap, hv, hcap, hlim⟩ | ⟨a0, hv, rfl, hsp⟩⟩ := hR.loc_inv
        · obtain ⟨hrun, h1, h2⟩ := run_bounds (P := P) (w := w) (b := true) hL hH hcap hb
          refine .same I (hexec hv hrun) ?_
          by_cases hcl : cap = l
          · rw [if_pos hcl, show hh - l = 0 by omega, show cap - l = 0 by omega]
            exact .loc0 _ _ _ _ hj (fun x hx => by cases hx; rfl)
          · rw [if_neg hcl]
            simp only [Option.map_some, add_none, Nat.add_assoc]
            have : (cap - l) * w' + l * w' = cap * w' := by rw [← Nat.add_mul]; congr 1; omega
            exact .loc j (off + l * w') w' (hh - l) (cap - l) hj (by omega) (by omega)
        · obtain ⟨hrun, h1, h2⟩ := run_bounds (P := P) (w := w) (b := true) hL hH (Nat.le_refl _) hb
          refine .same I (hexec hv hrun) ?_
          have h0 : l = 0 := by omega
          subst h0
          rw [if_pos rfl, show hh - 0 = 0 by omega]
          exact .loc0 _ _ _ _ hj hsp
      · cases h
    · cases h
  · cases h

end Ev

namespace Ev
open Go

variable {P : Program} {A : St} {g : G} {w w1 : World} {a : Act} {ρ : List D} {o : Oper}

theorem chunks_length (wd : Nat) : ∀ (n : Nat) (ds : List D), (chunks wd n ds).length = n
  | 0, _ => rfl
  | n + 1, ds => by simp [chunks, chunks_length wd n]

theorem chunks_wid {wd : Nat} : ∀ {n : Nat} {ds : List D}, n * wd ≤ ds.length → ∀ el, el ∈ chunks wd n ds → el.length = wd
  | 0, _, _, el, h => by simp [chunks] at h
  | n + 1, ds, hl, el, h => by
    simp only [chunks, List.mem_cons] at h
    rw [Nat.succ_mul] at hl
    rcases h with rfl | h
    · simp; omega
    · exact chunks_wid (ds := ds.drop wd) (by simp; omega) el h

theorem chunks_flatten {wd : Nat} : ∀ {n : Nat} {ds : List D}, (chunks wd n ds).flatten = ds.take (n * wd)
  | 0, ds => by simp [chunks]
  | n + 1, ds => by
    rw [chunks, List.flatten_cons, chunks_flatten (n := n) (ds := ds.drop wd), Nat.succ_mul, Nat.add_comm, List.take_add]

theorem chunks_mem {wd : Nat} {n : Nat} {ds : List D} {el : List D} {c : D} (h : el ∈ chunks wd n ds) (hc : c ∈ el) : c ∈ ds := by
  have : c ∈ (chunks wd n ds).flatten := List.mem_flatten.2 ⟨el, h, hc⟩
  rw [chunks_flatten] at this
  exact List.mem_of_mem_take this

/-- a stretch of memory that is written no more, as a slice -/
theorem R.of_mem {b off n wd : Nat} {ds : List D} (hl : n * wd ≤ ds.length) (hpc : ∀ c, c ∈ ds → c.pc = true) {vs : Nat → Value} (hmu : ∀ j, j < ds.length → g.mu b (off + j) = some (vs j))
    (hr : ∀ (j : Nat) d, ds[j]? = some d → R g (vs j) d) : R g (.slice (some ⟨b, off, none⟩) n n) (.sl .any wd (chunks wd n ds)) := by
  have hlen := chunks_length wd n ds
  have := R.sl (g := g) b off n .any wd (chunks wd n ds) vs (by rw [hlen]; exact Nat.le_refl _) (chunks_wid hl) (fun el h c hc => hpc c (chunks_mem h hc))
    (fun j hj => hmu j (by rw [hlen] at hj; omega)) (fun j d hd => by
      rw [chunks_flatten, List.getElem?_take] at hd
      split at hd
      · exact hr j d hd
      · cases hd) trivial
  rw [hlen] at this; exact this

theorem g_slA (I : Inv g A w) (E : Env g a.tmps ρ) {t e wd n : Nat} {x : Operand} {y : Opd} {lo hi : Option Operand} {lo' hi' : Option Opd} (ho : o.op = .slice t x lo hi none) (hx : okOpd x y = true)
    (hlo : okOpt lo lo' = true) (hhi : okOpt hi hi' = true) (ht : P.underlying t = some (.array n e)) (hs : sizeT P e wd = true) {d : D}
    (h : sliceA A wd n (y.ev ρ) (lo'.map (·.ev ρ)) (hi'.map (·.ev ρ)) = some d) : Good P (execOp a.eval o) A g w A d := by
  have hR := R.of_opd E hx
  have hL := OptR.of E hlo
  have hH := OptR.of E hhi
  unfold sliceA at h
  split at h
  · cases h
  · rename_i l hh hb
    obtain ⟨hrun, h1, h2⟩ := run_bounds (P := P) (w := w) (b := false) hL hH (Nat.le_refl n) hb
    have hexec : ∀ {b o' : Nat}, a.eval x = .pointer (some ⟨b, o', none⟩) →
        (execOp a.eval o).run P w = .ok (.value (.slice (if n = l then some ⟨b, o', none⟩ else (some ⟨b, o', none⟩ : Option Addr).map (·.add (l * wd))) (hh - l) (n - l))) w := by
      intro b o' hv
      simp [execOp, ho, hv, Instr.sliceAt, run_und ht, run_sizeT hs, hrun, Instr.sureAddr]
      split <;> rfl
    have imm : ∀ {b o' : Nat} {ds : List D} {vs : Nat → Value}, a.eval x = .pointer (some ⟨b, o', none⟩) → n * wd ≤ ds.length → (∀ c, c ∈ ds → c.pc = true) →
        (∀ j, j < ds.length → g.mu b (o' + j) = some (vs j)) → (∀ (j : Nat) d, ds[j]? = some d → R g (vs j) d) → D.sl (Own.slc .full hh n) wd (((chunks wd n ds).take hh).drop l) = d → Good P (execOp a.eval o) A g w A d := by
      intro b o' ds vs hv hl hpc hmu hr hd
      subst hd
      have hR2 := R.of_mem hl hpc hmu hr
      have hlen := chunks_length wd n ds
      have hR3 : R g (.slice (some ⟨b, o', none⟩) (chunks wd n ds).length n) (.sl .any wd (chunks wd n ds)) := by rw [hlen]; exact hR2
      have hR4 := (hR3.own (o' := .full) ⟨_, by rw [hlen]⟩).subO h1 (by rw [hlen]; exact h2)
      rw [hlen] at hR4
      exact .same I (hexec hv) hR4
    split at h
    · rename_i j off e1
      rw [e1] at hR
      obtain ⟨hv, hj⟩ := hR.ptr_inv
      split at h
      · rename_i cells hc
        split at h
        · rename_i hl
          simp only [Option.some.injEq] at h
          have hB := I.blk j _ hc
          have hB2 := hB.2
          refine imm (ds := cells.drop off) (vs := fun i => (g.mu (g.m j).1 ((g.m j).2.1 + off + i)).getD default) hv (by simp; omega) (fun c hcc => hB.1 c (List.mem_of_mem_drop hcc)) (fun i hi => ?_) (fun i d hd => ?_) h
          · simp only [List.length_drop] at hi
            obtain ⟨v, hv', _⟩ := hB2 (off + i) _ (List.getElem?_eq_getElem (by omega))
            rw [Nat.add_assoc, hv']; rfl
          · rw [List.getElem?_drop] at hd
            obtain ⟨v, hv', hR'⟩ := hB2 (off + i) d hd
            rw [Nat.add_assoc, hv']; exact hR'
        · cases h
      · rename_i cells hc
        split at h
        · rename_i hl
          simp only [Option.some.injEq] at h
          subst h
          refine .same I (hexec hv) ?_
          have hB := I.blk j _ hc
          have hpos : 0 < n * wd := Nat.mul_pos hl.2.1 hl.2.2
          rcases hB with ⟨_, rfl⟩ | ⟨_, _, hlim, _⟩
          · simp at hl; omega
          by_cases hcl : n = l
          · rw [if_pos hcl, show hh - l = 0 by omega, show n - l = 0 by omega]
            exact .loc0 _ _ _ _ hj (fun x hx => by cases hx; rfl)
          · rw [if_neg hcl]
            simp only [Option.map_some, add_none, Nat.add_assoc]
            have : (n - l) * wd + l * wd = n * wd := by rw [← Nat.add_mul]; congr 1; omega
            exact .loc j (off + l * wd) wd (hh - l) (n - l) hj (by omega) (by omega)
        · cases h
      · cases h
    · rename_i ds e1
      rw [e1] at hR
      split at h
      · rename_i hl
        simp only [Option.some.injEq] at h
        obtain ⟨b, off', vs, hv, hpc, hmu, hr⟩ := hR.ref_inv
        exact imm hv hl.1 hpc hmu hr h
      · cases h
    · cases h

theorem g_slT (I : Inv g A w) (E : Env g a.tmps ρ) {t : Nat} {x : Operand} {y : Opd} {lo hi : Option Operand} {lo' hi' : Option Opd} (ho : o.op = .slice t x lo hi none) (hx : okOpd x y = true)
    (hlo : okOpt lo lo' = true) (hhi : okOpt hi hi' = true) (ht : P.underlying t = some .string) {s : List UInt8} (hy : y.ev ρ = .str s) {l h : Nat}
    (hb : bounds s.length (lo'.map (·.ev ρ)) (hi'.map (·.ev ρ)) = some (l, h)) : Good P (execOp a.eval o) A g w A (.str ((s.take h).drop l)) := by
  have hR := R.of_opd E hx
  rw [hy] at hR
  have hv := hR.str_inv
  obtain ⟨hrun, h1, h2⟩ := run_bounds (P := P) (w := w) (b := false) (OptR.of E hlo) (OptR.of E hhi) (Nat.le_refl _) hb
  have he : ByteArray.extract ⟨s.toArray⟩ l h = ⟨((s.take h).drop l).toArray⟩ := by
    apply ByteArray.ext
    simp [ByteArray.data_extract, List.extract_toArray, List.extract_eq_take_drop, List.drop_take]
  refine .same (v := .string ⟨((s.take h).drop l).toArray⟩) I ?_ (.str _)
  have hsz : (ByteArray.mk s.toArray).size = s.length := by simp [ByteArray.size]
  simp [execOp, ho, hv, Instr.sliceAt, Instr.slice, run_und ht, hsz, hrun, he]

theorem g_arrp (I : Inv g A w) (E : Env g a.tmps ρ) {t e n : Nat} {x : Operand} {y : Opd} (ho : o.op = .sliceToArrayPointer t x) (hx : okOpd x y = true) (ht : P.underlying t = some (.array n e))
    {oo : Own} {els : List (List D)} (hy : y.ev ρ = .sl oo 1 els) (h0 : 0 < n) (hn : n ≤ els.length) : Good P (execOp a.eval o) A g w A (.ref ((els.take n).flatten)) := by
  have hR := R.of_opd E hx
  rw [hy] at hR
  obtain ⟨a0, cap, hv, hcap, _, _, hwid, hpc, _, hsome⟩ := hR.sl_inv
  obtain ⟨b, off, vs, rfl, hmu, hr⟩ := hsome (fun e => by rw [e] at hn; simp at hn; omega)
  refine .same (v := .pointer (some ⟨b, off, none⟩)) I ?_ (.ref b off _ vs (fun c hc => ?_) (fun j hj => ?_) (fun j d hd => ?_))
  · have : ¬ els.length < n := by omega
    simp [execOp, ho, hv, Instr.arrayAt, run_und ht, this]
  · obtain ⟨el, hel, hc'⟩ := List.mem_flatten.1 hc
    exact hpc el (List.mem_of_mem_take hel) c hc'
  · rw [flatten_take hwid] at hj
    exact hmu j (by have := flatten_length hwid; simp at hj; omega)
  · rw [flatten_take hwid, List.getElem?_take] at hd
    split at hd
    · exact hr j d hd
    · cases hd

-- ------------------------------------------------------------------ comparisons
theorem run_eqItems (d : Nat) {e : TypeId} (hc : P.cellsOf e = 1) {k0 : IntKind} (he : P.underlying e = some (.int k0)) {xs ys : Array Value} {xd yd : List D}
    (hx : ∀ (i : Nat) v d, xs[i]? = some v → xd[i]? = some d → R g v d) (hy : ∀ (i : Nat) v d, ys[i]? = some v → yd[i]? = some d → R g v d) (hxs : xs.size = xd.length) (hys : ys.size = yd.length) :
    ∀ (m i : Nat) (r : Bool), i + m = xd.length → i + m = yd.length → eqCells (xd.drop i) (yd.drop i) = some r → (Op.eqItems (d + 1) e (P.cellsOf e) xs ys (List.range' i m)).run P w = .ok r w
  | 0, i, r, h1, h2, h => by
    rw [List.drop_of_length_le (by omega), List.drop_of_length_le (by omega)] at h
    simp [eqCells] at h; subst h
    simp [Op.eqItems]
  | m + 1, i, r, h1, h2, h => by
    have hix : i < xd.length := by omega
    have hiy : i < yd.length := by omega
    rw [List.drop_eq_getElem_cons hix, List.drop_eq_getElem_cons hiy] at h
    have hvx : xs[i]? = some xs[i] := Array.getElem?_eq_getElem (by omega)
    have hvy : ys[i]? = some ys[i] := Array.getElem?_eq_getElem (by omega)
    have rx := hx i _ _ hvx (List.getElem?_eq_getElem hix)
    have ry := hy i _ _ hvy (List.getElem?_eq_getElem hiy)
    have px : ∀ {v : Value} {vs : Array Value}, vs[i]? = some v → (part e vs (i * P.cellsOf e)).run P w = .ok v w := by
      intro v vs hv
      rw [hc, Nat.mul_one]
      simp [part, isAgg, run_und he, hv]
    generalize hdx : xd[i] = dx at h rx
    generalize hdy : yd[i] = dy at h ry
    unfold eqCells at h
    split at h
    · rename_i a1 b1; cases a1
    · rename_i k a1 r1 k' b1 r2 ex ey
      simp only [List.cons.injEq] at ex ey
      obtain ⟨rfl, rfl⟩ := ex
      obtain ⟨rfl, rfl⟩ := ey
      have e1 := rx.int_inv
      have e2 := ry.int_inv
      split at h
      · rename_i hk
        subst hk
        simp only [List.range'_succ, Op.eqItems, Sem.run_bind, px hvx, px hvy, Result.andThen_ok, e1, e2, run_equalIn_int w d e k k0 _ _ he]
        split at h
        · rename_i hab
          subst hab
          simp only [beq_self_eq_true, Bool.not_true, Bool.false_eq_true, if_false]
          exact run_eqItems d hc he hx hy hxs hys m (i + 1) r (by omega) (by omega) h
        · rename_i hab
          cases h
          have : (a1 == b1) = false := by simpa using hab
          simp [this]
      · cases h
    · cases h

theorem g_eqa (I : Inv g A w) (E : Env g a.tmps ρ) {ng : Bool} {xt yt n e : Nat} {x x' : Operand} {y y' : Opd} (ho : o.op = .binOp (if ng then .neq else .eql) xt x x' yt) (hx : okOpd x y = true) (hx' : okOpd x' y' = true)
    (ht : P.underlying xt = some (.array n e)) (hs : sizeT P e 1 = true) (he : anyIntT P e = true) (hg : P.eqGuardType P.depth xt = false) {da db : List D} (h : y.ev ρ = .agg da) (h' : y'.ev ρ = .agg db)
    (hl : da.length = n) (hl' : db.length = n) {t : Bool} (hq : eqCells da db = some t) : Good P (execOp a.eval o) A g w A (.bool (if ng then !t else t)) := by
  have hR := R.of_opd E hx
  have hR' := R.of_opd E hx'
  rw [h] at hR; rw [h'] at hR'
  obtain ⟨vs, hv, hsz, hr⟩ := hR.agg_inv
  obtain ⟨vs', hv', hsz', hr'⟩ := hR'.agg_inv
  have hc : P.cellsOf e = 1 := by
    unfold sizeT at hs; split at hs
    · rename_i i hi; simp [Program.cellsOf, hi]; simpa using hs
    · cases hs
  obtain ⟨i, hi⟩ : ∃ i, P.info? e = some i := by
    unfold sizeT at hs; split at hs
    · rename_i i hi; exact ⟨i, hi⟩
    · cases hs
  obtain ⟨k0, hk0⟩ : ∃ k0, P.underlying e = some (.int k0) := by
    unfold anyIntT at he; split at he
    · rename_i k hk; exact ⟨k, hk⟩
    · cases he
  have hrun : (Op.equalIn 10000 xt (.agg vs) (.agg vs')).run P w = .ok t w := by
    rw [run_equalIn_array w 9999 vs vs' ht hi, List.range_eq_range']
    exact run_eqItems 9998 hc hk0 hr hr' hsz hsz' n 0 t (by omega) (by omega) (by simpa using hq)
  refine .same (v := .bool (if ng then !t else t)) I ?_ (.bool _)
  simp only [execOp, ho, hv, hv', Sem.run_bind]
  rw [run_eqGuard_agg w _ xt x x' vs vs' hg]
  cases ng
  · simp only [Bool.false_eq_true, if_false, Result.andThen_ok, run_eql_struct, hrun]; rfl
  · simp only [if_true, Result.andThen_ok, run_neq_struct, hrun]; rfl

theorem run_equalIn_ptr {xt e : TypeId} (ht : P.underlying xt = some (.pointer e)) (d : Nat) (p : Option Addr) : (Op.equalIn (d + 1) xt (.pointer p) (.pointer none)).run P w = .ok p.isNone w := by
  cases p <;> simp only [Op.equalIn, Sem.run_bind, run_und ht, Result.andThen_ok] <;> rfl
theorem run_equalIn_sl {xt e : TypeId} (ht : P.underlying xt = some (.slice e)) (d : Nat) (p : Option Addr) (n c : Nat) : (Op.equalIn (d + 1) xt (.slice p n c) (.slice none 0 0)).run P w = .ok p.isNone w := by
  cases p <;> simp only [Op.equalIn, Sem.run_bind, run_und ht, Result.andThen_ok] <;> rfl

theorem g_eqnil (I : Inv g A w) (E : Env g a.tmps ρ) {ng : Bool} {xt yt : Nat} {x x' : Operand} {y y' : Opd} (ho : o.op = .binOp (if ng then .neq else .eql) xt x x' yt) (hx : okOpd x y = true) (hx' : okOpd x' y' = true)
    (ht : (∃ e, P.underlying xt = some (.pointer e)) ∧ (y'.ev ρ = .k (.pointer none)) ∨ (∃ e, P.underlying xt = some (.slice e)) ∧ (∃ wd els, y'.ev ρ = .sl .nilk wd els)) {d : D}
    (h : eqnilD ng (y.ev ρ) (y'.ev ρ) = some d) : Good P (execOp a.eval o) A g w A d := by
  unfold eqnilD at h
  have hR := R.of_opd E hx
  have hR' := R.of_opd E hx'
  have fin : ∀ {b : Bool} {u v : Value}, a.eval x = u → a.eval x' = v → ((∃ p, u = .pointer p) ∨ ∃ p l c, u = .slice p l c) → (∃ p, v = .pointer p) ∨ (∃ p l c, v = .slice p l c) → (Op.equal xt u v).run P w = .ok b w → d = .bool (if ng then !b else b) → Good P (execOp a.eval o) A g w A d := by
    intro b u v hu hv hu' hv' he hd
    subst hd
    refine .same (v := .bool (if ng then !b else b)) I ?_ (.bool _)
    simp only [execOp, ho, hu, hv, Sem.run_bind]
    rw [eqGuard_lit (by rcases hu' with h | h; exact .inr (.inr (.inr (.inl h))); exact .inr (.inr (.inr (.inr h))))]
    rcases hu' with ⟨p, rfl⟩ | ⟨p, l, c, rfl⟩ <;> rcases hv' with ⟨q, rfl⟩ | ⟨q, l', c', rfl⟩ <;> cases ng <;> simp [binOp, he]
  rcases ht with ⟨⟨e, ht⟩, e'⟩ | ⟨⟨e, ht⟩, wd, els, e'⟩
  · rw [e'] at hR' h
    have hv' := hR'.k_inv
    split at h
    · rename_i j off e1 _
      rw [e1] at hR; cases h
      obtain ⟨hv, _⟩ := hR.ptr_inv
      exact fin hv hv' (.inl ⟨_, rfl⟩) (.inl ⟨_, rfl⟩) (run_equalIn_ptr ht 9999 _) (by cases ng <;> rfl)
    · rename_i e1 _
      rw [e1] at hR; cases h
      exact fin hR.k_inv hv' (.inl ⟨_, rfl⟩) (.inl ⟨_, rfl⟩) (run_equalIn_ptr ht 9999 _) (by cases ng <;> rfl)
    · rename_i e1; cases e1
    · rename_i e1; cases e1
    · rename_i e1; cases e1
    · cases h
  · rw [e'] at hR' h
    obtain ⟨_, _, hv', _, hn', _⟩ := hR'.sl_inv
    have hv2 : a.eval x' = .slice none 0 0 := hn'
    split at h
    · rename_i e1; cases e1
    · rename_i e1; cases e1
    · rename_i e1 _
      rw [e1] at hR; cases h
      obtain ⟨_, _, hv, _, hn, _⟩ := hR.sl_inv
      have hv3 : a.eval x = .slice none 0 0 := hn
      exact fin hv3 hv2 (.inr ⟨_, _, _, rfl⟩) (.inr ⟨_, _, _, rfl⟩) (run_equalIn_sl ht 9999 _ _ _) (by cases ng <;> rfl)
    · rename_i e1 _
      rw [e1] at hR; cases h
      obtain ⟨_, _, _, _, hn, _⟩ := hR.sl_inv
      obtain ⟨a0, l, c, hv⟩ : ∃ a0 l c, a.eval x = .slice (some a0) l c := hn
      exact fin hv hv2 (.inr ⟨_, _, _, rfl⟩) (.inr ⟨_, _, _, rfl⟩) (run_equalIn_sl ht 9999 _ _ _) (by cases ng <;> rfl)
    · rename_i e1 _
      rw [e1] at hR; cases h
      obtain ⟨a0, cap, hv, _, _, _, _, _, _, hs⟩ := hR.sl_inv
      obtain ⟨b, off, vs, rfl, _⟩ := hs (by simp)
      exact fin hv hv2 (.inr ⟨_, _, _, rfl⟩) (.inr ⟨_, _, _, rfl⟩) (run_equalIn_sl ht 9999 _ _ _) (by cases ng <;> rfl)
    · cases h

end Ev

namespace Ev
open Go

variable {P : Program} {A : St} {g : G} {w w1 : World} {a : Act} {ρ : List D} {o : Oper}

/-- cells that read so -/
def CR (g : G) (cs : Array Value) (ds : List D) : Prop := cs.size = ds.length ∧ ∀ (i : Nat) v d, cs[i]? = some v → ds[i]? = some d → R g v d

theorem fold_set (off : Nat) : ∀ (l : List Value) (j : Nat) (cs : Array Value), off + j + l.length ≤ cs.size →
    ((l.zipIdx j).foldl (fun cs (x : Value × Nat) => cs.setIfInBounds (off + x.2) x.1) cs).size = cs.size ∧
    ∀ i : Nat, ((l.zipIdx j).foldl (fun cs (x : Value × Nat) => cs.setIfInBounds (off + x.2) x.1) cs)[i]? = if off + j ≤ i ∧ i < off + j + l.length then l[i - (off + j)]? else cs[i]?
  | [], j, cs, _ => ⟨rfl, fun i => by rw [if_neg (by simp only [List.length_nil]; omega)]; rfl⟩
  | v :: l, j, cs, h => by
    simp only [List.length_cons] at h
    obtain ⟨h1, h2⟩ := fold_set off l (j + 1) (cs.setIfInBounds (off + j) v) (by simp; omega)
    simp only [List.zipIdx_cons, List.foldl_cons]
    refine ⟨by rw [h1]; simp, fun i => ?_⟩
    rw [h2]
    by_cases hi : i = off + j
    · subst hi
      rw [if_neg (by omega), if_pos (by simp only [List.length_cons]; omega)]
      simp only [Nat.sub_self, List.getElem?_cons_zero]
      exact Array.getElem?_setIfInBounds_self_of_lt (by omega)
    · by_cases hc : off + (j + 1) ≤ i ∧ i < off + (j + 1) + l.length
      · rw [if_pos hc, if_pos (by simp only [List.length_cons]; omega), show i - (off + j) = (i - (off + (j + 1))) + 1 by omega, List.getElem?_cons_succ]
      · rw [if_neg hc, if_neg (by simp only [List.length_cons]; omega)]
        exact Array.getElem?_setIfInBounds_ne (fun e => hi e.symm)

theorem fill_put {place : Nat → Option (Nat × Nat)} : ∀ (parts : List (Nat × Value)) (parts' : List (Nat × Nat × D)) (cs : Array Value) (ds : List D), CR g cs ds →
    parts.length = parts'.length → (∀ (k : Nat) p q, parts[k]? = some p → parts'[k]? = some q → place p.1 = some (q.1, q.2.1) ∧ R g p.2 q.2.2) →
    ∀ ds', putCells ds parts' = some ds' → ∃ cs', Instr.fill place cs parts = some cs' ∧ CR g cs' ds'
  | [], [], cs, ds, h, _, _, ds', hp => by simp [putCells] at hp; subst hp; exact ⟨cs, rfl, h⟩
  | p :: ps, q :: qs, cs, ds, h, hl, hr, ds', hp => by
    obtain ⟨hpl, hR⟩ := hr 0 p q rfl rfl
    obtain ⟨i, v⟩ := p
    obtain ⟨off, size, d⟩ := q
    simp only at hpl hR
    simp only [putCells] at hp
    split at hp
    · rename_i hc
      obtain ⟨c1, c2, c3⟩ := hc
      obtain ⟨hs, hcell⟩ := hR.cells c3
      obtain ⟨f1, f2⟩ := fold_set off v.cells.toList 0 cs (by rw [h.1, Array.length_toList, hs]; omega)
      have hfold : v.cells.zipIdx.foldl (fun cs (x : Value × Nat) => cs.setIfInBounds (off + x.2) x.1) cs = (v.cells.toList.zipIdx 0).foldl (fun cs (x : Value × Nat) => cs.setIfInBounds (off + x.2) x.1) cs := by
        rw [← Array.foldl_toList, Array.toList_zipIdx]
      have key := fill_put (place := place) ps qs (v.cells.zipIdx.foldl (fun cs (x : Value × Nat) => cs.setIfInBounds (off + x.2) x.1) cs) (ds.take off ++ d.cells ++ ds.drop (off + size)) ⟨?_, ?_⟩ (by simpa using hl) (fun k p q hp hq => hr (k + 1) p q hp hq) ds' hp
      · obtain ⟨cs', k1, k2⟩ := key
        refine ⟨cs', ?_, k2⟩
        simp only [Instr.fill, hpl]
        rw [if_neg]
        · exact k1
        · simp only [hs, c1, ne_eq, not_true_eq_false, decide_false, Bool.false_or, decide_eq_true_eq, h.1]; omega
      · rw [hfold, f1, h.1]; simp only [List.length_append, List.length_take, List.length_drop]; omega
      · intro i u d' hu hd
        rw [hfold, f2] at hu
        simp only [Nat.add_zero, Array.length_toList, hs] at hu
        by_cases i1 : i < off
        · rw [if_neg (by omega)] at hu
          rw [List.append_assoc, List.getElem?_append_left (by simp; omega), List.getElem?_take, if_pos i1] at hd
          exact h.2 i u d' hu hd
        · by_cases i2 : i < off + size
          · rw [if_pos (by omega), Array.getElem?_toList] at hu
            rw [List.append_assoc, List.getElem?_append_right (by simp; omega), List.getElem?_append_left (by simp; omega)] at hd
            simp only [List.length_take, Nat.min_eq_left (show off ≤ ds.length by omega)] at hd
            exact hcell _ u d' hu hd
          · rw [if_neg (by omega)] at hu
            rw [List.append_assoc, List.getElem?_append_right (by simp; omega), List.getElem?_append_right (by simp; omega), List.getElem?_drop] at hd
            simp only [List.length_take, Nat.min_eq_left (show off ≤ ds.length by omega), c1] at hd
            rw [show off + size + (i - off - size) = i by omega] at hd
            exact h.2 i u d' hu hd
    · cases hp
  | [], _ :: _, _, _, _, h, _, _, _ => by simp at h
  | _ :: _, [], _, _, _, h, _, _, _ => by simp at h

theorem CR.er {cs : Array Value} {ds : List D} (h : CR g cs ds) : CR g cs (ds.map D.er) := by
  refine ⟨by simp [h.1], fun i v d hv hd => ?_⟩
  rw [List.getElem?_map] at hd
  cases hx : ds[i]? with
  | none => rw [hx] at hd; cases hd
  | some x => rw [hx] at hd; cases hd; exact (h.2 i v x hv hx).er

theorem CR.zero {t : Nat} {zs : List D} (hz : zeroT P t zs = true) : ∃ i z, P.info? t = some i ∧ i.zero = some z ∧ CR g z.cells zs := by
  unfold zeroT at hz
  split at hz
  · rename_i i hi
    split at hz
    · rename_i z hzz
      obtain ⟨hl, hr⟩ := R.of_okCells g hz
      exact ⟨i, z, hi, hzz, by simpa using hl, fun j v d hv hd => hr j v d (by simpa using hv) hd⟩
    · cases hz
  · cases hz

def okParts : List (Nat × Operand) → List (Nat × Opd) → Bool
  | [], [] => true
  | (i, x) :: r, (j, y) :: r' => i == j && okOpd x y && okParts r r'
  | _, _ => false

def okFParts (P : Program) (fs : Array Field) : List (Nat × Operand) → List (Nat × Nat × Opd) → Bool
  | [], [] => true
  | (i, x) :: r, (off, size, y) :: r' => (match fs[i]? with | some f => f.offset == off && sizeT P f.type size | none => false) && okOpd x y && okFParts P fs r r'
  | _, _ => false

def allSized (P : Program) (fs : Array Field) : Bool := fs.all fun f => (P.info? f.type).isSome

theorem run_places {fs : Array Field} (h : allSized P fs = true) : (fs.mapM fun f => do pure (f.offset, ← Go.sizeOf f.type) : Sem (Array (Nat × Nat))).run P w = .ok (fs.map fun f => (f.offset, P.cellsOf f.type)) w := by
  unfold allSized at h
  rw [Array.all_eq_true'] at h
  have key : ∀ (l : List Field), (∀ f, f ∈ l → (P.info? f.type).isSome = true) → (l.mapM fun f => do pure (f.offset, ← Go.sizeOf f.type) : Sem (List (Nat × Nat))).run P w = .ok (l.map fun f => (f.offset, P.cellsOf f.type)) w := by
    intro l
    induction l with
    | nil => intro _; simp
    | cons f r ih =>
      intro hl
      obtain ⟨i, hi⟩ := Option.isSome_iff_exists.1 (hl f (List.mem_cons_self ..))
      rw [List.mapM_cons]
      simp only [Sem.run_bind, run_sizeOf _ hi, Result.andThen_ok, Sem.run_pure, ih fun f hf => hl f (List.mem_cons_of_mem _ hf), List.map_cons]
  rw [Array.mapM_eq_mapM_toList]
  simp only [Sem.run_map, key fs.toList (fun f hf => h f (by simpa using hf)), Result.andThen_ok]
  congr 1
  apply Array.ext'
  simp

theorem g_build (I : Inv g A w) (E : Env g a.tmps ρ) {t : Nat} {fs : Array Field} {parts : Array (Nat × Operand)} {zs : List D} {parts' : List (Nat × Nat × Opd)} (ho : o.op = .build t parts)
    (ht : P.underlying t = some (.struct fs)) (hz : zeroT P t zs = true) (hall : allSized P fs = true) (hp : okFParts P fs parts.toList parts' = true) {cs : List D}
    (h : putCells zs (parts'.map fun p => (p.1, p.2.1, (p.2.2).ev ρ)) = some cs) : Good P (execOp a.eval o) A g w A (.agg (cs.map D.er)) := by
  obtain ⟨i, z, hi, hzz, hCR⟩ := CR.zero (g := g) hz
  have hparts : ∀ (ps : List (Nat × Operand)) (qs : List (Nat × Nat × Opd)), okFParts P fs ps qs = true → ps.length = qs.length ∧
      ∀ (k : Nat) p q, (ps.map fun (i, x) => (i, a.eval x))[k]? = some p → (qs.map fun p => (p.1, p.2.1, (p.2.2).ev ρ))[k]? = some q → (fs.map fun f => (f.offset, P.cellsOf f.type))[p.1]? = some (q.1, q.2.1) ∧ R g p.2 q.2.2 := by
    intro ps
    induction ps with
    | nil => intro qs hq; cases qs with
      | nil => exact ⟨rfl, fun k p q h1 h2 => by simp at h1⟩
      | cons _ _ => simp [okFParts] at hq
    | cons p r ih =>
      intro qs hq
      cases qs with
      | nil => simp [okFParts] at hq
      | cons q r' =>
        obtain ⟨ix, x⟩ := p
        obtain ⟨off, size, y⟩ := q
        simp only [okFParts, Bool.and_eq_true] at hq
        obtain ⟨⟨h1, h2⟩, h3⟩ := hq
        obtain ⟨l1, l2⟩ := ih r' h3
        refine ⟨by simp [l1], fun k p q hp hq => ?_⟩
        cases k with
        | zero =>
          simp at hp hq
          subst hp; subst hq
          refine ⟨?_, R.of_opd E h2⟩
          split at h1
          · rename_i f hf
            simp only [Bool.and_eq_true, beq_iff_eq] at h1
            obtain ⟨rfl, h4⟩ := h1
            simp only [Array.getElem?_map, hf, Option.map_some, Option.some.injEq, Prod.mk.injEq, true_and]
            unfold sizeT at h4
            split at h4
            · rename_i i' hi'; simp at h4; simp [Program.cellsOf, hi', h4]
            · cases h4
          · cases h1
        | succ k => exact l2 k p q (by simpa using hp) (by simpa using hq)
  obtain ⟨l1, l2⟩ := hparts _ _ hp
  obtain ⟨cs', f1, f2⟩ := fill_put (g := g) (place := fun i => (fs.map fun f => (f.offset, P.cellsOf f.type))[i]?) (parts.toList.map fun (i, x) => (i, a.eval x)) _ z.cells zs hCR (by simp [l1]) l2 cs h
  refine .same (v := .agg cs') I ?_ (.agg _ _ (f2.er).1 (f2.er).2)
  simp only [execOp, ho, Instr.build, zeroValue, typeInfo, Sem.run_bind, run_program, Result.andThen_ok, hi, hzz, run_und ht, run_places hall, Sem.run_pure, Array.toList_map]
  rw [f1]
  rfl

def okAParts (wd : Nat) : List (Nat × Operand) → List (Nat × Nat × Opd) → Bool
  | [], [] => true
  | (i, x) :: r, (off, size, y) :: r' => off == i * wd && size == wd && okOpd x y && okAParts wd r r'
  | _, _ => false

theorem g_buildA (I : Inv g A w) (E : Env g a.tmps ρ) {t n e wd : Nat} {parts : Array (Nat × Operand)} {zs : List D} {parts' : List (Nat × Nat × Opd)} (ho : o.op = .build t parts)
    (ht : P.underlying t = some (.array n e)) (hz : zeroT P t zs = true) (hs : sizeT P e wd = true) (hp : okAParts wd parts.toList parts' = true) {cs : List D}
    (h : putCells zs (parts'.map fun p => (p.1, p.2.1, (p.2.2).ev ρ)) = some cs) : Good P (execOp a.eval o) A g w A (.agg (cs.map D.er)) := by
  obtain ⟨i, z, hi, hzz, hCR⟩ := CR.zero (g := g) hz
  have hparts : ∀ (ps : List (Nat × Operand)) (qs : List (Nat × Nat × Opd)), okAParts wd ps qs = true → ps.length = qs.length ∧
      ∀ (k : Nat) p q, (ps.map fun (i, x) => (i, a.eval x))[k]? = some p → (qs.map fun p => (p.1, p.2.1, (p.2.2).ev ρ))[k]? = some q → some (p.1 * wd, wd) = some (q.1, q.2.1) ∧ R g p.2 q.2.2 := by
    intro ps
    induction ps with
    | nil => intro qs hq; cases qs with
      | nil => exact ⟨rfl, fun k p q h1 h2 => by simp at h1⟩
      | cons _ _ => simp [okAParts] at hq
    | cons p r ih =>
      intro qs hq
      cases qs with
      | nil => simp [okAParts] at hq
      | cons q r' =>
        obtain ⟨ix, x⟩ := p
        obtain ⟨off, size, y⟩ := q
        simp only [okAParts, Bool.and_eq_true, beq_iff_eq] at hq
        obtain ⟨⟨⟨rfl, rfl⟩, h2⟩, h3⟩ := hq
        obtain ⟨l1, l2⟩ := ih r' h3
        refine ⟨by simp [l1], fun k p q hp hq => ?_⟩
        cases k with
        | zero => simp at hp hq; subst hp; subst hq; exact ⟨rfl, R.of_opd E h2⟩
        | succ k => exact l2 k p q (by simpa using hp) (by simpa using hq)
  obtain ⟨l1, l2⟩ := hparts _ _ hp
  obtain ⟨cs', f1, f2⟩ := fill_put (g := g) (place := fun i => some (i * wd, wd)) (parts.toList.map fun (i, x) => (i, a.eval x)) _ z.cells zs hCR (by simp [l1]) l2 cs h
  obtain ⟨ie, hie⟩ : ∃ ie, P.info? e = some ie := by unfold sizeT at hs; split at hs <;> simp_all
  have hsz : ie.size = wd := by unfold sizeT at hs; rw [hie] at hs; simpa using hs
  refine .same (v := .agg cs') I ?_ (.agg _ _ (f2.er).1 (f2.er).2)
  simp only [execOp, ho, Instr.build, zeroValue, typeInfo, Go.sizeOf, Sem.run_bind, run_program, Result.andThen_ok, hi, hie, hzz, run_und ht, Sem.run_pure, Array.toList_map, hsz]
  rw [f1]
  rfl

theorem flatten_replicate_get {zs : List D} (hz : 0 < zs.length) : ∀ (n i : Nat), i < n * zs.length → (List.replicate n zs).flatten[i]? = zs[i % zs.length]?
  | 0, i, h => by omega
  | n + 1, i, h => by
    rw [List.replicate_succ, List.flatten_cons]
    by_cases hi : i < zs.length
    · rw [List.getElem?_append_left hi, Nat.mod_eq_of_lt hi]
    · rw [List.getElem?_append_right (by omega), flatten_replicate_get hz n (i - zs.length) (by rw [Nat.succ_mul] at h; omega), ← Nat.mod_eq_sub_mod (by omega)]

theorem CR.made {z : Array Value} {zs : List D} (h : CR g z zs) (hz : 0 < zs.length) (n : Nat) : CR g (madeCells z (n * zs.length)) (List.replicate n zs).flatten := by
  have hfl : (List.replicate n zs).flatten.length = n * zs.length := by simp
  refine ⟨by rw [size_madeCells, hfl], fun i v d hv hd => ?_⟩
  have hi : i < n * zs.length := by rw [← hfl]; exact (List.getElem?_eq_some_iff.1 hd).1
  rw [flatten_replicate_get hz n i hi] at hd
  have hm : i % zs.length < z.size := by rw [h.1]; exact Nat.mod_lt _ hz
  have : (madeCells z (n * zs.length))[i]? = some z[i % zs.length] := by
    simp only [madeCells, Array.getElem?_map, Array.getElem?_range, hi, if_true, Option.map_some, h.1]
    rw [getElem!_pos z (i % zs.length) hm]
  rw [this] at hv
  cases hv
  exact h.2 _ _ d (Array.getElem?_eq_getElem hm) hd

theorem flatten_chunks {wd n : Nat} {ds : List D} (h : ds.length = n * wd) : (chunks wd n ds).flatten = ds := by
  rw [chunks_flatten, ← h, List.take_length]

theorem putCells_length : ∀ {parts : List (Nat × Nat × D)} {zs cs : List D}, putCells zs parts = some cs → cs.length = zs.length
  | [], zs, cs, h => by simp [putCells] at h; rw [h]
  | (off, size, v) :: r, zs, cs, h => by
    simp only [putCells] at h
    split at h
    · rename_i hc
      rw [putCells_length h]
      simp only [List.length_append, List.length_take, List.length_drop]; omega
    · cases h

theorem g_bsl (I : Inv g A w) (E : Env g a.tmps ρ) {t e ln wd : Nat} {m : Mode} {parts : Array (Nat × Operand)} {zs : List D} {parts' : List (Nat × Opd)} (ho : o.op = .buildSlice t ln parts)
    (ht : P.underlying t = some (.slice e)) (hz : zeroT P e zs = true) (hs : sizeT P e wd = true) (hw : zs.length = wd) (hpos : 0 < wd) (hsm : ln * wd ≤ 16777216) (hp : okParts parts.toList parts' = true) {cs : List D}
    (h : putCells ((List.replicate ln zs).flatten) (parts'.map fun p => (p.1 * wd, wd, (p.2).ev ρ)) = some cs) (hpc : (cs.map D.er).all D.pc = true) :
    Good P (execOp a.eval o) A g w (A.newSl m .full wd (chunks wd ln (cs.map D.er))).2 (A.newSl m .full wd (chunks wd ln (cs.map D.er))).1 := by
  obtain ⟨i, z, hi, hzz, hCR⟩ := CR.zero (g := g) hz
  have hsz : i.size = wd := by unfold sizeT at hs; rw [hi] at hs; simpa using hs
  have hparts : ∀ (ps : List (Nat × Operand)) (qs : List (Nat × Opd)), okParts ps qs = true → ps.length = qs.length ∧
      ∀ (k : Nat) p q, (ps.map fun (i, x) => (i, a.eval x))[k]? = some p → (qs.map fun p => (p.1 * wd, wd, (p.2).ev ρ))[k]? = some q → some (p.1 * wd, wd) = some (q.1, q.2.1) ∧ R g p.2 q.2.2 := by
    intro ps
    induction ps with
    | nil => intro qs hq; cases qs with
      | nil => exact ⟨rfl, fun k p q h1 h2 => by simp at h1⟩
      | cons _ _ => simp [okParts] at hq
    | cons p r ih =>
      intro qs hq
      cases qs with
      | nil => simp [okParts] at hq
      | cons q r' =>
        obtain ⟨ix, x⟩ := p
        obtain ⟨jx, y⟩ := q
        simp only [okParts, Bool.and_eq_true, beq_iff_eq] at hq
        obtain ⟨⟨rfl, h2⟩, h3⟩ := hq
        obtain ⟨l1, l2⟩ := ih r' h3
        refine ⟨by simp [l1], fun k p q hp hq => ?_⟩
        cases k with
        | zero => simp at hp hq; subst hp; subst hq; exact ⟨rfl, R.of_opd E h2⟩
        | succ k => exact l2 k p q (by simpa using hp) (by simpa using hq)
  obtain ⟨l1, l2⟩ := hparts _ _ hp
  subst hw
  have hM := hCR.made hpos ln
  obtain ⟨cs', f1, f2⟩ := fill_put (g := g) (place := fun i => some (i * zs.length, zs.length)) (parts.toList.map fun (i, x) => (i, a.eval x)) _ (madeCells z.cells (ln * zs.length)) _ hM (by simp [l1]) l2 cs h
  have hlen : (cs.map D.er).length = ln * zs.length := by rw [List.length_map, putCells_length h]; simp
  have hflat := flatten_chunks hlen
  have hcl := chunks_length zs.length ln (cs.map D.er)
  have hcsz : cs'.size = ln * zs.length := by rw [f2.er.1, hlen]
  refine good_newSl (n := ln) (cap := ln) (oneMore_row w cs' e) I hcl.symm ?_ (by rw [hcl]; exact Nat.le_refl _) hcsz (chunks_wid (by rw [hlen]; exact Nat.le_refl _)) (fun el hel c hc => List.all_eq_true.1 hpc c (chunks_mem hel hc)) (fun j d hd => ?_) m (.inr ⟨rfl, hcl.symm⟩)
  · simp only [execOp, ho, Instr.buildSlice, zeroValue, typeInfo, Go.sizeOf, Sem.run_bind, run_program, Result.andThen_ok, hi, hzz, run_und ht, Sem.run_pure, Array.toList_map, hsz]
    rw [if_neg (by omega)]
    by_cases hl0 : ln = 0
    · subst hl0
      have hm0 : madeCells z.cells (0 * zs.length) = #[] := by simp [madeCells, Array.range_zero']
      rw [hm0] at f1
      have hr0 : (Array.range (0 * zs.length)).map (fun i => (#[] : Array Value)[i % 0]!) = #[] := by simp [Array.range_zero']
      have hz0 : 0 * zs.length = 0 := Nat.zero_mul _
      simp only [hz0, if_true, Sem.run_pure, Result.andThen_ok, Sem.run_bind]
      rw [hz0] at hr0
      simp only [Array.size_empty, hr0, f1, newRow, Sem.run_bind, run_newObj, Result.andThen_ok, Sem.run_pure]
    · have hne : ¬ ln * zs.length = 0 := by have := Nat.mul_pos (Nat.pos_of_ne_zero hl0) hpos; omega
      simp only [hne, if_false, Sem.run_bind, Result.andThen_ok, Sem.run_pure, hi, run_program, hzz]
      have f1' := f1
      unfold madeCells at f1'
      rw [f1']
      simp [newRow]
  · rw [hflat] at hd
    have hj : j < cs'.size := by rw [hcsz, ← hlen]; exact (List.getElem?_eq_some_iff.1 hd).1
    exact ⟨cs'[j], Array.getElem?_eq_getElem hj, f2.er.2 j _ d (Array.getElem?_eq_getElem hj) hd⟩

theorem g_mk (I : Inv g A w) (E : Env g a.tmps ρ) {t e wd bs : Nat} {m : Mode} {x x' : Operand} {y : Opd} {zs : List D} (ho : o.op = .makeSlice t x x') (hx : okOpd x y = true) (hx' : okOpd x' y = true)
    (ht : P.underlying t = some (.slice e)) (hz : zeroT P e zs = true) (hs : sizeT P e wd = true) (hw : zs.length = wd) (hpos : 0 < wd) (hb : (match P.info? e with | some i => i.bytes == bs | none => false) = true)
    {k : IntKind} {n : Int} (hy : y.ev ρ = .int k n) (h0 : 0 ≤ n) (hbs : n * bs ≤ 140737488355328) (h63 : n < 9223372036854775808) (hpc : zs.all D.pc = true) :
    Good P (execOp a.eval o) A g w (A.newSl m .full wd (List.replicate n.toNat zs)).2 (A.newSl m .full wd (List.replicate n.toNat zs)).1 := by
  obtain ⟨i, z, hi, hzz, hCR⟩ := CR.zero (g := g) hz
  have hsz : i.size = wd := by unfold sizeT at hs; rw [hi] at hs; simpa using hs
  have hbb : i.bytes = bs := by rw [hi] at hb; simpa using hb
  have hR := R.of_opd E hx
  have hR' := R.of_opd E hx'
  rw [hy] at hR hR'
  have hv := hR.int_inv
  have hv' := hR'.int_inv
  subst hw
  have hM := hCR.made hpos n.toNat
  have hrun := run_make (P := P) w t e i z ht hi hzz k k n n h0 (Int.le_refl _) (by rw [hbb, Int.mul_comm]; omega) (by omega)
  rw [hsz] at hrun
  refine good_newSl (n := n.toNat) (cap := n.toNat) (oneMore_row w (madeCells z.cells (n.toNat * zs.length)) e) I (by simp) ?_ (by simp) (size_madeCells _ _) (fun el hel => by rw [List.eq_of_mem_replicate hel]) (fun el hel c hc => by rw [List.eq_of_mem_replicate hel] at hc; exact List.all_eq_true.1 hpc c hc) (fun j d hd => ?_) m (.inr ⟨rfl, by simp⟩)
  · simp [execOp, ho, hv, hv', hrun]
  · have hj : j < (madeCells z.cells (n.toNat * zs.length)).size := by rw [hM.1]; exact (List.getElem?_eq_some_iff.1 hd).1
    exact ⟨_, Array.getElem?_eq_getElem hj, hM.2 j _ d (Array.getElem?_eq_getElem hj) hd⟩

end Ev

namespace Ev
open Go

variable {P : Program} {A : St} {g : G} {w w1 : World} {a : Act} {ρ : List D} {o : Oper}

/-- a tracked block is let go -/
theorem Inv.drop (I : Inv g A w) (j : Nat) : Inv g { A with blks := A.blks.set j .dead } w := by
  have hl : ∀ i, live g { A with blks := A.blks.set j .dead } i → live g A i := by
    intro i h
    by_cases e : i = j
    · subst e
      have hlt : i < A.blks.length := by have := live_lt h; simpa using this
      rcases h.2 with ⟨c, h⟩ | ⟨s, p, h⟩ <;> simp [List.getElem?_set_self hlt] at h
    · obtain ⟨h0, h⟩ := h
      simp only [List.getElem?_set_ne (fun h => e h.symm)] at h
      exact ⟨h0, h⟩
  refine ⟨by simp [I.nb], I.nt, I.mem, fun i x hx => ?_, I.tok, I.rho, fun i i' x x' e => I.exb i i' (hl i x) (hl i' x') e, I.exr, fun i k en sz x hk => I.exm i k en sz (hl i x) hk⟩
  by_cases e : i = j
  · subst e
    have hlt : i < A.blks.length := by have := (List.getElem?_eq_some_iff.1 hx).1; simpa using this
    simp only [List.getElem?_set_self hlt, Option.some.injEq] at hx
    subst hx; trivial
  · simp only [List.getElem?_set_ne (fun h => e h.symm)] at hx
    exact I.blk i x hx

theorem drop_not (I : Inv g A w) {j : Nat} (hj : live g A j) : ¬ Owns g { A with blks := A.blks.set j .dead } (g.m j).1 := by
  rintro (⟨i, hi, e⟩ | ⟨k, en, sz, hk, hr⟩)
  · have hl := live_set hi hj
    have := I.exb i j hl hj e
    subst this
    have hlt : i < A.blks.length := live_lt hj
    rcases hi.2 with ⟨c, h⟩ | ⟨s, p, h⟩ <;> simp [List.getElem?_set_self hlt] at h
  · exact I.exm j k en sz hj hk hr

theorem drop_sub {j b : Nat} (h : Owns g { A with blks := A.blks.set j .dead } b) : Owns g A b := by
  rcases h with ⟨i, hi, e⟩ | h
  · by_cases ee : i = j
    · subst ee
      have hlt : i < A.blks.length := by have := live_lt hi; simpa using this
      rcases hi.2 with ⟨c, h⟩ | ⟨s, p, h⟩ <;> simp [List.getElem?_set_self hlt] at h
    · obtain ⟨h0, h⟩ := hi
      simp only [List.getElem?_set_ne (fun h => ee h.symm)] at h
      exact .inl ⟨i, ⟨h0, h⟩, e⟩
  · exact .inr h

theorem bytesD_flatten (s : List UInt8) : (bytesD s).flatten = s.map fun c => D.int .u8 c.toNat := by
  induction s with
  | nil => rfl
  | cons c r ih => simp only [bytesD, List.map_cons, List.flatten_cons] at ih ⊢; rw [ih]; rfl

/-- what an append's second operand yields -/
theorem src_of (I : Inv g A w) {v : Value} {y : D} {wd tx : Nat} {st : Bool} {ys : List (List D)} (hR : R g v y) (h : appEls A st wd y = some ys) (hpc : (ys.all fun el => el.all D.pc) = true)
    (hts : st = true → P.underlying tx = some .string) (htl : st = false → ∃ e, P.underlying tx = some (.slice e)) :
    ∃ news, Src P wd tx v ys.length news w ∧ (∀ el, el ∈ ys → el.length = wd) ∧ (∀ (j : Nat) d, ys.flatten[j]? = some d → ∃ u, news[j]? = some u ∧ R g u d) := by
  have one : ∀ {u : Value} {d : D}, R g u d → d ∈ ys.flatten → u.oneCell' = true := by
    intro u d hu hd
    obtain ⟨el, hel, hd'⟩ := List.mem_flatten.1 hd
    exact hu.oneCell (pc_pc0 (List.all_eq_true.1 (List.all_eq_true.1 hpc el hel) d hd'))
  have slice : ∀ {b o' cap : Nat}, v = .slice (some ⟨b, o', none⟩) ys.length cap → (∃ e, P.underlying tx = some (.slice e)) → (∀ el, el ∈ ys → el.length = wd) → Reads g w b o' ys.flatten →
      ∃ news, Src P wd tx v ys.length news w ∧ (∀ el, el ∈ ys → el.length = wd) ∧ (∀ (j : Nat) d, ys.flatten[j]? = some d → ∃ u, news[j]? = some u ∧ R g u d) := by
    intro b o' cap hv ⟨e, he⟩ hw hr
    have hfl := flatten_length hw
    have hget : ∀ j, j < ys.flatten.length → ∃ u, cellAt w b (o' + j) = some u ∧ ∃ d, ys.flatten[j]? = some d ∧ R g u d := fun j hj => by
      obtain ⟨u, hu, hRu⟩ := hr j _ (List.getElem?_eq_getElem hj)
      exact ⟨u, hu, _, List.getElem?_eq_getElem hj, hRu⟩
    refine ⟨(List.range ys.flatten.length).map fun j => (cellAt w b (o' + j)).getD default, ?_, hw, fun j d hd => ?_⟩
    · rw [hv]
      refine Src.ofSlice w he ⟨b, o', none⟩ _ cap _ (by simp [hfl]) (fun j u hu => ?_) (fun u hu => ?_)
      · have hj : j < ys.flatten.length := by have := (List.getElem?_eq_some_iff.1 hu).1; simpa using this
        obtain ⟨u', hu', _⟩ := hget j hj
        simp only [List.getElem?_map, List.getElem?_range hj, Option.map_some, Option.some.injEq] at hu
        rw [hu'] at hu; simp only [Option.getD_some] at hu
        rw [add_none]; rw [← hu]; exact hu'
      · obtain ⟨j, hj, rfl⟩ := List.mem_map.1 hu
        have hj' : j < ys.flatten.length := by simpa using hj
        obtain ⟨u', hu', d, hd, hRu⟩ := hget j hj'
        rw [hu']
        exact one hRu (List.mem_of_getElem? hd)
    · have hj := (List.getElem?_eq_some_iff.1 hd).1
      obtain ⟨u', hu', d', hd', hRu⟩ := hget j hj
      rw [hd] at hd'; cases hd'
      exact ⟨u', by simp only [List.getElem?_map, List.getElem?_range hj, Option.map_some, hu', Option.getD_some], hRu⟩
  have nil : ∀ {p : Option Addr} {cap : Nat}, v = .slice p 0 cap → (∀ x, p = some x → x.spot = x.spot) → ys = [] → (∃ e, P.underlying tx = some (.slice e)) →
      ∃ news, Src P wd tx v ys.length news w ∧ (∀ el, el ∈ ys → el.length = wd) ∧ (∀ (j : Nat) d, ys.flatten[j]? = some d → ∃ u, news[j]? = some u ∧ R g u d) := by
    intro p cap hv hsp hys ⟨e, he⟩
    subst hys
    refine ⟨[], ?_, (fun _ h => by cases h), (fun j d h => by simp at h)⟩
    rw [hv]
    cases p with
    | none => exact Src.ofNil w he cap
    | some ad => exact Src.ofSlice w he ad 0 cap [] (by simp) (fun j u h => by simp at h) (fun _ h => by cases h)
  unfold appEls at h
  cases st with
  | true =>
    simp only [if_true] at h
    split at h
    case h_2 => cases h
    rename_i s
    split at h
    · rename_i hw1
      subst hw1
      cases h
      have hv := hR.str_inv
      have hsz : (ByteArray.mk s.toArray).size = (bytesD s).length := by simp [bytesD, ByteArray.size]
      have := Src.ofString (P := P) w (hts rfl) ⟨s.toArray⟩
      rw [hsz] at this
      refine ⟨_, by rw [hv]; exact this, fun el hel => ?_, fun j d hd => ?_⟩
      · obtain ⟨c, _, rfl⟩ := List.mem_map.1 hel; rfl
      · rw [bytesD_flatten, List.getElem?_map] at hd
        cases hx : s[j]? with
        | none => rw [hx] at hd; cases hd
        | some c =>
          rw [hx] at hd; cases hd
          exact ⟨.int .u8 c.toNat, by simp [byteCells, hx], .int _ _⟩
    · cases h
  | false =>
    simp only [Bool.false_eq_true, if_false] at h
    have htl' := htl rfl
    unfold St.els at h
    split at h
    · rename_i oo w' els
      split at h
      · rename_i hw
        cases h
        obtain ⟨p, cap, hv, _, _, hsp, hwid, _, hnone, hsome⟩ := hR.sl_inv
        by_cases he : ys = []
        · subst he
          exact nil hv hsp rfl htl'
        · obtain ⟨b, off, vs, rfl, hmu, hr⟩ := hsome he
          have hww : w' = wd := hw.resolve_right he
          subst hww
          refine slice hv htl' hwid (fun j d hd => ⟨vs j, I.mem _ _ _ (hmu j ?_), hr j d hd⟩)
          rw [← flatten_length hwid]; exact (List.getElem?_eq_some_iff.1 hd).1
      · cases h
    · rename_i j off w' n
      split at h
      · rename_i hw
        subst hw
        obtain ⟨hj, hv⟩ := hR.loc_inv
        split at h
        · rename_i f cells hb
          split at h
          · rename_i hl
            cases h
            have hlen := chunks_length w' n ((cells.drop off).map D.er)
            have hwl : n * w' ≤ ((cells.drop off).map D.er).length := by simp; omega
            rcases hv with ⟨cap, hv, _⟩ | ⟨p, hv, rfl, hsp⟩
            · refine slice (cap := cap) (b := (g.m j).1) (o' := (g.m j).2.1 + off) (by rw [hlen]; exact hv) htl' (chunks_wid hwl) ?_
              rw [chunks_flatten]
              exact (((reads_blk I hb).drop off).map_er).take _
            · exact nil hv hsp (by simp [chunks]) htl'
          · cases h
        · split at h
          · rename_i hn
            cases h
            subst hn
            rcases hv with ⟨cap, hv, _⟩ | ⟨p, hv, _, hsp⟩
            · exact nil hv (fun x hx => by cases hx; rfl) rfl htl'
            · exact nil hv hsp rfl htl'
          · cases h
      · cases h
    · cases h

theorem run_append_none {t tx ty e : TypeId} (ht : P.underlying t = some (.slice e)) {wd : Nat} (hs : sizeT P e wd = true) {x : Value} {news : List Value} (S : Src P wd tx x 0 news w) (p : Option Addr) (n cap : Nat) (hc : n ≤ cap) :
    (Builtin.append_ #[t, tx] ty #[.slice p n cap, x]).run P w = .ok (.slice p n cap) w := by
  have hn : news = [] := List.eq_nil_of_length_eq_zero (by rw [S.newsLen, Nat.zero_mul])
  have hcells := S.cells
  subst hn
  rcases S.kind with ⟨e', hk⟩ | hk <;> cases p <;> simp [Builtin.append_, run_und ht, run_und hk, run_sizeT hs, S.len, hc, hcells, storeCells]


theorem run_append_some {t tx ty e : TypeId} (ht : P.underlying t = some (.slice e)) {wd : Nat} (hs : sizeT P e wd = true) {x : Value} {news : List Value} {m : Nat} (S : Src P wd tx x m news w) (b off n cap : Nat) (hc : n + m ≤ cap)
    (hroom : ∀ k, off + n * wd ≤ k → k < off + n * wd + m * wd → (∃ v, cellAt w b k = some v) ∧ frozenAt w b k = false) :
    ∃ w', (Builtin.append_ #[t, tx] ty #[.slice (some ⟨b, off, none⟩) n cap, x]).run P w = .ok (.slice (some ⟨b, off, none⟩) (n + m) cap) w' ∧ Wrote w b (off + n * wd) news w' := by
  obtain ⟨i, hi, hsz⟩ : ∃ i, P.info? e = some i ∧ i.size = wd := by
    unfold sizeT at hs; split at hs
    · rename_i i hi; exact ⟨i, hi, by simpa using hs⟩
    · cases hs
  subst hsz
  have hcell : ∀ k, k < news.length → (∃ v, cellAt w b (off + n * i.size + 0 + k) = some v) ∧ frozenAt w b (off + n * i.size + 0 + k) = false := fun k hk => hroom _ (by omega) (by rw [S.newsLen] at hk; omega)
  obtain ⟨w', hr, W⟩ := run_storeCells P b (off + n * i.size) news 0 w hcell S.one
  have hr2 := run_storeCells_cells (P := P) b (off + n * i.size) news 0 w (fun j hj => by obtain ⟨⟨v, hv⟩, _⟩ := hcell j hj; simp only [cellAt] at hv; rw [hv]; rfl) (fun j hj => (hcell j hj).2) S.one
  simp only [Nat.add_zero] at hr2 W
  rw [hr] at hr2
  simp only [Result.ok.injEq, true_and] at hr2
  subst hr2
  refine ⟨_, run_append_room_src (P := P) w t tx ty e i ht hi b off n cap x m news S hc (fun j hj => ?_) (fun j hj => ?_), W⟩
  · obtain ⟨⟨v, hv⟩, _⟩ := hcell j hj; simp only [Nat.add_zero, cellAt] at hv; rw [hv]; rfl
  · have := (hcell j hj).2; simpa using this

/-- a world with one block more, behind a draw -/
theorem run_append_grow {t tx ty e bs : TypeId} (ht : P.underlying t = some (.slice e)) {wd : Nat} {zs : List D} (hz : zeroT P e zs = true) (hs : sizeT P e wd = true) (hw : zs.length = wd)
    (hb : (match P.info? e with | some i => i.bytes == bs | none => false) = true) {x : Value} {news : List Value} {m : Nat} (S : Src P wd tx x m news w) (p : Option Addr) (n cap : Nat) (hc : cap < n + m)
    (olds : List Value) (hol : olds.length = n * wd) (hold : (Builtin.firstCells wd n (.slice p n cap)).run P w.drew = .ok olds.toArray w.drew) (hfit : (n + m) * bs ≤ 140737488355328) (h63 : n + m ≤ 9223372036854775807) :
    ∃ cap' c w', (Builtin.append_ #[t, tx] ty #[.slice p n cap, x]).run P w = .ok (.slice (some ⟨w.heap.size, 0, none⟩) (n + m) cap') w' ∧ OneMore w c w' ∧ n + m ≤ cap' ∧ c.size = cap' * wd ∧
      ∀ (j : Nat) v, (olds ++ news)[j]? = some v → c[j]? = some v := by
  obtain ⟨i, z, hi, hzz, hCR⟩ := CR.zero (g := ⟨fun _ _ => none, 0, 0, fun _ => (0, 0, 0), fun _ => 0, fun _ => none⟩) hz
  have hsz : i.size = wd := by unfold sizeT at hs; rw [hi] at hs; simpa using hs
  have hbb : i.bytes = bs := by rw [hi] at hb; simpa using hb
  have hzs : z.cells.size = wd := by rw [hCR.1, hw]
  subst hsz
  have hr := run_append_grow_src (P := P) w t tx ty e i z ht hi hzz p n cap olds hold x m news S hc (by omega) (growslice_fits hc (by rw [hbb]; exact hfit))
  have hge := grownCap_ge w (n + m) cap e
  refine ⟨_, _, _, hr, ⟨⟨e, (0, 0), rfl, fun o _ h => by omega⟩, rfl, rfl, rfl⟩, hge, ?_, fun j v hv => ?_⟩
  · simp only [Array.size_append, List.size_toArray, List.length_append, size_zeroCells, hzs, hol, S.newsLen, ← Nat.add_mul]
    congr 1; omega
  · have hj := (List.getElem?_eq_some_iff.1 hv).1
    rw [Array.getElem?_append_left (by simpa using hj)]
    simpa using hv

/-- what a slice holds, read in a world behind a draw -/
theorem old_of {v : Value} {oo : Own} {wd : Nat} {els : List (List D)} (I : Inv g A w) (hR : R g v (.sl oo wd els)) {p : Option Addr} {cap : Nat} (hv : v = .slice p els.length cap) :
    ∃ olds : List Value, olds.length = els.length * wd ∧ (Builtin.firstCells wd els.length (.slice p els.length cap)).run P w.drew = .ok olds.toArray w.drew ∧ ∀ (j : Nat) d, els.flatten[j]? = some d → ∃ u, olds[j]? = some u ∧ R g u d := by
  obtain ⟨p', cap', hv', _, _, hsp, hwid, _, hnone, hsome⟩ := hR.sl_inv
  rw [hv'] at hv
  simp only [Value.slice.injEq, true_and] at hv
  obtain ⟨rfl, rfl⟩ := hv
  by_cases he : els = []
  · subst he
    refine ⟨[], by simp, ?_, fun j d h => by simp at h⟩
    cases p' with
    | none => simp [Builtin.firstCells]
    | some ad => simp [Builtin.firstCells, loadCells, loadCellsFrom]
  · obtain ⟨b, off, vs, rfl, hmu, hr⟩ := hsome he
    have hfl := flatten_length hwid
    refine ⟨(List.range (els.length * wd)).map vs, by simp, ?_, fun j d hd => ?_⟩
    · refine run_firstCells_some w.drew wd els.length _ _ _ _ (by simp) (fun j u hu => ?_)
      have hj : j < els.length * wd := by have := (List.getElem?_eq_some_iff.1 hu).1; simpa using this
      simp only [List.getElem?_map, List.getElem?_range hj, Option.map_some, Option.some.injEq] at hu
      rw [add_none, World.cell?_drew]
      have := I.mem _ _ _ (hmu j hj)
      simp only [cellAt] at this
      rw [this, hu]
    · have hj : j < els.length * wd := by rw [← hfl]; exact (List.getElem?_eq_some_iff.1 hd).1
      exact ⟨vs j, by simp [List.getElem?_range hj], hr j d hd⟩

theorem reads_old {olds news : List Value} {els ys : List (List D)} (hol : olds.length = els.flatten.length) (h1 : ∀ (j : Nat) d, els.flatten[j]? = some d → ∃ u, olds[j]? = some u ∧ R g u d)
    (h2 : ∀ (j : Nat) d, ys.flatten[j]? = some d → ∃ u, news[j]? = some u ∧ R g u d) : ∀ (j : Nat) d, (els ++ ys).flatten[j]? = some d → ∃ u, (olds ++ news)[j]? = some u ∧ R g u d := by
  intro j d hd
  rw [List.flatten_append] at hd
  by_cases hj : j < els.flatten.length
  · rw [List.getElem?_append_left hj] at hd
    rw [List.getElem?_append_left (by omega)]
    exact h1 j d hd
  · rw [List.getElem?_append_right (by omega)] at hd
    rw [List.getElem?_append_right (by omega), hol]
    exact h2 _ d hd

end Ev

namespace Ev
open Go

variable {P : Program} {A : St} {g : G} {w w1 : World} {a : Act} {ρ : List D} {o : Oper}

/-- what the types of an append say -/
structure AppT (P : Program) (t tx e wd bs : Nat) (zs : List D) : Prop where
  ht : P.underlying t = some (.slice e)
  hz : zeroT P e zs = true
  hs : sizeT P e wd = true
  hw : zs.length = wd
  hb : (match P.info? e with | some i => i.bytes == bs | none => false) = true
  bs1 : 0 < bs

theorem app_run {t tx : Nat} {x x' : Operand} (ho : o.op = .call { callee := .builtin .append, args := #[x, x'], argTypes := #[t, tx] }) {v : Value} {w' : World}
    (h : (Builtin.append_ #[t, tx] o.type #[a.eval x, a.eval x']).run P w = .ok v w') : (execOp a.eval o).run P w = .ok (.value v) w' := by
  rw [exec_builtin ho]
  simp only [List.map_toArray, List.map_cons, List.map_nil, builtin, Sem.run_bind, h, Result.andThen_ok]; rfl

theorem app_full (I : Inv g A w) {t tx e wd bs : Nat} {zs : List D} (T : AppT P t tx e wd bs zs) {x x' : Operand} (ho : o.op = .call { callee := .builtin .append, args := #[x, x'], argTypes := #[t, tx] })
    {oo : Own} (hoo : oo = .nilk ∨ oo = .full) {els ys : List (List D)} (hR : R g (a.eval x) (.sl oo wd els)) {news : List Value} (S : Src P wd tx (a.eval x') ys.length news w) (hwy : ∀ el, el ∈ ys → el.length = wd)
    (hpy : (ys.all fun el => el.all D.pc) = true) (hny : ∀ (j : Nat) d, ys.flatten[j]? = some d → ∃ u, news[j]? = some u ∧ R g u d) (hfit : (els.length + ys.length) * bs ≤ 140737488355328) (m : Mode) (hm : m = .trk → els = []) :
    Good P (execOp a.eval o) A g w (A.newSl m .any wd (els ++ ys)).2 (A.newSl m .any wd (els ++ ys)).1 := by
  obtain ⟨p, cap, hv, hcap, hown, hsp, hwid, hpc, hnone, hsome⟩ := hR.sl_inv
  have hcl : cap = els.length := by
    rcases hoo with rfl | rfl
    · have h : a.eval x = .slice none 0 0 := hown
      rw [hv] at h; simp only [Value.slice.injEq] at h; omega
    · obtain ⟨p', h⟩ : ∃ p', a.eval x = .slice p' els.length els.length := hown
      rw [hv] at h; simp only [Value.slice.injEq] at h; omega
  subst hcl
  have h63 : els.length + ys.length ≤ 9223372036854775807 := by have := Nat.le_mul_of_pos_right (els.length + ys.length) T.bs1; omega
  by_cases hn : ys.length = 0
  · have hy0 : ys = [] := List.eq_nil_of_length_eq_zero hn
    subst hy0
    have hrun := run_append_none (P := P) (ty := o.type) T.ht T.hs S p els.length els.length (Nat.le_refl _)
    rw [← hv] at hrun
    have hex := app_run ho hrun
    simp only [List.append_nil]
    have hRany : R g (a.eval x) (.sl .any wd els) := hR.own trivial
    cases m with
    | any => exact ⟨_, w, g, .inl hex, I, hRany, .refl A g w⟩
    | tok =>
      refine ⟨_, w, _, .inl hex, I.addTok els.length none (fun _ _ _ h => by cases h), ?_, addTok_le _ _ _, Nat.le_refl _, fun _ _ _ => rfl, fun _ _ _ _ => rfl, fun b hb x => ?_, rfl, rfl, rfl⟩
      · have key : OwnR (g.addTok els.length none) (a.eval x) wd els.length (.tok A.toks.length els.length) :=
          ⟨by simp [G.addTok, I.nt], by simp [G.addTok, I.nt], fun _ => .inl ⟨p, hv⟩⟩
        exact (hRany.mono (addTok_le g els.length none)).own key
      · rcases x.addTok with h | ⟨_, _, h⟩
        · exact h
        · cases h
    | trk =>
      have he := hm rfl
      subst he
      obtain ⟨g', I', hR', le, hmu, hO⟩ := newSl_ok0 I p hsp wd .trk (o := .any) (.inl rfl)
      refine ⟨_, w, g', .inl hex, I', by rw [hv]; exact hR', le, Nat.le_refl _, fun _ _ _ => rfl, fun b _ _ o => hmu b o, fun b _ h => hO b h, rfl, rfl, rfl⟩
  · obtain ⟨olds, hol, hold, hro⟩ := old_of I hR hv
    obtain ⟨cap', c, w', hrun, O, hge, hcs, hcc⟩ := run_append_grow (ty := o.type) T.ht T.hz T.hs T.hw T.hb S p els.length els.length (by omega) olds hol hold hfit h63
    rw [← hv] at hrun
    have hfl := flatten_length hwid
    have hall := reads_old (by rw [hol, hfl]) hro hny
    refine good_newSl (n := els.length + ys.length) (cap := cap') (els := els ++ ys) O I (by simp) (app_run ho hrun) (by simpa using hge) hcs (fun el hel => ?_) (fun el hel c hc => ?_) (fun j d hd => ?_) m (.inl rfl)
    · rcases List.mem_append.1 hel with h | h
      · exact hwid el h
      · exact hwy el h
    · rcases List.mem_append.1 hel with h | h
      · exact hpc el h c hc
      · exact List.all_eq_true.1 (List.all_eq_true.1 hpy el h) c hc
    · obtain ⟨u, hu, hRu⟩ := hall j d hd
      exact ⟨u, hcc j u hu, hRu⟩

theorem app_tok (I : Inv g A w) {t tx e wd bs : Nat} {zs : List D} (T : AppT P t tx e wd bs zs) {x x' : Operand} (ho : o.op = .call { callee := .builtin .append, args := #[x, x'], argTypes := #[t, tx] })
    {k en : Nat} (hk : A.toks[k]? = some en) {els ys : List (List D)} (hR : R g (a.eval x) (.sl (.tok k en) wd els)) {news : List Value} (S : Src P wd tx (a.eval x') ys.length news w) (hwy : ∀ el, el ∈ ys → el.length = wd)
    (hpy : (ys.all fun el => el.all D.pc) = true) (hny : ∀ (j : Nat) d, ys.flatten[j]? = some d → ∃ u, news[j]? = some u ∧ R g u d) (hfit : (els.length + ys.length) * bs ≤ 140737488355328) :
    Good P (execOp a.eval o) A g w { A with toks := A.toks.set k (en + ys.length) } (.sl (.tok k (en + ys.length)) wd (els ++ ys)) := by
  obtain ⟨p, cap, hv, hcap, ⟨hkn, hle, hown⟩, hsp, hwid, hpc, hnone, hsome⟩ := hR.sl_inv
  have hfr := I.tok k en hk
  have hown := hown hfr.symm
  have h63 : els.length + ys.length ≤ 9223372036854775807 := by have := Nat.le_mul_of_pos_right (els.length + ys.length) T.bs1; omega
  have hkl : k < A.toks.length := (List.getElem?_eq_some_iff.1 hk).1
  by_cases hn : ys.length = 0
  · have hy0 : ys = [] := List.eq_nil_of_length_eq_zero hn
    subst hy0
    have hrun := run_append_none (P := P) (ty := o.type) T.ht T.hs S p els.length cap hcap
    rw [← hv] at hrun
    have hA : ({ A with toks := A.toks.set k (en + ([] : List (List D)).length) } : St) = A := by
      cases A with | mk bl tk =>
      simp only [St.mk.injEq, true_and, List.length_nil, Nat.add_zero]
      simp only at hk hkl
      rw [← (List.getElem?_eq_some_iff.1 hk).2]; exact List.set_getElem_self _
    rw [hA]
    refine ⟨_, w, g, .inl (app_run ho hrun), I, ?_, .refl A g w⟩
    simpa using hR
  · have hfl := flatten_length hwid
    have hwid2 : ∀ el, el ∈ els ++ ys → el.length = wd := fun el hel => (List.mem_append.1 hel).elim (hwid el) (hwy el)
    have hpc2 : ∀ el, el ∈ els ++ ys → ∀ c, c ∈ el → c.pc = true := fun el hel c hc => (List.mem_append.1 hel).elim (fun h => hpc el h c hc) (fun h => List.all_eq_true.1 (List.all_eq_true.1 hpy el h) c hc)
    have hfl2 := flatten_length hwid2
    by_cases hroom : els.length + ys.length ≤ cap
    · -- in place
      rcases hown with ⟨p', hp⟩ | ⟨b, off, cap', sz, hp, hrho, hlim⟩
      · rw [hv] at hp; simp only [Value.slice.injEq] at hp; omega
      rw [hv] at hp
      simp only [Value.slice.injEq, true_and] at hp
      obtain ⟨rfl, rfl⟩ := hp
      obtain ⟨hbs, hmu0, hrm⟩ := I.rho k b _ sz hkn hrho
      have hmul : (els.length + ys.length) * wd ≤ cap * wd := Nat.mul_le_mul_right wd hroom
      have hmul2 : (els.length + ys.length) * wd = els.length * wd + ys.length * wd := Nat.add_mul _ _ _
      obtain ⟨w', hrun, W⟩ := run_append_some (ty := o.type) T.ht T.hs S b off els.length cap hroom (fun q h1 h2 => hrm q h1 (by omega))
      rw [← hv] at hrun
      have hnl : news.length = ys.length * wd := S.newsLen
      have hownk : Owns g A b := .inr ⟨k, _, sz, hkn, hrho⟩
      have hnl2 : ∀ j, live g A j → (g.m j).1 ≠ b := fun j hj e => I.exm j k _ sz hj hkn (by rw [e]; exact hrho)
      have I1 : Inv g A w' := I.worldAt b W.size W.other (fun q v hm => by
          rw [W.cell, if_neg]
          · exact I.mem _ _ _ hm
          · intro hh; rw [hmu0 q hh.1] at hm; cases hm) (fun j _ _ hl e => absurd e (hnl2 j hl)) (fun k' en' sz' hk' hr' => by
          have : k' = k := I.exr k' k b en' sz' _ sz hk' hkn hr' hrho
          subst this
          rw [hrho] at hr'; simp only [Option.some.injEq, Prod.mk.injEq, true_and] at hr'
          obtain ⟨rfl, rfl⟩ := hr'
          refine ⟨by rw [W.size]; exact hbs, hmu0, fun q h1 h2 => ⟨?_, by rw [W.frozen]; exact (hrm q h1 h2).2⟩⟩
          rw [W.cell]; split
          · exact ⟨_, List.getElem?_eq_getElem (by omega)⟩
          · exact (hrm q h1 h2).1)
      have hlt : g.fr k < en + ys.length := by omega
      have I2 := I1.reTok (k := k) (e := en + ys.length) hkn hlt (some (b, off + (els.length + ys.length) * wd, sz)) (fun b' en' sz' e => by
        simp only [Option.some.injEq, Prod.mk.injEq] at e
        obtain ⟨rfl, rfl, rfl⟩ := e
        obtain ⟨h1, h2, h3⟩ := I1.rho k b _ sz hkn hrho
        exact ⟨.inr ⟨_, _, hrho⟩, h1, fun q hq => h2 q (by omega), fun q hq hq' => h3 q (by omega) hq'⟩)
      have hmu2 : ∀ q, off + els.length * wd ≤ q → q < off + (els.length + ys.length) * wd → (g.reTok k (en + ys.length) (some (b, off + (els.length + ys.length) * wd, sz))).mu b q = none := fun q h1 _ => hmu0 q h1
      have I3 := I2.extTok (b := b) (lo := off + els.length * wd) (hi := off + (els.length + ys.length) * wd) (fun j hj => hnl2 j hj) (fun k' en' sz' hk' hr' => by
        by_cases ek : k' = k
        · subst ek; simp only [G.reTok, upd_same, Option.some.injEq, Prod.mk.injEq] at hr'; omega
        · simp only [G.reTok, upd_ne _ _ ek] at hr' hk'
          exact absurd (I.exr k' k b en' sz' _ sz hk' hkn hr' hrho) ek) hmu2
      have le2 := reTok_le (g := g) hlt (some (b, off + (els.length + ys.length) * wd, sz))
      have le3 := ext_le (g := g.reTok k (en + ys.length) (some (b, off + (els.length + ys.length) * wd, sz))) w' hmu2
      have le := le2.trans le3
      refine ⟨_, w', _, .inl (app_run ho hrun), I3, ?_, le, Nat.le_of_eq W.size.symm, fun b' hb' hno => W.other b' (fun e => hno (by rw [e]; exact hownk)), fun b' hb' hno q => ?_, fun b' hb' hO => ?_, W.os, W.tape, W.out⟩
      · have hlen : (els ++ ys).length = els.length + ys.length := by simp
        suffices hsuf : R ((g.reTok k (en + ys.length) (some (b, off + (els.length + ys.length) * wd, sz))).ext w' b (off + els.length * wd) (off + (els.length + ys.length) * wd)) (.slice (some ⟨b, off, none⟩) (els ++ ys).length cap) (.sl (.tok k (en + ys.length)) wd (els ++ ys)) by
          rw [hlen] at hsuf; exact hsuf
        refine .sl b off cap _ wd _ (fun j => (cellAt w' b (off + j)).getD default) (by rw [hlen]; exact hroom) hwid2 hpc2 (fun j hj => ?_) (fun j d hd => ?_) ?_
        · rw [hlen] at hj
          by_cases hj1 : j < els.length * wd
          · have hne : els ≠ [] := by intro e0; rw [e0] at hj1; simp at hj1
            obtain ⟨b2, off2, vs, hpp, hmuv, hrv⟩ := hsome hne
            simp only [Option.some.injEq, Addr.mk.injEq] at hpp
            obtain ⟨rfl, rfl, _⟩ := hpp
            have := hmuv j hj1
            rw [le.mu _ _ _ this, I1.mem _ _ _ this]; rfl
          · simp only [G.ext]
            rw [if_pos (by refine ⟨trivial, ?_, ?_⟩ <;> omega)]
            have hx : ∃ u, cellAt w' b (off + j) = some u := by
              rw [W.cell, if_pos (by omega)]; exact ⟨_, List.getElem?_eq_getElem (by omega)⟩
            obtain ⟨u, hu⟩ := hx
            rw [hu]; rfl
        · have hjl : j < (els.length + ys.length) * wd := by rw [← hlen, ← hfl2]; exact (List.getElem?_eq_some_iff.1 hd).1
          rw [List.flatten_append] at hd
          by_cases hj1 : j < els.length * wd
          · have hne : els ≠ [] := by intro e0; rw [e0] at hj1; simp at hj1
            obtain ⟨b2, off2, vs, hpp, hmuv, hrv⟩ := hsome hne
            simp only [Option.some.injEq, Addr.mk.injEq] at hpp
            obtain ⟨rfl, rfl, _⟩ := hpp
            have := hmuv j hj1
            rw [I1.mem _ _ _ this]
            rw [List.getElem?_append_left (by omega)] at hd
            exact (hrv j d hd).mono le
          · rw [List.getElem?_append_right (by omega), hfl] at hd
            obtain ⟨u, hu, hRu⟩ := hny _ d hd
            rw [W.cell, if_pos (by omega), show off + j - (off + els.length * wd) = j - els.length * wd by omega, hu]
            exact hRu.mono le
        · refine ⟨hkn, ?_, fun _ => .inr ⟨b, off, cap, sz, rfl, ?_, hlim⟩⟩
          · simp only [G.ext, G.reTok, upd_same]; exact Nat.le_refl _
          · simp only [G.ext, G.reTok, upd_same, List.length_append]
      · rw [ext_other _ (fun e => hno (by rw [e]; exact hownk))]
        rfl
      · rcases hO with ⟨j, hj, e⟩ | ⟨k', en', sz', hk', hr'⟩
        · exact .inl ⟨j, hj, e⟩
        · by_cases ek : k' = k
          · subst ek
            simp only [G.ext, G.reTok, upd_same, Option.some.injEq, Prod.mk.injEq] at hr'
            rw [← hr'.1]; exact hownk
          · simp only [G.ext, G.reTok, upd_ne _ _ ek] at hr' hk'
            exact .inr ⟨k', en', sz', hk', hr'⟩
    · -- a new block
      obtain ⟨olds, hol, hold, hro⟩ := old_of I hR hv
      obtain ⟨cap', c, w', hrun, O, hge, hcs, hcc⟩ := run_append_grow (ty := o.type) T.ht T.hz T.hs T.hw T.hb S p els.length cap (by omega) olds hol hold hfit h63
      rw [← hv] at hrun
      have hall := reads_old (by rw [hol, hfl]) hro hny
      have I0 := O.inv I
      have F := O.fresh I (els := els ++ ys) (cap := cap') (by simpa using hge) hcs hwid2 hpc2 (fun j d hd => by obtain ⟨u, hu, hRu⟩ := hall j d hd; exact ⟨u, hcc j u hu, hRu⟩)
      have hlen : (els ++ ys).length = els.length + ys.length := by simp
      have hfree := O.free I
      have hmu1 : ∀ q, 0 ≤ q → q < 0 + (els ++ ys).length * wd → g.mu w.heap.size q = none := fun q h _ => F.mu q h
      have I1 := I0.ext (b := w.heap.size) (lo := 0) (hi := 0 + (els ++ ys).length * wd) hfree hmu1
      have le1 := ext_le (g := g) w' hmu1
      have hlt : (g.ext w' w.heap.size 0 (0 + (els ++ ys).length * wd)).fr k < en + ys.length := by simp only [G.ext]; omega
      have I2 := I1.reTok (k := k) (e := en + ys.length) hkn hlt (some (w.heap.size, (els ++ ys).length * wd, cap' * wd)) (fun b' en' sz' e => by
        simp only [Option.some.injEq, Prod.mk.injEq] at e
        obtain ⟨rfl, rfl, rfl⟩ := e
        refine ⟨.inl hfree, F.lt, fun q hq => ?_, fun q hq hq' => F.room q (by omega) (by omega)⟩
        simp only [G.ext]; rw [if_neg (by omega)]; exact F.mu q (by omega))
      have le2 := reTok_le hlt (some (w.heap.size, (els ++ ys).length * wd, cap' * wd))
      refine ⟨_, w', _, .inl (app_run ho hrun), I2, ?_, O.fr (le1.trans le2) (fun b' hb' q => ext_other w' hb' q) (fun b' hO => ?_)⟩
      · have hRa := (F.toAny (o := .any) (fun _ => trivial)).mono le2
        have key : OwnR ((g.ext w' w.heap.size 0 (0 + (els ++ ys).length * wd)).reTok k (en + ys.length) (some (w.heap.size, (els ++ ys).length * wd, cap' * wd))) (.slice (some ⟨w.heap.size, 0, none⟩) (els ++ ys).length cap') wd (els ++ ys).length (.tok k (en + ys.length)) := by
          refine ⟨hkn, by simp [G.reTok], fun _ => .inr ⟨w.heap.size, 0, cap', cap' * wd, rfl, by simp [G.reTok], by omega⟩⟩
        have hfin := hRa.own key
        rw [show Value.slice (some ⟨w.heap.size, 0, none⟩) (els ++ ys).length cap' = Value.slice (some ⟨w.heap.size, 0, none⟩) (els.length + ys.length) cap' by rw [hlen]] at hfin
        exact hfin
      · rcases hO.reTok with h | ⟨en', sz', h⟩
        · exact .inr h
        · simp only [Option.some.injEq, Prod.mk.injEq] at h; exact .inl h.1.symm

end Ev

namespace Ev
open Go

variable {P : Program} {A : St} {g : G} {w w1 : World} {a : Act} {ρ : List D} {o : Oper}

/-- a tracked block goes on under another number -/
theorem moveBlk (I : Inv g A w) {j : Nat} {cells : List D} (hb : A.blks[j]? = some (.mem false cells)) {w' : World} (hs : w'.heap.size = w.heap.size)
    (h : ∀ b', b' ≠ (g.m j).1 → w'.heap[b']? = w.heap[b']?) (hmu : ∀ o v, g.mu (g.m j).1 o = some v → cellAt w' (g.m j).1 o = some v) (ho : w'.os = w.os) (ht : w'.tape = w.tape) (hu : w'.output = w.output)
    {cells' : List D} (hx : BlkOk (g.addBlk (g.m j)) w' g.nb (.mem false cells')) (hph : (g.m j).2.2 = 0 → w' = w) :
    Inv (g.addBlk (g.m j)) { A with blks := A.blks.set j .dead ++ [.mem false cells'] } w' ∧ Fr A g w { A with blks := A.blks.set j .dead ++ [.mem false cells'] } (g.addBlk (g.m j)) w' := by
  have hn : (A.blks.set j .dead).length = g.nb := by simp [I.nb]
  by_cases hz : (g.m j).2.2 = 0
  · have := hph hz
    subst this
    have I1 := I.drop j
    refine ⟨I1.addBlk (g.m j).1 (g.m j).2.1 (g.m j).2.2 _ (fun h => absurd hz h) hx, addBlk_le _ _, Nat.le_refl _, fun _ _ _ => rfl, fun _ _ _ _ => rfl, fun b _ hO => ?_, rfl, rfl, rfl⟩
    rcases Owns.addBlk (A := { A with blks := A.blks.set j .dead }) hn hO with h | h
    · exact drop_sub h
    · exact absurd hz h.2
  · have hl : live g A j := live_of hz hb (.inl ⟨_, rfl⟩)
    have I1 := I.putBlk hl .dead hs h hmu trivial
    refine ⟨I1.addBlk (g.m j).1 (g.m j).2.1 (g.m j).2.2 _ (fun _ => drop_not I hl) hx, addBlk_le _ _, Nat.le_of_eq hs.symm, fun b _ hno => h b (fun e => hno (.inl ⟨j, hl, e.symm⟩)), fun _ _ _ _ => rfl, fun b _ hO => ?_, ho, ht, hu⟩
    rcases Owns.addBlk (A := { A with blks := A.blks.set j .dead }) hn hO with h | h
    · exact drop_sub h
    · exact .inl ⟨j, hl, h.1.symm⟩

theorem app_loc (I : Inv g A w) {t tx e wd bs : Nat} {zs : List D} (T : AppT P t tx e wd bs zs) (hwd : 0 < wd) {x x' : Operand} (ho : o.op = .call { callee := .builtin .append, args := #[x, x'], argTypes := #[t, tx] })
    {j n : Nat} {cells : List D} (hb : A.blks[j]? = some (.mem false cells)) (hc : cells.length = n * wd) {ys : List (List D)} (hR : R g (a.eval x) (.loc j 0 wd n)) {news : List Value} (S : Src P wd tx (a.eval x') ys.length news w)
    (hwy : ∀ el, el ∈ ys → el.length = wd) (hny : ∀ (j : Nat) d, ys.flatten[j]? = some d → ∃ u, news[j]? = some u ∧ R g u d) (hfit : (n + ys.length) * bs ≤ 140737488355328) :
    Good P (execOp a.eval o) A g w { A with blks := A.blks.set j .dead ++ [.mem false (cells ++ ys.flatten)] } (.loc A.blks.length 0 wd (n + ys.length)) := by
  obtain ⟨hj, hv⟩ := hR.loc_inv
  have h63 : n + ys.length ≤ 9223372036854775807 := by have := Nat.le_mul_of_pos_right (n + ys.length) T.bs1; omega
  have hnb : A.blks.length = g.nb := I.nb
  have le := addBlk_le g (g.m j)
  have em : (g.addBlk (g.m j)).m g.nb = g.m j := by simp [G.addBlk]
  have hB := I.blk j _ hb
  have hfly := flatten_length hwy
  have hR' : R g (a.eval x) (.loc j 0 wd n) := hR
  by_cases hn0 : ys.length = 0
  · -- nothing is appended
    have hy0 : ys = [] := List.eq_nil_of_length_eq_zero hn0
    subst hy0
    have hx : BlkOk (g.addBlk (g.m j)) w g.nb (.mem false (cells ++ ([] : List (List D)).flatten)) := by
      simp only [List.flatten_nil, List.append_nil]
      have := hB.mono le hj (fun _ _ _ => rfl)
      unfold BlkOk at this ⊢
      rw [le.m j hj] at this
      rw [em]; exact this
    obtain ⟨I', F⟩ := moveBlk I hb rfl (fun _ _ => rfl) (fun o v hm => I.mem _ _ _ hm) rfl rfl rfl hx (fun _ => rfl)
    have hrun : (Builtin.append_ #[t, tx] o.type #[a.eval x, a.eval x']).run P w = .ok (a.eval x) w := by
      rcases hv with ⟨cap, hv, hcap, _⟩ | ⟨p, hv, rfl, _⟩
      · rw [hv]; exact run_append_none (ty := o.type) T.ht T.hs S _ n cap hcap
      · rw [hv]; exact run_append_none (ty := o.type) T.ht T.hs S _ 0 0 (Nat.le_refl _)
    refine ⟨_, w, _, .inl (app_run ho hrun), I', ?_, F⟩
    simp only [List.length_nil, Nat.add_zero]
    rcases hv with ⟨cap, hv, hcap, hl⟩ | ⟨p, hv, rfl, hsp⟩
    · rw [hv, hnb]
      have := R.loc (g := g.addBlk (g.m j)) g.nb 0 wd n cap (by simp [G.addBlk]) hcap (by rw [em]; exact hl)
      rw [em] at this; exact this
    · rw [hv, hnb]; exact .loc0 p _ 0 wd (by simp [G.addBlk]) hsp
  · have grow : ∀ {p : Option Addr} {cap : Nat}, a.eval x = .slice p n cap → cap < n + ys.length → (∃ olds : List Value, olds.length = n * wd ∧ (Builtin.firstCells wd n (.slice p n cap)).run P w.drew = .ok olds.toArray w.drew ∧ ∀ (i : Nat) d, cells[i]? = some d → ∃ u, olds[i]? = some u ∧ R g u d) →
        Good P (execOp a.eval o) A g w { A with blks := A.blks.set j .dead ++ [.mem false (cells ++ ys.flatten)] } (.loc A.blks.length 0 wd (n + ys.length)) := by
      intro p cap hv hcap ⟨olds, hol, hold, hro⟩
      obtain ⟨cap', c, w', hrun, O, hge, hcs, hcc⟩ := run_append_grow (ty := o.type) T.ht T.hz T.hs T.hw T.hb S p n cap hcap olds hol hold hfit h63
      rw [← hv] at hrun
      have I1 := O.inv (I.drop j)
      have hx : BlkOk (g.addBlk (w.heap.size, 0, cap' * wd)) w' g.nb (.mem false (cells ++ ys.flatten)) := by
        have e1 : (g.addBlk (w.heap.size, 0, cap' * wd)).m g.nb = (w.heap.size, 0, cap' * wd) := by simp [G.addBlk]
        refine .inr ?_
        rw [e1]
        have hpos : 0 < cap' * wd := Nat.mul_pos (by omega) hwd
        have hmul := Nat.mul_le_mul_right wd hge
        refine ⟨by simp only; omega, by rw [O.size]; simp, ?_, fun q _ => O.mu I q, fun q _ hq => ⟨?_, O.frozen (by rw [hcs]; exact hq)⟩, fun i d hd => ?_⟩
        · simp only [List.length_append, hc, hfly, Nat.zero_add]; rw [← Nat.add_mul]; exact hmul
        · rw [O.cell]; exact ⟨_, Array.getElem?_eq_getElem (by rw [hcs]; exact hq)⟩
        · simp only [Nat.zero_add]
          rw [O.cell]
          have : ∃ u, (olds ++ news)[i]? = some u ∧ R g u d := by
            by_cases hi : i < cells.length
            · rw [List.getElem?_append_left hi] at hd
              rw [List.getElem?_append_left (by omega)]
              exact hro i d hd
            · rw [List.getElem?_append_right (by omega)] at hd
              rw [List.getElem?_append_right (by omega), hol, ← hc]
              exact hny _ d hd
          obtain ⟨u, hu, hRu⟩ := this
          exact ⟨u, hcc i u hu, hRu.mono (addBlk_le _ _)⟩
      have hfree : ¬ Owns g { A with blks := A.blks.set j .dead } w.heap.size := fun h => O.free I (drop_sub h)
      have I2 := I1.addBlk w.heap.size 0 (cap' * wd) _ (fun _ => hfree) hx
      refine ⟨_, w', _, .inl (app_run ho hrun), I2, ?_, O.fr (addBlk_le _ _) (fun _ _ _ => rfl) (fun b' hO => ?_)⟩
      · rw [hnb]
        have e1 : (g.addBlk (w.heap.size, 0, cap' * wd)).m g.nb = (w.heap.size, 0, cap' * wd) := by simp [G.addBlk]
        have := R.loc (g := g.addBlk (w.heap.size, 0, cap' * wd)) g.nb 0 wd (n + ys.length) cap' (by simp [G.addBlk]) hge (by rw [e1]; simp)
        rw [e1] at this; exact this
      · rcases Owns.addBlk (A := { A with blks := A.blks.set j .dead }) (by simp [I.nb]) hO with h | h
        · exact .inr (drop_sub h)
        · exact .inl h.1
    rcases hv with ⟨cap, hv, hcap, hlim⟩ | ⟨p, hv, rfl, hsp⟩
    · by_cases hroom : n + ys.length ≤ cap
      · -- in place
        have hcapw : n * wd + ys.length * wd ≤ cap * wd := by rw [← Nat.add_mul]; exact Nat.mul_le_mul_right wd hroom
        have hyw : 0 < ys.length * wd := Nat.mul_pos (by omega) hwd
        rcases hB with ⟨h0, _⟩ | ⟨h0, h1, h2, h3, h4, h5⟩
        · omega
        simp only [Nat.add_zero] at hv hlim
        obtain ⟨w', hrun, W⟩ := run_append_some (ty := o.type) T.ht T.hs S (g.m j).1 (g.m j).2.1 n cap hroom (fun q q1 q2 => h4 q (by omega) (by omega))
        rw [← hv] at hrun
        have hnl : news.length = ys.length * wd := S.newsLen
        have hx : BlkOk (g.addBlk (g.m j)) w' g.nb (.mem false (cells ++ ys.flatten)) := by
          refine .inr ?_
          rw [em]
          refine ⟨h0, by rw [W.size]; exact h1, by simp only [List.length_append, hc, hfly]; omega, h3, fun q q1 q2 => ⟨?_, by rw [W.frozen]; exact (h4 q q1 q2).2⟩, fun i d hd => ?_⟩
          · rw [W.cell]; split
            · exact ⟨_, List.getElem?_eq_getElem (by omega)⟩
            · exact (h4 q q1 q2).1
          · rw [W.cell]
            by_cases hi : i < cells.length
            · rw [if_neg (by omega)]
              rw [List.getElem?_append_left hi] at hd
              obtain ⟨u, hu, hRu⟩ := h5 i d hd
              exact ⟨u, hu, hRu.mono le⟩
            · rw [List.getElem?_append_right (by omega)] at hd
              have hil : i - cells.length < ys.flatten.length := (List.getElem?_eq_some_iff.1 hd).1
              obtain ⟨u, hu, hRu⟩ := hny _ d hd
              rw [if_pos (by omega), show (g.m j).2.1 + i - ((g.m j).2.1 + n * wd) = i - cells.length by omega]
              exact ⟨u, hu, hRu.mono le⟩
        obtain ⟨I', F⟩ := moveBlk I hb W.size W.other (fun q v hm => by
          rw [W.cell, if_neg]
          · exact I.mem _ _ _ hm
          · intro hh; rw [h3 q (by omega)] at hm; cases hm) W.os W.tape W.out hx (fun h => absurd h h0)
        refine ⟨_, w', _, .inl (app_run ho hrun), I', ?_, F⟩
        rw [hnb]
        have := R.loc (g := g.addBlk (g.m j)) g.nb 0 wd (n + ys.length) cap (by simp [G.addBlk]) hroom (by rw [em]; exact hlim)
        rw [em] at this; exact this
      · refine grow hv (by omega) ?_
        have hrd := reads_blk I hb
        have hget : ∀ i, i < n * wd → ∃ u, cellAt w (g.m j).1 ((g.m j).2.1 + i) = some u ∧ ∀ d, cells[i]? = some d → R g u d := fun i hi => by
          obtain ⟨u, hu, hRu⟩ := hrd i _ (List.getElem?_eq_getElem (by omega))
          exact ⟨u, hu, fun d hd => by rw [List.getElem?_eq_getElem (by omega)] at hd; cases hd; exact hRu⟩
        refine ⟨(List.range (n * wd)).map fun i => (cellAt w (g.m j).1 ((g.m j).2.1 + i)).getD default, by simp, ?_, fun i d hd => ?_⟩
        · refine run_firstCells_some w.drew wd n _ _ _ _ (by simp) (fun i u hu => ?_)
          have hi : i < n * wd := by have := (List.getElem?_eq_some_iff.1 hu).1; simpa using this
          obtain ⟨u', hu', _⟩ := hget i hi
          simp only [List.getElem?_map, List.getElem?_range hi, Option.map_some, Option.some.injEq, hu', Option.getD_some] at hu
          rw [add_none, World.cell?_drew, Nat.add_zero, ← hu]; exact hu'
        · have hi : i < n * wd := by rw [← hc]; exact (List.getElem?_eq_some_iff.1 hd).1
          obtain ⟨u', hu', hRu⟩ := hget i hi
          exact ⟨u', by simp [List.getElem?_range hi, hu'], hRu d hd⟩
    · refine grow hv (by omega) ⟨[], by simp, ?_, fun i d hd => ?_⟩
      · cases p with
        | none => simp [Builtin.firstCells]
        | some ad => simp [Builtin.firstCells, loadCells, loadCellsFrom]
      · have := (List.getElem?_eq_some_iff.1 hd).1; omega

theorem g_app (I : Inv g A w) (E : Env g a.tmps ρ) {t tx e wd bs : Nat} {zs : List D} (T : AppT P t tx e wd bs zs) (hwd : 0 < wd) {m : Mode} {x x' : Operand} {y y' : Opd} (ho : o.op = .call { callee := .builtin .append, args := #[x, x'], argTypes := #[t, tx] })
    (hx : okOpd x y = true) (hx' : okOpd x' y' = true) {st : Bool} (hts : st = true → P.underlying tx = some .string) (htl : st = false → ∃ e, P.underlying tx = some (.slice e)) {d : D} {A' : St}
    (h : appD A st m wd bs (y.ev ρ) (y'.ev ρ) = some (d, A')) : Good P (execOp a.eval o) A g w A' d := by
  have hR := R.of_opd E hx
  have hR' := R.of_opd E hx'
  unfold appD at h
  split at h
  · cases h
  · rename_i ys hys
    split at h
    · rename_i hpy
      obtain ⟨news, S, hwy, hny⟩ := src_of (P := P) I hR' hys hpy hts htl
      split at h
      · rename_i oo w' els ex
        rw [ex] at hR
        split at h
        · rename_i hc
          obtain ⟨rfl, hfit⟩ := hc
          have full : ∀ {o2 : Own} {m2 : Mode}, oo = o2 → o2 = .nilk ∨ o2 = .full → (m2 = .trk → els = []) → A.newSl m2 .any w' (els ++ ys) = (d, A') → Good P (execOp a.eval o) A g w A' d := by
            intro o2 m2 e1 e2 e3 e4
            subst e1
            have := app_full I T ho e2 hR S hwy hpy hny hfit m2 e3
            rw [e4] at this; exact this
          split at h
          · rename_i k en
            split at h
            · rename_i hk
              simp only [Option.some.injEq, Prod.mk.injEq] at h
              obtain ⟨rfl, rfl⟩ := h
              exact app_tok I T ho hk hR S hwy hpy hny hfit
            · cases h
          · split at h
            · rename_i he
              subst he
              simp only [Option.some.injEq] at h
              exact full (m2 := .trk) rfl (.inl rfl) (fun _ => rfl) (by simpa using h)
            · cases h
          · split at h
            · rename_i he
              subst he
              simp only [Option.some.injEq] at h
              exact full (m2 := .trk) rfl (.inr rfl) (fun _ => rfl) (by simpa using h)
            · cases h
          · rename_i m' hm'
            simp only [Option.some.injEq] at h
            exact full rfl (.inl rfl) (fun e => by subst e; exact (hm' rfl).elim) h
          · rename_i m' hm'
            simp only [Option.some.injEq] at h
            exact full rfl (.inr rfl) (fun e => by subst e; exact (hm' rfl).elim) h
          · cases h
        · cases h
      · rename_i j off w' n ex
        rw [ex] at hR
        split at h
        · rename_i cells hb
          split at h
          · rename_i hc
            obtain ⟨rfl, rfl, hc, hfit⟩ := hc
            simp only [Option.some.injEq, Prod.mk.injEq] at h
            obtain ⟨rfl, rfl⟩ := h
            exact app_loc I T hwd ho hb hc hR S hwy hny hfit
          · cases h
        · cases h
      · cases h
    · cases h

end Ev

namespace Ev
open Go

variable {P : Program} {A : St} {g : G} {w w1 : World} {a : Act} {ρ : List D} {o : Oper}

theorem putCells_get {cells mid : List D} {off n : Nat} (hm : mid.length = n) (hl : off + n ≤ cells.length) {i : Nat} {d : D} (hd : (cells.take off ++ mid ++ cells.drop (off + n))[i]? = some d) :
    (off ≤ i ∧ i < off + n ∧ mid[i - off]? = some d) ∨ (¬ (off ≤ i ∧ i < off + n) ∧ cells[i]? = some d) := by
  by_cases i1 : i < off
  · rw [List.append_assoc, List.getElem?_append_left (by simp; omega), List.getElem?_take, if_pos i1] at hd
    exact .inr ⟨by omega, hd⟩
  · by_cases i2 : i < off + n
    · rw [List.append_assoc, List.getElem?_append_right (by simp; omega), List.getElem?_append_left (by simp; omega)] at hd
      simp only [List.length_take, Nat.min_eq_left (show off ≤ cells.length by omega)] at hd
      exact .inl ⟨by omega, i2, hd⟩
    · rw [List.append_assoc, List.getElem?_append_right (by simp; omega), List.getElem?_append_right (by simp; omega), List.getElem?_drop] at hd
      simp only [List.length_take, Nat.min_eq_left (show off ≤ cells.length by omega), hm] at hd
      rw [show off + n + (i - off - n) = i by omega] at hd
      exact .inr ⟨by omega, hd⟩

theorem g_copy (I : Inv g A w) (E : Env g a.tmps ρ) {t tx e ex wd : Nat} {x x' : Operand} {y y' : Opd} (ho : o.op = .call { callee := .builtin .copy, args := #[x, x'], argTypes := #[t, tx] })
    (hx : okOpd x y = true) (hx' : okOpd x' y' = true) (ht : P.underlying t = some (.slice e)) (hs : sizeT P e wd = true) {d : D} {A' : St}
    (h : copyD A wd (y.ev ρ) (y'.ev ρ) = some (d, A')) : Good P (execOp a.eval o) A g w A' d := by
  have hR := R.of_opd E hx
  have hR' := R.of_opd E hx'
  unfold copyD at h
  split at h
  · rename_i j off w' n oo w2 ys ex ey
    rw [ex] at hR; rw [ey] at hR'
    split at h
    · rename_i cells hb
      split at h
      · rename_i hc
        obtain ⟨e1, e2, hlen, hn, hw⟩ := hc
        subst e1
        subst e2
        simp only [Option.some.injEq, Prod.mk.injEq] at h
        obtain ⟨rfl, rfl⟩ := h
        obtain ⟨hj, hv⟩ := hR.loc_inv
        rcases hv with ⟨cap, hv, hcap, hlim⟩ | ⟨p, hv, hn0, _⟩
        case inr => omega
        obtain ⟨p, cap', hv', _, _, hsp, hwid, hpc, hnone, hsome⟩ := hR'.sl_inv
        have hmulc : (min ys.length n) * w2 ≤ n * w2 := Nat.mul_le_mul_right w2 (Nat.min_le_right _ _)
        have hpos : 0 < n * w2 := Nat.mul_pos hn hw
        have hwid' : ∀ el, el ∈ ys.take (min ys.length n) → el.length = w2 := fun el h => hwid el (List.mem_of_mem_take h)
        have hfl := flatten_length hwid'
        have hfl2 := flatten_length hwid
        have hlt : (ys.take (min ys.length n)).length = min ys.length n := by rw [List.length_take]; exact Nat.min_eq_left (Nat.min_le_left _ _)
        rw [hlt] at hfl
        obtain ⟨cs, hcs, hrun1, hcr⟩ : ∃ cs : List Value, cs.length = (min ys.length n) * w2 ∧ (Builtin.firstCells w2 (min ys.length n) (a.eval x')).run P w = .ok cs.toArray w ∧
            ∀ (i : Nat) d, (ys.take (min ys.length n)).flatten[i]? = some d → ∃ u, cs[i]? = some u ∧ R g u d ∧ d.pc = true := by
          by_cases he : ys = []
          · subst he
            refine ⟨[], by simp, ?_, fun i d h => by simp at h⟩
            rw [hv']; cases p <;> simp [Builtin.firstCells, loadCells, loadCellsFrom]
          · obtain ⟨b, off2, vs, rfl, hmu, hr⟩ := hsome he
            have hmul2 : (min ys.length n) * w2 ≤ ys.length * w2 := Nat.mul_le_mul_right w2 (Nat.min_le_left _ _)
            refine ⟨(List.range ((min ys.length n) * w2)).map vs, by simp, ?_, fun i d hd => ?_⟩
            · rw [hv']
              refine run_firstCells_some w w2 (min ys.length n) _ _ _ _ (by simp) (fun q u hu => ?_)
              have hq : q < (min ys.length n) * w2 := by have := (List.getElem?_eq_some_iff.1 hu).1; simpa using this
              simp only [List.getElem?_map, List.getElem?_range hq, Option.map_some, Option.some.injEq] at hu
              rw [add_none, ← hu]; exact I.mem _ _ _ (hmu q (by omega))
            · have hi : i < (min ys.length n) * w2 := by rw [← hfl]; exact (List.getElem?_eq_some_iff.1 hd).1
              rw [flatten_take hwid, List.getElem?_take, if_pos hi] at hd
              refine ⟨vs i, by simp [List.getElem?_range hi], hr i d hd, ?_⟩
              obtain ⟨el, hel, hd'⟩ := List.mem_flatten.1 (List.mem_of_getElem? hd)
              exact hpc el hel d hd'
        have hB := I.blk j _ hb
        rcases hB with ⟨h0, hcz⟩ | ⟨h0, h1, h2, h3, h4, h5⟩
        · rw [hcz] at hlen; simp at hlen; omega
        have hl : live g A j := live_of h0 hb (.inl ⟨_, rfl⟩)
        obtain ⟨w'', hrun, W⟩ := run_storeCells P (g.m j).1 ((g.m j).2.1 + off) cs 0 w (fun k hk => by
          refine h4 _ (by omega) ?_; rw [hcs] at hk; omega) (fun v hvm => by
          obtain ⟨i, hi, rfl⟩ := List.getElem_of_mem hvm
          have hi' : i < (ys.take (min ys.length n)).flatten.length := by omega
          obtain ⟨u, hu, hRu, hp⟩ := hcr i _ (List.getElem?_eq_getElem hi')
          rw [List.getElem?_eq_getElem hi] at hu; cases hu
          exact hRu.oneCell (pc_pc0 hp))
        simp only [Nat.add_zero] at W
        refine ⟨.int .i64 (min ys.length n : Nat), w'', g, .inl ?_, ?_, .int _ _, ?_⟩
        · rw [exec_builtin ho]
          have hlo : (Builtin.lenOf (a.eval x')).run P w = .ok ys.length w := by rw [hv']; rfl
          have hmin : Nat.min ys.length n = min ys.length n := rfl
          simp only [List.map_toArray, List.map_cons, List.map_nil, builtin, Builtin.copy_, hv, Sem.run_bind, run_und ht, Result.andThen_ok, Sem.run_pure, run_sizeT hs, List.getElem?_toArray, List.getElem?_cons_zero, List.getElem?_cons_succ, hlo, hmin, hrun1, hrun, goInt]
        · refine I.putBlk hl _ W.size W.other (fun q v hm => ?_) (.inr ⟨h0, by rw [W.size]; exact h1, ?_, h3, fun q q1 q2 => ⟨?_, by rw [W.frozen]; exact (h4 q q1 q2).2⟩, fun i d hd => ?_⟩)
          · rw [W.cell, if_neg]
            · exact I.mem _ _ _ hm
            · intro hh; rw [h3 q (by omega)] at hm; cases hm
          · simp only [List.length_append, List.length_take, List.length_drop, hfl]; omega
          · rw [W.cell]; split
            · exact ⟨_, List.getElem?_eq_getElem (by omega)⟩
            · exact (h4 q q1 q2).1
          · rcases putCells_get hfl (by omega) hd with ⟨i1, i2, hd⟩ | ⟨i1, hd⟩
            · obtain ⟨u, hu, hRu, _⟩ := hcr _ d hd
              exact ⟨u, by rw [W.cell, if_pos (by omega), show (g.m j).2.1 + i - ((g.m j).2.1 + off) = i - off by omega]; exact hu, hRu⟩
            · obtain ⟨u, hu, hRu⟩ := h5 i d hd
              exact ⟨u, by rw [W.cell, if_neg (by omega)]; exact hu, hRu⟩
        · exact ⟨.refl g, Nat.le_of_eq W.size.symm, fun b _ hno => W.other b (fun e => hno (.inl ⟨j, hl, e.symm⟩)), fun _ _ _ _ => rfl, fun b _ hO => hO.set hl, W.os, W.tape, W.out⟩
      · cases h
    · cases h
  · cases h

-- ------------------------------------------------------------------ conversions
theorem conv_run {s t : Nat} {x : Operand} (ho : o.op = .convert s t x) {v : Value} {w' : World} (h : (convert s t (a.eval x)).run P w = .ok v w') : (execOp a.eval o).run P w = .ok (.value v) w' := by
  simp only [execOp, ho, Sem.run_bind, h, Result.andThen_ok]; rfl

theorem cv_int {s t : Nat} {k : IntKind} (hs : (P.underlying s).isSome = true) (ht : P.underlying t = some (.int k)) (k' : IntKind) (n : Int) : (convert s t (.int k' n)).run P w = .ok (.int k (k.wrap n)) w := by
  obtain ⟨d, hd⟩ := Option.isSome_iff_exists.mp hs
  simp [convert, run_und hd, run_und ht, Conv.intToInt]

theorem cv_str {s t : Nat} (hs : (P.underlying s).isSome = true) (ht : P.underlying t = some .string) (b : ByteArray) : (convert s t (.string b)).run P w = .ok (.string b) w := by
  obtain ⟨d, hd⟩ := Option.isSome_iff_exists.mp hs
  simp [convert, run_und hd, run_und ht]

def cvT (P : Program) (s t : Nat) (zs : List D) : Cv → Bool
  | .toInt k => (P.underlying s).isSome && intT P t k
  | .same => (P.underlying s).isSome && (match P.underlying t with | some .string => true | _ => false)
  | .bytes => (match P.underlying s, P.underlying t with | some .string, some (.slice e) => intT P e .u8 | _, _ => false)
  | .ofBytes => (match P.underlying s, P.underlying t with | some (.slice e), some .string => intT P e .u8 | _, _ => false)
  | .ofRune => (P.underlying s).isSome && (match P.underlying t with | some .string => true | _ => false)

theorem intT_eq {t : Nat} {k : IntKind} (h : intT P t k = true) : P.underlying t = some (.int k) := by
  unfold intT at h
  split at h
  · rename_i k' hk; simp at h; subst h; exact hk
  · cases h

theorem unByte_spec : ∀ {els : List (List D)} {l : List UInt8}, els.mapM unByte = some l → els.length = l.length ∧ ∀ i, i < l.length → ∃ n, els[i]? = some [D.int .u8 n] ∧ l[i]? = some (UInt8.ofNat n.toNat)
  | [], l, h => by simp at h; subst h; exact ⟨rfl, fun i h => by simp at h⟩
  | el :: r, l, h => by
    rw [List.mapM_cons] at h
    simp only [bind, Option.bind_eq_some_iff, pure, Option.some.injEq] at h
    obtain ⟨b, hb, l', hl', rfl⟩ := h
    obtain ⟨h1, h2⟩ := unByte_spec hl'
    refine ⟨by simp [h1], fun i hi => ?_⟩
    cases i with
    | zero =>
      unfold unByte at hb
      split at hb
      · rename_i n; cases hb; exact ⟨n, rfl, rfl⟩
      · cases hb
    | succ i => simp at hi ⊢; exact h2 i hi

/-- a slice's cells, one a time -/
theorem slice_reads (I : Inv g A w) {v : Value} {y : D} (hR : R g v y) {els : List (List D)} (h : A.els 1 y = some els) :
    (∃ p c, v = .slice p 0 c ∧ els = []) ∨ ∃ b o' c, v = .slice (some ⟨b, o', none⟩) els.length c ∧ Reads g w b o' els.flatten := by
  unfold St.els at h
  split at h
  · rename_i oo w' els'
    split at h
    · rename_i hw
      cases h
      obtain ⟨p, cap, hv, _, _, _, hwid, _, _, hsome⟩ := hR.sl_inv
      by_cases he : els = []
      · subst he; exact .inl ⟨p, cap, hv, rfl⟩
      · obtain ⟨b, off, vs, rfl, hmu, hr⟩ := hsome he
        refine .inr ⟨b, off, cap, hv, fun j d hd => ⟨vs j, I.mem _ _ _ (hmu j ?_), hr j d hd⟩⟩
        rw [← flatten_length hwid]; exact (List.getElem?_eq_some_iff.1 hd).1
    · cases h
  · rename_i j off w' n
    split at h
    · rename_i hw
      subst hw
      obtain ⟨hj, hv⟩ := hR.loc_inv
      split at h
      · rename_i f cells hb
        split at h
        · rename_i hl
          cases h
          have hlen := chunks_length 1 n ((cells.drop off).map D.er)
          rcases hv with ⟨cap, hv, _⟩ | ⟨p, hv, rfl, _⟩
          · refine .inr ⟨(g.m j).1, (g.m j).2.1 + off, cap, by rw [hlen]; exact hv, ?_⟩
            rw [chunks_flatten]
            exact (((reads_blk I hb).drop off).map_er).take _
          · exact .inl ⟨p, 0, hv, rfl⟩
        · cases h
      · split at h
        · rename_i hn
          cases h; subst hn
          rcases hv with ⟨cap, hv, _⟩ | ⟨p, hv, _, _⟩
          · exact .inl ⟨_, cap, hv, rfl⟩
          · exact .inl ⟨p, 0, hv, rfl⟩
        · cases h
    · cases h
  · cases h

theorem flatten_one {els : List (List D)} {i : Nat} {d : D} (h1 : ∀ el, el ∈ els → el.length = 1) (h : els[i]? = some [d]) : els.flatten[i]? = some d := by
  have := flatten_take_drop h1 h 0 (by omega)
  simpa using this

theorem g_cv (I : Inv g A w) (E : Env g a.tmps ρ) {s t : Nat} {m : Mode} {c : Cv} {x : Operand} {y : Opd} (ho : o.op = .convert s t x) (hx : okOpd x y = true) (hc : cvT P s t [] c = true) {d : D} {A' : St}
    (h : cvD A m c (y.ev ρ) = some (d, A')) : Good P (execOp a.eval o) A g w A' d := by
  have hR := R.of_opd E hx
  unfold cvD at h
  split at h
  · rename_i k k' n e
    rw [e] at hR; cases h
    simp only [cvT, Bool.and_eq_true] at hc
    exact .same I (conv_run ho (by rw [hR.int_inv]; exact cv_int hc.1 (intT_eq hc.2) k' n)) (.int _ _)
  · rename_i l e
    rw [e] at hR; cases h
    simp only [cvT, Bool.and_eq_true] at hc
    have ht : P.underlying t = some .string := by have := hc.2; split at this <;> first | assumption | cases this
    exact .same I (conv_run ho (by rw [hR.str_inv]; exact cv_str hc.1 ht _)) (.str _)
  · rename_i l e
    rw [e] at hR
    simp only [Option.some.injEq] at h
    simp only [cvT] at hc
    split at hc
    · rename_i e' hs ht
      have he := intT_eq hc
      have hrun := run_bytes_of_string (P := P) w s t e' ⟨l.toArray⟩ hs ht he
      have hge := grownCap_ge w (ByteArray.size ⟨l.toArray⟩) 0 e'
      have hsz : (ByteArray.mk l.toArray).size = l.length := by simp [ByteArray.size]
      rw [hsz] at hge hrun
      have hex : (execOp a.eval o).run P w = _ := conv_run (a := a) ho (by rw [hR.str_inv]; exact hrun)
      have O : OneMore w (bytesRow ⟨l.toArray⟩ (grownCap w l.length 0 e')) (w.drew.alloc (.cells (bytesRow ⟨l.toArray⟩ (grownCap w l.length 0 e')) e' ((bytesRow ⟨l.toArray⟩ (grownCap w l.length 0 e')).size, (bytesRow ⟨l.toArray⟩ (grownCap w l.length 0 e')).size + 1))) :=
        ⟨⟨_, _, rfl, fun q hq hh => by simp only at hh; omega⟩, rfl, rfl, rfl⟩
      have hcsz : (bytesRow ⟨l.toArray⟩ (grownCap w l.length 0 e')).size = grownCap w l.length 0 e' * 1 := by
        simp [bytesRow, hsz]; omega
      have := good_newSl O I (s := execOp a.eval o) (n := l.length) (cap := grownCap w l.length 0 e') (wd := 1) (els := bytesD l) (by simp [bytesD]) hex (by simpa [bytesD] using hge) hcsz (fun el hel => by obtain ⟨b, _, rfl⟩ := List.mem_map.1 hel; rfl)
        (fun el hel c hcc => by obtain ⟨b, _, rfl⟩ := List.mem_map.1 hel; simp [byteD] at hcc; subst hcc; rfl) (fun j d hd => by
          rw [bytesD_flatten, List.getElem?_map] at hd
          cases hxx : l[j]? with
          | none => rw [hxx] at hd; cases hd
          | some b =>
            rw [hxx] at hd; cases hd
            have hj := (List.getElem?_eq_some_iff.1 hxx).1
            refine ⟨.int .u8 b.toNat, ?_, .int _ _⟩
            simp only [bytesRow]
            rw [Array.getElem?_append_left (by simpa using hj)]
            simp [hxx]) m (.inl rfl)
      rw [h] at this; exact this
    · cases hc
  · rename_i k n e
    rw [e] at hR; cases h
    simp only [cvT, Bool.and_eq_true] at hc
    have ht : P.underlying t = some .string := by have := hc.2; split at this <;> first | assumption | cases this
    have := R.str (g := g) (Utf8.encode n).data.toList
    exact .same I (conv_run ho (by rw [hR.int_inv]; exact run_convert_int_string w s t k n hc.1 ht)) (by simpa using this)
  · rename_i y' _
    split at h
    · rename_i els hels
      split at h
      · rename_i l hl
        cases h
        simp only [cvT] at hc
        split at hc
        · rename_i e' hs ht
          have he := intT_eq hc
          obtain ⟨hlen, hspec⟩ := unByte_spec hl
          have h1 : ∀ el, el ∈ els → el.length = 1 := by
            intro el hel
            obtain ⟨i, hi, rfl⟩ := List.getElem_of_mem hel
            obtain ⟨n, hn, _⟩ := hspec i (by omega)
            rw [List.getElem?_eq_getElem hi] at hn
            have hn2 := Option.some.inj hn
            rw [hn2]; rfl
          rcases slice_reads I hR hels with ⟨p, c', hv, rfl⟩ | ⟨b, o', c', hv, hr⟩
          · have : l = [] := List.eq_nil_of_length_eq_zero (by simpa using hlen.symm)
            subst this
            refine .same (v := .string .empty) I (conv_run ho ?_) (.str [])
            rw [hv, run_convert_bytes_string w s t e' _ _ _ hs he ht]
            cases p with
            | none => simp [Conv.bytesToString]
            | some ad => exact run_bytesToString w ad 0 c' [] (by simp [loadCells, loadCellsFrom])
          · have hns : ∃ ns : List Int, ns.length = els.length ∧ (∀ (i : Nat) (n : Int), els[i]? = some [D.int .u8 n] → ns[i]? = some n) := by
              refine ⟨els.map fun el => match el with | [D.int _ n] => n | _ => 0, by simp, fun i n hi => by simp [hi]⟩
            obtain ⟨ns, hnl, hns⟩ := hns
            have hload : (loadCells ⟨b, o', none⟩ els.length).run P w = .ok (ns.map (Value.int .u8)).toArray w := by
              have := run_loadCells_list (P := P) w ⟨b, o', none⟩ (ns.map (Value.int .u8)) (fun j v hj => by
                have hjl : j < els.length := by have := (List.getElem?_eq_some_iff.1 hj).1; simp at this; omega
                obtain ⟨n, hn, _⟩ := hspec j (by omega)
                obtain ⟨u, hu, hRu⟩ := hr j _ (flatten_one h1 hn)
                simp only [List.getElem?_map, hns j n hn, Option.map_some, Option.some.injEq] at hj
                subst hj
                rw [hRu.int_inv] at hu
                rw [add_none]; exact hu)
              simpa [hnl] using this
            refine .same (v := .string ⟨l.toArray⟩) I (conv_run ho ?_) (.str l)
            rw [hv, run_convert_bytes_string w s t e' _ _ _ hs he ht, run_bytesToString w _ _ _ _ hload]
            congr 2
            have hll : l = ns.map fun n => UInt8.ofNat n.toNat := by
              apply List.ext_getElem?
              intro i
              by_cases hi : i < l.length
              · obtain ⟨n, hn, hli⟩ := hspec i hi
                simp [hli, hns i n hn]
              · rw [List.getElem?_eq_none (by omega), List.getElem?_eq_none (by simp; omega)]
            have hfold : ∀ (q : List Int) (r : ByteArray), q.foldl (fun r n => r.push (UInt8.ofNat n.toNat)) r = ⟨r.data ++ (q.map fun n => UInt8.ofNat n.toNat).toArray⟩ := by
              intro q
              induction q with
              | nil => intro r; simp
              | cons n q ih => intro r; rw [List.foldl_cons, ih]; simp [ByteArray.push]
            rw [hfold, hll]
            simp [ByteArray.empty, ByteArray.emptyWithCapacity]
            rfl
        · cases hc
      · cases h
    · cases h
  · cases h

end Ev

namespace Ev
open Go

variable {P : Program} {A : St} {g : G} {w w1 : World} {a : Act} {ρ : List D} {o : Oper}

theorem g_rng (I : Inv g A w) (E : Env g a.tmps ρ) {t : Nat} {x : Operand} {y : Opd} (ho : o.op = .range t x) (hx : okOpd x y = true) (ht : P.underlying t = some .string) {s : List UInt8} (hy : y.ev ρ = .str s) :
    Good P (execOp a.eval o) A g w (A.push (.iter s 0)).2 (A.push (.iter s 0)).1 := by
  have hR := R.of_opd E hx
  rw [hy] at hR
  have hv := hR.str_inv
  have hn : A.blks.length = g.nb := I.nb
  have e : (g.addBlk (w.heap.size, 0, 1)).m g.nb = (w.heap.size, 0, 1) := by simp [G.addBlk]
  have hold : ∀ b, b < w.heap.size → ({ w with heap := w.heap.push (.stringIter ⟨s.toArray⟩ 0) } : World).heap[b]? = w.heap[b]? := fun b hb => by
    rw [Array.getElem?_push]; rw [if_neg (by omega)]
  have hsz : ({ w with heap := w.heap.push (.stringIter ⟨s.toArray⟩ 0) } : World).heap.size = w.heap.size + 1 := by simp
  have I1 : Inv g A { w with heap := w.heap.push (.stringIter ⟨s.toArray⟩ 0) } := I.world (by rw [hsz]; omega) hold
  have hfree : ¬ Owns g A w.heap.size := fun h => by have := h.lt I; omega
  have I2 := I1.addBlk w.heap.size 0 1 (.iter s 0) (fun _ => hfree) (by
    refine ⟨by rw [e], by rw [e]; simp, by rw [e]; simp, fun q => ?_⟩
    rw [e]
    cases hm : g.mu w.heap.size q with
    | none => exact hm
    | some v => have := lt_of_cellAt (I.mem _ _ _ hm); omega)
  refine ⟨.pointer (some ⟨w.heap.size, 0, none⟩), _, _, .inl ?_, I2, ?_, addBlk_le _ _, by rw [hsz]; omega, fun b hb _ => hold b hb, fun _ _ _ _ => rfl, fun b hb hO => ?_, rfl, rfl, rfl⟩
  · simp [execOp, ho, hv, Instr.range, run_und ht]
  · simp only [St.push]
    have := R.ptr (g := g.addBlk (w.heap.size, 0, 1)) A.blks.length 0 (by simp [G.addBlk, hn])
    rw [hn, e] at this; rw [hn]; exact this
  · rcases hO.addBlk hn with h | h
    · exact h
    · have := h.1; simp only at this; omega

theorem g_nxt (I : Inv g A w) (E : Env g a.tmps ρ) {x : Operand} {y : Opd} (ho : o.op = .next x true) (hx : okOpd x y = true) {j : Nat} (hy : y.ev ρ = .ptr j 0) {s : List UInt8} {p : Nat} (hb : A.blks[j]? = some (.iter s p)) :
    (p < s.length → Good P (execOp a.eval o) A g w { A with blks := A.blks.set j (.iter s (p + (Utf8.decode ⟨s.toArray⟩ p).2)) } (.tup [.bool true, .int .i64 p, .int .i32 (Utf8.decode ⟨s.toArray⟩ p).1])) ∧
    (¬ p < s.length → Good P (execOp a.eval o) A g w A (.tup [.bool false])) := by
  have hR := R.of_opd E hx
  rw [hy] at hR
  obtain ⟨hv, hj⟩ := hR.ptr_inv
  have hB := I.blk j _ hb
  obtain ⟨h1, h0, h2, h3⟩ := hB
  have hl : live g A j := live_of h0 hb (.inr ⟨_, _, rfl⟩)
  rw [h1] at hv
  have hsz : (ByteArray.mk s.toArray).size = s.length := by simp [ByteArray.size]
  have hget : (getObj (g.m j).1).run P w = .ok (.stringIter ⟨s.toArray⟩ p) w := by simp [getObj, Sem.run, h2]
  have three : ∀ {ds : List D} {vs : Array Value}, vs.size = ds.length → (∀ (i : Nat) v d, vs[i]? = some v → ds[i]? = some d → R g v d) → R g (.tuple vs) (.tup ds) := fun a b => .tup _ _ a b
  refine ⟨fun hp => ?_, fun hp => ?_⟩
  · have hset : (setObj (g.m j).1 (.stringIter ⟨s.toArray⟩ (p + (Utf8.decode ⟨s.toArray⟩ p).2))).run P w = .ok () { w with heap := w.heap.setIfInBounds (g.m j).1 (.stringIter ⟨s.toArray⟩ (p + (Utf8.decode ⟨s.toArray⟩ p).2)) } := by
      simp [setObj, Sem.run, h2]
    have hlt := (Array.getElem?_eq_some_iff.1 h2).1
    refine ⟨.tuple #[.bool true, .int .i64 p, .int .i32 (Utf8.decode ⟨s.toArray⟩ p).1], { w with heap := w.heap.setIfInBounds (g.m j).1 (.stringIter ⟨s.toArray⟩ (p + (Utf8.decode ⟨s.toArray⟩ p).2)) }, g, .inl ?_, ?_, ?_, .refl g, by simp, fun b hb' hno => ?_, fun _ _ _ _ => rfl, fun b _ hO => hO.set hl, rfl, rfl, rfl⟩
    · simp only [execOp, ho, hv, Instr.next, Sem.run_bind, Nat.add_zero, hget, Result.andThen_ok]
      rw [if_pos (by rw [hsz]; exact hp)]
      simp only [Sem.run_bind, hset, Result.andThen_ok]
      rfl
    · refine I.putBlk hl _ (by simp) (fun b' hb' => ?_) (fun q v hm => by rw [h3 q] at hm; cases hm) ⟨h1, h0, ?_, h3⟩
      · exact Array.getElem?_setIfInBounds_ne (fun e => hb' e.symm)
      · exact Array.getElem?_setIfInBounds_self_of_lt hlt
    · refine three rfl (fun i v d hv hd => ?_)
      match i, hv, hd with
      | 0, hv, hd => simp at hv hd; subst hv; subst hd; exact .bool _
      | 1, hv, hd => simp at hv hd; subst hv; subst hd; exact .int _ _
      | 2, hv, hd => simp at hv hd; subst hv; subst hd; exact .int _ _
      | i + 3, hv, hd => simp at hd
    · exact Array.getElem?_setIfInBounds_ne (fun e => hno (.inl ⟨j, hl, e⟩))
  · refine .same (v := .tuple #[.bool false]) I ?_ (three rfl (fun i v d hv hd => ?_))
    · simp only [execOp, ho, hv, Instr.next, Sem.run_bind, Nat.add_zero, hget, Result.andThen_ok]
      rw [if_neg (by rw [hsz]; exact hp)]
      rfl
    · match i, hv, hd with
      | 0, hv, hd => simp at hv hd; subst hv; subst hd; exact .bool _
      | i + 1, hv, hd => simp at hd

theorem mm_run (mx : Bool) : ∀ (vs : List Value) (ds : List D) (u : Value) (d0 d : D), R g u d0 → vs.length = ds.length → (∀ (i : Nat) v d, vs[i]? = some v → ds[i]? = some d → R g v d) → mmD mx d0 ds = some d →
    ∃ v, ((vs.foldlM (if mx then Builtin.max2 else Builtin.min2) u : Sem Value)).run P w = .ok v w ∧ R g v d
  | [], [], u, d0, d, h, _, _, hd => by
    cases d0 <;> simp [mmD] at hd
    subst hd; exact ⟨u, by simp, h⟩
  | v :: vs, e :: ds, u, d0, d, h, hl, hr, hd => by
    obtain ⟨k, m, rfl⟩ : ∃ k m, d0 = .int k m := by
      cases d0 with
      | int k m => exact ⟨k, m, rfl⟩
      | _ => simp [mmD] at hd
    obtain ⟨k', n, rfl⟩ : ∃ k m, e = .int k m := by
      cases e with
      | int k m => exact ⟨k, m, rfl⟩
      | _ => simp [mmD] at hd
    simp only [mmD] at hd
    split at hd
    · rename_i hk
      subst hk
      have e1 := h.int_inv
      have e2 := (hr 0 _ _ rfl rfl).int_inv
      subst e1; subst e2
      obtain ⟨x, hx, hRx⟩ := mm_run mx vs ds (.int k (if mx then (if n > m then n else m) else (if n < m then n else m))) _ d (.int _ _) (by simpa using hl) (fun i v d hv hd => hr (i + 1) v d hv hd) hd
      refine ⟨x, ?_, hRx⟩
      rw [List.foldlM_cons]
      cases mx <;> (simp only [Bool.false_eq_true, if_false, if_true, Sem.run_bind, Builtin.max2, Builtin.min2, Sem.run_pure, Result.andThen_ok] at hx ⊢; exact hx)
    · cases hd
  | [], _ :: _, _, _, _, _, h, _, _ => by simp at h
  | _ :: _, [], _, _, _, _, h, _, _ => by simp at h

theorem okOpds_R (E : Env g a.tmps ρ) : ∀ {xs : List Operand} {ys : List Opd}, okOpds xs ys = true → xs.length = ys.length ∧ ∀ (i : Nat) v d, (xs.map a.eval)[i]? = some v → (ys.map (·.ev ρ))[i]? = some d → R g v d
  | [], [], _ => ⟨rfl, fun i v d h _ => by simp at h⟩
  | x :: xs, y :: ys, h => by
    simp only [okOpds, Bool.and_eq_true] at h
    obtain ⟨h1, h2⟩ := okOpds_R E h.2
    refine ⟨by simp [h1], fun i v d hv hd => ?_⟩
    cases i with
    | zero => simp at hv hd; subst hv; subst hd; exact R.of_opd E h.1
    | succ i => simp only [List.map_cons, List.getElem?_cons_succ] at hv hd; exact h2 i v d hv hd
  | [], _ :: _, h => by simp [okOpds] at h
  | _ :: _, [], h => by simp [okOpds] at h

theorem g_mm (I : Inv g A w) (E : Env g a.tmps ρ) {mx : Bool} {args : Array Operand} {ts : Array TypeId} {ys : List Opd} (ho : o.op = .call { callee := .builtin (if mx then .max else .min), args := args, argTypes := ts }) (hx : okOpds args.toList ys = true)
    {d0 d : D} {r : List D} (hy : ys.map (·.ev ρ) = d0 :: r) (h : mmD mx d0 r = some d) : Good P (execOp a.eval o) A g w A d := by
  obtain ⟨hl, hr⟩ := okOpds_R E hx
  have hne : ∃ u vs, args.toList.map a.eval = u :: vs := by
    cases hc : args.toList.map a.eval with
    | nil => have h1 := congrArg List.length hc; have h2 := congrArg List.length hy; rw [List.length_map] at h1 h2; rw [List.length_nil] at h1; rw [List.length_cons] at h2; omega
    | cons u vs => exact ⟨u, vs, rfl⟩
  obtain ⟨u, vs, huv⟩ := hne
  rw [huv, hy] at hr
  have hlen : vs.length = r.length := by have h1 := congrArg List.length huv; have h2 := congrArg List.length hy; rw [List.length_map, List.length_cons] at h1 h2; omega
  obtain ⟨v, hv, hRv⟩ := mm_run (P := P) (w := w) mx vs r u d0 d (hr 0 u d0 rfl rfl) hlen (fun i v d hv hd => hr (i + 1) v d hv hd) h
  refine .same (v := v) I ?_ hRv
  rw [exec_builtin ho]
  have hal : (args.map a.eval).toList = u :: vs := by rw [Array.toList_map, huv]
  cases mx
  · simp only [Bool.false_eq_true, if_false] at hv ⊢
    simp only [builtin, Builtin.min_, hal, Sem.run_bind, hv, Result.andThen_ok]; rfl
  · simp only [if_true] at hv ⊢
    simp only [builtin, Builtin.max_, hal, Sem.run_bind, hv, Result.andThen_ok]; rfl

end Ev

namespace Ev
open Go

variable {P : Program} {A : St} {g : G} {w w1 : World} {a : Act} {ρ : List D} {o : Oper}

def sliceOf (P : Program) (t : TypeId) : Option TypeId := match P.underlying t with | some (.slice e) => some e | _ => none
def arrOf (P : Program) (t : TypeId) : Option (Nat × TypeId) := match P.underlying t with | some (.array n e) => some (n, e) | _ => none
def fieldsOf (P : Program) (t : TypeId) : Option (Array Field) := match P.underlying t with | some (.struct fs) => some fs | _ => none
def isStr (P : Program) (t : TypeId) : Bool := match P.underlying t with | some .string => true | _ => false
def isBool (P : Program) (t : TypeId) : Bool := match P.underlying t with | some .bool => true | _ => false
def isPtr (P : Program) (t : TypeId) : Bool := match P.underlying t with | some (.pointer _) => true | _ => false
def bytesT (P : Program) (e bs : Nat) : Bool := match P.info? e with | some i => i.bytes == bs | none => false

theorem sliceOf_eq {t e : TypeId} (h : sliceOf P t = some e) : P.underlying t = some (.slice e) := by
  unfold sliceOf at h; split at h <;> simp_all
theorem arrOf_eq {t e : TypeId} {n : Nat} (h : arrOf P t = some (n, e)) : P.underlying t = some (.array n e) := by
  unfold arrOf at h; split at h <;> simp_all
theorem fieldsOf_eq {t : TypeId} {fs : Array Field} (h : fieldsOf P t = some fs) : P.underlying t = some (.struct fs) := by
  unfold fieldsOf at h; split at h <;> simp_all
theorem isStr_eq {t : TypeId} (h : isStr P t = true) : P.underlying t = some .string := by
  unfold isStr at h; split at h <;> simp_all
theorem isBool_eq {t : TypeId} (h : isBool P t = true) : P.underlying t = some .bool := by
  unfold isBool at h; split at h <;> simp_all
theorem isPtr_eq {t : TypeId} (h : isPtr P t = true) : ∃ e, P.underlying t = some (.pointer e) := by
  unfold isPtr at h; split at h <;> simp_all

def nilOpd : Opd → Bool
  | .d (.k (.pointer none)) => true
  | _ => false
def nilSl : Opd → Bool
  | .d (.sl .nilk _ _) => true
  | _ => false

def okIns (P : Program) : Op → Ins → Bool
  | .move x, .mov y => okOpd x y
  | .assign x, .mov y => okOpd x y
  | .nilCheck x, .nilc y => okOpd x y
  | .pick c a b, .pick c' a' b' => okOpd c c' && okOpd a a' && okOpd b b'
  | .alloc t, .alloc zs => zeroT P t zs
  | .box _ x, .box y => okOpd x y
  | .build t ps, .build zs ps' => match fieldsOf P t with
    | some fs => zeroT P t zs && allSized P fs && okFParts P fs ps.toList ps'
    | none => match arrOf P t with
      | some (_, e) => (match P.info? e with | some i => zeroT P t zs && okAParts i.size ps.toList ps' | none => false)
      | none => false
  | .buildSlice t ln ps, .bsl _ wd zs ln' ps' => ln == ln' && (match sliceOf P t with
    | some e => zeroT P e zs && sizeT P e wd && zs.length == wd && decide (0 < wd) && decide (ln * wd ≤ 16777216) && okParts ps.toList ps'
    | none => false)
  | .load t x, .load wd ag y => okOpd x y && aggIs P t ag && (!ag || sizeT P t wd)
  | .store t x v, .store wd y u => okOpd x y && okOpd v u && sizeT P t wd
  | .binOp op _ x x' _, .bin op' y y' => decide (op = op') && okOpd x y && okOpd x' y'
  | .binOp op xt x x' _, .eqb ng y y' => decide (op = if ng then .neq else .eql) && isBool P xt && okOpd x y && okOpd x' y'
  | .binOp op xt x x' _, .eqa n ng y y' => decide (op = if ng then .neq else .eql) && okOpd x y && okOpd x' y' && !(P.eqGuardType P.depth xt) && (match arrOf P xt with
    | some (m, e) => m == n && sizeT P e 1 && anyIntT P e
    | none => false)
  | .binOp op xt x x' _, .eqnil ng y y' => decide (op = if ng then .neq else .eql) && okOpd x y && okOpd x' y' && (isPtr P xt && nilOpd y' || (sliceOf P xt).isSome && nilSl y')
  | .unOp op _ x, .neg op' y => decide (op = op') && okOpd x y
  | .convert s t x, .cv _ c y => okOpd x y && cvT P s t [] c
  | .sliceToArrayPointer t x, .arrp n y => okOpd x y && (match arrOf P t with | some (m, _) => m == n | none => false)
  | .slice t x lo hi none, .slS wd y lo' hi' => okOpd x y && okOpt lo lo' && okOpt hi hi' && (match sliceOf P t with | some e => sizeT P e wd | none => false)
  | .slice t x lo hi none, .slT y lo' hi' => okOpd x y && okOpt lo lo' && okOpt hi hi' && isStr P t
  | .slice t x lo hi none, .slA wd n y lo' hi' => okOpd x y && okOpt lo lo' && okOpt hi hi' && (match arrOf P t with | some (m, e) => m == n && sizeT P e wd | none => false)
  | .fieldAddr s x f, .fadr off y => okOpd x y && fieldT P s f off
  | .indexAddr t x i, .iadrS wd y j => okOpd x y && okOpd i j && (match sliceOf P t with | some e => sizeT P e wd | none => false)
  | .indexAddr t x i, .iadrA wd n y j => okOpd x y && okOpd i j && (match arrOf P t with | some (m, e) => m == n && sizeT P e wd | none => false)
  | .index t x i, .idxT y j => okOpd x y && okOpd i j && isStr P t
  | .extract x i, .ext j y => i == j && okOpd x y
  | .range t x, .rng y => okOpd x y && isStr P t
  | .next x st, .nxt y => st && okOpd x y
  | .makeSlice t l c, .mk _ wd bs zs y => okOpd l y && okOpd c y && (match sliceOf P t with
    | some e => zeroT P e zs && sizeT P e wd && zs.length == wd && decide (0 < wd) && bytesT P e bs
    | none => false)
  | .call ⟨.builtin .len, ⟨[x]⟩, ⟨[t]⟩⟩, .len y => okOpd x y && (sliceOf P t).isSome
  | .call ⟨.builtin .len, ⟨[x]⟩, ⟨[t]⟩⟩, .lenT y => okOpd x y && isStr P t
  | .call ⟨.builtin .len, ⟨[_]⟩, ⟨[t]⟩⟩, .lenC n => (match arrOf P t with | some (m, _) => m == n | none => false)
  | .call ⟨.builtin .append, ⟨[x, x']⟩, ⟨[t, tx]⟩⟩, .app st _ wd bs y y' => okOpd x y && okOpd x' y' && (if st then isStr P tx else (sliceOf P tx).isSome) && (match sliceOf P t with
    | some e => (match P.info? e with
      | some i => (match i.zero with | some z => zeroT P e (appZs z) && (appZs z).length == wd | none => false)
      | none => false) && sizeT P e wd && decide (0 < wd) && decide (0 < bs) && bytesT P e bs
    | none => false)
  | .call ⟨.builtin .copy, ⟨[x, x']⟩, ⟨[t, _]⟩⟩, .copyB wd y y' => okOpd x y && okOpd x' y' && (match sliceOf P t with | some e => sizeT P e wd | none => false)
  | .call ⟨.builtin b, args, _⟩, .mm mx ys => decide (b = if mx then .max else .min) && okOpds args.toList ys
  | _, .never => true
  | _, _ => false
where
  appZ : Value → D
    | .int k n => .int k n
    | .bool b => .bool b
    | .string s => .str s.data.toList
    | .slice none 0 0 => .sl .nilk 0 []
    | v => .k v
  appZs (z : Value) : List D := z.cells.toList.map appZ

def notCall : Ins → Bool
  | .call .. => false
  | _ => true

theorem Good.of_eq {s : Sem Next} {A' A'' : St} {d d' : D} (h : Good P s A g w A' d) (e : d = d') (e' : A' = A'') : Good P s A g w A'' d' := by subst e; subst e'; exact h

theorem ins_good {S : Nat → Option Fn} (I : Inv g A w) (E : Env g a.tmps ρ) {i : Ins} (hc : notCall i = true) (hok : okIns P o.op i = true) {d : D} {A' : St} (h : i.run S ρ A = some (d, A')) : Good P (execOp a.eval o) A g w A' d := by
  generalize ho : o.op = op at hok
  unfold okIns at hok
  split at hok
  · simp only [Ins.run, Option.some.injEq, Prod.mk.injEq] at h
    obtain ⟨rfl, rfl⟩ := h
    exact g_mov I E (.inl ho) hok
  · simp only [Ins.run, Option.some.injEq, Prod.mk.injEq] at h
    obtain ⟨rfl, rfl⟩ := h
    exact g_mov I E (.inr ho) hok
  · rename_i x y
    simp only [Ins.run] at h
    split at h
    · rename_i d' hd
      simp only [Option.some.injEq, Prod.mk.injEq] at h
      obtain ⟨rfl, rfl⟩ := h
      exact g_nilc_ptr I E ho hok hd
    · cases h
  · rename_i c x x' c' y y'
    simp only [Bool.and_eq_true] at hok
    simp only [Ins.run] at h
    split at h
    · rename_i t ht
      simp only [Option.some.injEq, Prod.mk.injEq] at h
      obtain ⟨rfl, rfl⟩ := h
      exact g_pick I E ho hok.1.1 hok.1.2 hok.2 ht
    · cases h
  · simp only [Ins.run, Option.some.injEq] at h
    exact (g_alloc I ho hok).of_eq (by rw [h]) (by rw [h])
  · rename_i t x y
    simp only [Ins.run] at h
    split at h
    · rename_i hp
      simp only [Option.some.injEq] at h
      exact (g_box I E ho hok hp).of_eq (by rw [h]) (by rw [h])
    · cases h
  · rename_i t ps zs ps'
    split at hok
    · rename_i fs hfs
      simp only [Bool.and_eq_true] at hok
      simp only [Ins.run] at h
      split at h
      · rename_i cs hcs
        simp only [Option.some.injEq, Prod.mk.injEq] at h
        obtain ⟨rfl, rfl⟩ := h
        exact g_build I E ho (fieldsOf_eq hfs) hok.1.1 hok.1.2 hok.2 hcs
      · cases h
    · split at hok
      · rename_i n e hfs
        split at hok
        · rename_i i hi
          simp only [Bool.and_eq_true] at hok
          simp only [Ins.run] at h
          split at h
          · rename_i cs hcs
            simp only [Option.some.injEq, Prod.mk.injEq] at h
            obtain ⟨rfl, rfl⟩ := h
            exact g_buildA I E ho (arrOf_eq hfs) hok.1 (by unfold sizeT; rw [hi]; simp) hok.2 hcs
          · cases h
        · cases hok
      · cases hok
  · rename_i t ln ps m wd zs ln' ps'
    simp only [Bool.and_eq_true, beq_iff_eq] at hok
    obtain ⟨rfl, hok⟩ := hok
    split at hok
    · rename_i e he
      simp only [Bool.and_eq_true, beq_iff_eq, decide_eq_true_eq] at hok
      obtain ⟨⟨⟨⟨⟨h1, h2⟩, h3⟩, h4⟩, h5⟩, h6⟩ := hok
      simp only [Ins.run] at h
      split at h
      · rename_i cs hcs
        split at h
        · rename_i hp
          simp only [Option.some.injEq] at h
          exact (g_bsl I E ho (sliceOf_eq he) h1 h2 h3 h4 h5 h6 hcs hp.2).of_eq (by rw [h]) (by rw [h])
        · cases h
      · cases h
    · cases hok
  · simp only [Bool.and_eq_true] at hok
    simp only [Ins.run] at h
    split at h
    · rename_i d' hd
      simp only [Option.some.injEq, Prod.mk.injEq] at h
      obtain ⟨rfl, rfl⟩ := h
      refine g_load I E ho hok.1.1 hok.1.2 (fun e => ?_) hd
      subst e; simpa using hok.2
    · cases h
  · simp only [Bool.and_eq_true] at hok
    simp only [Ins.run] at h
    exact g_store I E ho hok.1.1 hok.1.2 hok.2 h
  · simp only [Bool.and_eq_true, decide_eq_true_eq] at hok
    obtain ⟨⟨rfl, h1⟩, h2⟩ := hok
    simp only [Ins.run] at h
    split at h
    · rename_i d' hd
      simp only [Option.some.injEq, Prod.mk.injEq] at h
      obtain ⟨rfl, rfl⟩ := h
      exact g_bin I E ho h1 h2 hd
    · cases h
  · rename_i op xt x x' _ ng y y'
    simp only [Bool.and_eq_true, decide_eq_true_eq] at hok
    obtain ⟨⟨⟨rfl, h0⟩, h1⟩, h2⟩ := hok
    simp only [Ins.run] at h
    split at h
    · rename_i b b' e1 e2
      simp only [Option.some.injEq, Prod.mk.injEq] at h
      obtain ⟨rfl, rfl⟩ := h
      exact g_eqb I E ho h1 h2 (isBool_eq h0) e1 e2
    · cases h
  · rename_i op xt x x' _ n ng y y'
    simp only [Bool.and_eq_true, decide_eq_true_eq, Bool.not_eq_true'] at hok
    obtain ⟨⟨⟨⟨rfl, h1⟩, h2⟩, h3⟩, h4⟩ := hok
    split at h4
    · rename_i m e he
      simp only [Bool.and_eq_true, beq_iff_eq] at h4
      obtain ⟨⟨rfl, h5⟩, h6⟩ := h4
      simp only [Ins.run] at h
      split at h
      · rename_i da db e1 e2
        split at h
        · rename_i hl
          split at h
          · rename_i t ht
            simp only [Option.some.injEq, Prod.mk.injEq] at h
            obtain ⟨rfl, rfl⟩ := h
            exact g_eqa I E ho h1 h2 (arrOf_eq he) h5 h6 h3 e1 e2 hl.1 hl.2 ht
          · cases h
        · cases h
      · cases h
    · cases h4
  · rename_i op xt x x' _ ng y y'
    simp only [Bool.and_eq_true, decide_eq_true_eq, Bool.or_eq_true] at hok
    obtain ⟨⟨⟨rfl, h1⟩, h2⟩, h3⟩ := hok
    simp only [Ins.run] at h
    split at h
    case h_2 => cases h
    rename_i d' hd
    simp only [Option.some.injEq, Prod.mk.injEq] at h
    obtain ⟨rfl, rfl⟩ := h
    refine g_eqnil I E ho h1 h2 ?_ hd
    rcases h3 with ⟨h3, h4⟩ | ⟨h3, h4⟩
    · left
      refine ⟨isPtr_eq h3, ?_⟩
      unfold nilOpd at h4; split at h4 <;> first | rfl | cases h4
    · right
      obtain ⟨e, he⟩ := Option.isSome_iff_exists.1 h3
      refine ⟨⟨e, sliceOf_eq he⟩, ?_⟩
      unfold nilSl at h4; split at h4 <;> first | exact ⟨_, _, rfl⟩ | cases h4
  · simp only [Bool.and_eq_true, decide_eq_true_eq] at hok
    obtain ⟨rfl, h1⟩ := hok
    simp only [Ins.run] at h
    split at h
    · rename_i d' hd
      simp only [Option.some.injEq, Prod.mk.injEq] at h
      obtain ⟨rfl, rfl⟩ := h
      exact g_neg I E ho h1 hd
    · cases h
  · simp only [Bool.and_eq_true] at hok
    simp only [Ins.run] at h
    exact g_cv I E ho hok.1 hok.2 h
  · simp only [Bool.and_eq_true] at hok
    obtain ⟨h1, h2⟩ := hok
    split at h2
    · rename_i m e he
      simp only [beq_iff_eq] at h2
      subst h2
      simp only [Ins.run] at h
      split at h
      · rename_i oo wd els e1
        split at h
        · rename_i hl
          obtain ⟨rfl, h3, h4⟩ := hl
          simp only [Option.some.injEq, Prod.mk.injEq] at h
          obtain ⟨rfl, rfl⟩ := h
          exact g_arrp I E ho h1 (arrOf_eq he) e1 h3 h4
        · cases h
      · cases h
    · cases h2
  · simp only [Bool.and_eq_true] at hok
    obtain ⟨⟨⟨h1, h2⟩, h3⟩, h4⟩ := hok
    split at h4
    · rename_i e he
      simp only [Ins.run] at h
      split at h
      · rename_i d' hd
        simp only [Option.some.injEq, Prod.mk.injEq] at h
        obtain ⟨rfl, rfl⟩ := h
        exact g_slS I E ho h1 h2 h3 (sliceOf_eq he) h4 hd
      · cases h
    · cases h4
  · simp only [Bool.and_eq_true] at hok
    obtain ⟨⟨⟨h1, h2⟩, h3⟩, h4⟩ := hok
    simp only [Ins.run] at h
    split at h
    · rename_i s e1
      split at h
      · rename_i l hh hb
        simp only [Option.some.injEq, Prod.mk.injEq] at h
        obtain ⟨rfl, rfl⟩ := h
        exact g_slT I E ho h1 h2 h3 (isStr_eq h4) e1 hb
      · cases h
    · cases h
  · simp only [Bool.and_eq_true] at hok
    obtain ⟨⟨⟨h1, h2⟩, h3⟩, h4⟩ := hok
    split at h4
    · rename_i m e he
      simp only [Bool.and_eq_true, beq_iff_eq] at h4
      obtain ⟨rfl, h5⟩ := h4
      simp only [Ins.run] at h
      split at h
      · rename_i d' hd
        simp only [Option.some.injEq, Prod.mk.injEq] at h
        obtain ⟨rfl, rfl⟩ := h
        exact g_slA I E ho h1 h2 h3 (arrOf_eq he) h5 hd
      · cases h
    · cases h4
  · rename_i s x f off y
    simp only [Bool.and_eq_true] at hok
    simp only [Ins.run] at h
    split at h
    · rename_i d' hd
      simp only [Option.some.injEq, Prod.mk.injEq] at h
      obtain ⟨rfl, rfl⟩ := h
      exact g_fadr I E ho hok.1 hok.2 hd
    · cases h
  · simp only [Bool.and_eq_true] at hok
    obtain ⟨⟨h1, h2⟩, h4⟩ := hok
    split at h4
    · rename_i e he
      simp only [Ins.run] at h
      split at h
      · rename_i d' hd
        simp only [Option.some.injEq, Prod.mk.injEq] at h
        obtain ⟨rfl, rfl⟩ := h
        exact g_iadrS I E ho h1 h2 (sliceOf_eq he) h4 hd
      · cases h
    · cases h4
  · simp only [Bool.and_eq_true] at hok
    obtain ⟨⟨h1, h2⟩, h4⟩ := hok
    split at h4
    · rename_i m e he
      simp only [Bool.and_eq_true, beq_iff_eq] at h4
      obtain ⟨rfl, h5⟩ := h4
      simp only [Ins.run] at h
      split at h
      · rename_i d' hd
        simp only [Option.some.injEq, Prod.mk.injEq] at h
        obtain ⟨rfl, rfl⟩ := h
        exact g_iadrA I E ho h1 h2 (arrOf_eq he) h5 hd
      · cases h
    · cases h4
  · simp only [Bool.and_eq_true] at hok
    obtain ⟨⟨h1, h2⟩, h4⟩ := hok
    simp only [Ins.run] at h
    split at h
    · rename_i s k i e1 e2
      split at h
      · rename_i h0
        split at h
        · rename_i b hb
          simp only [Option.some.injEq, Prod.mk.injEq] at h
          obtain ⟨rfl, rfl⟩ := h
          exact g_idxT I E ho h1 h2 (isStr_eq h4) e1 e2 h0 hb
        · cases h
      · cases h
    · cases h
  · simp only [Bool.and_eq_true, beq_iff_eq] at hok
    obtain ⟨rfl, h1⟩ := hok
    simp only [Ins.run] at h
    split at h
    · rename_i ds e1
      split at h
      · rename_i d' hd
        simp only [Option.some.injEq, Prod.mk.injEq] at h
        obtain ⟨rfl, rfl⟩ := h
        exact g_ext I E ho h1 e1 hd
      · cases h
    · cases h
  · simp only [Bool.and_eq_true] at hok
    simp only [Ins.run] at h
    split at h
    · rename_i s e1
      simp only [Option.some.injEq] at h
      exact (g_rng I E ho hok.1 (isStr_eq hok.2) e1).of_eq (by rw [h]) (by rw [h])
    · cases h
  · simp only [Bool.and_eq_true] at hok
    obtain ⟨rfl, h1⟩ := hok
    simp only [Ins.run] at h
    split at h
    · rename_i j e1
      split at h
      · rename_i s p hb
        have := g_nxt (P := P) I E ho h1 e1 hb
        split at h
        · rename_i hp
          simp only [Option.some.injEq, Prod.mk.injEq] at h
          obtain ⟨rfl, rfl⟩ := h
          exact this.1 hp
        · rename_i hp
          simp only [Option.some.injEq, Prod.mk.injEq] at h
          obtain ⟨rfl, rfl⟩ := h
          exact this.2 hp
      · cases h
    · cases h
  · rename_i t l c m wd bs zs y
    simp only [Bool.and_eq_true] at hok
    obtain ⟨⟨h1, h2⟩, h4⟩ := hok
    split at h4
    · rename_i e he
      simp only [Bool.and_eq_true, beq_iff_eq, decide_eq_true_eq] at h4
      obtain ⟨⟨⟨⟨z1, z2⟩, z3⟩, z4⟩, z5⟩ := h4
      simp only [Ins.run] at h
      split at h
      · rename_i k n e1
        split at h
        · rename_i hp
          obtain ⟨p1, p2, p3, p4, p5⟩ := hp
          simp only [Option.some.injEq] at h
          exact (g_mk I E ho h1 h2 (sliceOf_eq he) z1 z2 z3 z4 z5 e1 p1 p2 p3 p5).of_eq (by rw [h]) (by rw [h])
        · cases h
      · cases h
    · cases h4
  · rename_i x t y
    simp only [Bool.and_eq_true] at hok
    obtain ⟨e, he⟩ := Option.isSome_iff_exists.1 hok.2
    simp only [Ins.run] at h
    split at h
    · rename_i d' hd
      simp only [Option.some.injEq, Prod.mk.injEq] at h
      obtain ⟨rfl, rfl⟩ := h
      exact g_len I E ho hok.1 ⟨e, sliceOf_eq he⟩ hd
    · cases h
  · simp only [Bool.and_eq_true] at hok
    simp only [Ins.run] at h
    split at h
    · rename_i s e1
      simp only [Option.some.injEq, Prod.mk.injEq] at h
      obtain ⟨rfl, rfl⟩ := h
      exact g_lenT I E ho hok.1 (isStr_eq hok.2) e1
    · cases h
  · split at hok
    · rename_i m e he
      simp only [beq_iff_eq] at hok
      subst hok
      simp only [Ins.run, Option.some.injEq, Prod.mk.injEq] at h
      obtain ⟨rfl, rfl⟩ := h
      exact g_lenC I ho (arrOf_eq he)
    · cases hok
  · rename_i x x' t tx st m wd bs y y'
    simp only [Bool.and_eq_true] at hok
    obtain ⟨⟨⟨h1, h2⟩, h3⟩, h4⟩ := hok
    split at h4
    · rename_i e he
      simp only [Bool.and_eq_true, beq_iff_eq, decide_eq_true_eq] at h4
      obtain ⟨⟨⟨⟨z1, z2⟩, z3⟩, z4⟩, z5⟩ := h4
      split at z1
      · rename_i i hi
        split at z1
        · rename_i z hz
          simp only [Bool.and_eq_true, beq_iff_eq] at z1
          simp only [Ins.run] at h
          refine g_app I E ⟨sliceOf_eq he, z1.1, z2, z1.2, z5, z4⟩ z3 ho h1 h2 (fun e => ?_) (fun e => ?_) h
          · subst e; exact isStr_eq (by simpa using h3)
          · subst e
            obtain ⟨e2, he2⟩ := Option.isSome_iff_exists.1 (show (sliceOf P tx).isSome = true by simpa using h3)
            exact ⟨e2, sliceOf_eq he2⟩
        · cases z1
      · cases z1
    · cases h4
  · simp only [Bool.and_eq_true] at hok
    obtain ⟨⟨h1, h2⟩, h4⟩ := hok
    split at h4
    · rename_i e he
      simp only [Ins.run] at h
      exact g_copy (ex := 0) I E ho h1 h2 (sliceOf_eq he) h4 h
    · cases h4
  · rename_i b args ts mx ys
    simp only [Bool.and_eq_true, decide_eq_true_eq] at hok
    obtain ⟨rfl, h1⟩ := hok
    simp only [Ins.run] at h
    split at h
    · rename_i d0 r e1
      split at h
      · rename_i d' hd
        simp only [Option.some.injEq, Prod.mk.injEq] at h
        obtain ⟨rfl, rfl⟩ := h
        exact g_mm I E ho h1 e1 hd
      · cases h
    · cases h
  · simp [Ins.run] at h
  · cases hok

end Ev
