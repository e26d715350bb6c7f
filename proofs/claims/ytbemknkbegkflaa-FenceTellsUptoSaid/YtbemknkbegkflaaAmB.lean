import Derived.Test.YtbemknkbegkflaaAmA
import Derived.Laws.BytesArg
import Derived.RangeFuncLeaves
import Derived.RangeFuncRecord
set_option linter.unusedSimpArgs false
set_option linter.unnecessarySimpa false
set_option linter.unusedVariables false
/-! The instructions, what they do, and how a function's text comes to them. -/
namespace Go.AM

inductive X where
  | t (n : Nat)
  | c (v : CV)

inductive Kd where
  | b
  | i
  | s

inductive Ky where
  | i (k : IntKind)
  | s
  | b

inductive I where
  | mov (x : X)
  | pick (c a b : X)
  | alloc (z : List CC)
  | box (x : X)
  | build (z : List CC) (parts : List (Nat × Nat × X))
  | bsl (esz : Nat) (z : List CC) (len : Nat) (parts : List (Nat × X))
  | load (agg : Bool) (n : Nat) (a : X)
  | store (n : Nat) (a x : X)
  | fadr (off : Nat) (a : X)
  | fld (agg : Bool) (off n : Nat) (a : X)
  | idx (esz : Nat) (a i : X)
  | idxa (len esz : Nat) (a i : X)
  | sidx (a i : X)
  | bin (op : BinOp) (x y : X)
  | eqa (neg : Bool) (ks : List Kd) (x y : X)
  | beq (neg : Bool) (x y : X)
  | un (op : UnOp) (x : X)
  | conv (k : IntKind) (x : X)
  | idc (x : X)
  | s2b (x : X)
  | b2s (x : X)
  | slc (esz : Nat) (x : X) (lo hi mx : Option X)
  | strs (x : X) (lo hi : Option X)
  | fn (f : Nat) (caps : List X)
  | len (k : Nat) (x : X)
  | app (esz bytes : Nat) (dst src : X)
  | call (f : X) (args : List X)
  | ext (x : X) (i : Nat)
  | nilc (x : X)
  | snil (neg : Bool) (x : X)
  | mkmap
  | mkslice (esz bytes : Nat) (z : List CC) (n c : X)
  | mget (z : RV) (kk : Ky) (m k : X) (ok : Bool)
  | mset (kk : Ky) (m k v : X)
  | minmax (mx : Bool) (xs : List X)
  | mdel (m k : X)
  | copy (esz : Nat) (dst src : X)
  | clr (esz : Nat) (z : List CC) (x : X)
  | fldx (agg : Bool) (n sz : Nat) (x i : X)
  | idb (x : X)
  | rng (x : X)
  | nxt (x : X)
  | ent (x : X)

structure LO where
  dst : Option Nat
  ins : I
  guard : Option (Nat × Bool)

/-- a schedule: what is done ahead of what; where the next effect is open, each of those that may be next -/
inductive Sch where
  | nil
  | cons (i : Nat) (eff : Option (List Nat)) (r : Sch)
  | alt (a b : Sch)
inductive LC where
  | skip
  | reg (ops : List LO)
  | draw (los : List LO) (scheds : List Sch)
  | seq (a b : LC)
  | cond (x : X) (a b : LC)
  | block (id : Nat) (b : LC)
  | loop (b : LC)
  | exit (id : Nat)
  | ret
  | ghost (a : LC)
  /-- a range over a function of one string -/
  | rfun (x : X) (p : Nat) (a b : LC)

/-- the text, without the places at which what is known is said in another way -/
def LC.er : LC → LC
  | .seq a b => .seq a.er b.er
  | .cond x a b => .cond x a.er b.er
  | .block id b => .block id b.er
  | .loop b => .loop b.er
  | .ghost a => a.er
  | .rfun x p a b => .rfun x p a.er b.er
  | .skip => .skip
  | .reg ops => .reg ops
  | .draw a b => .draw a b
  | .exit id => .exit id
  | .ret => .ret

/-- no range over a function in it -/
def LC.noRF : LC → Bool
  | .seq a b => a.noRF && b.noRF
  | .cond _ a b => a.noRF && b.noRF
  | .block _ b => b.noRF
  | .loop b => b.noRF
  | .ghost a => a.noRF
  | .rfun _ _ _ _ => false
  | _ => true

inductive Rv where
  | tmp (t : Nat)
  | cell (agg : Bool) (n : Nat) (t : Nat)

structure LF where
  n : Nat
  res : List Rv
  code : LC
def LF.er (f : LF) : LF := ⟨f.n, f.res, f.code.er⟩

/-! ### helpers that reckon by recursion alone -/
def nth {α : Type} : List α → Nat → Option α
  | [], _ => none
  | x :: _, 0 => some x
  | _ :: r, k + 1 => nth r k
def setN {α : Type} : List α → Nat → α → List α
  | [], _, _ => []
  | _ :: r, 0, y => y :: r
  | x :: r, k + 1, y => x :: setN r k y
def force {α : Type} {β : Sort _} : List α → (List α → β) → β
  | [], k => k []
  | x :: r, k => force r fun r' => k (x :: r')
def getE : List CV → Nat → CV
  | [], _ => .junk
  | x :: _, 0 => x
  | _ :: r, k + 1 => getE r k
def X.ev (e : List CV) : X → CV
  | .t n => getE e n
  | .c v => v
def ok {α : Type} (o : Option α) (K : α → Prop) : Prop := @Option.rec α (fun _ => Prop) False K o
def bB (t : Bool) (A B : Prop) : Prop := @Bool.rec (fun _ => Prop) B A t
def readN : List CC → Nat → Nat → Option (List CC)
  | _, 0, 0 => some []
  | [], _, _ => none
  | c :: cs, 0, n + 1 => match readN cs 0 n with | some l => some (c :: l) | none => none
  | _ :: cs, j + 1, n => readN cs j n
def writeN : List CC → Nat → List CC → Option (List CC)
  | cs, 0, [] => some cs
  | [], _, _ => none
  | _ :: cs, 0, x :: xs => match writeN cs 0 xs with | some l => some (x :: l) | none => none
  | c :: cs, j + 1, xs => match writeN cs j xs with | some l => some (c :: l) | none => none
def readD : List Dt → Nat → Option (List CC)
  | _, 0 => some []
  | [], _ + 1 => none
  | d :: ds, n + 1 => match readD ds n with | some l => some (.dat d :: l) | none => none
def cellsOf : CV → Option (List CC)
  | .rv (.one c) => some [c]
  | .rv (.agg cs) => some cs
  | _ => none
def rvOf : CV → Option RV
  | .rv r => some r
  | _ => none
def mkR (agg : Bool) (l : List CC) : Option CV :=
  match agg, l with
  | true, l => some (.rv (.agg l))
  | false, [c] => some (.rv (.one c))
  | false, _ => none
def CC.isOwn : CC → Bool
  | .own _ _ => true
  | _ => false
def noOwn : List CC → Bool
  | [] => true
  | .own _ _ :: _ => false
  | _ :: r => noOwn r
def getZ {α : Type} (l : List α) : Int → Option α
  | .ofNat k => nth l k
  | .negSucc _ => none
def idxZ (n : Int) (len : Nat) : Option Nat :=
  match n with
  | .ofNat k => match Nat.blt k len with | true => some k | false => none
  | .negSucc _ => none
def addN (a b : Nat) : Nat := match a with | 0 => b | a => a + b
def lenOf (elems : Nat) (lo : Nat) (hi : Option Nat) : Nat :=
  match lo, hi with
  | 0, none => elems
  | 0, some h => h
  | lo, none => elems - lo
  | lo, some h => h - lo
def subL {α : Type} (l : List α) (lo : Nat) (hi : Option Nat) : List α :=
  match lo, hi with
  | 0, none => l
  | 0, some h => l.take h
  | lo, none => l.drop lo
  | lo, some h => (l.take h).drop lo
def fillC (e : List CV) : List CC → List (Nat × Nat × X) → Option (List CC)
  | z, [] => some z
  | z, (off, sz, x) :: r => match cellsOf (x.ev e) with
    | some cs => match Nat.beq cs.length sz with
      | true => match writeN z off cs with
        | some z' => fillC e z' r
        | none => none
      | false => none
    | none => none
def fillR (e : List CV) (esz : Nat) : List (List CC) → List (Nat × X) → Option (List (List CC))
  | z, [] => some z
  | z, (i, x) :: r => match cellsOf (x.ev e) with
    | some cs => match Nat.beq cs.length esz && Nat.blt i z.length with
      | true => fillR e esz (setN z i cs) r
      | false => none
    | none => none
def repl {α : Type} : Nat → α → List α
  | 0, _ => []
  | n + 1, x => x :: repl n x
def evs (e : List CV) : List X → List CV
  | [] => []
  | x :: r => x.ev e :: evs e r
def capsOf : List CV → Option (List Nat)
  | [] => some []
  | .rv (.one (.ptr id 0)) :: r => match capsOf r with | some l => some (id :: l) | none => none
  | _ => none
def capArgs : List Nat → List CV
  | [] => []
  | id :: r => .rv (.one (.ptr id 0)) :: capArgs r
def app2 {α : Type} : List α → List α → List α
  | [], l => l
  | x :: r, l => x :: app2 r l

/-- a memory's length, as a numeral -/
def lenGo {β : Sort _} (m0 : Mem) : Mem → List Nat → (Nat → β) → β
  | [], n :: _, k => k n
  | _ :: r, _ :: ls, k => lenGo m0 r ls k
  | _, [], k => k m0.length
def lenK {β : Sort _} (m : Mem) (k : Nat → β) : β :=
  lenGo m m [0, 1, 2, 3, 4, 5, 6, 7, 8, 9, 10, 11, 12, 13, 14, 15, 16, 17, 18, 19, 20, 21, 22, 23, 24, 25, 26, 27, 28, 29, 30, 31, 32, 33, 34, 35, 36, 37, 38, 39, 40, 41, 42, 43, 44, 45, 46, 47, 48, 49, 50, 51, 52, 53, 54, 55, 56, 57, 58, 59, 60, 61, 62, 63] k

def vInt (k : IntKind) (n : Int) : CV := .rv (.one (.dat (.val (.int k n))))
def vBool (b : Bool) : CV := .rv (.one (.dat (.val (.bool b))))
def vStr (s : ByteArray) : CV := .rv (.one (.dat (.val (.string s))))

/-- two plain values -/
def binV (op : BinOp) : Value → Value → Option Value
  | .int k a, .int k' b =>
    match op with
    | .shl => match decide (b < 0) with | false => some (.int k (k.wrap (a * 2 ^ (min b.toNat k.bits)))) | true => none
    | .shr => match decide (b < 0) with | false => some (.int k (a.fdiv (2 ^ (min b.toNat k.bits)))) | true => none
    | op => match decide (k = k') with
      | false => none
      | true => match op with
        | .add => some (.int k (k.wrap (a + b)))
        | .sub => some (.int k (k.wrap (a - b)))
        | .mul => some (.int k (k.wrap (a * b)))
        | .quo => match decide (b = 0) with | false => some (.int k (k.wrap (a.tdiv b))) | true => none
        | .rem => match decide (b = 0) with | false => some (.int k (a.tmod b)) | true => none
        | .and => some (.int k (k.wrap (BitVec.ofInt k.bits a &&& BitVec.ofInt k.bits b).toNat))
        | .or => some (.int k (k.wrap (BitVec.ofInt k.bits a ||| BitVec.ofInt k.bits b).toNat))
        | .xor => some (.int k (k.wrap (BitVec.ofInt k.bits a ^^^ BitVec.ofInt k.bits b).toNat))
        | .andNot => some (.int k (k.wrap (BitVec.ofInt k.bits a &&& ~~~ BitVec.ofInt k.bits b).toNat))
        | .eql => some (.bool (a == b))
        | .neq => some (.bool (a != b))
        | .lss => some (.bool (decide (a < b)))
        | .leq => some (.bool (decide (a ≤ b)))
        | .gtr => some (.bool (decide (a > b)))
        | .geq => some (.bool (decide (a ≥ b)))
        | _ => none
  | .string a, .string b =>
    match op with
    | .add => match decide (((a.size + b.size : Nat) : Int) > IntKind.i64.max) with | false => some (.string (a ++ b)) | true => none
    | .eql => some (.bool (a.toList == b.toList))
    | .neq => some (.bool (!(a.toList == b.toList)))
    | .lss => some (.bool (Op.bytesLess a.toList b.toList))
    | .leq => some (.bool (Op.bytesLess a.toList b.toList || a.toList == b.toList))
    | .gtr => some (.bool (!(Op.bytesLess a.toList b.toList || a.toList == b.toList)))
    | .geq => some (.bool (!(Op.bytesLess a.toList b.toList)))
    | _ => none
  | _, _ => none
def unV (op : UnOp) : Value → Option Value
  | .bool b => match op with | .not => some (.bool (!b)) | _ => none
  | .int k n => match op with | .neg => some (.int k (k.wrap (0 - n))) | _ => none
  | _ => none
def eqV : Kd → Value → Value → Option Bool
  | .i, .int k a, .int k' b => match decide (k = k') with | true => some (a == b) | false => none
  | .s, .string a, .string b => some (a.toList == b.toList)
  | .b, .bool a, .bool b => some (a == b)
  | _, _, _ => none
def eqCells : List Kd → List CC → List CC → Option Bool
  | [], [], [] => some true
  | k :: ks, .dat (.val a) :: r, .dat (.val b) :: s => match eqV k a b, eqCells ks r s with
    | some x, some y => some (x && y)
    | _, _ => none
  | _, _, _ => none

/-- the call of a function: whatever world these values stand for something in -/
def ACall (P : Program) (f : Nat) (args : List CV) (m : Mem) (K : CV → Mem → Prop) : Prop :=
  (∃ fn, P.funcs[f]? = some fn ∧ fn.body.isSome = true ∧ (fn.name == "runtime.NumGoroutine") = false) ∧
  ∀ (ρ : Rho) (w : World) (vs : List Value), MemRel ρ m w → vs.length = args.length → (∀ (i : Nat) c, args[i]? = some c → ∃ v, vs[i]? = some v ∧ DenV ρ w c v) →
    Calls P f vs.toArray w fun e w' => ∃ v r m' ρ', e = .returned v ∧ K r m' ∧ MemRel ρ' m' w' ∧ DenV ρ' w' r v ∧ Ext ρ m w ρ' m' w'

def fV {β : Sort _} (v : CV) (k : CV → β) : β :=
  match v with
  | .junk => k .junk
  | .undef => k .undef
  | .rv r => match r with
    | .one c => k (.rv (.one c))
    | .agg cs => force cs fun cs => k (.rv (.agg cs))
  | .tup rs => k (.tup rs)

/-- look a key up -/
def keyEq (a b : Value) : Option Bool :=
  match a, b with
  | .int k x, .int k' y => match decide (k = k') with | true => some (x == y) | false => none
  | .string x, .string y => some (x == y)
  | .bool x, .bool y => some (x == y)
  | _, _ => none
def mFind (k : Value) : List ME → Option (Option RV)
  | [] => some none
  | e :: es => match keyEq k e.key with
    | some true => some (some e.val)
    | some false => mFind k es
    | none => none
def mSet (k : Value) (v : RV) : List ME → Option (List ME)
  | [] => some [⟨k, v⟩]
  | e :: es => match keyEq k e.key with
    | some true => some (⟨k, v⟩ :: es)
    | some false => match mSet k v es with | some l => some (e :: l) | none => none
    | none => none

def loadA (e : List CV) (m : Mem) (agg : Bool) (n : Nat) (a : CV) (K : CV → Prop) : Prop :=
  match a with
  | .rv (.one (.ptr id j)) => ok (nth m id) fun bk => match bk with
    | .var cs => ok (readN cs j n) fun l => ok (mkR agg l) K
    | _ => False
  | .rv (.one (.eptr id esz i j)) => ok (nth m id) fun bk => match bk with
    | .row esz' elems => bB (Nat.beq esz esz') (ok (nth elems i) fun cells => ok (readN cells j n) fun l => bB (noOwn l) (ok (mkR agg l) K) False) False
    | _ => False
  | .rv (.one (.iptr ds)) => ok (readD ds n) fun l => ok (mkR agg l) K
  | _ => False

/-- a slice's elements -/
def slElems (m : Mem) (esz : Nat) (v : CV) : Option (List (List CC)) :=
  match v with
  | .rv (.one (.dat (.sl e elems))) => match Nat.beq e esz with
    | true => some (elems.map fun ds => ds.map .dat)
    | false => none
  | .rv (.one (.row id e lo hi)) => match nth m id with
    | some (.row e2 rows) => match Nat.beq e esz, Nat.beq e2 esz with
      | true, true => some (subL rows lo hi)
      | _, _ => none
    | _ => none
  | .rv (.one .esl) => some []
  | _ => none
def kill (m : Mem) (v : CV) : Mem :=
  match v with
  | .rv (.one (.row id _ _ _)) => setN m id .dead
  | _ => m
def isOwnRow (v : CV) : Bool :=
  match v with
  | .rv (.one (.row _ _ _ _)) => true
  | .rv (.one .esl) => true
  | _ => false

def neRow (a b : CV) : Bool :=
  match a, b with
  | .rv (.one (.row i _ _ _)), .rv (.one (.row j _ _ _)) => !(Nat.beq i j)
  | _, _ => true

def CC.noOwn : CC → Bool
  | .own _ _ => false
  | _ => true
def noOwnL : List CC → Bool
  | [] => true
  | c :: r => c.noOwn && noOwnL r
def noOwnRows : List (List CC) → Bool
  | [] => true
  | c :: r => noOwnL c && noOwnRows r
def splice {α : Type} (l : List α) (h : Nat) (E : List α) : List α := l.take h ++ (E ++ l.drop (h + E.length))
def hiOf (hi : Option Nat) (n : Nat) : Nat := match hi with | some h => h | none => n
def natX (v : CV) : Option Nat :=
  match v with
  | .rv (.one (.dat (.val (.int _ (.ofNat k))))) => some k
  | _ => none
def optN (e : List CV) (o : Option X) (d : Nat) : Option Nat :=
  match o with
  | none => some d
  | some x => natX (x.ev e)
def isZ (v : CV) : Bool :=
  match v with
  | .rv (.one (.dat (.val (.int _ n)))) => decide (n = 0)
  | _ => false
def isZO (e : List CV) (o : Option X) : Bool :=
  match o with
  | none => false
  | some x => isZ (x.ev e)
def isSl (v : CV) : Bool :=
  match v with
  | .rv (.one (.dat (.sl _ _))) => true
  | .rv (.one (.row _ _ _ _)) => true
  | .rv (.one .esl) => true
  | _ => false

/-- a row of bytes, read off -/
def numsC : List (List CC) → Option (List Int)
  | [] => some []
  | [.dat (.val (.int .u8 n))] :: r => match numsC r with | some l => some (n :: l) | none => none
  | _ => none
def bytesR (s : ByteArray) : List (List CC) := s.data.toList.map fun b => [.dat (.val (.int .u8 b.toNat))]
def mapEs (m : Mem) (v : CV) : Option (List ME) :=
  match v with
  | .rv (.one (.map id)) => match nth m id with | some (.mp es) => some es | _ => none
  | .rv (.one (.dat (.val (.map none)))) => some []
  | _ => none
def kdOk : Ky → Value → Bool
  | .i k, .int k' _ => decide (k' = k)
  | .s, .string _ => true
  | .b, .bool _ => true
  | _, _ => false
def mgetV (okF : Bool) (z : RV) (o : Option RV) : CV :=
  match okF, o with
  | false, none => .rv z
  | false, some v => .rv v
  | true, none => .tup [z, .one (.dat (.val (.bool false)))]
  | true, some v => .tup [v, .one (.dat (.val (.bool true)))]

/-- a map's entries, if they are plain -/
def plainMs : List ME → Option (List (Value × Value))
  | [] => some []
  | ⟨k, .one (.dat (.val v))⟩ :: r => match plainV k && plainV v with
    | true => (plainMs r).map ((k, v) :: ·)
    | false => none
  | _ => none
/-- one instruction -/
def step (P : Program) (i : I) (e : List CV) (m : Mem) (K : CV → Mem → Prop) : Prop :=
  match i with
  | .mov x => K (x.ev e) m
  | .pick c a b => match c.ev e with
    | .rv (.one (.dat (.val (.bool t)))) => bB t (K (a.ev e) m) (K (b.ev e) m)
    | _ => False
  | .alloc z => lenK m fun n => K (.rv (.one (.ptr n 0))) (app2 m [.var z])
  | .box x => ok (cellsOf (x.ev e)) fun cs => lenK m fun n => K (.rv (.one (.ptr n 0))) (app2 m [.var cs])
  | .build z ps => ok (fillC e z ps) fun cs => K (.rv (.agg cs)) m
  | .bsl esz z len ps => ok (fillR e esz (repl len z) ps) fun rows => force rows fun rows => lenK m fun n => K (.rv (.one (.row n esz 0 none))) (app2 m [.row esz rows])
  | .load agg n a => loadA e m agg n (a.ev e) fun v => K v m
  | .store n a x => ok (cellsOf (x.ev e)) fun xs => bB (Nat.beq xs.length n) (match a.ev e with
    | .rv (.one (.ptr id j)) => ok (nth m id) fun bk => match bk with
      | .var cs => ok (writeN cs j xs) fun cs' => K .undef (setN m id (.var cs'))
      | _ => False
    | .rv (.one (.eptr id esz i j)) => ok (nth m id) fun bk => match bk with
      | .row esz' elems => bB (Nat.beq esz esz') (ok (nth elems i) fun cells => bB (noOwn cells) (ok (writeN cells j xs) fun cells' => K .undef (setN m id (.row esz' (setN elems i cells')))) False) False
      | _ => False
    | _ => False) False
  | .fadr off a => match a.ev e with
    | .rv (.one (.ptr id j)) => K (.rv (.one (.ptr id (j + off)))) m
    | .rv (.one (.eptr id esz i j)) => K (.rv (.one (.eptr id esz i (j + off)))) m
    | .rv (.one (.iptr ds)) => K (.rv (.one (.iptr (ds.drop off)))) m
    | _ => False
  | .fld agg off n a => match a.ev e with
    | .rv (.agg cs) => ok (readN cs off n) fun l => ok (mkR agg l) fun v => K v m
    | _ => False
  | .idx esz a i => match i.ev e with
    | .rv (.one (.dat (.val (.int _ n)))) => match a.ev e with
      | .rv (.one (.dat (.sl esz' elems))) => bB (Nat.beq esz esz') (ok (getZ elems n) fun ds => K (.rv (.one (.iptr ds))) m) False
      | .rv (.one (.row id esz' lo hi)) => ok (nth m id) fun bk => match bk with
        | .row esz2 elems => bB (Nat.beq esz esz') (bB (Nat.beq esz esz2) (ok (idxZ n (lenOf elems.length lo hi)) fun k => K (.rv (.one (.eptr id esz (addN lo k) 0))) m) False) False
        | _ => False
      | _ => False
    | _ => False
  | .idxa len esz a i => match i.ev e with
    | .rv (.one (.dat (.val (.int _ n)))) => match a.ev e with
      | .rv (.one (.ptr id j)) => ok (idxZ n len) fun k => K (.rv (.one (.ptr id (j + k * esz)))) m
      | .rv (.one (.eptr id s i' j)) => ok (idxZ n len) fun k => K (.rv (.one (.eptr id s i' (j + k * esz)))) m
      | .rv (.one (.iptr ds)) => ok (idxZ n len) fun k => K (.rv (.one (.iptr (ds.drop (k * esz))))) m
      | _ => False
    | _ => False
  | .sidx a i => match i.ev e with
    | .rv (.one (.dat (.val (.int _ n)))) => match a.ev e with
      | .rv (.one (.dat (.val (.string s)))) => ok (getZ s.data.toList n) fun b => K (vInt .u8 b.toNat) m
      | _ => False
    | _ => False
  | .bin op x y => match x.ev e with
    | .rv (.one (.dat (.val a))) => match y.ev e with
      | .rv (.one (.dat (.val b))) => ok (binV op a b) fun v => K (.rv (.one (.dat (.val v)))) m
      | _ => False
    | _ => False
  | .eqa neg n x y => match x.ev e with
    | .rv (.agg cs) => match y.ev e with
      | .rv (.agg ds) => ok (eqCells n cs ds) fun b => K (vBool (match neg with | true => !b | false => b)) m
      | _ => False
    | _ => False
  | .beq neg x y => match x.ev e with
    | .rv (.one (.dat (.val (.bool a)))) => match y.ev e with
      | .rv (.one (.dat (.val (.bool b)))) => K (vBool (match neg with | true => !(a == b) | false => a == b)) m
      | _ => False
    | _ => False
  | .un op x => match x.ev e with
    | .rv (.one (.dat (.val a))) => ok (unV op a) fun v => K (.rv (.one (.dat (.val v)))) m
    | _ => False
  | .conv k x => match x.ev e with
    | .rv (.one (.dat (.val (.int _ n)))) => K (vInt k (k.wrap n)) m
    | _ => False
  | .idc x => match x.ev e with
    | .rv (.one (.dat (.val (.string s)))) => K (vStr s) m
    | _ => False
  | .fn f caps => ok (capsOf (evs e caps)) fun ids => K (.rv (.one (.fn f ids))) m
  | .len 1 x => match x.ev e with
    | .rv (.one (.dat (.sl _ elems))) => K (vInt .i64 (elems.length : Int)) m
    | .rv (.one (.row id _ lo hi)) => ok (nth m id) fun bk => match bk with
      | .row _ elems => K (vInt .i64 (lenOf elems.length lo hi : Int)) m
      | _ => False
    | .rv (.one .esl) => K (vInt .i64 0) m
    | _ => False
  | .len 0 x => match x.ev e with
    | .rv (.one (.dat (.val (.string s)))) => K (vInt .i64 (s.size : Int)) m
    | _ => False
  | .len 2 x => match x.ev e with
    | .rv (.one (.map id)) => ok (nth m id) fun bk => match bk with
      | .mp es => K (vInt .i64 (es.length : Int)) m
      | _ => False
    | _ => False
  | .call f args => match f.ev e with
    | .rv (.one (.fn f caps)) => ACall P f (app2 (evs e args) (capArgs caps)) m K
    | _ => False
  | .ext x i => match x.ev e with
    | .tup rs => ok (nth rs i) fun r => K (.rv r) m
    | _ => False
  | .app esz bytes dst src => bB (isOwnRow (dst.ev e) && neRow (dst.ev e) (src.ev e)) (ok (slElems m esz (dst.ev e)) fun E1 => ok (slElems m esz (src.ev e)) fun E2 =>
      (E1.length + E2.length) * bytes ≤ 140737488355328 ∧ lenK m fun n => K (.rv (.one (.row n esz 0 none))) (app2 (kill (kill m (dst.ev e)) (src.ev e)) [.row esz (E1 ++ E2)]))
      (match dst.ev e with
      | .rv (.one (.row id e1 lo (some h))) => ok (nth m id) fun bk => match bk with
        | .row e2 rows => ok (slElems m esz (src.ev e)) fun E2 => bB (Nat.beq lo 0 && (Nat.beq e1 esz && (Nat.beq e2 esz && (Nat.ble 1 rows.length && (Nat.ble (h + E2.length) rows.length && noOwnRows E2)))))
          (rows.length * bytes ≤ 140737488355328 ∧ K (.rv (.one (.row id esz 0 (some (h + E2.length))))) (setN m id (.row esz (splice rows h E2)))) False
        | _ => False
      | _ => False)
  | .snil neg x => match x.ev e with
    | .rv (.one (.dat (.sl _ elems))) => bB (Nat.beq elems.length 0) (K (vBool true) m ∧ K (vBool false) m) (K (vBool neg) m)
    | .rv (.one (.row id _ lo hi)) => ok (nth m id) fun bk => match bk with
      | .row _ elems => bB (Nat.beq (lenOf elems.length lo hi) 0) (K (vBool true) m ∧ K (vBool false) m) (K (vBool neg) m)
      | _ => False
    | .rv (.one .esl) => K (vBool true) m ∧ K (vBool false) m
    | _ => False
  | .slc esz x lo hi (some mx) => bB (lo.isNone && isZO e hi && isZ (mx.ev e) && isSl (x.ev e)) (K (.rv (.one .esl)) m)
      (ok (optN e lo 0) fun l => ok (slElems m esz (x.ev e)) fun E => ok (optN e hi E.length) fun h => ok (natX (mx.ev e)) fun mxn => bB (lo.isSome && (hi.isSome && (Nat.ble l h && (Nat.ble h mxn && Nat.ble mxn E.length)))) (K .junk m) False)
  | .slc esz x lo hi none => ok (optN e lo 0) fun l => match x.ev e with
    | .rv (.one (.dat (.sl e2 elems))) => bB (Nat.beq e2 esz) (ok (optN e hi elems.length) fun h => bB (Nat.ble l h && Nat.ble h elems.length) (K (.rv (.one (.dat (.sl esz ((elems.take h).drop l))))) m) False) False
    | .rv (.one (.row id e2 lo0 hi0)) => ok (nth m id) fun bk => match bk with
      | .row _ elems => bB (Nat.beq e2 esz) (ok (optN e hi (lenOf elems.length lo0 hi0)) fun h => bB (Nat.ble l h && Nat.ble h (elems.length - lo0)) (K (.rv (.one (.row id esz (addN lo0 l) (some (addN lo0 h))))) m) False) False
      | _ => False
    | _ => False
  | .strs x lo hi => match x.ev e with
    | .rv (.one (.dat (.val (.string s)))) => ok (optN e lo 0) fun l => ok (optN e hi s.size) fun h => bB (Nat.ble l h && Nat.ble h s.size) (K (vStr (s.extract l h)) m) False
    | _ => False
  | .nilc x => match x.ev e with
    | .rv (.one (.ptr id j)) => K (.rv (.one (.ptr id j))) m
    | .rv (.one (.eptr id s i j)) => K (.rv (.one (.eptr id s i j))) m
    | .rv (.one (.iptr ds)) => K (.rv (.one (.iptr ds))) m
    | _ => False
  | .b2s x => ok (slElems m 1 (x.ev e)) fun E => ok (numsC E) fun xs => K (vStr (strOfNums xs)) m
  | .s2b x => match x.ev e with
    | .rv (.one (.dat (.val (.string s)))) => s.size ≤ 140737488355328 ∧ lenK m fun n => K (.rv (.one (.row n 1 0 none))) (app2 m [.row 1 (bytesR s)])
    | _ => False
  | .minmax mx [x, y] => match x.ev e with
    | .rv (.one (.dat (.val (.int k a)))) => match y.ev e with
      | .rv (.one (.dat (.val (.int _ b)))) => match mx with
        | true => K (vInt k (if b > a then b else a)) m
        | false => K (vInt k (if b < a then b else a)) m
      | _ => False
    | _ => False
  | .idb x => match x.ev e with
    | .rv (.one (.row id e1 lo hi)) => ok (nth m id) fun bk => match bk with
      | .row esz rows => bB (Nat.beq esz 1 && Nat.blt lo rows.length) (K (.rv (.one (.row id e1 lo hi))) m) False
      | _ => False
    | _ => False
  | .clr esz z x => match x.ev e with
    | .rv (.one (.row id e1 lo hi)) => ok (nth m id) fun bk => match bk with
      | .row e2 rows => bB (Nat.beq e1 esz && (Nat.beq e2 esz && Nat.ble (hiOf hi rows.length) rows.length))
          (bB (Nat.blt lo (hiOf hi rows.length)) (K (.tup []) (setN m id (.row esz (splice rows lo (repl (hiOf hi rows.length - lo) z))))) (K (.tup []) m)) False
      | _ => False
    | .rv (.one .esl) => K (.tup []) m
    | _ => False
  | .copy esz d s => ok (slElems m esz (s.ev e)) fun E => bB (Nat.beq E.length 0) (bB (isSl (d.ev e)) (K (vInt .i64 0) m) False)
      (match d.ev e with
      | .rv (.one (.row id e1 lo hi)) => ok (nth m id) fun bk => match bk with
        | .row e2 rows => bB (Nat.beq e1 esz && (Nat.beq e2 esz && (Nat.ble (hiOf hi rows.length) rows.length && (Nat.ble (lo + E.length) (hiOf hi rows.length) && noOwnRows E)))) (K (vInt .i64 (E.length : Int)) (setN m id (.row esz (splice rows lo E)))) False
        | _ => False
      | _ => False)
  | .fldx agg n sz x i => match i.ev e with
    | .rv (.one (.dat (.val (.int _ j)))) => match x.ev e with
      | .rv (.agg cs) => ok (idxZ j n) fun k => ok (readN cs (k * sz) sz) fun l => ok (mkR agg l) fun v => K v m
      | _ => False
    | _ => False
  | .rng x => match x.ev e with
    | .rv (.one (.map id)) => ok (nth m id) fun bk => match bk with
      | .mp es => ok (plainMs es) fun l => lenK m fun n => K (.rv (.one (.ptr n 0))) (app2 (setN m id .dead) [.it [] l])
      | _ => False
    | _ => False
  | .nxt x => match x.ev e with
    | .rv (.one (.ptr id 0)) => ok (nth m id) fun bk => match bk with
      | .it _ left => (left = [] → K (.tup [.one (.dat (.val (.bool false)))]) m) ∧ ∀ (i : Nat) (k v : Value) (left' : List (Value × Value)), left[i]? = some (k, v) → left' = left.eraseIdx i → K (.tup [.one (.dat (.val (.bool true))), .one (.dat (.val k)), .one (.dat (.val v))]) (setN m id (.it [(k, v)] left'))
      | _ => False
    | _ => False
  | .ent x => match x.ev e with
    | .rv (.one (.ptr id 0)) => ok (nth m id) fun bk => match bk with
      | .it (p :: _) _ => K (.tup [.one (.dat (.val p.1)), .one (.dat (.val p.2))]) m
      | _ => False
    | _ => False
  | .mkmap => lenK m fun n => K (.rv (.one (.map n))) (app2 m [.mp []])
  | .mkslice esz bytes z nx cx => ok (natX (nx.ev e)) fun l => ok (natX (cx.ev e)) fun c => bB (Nat.beq l c) (c * bytes ≤ 140737488355328 ∧ lenK m fun n => K (.rv (.one (.row n esz 0 none))) (app2 m [.row esz (repl l z)])) False
  | .mget z kk mx kx okF => match kx.ev e with
    | .rv (.one (.dat (.val kv))) => bB (kdOk kk kv) (ok (mapEs m (mx.ev e)) fun es => ok (mFind kv es) fun o => K (mgetV okF z o) m) False
    | _ => False
  | .mset kk mx kx vx => match mx.ev e with
    | .rv (.one (.map id)) => match kx.ev e with
      | .rv (.one (.dat (.val kv))) => bB (kdOk kk kv) (ok (nth m id) fun bk => match bk with
        | .mp es => ok (rvOf (vx.ev e)) fun v => ok (mSet kv v es) fun es' => K .undef (setN m id (.mp es'))
        | _ => False) False
      | _ => False
    | _ => False
  | _ => False

/-! ### the text of a function, taken down -/
def constC : Value → Option CC
  | .slice none 0 0 => some .esl
  | v => match plainV v with | true => some (.dat (.val v)) | false => none
def lowX : Operand → Option X
  | .tmp t => some (.t t)
  | .const v => (constC v).map fun c => .c (.rv (.one c))
  | .func f => some (.c (.rv (.one (.fn f []))))
  | .global _ => none
def lowXs : List Operand → Option (List X)
  | [] => some []
  | x :: r => do some ((← lowX x) :: (← lowXs r))
def lowXo : Option Operand → Option (Option X)
  | none => some none
  | some x => do some (some (← lowX x))
def szOf (P : Program) (t : TypeId) : Option Nat := (P.info? t).map (·.size)
def aggOf (P : Program) (t : TypeId) : Option Bool := (P.underlying t).map fun | .struct _ | .array _ _ => true | _ => false
def lowCells : List Value → Option (List CC)
  | [] => some []
  | v :: r => do some ((← constC v) :: (← lowCells r))
def zeroOf (P : Program) (t : TypeId) : Option (List CC) := do lowCells (← (← P.info? t).zero).cells.toList
def lowParts (P : Program) (fs : Array Field) : List (Nat × Operand) → Option (List (Nat × Nat × X))
  | [] => some []
  | (i, x) :: r => do
    let f ← fs[i]?
    some ((f.offset, ← szOf P f.type, ← lowX x) :: (← lowParts P fs r))
def lowPartsA (sz : Nat) : List (Nat × Operand) → Option (List (Nat × Nat × X))
  | [] => some []
  | (i, x) :: r => do some ((i * sz, sz, ← lowX x) :: (← lowPartsA sz r))
def lowPartsS : List (Nat × Operand) → Option (List (Nat × X))
  | [] => some []
  | (i, x) :: r => do some ((i, ← lowX x) :: (← lowPartsS r))
/-- the plain cells that the model's '==' on a type compares, one by one -/
def flatF (g : TypeId → Option (List Kd)) : List Field → Nat → Option (List Kd)
  | [], _ => some []
  | f :: r, off => if f.name ≠ "_" ∧ f.offset = off then
      match g f.type with
      | some ks => match flatF g r (off + ks.length) with
        | some ls => some (ks ++ ls)
        | none => none
      | none => none
    else none
def flatK (P : Program) : Nat → TypeId → Option (List Kd)
  | 0, _ => none
  | d + 1, t => match P.underlying t with
    | some .bool => if szOf P t = some 1 then some [.b] else none
    | some (.int _) => if szOf P t = some 1 then some [.i] else none
    | some .string => if szOf P t = some 1 then some [.s] else none
    | some (.struct fs) => if P.stoodInHeld t = false then
        match flatF (flatK P d) fs.toList 0 with
        | some ks => if szOf P t = some ks.length then some ks else none
        | none => none
      else none
    | _ => none
def kdOf (P : Program) (t : TypeId) : Option Ky :=
  match P.underlying t with
  | some (.int k) => some (.i k)
  | some .string => some .s
  | some .bool => some .b
  | _ => none
def zeroR (P : Program) (t : TypeId) : Option RV := do
  match (← (← P.info? t).zero) with
  | .agg cs => do some (.agg (← lowCells cs.toList))
  | v => do some (.one (← constC v))
def lowI0 (P : Program) (o : Oper) : Option I :=
  match o.op with
  | .move x | .assign x => do some (.mov (← lowX x))
  | .pick c a b => do some (.pick (← lowX c) (← lowX a) (← lowX b))
  | .alloc t => do some (.alloc (← zeroOf P t))
  | .box _ x => do some (.box (← lowX x))
  | .build t ps => do
    let z ← zeroOf P t
    match P.underlying t with
    | some (.struct fs) => if (fs.toList.mapM (fun f => (P.info? f.type).map fun i => (f.offset, i.size))).isSome then some (.build z (← lowParts P fs ps.toList)) else none
    | some (.array _ e) => some (.build z (← lowPartsA (← szOf P e) ps.toList))
    | _ => none
  | .buildSlice t n ps => do
    match P.underlying t with
    | some (.slice e) =>
      let z ← zeroOf P e
      if (← szOf P e) = z.length ∧ 0 < z.length ∧ n * z.length ≤ 2 ^ 24 then some (.bsl z.length z n (← lowPartsS ps.toList)) else none
    | _ => none
  | .load t a => do some (.load (← aggOf P t) (← szOf P t) (← lowX a))
  | .store t a x => do
    let n ← szOf P t
    if n = 0 then none else some (.store n (← lowX a) (← lowX x))
  | .fieldAddr t a k => do
    match P.underlying t with
    | some (.struct fs) =>
      let f ← fs[k]?
      if (← szOf P f.type) = 0 then none else some (.fadr f.offset (← lowX a))
    | _ => none
  | .field t a k => do
    match P.underlying t with
    | some (.struct fs) =>
      let f ← fs[k]?
      some (.fld (← aggOf P f.type) f.offset (← szOf P f.type) (← lowX a))
    | _ => none
  | .indexAddr t a i => do
    match P.underlying t with
    | some (.slice e) => some (.idx (← szOf P e) (← lowX a) (← lowX i))
    | some (.array n e) => some (.idxa n (← szOf P e) (← lowX a) (← lowX i))
    | _ => none
  | .index t a i => do
    match P.underlying t with
    | some .string => some (.sidx (← lowX a) (← lowX i))
    | some (.array n e) => some (.fldx (← aggOf P e) n (← szOf P e) (← lowX a) (← lowX i))
    | _ => none
  | .binOp op t x y _ => do
    match P.underlying t with
    | some (.int _) | some .string => some (.bin op (← lowX x) (← lowX y))
    | some (.slice _) => match y, op with
      | .const (.slice none 0 0), .eql => some (.snil false (← lowX x))
      | .const (.slice none 0 0), .neq => some (.snil true (← lowX x))
      | _, _ => none
    | some .bool => match op with
      | .eql => some (.beq false (← lowX x) (← lowX y))
      | .neq => some (.beq true (← lowX x) (← lowX y))
      | _ => none
    | some (.array n e) => match P.eqGuardType P.depth t, P.underlying e, szOf P e, op with
      | false, some (.int _), some 1, .eql => some (.eqa false (repl n .i) (← lowX x) (← lowX y))
      | false, some (.int _), some 1, .neq => some (.eqa true (repl n .i) (← lowX x) (← lowX y))
      | _, _, _, _ => none
    | some (.struct _) => match P.eqGuardType P.depth t, flatK P 5 t, op with
      | false, some ks, .eql => some (.eqa false ks (← lowX x) (← lowX y))
      | false, some ks, .neq => some (.eqa true ks (← lowX x) (← lowX y))
      | _, _, _ => none
    | _ => none
  | .unOp op _ x => do some (.un op (← lowX x))
  | .convert s d x => do
    match P.underlying s, P.underlying d with
    | some (.int _), some (.int k) => some (.conv k (← lowX x))
    | some .string, some .string => some (.idc (← lowX x))
    | some (.slice e), some .string => match P.underlying e with
      | some (.int .u8) => some (.b2s (← lowX x))
      | _ => none
    | some .string, some (.slice e) => match P.underlying e with
      | some (.int .u8) => some (.s2b (← lowX x))
      | _ => none
    | some (.slice _), some (.slice e) => match s == d, P.underlying e with
      | true, some (.int .u8) => some (.idb (← lowX x))
      | _, _ => none
    | _, _ => none
  | .makeMap t r => match r, P.underlying t with
    | none, _ => some .mkmap
    | some (.const (.int _ _)), some (.map _ _) => some .mkmap
    | _, _ => none
  | .makeSlice t l c => do
    match P.underlying t with
    | some (.slice e) =>
      let i ← P.info? e
      let z ← zeroOf P e
      if i.size = z.length ∧ 0 < z.length ∧ 0 < i.bytes then some (.mkslice i.size i.bytes z (← lowX l) (← lowX c)) else none
    | _ => none
  | .lookup t x k b => do
    match P.underlying t with
    | some (.map kt vt) => some (.mget (← zeroR P vt) (← kdOf P kt) (← lowX x) (← lowX k) b)
    | _ => none
  | .mapUpdate t x k v | .insert t x k v => do
    match P.underlying t with
    | some (.map kt _) => some (.mset (← kdOf P kt) (← lowX x) (← lowX k) (← lowX v))
    | _ => none
  | .makeFunc (.func f) fst caps => if fst.size = 0 then do some (.fn f (← lowXs caps.toList)) else none
  | .extract x i => do some (.ext (← lowX x) i)
  | .nilCheck x => do some (.nilc (← lowX x))
  | .range t x => match P.underlying t with
    | some (.map _ _) => do some (.rng (← lowX x))
    | _ => none
  | .next it false => do some (.nxt (← lowX it))
  | .entry it => do some (.ent (← lowX it))
  | .slice t x lo hi mx => do
    match P.underlying t with
    | some (.slice e) => some (.slc (← szOf P e) (← lowX x) (← lowXo lo) (← lowXo hi) (← lowXo mx))
    | some .string => match mx with
      | none => some (.strs (← lowX x) (← lowXo lo) (← lowXo hi))
      | some _ => none
    | _ => none
  | .call { callee := .builtin .len, args, argTypes } => do
    match args.toList, argTypes.toList with
    | [x], [t] => match P.underlying t with
      | some .string => some (.len 0 (← lowX x))
      | some (.slice _) => some (.len 1 (← lowX x))
      | some (.map _ _) => some (.len 2 (← lowX x))
      | _ => none
    | _, _ => none
  | .call { callee := .builtin .append, args, argTypes } => do
    match args.toList, argTypes.toList with
    | [x, y], [t, t2] => match P.underlying t, P.underlying t2 with
      | some (.slice e), some (.slice e2) =>
        let i ← P.info? e
        let z ← zeroOf P e
        if i.size = z.length ∧ 0 < z.length ∧ 0 < i.bytes then some (.app i.size i.bytes (← lowX x) (← lowX y)) else none
      | _, _ => none
    | _, _ => none
  | .call { callee := .builtin .max, args, .. } => do
    match args.toList with
    | [x, y] => some (.minmax true [← lowX x, ← lowX y])
    | _ => none
  | .call { callee := .builtin .min, args, .. } => do
    match args.toList with
    | [x, y] => some (.minmax false [← lowX x, ← lowX y])
    | _ => none
  | .call { callee := .builtin .clear, args, argTypes } => do
    match args.toList, argTypes.toList with
    | [x], [t] => match P.underlying t with
      | some (.slice e) =>
        let i ← P.info? e
        let z ← zeroOf P e
        if i.size = z.length then some (.clr i.size z (← lowX x)) else none
      | _ => none
    | _, _ => none
  | .call { callee := .builtin .copy, args, argTypes } => do
    match args.toList, argTypes.toList with
    | [x, y], [t, _] => match P.underlying t with
      | some (.slice e) =>
        let i ← P.info? e
        let z ← zeroOf P e
        if i.size = z.length then some (.copy i.size (← lowX x) (← lowX y)) else none
      | _ => none
    | _, _ => none
  | .call { callee := .value f, args, .. } => do some (.call (← lowX f) (← lowXs args.toList))
  | _ => none
/-- an instruction that isn't covered: it must not be come to -/
def trapI : I := .minmax true []
def lowI (P : Program) (o : Oper) : Option I :=
  match lowI0 P o with
  | some i => some i
  | none => match o.op with
    | .defer _ => none
    | _ => some trapI
theorem trap_no (P : Program) {e : List CV} {m : Mem} {K : CV → Mem → Prop} : step P trapI e m K = False := rfl
theorem lowI_cases {P : Program} {o : Oper} {i : I} (h : lowI P o = some i) : lowI0 P o = some i ∨ i = trapI := by
  unfold lowI at h
  split at h
  · rename_i j hj
    exact .inl (by rw [hj]; exact h)
  · split at h
    · cases h
    · cases h; exact .inr rfl

def lowG (ops : Array Oper) : Option (Nat × Bool) → Option (Option (Nat × Bool))
  | none => some none
  | some (j, b) => do some (some (← (← ops[j]?).dst, b))
def lowO (P : Program) (ops : Array Oper) (o : Oper) : Option LO := do some ⟨o.dst, ← lowI P o, ← lowG ops o.guard⟩
def lowOs (P : Program) (ops : Array Oper) : List Oper → Option (List LO)
  | [] => some []
  | o :: r => do some ((← lowO P ops o) :: (← lowOs P ops r))
/-! ### a region of which the order is open: a schedule, and why every order comes to the same -/
def I.xs : I → List X
  | .mov x => [x]
  | .pick c a b => [c, a, b]
  | .alloc _ => []
  | .box x => [x]
  | .build _ ps => ps.map fun p => p.2.2
  | .bsl _ _ _ ps => ps.map fun p => p.2
  | .load _ _ a => [a]
  | .store _ a x => [a, x]
  | .fadr _ a => [a]
  | .fld _ _ _ a => [a]
  | .idx _ a i => [a, i]
  | .idxa _ _ a i => [a, i]
  | .sidx a i => [a, i]
  | .bin _ x y => [x, y]
  | .eqa _ _ x y => [x, y]
  | .beq _ x y => [x, y]
  | .un _ x => [x]
  | .conv _ x => [x]
  | .idc x => [x]
  | .s2b x => [x]
  | .b2s x => [x]
  | .slc _ x lo hi mx => x :: (lo.toList ++ hi.toList ++ mx.toList)
  | .strs x lo hi => x :: (lo.toList ++ hi.toList)
  | .fn _ caps => caps
  | .len _ x => [x]
  | .app _ _ d s => [d, s]
  | .call f args => f :: args
  | .ext x _ => [x]
  | .nilc x => [x]
  | .snil _ x => [x]
  | .mkmap => []
  | .mkslice _ _ _ n c => [n, c]
  | .mget _ _ m k _ => [m, k]
  | .mset _ m k v => [m, k, v]
  | .minmax _ xs => xs
  | .mdel m k => [m, k]
  | .copy _ d s => [d, s]
  | .clr _ _ x => [x]
  | .fldx _ _ _ x i => [x, i]
  | .idb x => [x]
  | .rng x => [x]
  | .nxt x => [x]
  | .ent x => [x]
def slotsOf : List X → List Nat
  | [] => []
  | .t n :: r => n :: slotsOf r
  | .c _ :: r => slotsOf r
def LO.looks (lo : LO) : List Nat :=
  match lo.guard with
  | none => slotsOf lo.ins.xs
  | some (s, _) => s :: slotsOf lo.ins.xs
/-- whatever memory holds: the same -/
def pureI : I → Bool
  | .mov _ | .pick .. | .build .. | .fadr .. | .fld .. | .fldx .. | .idxa .. | .sidx .. | .bin .. | .eqa .. | .beq .. | .un .. | .conv .. | .idc .. | .fn .. | .ext .. | .nilc _ | .strs .. => true
  | _ => false
/-- memory is as it was -/
def quietI (i : I) : Bool := pureI i || match i with | .load .. | .idx .. | .len .. | .slc .. => true | _ => false
def maskOf (acc : List Nat) (l : List Nat) : Nat := l.foldr (fun j m => Nat.lor m (Nat.lor (Nat.shiftLeft 1 j) ((nth acc j).getD 0))) 0
def masks1 (aft : List (List Nat)) (acc : List Nat) : List Nat := aft.map (maskOf acc)
/-- what is ahead of what, as bits: round by round, until nothing comes to it -/
def masksN (aft : List (List Nat)) : Nat → List Nat → List Nat
  | 0, acc => acc
  | k + 1, acc => let a := masks1 aft acc; match a == acc with | true => acc | false => masksN aft k a
def masks (n : Nat) (aft : List (List Nat)) : List Nat := masksN aft n []
def hasM (ms : List Nat) (i j : Nat) : Bool := Nat.testBit ((nth ms i).getD 0) j
def writes (los : List LO) (t j : Nat) : Bool := match nth los j with | some lo => (match lo.dst with | some d => Nat.beq d t | none => false) | none => false
def looksI (los : List LO) (j : Nat) : List Nat := match nth los j with | some lo => lo.looks | none => []
def dstI (los : List LO) (j : Nat) : Option Nat := match nth los j with | some lo => lo.dst | none => none
def pureAt (los : List LO) (j : Nat) : Bool := match nth los j with | some lo => pureI lo.ins | none => false
def quietAt (los : List LO) (j : Nat) : Bool := match nth los j with | some lo => quietI lo.ins | none => false
def Sch.hd : Sch → List Nat
  | .nil => []
  | .cons i _ _ => [i]
  | .alt a b => a.hd ++ b.hd
def baseB (los : List LO) (ms : List Nat) (n : Nat) (bf : List Nat) (i : Nat) : Bool :=
  Nat.blt i n && !(bf.contains i) &&
    ((looksI los i).all fun t => bf.all fun j => !(writes los t j) || hasM ms i j) &&
    (match dstI los i with | none => true | some t => bf.all fun j => !(writes los t j) && (!((looksI los j).contains t) || hasM ms i j))
/-- whatever is left is one of these, or comes after one of them -/
def covB (ms : List Nat) (n : Nat) (bf hd : List Nat) : Bool := (List.range n).all fun i => bf.contains i || (hd.contains i || hd.any fun f => hasM ms i f)
def schedGo (los : List LO) (ms : List Nat) (n : Nat) : Bool → List Nat → Sch → Bool
  | c, bf, .nil => c && (List.range n).all fun i => bf.contains i
  | c, bf, .cons i none r => c && (baseB los ms n bf i && (quietAt los i && schedGo los ms n true (i :: bf) r))
  | c, bf, .cons i (some l) r => (!c || covB ms n bf [i]) && (baseB los ms n bf i && ((bf.all fun j => !(quietAt los j) || (hasM ms i j || (pureAt los j || l.contains j))) && schedGo los ms n true (i :: bf) r))
  | c, bf, .alt x y => (!c || covB ms n bf (x.hd ++ y.hd)) && (schedGo los ms n false bf x && schedGo los ms n false bf y)
/-- no circle -/
def ordGo (aft : List (List Nat)) (n : Nat) : List Nat → List Nat → Bool
  | bf, [] => (List.range n).all fun i => bf.contains i
  | bf, i :: r => Nat.blt i n && ((nth aft i).getD []).all (fun j => bf.contains j) && ordGo aft n (i :: bf) r
def kahn (aft : List (List Nat)) (n : Nat) : Nat → List Nat → List Nat
  | 0, _ => []
  | k + 1, bf => match (List.range n).find? fun i => !(bf.contains i) && ((nth aft i).getD []).all (fun j => bf.contains j) with
    | some i => i :: kahn aft n k (i :: bf)
    | none => []
def schedOk (los : List LO) (aft : List (List Nat)) (sched : Sch) : Bool :=
  ordGo aft los.length [] (kahn aft los.length los.length []) && schedGo los (masks los.length aft) los.length true [] sched
/-- a schedule: what makes no memory as early as may be -/
def quietNow (los : List LO) (ms : List Nat) (effs : List Nat) (done : List Nat) (i : Nat) : Bool :=
  !(done.contains i) && quietAt los i && effs.all fun f => done.contains f || !(hasM ms i f)
def consN : List Nat → Sch → Sch
  | [], r => r
  | i :: l, r => .cons i none (consN l r)
def altN : List Sch → Sch
  | [] => .nil
  | [x] => x
  | x :: r => .alt x (altN r)
def mkSched (los : List LO) (ms : List Nat) (all effs : List Nat) : Nat → List Nat → Sch
  | 0, _ => .nil
  | k + 1, done =>
    let now := all.filter (quietNow los ms effs done)
    let done' := now.reverse ++ done
    let left := effs.filter fun f => !(done.contains f)
    consN now (altN ((left.filter fun f => left.all fun g => Nat.beq g f || !(hasM ms f g)).map fun f =>
      .cons f (some (done'.filter fun j => quietAt los j && !(hasM ms f j || pureAt los j))) (mkSched los ms all effs k (f :: done'))))
def schedOf (los : List LO) (aft : List (List Nat)) : Sch :=
  let ms := masks los.length aft
  let all := List.range los.length
  let effs := all.filter fun i => !(quietAt los i)
  mkSched los ms all effs (effs.length + 1) []
def aftOf (md : Region.Mode) (ops : Array Oper) : List (List Nat) := ops.toList.map fun o => (o.after.toList.filter (Region.binds md)).map (·.on)
def modesOf (P : Program) (ops : Array Oper) : List Region.Mode := if (P.follows .mixedOrders || !(Region.departs ops)) = true then [.any] else [.text, .gc]
def schedsOf (P : Program) (los : List LO) (ops : Array Oper) : Option (List Sch) :=
  let ms := modesOf P ops
  let s := schedOf los (aftOf .any ops)
  if (ms.all fun md => schedOk los (aftOf md ops) s) = true then some [s]
  else
    let ss := ms.map fun md => schedOf los (aftOf md ops)
    if (ms.all fun md => ss.any fun s => schedOk los (aftOf md ops) s) = true then some ss else none

def lowC (P : Program) : Code → Option LC
  | .skip => some .skip
  | .region _ ops true => do
    let los ← lowOs P ops ops.toList
    some (.draw los (← schedsOf P los ops))
  | .region _ ops false => do some (.reg (← lowOs P ops ops.toList))
  | .seq a b => do some (.seq (← lowC P a) (← lowC P b))
  | .cond x a b => do some (.cond (← lowX x) (← lowC P a) (← lowC P b))
  | .block id b => do some (.block id (← lowC P b))
  | .loop b => do some (.loop (← lowC P b))
  | .exit id => some (.exit id)
  | .ret => some .ret
  | .rangeFunc f ps a c => do
    match ps.toList with
    | [p] =>
      let la ← lowC P a
      let lc ← lowC P c
      if (la.noRF && lc.noRF) = true then some (.rfun (← lowX f) p la lc) else none
    | _ => none
  | _ => none
def lowRes (P : Program) : List ResultVar → Option (List Rv)
  | [] => some []
  | .tmp t :: r => do some (.tmp t :: (← lowRes P r))
  | .cell a t :: r => do some (.cell (← aggOf P t) (← szOf P t) a :: (← lowRes P r))
def lowF (P : Program) (fn : Func) : Option LF := do
  some ⟨fn.ntmps, ← lowRes P fn.results.toList, ← lowC P (← fn.body)⟩

/-! ### the text's meaning -/
inductive Ex where
  | normal
  | exit (id : Nat)
  | ret

def put (d : Option Nat) (v : CV) (e : List CV) (K : List CV → Prop) : Prop :=
  match d with
  | none => K e
  | some d => fV v fun v => force (setN e d v) K

def aopsF (P : Program) (o : LO) (ih : (List CV → Mem → Prop) → List CV → Mem → Prop) (K : List CV → Mem → Prop) (e : List CV) (m : Mem) : Prop :=
    match o.guard with
    | none => step P o.ins e m fun v m' => force m' fun m' => put o.dst v e fun e' => ih K e' m'
    | some (s, want) =>
      match getE e s with
      | .undef => put o.dst .undef e fun e' => ih K e' m
      | .rv (.one (.dat (.val (.bool t)))) => bB t
        (force (setN e s (vBool true)) fun e => match want with
          | true => step P o.ins e m fun v m' => force m' fun m' => put o.dst v e fun e' => ih K e' m'
          | false => put o.dst .undef e fun e' => ih K e' m)
        (force (setN e s (vBool false)) fun e => match want with
          | false => step P o.ins e m fun v m' => force m' fun m' => put o.dst v e fun e' => ih K e' m'
          | true => put o.dst .undef e fun e' => ih K e' m)
      | _ => False
/-- by the recursor: the kernel, and whoever writes the proof, come to the same terms -/
def aops (P : Program) (l : List LO) : (List CV → Mem → Prop) → List CV → Mem → Prop :=
  @List.rec LO (fun _ => (List CV → Mem → Prop) → List CV → Mem → Prop) (fun K e m => K e m) (fun o _ ih K e m => aopsF P o ih K e m) l
theorem aops_nil {P : Program} {K : List CV → Mem → Prop} {e : List CV} {m : Mem} : aops P [] K e m = K e m := rfl
theorem aops_cons {P : Program} {o : LO} {r : List LO} {K : List CV → Mem → Prop} {e : List CV} {m : Mem} : aops P (o :: r) K e m = aopsF P o (aops P r) K e m := rfl

/-- one operation of a region of which the order is open: it is wanted, or not -/
def vstep (P : Program) (lo : LO) (e : List CV) (m : Mem) (K : List CV → CV → Mem → Prop) : Prop :=
  match lo.guard with
  | none => step P lo.ins e m fun v m' => force m' fun m' => K e v m'
  | some (s, want) => match getE e s with
    | .undef => K e .undef m
    | .rv (.one (.dat (.val (.bool t)))) => bB t
      (force (setN e s (vBool true)) fun e => match want with
        | true => step P lo.ins e m fun v m' => force m' fun m' => K e v m'
        | false => K e .undef m)
      (force (setN e s (vBool false)) fun e => match want with
        | false => step P lo.ins e m fun v m' => force m' fun m' => K e v m'
        | true => K e .undef m)
    | _ => False
def findP (j : Nat) : List (Nat × LO × List CV × CV) → Option (LO × List CV × CV)
  | [] => none
  | (i, x) :: r => match Nat.beq i j with | true => some x | false => findP j r
def chk (P : Program) (m : Mem) (pend : List (Nat × LO × List CV × CV)) (l : List Nat) : Prop :=
  @List.rec Nat (fun _ => Prop) True (fun j _ ih => (ok (findP j pend) fun x => vstep P x.1 x.2.1 m fun _ v _ => v = x.2.2) ∧ ih) l
theorem chk_nil {P : Program} {m : Mem} {pend : List (Nat × LO × List CV × CV)} : chk P m pend [] = True := rfl
theorem chk_cons {P : Program} {m : Mem} {pend : List (Nat × LO × List CV × CV)} {j : Nat} {r : List Nat} : chk P m pend (j :: r) = ((ok (findP j pend) fun x => vstep P x.1 x.2.1 m fun _ v _ => v = x.2.2) ∧ chk P m pend r) := rfl
def dopsF (P : Program) (los : List LO) (i : Nat) (eff : Option (List Nat)) (ih : List (Nat × LO × List CV × CV) → (List CV → Mem → Prop) → List CV → Mem → Prop)
    (pend : List (Nat × LO × List CV × CV)) (K : List CV → Mem → Prop) (e : List CV) (m : Mem) : Prop :=
  ok (nth los i) fun lo => vstep P lo e m fun e1 v m' => put lo.dst v e1 fun e' =>
    match eff with
    | none => ih ((i, lo, e, v) :: pend) K e' m'
    | some l => chk P m' pend l ∧ ih pend K e' m'
def dops (P : Program) (los : List LO) (sch : Sch) : List (Nat × LO × List CV × CV) → (List CV → Mem → Prop) → List CV → Mem → Prop :=
  @Sch.rec (fun _ => List (Nat × LO × List CV × CV) → (List CV → Mem → Prop) → List CV → Mem → Prop) (fun _ K e m => K e m)
    (fun i eff _ ih pend K e m => dopsF P los i eff ih pend K e m) (fun _ _ iha ihb pend K e m => iha pend K e m ∧ ihb pend K e m) sch
theorem dops_nil {P : Program} {los : List LO} {pend : List (Nat × LO × List CV × CV)} {K : List CV → Mem → Prop} {e : List CV} {m : Mem} : dops P los .nil pend K e m = K e m := rfl
theorem dops_cons {P : Program} {los : List LO} {i : Nat} {eff : Option (List Nat)} {r : Sch} {pend : List (Nat × LO × List CV × CV)} {K : List CV → Mem → Prop} {e : List CV} {m : Mem} :
    dops P los (.cons i eff r) pend K e m = dopsF P los i eff (dops P los r) pend K e m := rfl
theorem dops_alt {P : Program} {los : List LO} {a b : Sch} {pend : List (Nat × LO × List CV × CV)} {K : List CV → Mem → Prop} {e : List CV} {m : Mem} :
    dops P los (.alt a b) pend K e m = (dops P los a pend K e m ∧ dops P los b pend K e m) := rfl

def setX (x : X) (v : CV) (e : List CV) : List CV :=
  match x with
  | .t n => setN e n v
  | .c _ => e

/-- as much as is said of slots, and of memory -/
def Has : List CV → List (Nat × CV) → Prop
  | _, [] => True
  | e, (s, v) :: r => getE e s = v ∧ Has e r
def mkE : Nat → List (Nat × CV) → List CV
  | n, as => go n as (repl n .junk)
where go : Nat → List (Nat × CV) → List CV → List CV
  | _, [], e => e
  | n, (s, v) :: r, e => setN (go n r e) s v
inductive MemLe : Mem → Mem → Prop
  | nil (m : Mem) : MemLe m []
  | cons {b b' : Bk} {m m' : Mem} (h : b' = b ∨ b' = .dead) (hm : MemLe m m') : MemLe (b :: m) (b' :: m')

def CC.idsLt (n : Nat) : CC → Prop
  | .ptr id _ => id < n
  | .eptr id _ _ _ => id < n
  | .row id _ _ _ => id < n
  | .map id => id < n
  | .fn _ caps => ∀ id, id ∈ caps → id < n
  | _ => True
def RV.idsLt (n : Nat) : RV → Prop
  | .one c => c.idsLt n
  | .agg cs => ∀ c, c ∈ cs → c.idsLt n
def CV.idsLt (n : Nat) : CV → Prop
  | .rv r => r.idsLt n
  | .tup rs => ∀ r, r ∈ rs → r.idsLt n
  | _ => True
def Bk.idsLt (n : Nat) : Bk → Prop
  | .dead => True
  | .var cs => ∀ c, c ∈ cs → c.idsLt n
  | .row _ elems => ∀ cs, cs ∈ elems → ∀ c, c ∈ cs → c.idsLt n
  | .mp es => ∀ e, e ∈ es → e.val.idsLt n
  | .it _ _ => True

/-- less is said: some slots, memory's beginning -/
structure Weak (n0 : Nat) (s s' : St) : Prop where
  n0 : n0 ≤ s'.mem.length
  len : s'.env.length = s.env.length
  env : ∀ (i : Nat) v, s'.env[i]? = some v → v = .junk ∨ (s.env[i]? = some v ∧ (s'.mem.length = s.mem.length ∨ v.idsLt s'.mem.length))
  mem : MemLe s.mem s'.mem
  ids : s'.mem.length = s.mem.length ∨ ∀ b, b ∈ s'.mem → b.idsLt s'.mem.length

/-- between two ways of saying what is known of one world -/
structure Chg (n0 : Nat) (ρ : Rho) (m : Mem) (ρ' : Rho) (m' : Mem) : Prop where
  loc : ∀ id, id < n0 → ρ'.loc (.root id) = ρ.loc (.root id)
  S : ∀ b, ρ.S b → ρ'.S b
  S' : ∀ b, ρ'.S b → ρ.S b ∨ ∃ k, Live ρ m k ∧ (ρ.loc k).b = b
  live : ∀ k, Live ρ' m' k → ∃ k0, Live ρ m k0 ∧ (ρ.loc k0).b = (ρ'.loc k).b
/-- the same is said in another way, or less -/
structure View (n0 : Nat) (s s' : St) : Prop where
  hn : n0 ≤ s'.mem.length
  len : s'.env.length = s.env.length
  go : ∀ (ρ : Rho) (w : World), MemRel ρ s.mem w → ∃ ρ', MemRel ρ' s'.mem w ∧ Chg n0 ρ s.mem ρ' s'.mem ∧ ∀ (i : Nat) c', s'.env[i]? = some c' → ∃ c, s.env[i]? = some c ∧ ∀ v, DenV ρ w c v → DenV ρ' w c' v

def seqK (f : (Ex → St → Prop) → St → Prop) (K : Ex → St → Prop) (ex : Ex) (s : St) : Prop :=
  match ex with
  | .normal => f K s
  | .exit id => K (.exit id) s
  | .ret => K .ret s
def blockK (id : Nat) (K : Ex → St → Prop) (ex : Ex) (s : St) : Prop :=
  match ex with
  | .normal => K .normal s
  | .exit id' => bB (Nat.beq id' id) (K .normal s) (K (.exit id') s)
  | .ret => K .ret s
def loopK (n0 : Nat) {α : Type} (J : α → Prop) (S : α → St) (μ : α → Nat) (n : Nat) (K : Ex → St → Prop) (ex : Ex) (s : St) : Prop :=
  match ex with
  | .normal => ∃ a, J a ∧ μ a < n ∧ View n0 s (S a)
  | .exit id => K (.exit id) s
  | .ret => K .ret s
def regK (K : Ex → St → Prop) (e : List CV) (m : Mem) : Prop := K .normal ⟨e, m⟩

/-- a captured cell's block says nothing any more -/
def killL : Mem → List Nat → Mem
  | m, [] => m
  | m, id :: r => killL (setN m id .dead) r
def capsAre (m : Mem) : List Nat → List Value → Prop
  | [], [] => True
  | id :: r, v :: vs => (nth m id = some (.var [.dat (.val v)]) ∧ plainV v = true) ∧ capsAre m r vs
  | _, _ => False
/-- the pointers to captured cells -/
def capPtrs (as : List (Nat × Nat)) : List Value := as.map fun a => Value.pointer (some ⟨a.1, a.2, none⟩)
/-- a call of yield: a round -/
def YldAt (P : Program) (l : Nat) (args : Array Value) (W : World) (R : Ending → World → Prop) : Prop :=
  ∃ fn tmps assign body, (Instr.yield l args).run P W = .ok (.round l fn tmps assign body) W ∧ RoundIn Fence.wide 0 P l fn tmps assign body W R
/-- **WHAT A FUNCTION THAT IS RANGED OVER DOES**: strings come, one by one; it writes no block but its captured cells' -/
def SeqP (P : Program) (gf : Nat) (cs : List Value) (xs : List ByteArray) : Prop :=
  (∃ fn, P.funcs[gf]? = some fn ∧ fn.body.isSome = true ∧ (fn.name == "runtime.NumGoroutine") = false) ∧
  ∀ (l : Nat) (as : List (Nat × Nat)) (W : World) (J : Nat → World → Prop) (Jx : World → Prop), as.length = cs.length → (as.map (·.1)).Nodup →
    (∀ (i : Nat) a v, as[i]? = some a → cs[i]? = some v → W.cell? ⟨a.1, a.2, none⟩ = some v ∧ W.frozen? ⟨a.1, a.2, none⟩ = false) →
    (∀ k W W', J k W → W.heap.size ≤ W'.heap.size → (∀ b, b < W.heap.size → (∀ a, a ∈ as → b ≠ a.1) → W'.heap[b]? = W.heap[b]?) → W'.os = W.os → W'.tape = W.tape → W'.output = W.output → J k W') →
    (∀ W W', Jx W → W.heap.size ≤ W'.heap.size → (∀ b, b < W.heap.size → (∀ a, a ∈ as → b ≠ a.1) → W'.heap[b]? = W.heap[b]?) → W'.os = W.os → W'.tape = W.tape → W'.output = W.output → Jx W') →
    (∀ k y W, xs[k]? = some y → J k W → YldAt P l #[.string y] W fun e W' =>
      (e = .returned (.bool true) ∧ J (k + 1) W' ∧ W.heap.size ≤ W'.heap.size ∧ ∀ a, a ∈ as → W'.heap[a.1]? = W.heap[a.1]?) ∨ (e = .returned (.bool false) ∧ Jx W')) →
    J 0 W →
    CallsIn Fence.wide 0 P gf (#[.func (.yield l) #[] #[]] ++ (capPtrs as).toArray) W fun e W' => (∃ v, e = .returned v) ∧ (J xs.length W' ∨ Jx W')
/-- how a round is left -/
def rndK (n0 : Nat) {α : Type} (J : Nat → α → Prop) (S : α → St) (k : Nat) (env : List CV) (K : Ex → St → Prop) (ex : Ex) (s : St) : Prop :=
  match ex with
  | .normal => ∃ a, J (k + 1) a ∧ View n0 ⟨env, s.mem⟩ (S a)
  | .exit id => K (.exit id) ⟨env, s.mem⟩
  | .ret => K .ret ⟨env, s.mem⟩

def dall (P : Program) (los : List LO) (K : Ex → St → Prop) (s : St) : List Sch → Prop
  | [] => True
  | [x] => dops P los x [] (regK K) s.env s.mem
  | x :: y :: r => dops P los x [] (regK K) s.env s.mem ∧ dall P los K s (y :: r)

def aw (P : Program) (n0 : Nat) : LC → (Ex → St → Prop) → St → Prop
  | .skip, K, s => K .normal s
  | .reg ops, K, s => aops P ops (regK K) s.env s.mem
  | .draw los scheds, K, s => dall P los K s scheds
  | .seq a b, K, s => aw P n0 a (seqK (aw P n0 b) K) s
  | .cond x a b, K, s => match x.ev s.env with
    | .rv (.one (.dat (.val (.bool t)))) => bB t
      (force (setX x (vBool true) s.env) fun e => aw P n0 a K ⟨e, s.mem⟩)
      (force (setX x (vBool false) s.env) fun e => aw P n0 b K ⟨e, s.mem⟩)
    | _ => False
  | .block id b, K, s => aw P n0 b (blockK id K) s
  | .loop b, K, s => ∃ (α : Type) (J : α → Prop) (S : α → St) (μ : α → Nat), (∃ a, J a ∧ View n0 s (S a)) ∧ ∀ a, J a → aw P n0 b (loopK n0 J S μ (μ a) K) (S a)
  | .exit id, K, s => K (.exit id) s
  | .ret, K, s => K .ret s
  | .ghost a, K, s => ∃ s', View n0 s s' ∧ aw P n0 a K s'
  | .rfun x p la lb, K, s => ∃ (gf : Nat) (ids : List Nat) (cs : List Value) (xs : List ByteArray) (α : Type) (J : Nat → α → Prop) (S : α → St),
      x.ev s.env = .rv (.one (.fn gf ids)) ∧ capsAre s.mem ids cs ∧ (ids.Nodup ∧ ids ≠ []) ∧ SeqP P gf cs xs ∧ (∃ a, J 0 a ∧ View n0 ⟨s.env, killL s.mem ids⟩ (S a)) ∧
      (∀ k y a, xs[k]? = some y → J k a → lenK (S a).mem fun n1 => aw P n1 la (fun ex s2 => match ex with
        | .normal => lenK s2.mem fun n2 => aw P n2 lb (rndK n0 J S k (S a).env K) s2
        | _ => False) ⟨setN (S a).env p (vStr y), (S a).mem⟩) ∧
      ∀ a, J xs.length a → K .normal (S a)

/-- the results -/
def resR (P : Program) (s : St) : List Rv → (List RV → Prop) → Prop
  | [], K => K []
  | .tmp t :: r, K => ok (rvOf (getE s.env t)) fun v => resR P s r fun vs => K (v :: vs)
  | .cell agg n t :: r, K => loadA s.env s.mem agg n (getE s.env t) fun v => ok (rvOf v) fun v => resR P s r fun vs => K (v :: vs)
def retV : List RV → CV
  | [r] => .rv r
  | rs => .tup rs
def endK (P : Program) (res : List Rv) (K : CV → Mem → Prop) (ex : Ex) (s : St) : Prop :=
  match ex with
  | .exit _ => False
  | _ => resR P s res fun vs => K (retV vs) s.mem
def body (P : Program) (lf : LF) (args : List CV) (m : Mem) (K : CV → Mem → Prop) : Prop :=
  force (app2 args (repl (lf.n - args.length) .undef)) fun e => lenK m fun n0 => aw P n0 lf.code (endK P lf.res K) ⟨e, m⟩

end Go.AM
