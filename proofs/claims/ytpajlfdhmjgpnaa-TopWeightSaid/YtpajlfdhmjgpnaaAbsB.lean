/-
  Abstract states, what each operation does to them, and when a call gives its result.
  Conditions: none.
-/
import Derived.Test.YtpajlfdhmjgpnaaGlob
import Derived.Laws.BytesArg
namespace Go.Proofs.Ytpajlfdhmjgpnaa
open Go Go.RowKit
set_option linter.unusedVariables false

/-! ### small words -/
def updE {α : Type} (f : Nat → α) (d : Nat) (v : α) : Nat → α := fun i => if i = d then v else f i
def byteN (s : ByteArray) (k : Nat) : Int := ((s.data.toList.getD k 0).toNat : Int)
def sLt (a b : ByteArray) : Bool := Op.bytesLess a.toList b.toList
def splice {α : Type} (cs : List α) (off : Nat) (c : List α) : List α := cs.take off ++ c ++ cs.drop (off + c.length)
def pack (g : Bool) (cs : List AC) : AV := if g then .agg cs else match cs with | [c] => .one c | _ => .any

/-- Cells that may lie in memory that stays. -/
def stC (S : AStore) : AC → Option SV
  | .st c => some c
  | .full xs => some (.list xs)
  | .row id n => match S id with
    | some (.arow _ _ xs) => if n = xs.length then some (.list xs) else none
    | _ => none
  | .fn f [] => some (.lit (.func (.func f) #[] #[]))
  | _ => none
def stCs (S : AStore) : List AC → Option (List SV)
  | [] => some []
  | c :: cs => match stC S c, stCs S cs with
    | some x, some xs => some (x :: xs)
    | _, _ => none
/-- The same for a callee: addresses of what stays may go along. -/
def outC (S : AStore) : AC → Option AC
  | .eptr cs => some (.eptr cs)
  | .ubool => some .ubool
  | .fn f [] => some (.fn f [])
  | c => (stC S c).map .st
def outCs (S : AStore) : List AC → Option (List AC)
  | [] => some []
  | c :: cs => match outC S c, outCs S cs with
    | some x, some xs => some (x :: xs)
    | _, _ => none
mutual
def outV (S : AStore) : AV → Option AV
  | .one c => (outC S c).map .one
  | .agg cs => (outCs S cs).map .agg
  | .tup vs => (outVs S vs).map .tup
  | .any => some .any
def outVs (S : AStore) : List AV → Option (List AV)
  | [] => some []
  | v :: vs => match outV S v, outVs S vs with
    | some x, some xs => some (x :: xs)
    | _, _ => none
end

/-! ### states -/
structure AS where
  env : Nat → AV
  S : AStore
inductive Opd where
  | t (i : Nat)
  | c (v : AV)
def AS.ev (s : AS) : Opd → AV
  | .t i => s.env i
  | .c v => v
def AS.put (s : AS) (d : Option Nat) (v : AV) : AS := match d with
  | some d => ⟨updE s.env d v, s.S⟩
  | none => s
def AS.set (s : AS) (id : Nat) (b : ABlk) : AS := ⟨s.env, updE s.S id (some b)⟩

def blkCells (S : AStore) (id m k : Nat) : Option (List AC) := match S id with
  | some (.box _ cs) => if k = 0 ∧ m = 1 then some cs else none
  | some (.mrow _ _ xs) => if m = xs.length then (xs[k]?).map (·.map .st) else none
  | _ => none

/-! ### what a call gives -/
def ACalls (P : Program) (f : FuncId) (xs : List AV) (r : AV) : Prop :=
  ∀ (σ : Sto) (w : World) (vs : List Value), GlobIn σ → Fit σ w → All2 (VRep σ noS noH) vs xs →
    Calls P f vs.toArray w fun e w' => ∃ v σ', e = .returned v ∧ VRep σ' noS noH v r ∧ Fit σ' w' ∧ Ext w.heap.size σ σ' ∧ Below w.heap.size w w'

/-- The blocks that a call has in hand. -/
def Owned (σ : Sto) (S : AStore) (ι : AHnd) (w : World) : Prop := (∀ id b, S id = some b → BRep σ S ι w (ι id) b) ∧ ∀ id id' b b' g, S id = some b → S id' = some b' → (ι id).g = some g → (ι id').g = some g → id = id'
def notOf (S : AStore) (ι : AHnd) (g : Nat) : Prop := ∀ id b, S id = some b → (ι id).g ≠ some g
/-- What a call gives that turns blocks of its caller: S behind it is S'. -/
def ACallsS (P : Program) (f : FuncId) (xs : List AV) (S : AStore) (r : AV) (S' : AStore) : Prop :=
  Clean S → ∀ (σ : Sto) (w : World) (vs : List Value) (ι : AHnd), GlobIn σ → Fit σ w → Owned σ S ι w → All2 (VRep σ S ι) vs xs →
    Calls P f vs.toArray w fun e w' => ∃ v σ' ι', e = .returned v ∧ Clean S' ∧ Upd S ι S' ι' ∧ Owned σ' S' ι' w' ∧ VRep σ' S' ι' v r ∧ Fit σ' w' ∧ (∀ p x, σ p = some x → σ' p = some x) ∧
      (∀ p : Addr, p.block < w.heap.size → notOf S ι p.block → σ' p = σ p) ∧ (w'.os = w.os ∧ w'.tape = w.tape ∧ w'.output = w.output) ∧ w.heap.size ≤ w'.heap.size ∧
      (∀ g, g < w.heap.size → notOf S ι g → w'.heap[g]? = w.heap[g]?) ∧ (∀ id b g, S' id = some b → (ι' id).g = some g → w.heap.size ≤ g ∨ ¬ notOf S ι g)
/-- What a call gives that hands over a new row. -/
def ACallsN (P : Program) (f : FuncId) (xs : List AV) (e : TypeId) (w : Nat) (ys : List (List SV)) : Prop := ACallsS P f xs noS (.one (.row 1000 ys.length)) (fun i => if i = 1000 then some (.arow e w ys) else noS i)
abbrev CallNK (P : Program) (f : FuncId) (vs : List AV) (k : TypeId → Nat → List (List SV) → Prop) : Prop := ∃ e w ys, ACallsN P f vs e w ys ∧ k e w ys
/-- A call stands ahead: a contract is to be given; what stands behind it is out of sight till then. -/
abbrev CallK (P : Program) (f : FuncId) (vs : List AV) (k : AV → Prop) : Prop := ∃ r, ACalls P f vs r ∧ k r
abbrev CallSK (P : Program) (f : FuncId) (vs : List AV) (S : AStore) (k : AV → AStore → Prop) : Prop := ∃ r S', ACallsS P f vs S r S' ∧ k r S'
/-- A call that reads blocks of its caller, and leaves all as they are: of the blocks named in rows it needs what they hold. -/
abbrev CallRK (P : Program) (f : FuncId) (vs : List AV) (S : AStore) (k : AV → Prop) : Prop := ∃ (r : AV) (rows : List (Nat × ABlk)), (∀ q ∈ rows, S q.1 = some q.2) ∧ (∀ T : AStore, (∀ q ∈ rows, T q.1 = some q.2) → ACallsS P f vs (upS T) r (upS T)) ∧ k (r.ren dn1)
theorem CallK.congr {P : Program} {f : FuncId} {vs vs' : List AV} {k : AV → Prop} (h : vs = vs') : CallK P f vs k = CallK P f vs' k := by rw [h]
theorem CallSK.congr {P : Program} {f : FuncId} {vs vs' : List AV} {S S' : AStore} {k : AV → AStore → Prop} (h : vs = vs') (h' : S = S') : CallSK P f vs S k = CallSK P f vs' S' k := by rw [h, h']
def plainF (P : Program) (f : FuncId) : Bool := match P.funcs[f]? with
  | some fn => !(fn.name == "runtime.NumGoroutine") && fn.body.isSome
  | none => false

/-! ### operations -/
inductive Kd where
  | mov (x : Opd)
  | pick (c x y : Opd)
  | alloc (e : TypeId) (z : List AC)
  | box (e : TypeId) (x : Opd)
  | build (z : List AC) (ps : List (Nat × Nat × Opd))
  | buildSlice (mu : Bool) (e w : Nat) (xs : List Opd)
  | load (g : Bool) (n : Nat) (x : Opd)
  | store (n : Nat) (x v : Opd)
  | fieldAddr (off : Nat) (x : Opd)
  | field (g : Bool) (off n : Nat) (x : Opd)
  | indexAddr (w : Nat) (x i : Opd)
  | indexArr (n w : Nat) (x i : Opd)
  | indexStr (x i : Opd)
  | bin (op : BinOp) (x y : Opd)
  | eqB (neg : Bool) (x y : Opd)
  | eqN (neg : Bool) (x : Opd)
  | eqE (neg : Bool) (x : Opd)
  | never
  | strOf (x : Opd)
  | un (op : UnOp) (x : Opd)
  | sliceS (x : Opd) (lo hi : Option Opd)
  | sliceL (w : Nat) (x : Opd) (lo hi : Option Opd)
  | extract (i : Nat) (x : Opd)
  | len (str : Bool) (x : Opd)
  | append (mu : Bool) (e w bytes : Nat) (s x : Opd)
  | call (f : Nat) (xs : List Opd)
  | conv (k : IntKind) (x : Opd)
  | nilCheck (x : Opd)
  | mm (mx : Bool) (x y : Opd)
  | makeSlice (e w bytes : Nat) (z : List SV) (x y : Opd)
  | makeFunc (g : Nat) (caps : List Opd)
  | callS (f : Nat) (xs : List Opd)
  | callV (f : Opd) (xs : List Opd)
  | callN (f : Nat) (xs : List Opd)
  | callR (f : Nat) (xs : List Opd)
  | buildFlat (xs : List Opd)
  | cutP (w : Nat) (x hi : Opd)
  | indexP (w : Nat) (x i : Opd)
  | appP (e w bytes : Nat) (x y : Opd)
  | restP (w : Nat) (x lo : Opd)
  | clearP (e w : Nat) (z : List SV) (x : Opd)
  | makeMap (kt : Option IntKind)
  | lookup (kt : Option IntKind) (ok : Bool) (z : AV) (m k : Opd)
  | mapSet (kt : Option IntKind) (m k v : Opd)
  | mapEntry (kt : Option IntKind) (z : AV) (m k : Opd)
  | entrySet (m i v : Opd)
  | rangeM (m : Opd)
  | next (x : Opd)
  | entry (x : Opd)
  | lenM (m : Opd)
/-! ### maps -/
def mGet : List (KV × AV) → KV → Option AV
  | [], _ => none
  | x :: es, k => if x.1 = k then some x.2 else mGet es k
/-- Where an entry lies (how many there are, if it is not there). -/
def mAt : List (KV × AV) → KV → Nat
  | [], _ => 0
  | x :: es, k => if x.1 = k then 0 else mAt es k + 1
def mPut : List (KV × AV) → KV → AV → List (KV × AV)
  | [], k, v => [(k, v)]
  | x :: es, k, v => if x.1 = k then (k, v) :: es else x :: mPut es k v
def mNew (es : List (KV × AV)) (k : KV) (z : AV) : List (KV × AV) := match mGet es k with
  | some _ => es
  | none => es ++ [(k, z)]
def mapOf (S : AStore) : AV → Option (Nat × Option IntKind × List (KV × AV))
  | .one (.mptr id) => match S id with
    | some (.map kt es) => some (id, kt, es)
    | _ => none
  | _ => none
/-- A walk through a map: its block, the map's block, how many entries, which are met; what the map holds. -/
def iterOf (S : AStore) : AV → Option ((Nat × Nat × List Nat) × Option IntKind × List (KV × AV))
  | .one (.ptr id 1 0 0) => match S id with
    | some (.iter (.mptr m) n seen) => match S m with
      | some (.map kt es) => if es.length = n then some ((id, m, seen), kt, es) else none
      | _ => none
    | _ => none
  | _ => none
def keyOf (kt : Option IntKind) : AV → Option KV
  | .one (.st c) => KV.of kt c
  | _ => none
def lookA (ok : Bool) (z : AV) : Option AV → AV
  | some v => if ok then .tup [v, .one (.st (.bool true))] else v
  | none => if ok then .tup [z, .one (.st (.bool false))] else z

/-- What a walk must show of an operation besides: its pointer is to the block id; it leaves the blocks ks as they are. -/
inductive Tag where
  | no
  | onb (id : Nat)
  | keeps (ks : List Nat)
structure Ins where
  dst : Option Nat
  guard : Option (Nat × Bool)
  kd : Kd
  tag : Tag

def fills (s : AS) (cs : List AC) : List (Nat × Nat × Opd) → Option (List AC)
  | [] => some cs
  | (off, n, x) :: ps => match (s.ev x).cells with
    | some c => if c.length = n ∧ off + n ≤ cs.length then fills s (splice cs off c) ps else none
    | none => none
def elems (s : AS) (w : Nat) : List Opd → Option (List (List SV))
  | [] => some []
  | x :: xs => match (s.ev x).cells with
    | some c => match stCs s.S c, elems s w xs with
      | some c', some es => if c'.length = w then some (c' :: es) else none
      | _, _ => none
    | none => none
/-- The same of plain things, of one cell each. -/
def flats (s : AS) : List Opd → Option (List (List SV))
  | [] => some []
  | x :: xs => match s.ev x, flats s xs with
    | .one (.st c), some es => some ([c] :: es)
    | _, _ => none
def AS.evs (s : AS) : List Opd → List AV
  | [] => []
  | x :: xs => s.ev x :: AS.evs s xs
/-- Cells that a closure takes along. -/
def AS.caps (s : AS) : List Opd → Option (List AC)
  | [] => some []
  | x :: xs => match s.ev x, s.caps xs with
    | .one c, some cs => some (c :: cs)
    | _, _ => none
def binI (op : BinOp) (k : IntKind) (x y : Int) (K : SV → Prop) : Prop := match op with
  | .add => inR k (x + y) ∧ K (.int k (x + y))
  | .sub => inR k (x - y) ∧ K (.int k (x - y))
  | .mul => inR k (x * y) ∧ K (.int k (x * y))
  | .quo => y ≠ 0 ∧ inR k (x.tdiv y) ∧ K (.int k (x.tdiv y))
  | .rem => y ≠ 0 ∧ inR k (x.tmod y) ∧ K (.int k (x.tmod y))
  | .eql => K (.bool (decide (x = y)))
  | .neq => K (.bool (decide (¬ x = y)))
  | .lss => K (.bool (decide (x < y)))
  | .leq => K (.bool (decide (x ≤ y)))
  | .gtr => K (.bool (decide (y < x)))
  | .geq => K (.bool (decide (y ≤ x)))
  | .shr => (0 ≤ y ∧ y.toNat ≤ k.bits) ∧ inR k (x.fdiv (2 ^ y.toNat)) ∧ K (.int k (x.fdiv (2 ^ y.toNat)))
  | _ => False
def binS (op : BinOp) (x y : ByteArray) (K : SV → Prop) : Prop := match op with
  | .add => x.size + y.size ≤ maxLen ∧ K (.str (x ++ y))
  | .eql => K (.bool (decide (x = y)))
  | .neq => K (.bool (decide (¬ x = y)))
  | .lss => K (.bool (sLt x y))
  | .leq => K (.bool (sLt x y || decide (x = y)))
  | .gtr => K (.bool !(sLt x y || decide (x = y)))
  | .geq => K (.bool !(sLt x y))
  | _ => False
def optI (s : AS) (d : Int) : Option Opd → Option Int
  | none => some d
  | some x => match s.ev x with
    | .one (.st (.int _ n)) => some n
    | _ => none
def idxK {α : Type} (xs : List α) (n : Int) (K : α → Prop) : Prop := 0 ≤ n ∧ match xs[n.toNat]? with
  | some x => K x
  | none => False
def lenOfA (S : AStore) (str : Bool) : AC → Option Int
  | .st (.list xs) => if str then none else some xs.length
  | .st (.str b) => if str then some b.size else none
  | .full xs => if str then none else some xs.length
  | .row id n => match S id with
    | some (.arow _ _ xs) => if str = false ∧ n = xs.length then some n else none
    | some (.mrow _ _ xs) => if str = false ∧ n = xs.length then some n else none
    | _ => none
  | .part id k n => match S id with
    | some (.mrow _ _ xs) => if str = false ∧ n = xs.length then some k else none
    | _ => none
  | _ => none
/-- The things of a slice. -/
def listOf (S : AStore) : AC → Option (List (List SV))
  | .st (.list xs) => some xs
  | .full xs => some xs
  | .row id n => match S id with
    | some (.arow _ _ xs) => if n = xs.length then some xs else none
    | some (.mrow _ _ xs) => if n = xs.length then some xs else none
    | _ => none
  | _ => none

/-- The numbers of a row of bytes. -/
def bytesOf : List (List SV) → Option (List Int)
  | [] => some []
  | [.int .u8 n] :: r => (bytesOf r).map (n :: ·)
  | _ => none
/-- The first things of a row, or all of it. -/
def cutOf : AV → Option (Nat × Nat × Nat)
  | .one (.part id k m) => some (id, k, m)
  | .one (.row id m) => some (id, m, m)
  | _ => none
def Kd.go (P : Program) (d : Nat) (s : AS) (K : AV → AS → Prop) : Kd → Prop
  | .mov x => K (s.ev x) s
  | .pick c x y => match s.ev c with
    | .one (.st (.bool t)) => (t = true → K (s.ev x) s) ∧ (t = false → K (s.ev y) s)
    | _ => False
  | .alloc e z => s.S d = none ∧ K (.one (.ptr d 1 0 0)) (s.set d (.box e z))
  | .box e x => match (s.ev x).cells with
    | some cs => s.S d = none ∧ K (.one (.ptr d 1 0 0)) (s.set d (.box e cs))
    | none => False
  | .build z ps => match fills s z ps with
    | some cs => K (.agg cs) s
    | none => False
  | .buildSlice mu e w xs => match elems s w xs with
    | some es => if mu then s.S d = none ∧ K (.one (.row d es.length)) (s.set d (.mrow e w es)) else K (.one (.full es)) s
    | none => False
  | .buildFlat xs => match flats s xs with
    | some es => K (.one (.full es)) s
    | none => False
  | .load g n x => match s.ev x with
    | .one (.eptr cs) => n ≤ cs.length ∧ K (pack g ((cs.take n).map .st)) s
    | .one (.ptr id m k off) => match blkCells s.S id m k with
      | some cs => off + n ≤ cs.length ∧ K (pack g ((cs.drop off).take n)) s
      | none => False
    | _ => False
  | .store n x v => match s.ev x, (s.ev v).cells with
    | .one (.ptr id m k off), some c => match s.S id with
      | some (.box e cs) => (k = 0 ∧ m = 1) ∧ c.length = n ∧ off + n ≤ cs.length ∧ K .any (s.set id (.box e (splice cs off c)))
      | some (.mrow e w xs) => match stCs s.S c, xs[k]? with
        | some c', some x => m = xs.length ∧ c'.length = n ∧ off + n ≤ x.length ∧ K .any (s.set id (.mrow e w (xs.set k (splice x off c'))))
        | _, _ => False
      | _ => False
    | _, _ => False
  | .fieldAddr off x => match s.ev x with
    | .one (.eptr cs) => K (.one (.eptr (cs.drop off))) s
    | .one (.ptr id m k o) => match s.S id with
      | some b => m = b.len ∧ K (.one (.ptr id m k (o + off))) s
      | none => False
    | _ => False
  | .field g off n x => match s.ev x with
    | .agg cs => off + n ≤ cs.length ∧ K (pack g ((cs.drop off).take n)) s
    | _ => False
  | .indexAddr w x i => match s.ev x, s.ev i with
    | .one c, .one (.st (.int _ n)) => match c with
      | .st (.list xs) => idxK xs n fun x => x.length = w ∧ K (.one (.eptr x)) s
      | .full xs => idxK xs n fun x => x.length = w ∧ K (.one (.eptr x)) s
      | .row id m => match s.S id with
        | some (.arow _ w' xs) => m = xs.length ∧ w' = w ∧ idxK xs n fun x => K (.one (.eptr x)) s
        | some (.mrow _ w' xs) => m = xs.length ∧ w' = w ∧ 0 ≤ n ∧ n.toNat < xs.length ∧ K (.one (.ptr id m n.toNat 0)) s
        | _ => False
      | _ => False
    | _, _ => False
  | .indexArr n w x i => match s.ev x, s.ev i with
    | .one (.eptr cs), .one (.st (.int _ k)) => (0 ≤ k ∧ k < n) ∧ K (.one (.eptr (cs.drop (k.toNat * w)))) s
    | .one (.ptr id m b o), .one (.st (.int _ k)) => match s.S id with
      | some bl => (0 ≤ k ∧ k < n) ∧ m = bl.len ∧ K (.one (.ptr id m b (o + k.toNat * w))) s
      | none => False
    | _, _ => False
  | .indexStr x i => match s.ev x, s.ev i with
    | .one (.st (.str b)), .one (.st (.int _ n)) => (0 ≤ n ∧ n.toNat < b.size) ∧ K (.one (.st (.int .u8 (byteN b n.toNat)))) s
    | _, _ => False
  | .bin op x y => match s.ev x, s.ev y with
    | .one (.st (.int k a)), .one (.st (.int k' b)) => k = k' ∧ binI op k a b fun v => K (.one (.st v)) s
    | .one (.st (.str a)), .one (.st (.str b)) => binS op a b fun v => K (.one (.st v)) s
    | _, _ => False
  | .never => False
  | .strOf x => match s.ev x with
    | .one (.full ys) => match bytesOf ys with
      | some ns => (0 < ns.length ∧ ns.length ≤ maxLen) ∧ K (.one (.st (.str (strOfNums ns)))) s
      | none => False
    | _ => False
  | .eqN neg x => match s.ev x with
    | .one (.st (.list xs)) => K (.one (if xs.length = 0 then .ubool else .st (.bool neg))) s
    | _ => False
  | .eqE neg x => match s.ev x with
    | .one (.st .err) => K (.one (.st (.bool neg))) s
    | .one (.st (.lit .nilIface)) => K (.one (.st (.bool !neg))) s
    | _ => False
  | .eqB neg x y => match s.ev x, s.ev y with
    | .one (.st (.bool a)), .one (.st (.bool b)) => K (.one (.st (.bool (if neg then !(a == b) else a == b)))) s
    | _, _ => False
  | .un op x => match op, s.ev x with
    | .not, .one (.st (.bool b)) => K (.one (.st (.bool !b))) s
    | .neg, .one (.st (.int k n)) => inR k (0 - n) ∧ K (.one (.st (.int k (0 - n)))) s
    | _, _ => False
  | .sliceS x lo hi => match s.ev x with
    | .one (.st (.str b)) => match optI s 0 lo, optI s b.size hi with
      | some l, some h => (0 ≤ l ∧ l ≤ h ∧ h ≤ b.size) ∧ K (.one (.st (.str (b.extract l.toNat h.toNat)))) s
      | _, _ => False
    | _ => False
  | .sliceL w x lo hi => match s.ev x with
    | .one c => match stC s.S c with
      | some (.list xs) => match optI s 0 lo, optI s xs.length hi with
        | some l, some h => (0 ≤ l ∧ l ≤ h ∧ h ≤ xs.length) ∧ (∀ x ∈ xs, x.length = w) ∧ K (.one (.st (.list ((xs.take h.toNat).drop l.toNat)))) s
        | _, _ => False
      | _ => False
    | _ => False
  | .extract i x => match s.ev x with
    | .tup vs => match vs[i]? with
      | some v => K v s
      | none => False
    | _ => False
  | .len str x => match s.ev x with
    | .one c => match lenOfA s.S str c with
      | some n => K (.one (.st (.int .i64 n))) s
      | none => False
    | _ => False
  | .append mu e w bytes x y => match s.ev x, s.ev y with
    | .one cx, .one cy => match listOf s.S cy with
      | some ys => (∀ y ∈ ys, y.length = w) ∧ match cx with
        | .full xs => s.S d = none ∧ (mu = true → ys = [] → xs = []) ∧ (∀ x ∈ xs, x.length = w) ∧ xs.length + ys.length ≤ maxLen ∧ (xs.length + ys.length) * bytes ≤ 140737488355328 ∧
            K (.one (.row d (xs ++ ys).length)) (s.set d (if mu then .mrow e w (xs ++ ys) else .arow e w (xs ++ ys)))
        | .row id m => match s.S id with
          | some (.arow e' w' xs) => (m = xs.length ∧ w' = w ∧ e' = e) ∧ xs.length + ys.length ≤ maxLen ∧ (xs.length + ys.length) * bytes ≤ 140737488355328 ∧
              K (.one (.row id (xs ++ ys).length)) (s.set id (.arow e w (xs ++ ys)))
          | some (.mrow e' w' xs) => (m = xs.length ∧ w' = w ∧ e' = e) ∧ xs.length + ys.length ≤ maxLen ∧ (xs.length + ys.length) * bytes ≤ 140737488355328 ∧
              K (.one (.row id (xs ++ ys).length)) (s.set id (.mrow e w (xs ++ ys)))
          | _ => False
        | _ => False
      | none => False
    | _, _ => False
  | .restP w x lo => match s.ev x, s.ev lo with
    | .one (.row id m), .one (.st (.int _ o)) => match s.S id with
      | some (.mrow _ w' xs) => (m = xs.length ∧ w' = w) ∧ (0 ≤ o ∧ o ≤ m) ∧ K (.one (.rest id o.toNat m)) s
      | _ => False
    | _, _ => False
  | .clearP e w z x => match s.ev x with
    | .one (.rest id o m) => match s.S id with
      | some (.mrow e' w' xs) => (m = xs.length ∧ w' = w ∧ e' = e) ∧ K (.tup []) (s.set id (.mrow e w (xs.take o ++ List.replicate (m - o) z)))
      | _ => False
    | _ => False
  | .cutP w x hi => match cutOf (s.ev x), s.ev hi with
    | some (id, k, m), .one (.st (.int _ h)) => match s.S id with
      | some (.mrow _ w' xs) => (m = xs.length ∧ w' = w) ∧ (0 ≤ h ∧ h ≤ k) ∧ K (.one (.part id h.toNat m)) s
      | _ => False
    | _, _ => False
  | .indexP w x i => match s.ev x, s.ev i with
    | .one (.part id k m), .one (.st (.int _ n)) => match s.S id with
      | some (.mrow _ w' xs) => (m = xs.length ∧ w' = w) ∧ (0 ≤ n ∧ n < k) ∧ K (.one (.ptr id m n.toNat 0)) s
      | _ => False
    | _, _ => False
  | .appP e w bytes x y => match s.ev x, s.ev y with
    | .one (.part id k m), .one cy => match s.S id, listOf s.S cy with
      | some (.mrow e' w' xs), some ys => (m = xs.length ∧ w' = w ∧ e' = e) ∧ (∀ y ∈ ys, y.length = w) ∧ k + ys.length ≤ maxLen ∧ (k + ys.length) * bytes ≤ 140737488355328 ∧
          K (.one (.part id (k + ys.length) (if m ≤ k + ys.length then k + ys.length else m))) (s.set id (.mrow e w (xs.take k ++ ys ++ xs.drop (k + ys.length))))
      | _, _ => False
    | _, _ => False
  | .makeMap kt => s.S d = none ∧ K (.one (.mptr d)) (s.set d (.map kt []))
  | .lookup kt ok z m k => match mapOf s.S (s.ev m), keyOf kt (s.ev k) with
    | some (_, kt', es), some kv => kt' = kt ∧ K (lookA ok z (mGet es kv)) s
    | _, _ => False
  | .mapSet kt m k v => match mapOf s.S (s.ev m), keyOf kt (s.ev k), outV s.S (s.ev v) with
    | some (id, kt', es), some kv, some v' => kt' = kt ∧ K .any (s.set id (.map kt (mPut es kv v')))
    | _, _, _ => False
  | .mapEntry kt z m k => match mapOf s.S (s.ev m), keyOf kt (s.ev k) with
    | some (id, kt', es), some kv => kt' = kt ∧ es.length ≤ maxLen ∧ K (.tup [(mGet es kv).getD z, .one (.st (.int .i64 (mAt es kv)))]) (s.set id (.map kt (mNew es kv z)))
    | _, _ => False
  | .entrySet m i v => match mapOf s.S (s.ev m), s.ev i, outV s.S (s.ev v) with
    | some (id, kt, es), .one (.st (.int _ n)), some v' => (0 ≤ n ∧ n.toNat < es.length) ∧ K .any (s.set id (.map kt (es.modify n.toNat fun x => (x.1, v'))))
    | _, _, _ => False
  | .rangeM m => match mapOf s.S (s.ev m) with
    | some (id, _, es) => s.S d = none ∧ K (.one (.ptr d 1 0 0)) (s.set d (.iter (.mptr id) es.length []))
    | none => False
  | .next x => match iterOf s.S (s.ev x) with
    | some ((id, m, seen), kt, es) => ((∀ j, j < es.length → j ∈ seen) → K (.tup [.one (.st (.bool false))]) s) ∧
        ∀ j x c, es[j]? = some x → j ∉ seen → x.1.sv kt = some c → K (.tup [.one (.st (.bool true)), .one (.st c), x.2]) (s.set id (.iter (.mptr m) es.length (seen ++ [j])))
    | none => False
  | .lenM m => match mapOf s.S (s.ev m) with
    | some (_, _, es) => es.length ≤ maxLen ∧ K (.one (.st (.int .i64 es.length))) s
    | none => False
  | .entry x => match iterOf s.S (s.ev x) with
    | some ((_, _, seen), kt, es) => match seen.getLast? with
      | some j => match es[j]? with
        | some x => match x.1.sv kt with
          | some c => K (.tup [.one (.st c), x.2]) s
          | none => False
        | none => False
      | none => False
    | none => False
  | .call f xs => match outVs s.S (s.evs xs) with
    | some vs => CallK P f vs fun r => K r s
    | none => False
  | .callN f xs => match outVs s.S (s.evs xs) with
    | some vs => CallNK P f vs fun e w ys => s.S d = none ∧ K (.one (.row d ys.length)) (s.set d (.arow e w ys))
    | none => False
  | .conv k x => match s.ev x with
    | .one (.st (.int _ n)) => inR k n ∧ K (.one (.st (.int k n))) s
    | _ => False
  | .nilCheck x => match s.ev x with
    | .one (.eptr cs) => K (.one (.eptr cs)) s
    | .one (.ptr id m k o) => match s.S id with
      | some b => m = b.len ∧ K (.one (.ptr id m k o)) s
      | none => False
    | _ => False

  | .mm mx x y => match s.ev x, s.ev y with
    | .one (.st (.int k a)), .one (.st (.int k' b)) => k = k' ∧ K (.one (.st (.int k (if mx then (if a < b then b else a) else (if b < a then b else a))))) s
    | _, _ => False
  | .makeSlice e w bytes z x y => match s.ev x, s.ev y with
    | .one (.st (.int _ a)), .one (.st (.int _ b)) => a = b ∧ 0 ≤ a ∧ a ≤ 9223372036854775807 ∧ a * bytes ≤ 140737488355328 ∧ s.S d = none ∧ K (.one (.row d a.toNat)) (s.set d (.mrow e w (List.replicate a.toNat z)))
    | _, _ => False
  | .makeFunc g caps => match s.caps caps with
    | some cs => K (.one (.fn g cs)) s
    | none => False
  | .callS f xs => CallSK P f (AV.rens up1 (s.evs xs)) (upS s.S) fun r S' => K (r.ren dn1) ⟨s.env, dnS S'⟩
  | .callR f xs => CallRK P f (AV.rens up1 (s.evs xs)) s.S fun r => K r s
  | .callV f xs => match s.ev f with
    | .one (.fn g caps) => plainF P g = true ∧ CallSK P g (AV.rens up1 (s.evs xs ++ caps.map .one)) (upS s.S) fun r S' => K (r.ren dn1) ⟨s.env, dnS S'⟩
    | _ => False

def Kd.ptrOpd : Kd → Option Opd
  | .load _ _ x => some x
  | .store _ x _ => some x
  | .fieldAddr _ x => some x
  | .nilCheck x => some x
  | _ => none
def ptrIs (id : Nat) : AV → Prop
  | .one (.ptr i _ _ _) => i = id
  | _ => False
def Tag.ok (t : Tag) (kd : Kd) (s s' : AS) : Prop := match t with
  | .no => True
  | .onb id => match kd.ptrOpd with
    | some x => ptrIs id (s.ev x)
    | none => False
  | .keeps ks => ∀ k ∈ ks, s'.S k = s.S k
def Kd.goT (kd : Kd) (P : Program) (d : Nat) (s : AS) (t : Tag) (K : AV → AS → Prop) : Prop := kd.go P d s fun v s' => t.ok kd s s' ∧ K v s'

/-- The operations of a region, one behind the other. -/
def Run (P : Program) : List Ins → AS → (AS → Prop) → Prop
  | [], s, K => K s
  | i :: l, s, K => match i.guard with
    | none => i.kd.goT P (i.dst.getD 0) s i.tag fun v s' => Run P l (s'.put i.dst v) K
    | some (g, want) => match s.env g with
      | .one (.st (.bool b)) => (b = want → i.kd.goT P (i.dst.getD 0) s i.tag fun v s' => Run P l (s'.put i.dst v) K) ∧ (¬ b = want → Run P l (s.put i.dst (.tup [])) K)
      | .tup [] => Run P l (s.put i.dst (.tup [])) K
      | _ => False

/-! ### code -/
inductive IR where
  | skip
  | ops (l : List Ins)
  | seq (x y : IR)
  | cond (c : Opd) (x y : IR)
  | block (id : Nat) (x : IR)
  | loop (x : IR)
  | exit (id : Nat)
  | ret
end Go.Proofs.Ytpajlfdhmjgpnaa
