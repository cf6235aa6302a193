/-
  Part 2 of the texts: AbsB; AbsC; AbsD. Conditions: none.
-/
import Derived.Test.YtohgkbgpcnmdpaaNon1
import Derived.Laws.BytesArg
namespace Go.Proofs.Ytohgkbgpcnmdpaa
open Go Go.RowKit
set_option linter.unusedVariables false
def updE {α : Type} (f : Nat → α) (d : Nat) (v : α) : Nat → α := fun i => if i = d then v else f i
def byteN (s : ByteArray) (k : Nat) : Int := ((s.data.toList.getD k 0).toNat : Int)
def sLt (a b : ByteArray) : Bool := Op.bytesLess a.toList b.toList
def splice {α : Type} (cs : List α) (off : Nat) (c : List α) : List α := cs.take off ++ c ++ cs.drop (off + c.length)
def pack (g : Bool) (cs : List AC) : AV := if g then .agg cs else match cs with | [c] => .one c | _ => .any
def stC (S : AStore) : AC → Option SV
  | .st c => some c
  | .full xs => some (.list xs)
  | .row id n => match S id with
    | some (.arow _ _ xs) => if n = xs.length then some (.list xs) else none
    | _ => none
  | .fn f [] => some (.lit (.func (.func f) #[] #[]))
  | _ => none
def stCs (S : AStore) : List AC → Option (List SV)
  | [] => some []
  | c :: cs => match stC S c, stCs S cs with
    | some x, some xs => some (x :: xs)
    | _, _ => none
def outC (S : AStore) : AC → Option AC
  | .eptr cs => some (.eptr cs)
  | .ubool => some .ubool
  | .fn f [] => some (.fn f [])
  | c => (stC S c).map .st
def outCs (S : AStore) : List AC → Option (List AC)
  | [] => some []
  | c :: cs => match outC S c, outCs S cs with
    | some x, some xs => some (x :: xs)
    | _, _ => none
mutual
def outV (S : AStore) : AV → Option AV
  | .one c => (outC S c).map .one
  | .agg cs => (outCs S cs).map .agg
  | .tup vs => (outVs S vs).map .tup
  | .any => some .any
def outVs (S : AStore) : List AV → Option (List AV)
  | [] => some []
  | v :: vs => match outV S v, outVs S vs with
    | some x, some xs => some (x :: xs)
    | _, _ => none
end
structure AS where
  env : Nat → AV
  S : AStore
inductive Opd where
  | t (i : Nat)
  | c (v : AV)
def AS.ev (s : AS) : Opd → AV
  | .t i => s.env i
  | .c v => v
def AS.put (s : AS) (d : Option Nat) (v : AV) : AS := match d with
  | some d => ⟨updE s.env d v, s.S⟩
  | none => s
def AS.set (s : AS) (id : Nat) (b : ABlk) : AS := ⟨s.env, updE s.S id (some b)⟩
def blkCells (S : AStore) (id m k : Nat) : Option (List AC) := match S id with
  | some (.box _ cs) => if k = 0 ∧ m = 1 then some cs else none
  | some (.mrow _ _ xs) => if m = xs.length then (xs[k]?).map (·.map .st) else none
  | _ => none
def ACalls (P : Program) (f : FuncId) (xs : List AV) (r : AV) : Prop :=
  ∀ (σ : Sto) (w : World) (vs : List Value), GlobIn σ → Fit σ w → All2 (VRep σ noS noH) vs xs →
    Calls P f vs.toArray w fun e w' => ∃ v σ', e = .returned v ∧ VRep σ' noS noH v r ∧ Fit σ' w' ∧ Ext w.heap.size σ σ' ∧ Below w.heap.size w w'
def Owned (σ : Sto) (S : AStore) (ι : AHnd) (w : World) : Prop := (∀ id b, S id = some b → BRep σ S ι w (ι id) b) ∧ ∀ id id' b b' g, S id = some b → S id' = some b' → (ι id).g = some g → (ι id').g = some g → id = id'
def notOf (S : AStore) (ι : AHnd) (g : Nat) : Prop := ∀ id b, S id = some b → (ι id).g ≠ some g
def ACallsS (P : Program) (f : FuncId) (xs : List AV) (S : AStore) (r : AV) (S' : AStore) : Prop :=
  Clean S → ∀ (σ : Sto) (w : World) (vs : List Value) (ι : AHnd), GlobIn σ → Fit σ w → Owned σ S ι w → All2 (VRep σ S ι) vs xs →
    Calls P f vs.toArray w fun e w' => ∃ v σ' ι', e = .returned v ∧ Clean S' ∧ Upd S ι S' ι' ∧ Owned σ' S' ι' w' ∧ VRep σ' S' ι' v r ∧ Fit σ' w' ∧ (∀ p x, σ p = some x → σ' p = some x) ∧
      (∀ p : Addr, p.block < w.heap.size → notOf S ι p.block → σ' p = σ p) ∧ (w'.os = w.os ∧ w'.tape = w.tape ∧ w'.output = w.output) ∧ w.heap.size ≤ w'.heap.size ∧
      (∀ g, g < w.heap.size → notOf S ι g → w'.heap[g]? = w.heap[g]?) ∧ (∀ id b g, S' id = some b → (ι' id).g = some g → w.heap.size ≤ g ∨ ¬ notOf S ι g)
def rowB (mu : Bool) (e : TypeId) (w : Nat) (ys : List (List SV)) : ABlk := match mu with
  | true => .mrow e w ys
  | false => .arow e w ys
def ACallsN (P : Program) (f : FuncId) (xs : List AV) (e : TypeId) (w : Nat) (ys : List (List SV)) (mu : Bool := false) : Prop := ACallsS P f xs noS (.one (.row 1000 ys.length)) (fun i => if i = 1000 then some (rowB mu e w ys) else noS i)
abbrev CallNK (P : Program) (f : FuncId) (vs : List AV) (k : Bool → TypeId → Nat → List (List SV) → Prop) : Prop := ∃ mu e w ys, ACallsN P f vs e w ys mu ∧ k mu e w ys
abbrev CallK (P : Program) (f : FuncId) (vs : List AV) (k : AV → Prop) : Prop := ∃ r, ACalls P f vs r ∧ k r
abbrev CallSK (P : Program) (f : FuncId) (vs : List AV) (S : AStore) (k : AV → AStore → Prop) : Prop := ∃ r S', ACallsS P f vs S r S' ∧ k r S'
abbrev CallRK (P : Program) (f : FuncId) (vs : List AV) (S : AStore) (k : AV → Prop) : Prop := ∃ (r : AV) (rows : List (Nat × ABlk)), (∀ q ∈ rows, S q.1 = some q.2) ∧ (∀ T : AStore, (∀ q ∈ rows, T q.1 = some q.2) → ACallsS P f vs (upS T) r (upS T)) ∧ k (r.ren dn1)
def turnS (T : AStore) : List (Nat × ABlk × ABlk) → AStore
  | [] => T
  | q :: l => turnS (updE T q.1 (some q.2.2)) l
def holdS (T : AStore) (rows : List (Nat × ABlk × ABlk)) : Prop := ∀ q ∈ rows, T q.1 = some q.2.1
abbrev CallWK (P : Program) (f : FuncId) (vs : List AV) (S : AStore) (k : AV → AStore → Prop) : Prop := ∃ (r : AV) (rows : List (Nat × ABlk × ABlk)), holdS S rows ∧ (∀ T : AStore, holdS T rows → ACallsS P f vs (upS T) r (upS (turnS T rows))) ∧ k (r.ren dn1) (turnS S rows)
theorem CallK.congr {P : Program} {f : FuncId} {vs vs' : List AV} {k : AV → Prop} (h : vs = vs') : CallK P f vs k = CallK P f vs' k := by rw [h]
theorem CallSK.congr {P : Program} {f : FuncId} {vs vs' : List AV} {S S' : AStore} {k : AV → AStore → Prop} (h : vs = vs') (h' : S = S') : CallSK P f vs S k = CallSK P f vs' S' k := by rw [h, h']
def plainF (P : Program) (f : FuncId) : Bool := match P.funcs[f]? with
  | some fn => !(fn.name == "runtime.NumGoroutine") && fn.body.isSome
  | none => false
inductive Kd where
  | mov (x : Opd)
  | pick (c x y : Opd)
  | alloc (e : TypeId) (z : List AC)
  | box (e : TypeId) (x : Opd)
  | build (z : List AC) (ps : List (Nat × Nat × Opd))
  | buildSlice (mu : Bool) (e w : Nat) (xs : List Opd)
  | load (g : Bool) (n : Nat) (x : Opd)
  | store (n : Nat) (x v : Opd)
  | fieldAddr (off : Nat) (x : Opd)
  | field (g : Bool) (off n : Nat) (x : Opd)
  | indexAddr (w : Nat) (x i : Opd)
  | indexArr (n w : Nat) (x i : Opd)
  | indexStr (x i : Opd)
  | bin (op : BinOp) (x y : Opd)
  | eqB (neg : Bool) (x y : Opd)
  | eqN (neg : Bool) (x : Opd)
  | eqE (neg : Bool) (x : Opd)
  | never
  | pan (x : Opd)
  | iface (t : TypeId) (x : Opd)
  | strOf (x : Opd)
  | un (op : UnOp) (x : Opd)
  | sliceS (x : Opd) (lo hi : Option Opd)
  | sliceL (w : Nat) (x : Opd) (lo hi : Option Opd)
  | extract (i : Nat) (x : Opd)
  | len (str : Bool) (x : Opd)
  | append (mu : Bool) (e w bytes : Nat) (s x : Opd)
  | call (f : Nat) (xs : List Opd)
  | conv (k : IntKind) (x : Opd)
  | nilCheck (x : Opd)
  | mm (mx : Bool) (x y : Opd)
  | makeSlice (e w bytes : Nat) (z : List SV) (x y : Opd)
  | makeFunc (g : Nat) (caps : List Opd)
  | callS (f : Nat) (xs : List Opd)
  | callV (f : Opd) (xs : List Opd)
  | callN (f : Nat) (xs : List Opd)
  | callR (f : Nat) (xs : List Opd)
  | callW (f : Nat) (xs : List Opd)
  | buildFlat (xs : List Opd)
  | cutP (w : Nat) (x hi : Opd)
  | indexP (w : Nat) (x i : Opd)
  | appP (e w bytes : Nat) (x y : Opd)
  | restP (w : Nat) (x lo : Opd)
  | clearP (e w : Nat) (z : List SV) (x : Opd)
  | makeMap (kt : Option IntKind)
  | lookup (kt : Option IntKind) (ok : Bool) (z : AV) (m k : Opd)
  | mapSet (kt : Option IntKind) (m k v : Opd)
  | mapEntry (kt : Option IntKind) (z : AV) (m k : Opd)
  | entrySet (m i v : Opd)
  | rangeM (m : Opd)
  | next (x : Opd)
  | entry (x : Opd)
  | lenM (m : Opd)
  | buildArr (xs : List Opd)
  | makeMemo
  | memoGet (ok : Bool) (z : AV) (m k : Opd)
  | memoSet (m k v : Opd)
def mGet : List (KV × AV) → KV → Option AV
  | [], _ => none
  | x :: es, k => if x.1 = k then some x.2 else mGet es k
def mAt : List (KV × AV) → KV → Nat
  | [], _ => 0
  | x :: es, k => if x.1 = k then 0 else mAt es k + 1
def mPut : List (KV × AV) → KV → AV → List (KV × AV)
  | [], k, v => [(k, v)]
  | x :: es, k, v => if x.1 = k then (k, v) :: es else x :: mPut es k v
def mNew (es : List (KV × AV)) (k : KV) (z : AV) : List (KV × AV) := match mGet es k with
  | some _ => es
  | none => es ++ [(k, z)]
def mapOf (S : AStore) : AV → Option (Nat × Option IntKind × List (KV × AV))
  | .one (.mptr id) => match S id with
    | some (.map kt es) => some (id, kt, es)
    | _ => none
  | _ => none
def iterOf (S : AStore) : AV → Option ((Nat × Nat × List Nat) × Option IntKind × List (KV × AV))
  | .one (.ptr id 1 0 0) => match S id with
    | some (.iter (.mptr m) n seen) => match S m with
      | some (.map kt es) => if es.length = n then some ((id, m, seen), kt, es) else none
      | _ => none
    | _ => none
  | _ => none
def Twin (cs cs' : List SV) : Prop := ∃ (σ : Sto) (c : Nat → Value), (∀ j a, cs[j]? = some a → SRep σ (c j) a) ∧ ∀ j a, cs'[j]? = some a → SRep σ (c j) a
def memoOf (S : AStore) : AV → Option (Nat × (List SV → List SV → SV → Prop))
  | .one (.mptr id) => match S id with
    | some (.memo f) => some (id, f)
    | _ => none
  | _ => none
def pairOf : AV → Option (List SV × List SV)
  | .agg [.eptr cs, .eptr ds] => if 2 ≤ cs.length ∧ 2 ≤ ds.length then some (cs, ds) else none
  | _ => none
def keyOf (kt : Option IntKind) : AV → Option KV
  | .one (.st c) => KV.of kt c
  | _ => none
def lookA (ok : Bool) (z : AV) : Option AV → AV
  | some v => if ok then .tup [v, .one (.st (.bool true))] else v
  | none => if ok then .tup [z, .one (.st (.bool false))] else z
inductive Tag where
  | no
  | onb (id : Nat)
  | keeps (ks : List Nat)
structure Ins where
  dst : Option Nat
  guard : Option (Nat × Bool)
  kd : Kd
  tag : Tag
def fills (s : AS) (cs : List AC) : List (Nat × Nat × Opd) → Option (List AC)
  | [] => some cs
  | (off, n, x) :: ps => match (s.ev x).cells with
    | some c => if c.length = n ∧ off + n ≤ cs.length then fills s (splice cs off c) ps else none
    | none => none
def elems (s : AS) (w : Nat) : List Opd → Option (List (List SV))
  | [] => some []
  | x :: xs => match (s.ev x).cells with
    | some c => match stCs s.S c, elems s w xs with
      | some c', some es => if c'.length = w then some (c' :: es) else none
      | _, _ => none
    | none => none
def flats (s : AS) : List Opd → Option (List (List SV))
  | [] => some []
  | x :: xs => match s.ev x, flats s xs with
    | .one (.st c), some es => some ([c] :: es)
    | _, _ => none
def AS.evs (s : AS) : List Opd → List AV
  | [] => []
  | x :: xs => s.ev x :: AS.evs s xs
def AS.caps (s : AS) : List Opd → Option (List AC)
  | [] => some []
  | x :: xs => match s.ev x, s.caps xs with
    | .one c, some cs => some (c :: cs)
    | _, _ => none
def binI (op : BinOp) (k : IntKind) (x y : Int) (K : SV → Prop) : Prop := match op with
  | .add => inR k (x + y) ∧ K (.int k (x + y))
  | .sub => inR k (x - y) ∧ K (.int k (x - y))
  | .mul => inR k (x * y) ∧ K (.int k (x * y))
  | .quo => y ≠ 0 ∧ inR k (x.tdiv y) ∧ K (.int k (x.tdiv y))
  | .rem => y ≠ 0 ∧ inR k (x.tmod y) ∧ K (.int k (x.tmod y))
  | .eql => K (.bool (decide (x = y)))
  | .neq => K (.bool (decide (¬ x = y)))
  | .lss => K (.bool (decide (x < y)))
  | .leq => K (.bool (decide (x ≤ y)))
  | .gtr => K (.bool (decide (y < x)))
  | .geq => K (.bool (decide (y ≤ x)))
  | .shr => (0 ≤ y ∧ y.toNat ≤ k.bits) ∧ inR k (x.fdiv (2 ^ y.toNat)) ∧ K (.int k (x.fdiv (2 ^ y.toNat)))
  | _ => False
def binS (op : BinOp) (x y : ByteArray) (K : SV → Prop) : Prop := match op with
  | .add => x.size + y.size ≤ maxLen ∧ K (.str (x ++ y))
  | .eql => K (.bool (decide (x = y)))
  | .neq => K (.bool (decide (¬ x = y)))
  | .lss => K (.bool (sLt x y))
  | .leq => K (.bool (sLt x y || decide (x = y)))
  | .gtr => K (.bool !(sLt x y || decide (x = y)))
  | .geq => K (.bool !(sLt x y))
  | _ => False
def optI (s : AS) (d : Int) : Option Opd → Option Int
  | none => some d
  | some x => match s.ev x with
    | .one (.st (.int _ n)) => some n
    | _ => none
def idxK {α : Type} (xs : List α) (n : Int) (K : α → Prop) : Prop := 0 ≤ n ∧ match xs[n.toNat]? with
  | some x => K x
  | none => False
def lenOfA (S : AStore) (str : Bool) : AC → Option Int
  | .st (.list xs) => if str then none else some xs.length
  | .st (.str b) => if str then some b.size else none
  | .full xs => if str then none else some xs.length
  | .row id n => match S id with
    | some (.arow _ _ xs) => if str = false ∧ n = xs.length then some n else none
    | some (.mrow _ _ xs) => if str = false ∧ n = xs.length then some n else none
    | _ => none
  | .part id k n => match S id with
    | some (.mrow _ _ xs) => if str = false ∧ n = xs.length then some k else none
    | _ => none
  | _ => none
def listOf (S : AStore) : AC → Option (List (List SV))
  | .st (.list xs) => some xs
  | .full xs => some xs
  | .row id n => match S id with
    | some (.arow _ _ xs) => if n = xs.length then some xs else none
    | some (.mrow _ _ xs) => if n = xs.length then some xs else none
    | _ => none
  | _ => none
def bytesOf : List (List SV) → Option (List Int)
  | [] => some []
  | [.int .u8 n] :: r => (bytesOf r).map (n :: ·)
  | _ => none
def cutOf : AV → Option (Nat × Nat × Nat)
  | .one (.part id k m) => some (id, k, m)
  | .one (.row id m) => some (id, m, m)
  | _ => none
def Kd.go (P : Program) (d : Nat) (s : AS) (K : AV → AS → Prop) : Kd → Prop
  | .mov x => K (s.ev x) s
  | .pick c x y => match s.ev c with
    | .one (.st (.bool t)) => (t = true → K (s.ev x) s) ∧ (t = false → K (s.ev y) s)
    | _ => False
  | .alloc e z => s.S d = none ∧ K (.one (.ptr d 1 0 0)) (s.set d (.box e z))
  | .box e x => match (s.ev x).cells with
    | some cs => s.S d = none ∧ K (.one (.ptr d 1 0 0)) (s.set d (.box e cs))
    | none => False
  | .build z ps => match fills s z ps with
    | some cs => K (.agg cs) s
    | none => False
  | .buildSlice mu e w xs => match elems s w xs with
    | some es => if mu then s.S d = none ∧ K (.one (.row d es.length)) (s.set d (.mrow e w es)) else K (.one (.full es)) s
    | none => False
  | .buildFlat xs => match flats s xs with
    | some es => K (.one (.full es)) s
    | none => False
  | .load g n x => match s.ev x with
    | .one (.eptr cs) => n ≤ cs.length ∧ K (pack g ((cs.take n).map .st)) s
    | .one (.ptr id m k off) => match blkCells s.S id m k with
      | some cs => off + n ≤ cs.length ∧ K (pack g ((cs.drop off).take n)) s
      | none => False
    | _ => False
  | .store n x v => match s.ev x, (s.ev v).cells with
    | .one (.ptr id m k off), some c => match s.S id with
      | some (.box e cs) => (k = 0 ∧ m = 1) ∧ c.length = n ∧ off + n ≤ cs.length ∧ K .any (s.set id (.box e (splice cs off c)))
      | some (.mrow e w xs) => match stCs s.S c, xs[k]? with
        | some c', some x => m = xs.length ∧ c'.length = n ∧ off + n ≤ x.length ∧ K .any (s.set id (.mrow e w (xs.set k (splice x off c'))))
        | _, _ => False
      | _ => False
    | _, _ => False
  | .fieldAddr off x => match s.ev x with
    | .one (.eptr cs) => K (.one (.eptr (cs.drop off))) s
    | .one (.ptr id m k o) => match s.S id with
      | some b => m = b.len ∧ K (.one (.ptr id m k (o + off))) s
      | none => False
    | _ => False
  | .field g off n x => match s.ev x with
    | .agg cs => off + n ≤ cs.length ∧ K (pack g ((cs.drop off).take n)) s
    | _ => False
  | .indexAddr w x i => match s.ev x, s.ev i with
    | .one c, .one (.st (.int _ n)) => match c with
      | .st (.list xs) => idxK xs n fun x => x.length = w ∧ K (.one (.eptr x)) s
      | .full xs => idxK xs n fun x => x.length = w ∧ K (.one (.eptr x)) s
      | .row id m => match s.S id with
        | some (.arow _ w' xs) => m = xs.length ∧ w' = w ∧ idxK xs n fun x => K (.one (.eptr x)) s
        | some (.mrow _ w' xs) => m = xs.length ∧ w' = w ∧ 0 ≤ n ∧ n.toNat < xs.length ∧ K (.one (.ptr id m n.toNat 0)) s
        | _ => False
      | _ => False
    | _, _ => False
  | .indexArr n w x i => match s.ev x, s.ev i with
    | .one (.eptr cs), .one (.st (.int _ k)) => (0 ≤ k ∧ k < n) ∧ K (.one (.eptr (cs.drop (k.toNat * w)))) s
    | .one (.ptr id m b o), .one (.st (.int _ k)) => match s.S id with
      | some bl => (0 ≤ k ∧ k < n) ∧ m = bl.len ∧ K (.one (.ptr id m b (o + k.toNat * w))) s
      | none => False
    | _, _ => False
  | .indexStr x i => match s.ev x, s.ev i with
    | .one (.st (.str b)), .one (.st (.int _ n)) => (0 ≤ n ∧ n.toNat < b.size) ∧ K (.one (.st (.int .u8 (byteN b n.toNat)))) s
    | _, _ => False
  | .bin op x y => match s.ev x, s.ev y with
    | .one (.st (.int k a)), .one (.st (.int k' b)) => k = k' ∧ binI op k a b fun v => K (.one (.st v)) s
    | .one (.st (.str a)), .one (.st (.str b)) => binS op a b fun v => K (.one (.st v)) s
    | _, _ => False
  | .never => False
  | .pan _ => False
  | .iface t x => match s.ev x with
    | .one (.st (.int k n)) => K (.one (.st (.lit (.iface t (.int k n))))) s
    | _ => False
  | .strOf x => match s.ev x with
    | .one (.full ys) => match bytesOf ys with
      | some ns => (0 < ns.length ∧ ns.length ≤ maxLen) ∧ K (.one (.st (.str (strOfNums ns)))) s
      | none => False
    | _ => False
  | .eqN neg x => match s.ev x with
    | .one (.st (.list xs)) => K (.one (if xs.length = 0 then .ubool else .st (.bool neg))) s
    | _ => False
  | .eqE neg x => match s.ev x with
    | .one (.st .err) => K (.one (.st (.bool neg))) s
    | .one (.st (.lit .nilIface)) => K (.one (.st (.bool !neg))) s
    | _ => False
  | .eqB neg x y => match s.ev x, s.ev y with
    | .one (.st (.bool a)), .one (.st (.bool b)) => K (.one (.st (.bool (if neg then !(a == b) else a == b)))) s
    | _, _ => False
  | .un op x => match op, s.ev x with
    | .not, .one (.st (.bool b)) => K (.one (.st (.bool !b))) s
    | .neg, .one (.st (.int k n)) => inR k (0 - n) ∧ K (.one (.st (.int k (0 - n)))) s
    | _, _ => False
  | .sliceS x lo hi => match s.ev x with
    | .one (.st (.str b)) => match optI s 0 lo, optI s b.size hi with
      | some l, some h => (0 ≤ l ∧ l ≤ h ∧ h ≤ b.size) ∧ K (.one (.st (.str (b.extract l.toNat h.toNat)))) s
      | _, _ => False
    | _ => False
  | .sliceL w x lo hi => match s.ev x with
    | .one c => match stC s.S c with
      | some (.list xs) => match optI s 0 lo, optI s xs.length hi with
        | some l, some h => (0 ≤ l ∧ l ≤ h ∧ h ≤ xs.length) ∧ (∀ x ∈ xs, x.length = w) ∧ K (.one (.st (.list ((xs.take h.toNat).drop l.toNat)))) s
        | _, _ => False
      | _ => False
    | _ => False
  | .extract i x => match s.ev x with
    | .tup vs => match vs[i]? with
      | some v => K v s
      | none => False
    | _ => False
  | .len str x => match s.ev x with
    | .one c => match lenOfA s.S str c with
      | some n => K (.one (.st (.int .i64 n))) s
      | none => False
    | _ => False
  | .append mu e w bytes x y => match s.ev x, s.ev y with
    | .one cx, .one cy => match listOf s.S cy with
      | some ys => (∀ y ∈ ys, y.length = w) ∧ match cx with
        | .full xs => s.S d = none ∧ (mu = true → ys = [] → xs = []) ∧ (∀ x ∈ xs, x.length = w) ∧ xs.length + ys.length ≤ maxLen ∧ (xs.length + ys.length) * bytes ≤ 140737488355328 ∧
            K (.one (.row d (xs ++ ys).length)) (s.set d (if mu then .mrow e w (xs ++ ys) else .arow e w (xs ++ ys)))
        | .row id m => match s.S id with
          | some (.arow e' w' xs) => (m = xs.length ∧ w' = w ∧ e' = e) ∧ xs.length + ys.length ≤ maxLen ∧ (xs.length + ys.length) * bytes ≤ 140737488355328 ∧
              K (.one (.row id (xs ++ ys).length)) (s.set id (.arow e w (xs ++ ys)))
          | some (.mrow e' w' xs) => (m = xs.length ∧ w' = w ∧ e' = e) ∧ xs.length + ys.length ≤ maxLen ∧ (xs.length + ys.length) * bytes ≤ 140737488355328 ∧
              K (.one (.row id (xs ++ ys).length)) (s.set id (.mrow e w (xs ++ ys)))
          | _ => False
        | _ => False
      | none => False
    | _, _ => False
  | .restP w x lo => match s.ev x, s.ev lo with
    | .one (.row id m), .one (.st (.int _ o)) => match s.S id with
      | some (.mrow _ w' xs) => (m = xs.length ∧ w' = w) ∧ (0 ≤ o ∧ o ≤ m) ∧ K (.one (.rest id o.toNat m)) s
      | _ => False
    | _, _ => False
  | .clearP e w z x => match s.ev x with
    | .one (.rest id o m) => match s.S id with
      | some (.mrow e' w' xs) => (m = xs.length ∧ w' = w ∧ e' = e) ∧ K (.tup []) (s.set id (.mrow e w (xs.take o ++ List.replicate (m - o) z)))
      | _ => False
    | _ => False
  | .cutP w x hi => match cutOf (s.ev x), s.ev hi with
    | some (id, k, m), .one (.st (.int _ h)) => match s.S id with
      | some (.mrow _ w' xs) => (m = xs.length ∧ w' = w) ∧ (0 ≤ h ∧ h ≤ k) ∧ K (.one (.part id h.toNat m)) s
      | _ => False
    | _, _ => False
  | .indexP w x i => match s.ev x, s.ev i with
    | .one (.part id k m), .one (.st (.int _ n)) => match s.S id with
      | some (.mrow _ w' xs) => (m = xs.length ∧ w' = w) ∧ (0 ≤ n ∧ n < k) ∧ K (.one (.ptr id m n.toNat 0)) s
      | _ => False
    | _, _ => False
  | .appP e w bytes x y => match s.ev x, s.ev y with
    | .one (.part id k m), .one cy => match s.S id, listOf s.S cy with
      | some (.mrow e' w' xs), some ys => (m = xs.length ∧ w' = w ∧ e' = e) ∧ (∀ y ∈ ys, y.length = w) ∧ k + ys.length ≤ maxLen ∧ (k + ys.length) * bytes ≤ 140737488355328 ∧
          K (.one (.part id (k + ys.length) (if m ≤ k + ys.length then k + ys.length else m))) (s.set id (.mrow e w (xs.take k ++ ys ++ xs.drop (k + ys.length))))
      | _, _ => False
    | _, _ => False
  | .makeMap kt => s.S d = none ∧ K (.one (.mptr d)) (s.set d (.map kt []))
  | .lookup kt ok z m k => match mapOf s.S (s.ev m), keyOf kt (s.ev k) with
    | some (_, kt', es), some kv => kt' = kt ∧ K (lookA ok z (mGet es kv)) s
    | _, _ => False
  | .mapSet kt m k v => match mapOf s.S (s.ev m), keyOf kt (s.ev k), outV s.S (s.ev v) with
    | some (id, kt', es), some kv, some v' => kt' = kt ∧ K .any (s.set id (.map kt (mPut es kv v')))
    | _, _, _ => False
  | .mapEntry kt z m k => match mapOf s.S (s.ev m), keyOf kt (s.ev k) with
    | some (id, kt', es), some kv => kt' = kt ∧ es.length ≤ maxLen ∧ K (.tup [(mGet es kv).getD z, .one (.st (.int .i64 (mAt es kv)))]) (s.set id (.map kt (mNew es kv z)))
    | _, _ => False
  | .entrySet m i v => match mapOf s.S (s.ev m), s.ev i, outV s.S (s.ev v) with
    | some (id, kt, es), .one (.st (.int _ n)), some v' => (0 ≤ n ∧ n.toNat < es.length) ∧ K .any (s.set id (.map kt (es.modify n.toNat fun x => (x.1, v'))))
    | _, _, _ => False
  | .rangeM m => match mapOf s.S (s.ev m) with
    | some (id, _, es) => s.S d = none ∧ K (.one (.ptr d 1 0 0)) (s.set d (.iter (.mptr id) es.length []))
    | none => False
  | .next x => match iterOf s.S (s.ev x) with
    | some ((id, m, seen), kt, es) => ((∀ j, j < es.length → j ∈ seen) → K (.tup [.one (.st (.bool false))]) s) ∧
        ∀ j x c, es[j]? = some x → j ∉ seen → x.1.sv kt = some c → K (.tup [.one (.st (.bool true)), .one (.st c), x.2]) (s.set id (.iter (.mptr m) es.length (seen ++ [j])))
    | none => False
  | .lenM m => match mapOf s.S (s.ev m) with
    | some (_, _, es) => es.length ≤ maxLen ∧ K (.one (.st (.int .i64 es.length))) s
    | none => False
  | .buildArr xs => match s.caps xs with
    | some cs => K (.agg cs) s
    | none => False
  | .makeMemo => s.S d = none ∧ K (.one (.mptr d)) (s.set d (.memo fun _ _ _ => False))
  | .memoGet ok z m k => match memoOf s.S (s.ev m), pairOf (s.ev k) with
    | some (_, f), some (cs, ds) => hardRows = true ∧ K (lookA ok z none) s ∧ ∀ cs' ds' x, Twin cs cs' → Twin ds ds' → f cs' ds' x → K (lookA ok z (some (.one (.st x)))) s
    | _, _ => False
  | .memoSet m k v => match memoOf s.S (s.ev m), pairOf (s.ev k), s.ev v with
    | some (_, f), some (cs, ds), .one (.st x) => hardRows = true ∧ f cs ds x ∧ K .any s
    | _, _, _ => False
  | .entry x => match iterOf s.S (s.ev x) with
    | some ((_, _, seen), kt, es) => match seen.getLast? with
      | some j => match es[j]? with
        | some x => match x.1.sv kt with
          | some c => K (.tup [.one (.st c), x.2]) s
          | none => False
        | none => False
      | none => False
    | none => False
  | .call f xs => match outVs s.S (s.evs xs) with
    | some vs => CallK P f vs fun r => K r s
    | none => False
  | .callN f xs => match outVs s.S (s.evs xs) with
    | some vs => CallNK P f vs fun mu e w ys => s.S d = none ∧ K (.one (.row d ys.length)) (s.set d (rowB mu e w ys))
    | none => False
  | .conv k x => match s.ev x with
    | .one (.st (.int _ n)) => inR k n ∧ K (.one (.st (.int k n))) s
    | _ => False
  | .nilCheck x => match s.ev x with
    | .one (.eptr cs) => K (.one (.eptr cs)) s
    | .one (.ptr id m k o) => match s.S id with
      | some b => m = b.len ∧ K (.one (.ptr id m k o)) s
      | none => False
    | _ => False
  | .mm mx x y => match s.ev x, s.ev y with
    | .one (.st (.int k a)), .one (.st (.int k' b)) => k = k' ∧ K (.one (.st (.int k (if mx then (if a < b then b else a) else (if b < a then b else a))))) s
    | _, _ => False
  | .makeSlice e w bytes z x y => match s.ev x, s.ev y with
    | .one (.st (.int _ a)), .one (.st (.int _ b)) => a = b ∧ 0 ≤ a ∧ a ≤ 9223372036854775807 ∧ a * bytes ≤ 140737488355328 ∧ s.S d = none ∧ K (.one (.row d a.toNat)) (s.set d (.mrow e w (List.replicate a.toNat z)))
    | _, _ => False
  | .makeFunc g caps => match s.caps caps with
    | some cs => K (.one (.fn g cs)) s
    | none => False
  | .callS f xs => CallSK P f (AV.rens up1 (s.evs xs)) (upS s.S) fun r S' => K (r.ren dn1) ⟨s.env, dnS S'⟩
  | .callR f xs => CallRK P f (AV.rens up1 (s.evs xs)) s.S fun r => K r s
  | .callW f xs => CallWK P f (AV.rens up1 (s.evs xs)) s.S fun r S' => K r ⟨s.env, S'⟩
  | .callV f xs => match s.ev f with
    | .one (.fn g caps) => plainF P g = true ∧ CallSK P g (AV.rens up1 (s.evs xs ++ caps.map .one)) (upS s.S) fun r S' => K (r.ren dn1) ⟨s.env, dnS S'⟩
    | _ => False
def Kd.ptrOpd : Kd → Option Opd
  | .load _ _ x => some x
  | .store _ x _ => some x
  | .fieldAddr _ x => some x
  | .nilCheck x => some x
  | _ => none
def ptrIs (id : Nat) : AV → Prop
  | .one (.ptr i _ _ _) => i = id
  | _ => False
def Tag.ok (t : Tag) (kd : Kd) (s s' : AS) : Prop := match t with
  | .no => True
  | .onb id => match kd.ptrOpd with
    | some x => ptrIs id (s.ev x)
    | none => False
  | .keeps ks => ∀ k ∈ ks, s'.S k = s.S k
def Kd.goT (kd : Kd) (P : Program) (d : Nat) (s : AS) (t : Tag) (K : AV → AS → Prop) : Prop := kd.go P d s fun v s' => t.ok kd s s' ∧ K v s'
def Run (P : Program) : List Ins → AS → (AS → Prop) → Prop
  | [], s, K => K s
  | i :: l, s, K => match i.guard with
    | none => i.kd.goT P (i.dst.getD 0) s i.tag fun v s' => Run P l (s'.put i.dst v) K
    | some (g, want) => match s.env g with
      | .one (.st (.bool b)) => (b = want → i.kd.goT P (i.dst.getD 0) s i.tag fun v s' => Run P l (s'.put i.dst v) K) ∧ (¬ b = want → Run P l (s.put i.dst (.tup [])) K)
      | .tup [] => Run P l (s.put i.dst (.tup [])) K
      | _ => False
inductive IR where
  | skip
  | ops (l : List Ins)
  | seq (x y : IR)
  | cond (c : Opd) (x y : IR)
  | block (id : Nat) (x : IR)
  | loop (x : IR)
  | exit (id : Nat)
  | ret
end Go.Proofs.Ytohgkbgpcnmdpaa

namespace Go.Proofs.Ytohgkbgpcnmdpaa
open Go Go.RowKit
set_option linter.unusedVariables false
structure Ctx where
  n : Nat
  N : Nat
  G : Nat → Prop
  σ0 : Sto
  w0 : World
  S0 : AStore
  ι0 : AHnd
  clean : Clean S0
  glob : GlobIn σ0
  ds : List Deferred
structure Refs (C : Ctx) (σ : Sto) (ι : AHnd) (s : AS) (a : Act) (w : World) : Prop where
  size : C.n ≤ a.tmps.size
  env : ∀ i, i < C.n → VRep σ s.S ι (a.tmps.getD i undef) (s.env i)
  nod : a.defers = C.ds
  fit : Fit σ w
  blk : ∀ id b, s.S id = some b → BRep σ s.S ι w (ι id) b
  inj : ∀ id id' b b' g, s.S id = some b → s.S id' = some b' → (ι id).g = some g → (ι id').g = some g → id = id'
  base : ∀ id b g, s.S id = some b → (ι id).g = some g → C.N ≤ g ∨ C.G g
  ext : ∀ p x, C.σ0 p = some x → σ p = some x
  old : ∀ p : Addr, p.block < C.N → ¬ C.G p.block → σ p = C.σ0 p
  os : w.os = C.w0.os ∧ w.tape = C.w0.tape ∧ w.output = C.w0.output
  grown : C.N ≤ w.heap.size ∧ C.w0.heap.size ≤ w.heap.size
  same : ∀ g, g < C.N → ¬ C.G g → w.heap[g]? = C.w0.heap[g]?
  upd : Upd C.S0 C.ι0 s.S ι
def More (w w' : World) : Prop := Below w.heap.size w w'
theorem More.drew (w : World) : More w w.drew := (Below.refl _ _).drew
theorem More.alloc (w : World) (o : Obj) : More w (w.alloc o) := (Below.refl _ _).alloc (Nat.le_refl _) o
section
variable {C : Ctx} {σ : Sto} {ι : AHnd} {s : AS} {a : Act} {w : World}
theorem Refs.put (R : Refs C σ ι s a w) {d : Option Nat} {v : Value} {av : AV} (hv : VRep σ s.S ι v av) : Refs C σ ι (s.put d av) (a.put d v) w := by
  cases d with
  | none => exact R
  | some d =>
    refine { R with size := ?_, env := fun i hi => ?_, nod := R.nod }
    · simpa [Act.put] using R.size
    · have hs := R.size
      show VRep σ s.S ι ((a.tmps.setIfInBounds d v).getD i undef) (updE s.env d av i)
      unfold updE
      by_cases h : i = d
      · subst h
        rw [if_pos rfl]
        rw [show (a.tmps.setIfInBounds i v).getD i undef = v by
          simp only [Array.getD_eq_getD_getElem?]
          rw [Array.getElem?_setIfInBounds_self_of_lt (by omega)]
          rfl]
        exact hv
      · rw [if_neg h]
        rw [show (a.tmps.setIfInBounds d v).getD i undef = a.tmps.getD i undef by
          simp only [Array.getD_eq_getD_getElem?]
          rw [Array.getElem?_setIfInBounds_ne (by omega)]]
        exact R.env i hi
theorem Refs.more (R : Refs C σ ι s a w) {σ' : Sto} {w' : World} (he : Ext w.heap.size σ σ') (hf : Fit σ' w') (hb : More w w') : Refs C σ' ι s a w' := by
  have hlt : ∀ id b g, s.S id = some b → (ι id).g = some g → g < w.heap.size := fun id b g h1 h2 => (R.blk id b h1).gsome h2
  refine ⟨R.size, fun i hi => (R.env i hi).mono he.keep (Upd.refl _ _), R.nod, hf, fun id b h => (R.blk id b h).mono he.keep (Upd.refl _ _) (fun g hg => hb.block g (hlt id b g h hg)) (fun g hg p hp => he.old p (by have := hlt id b g h hg; omega)), R.inj, R.base,
    fun p x h => he.keep _ _ (R.ext p x h), fun p h1 h2 => (he.old p (by have := R.grown.1; omega)).trans (R.old p h1 h2), ⟨hb.os.trans R.os.1, hb.tape.trans R.os.2.1, hb.output.trans R.os.2.2⟩, ⟨Nat.le_trans R.grown.1 hb.size, Nat.le_trans R.grown.2 hb.size⟩, fun g h1 h2 => (hb.block g (by have := R.grown.1; omega)).trans (R.same g h1 h2), R.upd⟩
theorem Refs.world (R : Refs C σ ι s a w) {w' : World} (hb : More w w') : Refs C σ ι s a w' := R.more (Ext.refl _ _) (R.fit.below hb) hb
theorem Refs.drew (R : Refs C σ ι s a w) : Refs C σ ι s a w.drew := R.world (More.drew w)
theorem updE_same {α : Type} (f : Nat → α) (d : Nat) (v : α) : updE f d v d = v := by simp [updE]
theorem updE_ne {α : Type} (f : Nat → α) {d i : Nat} (h : i ≠ d) (v : α) : updE f d v i = f i := by simp [updE, h]
theorem Refs.fresh (R : Refs C σ ι s a w) {w' : World} {id : Nat} (hid : s.S id = none) (b : ABlk) (h : Hnd) {σ' : Sto} (he : Ext w.heap.size σ σ') (hf : Fit σ' w') (hb : More w w') (hg : ∀ g, h.g = some g → w.heap.size ≤ g)
    (hr : ∀ S' ι', Upd s.S ι S' ι' → BRep σ' S' ι' w' h b) :
    Upd s.S ι (s.set id b).S (updE ι id h) ∧ Refs C σ' (updE ι id h) (s.set id b) a w' := by
  have hu : Upd s.S ι (s.set id b).S (updE ι id h) := fun id' b' hb' => by
    have hne : id' ≠ id := by intro e; subst e; rw [hid] at hb'; cases hb'
    exact ⟨b', by simp [AS.set, updE_ne _ hne, hb'], Nat.le_refl _, fun _ => ⟨rfl, updE_ne _ hne _⟩⟩
  have R' := R.more he hf hb
  have hlt : ∀ id b g, s.S id = some b → (ι id).g = some g → g < w.heap.size := fun id b g h1 h2 => (R.blk id b h1).gsome h2
  have hcase : ∀ id' b', (s.set id b).S id' = some b' → (id' = id ∧ b' = b) ∨ (id' ≠ id ∧ s.S id' = some b') := by
    intro id' b' h'
    by_cases e : id' = id
    · subst e
      simp only [AS.set, updE_same, Option.some.injEq] at h'
      exact .inl ⟨rfl, h'.symm⟩
    · simp only [AS.set, updE_ne _ e] at h'
      exact .inr ⟨e, h'⟩
  refine ⟨hu, ⟨R'.size, fun i hi => (R'.env i hi).mono (fun _ _ h => h) hu, R'.nod, hf, fun id' b' h' => ?_, fun id1 id2 b1 b2 g h1 h2 g1 g2 => ?_, fun id' b' g h' hg' => ?_, R'.ext, R'.old, R'.os, R'.grown, R'.same, R.upd.trans hu⟩⟩
  · rcases hcase id' b' h' with ⟨rfl, rfl⟩ | ⟨hne, h''⟩
    · rw [updE_same]
      exact hr _ _ hu
    · rw [updE_ne _ hne]
      exact (R'.blk id' b' h'').mono (fun _ _ h => h) hu (fun _ _ => rfl) (fun _ _ _ _ => rfl)
  · rcases hcase id1 b1 h1 with ⟨rfl, rfl⟩ | ⟨hne1, k1⟩ <;> rcases hcase id2 b2 h2 with ⟨rfl, rfl⟩ | ⟨hne2, k2⟩
    · rfl
    · rw [updE_same] at g1
      rw [updE_ne _ hne2] at g2
      have := hlt _ _ _ k2 g2
      have := hg _ g1
      omega
    · rw [updE_same] at g2
      rw [updE_ne _ hne1] at g1
      have := hlt _ _ _ k1 g1
      have := hg _ g2
      omega
    · rw [updE_ne _ hne1] at g1
      rw [updE_ne _ hne2] at g2
      exact R.inj _ _ _ _ _ k1 k2 g1 g2
  · rcases hcase id' b' h' with ⟨rfl, rfl⟩ | ⟨hne, h''⟩
    · rw [updE_same] at hg'
      have := hg _ hg'
      exact .inl (by have := R.grown.1; omega)
    · rw [updE_ne _ hne] at hg'
      exact R.base _ _ _ h'' hg'
theorem Refs.turn (R : Refs C σ ι s a w) {w' : World} {id : Nat} {b : ABlk} (hid : s.S id = some b) (b' : ABlk) (h : Hnd) {σ' : Sto} (hs : ∀ p x, σ p = some x → σ' p = some x)
    (hn : ∀ p : Addr, (ι id).g ≠ some p.block → p.block < w.heap.size → σ' p = σ p) (hf : Fit σ' w') (hlen : b.len ≤ b'.len) (hsame : b'.len = b.len → b'.wid = b.wid ∧ h = ι id)
    (hos : w'.os = w.os ∧ w'.tape = w.tape ∧ w'.output = w.output) (hsz : w.heap.size ≤ w'.heap.size) (hw : ∀ g, g < w.heap.size → (ι id).g ≠ some g → w'.heap[g]? = w.heap[g]?)
    (hg : ∀ g, h.g = some g → (ι id).g = some g ∨ w.heap.size ≤ g) (hr : Upd s.S ι (s.set id b').S (updE ι id h) → BRep σ' (s.set id b').S (updE ι id h) w' h b') :
    Upd s.S ι (s.set id b').S (updE ι id h) ∧ Refs C σ' (updE ι id h) (s.set id b') a w' := by
  have hu : Upd s.S ι (s.set id b').S (updE ι id h) := fun id' c hc => by
    by_cases e : id' = id
    · subst e
      rw [hid] at hc
      cases hc
      exact ⟨b', by simp [AS.set, updE_same], hlen, fun he => ⟨(hsame he).1, by rw [updE_same]; exact (hsame he).2⟩⟩
    · exact ⟨c, by simp [AS.set, updE_ne _ e, hc], Nat.le_refl _, fun _ => ⟨rfl, updE_ne _ e _⟩⟩
  have hlt : ∀ id b g, s.S id = some b → (ι id).g = some g → g < w.heap.size := fun id b g h1 h2 => (R.blk id b h1).gsome h2
  have hcase : ∀ id' c, (s.set id b').S id' = some c → (id' = id ∧ c = b') ∨ (id' ≠ id ∧ s.S id' = some c) := by
    intro id' c h'
    by_cases e : id' = id
    · subst e
      simp only [AS.set, updE_same, Option.some.injEq] at h'
      exact .inl ⟨rfl, h'.symm⟩
    · simp only [AS.set, updE_ne _ e] at h'
      exact .inr ⟨e, h'⟩
  have hold : ∀ g, g < C.N → ¬ C.G g → (ι id).g ≠ some g := fun g h1 h2 e => by
    rcases R.base _ _ _ hid e with h | h
    · omega
    · exact h2 h
  refine ⟨hu, ⟨R.size, fun i hi => (R.env i hi).mono hs hu, R.nod, hf, fun id' c h' => ?_, fun id1 id2 b1 b2 g h1 h2 g1 g2 => ?_, fun id' c g h' hg' => ?_, fun p x hx => hs _ _ (R.ext p x hx), fun p h1 h2 => ?_, ⟨hos.1.trans R.os.1, hos.2.1.trans R.os.2.1, hos.2.2.trans R.os.2.2⟩, ⟨Nat.le_trans R.grown.1 hsz, Nat.le_trans R.grown.2 hsz⟩, fun g h1 h2 => ?_, R.upd.trans hu⟩⟩
  · rcases hcase id' c h' with ⟨rfl, rfl⟩ | ⟨hne, h''⟩
    · rw [updE_same]
      exact hr hu
    · rw [updE_ne _ hne]
      have hother : ∀ g, (ι id').g = some g → (ι id).g ≠ some g := fun g h1 h2 => hne (R.inj _ _ _ _ _ h'' hid h1 h2)
      refine (R.blk id' c h'').mono hs hu (fun g hg' => hw g (hlt _ _ _ h'' hg') (hother g hg')) (fun g hg' p hp => hn p (by rw [hp]; exact hother g hg') (by rw [hp]; exact hlt _ _ _ h'' hg'))
  · rcases hcase id1 b1 h1 with ⟨rfl, rfl⟩ | ⟨hne1, k1⟩ <;> rcases hcase id2 b2 h2 with ⟨rfl, rfl⟩ | ⟨hne2, k2⟩
    · rfl
    · rw [updE_same] at g1
      rw [updE_ne _ hne2] at g2
      rcases hg _ g1 with h | h
      · exact (R.inj _ _ _ _ _ k2 hid g2 h).symm
      · have := hlt _ _ _ k2 g2
        omega
    · rw [updE_same] at g2
      rw [updE_ne _ hne1] at g1
      rcases hg _ g2 with h | h
      · exact R.inj _ _ _ _ _ k1 hid g1 h
      · have := hlt _ _ _ k1 g1
        omega
    · rw [updE_ne _ hne1] at g1
      rw [updE_ne _ hne2] at g2
      exact R.inj _ _ _ _ _ k1 k2 g1 g2
  · rcases hcase id' c h' with ⟨rfl, rfl⟩ | ⟨hne, h''⟩
    · rw [updE_same] at hg'
      rcases hg _ hg' with h | h
      · exact R.base _ _ _ hid h
      · exact .inl (by have := R.grown.1; omega)
    · rw [updE_ne _ hne] at hg'
      exact R.base _ _ _ h'' hg'
  · exact (hn p (hold _ h1 h2) (by have := R.grown.1; omega)).trans (R.old p h1 h2)
  · exact (hw g (by have := R.grown.1; omega) (hold g h1 h2)).trans (R.same g h1 h2)
theorem Refs.row_srep (R : Refs C σ ι s a w) {v : Value} {id n : Nat} {e : TypeId} {wd : Nat} {xs : List (List SV)} (hv : ARep σ s.S ι v (.row id n)) (hS : s.S id = some (.arow e wd xs)) (hn : n = xs.length) : SRep σ v (.list xs) := by
  cases hv with
  | row h1 h2 h3 h4 =>
    rw [hS] at h1
    cases h1
    rw [h4 hn, hn]
    exact (R.blk _ _ hS).srep
theorem Refs.stC (R : Refs C σ ι s a w) {v : Value} {c : AC} {x : SV} (hv : ARep σ s.S ι v c) (h : stC s.S c = some x) : SRep σ v x := by
  unfold Go.Proofs.Ytohgkbgpcnmdpaa.stC at h
  split at h
  · cases h
    cases hv with | st h => exact h
  · cases h
    cases hv with | full h => exact h
  · split at h
    · rename_i hS
      split at h
      · rename_i hn
        cases h
        exact R.row_srep hv hS hn
      · cases h
    · cases h
  · cases h
    cases hv with
    | fn c h1 h2 h3 =>
      rename_i vs
      have : vs = #[] := Array.eq_empty_of_size_eq_zero (by simpa using h1)
      subst this
      exact .lit rfl
  · cases h
theorem Refs.stCs (R : Refs C σ ι s a w) : ∀ {vs : List Value} {cs : List AC} {xs : List SV}, All2 (ARep σ s.S ι) vs cs → stCs s.S cs = some xs → All2 (SRep σ) vs xs
  | _, _, _, .nil, h => by
    simp only [Go.Proofs.Ytohgkbgpcnmdpaa.stCs, Option.some.injEq] at h
    subst h
    exact .nil
  | _, _, _, .cons h1 h2, h => by
    simp only [Go.Proofs.Ytohgkbgpcnmdpaa.stCs] at h
    split at h
    · rename_i k1 k2
      cases h
      exact .cons (R.stC h1 k1) (R.stCs h2 k2)
    · cases h
theorem upd_noS (S : AStore) (ι : AHnd) : Upd noS noH S ι := fun id b h => by simp [noS] at h
theorem Refs.outC (R : Refs C σ ι s a w) {v : Value} {c c' : AC} (hv : ARep σ s.S ι v c) (h : outC s.S c = some c') : ARep σ noS noH v c' := by
  unfold Go.Proofs.Ytohgkbgpcnmdpaa.outC at h
  split at h
  · cases h
    cases hv with | eptr c h1 h2 hh => exact .eptr c h1 h2 hh
  · cases h
    cases hv
    exact .ubool
  · cases h
    cases hv with
    | fn c h1 h2 h3 => exact .fn c h1 h2 (by simp)
  · rw [Option.map_eq_some_iff] at h
    obtain ⟨x, h1, rfl⟩ := h
    exact .st (R.stC hv h1)
theorem Refs.outCs (R : Refs C σ ι s a w) : ∀ {vs : List Value} {cs xs : List AC}, All2 (ARep σ s.S ι) vs cs → outCs s.S cs = some xs → All2 (ARep σ noS noH) vs xs
  | _, _, _, .nil, h => by
    simp only [Go.Proofs.Ytohgkbgpcnmdpaa.outCs, Option.some.injEq] at h
    subst h
    exact .nil
  | _, _, _, .cons h1 h2, h => by
    simp only [Go.Proofs.Ytohgkbgpcnmdpaa.outCs] at h
    split at h
    · rename_i k1 k2
      cases h
      exact .cons (R.outC h1 k1) (R.outCs h2 k2)
    · cases h
mutual
theorem Refs.outV (R : Refs C σ ι s a w) : ∀ {v : Value} {c c' : AV}, VRep σ s.S ι v c → outV s.S c = some c' → VRep σ noS noH v c'
  | v, .one c, c', hv, h => by
    simp only [Go.Proofs.Ytohgkbgpcnmdpaa.outV, Option.map_eq_some_iff] at h
    obtain ⟨x, h1, rfl⟩ := h
    cases hv with | one h2 => exact .one (R.outC h2 h1)
  | v, .agg cs, c', hv, h => by
    simp only [Go.Proofs.Ytohgkbgpcnmdpaa.outV, Option.map_eq_some_iff] at h
    obtain ⟨x, h1, rfl⟩ := h
    cases hv with | agg h2 => exact .agg (R.outCs h2 h1)
  | v, .tup cs, c', hv, h => by
    simp only [Go.Proofs.Ytohgkbgpcnmdpaa.outV, Option.map_eq_some_iff] at h
    obtain ⟨x, h1, rfl⟩ := h
    cases hv with
    | tup c h2 h3 h4 =>
      obtain ⟨k1, k2⟩ := Refs.outVs R (c := c) h4 h1
      exact .tup c (by rw [h2, k1]) (fun j b hb => by
        rcases Nat.lt_or_ge j cs.length with hj | hj
        · exact h3 j _ (List.getElem?_eq_getElem hj)
        · rw [List.getElem?_eq_none (by omega)] at hb; cases hb) k2
  | v, .any, c', hv, h => by
    simp only [Go.Proofs.Ytohgkbgpcnmdpaa.outV, Option.some.injEq] at h
    subst h
    exact .any
theorem Refs.outVs (R : Refs C σ ι s a w) : ∀ {cs cs' : List AV} {c : Nat → Value}, (∀ j b, cs[j]? = some b → VRep σ s.S ι (c j) b) → outVs s.S cs = some cs' → cs.length = cs'.length ∧ ∀ j b, cs'[j]? = some b → VRep σ noS noH (c j) b
  | [], cs', c, hv, h => by
    simp only [Go.Proofs.Ytohgkbgpcnmdpaa.outVs, Option.some.injEq] at h
    subst h
    simp
  | x :: xs, cs', c, hv, h => by
    simp only [Go.Proofs.Ytohgkbgpcnmdpaa.outVs] at h
    split at h
    · rename_i k1 k2
      cases h
      have h0 := Refs.outV R (hv 0 x rfl) k1
      obtain ⟨m1, m2⟩ := Refs.outVs R (c := fun j => c (j + 1)) (fun j b hb => hv (j + 1) b (by simpa using hb)) k2
      refine ⟨by simp [m1], fun j b hb => ?_⟩
      cases j with
      | zero => simp at hb; subst hb; exact h0
      | succ j => exact m2 j b (by simpa using hb)
    · cases h
end
end
end Go.Proofs.Ytohgkbgpcnmdpaa

namespace Go.Proofs.Ytohgkbgpcnmdpaa
open Go Go.RowKit
set_option linter.unusedVariables false
set_option maxHeartbeats 400000
theorem inR_wrap {k : IntKind} {n : Int} (h : inR k n) : k.wrap n = n := by
  cases k <;> simp [inR, IntKind.min, IntKind.max, IntKind.wrap, IntKind.signed, IntKind.bits] at h ⊢ <;> omega
instance (k : IntKind) (n : Int) : Decidable (inR k n) := by unfold inR; exact inferInstance
def Good (P : Program) (C : Ctx) (o : Oper) (a : Act) (w : World) (K : AV → AS → Prop) : Prop :=
  ∃ v av s' σ' ι' w', ((execOp a.eval o).run P w = .ok (.value v) w' ∨ (v = undef ∧ (execOp a.eval o).run P w = .ok .skip w')) ∧ K av s' ∧ Refs C σ' ι' s' a w' ∧ VRep σ' s'.S ι' v av
section
variable {P : Program} {C : Ctx} {o : Oper} {a : Act} {w : World} {K : AV → AS → Prop} {σ : Sto} {ι : AHnd} {s : AS} {d : Nat} {S : AStore}
theorem good_val (R : Refs C σ ι s a w) (v : Value) (av : AV) (hr : (execOp a.eval o).run P w = .ok (.value v) w) (hK : K av s) (hv : VRep σ s.S ι v av) : Good P C o a w K :=
  ⟨v, av, s, σ, ι, w, .inl hr, hK, R, hv⟩
theorem Good.wp (h : Good P C o a w K) {Q : Exit → Act → World → Prop} {next : Act → World → Prop} (hn : ∀ av s' σ' ι' a' w', K av s' → Refs C σ' ι' (s'.put o.dst av) a' w' → next a' w') : o.wp P a w next Q := by
  obtain ⟨v, av, s', σ', ι', w', hr, hK, R, hv⟩ := h
  unfold Oper.wp
  rcases hr with hr | ⟨rfl, hr⟩
  · rw [hr]
    exact hn _ _ _ _ _ _ hK (R.put hv)
  · rw [hr]
    exact hn _ _ _ _ _ _ hK (R.put hv)
end
def ofCell : Value → Option AC
  | .int k n => if inR k n then some (.st (.int k n)) else none
  | .string b => if b.size ≤ maxLen then some (.st (.str b)) else none
  | .bool b => some (.st (.bool b))
  | .slice none 0 0 => some (.full [])
  | .func (.func f) x y => if x.size = 0 ∧ y.size = 0 then some (.fn f []) else none
  | v => if v.oneCell' then some (.st (.lit v)) else none
def ofCells : List Value → Option (List AC)
  | [] => some []
  | v :: vs => match ofCell v, ofCells vs with
    | some c, some cs => some (c :: cs)
    | _, _ => none
def ofVal (v : Value) : Option AV := match v with
  | .agg cs => (ofCells cs.toList).map .agg
  | .tuple cs => if cs.size = 0 then some (.tup []) else none
  | v => (ofCell v).map .one
def trOpd (n : Nat) : Operand → Option Opd
  | .tmp t => if t < n then some (.t t) else none
  | .const v => (ofVal v).map .c
  | .func f => some (.c (.one (.fn f [])))
  | .global g => some (.c (.one (match globOf g with | some cs => .eptr cs | none => .st (.lit (.pointer (some ⟨g, 0, none⟩))))))
def trOpds (n : Nat) : List Operand → Option (List Opd)
  | [] => some []
  | x :: xs => match trOpd n x, trOpds n xs with
    | some c, some cs => some (c :: cs)
    | _, _ => none
section
variable {σ : Sto} {S : AStore} {ι : AHnd}
theorem srep_nil : SRep σ (.slice none 0 0) (.list []) := .list (b := 0) (o := 0) (w := 0) (fun _ _ => undef) rfl (Nat.le_refl _) (by simp [maxLen]) (fun _ => rfl) (by simp) (by simp) (fun _ h _ => absurd h (by omega)) (by simp) (by simp)
theorem ofCell_rep {v : Value} {c : AC} (h : ofCell v = some c) : ARep σ S ι v c := by
  unfold ofCell at h
  split at h
  · split at h
    · cases h; exact .st (.int ‹_›)
    · cases h
  · split at h
    · cases h; exact .st (.str ‹_›)
    · cases h
  · cases h; exact .st .bool
  · cases h; exact .full srep_nil
  · split at h
    · rename_i x y hxy
      cases h
      have e1 : x = #[] := Array.eq_empty_of_size_eq_zero hxy.1
      have e2 : y = #[] := Array.eq_empty_of_size_eq_zero hxy.2
      subst e1 e2
      exact .fn (fun _ => undef) rfl (by simp) (by simp)
    · cases h
  · split at h
    · cases h; exact .st (.lit ‹_›)
    · cases h
theorem ofCells_rep : ∀ {vs : List Value} {cs : List AC}, ofCells vs = some cs → All2 (ARep σ S ι) vs cs
  | [], cs, h => by simp only [ofCells, Option.some.injEq] at h; subst h; exact .nil
  | v :: vs, cs, h => by
    simp only [ofCells] at h
    split at h
    · rename_i k1 k2
      cases h
      exact .cons (ofCell_rep k1) (ofCells_rep k2)
    · cases h
theorem ofVal_rep {v : Value} {c : AV} (h : ofVal v = some c) : VRep σ S ι v c := by
  unfold ofVal at h
  split at h
  · rw [Option.map_eq_some_iff] at h
    obtain ⟨x, h1, rfl⟩ := h
    exact .agg (ofCells_rep h1)
  · split at h
    · rename_i cs hcs
      cases h
      have e1 : cs = #[] := Array.eq_empty_of_size_eq_zero hcs
      subst e1
      exact .tup (fun _ => undef) rfl (by simp) (by simp)
    · cases h
  · rw [Option.map_eq_some_iff] at h
    obtain ⟨x, h1, rfl⟩ := h
    exact .one (ofCell_rep h1)
end
section
variable {P : Program} {C : Ctx} {o : Oper} {a : Act} {w : World} {K : AV → AS → Prop} {σ : Sto} {ι : AHnd} {s : AS} {d : Nat} {S : AStore}
theorem Refs.ev (R : Refs C σ ι s a w) {x : Operand} {x' : Opd} (h : trOpd C.n x = some x') : VRep σ s.S ι (a.eval x) (s.ev x') := by
  unfold trOpd at h
  split at h
  · split at h
    · cases h; exact R.env _ ‹_›
    · cases h
  · rw [Option.map_eq_some_iff] at h
    obtain ⟨c, h1, rfl⟩ := h
    exact ofVal_rep h1
  · cases h
    exact .one (.fn (fun _ => undef) rfl (by simp) (by simp))
  · rename_i g
    cases h
    refine .one ?_
    show ARep σ s.S ι (.pointer (some ⟨g, 0, none⟩)) (match globOf g with | some cs => .eptr cs | none => .st (.lit (.pointer (some ⟨g, 0, none⟩))))
    split
    · rename_i cs hcs
      exact (C.glob.mono R.ext).of hcs
    · exact .st (.lit rfl)
theorem Refs.evs (R : Refs C σ ι s a w) : ∀ {xs : List Operand} {xs' : List Opd}, trOpds C.n xs = some xs' → All2 (VRep σ s.S ι) (xs.map a.eval) (s.evs xs')
  | [], xs', h => by simp only [trOpds, Option.some.injEq] at h; subst h; exact .nil
  | x :: xs, xs', h => by
    simp only [trOpds] at h
    split at h
    · rename_i k1 k2
      cases h
      exact .cons (R.ev k1) (R.evs k2)
    · cases h
theorem vrep_one {v : Value} {c : AC} (h : VRep σ S ι v (.one c)) : ARep σ S ι v c := by cases h; assumption
theorem arep_eptr {v : Value} {cs : List SV} (h : ARep σ S ι v (.eptr cs)) : ∃ b oo, v = .pointer (some ⟨b, oo, none⟩) ∧ ∃ c : Nat → Value, (∀ j x, cs[j]? = some x → σ ⟨b, oo + j, none⟩ = some (c j)) ∧ (∀ j x, cs[j]? = some x → SRep σ (c j) x) := by
  cases h with | eptr c h1 h2 => exact ⟨_, _, rfl, c, h1, h2⟩
theorem arep_eptrH {v : Value} {cs : List SV} (h : ARep σ S ι v (.eptr cs)) : ∃ b oo, v = .pointer (some ⟨b, oo, none⟩) ∧ ∃ c : Nat → Value, (∀ j x, cs[j]? = some x → σ ⟨b, oo + j, none⟩ = some (c j)) ∧ (∀ j x, cs[j]? = some x → SRep σ (c j) x) ∧ (hardRows = true → 2 ≤ cs.length → σ ⟨b, 0, some 1⟩ = some .nilFunc) := by
  cases h with | eptr c h1 h2 hh => exact ⟨_, _, rfl, c, h1, h2, hh⟩
theorem arep_ptr {v : Value} {id m k off : Nat} (h : ARep σ S ι v (.ptr id m k off)) : ∃ b, S id = some b ∧ m ≤ b.len ∧ (m = b.len → ∃ g, (ι id).g = some g ∧ v = .pointer (some ⟨g, k * b.wid + off, none⟩)) := by
  cases h with | ptr h1 h2 h3 h4 => exact ⟨_, h1, h2, h4⟩
theorem arep_row {v : Value} {id m : Nat} (h : ARep σ S ι v (.row id m)) : ∃ b, S id = some b ∧ m ≤ b.len ∧ (m = b.len → v = .slice (ι id).p m (ι id).cap) := by
  cases h with | row h1 h2 h3 h4 => exact ⟨_, h1, h2, h4⟩
theorem arep_part {v : Value} {id k m : Nat} (h : ARep σ S ι v (.part id k m)) : ∃ b, S id = some b ∧ m ≤ b.len ∧ (m = b.len → k ≤ m ∧ v = .slice (ι id).p k (ι id).cap) := by
  cases h with | part h1 h2 h3 h4 => exact ⟨_, h1, h2, h4⟩
theorem arep_rest {v : Value} {id o m : Nat} (h : ARep σ S ι v (.rest id o m)) : ∃ b, S id = some b ∧ m ≤ b.len ∧ (m = b.len → o ≤ m ∧ v = .slice (if (ι id).cap = o then (ι id).p else (ι id).p.map (·.add (o * b.wid))) (m - o) ((ι id).cap - o)) := by
  cases h with | rest h1 h2 h3 h4 => exact ⟨_, h1, h2, h4⟩
theorem arep_st {v : Value} {c : SV} (h : ARep σ S ι v (.st c)) : SRep σ v c := by cases h; assumption
def isAggD : TypeDesc → Bool
  | .struct _ | .array _ _ => true
  | _ => false
theorem addr_add (b o j : Nat) : (⟨b, o, none⟩ : Addr).add j = ⟨b, o + j, none⟩ := by unfold Addr.add; split <;> simp_all
theorem run_loadCellsL {b o : Nat} {cs : List Value} (h : ∀ j v, cs[j]? = some v → w.cell? ⟨b, o + j, none⟩ = some v) : (loadCells ⟨b, o, none⟩ cs.length).run P w = .ok cs.toArray w :=
  run_loadCells_list w ⟨b, o, none⟩ cs fun j v hj => by rw [addr_add]; exact h j v hj
theorem run_loadAt {t : TypeId} {d : TypeDesc} {i : TypeInfo} (hd : P.underlying t = some d) (hi : P.info? t = some i) {b o : Nat} {cs : List Value} (h : ∀ j v, cs[j]? = some v → w.cell? ⟨b, o + j, none⟩ = some v)
    (g : Bool) (hg : g = isAggD d) (hn : cs.length = if g then i.size else 1) :
    ∃ v, (Instr.loadAt t (.pointer (some ⟨b, o, none⟩))).run P w = .ok v w ∧ (if g then v = .agg cs.toArray else cs = [v]) := by
  cases g with
  | true =>
    refine ⟨.agg cs.toArray, ?_, rfl⟩
    have hl := run_loadCellsL (P := P) h
    simp only [if_true] at hn
    rw [hn] at hl
    have ha : (isAgg t).run P w = .ok true w := by
      simp only [isAgg, Sem.run_bind, run_underlying hd, Result.andThen_ok]
      cases d <;> first | rfl | simp [isAggD] at hg
    simp [Instr.loadAt, Instr.sureAddr, loadVar, ha, sizeOf, typeInfo, hi, hl]
  | false =>
    simp only [Bool.false_eq_true, if_false] at hn ⊢
    obtain ⟨v, rfl⟩ : ∃ v, cs = [v] := by
      match cs, hn with
      | [v], _ => exact ⟨v, rfl⟩
    refine ⟨v, ?_, rfl⟩
    have ha : (isAgg t).run P w = .ok false w := by
      simp only [isAgg, Sem.run_bind, run_underlying hd, Result.andThen_ok]
      cases d <;> first | rfl | simp [isAggD] at hg
    have h0 := h 0 v rfl
    simp only [Nat.add_zero] at h0
    simp [Instr.loadAt, Instr.sureAddr, loadVar, ha, load, Sem.run, h0]
theorem vrep_pack {g : Bool} {v : Value} {cs : List Value} {xs : List AC} (h : All2 (ARep σ s.S ι) cs xs) (hv : if g then v = .agg cs.toArray else cs = [v]) : VRep σ s.S ι v (pack g xs) := by
  cases g with
  | true =>
    simp only [if_true] at hv
    subst hv
    exact .agg (by simpa using h)
  | false =>
    simp only [Bool.false_eq_true, if_false] at hv
    subst hv
    cases h with
    | cons h1 h2 => cases h2; exact .one h1
theorem eptr_cells (hf : Fit σ w) {b o : Nat} {cs : List SV} {c : Nat → Value} (h1 : ∀ j x, cs[j]? = some x → σ ⟨b, o + j, none⟩ = some (c j)) (h2 : ∀ j x, cs[j]? = some x → SRep σ (c j) x) (n : Nat) (hn : n ≤ cs.length) :
    ∃ vs : List Value, vs.length = n ∧ (∀ j v, vs[j]? = some v → w.cell? ⟨b, o + j, none⟩ = some v) ∧ All2 (ARep σ S ι) vs ((cs.take n).map .st) := by
  refine ⟨(List.range n).map c, by simp, fun j v hj => ?_, ?_⟩
  · rw [List.getElem?_map] at hj
    by_cases hlt : j < n
    · rw [List.getElem?_range hlt] at hj
      simp only [Option.map_some, Option.some.injEq] at hj
      subst hj
      exact hf _ _ (h1 j _ (List.getElem?_eq_getElem (by omega)))
    · rw [List.getElem?_eq_none (by simp; omega)] at hj
      simp at hj
  · refine All2.of_get (by simp; omega) fun j v x hv hx => ?_
    have hlt : j < n := by
      rcases Nat.lt_or_ge j n with h | h
      · exact h
      · rw [List.getElem?_eq_none (by simp; omega)] at hv; cases hv
    rw [List.getElem?_map, List.getElem?_range hlt] at hv
    simp only [Option.map_some, Option.some.injEq] at hv
    subst hv
    rw [List.getElem?_map, List.getElem?_take, if_pos hlt, List.getElem?_eq_getElem (by omega)] at hx
    simp only [Option.map_some, Option.some.injEq] at hx
    subst hx
    exact .st (h2 j _ (List.getElem?_eq_getElem (by omega)))
theorem Refs.ptr_cells (R : Refs C σ ι s a w) {v : Value} {id m k off : Nat} (hv : ARep σ s.S ι v (.ptr id m k off)) {cs : List AC} (h : blkCells s.S id m k = some cs) :
    ∃ b o, v = .pointer (some ⟨b, o + off, none⟩) ∧ ∃ vs : List Value, (∀ j v, vs[j]? = some v → w.cell? ⟨b, o + j, none⟩ = some v) ∧ All2 (ARep σ s.S ι) vs cs := by
  cases hv with
  | ptr h1 h2 h3 h4 =>
  unfold blkCells at h
  rw [h1] at h
  have hb := R.blk _ _ h1
  split at h
  · rename_i heq
    cases heq
    split at h
    · rename_i hk
      cases h
      obtain ⟨g, g1, rfl⟩ := h4 hk.2
      cases hb with
      | box k1 k2 k3 k4 k5 =>
        rename_i vs
        rw [k1] at g1
        cases g1
        refine ⟨g, 0, by simp [ABlk.wid], vs.toList, fun j v hj => ?_, k4⟩
        rw [Nat.zero_add, cell_of_row w g j _ _ _ k3]
        simpa using hj
    · cases h
  · rename_i heq
    cases heq
    split at h
    · rename_i hk
      rw [Option.map_eq_some_iff] at h
      obtain ⟨x, hx, rfl⟩ := h
      obtain ⟨g, g1, rfl⟩ := h4 hk
      cases hb with
      | mnil k1 => simp at hx
      | mrow k1 k2 k3 k4 k5 k6 k7 k8 k9 =>
        rename_i wd xs g' vs
        rw [k1] at g1
        cases g1
        have hxm := k7 x (List.mem_of_getElem? hx)
        have key : ∀ j c, x[j]? = some c → vs[k * wd + j]? = some ((vs[k * wd + j]?).getD undef) ∧ SRep σ ((vs[k * wd + j]?).getD undef) c := fun j c hc => by
          obtain ⟨v, v1, v2⟩ := k8 k x j c hx hc
          rw [v1]
          exact ⟨rfl, v2⟩
        refine ⟨g, k * wd, rfl, (List.range x.length).map (fun j => (vs[k * wd + j]?).getD undef), fun j v hj => ?_, ?_⟩
        · rw [List.getElem?_map] at hj
          by_cases hlt : j < x.length
          · rw [List.getElem?_range hlt] at hj
            simp only [Option.map_some, Option.some.injEq] at hj
            subst hj
            rw [cell_of_row w g _ _ _ _ k3]
            exact (key j _ (List.getElem?_eq_getElem hlt)).1
          · rw [List.getElem?_eq_none (by simp; omega)] at hj
            simp at hj
        · refine All2.of_get (by simp) fun j v c hv hc => ?_
          rw [List.getElem?_map, Option.map_eq_some_iff] at hc
          obtain ⟨c', hc', rfl⟩ := hc
          have hlt : j < x.length := (List.getElem?_eq_some_iff.1 hc').1
          rw [List.getElem?_map, List.getElem?_range hlt] at hv
          simp only [Option.map_some, Option.some.injEq] at hv
          subst hv
          exact .st (key j _ hc').2
    · cases h
  · cases h
theorem snd_mov {x : Operand} {x' : Opd} (ho : o.op = .move x ∨ o.op = .assign x) (hx : trOpd C.n x = some x') (R : Refs C σ ι s a w) (h : Kd.go P d s K (.mov x')) : Good P C o a w K :=
  good_val R _ _ (by rcases ho with ho | ho <;> simp [execOp, ho]) h (R.ev hx)
theorem vrep_bool {v : Value} {b : Bool} (h : VRep σ S ι v (.one (.st (.bool b)))) : v = .bool b := by
  cases h with | one h => cases h with | st h => cases h; rfl
theorem vrep_ubool {v : Value} (h : VRep σ S ι v (.one .ubool)) : ∃ b, v = .bool b := by
  cases h with
  | one h =>
    cases h
    exact ⟨_, rfl⟩
theorem vrep_int {v : Value} {k : IntKind} {n : Int} (h : VRep σ S ι v (.one (.st (.int k n)))) : v = .int k n ∧ inR k n := by
  cases h with | one h => cases h with | st h => cases h with | int h => exact ⟨rfl, h⟩
theorem vrep_str {v : Value} {b : ByteArray} (h : VRep σ S ι v (.one (.st (.str b)))) : v = .string b ∧ b.size ≤ maxLen := by
  cases h with | one h => cases h with | st h => cases h with | str h => exact ⟨rfl, h⟩
theorem snd_pick {c x y : Operand} {c' x' y' : Opd} (ho : o.op = .pick c x y) (hc : trOpd C.n c = some c') (hx : trOpd C.n x = some x') (hy : trOpd C.n y = some y') (R : Refs C σ ι s a w) (h : Kd.go P d s K (.pick c' x' y')) : Good P C o a w K := by
  have rc := R.ev hc
  simp only [Kd.go] at h
  split at h
  · rename_i t heq
    rw [heq] at rc
    have := vrep_bool rc
    cases t with
    | true => exact good_val R _ _ (by simp [execOp, ho, this, asBool]) (h.1 rfl) (R.ev hx)
    | false => exact good_val R _ _ (by simp [execOp, ho, this, asBool]) (h.2 rfl) (R.ev hy)
  · exact h.elim
theorem snd_load {t : TypeId} {x : Operand} {x' : Opd} {dd : TypeDesc} {i : TypeInfo} (ho : o.op = .load t x) (hx : trOpd C.n x = some x') (hd : P.underlying t = some dd) (hi : P.info? t = some i)
    (g : Bool) (hg : g = isAggD dd) (n : Nat) (hn : n = if g then i.size else 1) (R : Refs C σ ι s a w) (h : Kd.go P d s K (.load g n x')) : Good P C o a w K := by
  have rx := R.ev hx
  simp only [Kd.go] at h
  split at h
  · rename_i cs heq
    obtain ⟨hle, hK⟩ := h
    rw [heq] at rx
    obtain ⟨b, oo, hex, c, h1, h2⟩ := arep_eptr (vrep_one rx)
    obtain ⟨vs, v1, v2, v3⟩ := eptr_cells (w := w) (S := s.S) (ι := ι) R.fit h1 h2 n hle
    obtain ⟨v, r1, r2⟩ := run_loadAt (P := P) hd hi v2 g hg (by rw [v1, hn])
    exact good_val R v _ (by simp [execOp, ho, hex, r1]) hK (vrep_pack v3 r2)
  · rename_i id m k off heq
    split at h
    · rename_i cs hb
      obtain ⟨hle, hK⟩ := h
      rw [heq] at rx
      obtain ⟨b, oo, hex, vs, v2, v3⟩ := R.ptr_cells (vrep_one rx) hb
      have hlen := v3.len
      have v4 : All2 (ARep σ s.S ι) ((vs.drop off).take n) ((cs.drop off).take n) := (v3.drop off).take n
      obtain ⟨v, r1, r2⟩ := run_loadAt (P := P) (w := w) (b := b) (o := oo + off) (cs := (vs.drop off).take n) hd hi (fun j v hj => by
        rw [List.getElem?_take] at hj
        split at hj
        · rw [List.getElem?_drop] at hj
          rw [Nat.add_assoc]
          exact v2 _ _ hj
        · cases hj) g hg (by simp; omega)
      exact good_val R v _ (by simp [execOp, ho, hex, r1]) hK (vrep_pack v4 r2)
    · exact h.elim
  · exact h.elim
theorem snd_fieldAddr {t f : TypeId} {x : Operand} {x' : Opd} {fs : Array Field} {fd : Field} {i : TypeInfo} (ho : o.op = .fieldAddr t x f) (hx : trOpd C.n x = some x') (hd : P.underlying t = some (.struct fs)) (hf : fs[f]? = some fd) (hi : P.info? fd.type = some i) (hz : i.size ≠ 0)
    (R : Refs C σ ι s a w) (h : Kd.go P d s K (.fieldAddr fd.offset x')) : Good P C o a w K := by
  have rx := R.ev hx
  have run : ∀ b oo, a.eval x = .pointer (some ⟨b, oo, none⟩) → (execOp a.eval o).run P w = .ok (.value (.pointer (some ⟨b, oo + fd.offset, none⟩))) w := fun b oo he => by
    simp [execOp, ho, he, Instr.fieldAt, run_underlying hd, hf, Instr.sureAddr, fieldPlace, sizeOf, typeInfo, hi, hz, addr_add]
  simp only [Kd.go] at h
  split at h
  · rename_i cs heq
    rw [heq] at rx
    obtain ⟨b, oo, hex, c, h1, h2, hh⟩ := arep_eptrH (vrep_one rx)
    refine good_val R _ _ (run _ _ hex) h (.one (.eptr (fun j => c (fd.offset + j)) (fun j y hy => ?_) (fun j y hy => ?_) (fun q1 q2 => hh q1 (by rw [List.length_drop] at q2; omega))))
    · rw [Nat.add_assoc]; exact h1 _ _ (by rw [← List.getElem?_drop]; exact hy)
    · exact h2 _ _ (by rw [← List.getElem?_drop]; exact hy)
  · rename_i id m k off heq
    rw [heq] at rx
    obtain ⟨b, h1, h2, h4⟩ := arep_ptr (vrep_one rx)
    · rw [h1] at h
      obtain ⟨hm, h⟩ := h
      obtain ⟨g, g1, g2⟩ := h4 hm
      exact good_val R _ _ (run _ _ g2) h (.one (.ptr h1 h2 rfl fun _ => ⟨g, g1, by rw [Nat.add_assoc]⟩))
  · exact h.elim
end
end Go.Proofs.Ytohgkbgpcnmdpaa
