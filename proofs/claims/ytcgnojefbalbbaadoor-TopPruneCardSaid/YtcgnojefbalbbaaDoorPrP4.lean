/-
  Part 4 of the texts. Conditions: none.
-/
import Derived.Test.YtcgnojefbalbbaaDoorPrP3
import Derived.MapKept
import Derived.Maps.RangeRun
import Derived.WideKeyRuns
import Derived.DeepKeys3
import Derived.LaidEql
import Derived.Laws.MakeOwn
import Derived.Laws.CopyRow
import Derived.Laws.IdiomCopy
import Derived.OrdersIn
namespace Go.Proofs.YtcgnojefbalbbaaDoor
open Go Go.RowKit Go.MapKept
open Go.ChangeMaps (setBlock)
set_option linter.unusedVariables false
set_option maxHeartbeats 400000
set_option linter.unusedSimpArgs false
def KV.val1 : Option IntKind → KV → Value
 | some k, .i n => .int k n
 | none, .s b => .string b
 | _, _ => .int .i64 0
def KV.val : Option KK → KV → Value
 | some (.int k), .i n => .int k n
 | none, .s b => .string b
 | some (.two a b), .p x y => .agg #[x.val1 a, y.val1 b]
 | _, _ => .int .i64 0
def E9 : Option IntKind → TypeDesc
 | none => .string
 | some k => .int k
def Ls : TypeDesc → Option (Option IntKind)
 | .string => some none
 | .int k => some (some k)
 | _ => none
theorem HF {t : TypeDesc} {kt : Option IntKind} (h : Ls t = some kt) : t = E9 kt := by
 cases t <;> simp only [Ls, Option.some.injEq, reduceCtorEq] at h <;> subst h <;> rfl
def I8 (P : Program) (k : TypeId) : Option (Option KK) := match P.underlying k with
 | some .string => some none
 | some (.int q) => some (some (.int q))
 | some (.struct fs) => match fs.toList with
  | [f, g] => if (f.name ≠ "_" ∧ g.name ≠ "_") ∧ (f.offset = 0 ∧ g.offset = 1) ∧ P.stoodInHeld k = false then match P.underlying f.type, P.underlying g.type with
  | some tf, some tg => match Ls tf, Ls tg with
   | some a, some b => some (some (.two a b))
   | _, _ => none
  | _, _ => none
  else none
  | _ => none
 | _ => none
structure M7 (P : Program) (k : TypeId) (a b : Option IntKind) : Prop where
 two : ∃ f g : Field, P.underlying k = some (.struct #[f, g]) ∧ (f.name ≠ "_" ∧ g.name ≠ "_") ∧ (f.offset = 0 ∧ g.offset = 1) ∧ P.underlying f.type = some (E9 a) ∧ P.underlying g.type = some (E9 b)
 held : P.stoodInHeld k = false
def HQ (P : Program) (k : TypeId) : Option KK → Prop
 | none => P.underlying k = some .string
 | some (.int q) => P.underlying k = some (.int q)
 | some (.two a b) => M7 P k a b
theorem Nh {P : Program} {k : TypeId} {kt : Option KK} (h : I8 P k = some kt) : HQ P k kt := by
 unfold I8 at h
 split at h
 ·rename_i e; cases h; exact e
 ·rename_i e; cases h; exact e
 ·rename_i fs e
  split at h
  ·rename_i f g e'
   have e'' : fs = #[f, g] := Array.ext' e'
   subst e''
   split at h
   ·rename_i hc
    split at h
    ·rename_i tf tg e1 e2
     split at h
     ·rename_i a b e3 e4
      cases h
      exact ⟨⟨f, g, e, hc.1, hc.2.1, by rw [e1, HF e3], by rw [e2, HF e4]⟩, hc.2.2⟩
     ·cases h
    ·cases h
   ·cases h
  ·cases h
 ·cases h
section
variable {σ : Sto} {kt : Option KK}
theorem KJ {o : Option IntKind} {kv : KV} {c : SV} {v : Value} (h : kv.sv1 o = some c) (hr : Ax σ v c) : v = kv.val1 o := by
 cases o <;> cases kv <;> simp only [KV.sv1, Option.some.injEq, reduceCtorEq] at h <;> subst h <;> cases hr <;> rfl
theorem Li {o : Option IntKind} {kv : KV} {c : SV} (h : kv.sv1 o = some c) : IsKey (E9 o) (kv.val1 o) := by
 cases o <;> cases kv <;> simp only [KV.sv1, reduceCtorEq] at h <;> simp [IsKey, E9, KV.val1]
theorem Ki {o : Option IntKind} {k k' : KV} {c c' : SV} (h : k.sv1 o = some c) (h' : k'.sv1 o = some c') (e : k.val1 o = k'.val1 o) : k = k' := by
 cases o <;> cases k <;> cases k' <;> simp only [KV.sv1, reduceCtorEq] at h h' <;> simp only [KV.val1, Value.int.injEq, Value.string.injEq, true_and] at e <;> rw [e]
theorem FA {a b : Option IntKind} {kv : KV} {c : AV} (h : kv.sv (some (.two a b)) = some c) : ∃ x y cx cy, kv = .p x y ∧ x.sv1 a = some cx ∧ y.sv1 b = some cy ∧ c = .agg [.st cx, .st cy] := by
 cases kv with
 | p x y =>
  simp only [KV.sv] at h
  split at h
  ·rename_i c d e1 e2
   cases h
   exact ⟨x, y, c, d, rfl, e1, e2, rfl⟩
  ·cases h
 | _ => cases h
theorem Lu {S : AA} {ι : A0} {v : Value} {x y : SV} (h : AT σ S ι v (.agg [.st x, .st y])) : ∃ v1 v2, v = .agg #[v1, v2] ∧ Ax σ v1 x ∧ Ax σ v2 y := by
 cases h with
 | @agg vs _ h =>
  generalize hl : vs.toList = l at h
  cases h with
  | cons h1 h2 =>
   cases h2 with
   | cons h2 h3 =>
    cases h3
    refine ⟨_, _, ?_, Bj h1, Bj h2⟩
    congr 1
    apply Array.ext'
    rw [hl]
theorem I5 {kv : KV} {c : AV} {v : Value} {S : AA} {ι : A0} (h : kv.sv kt = some c) (hr : AT σ S ι v c) : v = kv.val kt := by
 match kt with
 | none =>
  cases kv <;> simp only [KV.sv, Option.some.injEq, reduceCtorEq] at h
  subst h
  have := Bj (AW hr)
  cases this; rfl
 | some (.int k) =>
  cases kv <;> simp only [KV.sv, Option.some.injEq, reduceCtorEq] at h
  subst h
  have := Bj (AW hr)
  cases this; rfl
 | some (.two a b) =>
  obtain ⟨x, y, cx, cy, rfl, h1, h2, rfl⟩ := FA h
  obtain ⟨v1, v2, rfl, r1, r2⟩ := Lu hr
  rw [KJ h1 r1, KJ h2 r2]
  rfl
theorem L6 {k k' : KV} {c c' : AV} (h : k.sv kt = some c) (h' : k'.sv kt = some c') (e : k.val kt = k'.val kt) : k = k' := by
 match kt with
 | none => cases k <;> cases k' <;> simp only [KV.sv, reduceCtorEq] at h h' <;> simp only [KV.val, Value.string.injEq] at e <;> rw [e]
 | some (.int q) => cases k <;> cases k' <;> simp only [KV.sv, reduceCtorEq] at h h' <;> simp only [KV.val, Value.int.injEq, true_and] at e <;> rw [e]
 | some (.two a b) =>
  obtain ⟨x, y, cx, cy, rfl, h1, h2, rfl⟩ := FA h
  obtain ⟨x', y', cx', cy', rfl, h1', h2', rfl⟩ := FA h'
  simp only [KV.val, Value.agg.injEq, Array.mk.injEq, List.cons.injEq, and_true] at e
  rw [Ki h1 h1' e.1, Ki h2 h2' e.2]
theorem Nb {c : SV} {kv : KV} (h : KV.of kt c = some kv) : kv.sv kt = some (.one (.st c)) := by
 match kt with
 | none => cases c <;> simp only [KV.of, reduceCtorEq] at h; cases h; rfl
 | some (.int q) =>
  cases c <;> simp only [KV.of, reduceCtorEq] at h
  split at h
  ·rename_i e; cases h; subst e; rfl
  ·cases h
 | some (.two a b) => cases c <;> simp [KV.of] at h
theorem La {o : Option IntKind} {c : SV} {kv : KV} (h : KV.of1 o c = some kv) : kv.sv1 o = some c := by
 cases o <;> cases c <;> simp only [KV.of1, reduceCtorEq] at h
 ·cases h; rfl
 ·split at h
  ·rename_i e; cases h; subst e; rfl
  ·cases h
theorem L2 {c d : SV} {kv : KV} (h : KV.of2 kt c d = some kv) : kv.sv kt = some (.agg [.st c, .st d]) := by
 match kt with
 | none => simp [KV.of2] at h
 | some (.int q) => simp [KV.of2] at h
 | some (.two a b) =>
  simp only [KV.of2] at h
  split at h
  ·rename_i x y e1 e2
   cases h
   simp only [KV.sv, La e1, La e2]
  ·cases h
abbrev Ji (σ : Sto) (kt : Option KK) : MapEntry → KV × AV → Prop := fun e x => (∃ c, x.1.sv kt = some c ∧ AT σ noS noH e.key c) ∧ AT σ noS noH e.val x.2
theorem FD {e : MapEntry} {x : KV × AV} (h : Ji σ kt e x) : e.key = x.1.val kt := by
 obtain ⟨⟨c, h1, h2⟩, _⟩ := h
 exact I5 h1 h2
def Bu (kt : Option KK) (kv : KV) (l : List MapEntry) (es : List (KV × AV)) (i : Nat) : Option (Nat × Value) := match Ck es kv with
 | none => none
 | some _ => match l[mAt es kv]? with
  | some e => some (i + mAt es kv, e.val)
  | none => none
theorem Jz {kv : KV} {c : AV} (hk : kv.sv kt = some c) : ∀ {l : List MapEntry} {es : List (KV × AV)}, Ae (Ji σ kt) l es → ∀ v, Ck es kv = some v → ∃ e, l[mAt es kv]? = some e ∧ e.key = kv.val kt ∧ AT σ noS noH e.val v
 | _, _, .nil, v, h => by cases h
 | _, _, @Ae.cons _ _ _ e x l es hx ht, v, h => by
  simp only [Ck, mAt] at h ⊢
  by_cases he : x.1 = kv
  ·rw [if_pos he] at h ⊢
   cases h
   exact ⟨e, rfl, by rw [FD hx, he], hx.2⟩
  ·rw [if_neg he] at h ⊢
   obtain ⟨e', q1, q2, q3⟩ := Jz hk ht v h
   exact ⟨e', by simpa using q1, q2, q3⟩
variable {P : Program} {k : TypeId}
theorem JP {a b : ByteArray} : a.data = b.data ↔ a = b := by
 cases a; cases b; simp
theorem Lo {o : Option IntKind} {t : TypeId} (ht : P.underlying t = some (E9 o)) {x y : KV} {c d : SV} (hx : x.sv1 o = some c) (hy : y.sv1 o = some d) (n : Nat) (w : World) : (Op.equalIn (n + 1) t (x.val1 o) (y.val1 o)).run P w = .ok (decide (x = y)) w := by
 cases o with
 | none =>
  cases x <;> cases y <;> simp only [KV.sv1, reduceCtorEq] at hx hy
  simp only [KV.val1, run_equalIn_string w n t _ _ ht, bytes_beq, KV.s.injEq]
  congr 1
  rw [Bool.eq_iff_iff]
  simp [ByteArray.toList_eq, JP]
 | some q =>
  cases x <;> cases y <;> simp only [KV.sv1, reduceCtorEq] at hx hy
  simp only [KV.val1, run_equalIn_int w n t q q _ _ ht, KV.i.injEq]
  congr 1
theorem JC {o : Option IntKind} {t : TypeId} (ht : P.underlying t = some (E9 o)) : P.plainKey t = true := by
 unfold Program.plainKey
 rw [ht]
 cases o <;> rfl
theorem Jg {a b : Option IntKind} (H : M7 P k a b) {x y x' y' : KV} {cx cy cx' cy' : SV} (h1 : x.sv1 a = some cx) (h2 : y.sv1 b = some cy) (h3 : x'.sv1 a = some cx') (h4 : y'.sv1 b = some cy') (w : World) :
  (Op.equal k (.agg #[x.val1 a, y.val1 b]) (.agg #[x'.val1 a, y'.val1 b])).run P w = .ok (decide (KV.p x y = KV.p x' y')) w := by
 obtain ⟨⟨f, g, e0, ⟨n1, n2⟩, ⟨o1, o2⟩, e1, e2⟩, hh⟩ := H
 have p0 : ∀ (u v : Value), (part f.type #[u, v] f.offset).run P w = .ok u w := fun u v => by rw [o1]; exact run_part_plain w (JC e1) rfl
 have p1 : ∀ (u v : Value), (part g.type #[u, v] g.offset).run P w = .ok v w := fun u v => by rw [o2]; exact run_part_plain w (JC e2) rfl
 have q1 := Lo (P := P) e1 h1 h3 9998 w
 have q2 := Lo (P := P) e2 h2 h4 9998 w
 unfold Op.equal
 rw [show Op.maxDepth = 9999 + 1 from rfl]
 rw [Op.equalIn]
 simp only [Sem.run_bind, run_underlying e0, Result.andThen_ok, run_program, hh, Bool.false_eq_true, if_false, List.forIn_toArray, List.forIn_cons, List.forIn_nil, n1, n2, ne_eq, not_false_eq_true, if_true, p0, p1, q1, Sem.run_pure]
 by_cases hx : x = x'
 ·subst hx
  simp only [decide_true, Bool.not_true, Bool.false_eq_true, if_false, Sem.run_pure, Result.andThen_ok, Sem.run_bind, p1, q2, KV.p.injEq, true_and]
  by_cases hy : y = y'
  ·subst hy; simp
  ·simp [hy]
 ·simp [hx]
theorem Fg {kv : KV} {c : AV} (hk : kv.sv kt = some c) (w : World) : (Instr.keyThatStays (kv.val kt) (kv.val kt)).run P w = .ok (kv.val kt) w := by
 have h : Instr.sameBits 10000 (kv.val kt) (kv.val kt) = true := by
  match kt with
  | none => cases kv <;> simp only [KV.sv, reduceCtorEq] at hk; simp [KV.val, Instr.sameBits, bytes_beq]
  | some (.int q) => cases kv <;> simp only [KV.sv, reduceCtorEq] at hk; simp [KV.val, Instr.sameBits]
  | some (.two a b) =>
   obtain ⟨x, y, cx, cy, rfl, h1, h2, -⟩ := FA hk
   have s1 : ∀ {o : Option IntKind} {x : KV} {c : SV}, x.sv1 o = some c → Instr.sameBits 9999 (x.val1 o) (x.val1 o) = true := fun {o x c} h => by
    cases o <;> cases x <;> simp only [KV.sv1, reduceCtorEq] at h <;> simp [KV.val1, Instr.sameBits, bytes_beq]
   show Instr.sameBits (9999 + 1) (.agg _) (.agg _) = true
   rw [Instr.sameBits]
   simp [s1 h1, s1 h2]
 simp [Instr.keyThatStays, h]
theorem Dg (H : HQ P k kt) {kv : KV} {c : AV} (hk : kv.sv kt = some c) (em : Bool) (w : World) : (Instr.checkKey em 10000 k (kv.val kt)).run P w = .ok () w := by
 match kt with
 | none => cases kv <;> simp only [KV.sv, reduceCtorEq] at hk; exact run_checkKey (d := .string) H (by simp [IsKey, KV.val]) em 9999
 | some (.int q) => cases kv <;> simp only [KV.sv, reduceCtorEq] at hk; exact run_checkKey (d := .int q) H (by simp [IsKey, KV.val]) em 9999
 | some (.two a b) =>
  obtain ⟨x, y, cx, cy, rfl, h1, h2, -⟩ := FA hk
  obtain ⟨⟨f, g, e0, ⟨n1, n2⟩, ⟨o1, o2⟩, e1, e2⟩, hh⟩ := H
  have p0 : ∀ (u v : Value), (part f.type #[u, v] f.offset).run P w = .ok u w := fun u v => by rw [o1]; exact run_part_plain w (JC e1) rfl
  have p1 : ∀ (u v : Value), (part g.type #[u, v] g.offset).run P w = .ok v w := fun u v => by rw [o2]; exact run_part_plain w (JC e2) rfl
  have q1 := run_checkKey (P := P) (w := w) e1 (Li h1) em 9998
  have q2 := run_checkKey (P := P) (w := w) e2 (Li h2) em 9998
  show (Instr.checkKey em (9999 + 1) k (.agg #[x.val1 a, y.val1 b])).run P w = _
  rw [Instr.checkKey]
  simp [run_underlying e0, n1, n2, p0, p1, q1, q2]
theorem EA (H : HQ P k kt) {kv : KV} {c : AV} (hk : kv.sv kt = some c) {l : List MapEntry} {es : List (KV × AV)} (ha : Ae (Ji σ kt) l es) (w : World) :
  match Ck es kv with
  | none => (Instr.findKey k (kv.val kt) l).run P w = .ok none w
  | some v => ∃ e, l[mAt es kv]? = some e ∧ e.key = kv.val kt ∧ AT σ noS noH e.val v ∧ (Instr.findKey k (kv.val kt) l).run P w = .ok (some (mAt es kv, e.val)) w := by
 have key : (Instr.findKey k (kv.val kt) l).run P w = .ok (Bu kt kv l es 0) w := by
  match kt with
  | none =>
   refine run_findKey (d := .string) H ?_
   have : ∀ {l : List MapEntry} {es : List (KV × AV)} (i : Nat), Ae (Ji σ none) l es → Instr.findNow .string (kv.val none) l i = some (Bu none kv l es i) := by
    intro l es i ha
    induction ha generalizing i with
    | nil => rfl
    | @cons e x l es hx ht ih =>
     have he := FD hx
     obtain ⟨⟨c', hc', _⟩, _⟩ := hx
     obtain ⟨r, hr, hiff⟩ := sameNow_of_keys (d := .string) (a := kv.val none) (b := e.key) (by cases kv <;> simp [KV.sv] at hk; simp [IsKey, KV.val]) (by rw [he]; cases hx1 : x.1 <;> simp [hx1, KV.sv] at hc'; simp [IsKey, KV.val])
     simp only [Instr.findNow, hr, Bu, Ck, mAt]
     by_cases hxe : x.1 = kv
     ·have hr1 : r = true := hiff.2 (by rw [he, hxe])
      subst hr1
      simp [hxe]
     ·have hr1 : r = false := by
       cases r with
       | false => rfl
       | true => exact absurd (L6 hk hc' (by rw [hiff.1 rfl, he])) fun q => hxe q.symm
      subst hr1
      simp only [ih, hxe, if_false, Bu, List.getElem?_cons_succ]
      split <;> (try rfl)
      split <;> simp [Nat.add_assoc, Nat.add_comm 1]
   exact this 0 ha
  | some (.int q) =>
   refine run_findKey (d := .int q) H ?_
   have : ∀ {l : List MapEntry} {es : List (KV × AV)} (i : Nat), Ae (Ji σ (some (.int q))) l es → Instr.findNow (.int q) (kv.val (some (.int q))) l i = some (Bu (some (.int q)) kv l es i) := by
    intro l es i ha
    induction ha generalizing i with
    | nil => rfl
    | @cons e x l es hx ht ih =>
     have he := FD hx
     obtain ⟨⟨c', hc', _⟩, _⟩ := hx
     obtain ⟨r, hr, hiff⟩ := sameNow_of_keys (d := .int q) (a := kv.val (some (.int q))) (b := e.key) (by cases kv <;> simp [KV.sv] at hk; simp [IsKey, KV.val]) (by rw [he]; cases hx1 : x.1 <;> simp [hx1, KV.sv] at hc'; simp [IsKey, KV.val])
     simp only [Instr.findNow, hr, Bu, Ck, mAt]
     by_cases hxe : x.1 = kv
     ·have hr1 : r = true := hiff.2 (by rw [he, hxe])
      subst hr1
      simp [hxe]
     ·have hr1 : r = false := by
       cases r with
       | false => rfl
       | true => exact absurd (L6 hk hc' (by rw [hiff.1 rfl, he])) fun q => hxe q.symm
      subst hr1
      simp only [ih, hxe, if_false, Bu, List.getElem?_cons_succ]
      split <;> (try rfl)
      split <;> simp [Nat.add_assoc, Nat.add_comm 1]
   exact this 0 ha
  | some (.two a b) =>
   have hw : (match P.underlying k with | some (.array _ _) | some (.struct _) => true | _ => false) = true := by
    obtain ⟨⟨f, g, e0, _⟩, _⟩ := H
    rw [e0]
   rw [run_findKey_eq w hw]
   have : ∀ {l : List MapEntry} {es : List (KV × AV)} (i : Nat), Ae (Ji σ (some (.two a b))) l es → (Instr.findAsking k (kv.val (some (.two a b))) l i).run P w = .ok (Bu (some (.two a b)) kv l es i) w := by
    intro l es i ha
    induction ha generalizing i with
    | nil => simp [Instr.findAsking, Bu, Ck]
    | @cons e x l es hx ht ih =>
     have he := FD hx
     obtain ⟨⟨c', hc', _⟩, _⟩ := hx
     obtain ⟨x1, y1, cx, cy, rfl, h1, h2, -⟩ := FA hk
     obtain ⟨x2, y2, cx2, cy2, hx2, h3, h4, -⟩ := FA hc'
     have hq : (Op.equal k (KV.val (some (.two a b)) (.p x1 y1)) e.key).run P w = .ok (decide (KV.p x1 y1 = x.1)) w := by
      rw [he, hx2]
      exact Jg H h1 h2 h3 h4 w
     simp only [Instr.findAsking, Sem.run_bind, hq, Result.andThen_ok, Bu, Ck, mAt]
     by_cases hxe : x.1 = KV.p x1 y1
     ·simp [hxe]
     ·have hxe' : ¬ KV.p x1 y1 = x.1 := fun q => hxe q.symm
      simp only [hxe, hxe', decide_false, Bool.false_eq_true, if_false, ih, Bu, List.getElem?_cons_succ]
      split <;> (try rfl)
      split <;> simp [Nat.add_assoc, Nat.add_comm 1]
   exact this 0 ha
 split
 ·rename_i hm
  rw [key]
  simp only [Bu, hm]
 ·rename_i v hm
  obtain ⟨e, q1, q2, q3⟩ := Jz hk ha v hm
  refine ⟨e, q1, q2, q3, ?_⟩
  rw [key]
  simp only [Bu, hm, q1, Nat.zero_add]
theorem PR {es : List (KV × AV)} {kv : KV} {v : AV} (h : Ck es kv = some v) : mAt es kv < es.length := by
 induction es with
 | nil => cases h
 | cons x es ih =>
  simp only [Ck, mAt] at h ⊢
  split at h
  ·rename_i e; simp [if_pos e]
  ·rename_i e
   have := ih h
   simp [if_neg e]
   omega
theorem OC {es : List (KV × AV)} {kv : KV} (h : Ck es kv = none) : mAt es kv = es.length := by
 induction es with
 | nil => rfl
 | cons x es ih =>
  simp only [Ck, mAt] at h ⊢
  split at h
  ·cases h
  ·rename_i e
   rw [if_neg e, ih h]
   rfl
theorem ML {es : List (KV × AV)} {kv : KV} (h : Ck es kv = none) (v : AV) : H3 es kv v = es ++ [(kv, v)] := by
 induction es with
 | nil => rfl
 | cons x es ih =>
  simp only [Ck, H3] at h ⊢
  split at h
  ·cases h
  ·rename_i e
   rw [if_neg e, ih h]
   rfl
theorem Mp {es : List (KV × AV)} {kv : KV} {v0 : AV} (h : Ck es kv = some v0) (v : AV) : H3 es kv v = es.modify (mAt es kv) fun x => (kv, v) := by
 induction es with
 | nil => cases h
 | cons x es ih =>
  simp only [Ck, H3, mAt] at h ⊢
  split at h
  ·rename_i e; rw [if_pos e, if_pos e]; rfl
  ·rename_i e
   rw [if_neg e, if_neg e, ih h]
   rfl
theorem Ae.modify {α β : Type} {R : α → β → Prop} {f : α → α} {g : β → β} (hfg : ∀ a b, R a b → R (f a) (g b)) : ∀ {l : List α} {m : List β}, Ae R l m → ∀ i, Ae R (l.modify i f) (m.modify i g)
 | _, _, .nil, i => by simpa using Ae.nil
 | _, _, .cons h t, 0 => .cons (hfg _ _ h) t
 | _, _, .cons h t, i + 1 => .cons h (Ae.modify hfg t i)
theorem Cf.put {ents : Array MapEntry} {es : List (KV × AV)} (h : Cf σ kt ents.toList es) {kv : KV} {c : AV} {key val : Value} {v : AV} (hk : kv.sv kt = some c) (hkey : AT σ noS noH key c) (hv : AT σ noS noH val v) : Cf σ kt (ents.push { key := key, val := val, born := ents.size }).toList (es ++ [(kv, v)]) := by
 refine ⟨?_, ?_⟩
 ·rw [Array.toList_push]
  exact h.all.append (.cons ⟨⟨c, hk, hkey⟩, hv⟩ .nil)
 ·rw [Array.toList_push, List.map_append, h.born, List.length_append, List.length_singleton, List.range_succ]
  simp
theorem Dq {α β : Type} (f : α → α) (g : α → β) (hg : ∀ a, g (f a) = g a) : ∀ (l : List α) (i : Nat), (l.modify i f).map g = l.map g
 | [], i => by simp
 | a :: l, 0 => by simp [hg]
 | a :: l, i + 1 => by simp [Dq f g hg l i]
theorem Cf.mod {ents : Array MapEntry} {es : List (KV × AV)} (h : Cf σ kt ents.toList es) (f : MapEntry → MapEntry) (g : KV × AV → KV × AV) (hb : ∀ e, (f e).born = e.born) (hr : ∀ e x, Ji σ kt e x → Ji σ kt (f e) (g x)) (i : Nat) : Cf σ kt (ents.modify i f).toList (es.modify i g) := by
 rw [Array.toList_modify]
 exact ⟨Ae.modify hr h.all i, by rw [Dq f _ hb, h.born, List.length_modify]⟩
end
section
variable {P : Program} {C : Ctx} {o : Oper} {a : Act} {w : World} {K : AV → AS → Prop} {σ : Sto} {ι : A0} {s : AS} {d : Nat}
theorem IX {S : AA} {v : AV} {id : Nat} {kt : Option KK} {es : List (KV × AV)} (h : By S v = some (id, kt, es)) : v = .one (.mptr id) ∧ S id = some (.map kt es) := by
 unfold By at h
 split at h
 ·split at h
  ·rename_i e1
   cases h
   exact ⟨rfl, e1⟩
  ·cases h
 ·cases h
structure I_ (R : Sto) (s : AS) (ι : A0) (w : World) (v : Value) (id g : Nat) (ents : Array MapEntry) (kt : Option KK) (es : List (KV × AV)) : Prop where
 val : v = .map (some g)
 hnd : (ι id).g = some g
 heap : w.heap[g]? = some (.map ents ents.size)
 rep : Cf R kt ents.toList es
 blk : s.S id = some (.map kt es)
 no : ∀ p : Addr, p.block = g → R p = none
theorem AQ.hasMap (R : AQ C σ ι s a w) {v : Value} {av : AV} {id : Nat} {kt : Option KK} {es : List (KV × AV)} (hv : AT σ s.S ι v av) (h : By s.S av = some (id, kt, es)) : ∃ g ents, I_ σ s ι w v id g ents kt es := by
 obtain ⟨rfl, hS⟩ := IX h
 have hb := R.blk _ _ hS
 cases hb with
 | @map _ _ g ents h1 h2 h3 h4 =>
 cases AW hv with
 | mptr k1 k2 k3 k4 =>
 rw [hS] at k1
 cases k1
 obtain ⟨g', q1, q2⟩ := k4 rfl
 rw [h1] at q1
 cases q1
 exact ⟨g, ents, q2, h1, h2, h3, hS, h4⟩
theorem I_.len {v : Value} {id g : Nat} {ents : Array MapEntry} {kt : Option KK} {es : List (KV × AV)} (H : I_ σ s ι w v id g ents kt es) : ents.size = es.length := by
 have := H.rep.all.len
 simpa using this
theorem F2 {kt : Option KK} {av : AV} {kv : KV} {v : Value} {S : AA} (hv : AT σ S ι v av) (h : Dz kt av = some kv) : ∃ c, kv.sv kt = some c ∧ AT σ noS noH v c ∧ v = kv.val kt := by
 unfold Dz at h
 split at h
 ·rename_i c
  have hr : Ax σ v c := Bj (AW hv)
  have hq : AT σ noS noH v (.one (.st c)) := .one (.st hr)
  exact ⟨_, Nb h, hq, I5 (Nb h) hq⟩
 ·rename_i c d
  obtain ⟨v1, v2, rfl, r1, r2⟩ := Lu hv
  have hq : AT σ noS noH (.agg #[v1, v2]) (.agg [.st c, .st d]) := .agg (.cons (.st r1) (.cons (.st r2) .nil))
  exact ⟨_, L2 h, hq, I5 (L2 h) hq⟩
 ·cases h
theorem DV {g : Nat} {o' o'' : Obj} (h : w.heap[g]? = some o'') : (setBlock w g o').heap[g]? = some o' ∧ ∀ k, k ≠ g → (setBlock w g o').heap[k]? = w.heap[k]? := heap_set h
theorem AQ.setBlk (R : AQ C σ ι s a w) {id g : Nat} {b b' : AI} {o' o'' : Obj} (hS : s.S id = some b) (hg : (ι id).g = some g) (hw : w.heap[g]? = some o'') (hno : ∀ p : Addr, p.block = g → σ p = none) (hlen : b'.len = b.len) (hwid : b'.wid = b.wid)
  (hr : ∀ S' ι', Upd s.S ι S' ι' → Bk σ S' ι' (setBlock w g o') (ι id) b') : ∃ ι', AQ C σ ι' (s.set id b') a (setBlock w g o') ∧ Upd s.S ι (s.set id b').S ι' := by
 obtain ⟨q1, q2⟩ := DV (o' := o') hw
 obtain ⟨hu, R'⟩ := R.turn (w' := setBlock w g o') hS b' (ι id) (σ' := σ) (fun _ _ h => h) (fun _ _ _ => rfl) (R.fit.row hno q2) (by rw [hlen]; exact Nat.le_refl _) (fun _ => ⟨hwid, rfl⟩) ⟨rfl, rfl, rfl⟩ (by simp [setBlock]) (fun k hk hne => q2 k fun e => hne (by rw [e]; exact hg)) (fun g' h => .inl h) (fun hu => hr _ _ hu)
 exact ⟨_, R', hu⟩
theorem Db {v : Value} {c : AV} (h : AT σ noS noH v c) (S : AA) (ι : A0) : AT σ S ι v c := h.mono (fun _ _ h => h) (FI S ι)
theorem KC {t : TypeId} {kt : Option KK} (ho : o.op = .makeMap t none) (R : AQ C σ ι s a w) (h : Kd.go P d s K (.makeMap kt)) : A9 P C o a w K := by
 simp only [Kd.go] at h
 obtain ⟨hid, hK⟩ := h
 obtain ⟨hu, R'⟩ := R.fresh (w' := w.alloc (.map #[] 0)) hid (.map kt []) ⟨none, 0, some w.heap.size⟩ (Ext.refl _ _) (R.fit.alloc _) (DN.alloc _ _) (by simp) (fun S' ι' hu => .map (ents := #[]) rfl (heap_alloc_new w _) ⟨.nil, rfl⟩ (fun p hp => R.fit.no (by omega)))
 refine ⟨.map (some w.heap.size), _, _, σ, _, _, .inl (by simp [execOp, ho, Instr.makeMap, newObj, Sem.run]), hK, R', .one (.mptr (b := .map kt []) (by simp [AS.set, AG]) (Nat.le_refl _) rfl fun _ => ⟨w.heap.size, by simp [AG], rfl⟩)⟩
theorem K7 {t key elem : TypeId} {i : TypeInfo} {z : Value} {zv : AV} {kt : Option KK} {x k : Operand} {x' k' : Opd} {ok : Bool} (ho : o.op = .lookup t x k ok) (hx : AL C.n x = some x') (hk : AL C.n k = some k') (ht : P.underlying t = some (.map key elem)) (hkey : HQ P key kt) (hi : P.info? elem = some i) (hz : i.zero = some z) (hzv : Hu z = some zv)
  (R : AQ C σ ι s a w) (h : Kd.go P d s K (.lookup kt ok zv x' k')) : A9 P C o a w K := by
 have rx := R.ev hx
 have rk := R.ev hk
 simp only [Kd.go] at h
 split at h
 ·rename_i id kt' es kv e1 e2
  obtain ⟨rfl, hK⟩ := h
  obtain ⟨g, ents, H⟩ := R.hasMap rx e1
  obtain ⟨c, c1, c2, c3⟩ := F2 rk e2
  have hf := EA (σ := σ) hkey c1 H.rep.all w
  have hck := fun e => Dg hkey c1 e w
  split at hf
  ·rename_i hm
   rw [hm] at hK
   refine AP R (if ok then .tuple #[z, .bool false] else z) _ ?_ hK ?_
   ·simp [execOp, ho, Instr.lookup, run_underlying ht, H.val, MapKept.run_getObj_map H.heap, c3, hck, hf, zeroValue, typeInfo, hi, hz, Result.andThen]
   ·cases ok with
    | false => exact DO hzv
    | true => exact .tup (fun j => if j = 0 then z else .bool false) rfl (fun j b hb => by
      match j, hb with
      | 0, hb => rfl
      | 1, hb => rfl) (fun j b hb => by
      match j, hb with
      | 0, hb => cases hb; exact DO hzv
      | 1, hb => cases hb; exact .one (.st .bool))
  ·rename_i v hm
   rw [hm] at hK
   obtain ⟨e, q1, q2, q3, q4⟩ := hf
   refine AP R (if ok then .tuple #[e.val, .bool true] else e.val) _ ?_ hK ?_
   ·simp [execOp, ho, Instr.lookup, run_underlying ht, H.val, MapKept.run_getObj_map H.heap, c3, hck, q4, Result.andThen]
   ·cases ok with
    | false => exact Db q3 _ _
    | true => exact .tup (fun j => if j = 0 then e.val else .bool true) rfl (fun j b hb => by
      match j, hb with
      | 0, hb => rfl
      | 1, hb => rfl) (fun j b hb => by
      match j, hb with
      | 0, hb => cases hb; exact Db q3 _ _
      | 1, hb => cases hb; exact .one (.st .bool))
 ·exact h.elim
theorem G1 {t key elem : TypeId} {kt : Option KK} {x k v : Operand} {x' k' v' : Opd} (ho : o.op = .mapUpdate t x k v ∨ o.op = .insert t x k v) (hx : AL C.n x = some x') (hk : AL C.n k = some k') (hv : AL C.n v = some v') (ht : P.underlying t = some (.map key elem)) (hkey : HQ P key kt)
  (R : AQ C σ ι s a w) (h : Kd.go P d s K (.mapSet kt x' k' v')) : A9 P C o a w K := by
 have rx := R.ev hx
 have rk := R.ev hk
 have rv := R.ev hv
 simp only [Kd.go] at h
 split at h
 ·rename_i id kt' es kv vv e1 e2 e3
  obtain ⟨rfl, hK⟩ := h
  obtain ⟨g, ents, H⟩ := R.hasMap rx e1
  obtain ⟨c, c1, c2, c3⟩ := F2 rk e2
  have ro := R.outV rv e3
  have hf := EA (σ := σ) hkey c1 H.rep.all w
  have hck := fun e => Dg hkey c1 e w
  have hex : execOp a.eval o = (do Instr.mapUpdate t (a.eval x) (a.eval k) (a.eval v); pure .skip) := by
   rcases ho with ho | ho <;> simp [execOp, ho]
  have hrun : ∃ ents', (execOp a.eval o).run P w = .ok .skip (setBlock w g (.map ents' ents'.size)) ∧ Cf σ kt' ents'.toList (H3 es kv vv) := by
   split at hf
   ·rename_i hm
    refine ⟨ents.push { key := a.eval k, val := a.eval v, born := ents.size }, ?_, ?_⟩
    ·rw [hex]
     simp [Instr.mapUpdate, run_underlying ht, H.val, MapKept.run_getObj_map H.heap, c3, hck, hf, Result.andThen, run_setObj_map _ H.heap, setBlock]
    ·rw [ML hm]
     exact H.rep.put c1 c2 ro
   ·rename_i v0 hm
    obtain ⟨e, q1, q2, q3, q4⟩ := hf
    have hj : ents[mAt es kv]? = some e := by simpa using q1
    refine ⟨ents.modify (mAt es kv) fun e => { e with key := a.eval k, val := a.eval v }, ?_, ?_⟩
    ·rw [hex]
     simp [Instr.mapUpdate, run_underlying ht, H.val, MapKept.run_getObj_map H.heap, c3, hck, q4, Result.andThen, hj, q2, Fg c1, run_setObj_map _ H.heap, setBlock]
    ·rw [Mp hm]
     exact H.rep.mod (fun e => { e with key := a.eval k, val := a.eval v }) (fun _ => (kv, vv)) (fun _ => rfl) (fun e x _ => ⟨⟨c, c1, c2⟩, ro⟩) _
  obtain ⟨ents', r1, r2⟩ := hrun
  obtain ⟨ι', R', hu⟩ := R.setBlk (b' := .map kt' (H3 es kv vv)) (o' := .map ents' ents'.size) H.blk H.hnd H.heap H.no rfl rfl (fun S' ι' hu => .map H.hnd (DV H.heap).1 r2 H.no)
  exact ⟨undef, .any, _, σ, ι', _, .inr ⟨rfl, r1⟩, hK, R', .any⟩
 ·exact h.elim
theorem I3 {t key elem : TypeId} {i : TypeInfo} {z : Value} {zv : AV} {kt : Option KK} {x k : Operand} {x' k' : Opd} (ho : o.op = .mapEntry t x k) (hx : AL C.n x = some x') (hk : AL C.n k = some k') (ht : P.underlying t = some (.map key elem)) (hkey : HQ P key kt) (hi : P.info? elem = some i) (hz : i.zero = some z) (hzv : Hu z = some zv)
  (R : AQ C σ ι s a w) (h : Kd.go P d s K (.mapEntry kt zv x' k')) : A9 P C o a w K := by
 have rx := R.ev hx
 have rk := R.ev hk
 simp only [Kd.go] at h
 split at h
 ·rename_i id kt' es kv e1 e2
  obtain ⟨rfl, hlen, hK⟩ := h
  obtain ⟨g, ents, H⟩ := R.hasMap rx e1
  obtain ⟨c, c1, c2, c3⟩ := F2 rk e2
  have hsz := H.len
  have hf := EA (σ := σ) hkey c1 H.rep.all w
  have hck := fun e => Dg hkey c1 e w
  have tupR : ∀ {S' : AA} {ι' : A0} {v1 : Value} {b1 : AV} {n : Nat}, n ≤ maxLen → AT σ S' ι' v1 b1 → AT σ S' ι' (.tuple #[v1, .int .i64 n]) (.tup [b1, .one (.st (.int .i64 n))]) := fun {S' ι' v1 b1 n} hn hv => .tup (fun j => if j = 0 then v1 else .int .i64 n) rfl (fun j b hb => by
    match j, hb with
    | 0, hb => rfl
    | 1, hb => rfl) (fun j b hb => by
    match j, hb with
    | 0, hb => cases hb; exact hv
    | 1, hb => cases hb; exact .one (.st (.int (Gs hn))))
  split at hf
  ·rename_i hm
   have hat := OC hm
   have hnew : Ns es kv zv = es ++ [(kv, zv)] := by unfold Ns; rw [hm]
   rw [hm, hnew, hat] at hK
   have hrun : (execOp a.eval o).run P w = .ok (.value (.tuple #[z, .int .i64 ents.size])) (setBlock w g (.map (ents.push { key := a.eval k, val := z, born := ents.size }) (ents.push { key := a.eval k, val := z, born := ents.size }).size)) := by
    simp [execOp, ho, Instr.mapEntry, run_underlying ht, H.val, MapKept.run_getObj_map H.heap, c3, hck, hf, zeroValue, typeInfo, hi, hz, Result.andThen, run_setObj_map _ H.heap, setBlock, goInt]
   obtain ⟨ι', R', hu⟩ := R.setBlk (b' := .map kt' (es ++ [(kv, zv)])) (o' := .map (ents.push { key := a.eval k, val := z, born := ents.size }) (ents.push { key := a.eval k, val := z, born := ents.size }).size) H.blk H.hnd H.heap H.no rfl rfl (fun S' ι' hu => .map H.hnd (DV H.heap).1 (H.rep.put c1 c2 (DO hzv)) H.no)
   rw [hsz] at hrun
   exact ⟨_, _, _, σ, ι', _, .inl hrun, hK, by rw [← hsz]; exact R', tupR hlen (DO hzv)⟩
  ·rename_i v0 hm
   obtain ⟨e, q1, q2, q3, q4⟩ := hf
   have hj : ents[mAt es kv]? = some e := by simpa using q1
   have hnew : Ns es kv zv = es := by unfold Ns; rw [hm]
   rw [hm, hnew] at hK
   have hborn : e.born = mAt es kv := by
    have h0 : (ents.toList.map (·.born))[mAt es kv]? = some e.born := by rw [List.getElem?_map, q1]; rfl
    rw [H.rep.born] at h0
    obtain ⟨h1, h2⟩ := List.getElem?_eq_some_iff.1 h0
    simpa using h2.symm
   have hmod : es = es.modify (mAt es kv) fun x => (kv, x.2) := by
    have key : ∀ es : List (KV × AV), ∀ v0, Ck es kv = some v0 → es = es.modify (mAt es kv) fun x => (kv, x.2) := by
     intro es
     induction es with
     | nil => intro v0 h; cases h
     | cons x es ih =>
      intro v0 h
      simp only [Ck, mAt] at h ⊢
      split at h
      ·rename_i ex
       rw [if_pos ex]
       show _ = (kv, x.2) :: es
       rw [← ex]
      ·rename_i ex
       rw [if_neg ex]
       show _ = x :: es.modify (mAt es kv) _
       rw [← ih v0 h]
    exact key es v0 hm
   have hrun : (execOp a.eval o).run P w = .ok (.value (.tuple #[e.val, .int .i64 (mAt es kv)])) (setBlock w g (.map (ents.modify (mAt es kv) fun e => { e with key := a.eval k }) ents.size)) := by
    simp [execOp, ho, Instr.mapEntry, run_underlying ht, H.val, MapKept.run_getObj_map H.heap, c3, hck, q4, Result.andThen, hj, q2, Fg c1, run_setObj_map _ H.heap, setBlock, goInt, hborn]
   obtain ⟨ι', R', hu⟩ := R.setBlk (b' := .map kt' es) (o' := .map (ents.modify (mAt es kv) fun e => { e with key := a.eval k }) ents.size) H.blk H.hnd H.heap H.no rfl rfl (fun S' ι' hu => .map (ents := ents.modify (mAt es kv) fun e => { e with key := a.eval k }) H.hnd (by rw [Array.size_modify]; exact (DV H.heap).1) (by
     have := H.rep.mod (fun e => { e with key := a.eval k }) (fun x => (kv, x.2)) (fun _ => rfl) (fun e x hx => ⟨⟨c, c1, c2⟩, hx.2⟩) (mAt es kv)
     rw [← hmod] at this
     exact this) H.no)
   exact ⟨_, _, _, σ, ι', _, .inl hrun, hK, R', tupR (by have := PR hm; omega) (Db q3 _ _)⟩
 ·exact h.elim
theorem FO : ∀ {l : List MapEntry} (b n : Nat), l.map (·.born) = List.range' b l.length → n < l.length → l.findIdx? (fun e => (e.born : Int) == ((b + n : Nat) : Int)) = some n
 | [], b, n, _, h => by simp at h
 | e :: l, b, n, hl, h => by
  simp only [List.map_cons, List.length_cons, List.range'_succ, List.cons.injEq] at hl
  rw [List.findIdx?_cons]
  cases n with
  | zero => rw [if_pos (by simp [hl.1])]
  | succ n =>
   rw [if_neg (by simp [hl.1]; omega)]
   have := FO (b + 1) n hl.2 (by simpa using h)
   rw [show b + (n + 1) = b + 1 + n by omega, this]
   rfl
theorem JH {t : TypeId} {x k v : Operand} {x' k' v' : Opd} (ho : o.op = .entryStore t x k v) (hx : AL C.n x = some x') (hk : AL C.n k = some k') (hv : AL C.n v = some v')
  (R : AQ C σ ι s a w) (h : Kd.go P d s K (.entrySet x' k' v')) : A9 P C o a w K := by
 have rx := R.ev hx
 have rk := R.ev hk
 have rv := R.ev hv
 simp only [Kd.go] at h
 split at h
 ·rename_i id kt es kk n vv e1 e2 e3
  obtain ⟨⟨h0, hlt⟩, hK⟩ := h
  obtain ⟨q, rfl⟩ : ∃ q : Nat, n = q := ⟨n.toNat, by omega⟩
  simp only [Int.toNat_natCast] at hlt hK
  obtain ⟨g, ents, H⟩ := R.hasMap rx e1
  rw [e2] at rk
  obtain ⟨hek, -⟩ := A2 rk
  have ro := R.outV rv e3
  have hsz := H.len
  have hfi : ents.findIdx? (fun e => (e.born : Int) == (q : Int)) = some q := by
   have := FO (l := ents.toList) 0 q (by rw [H.rep.born, List.range_eq_range']) (by simp; omega)
   rw [Nat.zero_add] at this
   rw [← this]
   exact (fun (A : Array MapEntry) p => (by cases A; exact List.findIdx?_toArray _ _ : A.findIdx? p = A.toList.findIdx? p)) _ _
  have hrun : (execOp a.eval o).run P w = .ok .skip (setBlock w g (.map (ents.modify q fun e => { e with val := a.eval v }) ents.size)) := by
   simp [execOp, ho, Instr.entryStore, H.val, MapKept.run_getObj_map H.heap, hek, asInt, asIntOf, Result.andThen, hfi, run_setObj_map _ H.heap, setBlock]
  obtain ⟨ι', R', hu⟩ := R.setBlk (b' := .map kt (es.modify q fun x => (x.1, vv))) (o' := .map (ents.modify q fun e => { e with val := a.eval v }) ents.size) H.blk H.hnd H.heap H.no rfl rfl (fun S' ι' hu => .map (ents := ents.modify q fun e => { e with val := a.eval v }) H.hnd (by rw [Array.size_modify]; exact (DV H.heap).1) (H.rep.mod (fun e => { e with val := a.eval v }) (fun x => (x.1, vv)) (fun _ => rfl) (fun e x hx => ⟨hx.1, ro⟩) _) H.no)
  exact ⟨undef, .any, _, σ, ι', _, .inr ⟨rfl, hrun⟩, hK, R', .any⟩
 ·exact h.elim
theorem NS {t key elem : TypeId} {x : Operand} {x' : Opd} (ho : o.op = .call { callee := .builtin .len, args := #[x], argTypes := #[t] }) (hx : AL C.n x = some x') (ht : P.underlying t = some (.map key elem)) (R : AQ C σ ι s a w) (h : Kd.go P d s K (.lenM x')) : A9 P C o a w K := by
 have rx := R.ev hx
 simp only [Kd.go] at h
 split at h
 ·rename_i id kt es e1
  obtain ⟨g, ents, H⟩ := R.hasMap rx e1
  refine AP R _ _ ?_ h.2 (.one (.st (.int (Gs h.1))))
  simp [execOp, ho, resolve, invoke, builtin, Builtin.len_, run_underlying ht, H.val, MapKept.run_getObj_map H.heap, Result.andThen, goInt, H.len]
 ·exact h.elim
theorem LW {t key elem : TypeId} {x : Operand} {x' : Opd} (ho : o.op = .range t x) (hx : AL C.n x = some x') (ht : P.underlying t = some (.map key elem)) (R : AQ C σ ι s a w) (h : Kd.go P d s K (.rangeM x')) : A9 P C o a w K := by
 have rx := R.ev hx
 simp only [Kd.go] at h
 split at h
 ·rename_i id kt es e1
  obtain ⟨hid, hK⟩ := h
  obtain ⟨g, ents, H⟩ := R.hasMap rx e1
  obtain ⟨q1, q2⟩ := IX e1
  rw [q1] at rx
  have hrx := AW rx
  rw [H.val] at hrx
  have hsz := H.len
  obtain ⟨hu, R'⟩ := R.fresh (w' := w.alloc (.mapIter (some g) es.length #[] es.length)) hid (.iter (.mptr id) es.length []) ⟨none, 0, some w.heap.size⟩ (Ext.refl _ _) (R.fit.alloc _) (DN.alloc _ _) (by simp) (fun S' ι' hu => .iter (m := g) rfl (heap_alloc_new w _) (hrx.mono (fun _ _ h => h) hu) (fun p hp => R.fit.no (by omega)))
  refine ⟨.pointer (some ⟨w.heap.size, 0, none⟩), _, _, σ, _, _, .inl ?_, hK, R', .one (.ptr (b := .iter (.mptr id) es.length []) (by simp [AS.set, AG]) (Nat.le_refl _) rfl fun _ => ⟨w.heap.size, by simp [AG], by simp [AI.wid]⟩)⟩
  have hr := run_range_map (P := P) w t key elem g ents ents.size ht H.heap
  simp [execOp, ho, H.val, hr, Result.andThen, hsz]
 ·exact h.elim
theorem Ht {S : AA} {v : AV} {id m : Nat} {seen : List Nat} {kt : Option KK} {es : List (KV × AV)} (h : D_ S v = some ((id, m, seen), kt, es)) : v = .one (.ptr id 1 0 0) ∧ S id = some (.iter (.mptr m) es.length seen) ∧ S m = some (.map kt es) := by
 unfold D_ at h
 split at h
 ·split at h
  ·rename_i e1
   split at h
   ·rename_i e2
    split at h
    ·rename_i hl
     cases h
     exact ⟨rfl, by rw [hl]; exact e1, e2⟩
    ·cases h
   ·cases h
  ·cases h
 ·cases h
theorem AQ.hasIter (R : AQ C σ ι s a w) {v : Value} {av : AV} {id m : Nat} {seen : List Nat} {kt : Option KK} {es : List (KV × AV)} (hv : AT σ s.S ι v av) (h : D_ s.S av = some ((id, m, seen), kt, es)) :
  ∃ r g ents, v = .pointer (some ⟨r, 0, none⟩) ∧ (ι id).g = some r ∧ w.heap[r]? = some (.mapIter (some g) es.length seen.toArray es.length) ∧ Am σ s.S ι (.map (some g)) (.mptr m) ∧ (∀ p : Addr, p.block = r → σ p = none) ∧ I_ σ s ι w (.map (some g)) m g ents kt es := by
 obtain ⟨rfl, hS, hM⟩ := Ht h
 obtain ⟨b, hb1, hb2, hb3⟩ := DW (AW hv)
 rw [hS] at hb1
 cases hb1
 obtain ⟨r, g1, g2⟩ := hb3 rfl
 have hb := R.blk _ _ hS
 cases hb with
 | @iter _ _ _ g' m' k1 k2 k3 k4 =>
 rw [k1] at g1
 cases g1
 obtain ⟨g, ents, H⟩ := R.hasMap (v := .map (some m')) (av := .one (.mptr m)) (.one k3) (show By s.S _ = some (m, kt, es) by simp only [By, hM])
 have := H.val
 cases this
 exact ⟨r, m', ents, by simpa [AI.wid] using g2, k1, k2, k3, k4, H⟩
theorem Lz {ents : Array MapEntry} {n : Nat} (hb : ents.toList.map (·.born) = List.range n) {e : MapEntry} (he : e ∈ ents.toList) : ents.toList[e.born]? = some e := by
 obtain ⟨j, hj⟩ := List.getElem?_of_mem he
 have h0 : (ents.toList.map (·.born))[j]? = some e.born := by rw [List.getElem?_map, hj]; rfl
 rw [hb] at h0
 obtain ⟨h1, h2⟩ := List.getElem?_eq_some_iff.1 h0
 have : e.born = j := by simpa using h2.symm
 rw [this]
 exact hj
theorem NT {x : Operand} {x' : Opd} (ho : o.op = .next x false) (hx : AL C.n x = some x') (R : AQ C σ ι s a w) (h : Kd.go P d s K (.next x')) : A9 P C o a w K := by
 have rx := R.ev hx
 simp only [Kd.go] at h
 split at h
 ·rename_i id m seen kt es e1
  obtain ⟨r, g, ents, v1, v2, v3, v4, v5, H⟩ := R.hasIter rx e1
  obtain ⟨-, hS, hM⟩ := Ht e1
  have hsz := H.len
  have hbn := H.rep.born
  have hmem : ∀ e ∈ ents.toList, e.born < es.length := fun e he => by
   have := Lz hbn he
   have := (List.getElem?_eq_some_iff.1 this).1
   simp at this
   omega
  rcases run_next_at (P := P) w o.type r g es.length es.length seen.toArray ents ents.size v3 H.heap hmem (Nat.le_refl _) with ⟨h0, hrun⟩ | ⟨e, he, w1, hw1, hrun⟩
  ·refine AP R (.tuple #[.bool false]) _ ?_ (h.1 fun j hj => ?_) (.tup (fun _ => .bool false) rfl (fun j b hb => by
     match j, hb with
     | 0, hb => rfl) (fun j b hb => by
     match j, hb with
     | 0, hb => cases hb; exact .one (.st .bool)))
   ·simp [execOp, ho, v1, hrun, Result.andThen]
   ·obtain ⟨e, he⟩ : ∃ e, ents.toList[j]? = some e := ⟨_, List.getElem?_eq_getElem (by simp; omega)⟩
    have hb : e.born = j := by
     have h0 : (ents.toList.map (·.born))[j]? = some e.born := by rw [List.getElem?_map, he]; rfl
     rw [hbn] at h0
     obtain ⟨h1, h2⟩ := List.getElem?_eq_some_iff.1 h0
     simpa using h2.symm
    have hl : leftOf ents seen.toArray = #[] := Array.eq_empty_of_size_eq_zero h0
    unfold leftOf at hl
    rw [Array.filter_eq_empty_iff] at hl
    have := hl e (by simpa using List.mem_of_getElem? he)
    rw [hb] at this
    simpa using this
  ·have he0 : e ∈ ents.toList ∧ e.born ∉ seen := by
    unfold leftOf at he
    simpa using he
   have hat := Lz hbn he0.1
   obtain ⟨x1, hx1, hr1⟩ := H.rep.all.get' hat
   obtain ⟨⟨c, c1, c2⟩, c3⟩ := hr1
   have hK := h.2 _ _ c hx1 he0.2 c1
   have R1 : AQ C σ ι s a w1 := by rcases hw1 with rfl | rfl; exact R; exact R.drew
   have v3' : w1.heap[r]? = some (.mapIter (some g) es.length seen.toArray es.length) := by rcases hw1 with rfl | rfl; exact v3; exact v3
   obtain ⟨ι', R', hu⟩ := R1.setBlk (b' := .iter (.mptr m) es.length (seen ++ [e.born])) (o' := .mapIter (some g) es.length (seen.toArray.push e.born) ents.size) hS v2 v3' v5 rfl rfl (fun S' ι' hu => .iter (m := g) v2 (by rw [(DV v3').1, hsz]; simp) (v4.mono (fun _ _ h => h) hu) v5)
   refine ⟨.tuple #[.bool true, e.key, e.val], _, _, σ, ι', _, .inl ?_, hK, R', .tup (fun j => if j = 0 then .bool true else if j = 1 then e.key else e.val) rfl (fun j b hb => by
     match j, hb with
     | 0, hb => rfl
     | 1, hb => rfl
     | 2, hb => rfl) (fun j b hb => by
     match j, hb with
     | 0, hb => cases hb; exact .one (.st .bool)
     | 1, hb => cases hb; exact Db c2 _ _
     | 2, hb => cases hb; exact Db c3 _ _)⟩
   simp [execOp, ho, v1, hrun, Result.andThen]
 ·exact h.elim
theorem Mc {x : Operand} {x' : Opd} (ho : o.op = .entry x) (hx : AL C.n x = some x') (R : AQ C σ ι s a w) (h : Kd.go P d s K (.entry x')) : A9 P C o a w K := by
 have rx := R.ev hx
 simp only [Kd.go] at h
 split at h
 ·rename_i id m seen kt es e1
  split at h
  ·rename_i j e2
   split at h
   ·rename_i y e3
    split at h
    ·rename_i c e4
     obtain ⟨r, g, ents, v1, v2, v3, v4, v5, H⟩ := R.hasIter rx e1
     have hsz := H.len
     obtain ⟨e, he, hr⟩ := H.rep.all.get e3
     obtain ⟨⟨c', c1, c2⟩, c3⟩ := hr
     rw [e4] at c1
     cases c1
     have hb : e.born = j := by
      have h0 : (ents.toList.map (·.born))[j]? = some e.born := by rw [List.getElem?_map, he]; rfl
      rw [H.rep.born] at h0
      obtain ⟨h1, h2⟩ := List.getElem?_eq_some_iff.1 h0
      simpa using h2.symm
     obtain ⟨seen0, rfl⟩ : ∃ l, seen = l ++ [j] := by
      rw [List.getLast?_eq_some_iff] at e2
      exact e2
     have hrun := run_entry_at (P := P) w r g es.length seen0.toArray ents ents.size e (by rw [v3, hsz, hb]; simp) H.heap (List.mem_of_getElem? he) (by rw [H.rep.born]; exact List.nodup_range)
     refine AP R (.tuple #[e.key, e.val]) _ ?_ h (.tup (fun j => if j = 0 then e.key else e.val) rfl (fun j b hb => by
       match j, hb with
       | 0, hb => rfl
       | 1, hb => rfl) (fun j b hb => by
       match j, hb with
       | 0, hb => cases hb; exact Db c2 _ _
       | 1, hb => cases hb; exact Db c3 _ _))
     simp [execOp, ho, v1, hrun, Result.andThen]
    ·exact h.elim
   ·exact h.elim
  ·exact h.elim
 ·exact h.elim
end

section
variable {P : Program} {k e el : TypeId} {i j : TypeInfo} (w : World)
end

section
variable {P : Program} {C : Ctx} {o : Oper} {a : Act} {w : World} {K : AV → AS → Prop} {σ : Sto} {ι : A0} {s : AS} {d : Nat}
theorem Dd.put {f : List SV → List SV → SV → Prop} {ents : Array MapEntry} (h : Dd σ f ents.toList) {e : MapEntry} (he : ∃ v1 v2 cs ds x, e.key = .agg #[v1, v2] ∧ Am σ noS noH v1 (.eptr cs) ∧ Am σ noS noH v2 (.eptr ds) ∧ 2 ≤ cs.length ∧ 2 ≤ ds.length ∧ Ax σ e.val x ∧ f cs ds x) : Dd σ f (ents.push e).toList := fun y hy => by
 rw [Array.toList_push, List.mem_append, List.mem_singleton] at hy
 rcases hy with hy | rfl
 ·exact h y hy
 ·exact he
end

theorem Bh : ∀ {l : List AC}, AC.highs l = true → ∀ a ∈ l, a.high = true
 | [], _, a, ha => by simp at ha
 | x :: xs, hx, a, ha => by
  rw [AC.highs, Bool.and_eq_true] at hx
  rcases List.mem_cons.1 ha with rfl | ha
  ·exact hx.1
  ·exact Bh hx.2 a ha
section
variable {C : Ctx} {σ : Sto} {ι : A0} {s : AS} {a : Act} {w : World}
theorem Am.low {σ : Sto} {S S2 : AA} {ι : A0} (hS : ∀ i b, 1000 ≤ i → S i = some b → S2 i = some b) {v : Value} {c : AC} (h : Am σ S ι v c) (hc : c.high = true) : Am σ S2 ι v c := by
 induction h with
 | st h => exact .st h
 | full h => exact .full h
 | row h1 h2 h3 h4 => exact .row (hS _ _ (by rw [AC.high] at hc; exact of_decide_eq_true hc) h1) h2 h3 h4
 | part h1 h2 h3 h4 => exact .part (hS _ _ (by rw [AC.high] at hc; exact of_decide_eq_true hc) h1) h2 h3 h4
 | rest h1 h2 h3 h4 => exact .rest (hS _ _ (by rw [AC.high] at hc; exact of_decide_eq_true hc) h1) h2 h3 h4
 | ptr h1 h2 h3 h4 => exact .ptr (hS _ _ (by rw [AC.high] at hc; exact of_decide_eq_true hc) h1) h2 h3 h4
 | mptr h1 h2 h3 h4 => exact .mptr (hS _ _ (by rw [AC.high] at hc; exact of_decide_eq_true hc) h1) h2 h3 h4
 | yld h1 h2 h3 h4 => exact .yld (hS _ _ (by rw [AC.high] at hc; exact of_decide_eq_true hc) h1) h2 h3 h4
 | ubool => exact .ubool
 | eptr c h1 h2 hh => exact .eptr c h1 h2 hh
 | @fn f vs caps c h1 h2 h3 ih =>
  have key : ∀ (l : List AC), AC.highs l = true → ∀ a ∈ l, a.high = true := by
   intro l
   induction l with
   | nil => simp
   | cons x xs ih2 =>
    intro hx a ha
    rw [AC.highs, Bool.and_eq_true] at hx
    rcases List.mem_cons.1 ha with rfl | ha
    ·exact hx.1
    ·exact ih2 hx.2 a ha
  rw [AC.high] at hc
  exact .fn c h1 h2 (fun j a ha => ih j a ha (key _ hc a (List.mem_of_getElem? ha)))
 | any h => exact .any h
theorem Hg {S S2 : AA} (hS : ∀ i b, 1000 ≤ i → S i = some b → S2 i = some b) {vs : List Value} {cs : List AC} (h : Ae (Am σ S ι) vs cs) (hc : AC.highs cs = true) : Ae (Am σ S2 ι) vs cs :=
 Ae.of_get h.len fun j v c hv hcj => by
  obtain ⟨v', h1, h2⟩ := h.get hcj
  rw [hv] at h1
  cases h1
  exact h2.low hS (Bh hc c (List.mem_of_getElem? hcj))
mutual
theorem AT.low {S S2 : AA} (hS : ∀ i b, 1000 ≤ i → S i = some b → S2 i = some b) : ∀ {v : Value} {c : AV}, AT σ S ι v c → c.high = true → AT σ S2 ι v c
 | v, .one c, h, hc => by cases h with | one h => exact .one (h.low hS (by rw [AV.high] at hc; exact hc))
 | v, .agg cs, h, hc => by cases h with | agg h => exact .agg (Hg hS h (by rw [AV.high] at hc; exact hc))
 | v, .tup vs, h, hc => by
  cases h with
  | tup c h1 h2 h3 => exact .tup c h1 h2 (AT.lows hS h3 (by rw [AV.high] at hc; exact hc))
 | v, .any, h, _ => .any
theorem AT.lows {S S2 : AA} (hS : ∀ i b, 1000 ≤ i → S i = some b → S2 i = some b) : ∀ {vs : List AV} {c : Nat → Value}, (∀ j b, vs[j]? = some b → AT σ S ι (c j) b) → AV.highs vs = true → ∀ j b, vs[j]? = some b → AT σ S2 ι (c j) b
 | [], c, h, _, j, b, hb => by simp at hb
 | x :: xs, c, h, hc, j, b, hb => by
  rw [AV.highs, Bool.and_eq_true] at hc
  cases j with
  | zero =>
   simp at hb
   subst hb
   exact AT.low hS (h 0 x rfl) hc.1
  | succ j => exact AT.lows hS (vs := xs) (c := fun j => c (j + 1)) (fun j b hb => h (j + 1) b (by simpa using hb)) hc.2 j b (by simpa using hb)
end
section
variable {S S2 : AA} {ι2 : A0}
mutual
theorem AT.same (hc : ∀ v c, Am σ S ι v c → c.high = true → Am σ S2 ι2 v c) : ∀ {v : Value} {a : AV}, AT σ S ι v a → a.high = true → AT σ S2 ι2 v a
 | v, .one c, h, hh => by cases h with | one h => exact .one (hc _ _ h (by rw [AV.high] at hh; exact hh))
 | v, .agg cs, h, hh => by
  rw [AV.high] at hh
  cases h with
  | agg h =>
   refine .agg (Ae.of_get h.len fun j x c hx hcj => ?_)
   obtain ⟨x', h1, h2⟩ := h.get hcj
   rw [hx] at h1
   cases h1
   exact hc _ _ h2 (Bh hh c (List.mem_of_getElem? hcj))
 | v, .tup vs, h, hh => by
  rw [AV.high] at hh
  cases h with
  | tup c h1 h2 h3 => exact .tup c h1 h2 (AT.sames hc h3 hh)
 | v, .any, _, _ => .any
theorem AT.sames (hc : ∀ v c, Am σ S ι v c → c.high = true → Am σ S2 ι2 v c) : ∀ {vs : List AV} {c : Nat → Value}, (∀ (j : Nat) b, vs[j]? = some b → AT σ S ι (c j) b) → AV.highs vs = true → ∀ (j : Nat) b, vs[j]? = some b → AT σ S2 ι2 (c j) b
 | [], _, _, _, j, b, hb => by simp at hb
 | x :: xs, c, h, hh, j, b, hb => by
  rw [AV.highs, Bool.and_eq_true] at hh
  cases j with
  | zero =>
   simp at hb
   subst hb
   exact AT.same hc (h 0 x rfl) hh.1
  | succ j => exact AT.sames hc (vs := xs) (c := fun j => c (j + 1)) (fun j b hb => h (j + 1) b (by simpa using hb)) hh.2 j b (by simpa using hb)
end
end
theorem Bk.samecells {S S2 : AA} {ι2 : A0} {h : Hnd} {b : AI} (hr : Bk σ S ι w h b) (hc : ∀ v c, Am σ S ι v c → c.high = true → Am σ S2 ι2 v c) (hb : b.high = true) : Bk σ S2 ι2 w h b := by
 cases hr with
 | box k1 k2 k3 k4 k5 =>
  refine .box k1 k2 k3 (Ae.of_get k4.len fun j v c hv hcj => ?_) k5
  obtain ⟨v', h1, h2⟩ := k4.get hcj
  rw [hv] at h1
  cases h1
  exact hc _ _ h2 (Bh hb c (List.mem_of_getElem? hcj))
 | crow k1 k2 k3 kc km k4 k5 =>
  refine .crow k1 k2 k3 kc km (Ae.of_get k4.len fun j v c hv hcj => ?_) k5
  obtain ⟨v', h1, h2⟩ := k4.get hcj
  rw [hv] at h1
  cases h1
  exact hc _ _ h2 (Bh hb c (List.mem_of_getElem? hcj))
 | afull k1 k2 k3 k4 => exact .afull k1 k2 k3 k4
 | arow k1 k2 k3 k4 k5 k6 k7 k8 k9 kh => exact .arow k1 k2 k3 k4 k5 k6 k7 k8 k9 kh
 | mnil k1 k2 => exact .mnil k1 k2
 | mrow k1 k2 k3 k4 k5 k6 k7 k8 k9 => exact .mrow k1 k2 k3 k4 k5 k6 k7 k8 k9
 | map k1 k2 k3 k4 => exact .map k1 k2 k3 k4
 | memo k1 k2 k3 k4 => exact .memo k1 k2 k3 k4
 | iter k1 k2 k3 k4 => exact .iter k1 k2 (hc _ _ k3 hb) k4
 | @loop env r g k1 k2 k3 k4 k5 => exact .loop k1 k2 k3 (AT.sames (c := fun j => r.tmps.getD j undef) hc k4 hb) k5
 | dead k1 => exact .dead k1
theorem Az {S S' : AA} {i : Nat} (h : i < 1000) : BI S S' i = S i := if_pos h
theorem Aq {S S' : AA} {i : Nat} (h : 1000 ≤ i) : BI S S' i = S' i := if_neg (by omega)
theorem AQ.ownT (R : AQ C σ ι s a w) {T : AA} (hST : ∀ i, 1000 ≤ i → s.S i = T i) (hT : A7 T) : FF σ T ι w := by
 have hS : ∀ i b, 1000 ≤ i → s.S i = some b → T i = some b := fun i b hi hb => by rw [← hST i hi]; exact hb
 refine ⟨fun id b hb => ?_, fun id id' b b' g h1 h2 g1 g2 => ?_⟩
 ·obtain ⟨hi, hh⟩ := hT id b hb
  exact (R.blk id b (by rw [hST id hi]; exact hb)).samecells (fun v c hv hc => hv.low hS hc) hh
 ·exact R.inj _ _ _ _ g (by rw [hST id (hT id b h1).1]; exact h1) (by rw [hST id' (hT id' b' h2).1]; exact h2) g1 g2
theorem HN : ∀ {l : List AV}, AV.highs l = true → ∀ a ∈ l, a.high = true
 | [], _, a, ha => by simp at ha
 | x :: xs, hx, a, ha => by
  rw [AV.highs, Bool.and_eq_true] at hx
  rcases List.mem_cons.1 ha with rfl | ha
  ·exact hx.1
  ·exact HN hx.2 a ha
theorem Oq (S : AA) (x : AV) : Cn S x = x ∨ outV S x = some (Cn S x) := by
 unfold Cn
 cases outV S x with
 | none => exact .inl rfl
 | some y => exact .inr rfl
theorem AQ.argsT (R : AQ C σ ι s a w) {T : AA} (hST : ∀ i, 1000 ≤ i → s.S i = T i) {vs : List Value} {xs : List AV} (hh : AV.highs (xs.map (Cn s.S)) = true) (h : Ae (AT σ s.S ι) vs xs) : Ae (AT σ T ι) vs (xs.map (Cn s.S)) := by
 have hS : ∀ i b, 1000 ≤ i → s.S i = some b → T i = some b := fun i b hi hb => by rw [← hST i hi]; exact hb
 refine Ae.of_get (by rw [List.length_map]; exact h.len) fun j v b hv hb => ?_
 have hb' := HN hh b (List.mem_of_getElem? hb)
 rw [List.getElem?_map, Option.map_eq_some_iff] at hb
 obtain ⟨x, hx, rfl⟩ := hb
 obtain ⟨v', h1, h2⟩ := h.get hx
 rw [hv] at h1
 cases h1
 rcases Oq s.S x with e | e
 ·rw [e] at hb' ⊢
  exact h2.low hS hb'
 ·exact (R.outV h2 e).mono (fun _ _ h => h) (FI _ _)
theorem AQ.join (R : AQ C σ ι s a w) {T : AA} (hST : ∀ i, 1000 ≤ i → s.S i = T i) (hT : A7 T) {Post : AV → AA → Prop} {e : Ending} {w' : World} (he : PI σ T ι w Post e w') :
  ∃ v r S' σ' ι2, e = .returned v ∧ Post r S' ∧ A7 S' ∧ AQ C σ' ι2 ⟨s.env, BI s.S S'⟩ a w' ∧ AT σ' (BI s.S S') ι2 v r := by
 obtain ⟨v, r, S', σ', ι', rfl, hP, hS', hupd, hown', hv, hf', hkeep, hold, hos, hsz, hsame, hbase⟩ := he
 have hown := R.ownT hST hT
 obtain ⟨ι2, hι2⟩ : ∃ ι2 : A0, ∀ i, ι2 i = if i < 1000 then ι i else ι' i := ⟨fun i => if i < 1000 then ι i else ι' i, fun _ => rfl⟩
 have hlo : ∀ i, i < 1000 → ι2 i = ι i := fun i hi => by rw [hι2, if_pos hi]
 have hhi : ∀ i, 1000 ≤ i → ι2 i = ι' i := fun i hi => by rw [hι2, if_neg (by omega)]
 have hlt : ∀ id b g, s.S id = some b → (ι id).g = some g → g < w.heap.size := fun id b g h1 h2 => (R.blk id b h1).gsome h2
 have hlow : ∀ id b g, id < 1000 → s.S id = some b → (ι id).g = some g → Ch T ι g := fun id b g hi hb hg id2 b2 hb2 hg2 => by
  have h2 := (hT id2 b2 hb2).1
  have := R.inj _ _ _ _ g hb (by rw [hST id2 h2]; exact hb2) hg hg2
  omega
 have hnot : ∀ g, g < C.N → ¬ C.G g → Ch T ι g := fun g h1 h2 id b hb hg => by
  rcases R.base id b g (by rw [hST id (hT id b hb).1]; exact hb) hg with h | h
  ·omega
  ·exact h2 h
 have hu : Upd s.S ι (BI s.S S') ι2 := fun id b hb => by
  rcases Nat.lt_or_ge id 1000 with hi | hi
  ·exact ⟨b, by rw [Az hi]; exact hb, Nat.le_refl _, fun _ => ⟨rfl, hlo id hi⟩⟩
  ·obtain ⟨b', h1, h2, h3⟩ := hupd id b (by rw [← hST id hi]; exact hb)
   exact ⟨b', by rw [Aq hi]; exact h1, h2, fun hl => ⟨(h3 hl).1, by rw [hhi id hi]; exact (h3 hl).2⟩⟩
 have hu2 : Upd S' ι' (BI s.S S') ι2 := fun id b hb => ⟨b, by rw [Aq (hS' id b hb).1]; exact hb, Nat.le_refl _, fun _ => ⟨rfl, hhi id (hS' id b hb).1⟩⟩
 refine ⟨v, r, S', σ', ι2, rfl, hP, hS', ?_, hv.mono (fun _ _ h => h) hu2⟩
 refine ⟨R.size, fun i hi => (R.env i hi).mono hkeep hu, R.nod.mono (fun D h => (hsame D (Array.getElem?_eq_some_iff.1 h).1 (E8 hown.1 h)).trans h), hf', fun id b hb => ?_, fun id id' b b' g h1 h2 g1 g2 => ?_, fun id b g hb hg => ?_, fun p x hx => hkeep _ _ (R.ext p x hx), fun p h1 h2 => ?_, ⟨hos.1.trans R.os.1, hos.2.1.trans R.os.2.1, hos.2.2.trans R.os.2.2⟩, ⟨Nat.le_trans R.grown.1 hsz, Nat.le_trans R.grown.2 hsz⟩, fun g h1 h2 => ?_, R.upd.trans hu⟩
 ·rcases Nat.lt_or_ge id 1000 with hi | hi
  ·have hb' : s.S id = some b := (Az (S := s.S) (S' := S') hi).symm.trans hb
   rw [hlo id hi]
   exact (R.blk id b hb').mono hkeep hu (fun g hg => hsame g (hlt id b g hb' hg) (hlow id b g hi hb' hg)) (fun g hg p hp => hold p (by rw [hp]; exact hlt id b g hb' hg) (by rw [hp]; exact hlow id b g hi hb' hg))
  ·have hb' : S' id = some b := (Aq (S := s.S) (S' := S') hi).symm.trans hb
   rw [hhi id hi]
   exact (hown'.1 id b hb').mono (fun _ _ h => h) hu2 (fun _ _ => rfl) (fun _ _ _ _ => rfl)
 ·have cross : ∀ id id' b b' g, id < 1000 → 1000 ≤ id' → BI s.S S' id = some b → BI s.S S' id' = some b' → (ι2 id).g = some g → (ι2 id').g = some g → False := fun id id' b b' g l1 l2 h1 h2 g1 g2 => by
   rw [Az l1] at h1
   rw [Aq l2] at h2
   rw [hlo id l1] at g1
   rw [hhi id' l2] at g2
   rcases hbase id' b' g h2 g2 with h | h
   ·have := hlt id b g h1 g1; omega
   ·exact h (hlow id b g l1 h1 g1)
  change BI s.S S' id = some b at h1
  change BI s.S S' id' = some b' at h2
  rcases Nat.lt_or_ge id 1000 with l1 | l1 <;> rcases Nat.lt_or_ge id' 1000 with l2 | l2
  ·rw [Az l1] at h1
   rw [Az l2] at h2
   rw [hlo id l1] at g1
   rw [hlo id' l2] at g2
   exact R.inj _ _ _ _ g h1 h2 g1 g2
  ·exact (cross id id' b b' g l1 l2 h1 h2 g1 g2).elim
  ·exact (cross id' id b' b g l2 l1 h2 h1 g2 g1).elim
  ·rw [Aq l1] at h1
   rw [Aq l2] at h2
   rw [hhi id l1] at g1
   rw [hhi id' l2] at g2
   exact hown'.2 _ _ _ _ g h1 h2 g1 g2
 ·change BI s.S S' id = some b at hb
  rcases Nat.lt_or_ge id 1000 with hi | hi
  ·rw [Az hi] at hb
   rw [hlo id hi] at hg
   exact R.base id b g hb hg
  ·rw [Aq hi] at hb
   rw [hhi id hi] at hg
   rcases hbase id b g hb hg with h2 | h2
   ·exact .inl (by have := R.grown.1; omega)
   ·by_cases hN : g < C.N
    ·by_cases hG : C.G g
     ·exact .inr hG
     ·exact absurd (hnot g hN hG) h2
    ·exact .inl (by omega)
 ·exact (hold p (by have := R.grown.1; omega) (hnot _ h1 h2)).trans (R.old p h1 h2)
 ·exact (hsame g (by have := R.grown.1; omega) (hnot g h1 h2)).trans (R.same g h1 h2)
end

def Ja (P : Program) (t : TypeId) : Option (Bool × Nat) := match P.underlying t, P.info? t with
 | some d, some i => some (Cs d, if Cs d then i.size else 1)
 | _, _ => none
def N6 (v : Value) : Option SV := match Gw v with
 | some (.st c) => some c
 | some (.full xs) => some (.list xs)
 | _ => none
def Er : List Value → Option (List SV)
 | [] => some []
 | v :: vs => match N6 v, Er vs with
  | some c, some cs => some (c :: cs)
  | _, _ => none
def isP (mu : List Nat) : Option Nat → Bool
 | some d => mu.contains (30000000 + d)
 | none => false
def isB (mu : List Nat) : Option Nat → Bool
 | some d => mu.contains (90000000 + d)
 | none => false
def isY (mu : List Nat) : Option Nat → Bool
 | some d => mu.contains (70000000 + d)
 | none => false
def Ky (P : Program) (t : TypeId) : Bool := match P.underlying t with
 | some .string => true
 | _ => false
theorem LX {P : Program} {t : TypeId} (h : Ky P t = true) : P.underlying t = some .string := by
 unfold Ky at h
 split at h
 ·assumption
 ·cases h
def PO : Value → Bool
 | .int .u8 n => decide (n = 0)
 | _ => false
theorem OJ {v : Value} (h : PO v = true) : v = .int .u8 0 := by
 unfold PO at h
 split at h
 ·rw [of_decide_eq_true h]
 ·cases h
def M6 (P : Program) (n : Nat) (mu : List Nat) (dst : Option Nat) (c : Call) : Option Kd := match c.callee with
 | .builtin .len => match c.args.toList, c.argTypes.toList with
  | [x], [t] => match AL n x, P.underlying t with
   | some x', some .string => some (.len true x')
   | some x', some (.slice _) => some (.len false x')
   | some x', some (.map _ _) => some (.lenM x')
   | _, _ => none
  | _, _ => none
 | .builtin .append => match c.args.toList, c.argTypes.toList with
  | [x, y], [t, t'] => match AL n x, AL n y, P.underlying t with
   | some x', some y', some (.slice e) => match P.info? e with
    | some i => match i.zero with
     | some z => if t = t' ∧ z.cells.size = i.size ∧ 0 < i.size then if isP mu dst then some (.appP e i.size i.bytes x' y') else some (.append (match dst with | some d => mu.contains d | none => false) e i.size i.bytes x' y') else if Ky P t' = true ∧ i.size = 1 ∧ i.bytes = 1 ∧ PO z = true then some (.appS e x' y') else none
     | none => none
    | none => none
   | _, _, _ => none
  | _, _ => none
 | .builtin .clear => match c.args.toList, c.argTypes.toList with
  | [x], [t] => match AL n x, P.underlying t with
   | some x', some (.slice e) => match P.info? e with
    | some i => match i.zero with
     | some z => match Er z.cells.toList with
      | some zs => if z.cells.size = i.size ∧ 0 < i.size then some (.clearP e i.size zs x') else none
      | none => none
     | none => none
    | none => none
   | _, _ => none
  | _, _ => none
 | .builtin .copy => match c.args.toList, c.argTypes.toList with
  | [x, y], [t, t'] => match AL n x, AL n y, P.underlying t with
   | some x', some y', some (.slice e) => if (P.info? e).map (·.size) = some 1 then some (.copyP x' y') else some .never
   | _, _, _ => some .never
  | _, _ => some .never
 | .builtin .min => match c.args.toList with
  | [x, y] => match AL n x, AL n y with
   | some x', some y' => some (.mm false x' y')
   | _, _ => none
  | _ => none
 | .builtin .max => match c.args.toList with
  | [x, y] => match AL n x, AL n y with
   | some x', some y' => some (.mm true x' y')
   | _, _ => none
  | _ => none
 | .value (.func f) => if CV P f then (Be n c.args.toList).map (fun xs => match dst with
  | some d => if mu.contains d then .callS f xs else if mu.contains (20000000 + d) then .callN f xs else if mu.contains (40000000 + d) then .callR f xs else if mu.contains (50000000 + d) then .callW f xs else if mu.contains (80000000 + d) then .callX f xs else .call f xs
  | none => .callS f xs) else none
 | .value (.tmp t) => match AL n (.tmp t), Be n c.args.toList with
  | some f', some xs => if isY mu dst then none else some (.callV f' xs)
  | _, _ => none
 | _ => none
def Pa (P : Program) (t : TypeId) : Bool := match P.underlying t with
 | some (.int _) => true
 | some .string => true
 | some .bool => true
 | _ => false
def Hs (P : Program) (t : TypeId) : Option (TypeId × Option KK) := match P.underlying t with
 | some (.map k e) => (I8 P k).map fun kt => (e, kt)
 | _ => none
theorem Ek {P : Program} {t e : TypeId} {kt : Option KK} (h : Hs P t = some (e, kt)) : ∃ k, P.underlying t = some (.map k e) ∧ HQ P k kt := by
 unfold Hs at h
 split at h
 ·rename_i k e' e1
  rw [Option.map_eq_some_iff] at h
  obtain ⟨q, h1, h2⟩ := h
  cases h2
  exact ⟨k, e1, Nh h1⟩
 ·cases h
def Ip (P : Program) (e : TypeId) : Option AV := match P.info? e with
 | some i => match i.zero with
  | some z => Hu z
  | none => none
 | none => none
theorem Hl {P : Program} {e : TypeId} {zv : AV} (h : Ip P e = some zv) : ∃ i z, P.info? e = some i ∧ i.zero = some z ∧ Hu z = some zv := by
 unfold Ip at h
 split at h
 ·rename_i i e1
  split at h
  ·rename_i z e2
   exact ⟨i, z, e1, e2, h⟩
  ·cases h
 ·cases h
def A8 (P : Program) (n : Nat) (mu : List Nat) (dst : Option Nat) : Op → Option Kd
 | .move x => (AL n x).map .mov
 | .assign x => (AL n x).map .mov
 | .pick c x y => match AL n c, AL n x, AL n y with
  | some c', some x', some y' => some (.pick c' x' y')
  | _, _, _ => none
 | .alloc e => match P.info? e with
  | some i => match i.zero with
   | some z => (Co z.cells.toList).map (.alloc e)
   | none => none
  | none => none
 | .box e x => (AL n x).map (.box e)
 | .build t ps => match P.info? t, P.underlying t with
  | some it, some (.struct fs) => match it.zero, fs.toList.mapM (fun f => (P.info? f.type).map fun i => (f.offset, i.size)) with
   | some z, some places => match Ec n places ps.toList, Co z.cells.toList with
    | some ps', some cs => some (.build cs ps')
    | _, _ => none
   | _, _ => none
  | _, _ => none
 | .buildSlice t len ps => match P.underlying t with
  | some (.slice e) => match P.info? e with
   | some ie => match ie.zero, IM n 0 ps.toList with
    | some z, some xs => if len * ie.size ≤ 2 ^ 24 ∧ 0 < ie.size ∧ ps.size = len then (if Pa P e && ie.size == 1 && !(match dst with | some d => mu.contains d | none => false) then some (.buildFlat xs) else some (.buildSlice (match dst with | some d => mu.contains d | none => false) e ie.size xs)) else none
    | _, _ => none
   | none => none
  | _ => none
 | .load t x => match Ja P t, AL n x with
  | some (g, k), some x' => some (.load g k x')
  | _, _ => none
 | .store t x v => match P.info? t, AL n x, AL n v with
  | some i, some x', some v' => some (.store i.size x' v')
  | _, _, _ => none
 | .fieldAddr t x f => match P.underlying t, AL n x with
  | some (.struct fs), some x' => match fs[f]? with
   | some fd => match P.info? fd.type with
    | some i => if i.size ≠ 0 then some (.fieldAddr fd.offset x') else none
    | none => none
   | none => none
  | _, _ => none
 | .field t x f => match P.underlying t, AL n x with
  | some (.struct fs), some x' => match fs[f]? with
   | some fd => match Ja P fd.type with
    | some (g, k) => some (.field g fd.offset k x')
    | none => none
   | none => none
  | _, _ => none
 | .indexAddr t x y => match P.underlying t, AL n x, AL n y with
  | some (.slice e), some x', some y' => match P.info? e with
   | some i => if isP mu dst then some (.indexP i.size x' y') else some (.indexAddr i.size x' y')
   | none => none
  | some (.array len e), some x', some y' => match P.info? e with
   | some i => some (.indexArr len i.size x' y')
   | none => none
  | _, _, _ => none
 | .index t x y => match P.underlying t, AL n x, AL n y with
  | some .string, some x', some y' => some (.indexStr x' y')
  | _, _, _ => none
 | .binOp op t x y _ => match AL n x, AL n y with
  | some x', some y' => match P.underlying t, op, y with
   | some .bool, .eql, _ => some (.eqB false x' y')
   | some .bool, .neq, _ => some (.eqB true x' y')
   | some (.slice _), .eql, .const (.slice none 0 0) => some (.eqN false x')
   | some (.slice _), .neq, .const (.slice none 0 0) => some (.eqN true x')
   | some (.interface _), .eql, .const .nilIface => some (.eqE false x')
   | some (.interface _), .neq, .const .nilIface => some (.eqE true x')
   | some (.pointer _), .eql, .const (.pointer none) => some (.eqP false x')
   | some (.pointer _), .neq, .const (.pointer none) => some (.eqP true x')
   | _, .and, _ => some (.bits op x' y')
   | _, .or, _ => some (.bits op x' y')
   | _, .shl, _ => some (.bits op x' y')
   | _, .shr, _ => if isB mu dst then some (.bits op x' y') else some (.bin op x' y')
   | _, _, _ => some (.bin op x' y')
  | _, _ => none
 | .unOp op _ x => (AL n x).map (.un op)
 | .convert src dst x => match P.underlying src, P.underlying dst, AL n x with
  | some _, some (.int k), some x' => some (.conv k x')
  | some (.slice e), some .string, some x' => match P.underlying e with
   | some (.int .u8) => some (.strOf false x')
   | _ => none
  | some (.int _), some .string, some x' => some (.strOf true x')
  | _, _, _ => none
 | .slice t x lo hi none => match P.underlying t, AL n x, Bf n lo, Bf n hi with
  | some .string, some x', some lo', some hi' => some (.sliceS x' lo' hi')
  | some (.slice e), some x', some lo', some hi' => match P.info? e with
   | some i => if isP mu dst then (match lo', hi' with | none, some h' => some (.cutP i.size x' h') | some l', none => some (.restP i.size x' l') | _, _ => none) else some (.sliceL i.size x' lo' hi')
   | none => none
  | _, _, _, _ => none
 | .slice t x none (some hi) (some mx) => match P.underlying t, AL n x, AL n hi, AL n mx with
  | some (.slice e), some x', some h', some m' => (P.info? e).map fun i => .sliceM i.size x' h' m'
  | _, _, _, _ => none
 | .extract x i => (AL n x).map (.extract i)
 | .nilCheck x => (AL n x).map .nilCheck
 | .call c => M6 P n mu dst c
 | .makeSlice t x y => match P.underlying t, AL n x, AL n y with
  | some (.slice e), some x', some y' => match P.info? e with
   | some i => match i.zero with
    | some z => match Er z.cells.toList with
     | some zs => if z.cells.size = i.size ∧ 0 < i.size then some (.makeSlice e i.size i.bytes zs x' y') else none
     | none => none
    | none => none
   | none => none
  | _, _, _ => none
 | .makeMap t none => (Hs P t).map fun q => .makeMap q.2
 | .lookup t x k ok => match Hs P t, AL n x, AL n k with
  | some (e, kt), some x', some k' => (Ip P e).map fun z => .lookup kt ok z x' k'
  | _, _, _ => none
 | .mapUpdate t x k v => match Hs P t, AL n x, AL n k, AL n v with
  | some (_, kt), some x', some k', some v' => some (.mapSet kt x' k' v')
  | _, _, _, _ => none
 | .insert t x k v => match Hs P t, AL n x, AL n k, AL n v with
  | some (_, kt), some x', some k', some v' => some (.mapSet kt x' k' v')
  | _, _, _, _ => none
 | .mapEntry t x k => match Hs P t, AL n x, AL n k with
  | some (e, kt), some x', some k' => (Ip P e).map fun z => .mapEntry kt z x' k'
  | _, _, _ => none
 | .entryStore _ x k v => match AL n x, AL n k, AL n v with
  | some x', some k', some v' => some (.entrySet x' k' v')
  | _, _, _ => none
 | .range t x => match P.underlying t, AL n x with
  | some (.map _ _), some x' => some (.rangeM x')
  | _, _ => none
 | .next x false => (AL n x).map .next
 | .entry x => (AL n x).map .entry
 | .makeInterface t x => match P.underlying t, AL n x with
  | some (.int _), some x' => some (.iface t x')
  | _, _ => none
 | .makeFunc (.func g) first caps => if first.size = 0 then (Be n caps.toList).map (.makeFunc g) else none
 | _ => none
def JN (n : Nat) (ops : List Oper) : Option (Nat × Bool) → Option (Option (Nat × Bool))
 | none => some none
 | some (j, want) => match ops[j]? with
  | some o => match o.dst with
   | some t => if t < n then some (some (t, want)) else none
   | none => none
  | none => none
def Kz (P : Program) (n : Nat) (op : Op) : Option Kd := none
def O9 (mu : List Nat) : Option Nat → Bool
 | some d => mu.contains (60000000 + d)
 | none => false
def Kd.stillIf (b : Bool) (k : Kd) : Kd := match b with
 | true => k.stillOf
 | false => k
theorem LB {P : Program} {d : Nat} {s : AS} {K : AV → AS → Prop} {b : Bool} {kd : Kd} (h : (kd.stillIf b).go P d s K) : kd.go P d s (Pb K) := by
 have keep : kd.go P d s K → kd.go P d s (Pb K) := fun h => go_mono h fun _ _ h => .inl h
 cases b with
 | true =>
  by_cases ha : ∃ mu e w b x y, kd = .append mu e w b x y
  ·obtain ⟨mu, e, w, b, x, y, rfl⟩ := ha
   exact JV h
  ·exact keep (K6 (fun mu e w b x y he => ha ⟨mu, e, w, b, x, y, he⟩) h)
 | false => exact keep h
def PX (P : Program) (n : Nat) (mu : List Nat) (dst : Option Nat) (op : Op) : Option Kd := match A8 P n mu dst op with
 | some k => some (k.stillIf (O9 mu dst))
 | none => match Kz P n op with
  | some k => some k
  | none => match op with
   | .panic x => (AL n x).map .pan
   | .call c => match c.callee with
    | .value (.tmp t) => match AL n (.tmp t), Be n c.args.toList with
     | some f', some xs => some (.callY f' xs)
     | _, _ => some .never
    | _ => some .never
   | _ => some .never
def KT (P : Program) (n : Nat) (mu : List Nat) (ops : List Oper) (o : Oper) : Option Ins := match JN n ops o.guard, PX P n mu o.dst o.op with
 | some g, some k => some ⟨o.dst, g, k, .no⟩
 | _, _ => none
def HO (P : Program) (n : Nat) (mu : List Nat) (ops : List Oper) : List Oper → Option (List Ins)
 | [] => some []
 | o :: os => match KT P n mu ops o, HO P n mu ops os with
  | some i, some is => some (i :: is)
  | _, _ => none
section
variable {P : Program} {C : Ctx} {o : Oper} {a : Act} {w : World} {σ : Sto} {ι : A0} {s : AS} {d : Nat}
def BG (C : Ctx) (s : AS) (a : Act) (w : World) : Prop := ∃ σ ι, AQ C σ ι s a w
theorem E1 {t : TypeId} {g : Bool} {k : Nat} (h : Ja P t = some (g, k)) : ∃ dd i, P.underlying t = some dd ∧ P.info? t = some i ∧ g = Cs dd ∧ k = if g then i.size else 1 := by
 unfold Ja at h
 split at h
 ·rename_i dd i e1 e2
  simp only [Option.some.injEq, Prod.mk.injEq] at h
  obtain ⟨rfl, rfl⟩ := h
  exact ⟨dd, i, e1, e2, rfl, rfl⟩
 ·cases h
theorem NL {f : FuncId} {xs : Array Operand} {ts : Array TypeId} {xs' : List Opd} {K : AV → AS → Prop} {next : Act → World → Prop} {Q : Exit → Act → World → Prop} (ho : o.op = .call { callee := .value (.func f), args := xs, argTypes := ts }) (hf : CV P f = true) (hx : Be C.n xs.toList = some xs')
  (R : AQ C σ ι s a w) (h : Kd.go P d s K (.call f xs')) (hn : ∀ av s' a' w', K av s' → BG C (s'.put o.dst av) a' w' → next a' w') : o.wp P a w next Q := by
 simp only [Kd.go] at h
 split at h
 ·rename_i vs e1
  obtain ⟨r, hc, hK⟩ := h
  have rxs := R.evs hx
  have hrun : (execOp a.eval o).run P w = .ok (.enter f (xs.map a.eval)) w := by
   unfold CV at hf
   split at hf
   ·rename_i fn hfn
    simp only [Bool.and_eq_true, Bool.not_eq_true', beq_eq_false_iff_ne, Option.isSome_iff_exists] at hf
    obtain ⟨hname, c, hbody⟩ := hf
    simp [execOp, ho, resolve, Deferred.ofValue, Act.eval, invoke, callFunc, hfn, hname, hbody]
   ·cases hf
  have hvs : Ae (AT σ noS noH) (xs.map a.eval).toList vs := by
   have := rxs
   rw [← Array.toList_map] at this
   have hlen := this.len
   obtain ⟨q1, q2⟩ := AQ.outVs R (cs := s.evs xs') (cs' := vs) (c := fun j => ((xs.map a.eval).toList[j]?).getD undef) (fun j b hb => by
    obtain ⟨v, v1, v2⟩ := this.get hb
    rw [v1]
    exact v2) e1
   refine Ae.of_get (by omega) fun j v b hv hb => ?_
   have := q2 j b hb
   rw [hv] at this
   exact this
  unfold Oper.wp
  rw [hrun, Oper.upon_enter]
  have hcall := hc σ w _ (C.glob.mono R.ext) R.fit hvs
  rw [Array.toArray_toList] at hcall
  refine hcall.mono fun e w' he => ?_
  obtain ⟨v, σ', rfl, hv, hf', hext, hb⟩ := he
  exact hn _ _ _ _ hK ⟨σ', ι, (R.more hext hf' hb).put (hv.mono (fun _ _ h => h) (FI _ _))⟩
 ·exact h.elim
theorem Np {mx : Bool} {x y : Operand} {ts : Array TypeId} {x' y' : Opd} {K : AV → AS → Prop} (ho : o.op = .call { callee := .builtin (if mx then .max else .min), args := #[x, y], argTypes := ts }) (hx : AL C.n x = some x') (hy : AL C.n y = some y') (R : AQ C σ ι s a w) (h : Kd.go P d s K (.mm mx x' y')) : A9 P C o a w K := by
 have rx := R.ev hx
 have ry := R.ev hy
 simp only [Kd.go] at h
 split at h
 ·rename_i k m k' n e1 e2
  rw [e1] at rx
  rw [e2] at ry
  obtain ⟨hex, h1⟩ := A2 rx
  obtain ⟨hey, h2⟩ := A2 ry
  obtain ⟨rfl, h⟩ := h
  cases mx with
  | true =>
   simp only [if_true] at h ho
   by_cases hlt : m < n
   ·rw [if_pos hlt] at h
    exact AP R (.int k n) _ (by simp [execOp, ho, resolve, invoke, builtin, Builtin.max_, Builtin.max2, hex, hey, hlt]) h (.one (.st (.int h2)))
   ·rw [if_neg hlt] at h
    exact AP R (.int k m) _ (by simp [execOp, ho, resolve, invoke, builtin, Builtin.max_, Builtin.max2, hex, hey, hlt]) h (.one (.st (.int h1)))
  | false =>
   simp only [Bool.false_eq_true, if_false] at h ho
   by_cases hlt : n < m
   ·rw [if_pos hlt] at h
    exact AP R (.int k n) _ (by simp [execOp, ho, resolve, invoke, builtin, Builtin.min_, Builtin.min2, hex, hey, hlt]) h (.one (.st (.int h2)))
   ·rw [if_neg hlt] at h
    exact AP R (.int k m) _ (by simp [execOp, ho, resolve, invoke, builtin, Builtin.min_, Builtin.min2, hex, hey, hlt]) h (.one (.st (.int h1)))
 ·exact h.elim
theorem M2 {v : Value} {c : SV} (h : N6 v = some c) : Ax σ v c := by
 unfold N6 at h
 split at h
 ·rename_i e
  cases h
  have := DZ (σ := σ) (S := noS) (ι := noH) e
  exact Bj this
 ·rename_i e
  cases h
  have := DZ (σ := σ) (S := noS) (ι := noH) e
  exact B8 this
 ·cases h
theorem Ed : ∀ {vs : List Value} {cs : List SV}, Er vs = some cs → Ae (Ax σ) vs cs
 | [], cs, h => by simp only [Er, Option.some.injEq] at h; subst h; exact .nil
 | v :: vs, cs, h => by
  simp only [Er] at h
  split at h
  ·rename_i k1 k2
   cases h
   exact .cons (M2 k1) (Ed k2)
  ·cases h
theorem Ms {z : Array Value} {zs : List SV} (hzs : Er z.toList = some zs) (hpos : 0 < z.size) (n : Nat) : A5 σ (Builtin.zeroCells z n).toList z.size (List.replicate n zs) := by
 have rz := Ed (σ := σ) hzs
 have hzl := rz.len
 simp only [Array.length_toList] at hzl
 refine ⟨fun x hx => by rw [(List.mem_replicate.1 hx).2]; exact hzl.symm, fun k x j y hx hy => ?_⟩
 obtain ⟨hk1, hk2⟩ := List.getElem?_eq_some_iff.1 hx
 simp only [List.length_replicate] at hk1
 rw [List.getElem_replicate] at hk2
 subst hk2
 have hj : j < z.size := by
  have := (List.getElem?_eq_some_iff.1 hy).1
  omega
 obtain ⟨v, v1, v2⟩ := rz.get hy
 refine ⟨v, ?_, v2⟩
 have hlt : k * z.size + j < n * z.size := by
  have : (k + 1) * z.size ≤ n * z.size := Nat.mul_le_mul_right _ hk1
  rw [Nat.add_mul] at this
  omega
 have em : (k * z.size + j) % z.size = j := by rw [Nat.mul_comm, Nat.mul_add_mod, Nat.mod_eq_of_lt hj]
 have hv : z[j]? = some v := by simpa using v1
 unfold Builtin.zeroCells
 simp only [Array.getElem?_toList, Array.getElem?_map, Array.getElem?_range, if_pos hlt, Option.map_some, em]
 simp only [Array.getElem!_eq_getD, Array.getD_eq_getD_getElem?, hv, Option.getD_some]
theorem N9 {z : Array Value} {zs : List SV} (hzs : Er z.toList = some zs) (hpos : 0 < z.size) (n : Nat) : ∀ u ∈ (Builtin.zeroCells z n).toList, u.oneCell' = true := fun u hu => by
 have rz := Ed (σ := fun _ => none) hzs
 unfold Builtin.zeroCells at hu
 simp only [Array.toList_map, List.mem_map] at hu
 obtain ⟨q, _, rfl⟩ := hu
 have hq : q % z.size < z.size := Nat.mod_lt _ hpos
 rw [getElem!_pos z (q % z.size) hq]
 obtain ⟨c, _, hc⟩ := rz.get' (show z.toList[q % z.size]? = some z[q % z.size] by simp [hq])
 exact hc.one
theorem Kx {t e : TypeId} {i : TypeInfo} {z : Value} {zs : List SV} {x : Operand} {x' : Opd} {K : AV → AS → Prop} (ho : o.op = .call { callee := .builtin .clear, args := #[x], argTypes := #[t] }) (hx : AL C.n x = some x') (ht : P.underlying t = some (.slice e)) (hi : P.info? e = some i) (hz : i.zero = some z) (hzs : Er z.cells.toList = some zs) (hsz : z.cells.size = i.size) (hpos : 0 < i.size)
  (R : AQ C σ ι s a w) (h : Kd.go P d s K (.clearP e i.size zs x')) : A9 P C o a w K := by
 have rx := R.ev hx
 simp only [Kd.go] at h
 split at h
 ·rename_i id q m e1
  rw [e1] at rx
  replace rx := AW rx
  split at h
  ·rename_i e' w' xs hS
   obtain ⟨⟨hm, rfl, rfl⟩, hK⟩ := h
   obtain ⟨b, hb1, hb2, hb3⟩ := Fu rx
   rw [hS] at hb1
   cases hb1
   obtain ⟨hqm, hex⟩ := hb3 hm
   have hb := R.blk _ _ hS
   have hmm : m = xs.length := hm
   have hex2 : ∀ v w2, (Builtin.clear_ #[t] o.type #[a.eval x]).run P w = .ok v w2 → (execOp a.eval o).run P w = .ok (.value v) w2 := fun v w2 hr => by
    simp only [execOp, ho, resolve, invoke, builtin, Sem.run_bind, Sem.run_pure, Result.andThen_ok, List.map_toArray, List.map_cons, List.map_nil, hr]
   have hlen : (xs.take q ++ List.replicate (m - q) zs).length = xs.length := by simp; omega
   by_cases h0 : m - q = 0
   ·have hrun := hex2 (.tuple #[]) w (by
     rw [hex, h0]
     generalize (if (ι id).cap = q then (ι id).p else Option.map (fun x => x.add (q * (AI.mrow e' i.size xs).wid)) (ι id).p) = pp
     cases pp <;> simp [Builtin.clear_, run_underlying ht])
    have hq : q = xs.length := by omega
    have hsame : s.set id (.mrow e' i.size (xs.take q ++ List.replicate (m - q) zs)) = s := by
     rw [h0, List.replicate_zero, List.append_nil, List.take_of_length_le (by omega)]
     obtain ⟨env, S⟩ := s
     simp only [AS.set, AS.mk.injEq, true_and]
     funext k
     unfold AO
     split
     ·rename_i hk; subst hk; exact hS.symm
     ·rfl
    rw [hsame] at hK
    exact ⟨_, _, s, σ, ι, w, .inl hrun, hK, R, .tup (fun _ => undef) rfl (by simp) (by simp)⟩
   ·cases hb with
    | mnil k1 => simp at hmm; omega
    | @mrow _ _ _ g vs k1 k2 k3 k4 k5 k6 k7 k8 k9 =>
     have hcap : xs.length * i.size ≤ (ι id).cap * i.size := Nat.mul_le_mul_right _ k4
     have hqw : q * i.size + (m - q) * i.size = xs.length * i.size := by rw [← Nat.add_mul]; congr 1; omega
     have hzl : (Builtin.zeroCells z.cells (m - q)).toList.length = (m - q) * i.size := by rw [Array.length_toList, size_zeroCells, hsz]
     have hst := run_storeCells_at P g (q * i.size) e' (Builtin.zeroCells z.cells (m - q)).toList 0 vs w k3 (by rw [hzl]; omega) (N9 hzs (by omega) _)
     rw [Nat.add_zero, hzl] at hst
     generalize hA : (vs.toList.take (q * i.size) ++ (Builtin.zeroCells z.cells (m - q)).toList ++ vs.toList.drop (q * i.size + (m - q) * i.size)).toArray = A at hst
     have hne : ¬ (ι id).cap = q := by omega
     have hrun := hex2 (.tuple #[]) (w.setRow g A) (by
      rw [hex, if_neg hne, k2]
      obtain ⟨n', hn'⟩ : ∃ n', m - q = n' + 1 := ⟨m - q - 1, by omega⟩
      simp only [Option.map_some, BO, Nat.zero_add, AI.wid]
      rw [hn'] at hst ⊢
      simp [Builtin.clear_, run_underlying ht, zeroValue, typeInfo, hi, hz, hst])
     have hheap : (w.setRow g A).heap[g]? = some (.cells A e' (0, 0)) := setRow_heap w _ _ _ _ _ k3
     have hlaidAll : A5 σ vs.toList i.size xs := ⟨k7, fun kk x j y hx hy => by
      obtain ⟨v, v1, v2⟩ := k8 kk x j y hx hy
      exact ⟨v, by simpa using v1, v2⟩⟩
     have hl : A5 σ A.toList i.size (xs.take q ++ List.replicate (m - q) zs) := by
      have h2 := Ms (σ := σ) hzs (by omega) (m - q)
      have htl : (vs.toList.take (q * i.size)).length = (xs.take q).length * i.size := by
       have e1 : (xs.take q).length = q := by rw [List.length_take]; omega
       have e2 : vs.toList.length = (ι id).cap * i.size := by rw [Array.length_toList, k6]
       rw [e1, List.length_take, e2]
       omega
      rw [hsz] at h2
      have h3 := ((Ei hlaidAll q).append h2 htl).more (vs.toList.drop (q * i.size + (m - q) * i.size))
      rw [← hA]
      exact h3
     have hAs : A.size = (ι id).cap * i.size := by
      rw [← hA]
      simp only [List.size_toArray, List.length_append, List.length_take, List.length_drop, hzl, Array.length_toList, k6]
      omega
     obtain ⟨hu, R'⟩ := R.turn (w' := w.setRow g A) hS (.mrow e' i.size (xs.take q ++ List.replicate (m - q) zs)) (ι id) (σ' := σ) (fun _ _ h => h)
      (fun _ _ _ => rfl) (R.fit.row k9 fun k hk => setRow_other _ _ _ _ hk) (by simp only [AI.len, hlen]; exact Nat.le_refl _) (fun _ => ⟨rfl, rfl⟩) (BP _ _) (by simp) (fun k hk hne => setRow_other _ _ _ _ (fun e => hne (by rw [e]; exact k1))) (fun g h => .inl h)
      (fun hu => .mrow k1 k2 hheap (by rw [hlen]; exact k4) k5 hAs hl.1 (B2 hl fun j v hv => by simpa using hv) k9)
     exact ⟨_, _, _, _, _, _, .inl hrun, hK, R', .tup (fun _ => undef) rfl (by simp) (by simp)⟩
  ·exact h.elim
 ·exact h.elim
theorem My {t t' e : TypeId} {x y : Operand} {x' y' : Opd} {K : AV → AS → Prop} (ho : o.op = .call { callee := .builtin .copy, args := #[x, y], argTypes := #[t, t'] }) (hx : AL C.n x = some x') (hy : AL C.n y = some y') (ht : P.underlying t = some (.slice e)) (hi : (P.info? e).map (·.size) = some 1)
  (R : AQ C σ ι s a w) (h : Kd.go P d s K (.copyP x' y')) : A9 P C o a w K := by
 have rx := R.ev hx
 have ry := R.ev hy
 simp only [Kd.go] at h
 split at h
 ·rename_i id q m id2 u m2 e1 e2
  rw [e1] at rx
  rw [e2] at ry
  replace rx := AW rx
  replace ry := AW ry
  split at h
  ·rename_i e' w' xs hS
   obtain ⟨⟨rfl, hm, hm2, rfl⟩, hK⟩ := h
   subst hm
   subst hm2
   obtain ⟨b, hb1, hb2, hb3⟩ := Fu rx
   rw [hS] at hb1
   cases hb1
   obtain ⟨hqm, hex⟩ := hb3 rfl
   obtain ⟨b, hb1, hb2', hb3'⟩ := Fu ry
   rw [hS] at hb1
   cases hb1
   obtain ⟨hum, hey⟩ := hb3' rfl
   have hb := R.blk _ _ hS
   have hex2 : ∀ v w2, (Builtin.copy_ #[t, t'] o.type #[a.eval x, a.eval y]).run P w = .ok v w2 → (execOp a.eval o).run P w = .ok (.value v) w2 := fun v w2 hr => by
    simp only [execOp, ho, resolve, invoke, builtin, Sem.run_bind, Sem.run_pure, Result.andThen_ok, List.map_toArray, List.map_cons, List.map_nil, hr]
   generalize hN : min (xs.length - u) (xs.length - q) = N at hK
   have hlen : (xs.take q ++ ((xs.drop u).take N ++ xs.drop (q + N))).length = xs.length := by simp; omega
   by_cases h0 : N = 0
   ·subst h0
    have hrun := hex2 (goInt 0) w (by
     rw [hex, hey]
     exact run_copy_none w t t' o.type e _ _ _ _ _ _ ht hi (by show min _ _ = 0; exact hN))
    have hsame : s.set id (.mrow e' 1 (xs.take q ++ ((xs.drop u).take 0 ++ xs.drop (q + 0)))) = s := by
     rw [List.take_zero, List.nil_append, Nat.add_zero, List.take_append_drop]
     obtain ⟨env, S⟩ := s
     simp only [AS.set, AS.mk.injEq, true_and]
     funext k
     unfold AO
     split
     ·rename_i hk; subst hk; exact hS.symm
     ·rfl
    rw [hsame] at hK
    exact ⟨_, _, s, σ, ι, w, .inl hrun, hK, R, .any⟩
   ·cases hb with
    | mnil k1 => simp at hN; omega
    | @mrow _ _ _ g vs k1 k2 k3 k4 k5 k6 k7 k8 k9 =>
     have hcq : ¬ (ι id).cap = q := by omega
     have hcu : ¬ (ι id).cap = u := by omega
     have hlaidAll : A5 σ vs.toList 1 xs := ⟨k7, fun kk x j y hx hy => by
      obtain ⟨v, v1, v2⟩ := k8 kk x j y hx hy
      exact ⟨v, by simpa using v1, v2⟩⟩
     have h1 : A5 σ (vs.toList.take (q * 1)) 1 (xs.take q) := Ei hlaidAll q
     have h2 : A5 σ ((vs.toList.drop (u * 1)).take (N * 1)) 1 ((xs.drop u).take N) := Ei (Fs hlaidAll u) N
     have h3 : A5 σ (vs.toList.drop ((q + N) * 1)) 1 (xs.drop (q + N)) := Fs hlaidAll (q + N)
     simp only [Nat.mul_one] at h1 h2 h3 k6
     have hcl : ((vs.toList.drop u).take N).length = N := by simp; omega
     have hone : ∀ v ∈ (vs.toList.drop u).take N, v.oneCell' = true := fun v hv => by
      obtain ⟨j, hj⟩ := List.getElem?_of_mem hv
      have hjN : j < N := by have := (List.getElem?_eq_some_iff.1 hj).1; omega
      have hxl : j < ((xs.drop u).take N).length := by simp; omega
      have hw1 := h2.1 _ (List.getElem_mem hxl)
      obtain ⟨v', v1, v2⟩ := h2.2 j _ 0 (((xs.drop u).take N)[j][0]'(by omega)) (List.getElem?_eq_getElem hxl) (List.getElem?_eq_getElem (by omega))
      rw [Nat.mul_one, Nat.add_zero, hj] at v1
      cases v1
      exact v2.one
     have hr := run_copy_row (P := P) w t t' o.type e g q (xs.length - q) ((ι id).cap - q) ⟨g, u, none⟩ (xs.length - u) ((ι id).cap - u) vs e' ((vs.toList.drop u).take N) ht hi k3 (by rw [hcl, ← hN]) (fun j v hv => by
      rw [BO]
      rw [List.getElem?_take] at hv
      split at hv
      ·rw [List.getElem?_drop] at hv
       rw [cell_of_row w g _ _ _ _ k3]
       simpa using hv
      ·cases hv) (by rw [hcl]; omega) hone
     rw [hcl] at hr
     generalize hA : (vs.toList.take q ++ (vs.toList.drop u).take N ++ vs.toList.drop (q + N)).toArray = A at hr
     have hrun := hex2 (goInt N) (w.setRow g A) (by
      rw [hex, hey, if_neg hcq, if_neg hcu, k2]
      simp only [Option.map_some, BO, Nat.zero_add, AI.wid, Nat.mul_one]
      exact hr)
     have hheap : (w.setRow g A).heap[g]? = some (.cells A e' (0, 0)) := setRow_heap w _ _ _ _ _ k3
     have hl : A5 σ A.toList 1 (xs.take q ++ ((xs.drop u).take N ++ xs.drop (q + N))) := by
      rw [← hA, List.append_assoc]
      exact h1.append (h2.append h3 (by rw [hcl]; simp; omega)) (by simp; omega)
     have hAs : A.size = (ι id).cap * 1 := by
      rw [← hA]
      simp only [List.size_toArray, List.length_append, List.length_take, List.length_drop, Array.length_toList]
      omega
     obtain ⟨hu, R'⟩ := R.turn (w' := w.setRow g A) hS (.mrow e' 1 (xs.take q ++ ((xs.drop u).take N ++ xs.drop (q + N)))) (ι id) (σ' := σ) (fun _ _ h => h)
      (fun _ _ _ => rfl) (R.fit.row k9 fun k hk => setRow_other _ _ _ _ hk) (by simp only [AI.len, hlen]; exact Nat.le_refl _) (fun _ => ⟨rfl, rfl⟩) (BP _ _) (by simp) (fun k hk hne => setRow_other _ _ _ _ (fun e => hne (by rw [e]; exact k1))) (fun g h => .inl h)
      (fun hu => .mrow k1 k2 hheap (by rw [hlen]; exact k4) k5 hAs hl.1 (B2 hl fun j v hv => by simpa using hv) k9)
     exact ⟨_, _, _, _, _, _, .inl hrun, hK, R', .any⟩
  ·exact h.elim
 ·exact h.elim
theorem H8 {t e : TypeId} {i : TypeInfo} {z : Value} {zs : List SV} {x y : Operand} {x' y' : Opd} {K : AV → AS → Prop} (ho : o.op = .makeSlice t x y) (hx : AL C.n x = some x') (hy : AL C.n y = some y') (ht : P.underlying t = some (.slice e)) (hi : P.info? e = some i) (hz : i.zero = some z) (hzs : Er z.cells.toList = some zs) (hsz : z.cells.size = i.size) (hpos : 0 < i.size)
  (R : AQ C σ ι s a w) (h : Kd.go P d s K (.makeSlice e i.size i.bytes zs x' y')) : A9 P C o a w K := by
 have rx := R.ev hx
 have ry := R.ev hy
 simp only [Kd.go] at h
 split at h
 ·rename_i k m k' n e1 e2
  rw [e1] at rx
  rw [e2] at ry
  obtain ⟨hex, -⟩ := A2 rx
  obtain ⟨hey, -⟩ := A2 ry
  obtain ⟨rfl, h0, h63, hby, hid, hK⟩ := h
  obtain ⟨q, rfl⟩ : ∃ q : Nat, m = q := ⟨m.toNat, by omega⟩
  simp only [Int.toNat_natCast] at hK
  have hr := run_make (P := P) w t e i z ht hi hz k k' (q : Int) (q : Int) (by omega) (Int.le_refl _) (by rw [Int.mul_comm]; omega) h63
  simp only [Int.toNat_natCast] at hr
  have rz := Ed (σ := σ) hzs
  have hzl := rz.len
  have hmax : q ≤ maxLen := by simp only [maxLen]; omega
  obtain ⟨hu, R'⟩ := R.fresh (w' := w.alloc (.cells (madeCells z.cells (q * i.size)) e)) hid (.mrow e i.size (List.replicate q zs)) ⟨some ⟨w.heap.size, 0, none⟩, q, some w.heap.size⟩ (Ext.refl _ _) (R.fit.alloc _) (DN.alloc _ _) (by simp)
   (fun S' ι' hu => .mrow rfl rfl (heap_alloc_new w _) (by simp) hmax (by simp [madeCells]) (fun x hx => by rw [(List.mem_replicate.1 hx).2]; simp at hzl; omega) (fun kk x j y hx hy => by
    obtain ⟨hk1, hk2⟩ := List.getElem?_eq_some_iff.1 hx
    simp only [List.length_replicate] at hk1
    rw [List.getElem_replicate] at hk2
    subst hk2
    have hj : j < i.size := by
     have := (List.getElem?_eq_some_iff.1 hy).1
     simp at hzl
     omega
    obtain ⟨v, v1, v2⟩ := rz.get hy
    refine ⟨v, ?_, v2⟩
    have hlt : kk * i.size + j < q * i.size := by
     have : (kk + 1) * i.size ≤ q * i.size := Nat.mul_le_mul_right _ hk1
     rw [Nat.add_mul] at this
     omega
    have hjz : j < z.cells.size := by omega
    have em : (kk * i.size + j) % z.cells.size = j := by rw [hsz, Nat.mul_comm, Nat.mul_add_mod, Nat.mod_eq_of_lt hj]
    have hv : z.cells[j]? = some v := by simpa using v1
    unfold madeCells
    rw [Array.getElem?_map, Array.getElem?_range, if_pos hlt, Option.map_some, em]
    simp only [Array.getElem!_eq_getD, Array.getD_eq_getD_getElem?, hv, Option.getD_some]) (fun p hp => R.fit.no (by omega)))
  exact ⟨_, _, _, σ, _, _, .inl (by simp only [execOp, ho, hex, hey, Sem.run_bind, hr, Result.andThen_ok]; rfl), hK, R', .one (.row (b := .mrow e i.size (List.replicate q zs)) (by simp [AS.set, AG]) (by simp [AI.len]) rfl fun _ => by simp [AG])⟩
 ·exact h.elim
theorem Ju (R : AQ C σ ι s a w) : ∀ {xs : List Operand} {xs' : List Opd} {cs : List AC}, Be C.n xs = some xs' → s.caps xs' = some cs → Ae (Am σ s.S ι) (xs.map a.eval) cs
 | [], xs', cs, h1, h2 => by
  simp only [Be, Option.some.injEq] at h1
  subst h1
  simp only [AS.caps, Option.some.injEq] at h2
  subst h2
  exact .nil
 | x :: xs, xs', cs, h1, h2 => by
  simp only [Be] at h1
  split at h1
  ·rename_i k1 k2
   cases h1
   simp only [AS.caps] at h2
   split at h2
   ·rename_i e1 e2
    cases h2
    have rx := R.ev k1
    rw [e1] at rx
    exact .cons (AW rx) (Ju R k2 e2)
   ·cases h2
  ·cases h1
theorem Iz {g : FuncId} {first caps : Array Operand} {xs : List Opd} {K : AV → AS → Prop} (ho : o.op = .makeFunc (.func g) first caps) (hf : first.size = 0) (hx : Be C.n caps.toList = some xs) (R : AQ C σ ι s a w) (h : Kd.go P d s K (.makeFunc g xs)) : A9 P C o a w K := by
 simp only [Kd.go] at h
 split at h
 ·rename_i cs e1
  have rc := Ju R hx e1
  have e0 : first = #[] := Array.eq_empty_of_size_eq_zero hf
  subst e0
  have hl := rc.len
  refine AP R (.func (.func g) #[] (caps.map a.eval)) _ (by simp [execOp, ho, Instr.makeFunc]) h (.one (.fn (fun j => ((caps.toList.map a.eval)[j]?).getD undef) (by simpa using hl) (fun j b hb => ?_) (fun j b hb => ?_)))
  ·obtain ⟨v, v1, v2⟩ := rc.get hb
   rw [v1]
   simpa using v1
  ·obtain ⟨v, v1, v2⟩ := rc.get hb
   rw [v1]
   exact v2
 ·exact h.elim
theorem Di {f : FuncId} {vs : List Value} {avs : List AV} {r : AV} {S' : AA} {next : Act → World → Prop} {Q : Exit → Act → World → Prop} (R : AQ C σ ι s a w) (hrun : (execOp a.eval o).run P w = .ok (.enter f vs.toArray) w) (hvs : Ae (AT σ s.S ι) vs avs)
  (h : Ag P f (AV.rens up1 avs) (upS s.S) r S') (hn : ∀ a' w', BG C ((⟨s.env, dnS S'⟩ : AS).put o.dst (r.ren dn1)) a' w' → next a' w') : o.wp P a w next Q := by
 have hup : ∀ i, dn1 (up1 i) = i := KA
 have hS : ∀ i b, s.S i = some b → upS s.S (up1 i) = some (b.ren up1) := fun i b hb => NH hb
 obtain ⟨ι1, hι1⟩ : ∃ ι1 : A0, ∀ i, ι1 i = ι (dn1 i) := ⟨fun i => ι (dn1 i), fun _ => rfl⟩
 have hι : ∀ i b, s.S i = some b → ι1 (up1 i) = ι i := fun i b _ => by rw [hι1, hup]
 have hown : FF σ (upS s.S) ι1 w := by
  refine ⟨fun id b hb => ?_, fun id id' b b' g h1 h2 g1 g2 => ?_⟩
  ·obtain ⟨hle, b', h1, rfl⟩ := Gp hb
   have := Bk.ren (S2 := upS s.S) (ι2 := ι1) (ρ := up1) hS hι (R.blk _ _ h1)
   rw [hι1]
   exact this
  ·obtain ⟨l1, c1, k1, _⟩ := Gp h1
   obtain ⟨l2, c2, k2, _⟩ := Gp h2
   rw [hι1] at g1 g2
   have := R.inj _ _ _ _ g k1 k2 g1 g2
   rw [← Lp l1, ← Lp l2, this]
 have hargs : Ae (AT σ (upS s.S) ι1) vs (AV.rens up1 avs) := by
  rw [AV.rens_eq]
  exact (hvs.mono fun _ _ x => AT.ren (S2 := upS s.S) (ι2 := ι1) (ρ := up1) hS hι x).map_right
 unfold Oper.wp
 rw [hrun, Oper.upon_enter]
 refine (h (M1 _) σ w vs _ (C.glob.mono R.ext) R.fit hown hargs).mono fun e w' he => ?_
 obtain ⟨v, σ', ι', rfl, hclean, hupd, hown', hv, hf', hkeep, hold, hos, hsz, hsame, hbase⟩ := he
 have hSd : ∀ i b, S' i = some b → dnS S' (dn1 i) = some (b.ren dn1) := fun i b hb => NV (hclean i b hb).1 hb
 obtain ⟨ι2, hι2⟩ : ∃ ι2 : A0, ∀ i, ι2 i = ι' (up1 i) := ⟨fun i => ι' (up1 i), fun _ => rfl⟩
 have hιd : ∀ i b, S' i = some b → ι2 (dn1 i) = ι' i := fun i b hb => by
  rw [hι2, Lp (hclean i b hb).1]
 have hu : Upd s.S ι (dnS S') ι2 := fun id b hb => by
  obtain ⟨b', h1, h2, h3⟩ := hupd _ _ (hS id b hb)
  have h4 := hSd _ _ h1
  rw [hup] at h4
  refine ⟨_, h4, by rw [Bi] at h2 ⊢; exact h2, fun hl => ?_⟩
  rw [Bi] at hl
  obtain ⟨q1, q2⟩ := h3 (by rw [Bi]; exact hl)
  refine ⟨by rw [Iv] at q1 ⊢; exact q1, ?_⟩
  rw [hι2, q2, hι1, hup]
 have hnot : ∀ g, g < C.N → ¬ C.G g → Ch (upS s.S) ι1 g := fun g h1 h2 id b hb hg => by
  obtain ⟨_, b', k1, _⟩ := Gp hb
  rw [hι1] at hg
  rcases R.base _ _ g k1 hg with h | h
  ·omega
  ·exact h2 h
 have R' : AQ C σ' ι2 ⟨s.env, dnS S'⟩ a w' := by
  refine ⟨R.size, fun i hi => (R.env i hi).mono hkeep hu, R.nod.mono (fun D h => (hsame D (Array.getElem?_eq_some_iff.1 h).1 (E8 hown.1 h)).trans h), hf', fun id b hb => ?_, fun id id' b b' g h1 h2 g1 g2 => ?_, fun id b g hb hg => ?_, fun p x hx => hkeep _ _ (R.ext p x hx), fun p h1 h2 => ?_, ⟨hos.1.trans R.os.1, hos.2.1.trans R.os.2.1, hos.2.2.trans R.os.2.2⟩, ⟨Nat.le_trans R.grown.1 hsz, Nat.le_trans R.grown.2 hsz⟩, fun g h1 h2 => ?_, R.upd.trans hu⟩
  ·obtain ⟨b', h1, rfl⟩ := Gl hb
   have := Bk.ren (S2 := dnS S') (ι2 := ι2) (ρ := dn1) hSd hιd (hown'.1 _ _ h1)
   rw [hι2]
   exact this
  ·obtain ⟨c1, k1, _⟩ := Gl h1
   obtain ⟨c2, k2, _⟩ := Gl h2
   rw [hι2] at g1 g2
   have := congrArg dn1 (hown'.2 _ _ _ _ g k1 k2 g1 g2)
   rw [hup, hup] at this
   exact this
  ·obtain ⟨b', h1, _⟩ := Gl hb
   rw [hι2] at hg
   rcases hbase _ _ g h1 hg with h2 | h2
   ·exact .inl (by have := R.grown.1; omega)
   ·by_cases hN : g < C.N
    ·by_cases hG : C.G g
     ·exact .inr hG
     ·exact absurd (hnot g hN hG) h2
    ·exact .inl (by omega)
  ·exact (hold p (by have := R.grown.1; omega) (hnot _ h1 h2)).trans (R.old p h1 h2)
  ·exact (hsame g (by have := R.grown.1; omega) (hnot g h1 h2)).trans (R.same g h1 h2)
 exact hn _ _ ⟨σ', _, R'.put (AT.ren (S2 := dnS S') (ι2 := ι2) (ρ := dn1) hSd hιd hv)⟩
theorem MB {f : FuncId} {xs : Array Operand} {ts : Array TypeId} {xs' : List Opd} {d : Nat} {K : AV → AS → Prop} {next : Act → World → Prop} {Q : Exit → Act → World → Prop} (ho : o.op = .call { callee := .value (.func f), args := xs, argTypes := ts }) (hf : CV P f = true) (hx : Be C.n xs.toList = some xs')
  (R : AQ C σ ι s a w) (h : Kd.go P d s K (.callN f xs')) (hn : ∀ av s' a' w', K av s' → BG C (s'.put o.dst av) a' w' → next a' w') : o.wp P a w next Q := by
 simp only [Kd.go] at h
 split at h
 ·rename_i vs e1
  obtain ⟨mu, e, wd, ys, hc, hd, hK⟩ := h
  have rxs := R.evs hx
  have hrun : (execOp a.eval o).run P w = .ok (.enter f (xs.map a.eval)) w := by
   unfold CV at hf
   split at hf
   ·rename_i fn hfn
    simp only [Bool.and_eq_true, Bool.not_eq_true', beq_eq_false_iff_ne, Option.isSome_iff_exists] at hf
    obtain ⟨hname, c, hbody⟩ := hf
    simp [execOp, ho, resolve, Deferred.ofValue, Act.eval, invoke, callFunc, hfn, hname, hbody]
   ·cases hf
  have hvs : Ae (AT σ noS noH) (xs.map a.eval).toList vs := by
   have := rxs
   rw [← Array.toList_map] at this
   have hlen := this.len
   obtain ⟨q1, q2⟩ := AQ.outVs R (cs := s.evs xs') (cs' := vs) (c := fun j => ((xs.map a.eval).toList[j]?).getD undef) (fun j b hb => by
    obtain ⟨v, v1, v2⟩ := this.get hb
    rw [v1]
    exact v2) e1
   refine Ae.of_get (by omega) fun j v b hv hb => ?_
   have := q2 j b hb
   rw [hv] at this
   exact this
  unfold Oper.wp
  rw [hrun, Oper.upon_enter]
  have hno : ∀ g, Ch noS noH g := fun g id b hb => by cases hb
  have hcl : A7 noS := fun i b hb => by cases hb
  have how : FF σ noS noH w := ⟨fun id b hb => (by cases hb), fun id id' b b' g hb => (by cases hb)⟩
  have hcall := hc hcl σ w _ noH (C.glob.mono R.ext) R.fit how hvs
  rw [Array.toArray_toList] at hcall
  refine hcall.mono fun ex w' he => ?_
  obtain ⟨v, σ', ι', rfl, hclean, hupd, hown', hv, hf', hkeep, hold, hos, hsz, hsame, hbase⟩ := he
  have hblk := hown'.1 1000 (F9 mu e wd ys) (by simp)
  obtain ⟨hu, R'⟩ := R.fresh (w' := w') hd (F9 mu e wd ys) (ι' 1000) (σ' := σ') ⟨hkeep, fun p hp => hold p hp (hno _)⟩ hf' ⟨hos.1, hos.2.1, hos.2.2, hsz, fun g hg => hsame g hg (hno _)⟩ (fun g hg => by
   rcases hbase 1000 (F9 mu e wd ys) g (by simp) hg with h1 | h1
   ·exact h1
   ·exact absurd (hno g) h1) (fun S2 ι2 _ => by
   cases mu with
   | false =>
    cases hblk with
    | afull h1 h2 h3 h4 => exact .afull h1 h2 h3 h4
    | arow h1 h2 h3 h4 h5 h6 h7 h8 h9 hh => exact .arow h1 h2 h3 h4 h5 h6 h7 h8 h9 hh
   | true =>
    cases hblk with
    | mnil h1 h2 => exact .mnil h1 h2
    | mrow h1 h2 h3 h4 h5 h6 h7 h8 h9 => exact .mrow h1 h2 h3 h4 h5 h6 h7 h8 h9)
  refine hn _ _ _ _ hK ⟨σ', _, R'.put ?_⟩
  cases hv with
  | one hv =>
   cases hv with
   | row k1 k2 k3 k4 =>
    simp only [if_true, Option.some.injEq] at k1
    subst k1
    exact .one (.row (b := F9 mu e wd ys) (by simp [AS.set, AG]) (by cases mu <;> exact Nat.le_refl _) k3 (fun hl => by rw [AG]; exact k4 hl))
 ·exact h.elim
theorem DI {f : FuncId} {args : Array Value} (hf : CV P f = true) : (callFunc f args).run P w = .ok (.enter f args) w := by
 unfold CV at hf
 split at hf
 ·rename_i fn hfn
  simp only [Bool.and_eq_true, Bool.not_eq_true', beq_eq_false_iff_ne, Option.isSome_iff_exists] at hf
  obtain ⟨hname, c, hbody⟩ := hf
  simp [callFunc, hfn, hname, hbody]
 ·cases hf
theorem IZ {f : FuncId} {xs : Array Operand} {ts : Array TypeId} {xs' : List Opd} {K : AV → AS → Prop} {next : Act → World → Prop} {Q : Exit → Act → World → Prop} (ho : o.op = .call { callee := .value (.func f), args := xs, argTypes := ts }) (hf : CV P f = true) (hx : Be C.n xs.toList = some xs')
  (R : AQ C σ ι s a w) (h : Kd.go P d s K (.callS f xs')) (hn : ∀ av s' a' w', K av s' → BG C (s'.put o.dst av) a' w' → next a' w') : o.wp P a w next Q := by
 simp only [Kd.go] at h
 obtain ⟨r, S', hc, hK⟩ := h
 refine Di (vs := xs.toList.map a.eval) R ?_ (R.evs hx) hc fun a' w' hH => hn _ _ _ _ hK hH
 have := DI (P := P) (w := w) (args := xs.map a.eval) hf
 have e : (xs.toList.map a.eval).toArray = xs.map a.eval := by rw [← Array.toList_map, Array.toArray_toList]
 rw [e]
 simp [execOp, ho, resolve, Deferred.ofValue, Act.eval, invoke, this]
theorem MW {f : FuncId} {xs : Array Operand} {ts : Array TypeId} {xs' : List Opd} {K : AV → AS → Prop} {next : Act → World → Prop} {Q : Exit → Act → World → Prop} (ho : o.op = .call { callee := .value (.func f), args := xs, argTypes := ts }) (hf : CV P f = true) (hx : Be C.n xs.toList = some xs')
  (R : AQ C σ ι s a w) (h : Kd.go P d s K (.callR f xs')) (hn : ∀ av s' a' w', K av s' → BG C (s'.put o.dst av) a' w' → next a' w') : o.wp P a w next Q := by
 simp only [Kd.go] at h
 obtain ⟨r, rows, h0, hc, hK⟩ := h
 refine Di (vs := xs.toList.map a.eval) R ?_ (R.evs hx) (hc s.S h0) fun a' w' hH => hn _ s _ _ hK (by rw [K5] at hH; exact hH)
 have := DI (P := P) (w := w) (args := xs.map a.eval) hf
 have e : (xs.toList.map a.eval).toArray = xs.map a.eval := by rw [← Array.toList_map, Array.toArray_toList]
 rw [e]
 simp [execOp, ho, resolve, Deferred.ofValue, Act.eval, invoke, this]
theorem MR {f : FuncId} {xs : Array Operand} {ts : Array TypeId} {xs' : List Opd} {K : AV → AS → Prop} {next : Act → World → Prop} {Q : Exit → Act → World → Prop} (ho : o.op = .call { callee := .value (.func f), args := xs, argTypes := ts }) (hf : CV P f = true) (hx : Be C.n xs.toList = some xs')
  (R : AQ C σ ι s a w) (h : Kd.go P d s K (.callW f xs')) (hn : ∀ av s' a' w', K av s' → BG C (s'.put o.dst av) a' w' → next a' w') : o.wp P a w next Q := by
 simp only [Kd.go] at h
 obtain ⟨r, rows, h0, hc, hK⟩ := h
 refine Di (vs := xs.toList.map a.eval) R ?_ (R.evs hx) (hc s.S h0) fun a' w' hH => hn _ _ _ _ hK (by rw [K5] at hH; exact hH)
 have := DI (P := P) (w := w) (args := xs.map a.eval) hf
 have e : (xs.toList.map a.eval).toArray = xs.map a.eval := by rw [← Array.toList_map, Array.toArray_toList]
 rw [e]
 simp [execOp, ho, resolve, Deferred.ofValue, Act.eval, invoke, this]
theorem MY {f : FuncId} {xs : Array Operand} {ts : Array TypeId} {xs' : List Opd} {K : AV → AS → Prop} {next : Act → World → Prop} {Q : Exit → Act → World → Prop} (ho : o.op = .call { callee := .value (.func f), args := xs, argTypes := ts }) (hf : CV P f = true) (hx : Be C.n xs.toList = some xs')
  (R : AQ C σ ι s a w) (h : Kd.go P d s K (.callX f xs')) (hn : ∀ av s' a' w', K av s' → BG C (s'.put o.dst av) a' w' → next a' w') : o.wp P a w next Q := by
 simp only [Kd.go] at h
 obtain ⟨T, Post, hT, hST, hh, hc, hK⟩ := h
 have hrun : (execOp a.eval o).run P w = .ok (.enter f (xs.map a.eval)) w := by
  have := DI (P := P) (w := w) (args := xs.map a.eval) hf
  simp [execOp, ho, resolve, Deferred.ofValue, Act.eval, invoke, this]
 unfold Oper.wp
 rw [hrun, Oper.upon_enter]
 have e : (xs.toList.map a.eval).toArray = xs.map a.eval := by rw [← Array.toList_map, Array.toArray_toList]
 rw [← e]
 refine (hc hT σ w _ ι (C.glob.mono R.ext) R.fit (R.ownT hST hT) (R.argsT hST hh (R.evs hx))).mono fun e w' he => ?_
 obtain ⟨v, r, S', σ', ι2, rfl, hP, hS', R', hv⟩ := R.join hST hT he
 exact hn _ _ _ _ (hK r S' hS' hP) ⟨σ', ι2, R'.put hv⟩
theorem MH {t : Nat} {xs : Array Operand} {ts : Array TypeId} {f' : Opd} {xs' : List Opd} {K : AV → AS → Prop} {next : Act → World → Prop} {Q : Exit → Act → World → Prop} (ho : o.op = .call { callee := .value (.tmp t), args := xs, argTypes := ts }) (hf : AL C.n (.tmp t) = some f') (hx : Be C.n xs.toList = some xs')
  (R : AQ C σ ι s a w) (h : Kd.go P d s K (.callY f' xs')) (hn : ∀ av s' a' w', K av s' → BG C (s'.put o.dst av) a' w' → next a' w') : o.wpIn (fen C.ro) 0 P a w next Q := by
 have rf := R.ev hf
 simp only [Kd.go] at h
 obtain ⟨T, Post, hT, hST, hh, hc, hK⟩ := h
 rw [Bool.and_eq_true] at hh
 have e : (xs.toList.map a.eval).toArray = xs.map a.eval := by rw [← Array.toList_map, Array.toArray_toList]
 obtain ⟨l, hl, hy⟩ := hc hT σ w _ _ ι (C.glob.mono R.ext) R.fit (R.ownT hST hT) (rf.low (fun i b hi hb => by rw [← hST i hi]; exact hb) hh.1) (R.argsT hST hh.2 (R.evs hx))
 obtain ⟨fn, tmps, assign, body, hrun, hR⟩ := hy C.ro
 rw [e] at hrun
 refine ⟨fun _ _ => trivial, ?_⟩
 rw [Oper.semAt_eq _ _ _ (fun c e => by rw [e] at ho; cases ho)]
 have hev' : a.tmps.getD t undef = .func (.yield l) #[] #[] := hl
 have hrun' : (execOp a.eval o).run P w = .ok (.round l fn tmps assign body) w := by
  simp only [execOp, ho, resolve, Act.eval, hev', Deferred.ofValue, invoke, Sem.run_bind, Sem.run_pure, Result.andThen_ok]
  rw [show (#[] ++ Array.map a.eval xs) = xs.map a.eval by simp]
  exact hrun
 rw [hrun']
 refine ⟨fun h => by simp [fen, Fence.wide] at h, hR.mono fun e w' he => ?_⟩
 obtain ⟨v, r, S', σ', ι2, rfl, hP, hS', R', hv⟩ := R.join hST hT he
 exact hn _ _ _ _ (hK r S' hS' hP) ⟨σ', ι2, R'.put hv⟩
theorem NB {S : AA} {v : Value} {av : AV} {g : Nat} {caps : List AC} (h : AT σ S ι v av) (e : av.fnOf = some (g, caps)) : ∃ vs, v = .func (.func g) #[] vs ∧ Ae (AT σ S ι) vs.toList (caps.map .one) := by
 unfold AV.fnOf at e
 split at e
 ·cases e
  have rf := AW h
  cases rf with
  | @fn _ vs _ c h1 h2 h3 =>
   exact ⟨vs, rfl, (Ae.of_get (R := fun v c => AT σ S ι v (.one c)) (by simpa using h1) fun j v b hv hb => by
    have e := h2 j b hb
    have e2 : vs.toList[j]? = some (c j) := by simpa using e
    rw [hv] at e2
    cases e2
    exact .one (h3 j b hb)).map_right⟩
 ·cases e
  have rf := AW h
  cases rf with
  | st hs =>
   obtain ⟨vs, rfl, hv⟩ := Nz hs
   exact ⟨vs, rfl, ((hv S ι).mono fun _ _ x => AT.one x).map_right⟩
 ·split at e
  ·rename_i hab
   cases e
   have rf := AW h
   cases rf with
   | st hs =>
    cases hs
    rw [Array.eq_empty_of_size_eq_zero hab.1, Array.eq_empty_of_size_eq_zero hab.2]
    exact ⟨#[], rfl, .nil⟩
  ·cases e
 ·cases e
theorem MP {t : Nat} {xs : Array Operand} {ts : Array TypeId} {f' : Opd} {xs' : List Opd} {K : AV → AS → Prop} {next : Act → World → Prop} {Q : Exit → Act → World → Prop} (ho : o.op = .call { callee := .value (.tmp t), args := xs, argTypes := ts }) (hf : AL C.n (.tmp t) = some f') (hx : Be C.n xs.toList = some xs')
  (R : AQ C σ ι s a w) (h : Kd.go P d s K (.callV f' xs')) (hn : ∀ av s' a' w', K av s' → BG C (s'.put o.dst av) a' w' → next a' w') : o.wp P a w next Q := by
 have rf := R.ev hf
 simp only [Kd.go] at h
 split at h
 ·rename_i g caps e1
  obtain ⟨hp, r, S', hc, hK⟩ := h
  obtain ⟨vs, hev, hcaps⟩ := NB rf e1
  refine Di (vs := xs.toList.map a.eval ++ vs.toList) R ?_ ((R.evs hx).append hcaps) hc fun a' w' hH => hn _ _ _ _ hK hH
  have := DI (P := P) (w := w) (args := xs.map a.eval ++ vs) hp
  have hev' : a.tmps.getD t undef = .func (.func g) #[] vs := hev
  simp only [execOp, ho, resolve, hev, Deferred.ofValue, invoke, Sem.run_bind, Sem.run_pure, Result.andThen_ok]
  rw [show (#[] ++ Array.map a.eval xs ++ vs) = xs.map a.eval ++ vs by simp, this]
  congr 1
  simp
 ·exact h.elim
theorem MX {mu : List Nat} {k : Kd} (htr : A8 P C.n mu o.dst o.op = some k) {K : AV → AS → Prop} {next : Act → World → Prop} {Q : Exit → Act → World → Prop} (R : AQ C σ ι s a w) (h : Kd.go P d s K k) (hn : ∀ av s' a' w', K av s' → BG C (s'.put o.dst av) a' w' → next a' w') : o.wp P a w next Q := by
 have fin : A9 P C o a w K → o.wp P a w next Q := fun hg => hg.wp fun av s' σ' ι' a' w' hk R' => hn _ _ _ _ hk ⟨σ', ι', R'⟩
 cases ho : o.op with
 | move x =>
  rw [ho] at htr
  simp only [A8, Option.map_eq_some_iff] at htr
  obtain ⟨x', hx, rfl⟩ := htr
  exact fin (L5 (.inl ho) hx R h)
 | assign x =>
  rw [ho] at htr
  simp only [A8, Option.map_eq_some_iff] at htr
  obtain ⟨x', hx, rfl⟩ := htr
  exact fin (L5 (.inr ho) hx R h)
 | pick c x y =>
  rw [ho] at htr
  simp only [A8] at htr
  split at htr
  ·cases htr
   rename_i e1 e2 e3
   exact fin (NZ ho e1 e2 e3 R h)
  ·cases htr
 | alloc e =>
  rw [ho] at htr
  simp only [A8] at htr
  split at htr
  ·rename_i i e1
   split at htr
   ·rename_i z e2
    rw [Option.map_eq_some_iff] at htr
    obtain ⟨cs, hcs, rfl⟩ := htr
    exact fin (Mq ho e1 e2 hcs R h)
   ·cases htr
  ·cases htr
 | box e x =>
  rw [ho] at htr
  simp only [A8, Option.map_eq_some_iff] at htr
  obtain ⟨x', hx, rfl⟩ := htr
  exact fin (Ow ho hx R h)
 | build t ps =>
  rw [ho] at htr
  simp only [A8] at htr
  split at htr
  ·rename_i it fs e1 e2
   split at htr
   ·rename_i z places e3 e4
    split at htr
    ·rename_i ps' cs e5 e6
     cases htr
     exact fin (Mo ho e1 e3 e2 e4 e5 e6 R h)
    ·cases htr
   ·cases htr
  ·cases htr
 | buildSlice t len ps =>
  rw [ho] at htr
  simp only [A8] at htr
  split at htr
  ·rename_i e e1
   split at htr
   ·rename_i ie e2
    split at htr
    ·rename_i z xs e3 e4
     split at htr
     ·rename_i hc
      split at htr
      all_goals
       split at htr
       ·rename_i hp
        cases htr
        simp only [Bool.and_eq_true, beq_iff_eq] at hp
        have h' := Oa (e := e) h
        rw [← hp.1.2] at h'
        exact fin (EK ho e1 e2 e3 hc.1 hc.2.1 hc.2.2 e4 R h')
       ·cases htr
        exact fin (EK ho e1 e2 e3 hc.1 hc.2.1 hc.2.2 e4 R h)
     ·cases htr
    ·cases htr
   ·cases htr
  ·cases htr
 | load t x =>
  rw [ho] at htr
  simp only [A8] at htr
  split at htr
  ·rename_i g kk x' e1 e2
   cases htr
   obtain ⟨dd, i, q1, q2, q3, q4⟩ := E1 e1
   exact fin (Na ho e2 q1 q2 g q3 kk q4 R h)
  ·cases htr
 | store t x v =>
  rw [ho] at htr
  simp only [A8] at htr
  split at htr
  ·rename_i e1 e2 e3
   cases htr
   exact fin (MG ho e2 e3 e1 R h)
  ·cases htr
 | fieldAddr t x f =>
  rw [ho] at htr
  simp only [A8] at htr
  split at htr
  ·rename_i fs x' e1 e2
   split at htr
   ·rename_i fd e3
    split at htr
    ·rename_i i e4
     split at htr
     ·rename_i hz
      cases htr
      exact fin (H7 ho e2 e1 e3 e4 hz R h)
     ·cases htr
    ·cases htr
   ·cases htr
  ·cases htr
 | field t x f =>
  rw [ho] at htr
  simp only [A8] at htr
  split at htr
  ·rename_i fs x' e1 e2
   split at htr
   ·rename_i fd e3
    split at htr
    ·rename_i g kk e4
     cases htr
     obtain ⟨dd, i, q1, q2, q3, q4⟩ := E1 e4
     exact fin (Ml ho e2 e1 e3 q1 q2 g q3 kk q4 R h)
    ·cases htr
   ·cases htr
  ·cases htr
 | indexAddr t x y =>
  rw [ho] at htr
  simp only [A8] at htr
  split at htr
  ·rename_i e x' y' e1 e2 e3
   split at htr
   ·rename_i i e4
    split at htr
    ·cases htr
     exact fin (K4 ho e2 e3 e1 e4 R h)
    ·cases htr
     exact fin (Hw ho e2 e3 e1 e4 R h)
   ·cases htr
  ·rename_i len e x' y' e1 e2 e3
   split at htr
   ·rename_i i e4
    cases htr
    exact fin (I2 ho e2 e3 e1 e4 R h)
   ·cases htr
  ·cases htr
 | index t x y =>
  rw [ho] at htr
  simp only [A8] at htr
  split at htr
  ·rename_i e1 e2 e3
   cases htr
   exact fin (I7 ho e2 e3 e1 R h)
  ·cases htr
 | binOp op t x y t' =>
  rw [ho] at htr
  simp only [A8] at htr
  split at htr
  ·rename_i x' y' e1 e2
   split at htr
   ·rename_i e3
    cases htr
    exact fin (L0 (neg := false) ho e1 e2 e3 R h)
   ·rename_i e3
    cases htr
    exact fin (L0 (neg := true) ho e1 e2 e3 R h)
   ·rename_i e3
    cases htr
    exact fin (Lq (neg := false) ho e1 e3 R h)
   ·rename_i e3
    cases htr
    exact fin (Lq (neg := true) ho e1 e3 R h)
   ·rename_i e3
    cases htr
    exact fin (Lj (neg := false) ho e1 e3 R h)
   ·rename_i e3
    cases htr
    exact fin (Lj (neg := true) ho e1 e3 R h)
   ·rename_i e3
    cases htr
    exact fin (L1 (neg := false) ho e1 e3 R h)
   ·rename_i e3
    cases htr
    exact fin (L1 (neg := true) ho e1 e3 R h)
   ·cases htr
    exact fin (FC ho e1 e2 R h)
   ·cases htr
    exact fin (FC ho e1 e2 R h)
   ·cases htr
    exact fin (FC ho e1 e2 R h)
   ·split at htr
    ·cases htr
     exact fin (FC ho e1 e2 R h)
    ·cases htr
     exact fin (Lc ho e1 e2 R h)
   ·cases htr
    exact fin (Lc ho e1 e2 R h)
  ·cases htr
 | unOp op t x =>
  rw [ho] at htr
  simp only [A8, Option.map_eq_some_iff] at htr
  obtain ⟨x', hx, rfl⟩ := htr
  exact fin (PU ho hx R h)
 | convert src dst x =>
  rw [ho] at htr
  simp only [A8] at htr
  split at htr
  ·rename_i e1 e2 e3
   cases htr
   exact fin (Nl ho e3 (by rw [e1]; rfl) e2 R h)
  ·rename_i e1 e2 e3
   split at htr
   ·rename_i e4
    cases htr
    exact fin (MS ho e3 e1 e4 e2 R h)
   ·cases htr
  ·rename_i e1 e2 e3
   cases htr
   exact fin (OT ho e3 e1 e2 R h)
  ·cases htr
 | slice t x lo hi mx =>
  rw [ho] at htr
  cases mx with
  | some m =>
   cases lo with
   | some _ => simp [A8] at htr
   | none =>
   cases hi with
   | none => simp [A8] at htr
   | some hi =>
   simp only [A8] at htr
   split at htr
   ·rename_i e1 e2 e3 e4
    rw [Option.map_eq_some_iff] at htr
    obtain ⟨i, e5, rfl⟩ := htr
    exact fin (LR ho e2 e3 e4 e1 e5 R h)
   ·cases htr
  | none =>
  simp only [A8] at htr
  split at htr
  ·rename_i e1 e2 e3 e4
   cases htr
   exact fin (K_ ho e2 e3 e4 e1 R h)
  ·rename_i e1 e2 e3 e4
   split at htr
   ·rename_i i e5
    split at htr
    ·split at htr
     ·cases htr
      exact fin (OR ho e2 e3 e4 e1 e5 R h)
     ·cases htr
      exact fin (Mt ho e2 e3 e4 e1 e5 R h)
     ·cases htr
    ·cases htr
     exact fin (Ku ho e2 e3 e4 e1 e5 R h)
   ·cases htr
  ·cases htr
 | extract x i =>
  rw [ho] at htr
  simp only [A8, Option.map_eq_some_iff] at htr
  obtain ⟨x', hx, rfl⟩ := htr
  exact fin (Ka ho hx R h)
 | nilCheck x =>
  rw [ho] at htr
  simp only [A8, Option.map_eq_some_iff] at htr
  obtain ⟨x', hx, rfl⟩ := htr
  exact fin (JM ho hx R h)
 | call c =>
  rw [ho] at htr
  obtain ⟨callee, args, argTypes⟩ := c
  simp only [A8, M6] at htr
  split at htr
  ·split at htr
   ·rename_i x t e1 e2
    have e1' : args = #[x] := Array.ext' e1
    have e2' : argTypes = #[t] := Array.ext' e2
    subst e1' e2'
    split at htr
    ·rename_i e3 e4
     cases htr
     exact fin (Lh (str := true) ho e3 e4 R h)
    ·rename_i e3 e4
     cases htr
     exact fin (Lh (str := false) ho e3 ⟨_, e4⟩ R h)
    ·rename_i e3 e4
     cases htr
     exact fin (NS ho e3 e4 R h)
    ·cases htr
   ·cases htr
  ·split at htr
   ·rename_i x y t t' e1 e2
    have e1' : args = #[x, y] := Array.ext' e1
    have e2' : argTypes = #[t, t'] := Array.ext' e2
    subst e1' e2'
    split at htr
    ·rename_i e e3 e4 e5
     split at htr
     ·rename_i i e6
      split at htr
      ·rename_i z e7
       split at htr
       ·rename_i hc
        obtain ⟨rfl, hz, hp⟩ := hc
        split at htr
        ·cases htr
         exact fin (Nu ho e3 e4 e5 e6 e7 hz hp R h)
        cases htr
        exact fin (Kw ho e3 e4 e5 e6 e7 hz hp R h)
       ·split at htr
        ·rename_i hc
         obtain ⟨hu, hz, hp, h8⟩ := hc
         cases htr
         exact fin (OD ho e3 e4 e5 (LX hu) e6 (by rw [e7, OJ h8]) hz hp R h)
        ·cases htr
      ·cases htr
     ·cases htr
    ·cases htr
   ·cases htr
  ·split at htr
   ·rename_i x t e1 e2
    have e1' : args = #[x] := Array.ext' e1
    have e2' : argTypes = #[t] := Array.ext' e2
    subst e1' e2'
    split at htr
    ·rename_i e e3 e4
     split at htr
     ·rename_i i e5
      split at htr
      ·rename_i z e6
       split at htr
       ·rename_i zs e7
        split at htr
        ·rename_i hc
         cases htr
         exact fin (Kx ho e3 e4 e5 e6 e7 hc.1 hc.2 R h)
        ·cases htr
       ·cases htr
      ·cases htr
     ·cases htr
    ·cases htr
   ·cases htr
  ·split at htr
   ·rename_i x y t t' e1 e2
    have e1' : args = #[x, y] := Array.ext' e1
    have e2' : argTypes = #[t, t'] := Array.ext' e2
    subst e1' e2'
    split at htr
    ·rename_i e e3 e4 e5
     split at htr
     ·rename_i hc
      cases htr
      exact fin (My ho e3 e4 e5 hc R h)
     ·cases htr
      exact False.elim h
    ·cases htr
     exact False.elim h
   ·cases htr
    exact False.elim h
  ·split at htr
   ·rename_i x y e1
    have e1' : args = #[x, y] := Array.ext' e1
    subst e1'
    split at htr
    ·rename_i e3 e4
     cases htr
     exact fin (Np (mx := false) ho e3 e4 R h)
    ·cases htr
   ·cases htr
  ·split at htr
   ·rename_i x y e1
    have e1' : args = #[x, y] := Array.ext' e1
    subst e1'
    split at htr
    ·rename_i e3 e4
     cases htr
     exact fin (Np (mx := true) ho e3 e4 R h)
    ·cases htr
   ·cases htr
  ·rename_i f
   split at htr
   ·rename_i hf
    rw [Option.map_eq_some_iff] at htr
    obtain ⟨xs', hx, htr⟩ := htr
    split at htr
    ·split at htr
     ·subst htr
      exact IZ ho hf hx R h hn
     ·split at htr
      ·subst htr
       exact MB ho hf hx R h hn
      ·split at htr
       ·subst htr
        exact MW ho hf hx R h hn
       ·split at htr
        ·subst htr
         exact MR ho hf hx R h hn
        ·split at htr
         ·subst htr
          exact MY ho hf hx R h hn
         ·subst htr
          exact NL ho hf hx R h hn
    ·subst htr
     exact IZ ho hf hx R h hn
   ·cases htr
  ·split at htr
   ·rename_i e3 e4
    split at htr
    ·cases htr
    ·cases htr
     exact MP ho e3 e4 R h hn
   ·cases htr
  ·cases htr
 | makeSlice t x y =>
  rw [ho] at htr
  simp only [A8] at htr
  split at htr
  ·rename_i e x' y' e1 e2 e3
   split at htr
   ·rename_i i e4
    split at htr
    ·rename_i z e5
     split at htr
     ·rename_i zs e6
      split at htr
      ·rename_i hc
       cases htr
       exact fin (H8 ho e2 e3 e1 e4 e5 e6 hc.1 hc.2 R h)
      ·cases htr
     ·cases htr
    ·cases htr
   ·cases htr
  ·cases htr
 | makeMap t rs =>
  rw [ho] at htr
  cases rs with
  | none =>
   simp only [A8, Option.map_eq_some_iff] at htr
   obtain ⟨⟨e, kt⟩, hx, rfl⟩ := htr
   exact fin (KC ho R h)
  | some _ => simp [A8] at htr
 | lookup t x k ok =>
  rw [ho] at htr
  simp only [A8] at htr
  split at htr
  ·rename_i e kt x' k' e1 e2 e3
   rw [Option.map_eq_some_iff] at htr
   obtain ⟨z, hz, rfl⟩ := htr
   obtain ⟨kk, m1, m2⟩ := Ek e1
   obtain ⟨i, zz, z1, z2, z3⟩ := Hl hz
   exact fin (K7 ho e2 e3 m1 m2 z1 z2 z3 R h)
  ·cases htr
 | mapUpdate t x k v =>
  rw [ho] at htr
  simp only [A8] at htr
  split at htr
  ·rename_i e kt x' k' v' e1 e2 e3 e4
   cases htr
   obtain ⟨kk, m1, m2⟩ := Ek e1
   exact fin (G1 (.inl ho) e2 e3 e4 m1 m2 R h)
  ·cases htr
 | insert t x k v =>
  rw [ho] at htr
  simp only [A8] at htr
  split at htr
  ·rename_i e kt x' k' v' e1 e2 e3 e4
   cases htr
   obtain ⟨kk, m1, m2⟩ := Ek e1
   exact fin (G1 (.inr ho) e2 e3 e4 m1 m2 R h)
  ·cases htr
 | mapEntry t x k =>
  rw [ho] at htr
  simp only [A8] at htr
  split at htr
  ·rename_i e kt x' k' e1 e2 e3
   rw [Option.map_eq_some_iff] at htr
   obtain ⟨z, hz, rfl⟩ := htr
   obtain ⟨kk, m1, m2⟩ := Ek e1
   obtain ⟨i, zz, z1, z2, z3⟩ := Hl hz
   exact fin (I3 ho e2 e3 m1 m2 z1 z2 z3 R h)
  ·cases htr
 | entryStore t x k v =>
  rw [ho] at htr
  simp only [A8] at htr
  split at htr
  ·rename_i x' k' v' e1 e2 e3
   cases htr
   exact fin (JH ho e1 e2 e3 R h)
  ·cases htr
 | range t x =>
  rw [ho] at htr
  simp only [A8] at htr
  split at htr
  ·rename_i x' e1 e2
   cases htr
   exact fin (LW ho e2 e1 R h)
  ·cases htr
 | next x b =>
  rw [ho] at htr
  cases b with
  | false =>
   simp only [A8, Option.map_eq_some_iff] at htr
   obtain ⟨x', hx, rfl⟩ := htr
   exact fin (NT ho hx R h)
  | true => simp [A8] at htr
 | entry x =>
  rw [ho] at htr
  simp only [A8, Option.map_eq_some_iff] at htr
  obtain ⟨x', hx, rfl⟩ := htr
  exact fin (Mc ho hx R h)
 | makeInterface t x =>
  rw [ho] at htr
  simp only [A8] at htr
  split at htr
  ·rename_i e1 e2
   cases htr
   exact fin (MF ho e2 e1 R h)
  ·cases htr
 | makeFunc fn first caps =>
  rw [ho] at htr
  cases fn with
  | func g =>
   simp only [A8] at htr
   split at htr
   ·rename_i hf
    rw [Option.map_eq_some_iff] at htr
    obtain ⟨xs, hx, rfl⟩ := htr
    exact fin (Iz ho hf hx R h)
   ·cases htr
  | _ => simp [A8] at htr
 | _ => rw [ho] at htr; simp [A8] at htr
theorem Mi {k : Kd} (htr : Kz P C.n o.op = some k) {K : AV → AS → Prop} {next : Act → World → Prop} {Q : Exit → Act → World → Prop} (R : AQ C σ ι s a w) (h : Kd.go P d s K k) (hn : ∀ av s' a' w', K av s' → BG C (s'.put o.dst av) a' w' → next a' w') : o.wp P a w next Q := by cases htr
theorem Nt {mu : List Nat} {k : Kd} (htr : PX P C.n mu o.dst o.op = some k) {K : AV → AS → Prop} {next : Act → World → Prop} {Q : Exit → Act → World → Prop} (R : AQ C σ ι s a w) (h : Kd.go P d s K k) (hn : ∀ av s' a' w', K av s' → BG C (s'.put o.dst av) a' w' → next a' w') : o.wpIn (fen C.ro) 0 P a w next Q := by
 unfold PX at htr
 split at htr
 ·rename_i k' hk
  cases htr
  refine G0 (fun c e => by rw [e] at hk; simp [A8] at hk) (MX hk R (LB h) fun av s' a' w' hK hH => ?_)
  rcases hK with hK | ⟨v', ho, hK⟩
  ·exact hn _ _ _ _ hK hH
  ·refine hn _ _ _ _ hK ?_
   obtain ⟨σ', ι', R'⟩ := hH
   cases hd : o.dst with
   | none => rw [hd] at R'; exact ⟨σ', ι', R'⟩
   | some t =>
    rw [hd] at R'
    refine ⟨σ', ι', { R' with env := fun i hi => ?_ }⟩
    have hR := R'.env i hi
    by_cases e : i = t
    ·subst e
     have e1 : (s'.put (some i) av).env i = av := AG _ _ _
     have e2 : (s'.put (some i) v').env i = v' := AG _ _ _
     rw [e1] at hR
     rw [e2]
     exact (R'.outV hR ho).mono (fun _ _ h => h) (FI _ _)
    ·have e1 : (s'.put (some t) av).env i = s'.env i := AU _ e _
     have e2 : (s'.put (some t) v').env i = s'.env i := AU _ e _
     rw [e1] at hR
     rw [e2]
     exact hR
 ·split at htr
  ·rename_i k' hk
   cases htr
   exact G0 (fun c e => by rw [e] at hk; simp [Kz] at hk) (Mi hk R h hn)
  ·split at htr
   ·rw [Option.map_eq_some_iff] at htr
    obtain ⟨x', hx, rfl⟩ := htr
    exact (show False from h).elim
   ·rename_i c ho
    split at htr
    ·rename_i t hcal
     split at htr
     ·rename_i f' xs e1 e2
      cases htr
      obtain ⟨cal, args, tys⟩ := c
      dsimp only at hcal
      subst hcal
      exact MH ho e1 e2 R h hn
     ·cases htr
      exact (show False from h).elim
    ·cases htr
     exact (show False from h).elim
   ·cases htr
    exact (show False from h).elim
end

section
variable {P : Program} {C : Ctx} {a : Act} {w : World} {σ : Sto} {ι : A0} {s : AS} {Q : Exit → Act → World → Prop}
theorem NN {v : Value} (h : AT σ s.S ι v (.tup [])) : v = .tuple #[] := by
 cases h with
 | @tup vs _ c h1 =>
  have e : vs = #[] := Array.eq_empty_of_size_eq_zero (by simpa using h1)
  rw [e]
theorem IN {mu : List Nat} {ops : Array Oper} {i : Nat} {o : Oper} {k k' : Ins} (hi : ops[i]? = some o) (htr : KT P C.n mu ops.toList o = some k) (hk' : k'.dst = k.dst ∧ k'.guard = k.guard ∧ k'.kd = k.kd) {K : AS → Prop} {next : Act → World → Prop} (R : AQ C σ ι s a w) (h : k'.go P s K) (hn : ∀ s' a' w', K s' → BG C s' a' w' → next a' w') :
  wpOpIn (fen C.ro) 0 P ops Q i next a w := by
 unfold KT at htr
 split at htr
 ·rename_i g kd e1 e2
  cases htr
  obtain ⟨dst', g', kd', tag'⟩ := k'
  obtain ⟨hk1, hk2, hk3⟩ := hk'
  dsimp only at hk1 hk2 hk3
  subst hk1 hk2 hk3
  unfold wpOpIn
  rw [hi]
  dsimp only
  have body : ∀ {K' : AV → AS → Prop}, kd'.goT P (o.dst.getD 0) s tag' K' → (∀ av s', K' av s' → K (s'.put o.dst av)) → o.wpIn (fen C.ro) 0 P a w next Q := fun hk hK' => Nt e2 R (PG hk) fun av s' a' w' hav hH => hn _ _ _ (hK' _ _ hav) hH
  unfold Ins.go at h
  dsimp only at h
  cases hg : o.guard with
  | none =>
   rw [hg] at e1
   simp only [JN, Option.some.injEq] at e1
   subst e1
   rw [if_pos (by simp [Region.wanted, hg])]
   exact body h fun _ _ hk => hk
  | some jw =>
   obtain ⟨j, want⟩ := jw
   rw [hg] at e1
   simp only [JN] at e1
   split at e1
   ·rename_i oj hoj
    split at e1
    ·rename_i t ht
     split at e1
     ·rename_i hlt
      cases e1
      dsimp only at h
      have hoj' : ops[j]? = some oj := by simpa using hoj
      have rt := R.env t hlt
      have hsz : t < a.tmps.size := Nat.lt_of_lt_of_le hlt R.size
      have hy : ∀ b, a.tmps.getD t undef = .bool b → yielded ops a.tmps j = some b := fun b hb => by
       unfold yielded
       rw [hoj']
       simp only [Option.bind_some, ht]
       rw [Array.getD_eq_getD_getElem?, Array.getElem?_eq_getElem hsz] at hb
       rw [Array.getElem?_eq_getElem hsz]
       simp only [Option.getD_some] at hb
       rw [hb]
      split at h
      ·rename_i b e3
       rw [e3] at rt
       have hb := hy b (CS rt)
       by_cases hw : b = want
       ·rw [if_pos (by simp [Region.wanted, hg, hb, hw])]
        exact body (h.1 hw) fun _ _ hk => hk
       ·rw [if_neg (by simp [Region.wanted, hg, hb, hw])]
        exact ⟨fun _ _ => trivial, hn _ _ _ (h.2 hw) ⟨σ, ι, R.put (.tup (fun _ => undef) rfl (by simp) (by simp))⟩⟩
      ·rename_i e3
       rw [e3] at rt
       have hv := NN rt
       have hb : yielded ops a.tmps j = none := by
        unfold yielded
        rw [hoj']
        simp only [Option.bind_some, ht]
        rw [Array.getD_eq_getD_getElem?, Array.getElem?_eq_getElem hsz] at hv
        rw [Array.getElem?_eq_getElem hsz]
        simp only [Option.getD_some] at hv
        rw [hv]
       rw [if_neg (by simp [Region.wanted, hg, hb])]
       exact ⟨fun _ _ => trivial, hn _ _ _ h ⟨σ, ι, R.put (.tup (fun _ => undef) rfl (by simp) (by simp))⟩⟩
      ·exact h.elim
     ·cases e1
    ·cases e1
   ·cases e1
 ·cases htr
theorem GB {n : Nat} {mu : List Nat} {ops : List Oper} : ∀ {l : List Oper} {ks : List Ins}, HO P n mu ops l = some ks → l.length = ks.length ∧ ∀ (i : Nat) (o : Oper), l[i]? = some o → ∃ k, ks[i]? = some k ∧ KT P n mu ops o = some k
 | [], ks, h => by
  simp only [HO, Option.some.injEq] at h
  subst h
  simp
 | o :: os, ks, h => by
  simp only [HO] at h
  split at h
  ·rename_i k ks' e1 e2
   cases h
   obtain ⟨h1, h2⟩ := GB e2
   refine ⟨by simp [h1], fun i o' ho' => ?_⟩
   cases i with
   | zero =>
    simp at ho'
    subst ho'
    exact ⟨k, rfl, e1⟩
   | succ i => simpa using h2 i o' (by simpa using ho')
  ·cases h
theorem Ds {α : Type} : ∀ l : List α, (List.range l.length).filterMap (fun i => l[i]?) = l
 | [] => rfl
 | x :: l => by
  rw [List.length_cons, List.range_succ_eq_map, List.filterMap_cons, List.filterMap_map]
  simp only [List.getElem?_cons_zero]
  congr 1
  have := Ds l
  exact this
theorem Kg {mu : List Nat} {ops : Array Oper} {ks : List Ins} {id : Nat} (htr : HO P C.n mu ops.toList ops.toList = some ks) {K : AS → Prop} (R : AQ C σ ι s a w) (h : Run P ks s K) (hn : ∀ s' a' w', K s' → BG C s' a' w' → Q .normal a' w') :
  (Code.region id ops false).wpIn (fen C.ro) 0 P Q a w := by
 obtain ⟨hl, hget⟩ := GB htr
 refine wpIn_region ?_
 have key : ∀ (m k : Nat) (s : AS) (a : Act) (w : World), k + m = ops.size → BG C s a w → Run P (ks.drop k) s K → wpOpsIn (fen C.ro) 0 P ops Q (List.range' k m) a w := by
  intro m
  induction m with
  | zero =>
   intro k s a w hk hH hr
   have : ks.drop k = [] := List.drop_of_length_le (by simp at hl; omega)
   rw [this] at hr
   exact hn _ _ _ hr hH
  | succ m ih =>
   intro k s a w hk hH hr
   have hlt : k < ops.toList.length := by simp; omega
   obtain ⟨kk, h1, h2⟩ := hget k _ (List.getElem?_eq_getElem hlt)
   have hd : ks.drop k = kk :: ks.drop (k + 1) := by
    have hk' := (List.getElem?_eq_some_iff.1 h1).1
    rw [List.drop_eq_getElem_cons hk']
    congr 1
    exact (List.getElem?_eq_some_iff.1 h1).2
   rw [hd, J8] at hr
   obtain ⟨σ, ι, R⟩ := hH
   rw [List.range'_succ, wpOpsIn_cons]
   exact IN (i := k) (by rw [← Array.getElem?_toList]; exact List.getElem?_eq_getElem hlt) h2 ⟨rfl, rfl, rfl⟩ R hr fun s' a' w' hK hH' => ih (k + 1) s' a' w' (by omega) hH' hK
 rw [List.range_eq_range']
 exact key ops.size 0 s a w (by omega) ⟨σ, ι, R⟩ (by simpa using h)
def E5 (ops : List Oper) : Nat → Nat → Nat → Bool
 | 0, _, _ => false
 | f + 1, j, i => match ops[i]? with
  | some o => o.after.any fun e => Region.binds .any e && (e.on == j || E5 ops f j e.on)
  | none => false
def Iu (ops : List Oper) (ks : List Ins) : Bool :=
 (List.range ops.length).all fun i =>
  (match ops[i]? with | some o => o.after.all (fun e => !Region.binds .any e || e.on < i) | none => true) &&
  (List.range i).all fun j => match ks[j]?, ks[i]? with
   | some x, some y => x.indep y || E5 ops ops.length j i
   | _, _ => true
theorem Hz {ops : Array Oper} {listed : Array Bool} (hdc : ∀ k o, ops[k]? = some o → listed.getD k true = true → k < ops.size → ∀ e ∈ o.after, Region.binds .any e = true → listed.getD e.on false = true) {i : Nat} :
  ∀ (f j i : Nat), (∀ o, ops[i]? = some o → ∀ e ∈ o.after, Region.binds .any e = true → listed.getD e.on false = true) → E5 ops.toList f j i = true → listed.getD j false = true := by
 intro f
 induction f with
 | zero => intro j i _ h; simp [E5] at h
 | succ f ih =>
  intro j i hi h
  simp only [E5] at h
  split at h
  ·rename_i o ho
   have ho' : ops[i]? = some o := by simpa using ho
   obtain ⟨k, hk, h2⟩ := Array.any_eq_true.1 h
   simp only [Bool.and_eq_true, Bool.or_eq_true, beq_iff_eq] at h2
   have hl := hi o ho' _ (Array.getElem_mem hk) h2.1
   rcases h2.2 with h3 | h3
   ·rw [← h3]; exact hl
   ·refine ih j _ (fun o2 ho2 e he hb => ?_) h3
    have hlt := (Array.getElem?_eq_some_iff.1 ho2).1
    refine hdc _ o2 ho2 ?_ hlt e he hb
    rcases Nat.lt_or_ge (o.after[k]).on listed.size with h' | h'
    ·simp [h'] at hl ⊢; exact hl
    ·simp [Array.getElem?_eq_none h']
  ·cases h
def KM (ks ks' : List Ins) : Prop := ks.length = ks'.length ∧ ∀ (i : Nat) k, ks[i]? = some k → ∃ k' : Ins, ks'[i]? = some k' ∧ k'.dst = k.dst ∧ k'.guard = k.guard ∧ k'.kd = k.kd
def L4 (f : Nat → Tag) : Nat → List Ins → List Ins
 | _, [] => []
 | i, k :: ks => ⟨k.dst, k.guard, k.kd, f i⟩ :: L4 f (i + 1) ks
theorem Jw (f : Nat → Tag) : ∀ (n : Nat) (ks : List Ins), KM ks (L4 f n ks)
 | _, [] => ⟨rfl, fun i k h => by simp at h⟩
 | n, k :: ks => by
  obtain ⟨h1, h2⟩ := Jw f (n + 1) ks
  refine ⟨by simp [L4, h1], fun i k' hk' => ?_⟩
  cases i with
  | zero =>
   simp only [List.getElem?_cons_zero, Option.some.injEq] at hk'
   subst hk'
   exact ⟨_, rfl, rfl, rfl, rfl⟩
  | succ i => exact h2 i k' (by simpa using hk')
theorem KM.refl (ks : List Ins) : KM ks ks := ⟨rfl, fun i k h => ⟨k, h, rfl, rfl, rfl⟩⟩
theorem Hm {mu : List Nat} {ops : Array Oper} {ks0 ks : List Ins} {id : Nat} (hmix : P.follows .mixedOrders = true) (htr : HO P C.n mu ops.toList ops.toList = some ks0) (hre : KM ks0 ks) (hok : Iu ops.toList ks = true) {K : AS → Prop} (R : AQ C σ ι s a w) (h : Run P ks s K) (hn : ∀ s' a' w', K s' → BG C s' a' w' → Q .normal a' w') :
  (Code.region id ops true).wpIn (fen C.ro) 0 P Q a w := by
 obtain ⟨hl0, hget0⟩ := GB htr
 have hl : ops.size = ks.length := by
  rw [← hre.1, ← hl0, Array.length_toList]
 have hget : ∀ (i : Nat) (o : Oper), ops.toList[i]? = some o → ∃ k', ks[i]? = some k' ∧ ∃ k, KT P C.n mu ops.toList o = some k ∧ k'.dst = k.dst ∧ k'.guard = k.guard ∧ k'.kd = k.kd := fun i o ho => by
  obtain ⟨k, h1, h2⟩ := hget0 i o ho
  obtain ⟨k', q1, q2⟩ := hre.2 i k h1
  exact ⟨k', q1, k, h2, q2⟩
 refine wpIn_region_any hmix ?_
 have hchk : ∀ i, i < ops.size → (∀ o, ops[i]? = some o → ∀ e ∈ o.after, Region.binds .any e = true → e.on < i) ∧ ∀ j, j < i → ∀ x y, ks[j]? = some x → ks[i]? = some y → x.indep y = true ∨ E5 ops.toList ops.toList.length j i = true := fun i hi => by
  have h1 := List.all_eq_true.1 hok i (List.mem_range.2 (by simpa using hi))
  simp only [Bool.and_eq_true] at h1
  refine ⟨fun o ho e he hb => ?_, fun j hj x y hx hy => ?_⟩
  ·have h2 := h1.1
   rw [show ops.toList[i]? = some o by simpa using ho] at h2
   dsimp only at h2
   obtain ⟨k, hk, rfl⟩ := Array.getElem_of_mem he
   have h3 := (Array.all_eq_true.1 h2) k hk
   simpa [hb] using h3
  ·have h2 := List.all_eq_true.1 h1.2 j (List.mem_range.2 hj)
   rw [hx, hy] at h2
   simpa using h2
 have key : ∀ (f : Nat) (T : List Nat) (listed : Array Bool) (s : AS) (a : Act) (w : World), T.length ≤ f → listed.size = ops.size → T.Pairwise (· < ·) → (∀ i, i ∈ T ↔ i < ops.size ∧ listed.getD i true = false) →
   (∀ k o, ops[k]? = some o → listed.getD k true = true → k < ops.size → ∀ e ∈ o.after, Region.binds .any e = true → listed.getD e.on false = true) → BG C s a w → Run P (T.filterMap fun i => ks[i]?) s K → wpAnyIn (fen C.ro) 0 P .any ops Q f listed a w := by
  intro f
  induction f with
  | zero =>
   intro T listed s a w hf hsz hs hT hdc hH hr
   have hT0 : T = [] := List.eq_nil_of_length_eq_zero (by omega)
   subst hT0
   refine ⟨?_, hn _ _ _ hr hH⟩
   rw [List.eq_nil_iff_forall_not_mem]
   intro i hi
   obtain ⟨q1, o, q2, q3⟩ := mem_ready.1 hi
   have := (hT i).2 ⟨(Array.getElem?_eq_some_iff.1 q2).1, q1⟩
   cases this
  | succ f ih =>
   intro T listed s a w hf hsz hs hT hdc hH hr
   refine ⟨fun hready => ?_, fun i hi => ?_⟩
   ·-- nothing may come up: nothing is left
    cases T with
    | nil => exact hn _ _ _ hr hH
    | cons i T =>
     exfalso
     obtain ⟨hi1, hi2⟩ := (hT i).1 (by simp)
     have : i ∈ Region.ready .any ops listed := by
      refine mem_ready.2 ⟨hi2, ops[i], Array.getElem?_eq_getElem hi1, fun e he hb => ?_⟩
      have hlt := (hchk i hi1).1 _ (Array.getElem?_eq_getElem hi1) e he hb
      cases hq : listed.getD e.on true with
      | true =>
       simp [show e.on < listed.size by omega] at hq ⊢
       exact hq
      | false =>
       have hmem := (hT e.on).2 ⟨by omega, hq⟩
       rcases List.mem_cons.1 hmem with h | h
       ·omega
       ·have := (List.pairwise_cons.1 hs).1 _ h
        omega
     rw [hready] at this
     cases this
   ·obtain ⟨q1, o, q2, q3⟩ := mem_ready.1 hi
    have hi1 := (Array.getElem?_eq_some_iff.1 q2).1
    have hmem := (hT i).2 ⟨hi1, q1⟩
    obtain ⟨pre, post, rfl⟩ := List.append_of_mem hmem
    obtain ⟨y, hy1, y0, hy2, hy3⟩ := hget i o (by simpa using q2)
    rw [List.filterMap_append, List.filterMap_cons, hy1] at hr
    dsimp only at hr
    have hpre : ∀ j ∈ pre, j < i := fun j hj => (List.pairwise_append.1 hs).2.2 j hj i (by simp)
    have hfront := MQ (P := P) (K := K) (pre := pre.filterMap fun i => ks[i]?) (y := y) (post := post.filterMap fun i => ks[i]?) (fun x hx => by
     obtain ⟨j, hj, hxj⟩ := List.mem_filterMap.1 hx
     have hji := hpre j hj
     rcases (hchk i hi1).2 j hji x y hxj hy1 with hind | hbe
     ·exact hind
     ·exfalso
      have h1 := Hz (ops := ops) (listed := listed) hdc (i := i) _ j i (fun o2 ho2 e he hb => by
       rw [q2] at ho2
       cases ho2
       exact q3 e he hb) hbe
      have h2 := ((hT j).1 (by simp [hj])).2
      have h3 := ((hT j).1 (by simp [hj])).1
      simp [show j < listed.size by omega] at h1 h2
      rw [h1] at h2
      cases h2) hr
    obtain ⟨σ, ι, R⟩ := hH
    refine IN q2 hy2 hy3 R hfront fun s' a' w' hK hH' => ?_
    rw [← List.filterMap_append] at hK
    have hsub : (pre ++ post).Pairwise (· < ·) := by
     refine hs.sublist ?_
     exact List.Sublist.append (List.Sublist.refl pre) (List.sublist_cons_self i post)
    have hni : i ∉ pre ++ post := fun hm => by
     rcases List.mem_append.1 hm with hm | hm
     ·have := hpre i hm; omega
     ·have := (List.pairwise_cons.1 (List.pairwise_append.1 hs).2.1).1 i hm; omega
    refine ih (pre ++ post) (listed.setIfInBounds i true) s' a' w' (by simp at hf ⊢; omega) (by simpa using hsz) hsub (fun j => ?_) (fun k ok hok2 hlk hkk e he hb => ?_) hH' hK
    ·constructor
     ·intro hj
      have hji : i ≠ j := fun e => hni (e ▸ hj)
      have := (hT j).1 (by
       rcases List.mem_append.1 hj with h | h
       ·simp [h]
       ·simp [h])
      rw [getD_set_ne true hji]
      exact this
     ·rintro ⟨h1, h2⟩
      have hji : i ≠ j := fun e => by
       subst e
       simp [show i < listed.size by omega] at h2
      rw [getD_set_ne true hji] at h2
      have := (hT j).2 ⟨h1, h2⟩
      rcases List.mem_append.1 this with h | h
      ·exact List.mem_append.2 (.inl h)
      ·rcases List.mem_cons.1 h with h | h
       ·exact absurd h.symm hji
       ·exact List.mem_append.2 (.inr h)
    ·by_cases hki : i = k
     ·subst hki
      rw [q2] at hok2
      cases hok2
      exact getD_set_true (q3 e he hb)
     ·rw [getD_set_ne true hki] at hlk
      exact getD_set_true (hdc k ok hok2 hlk hkk e he hb)
 refine key ops.size (List.range ops.size) (Array.replicate ops.size false) s a _ (by simp) (by simp) List.pairwise_lt_range (fun i => ?_) (fun k o hk hlk hkk e he hb => ?_) ⟨σ, ι, R.drew⟩ ?_
 ·rw [List.mem_range]
  constructor
  ·intro hi; exact ⟨hi, by simp [hi]⟩
  ·exact fun h => h.1
 ·simp [hkk] at hlk
 ·have e : (List.range ops.size).filterMap (fun i => ks[i]?) = ks := by
   rw [hl]
   exact Ds ks
  rw [e]
  exact h
end

end Go.Proofs.YtcgnojefbalbbaaDoor
