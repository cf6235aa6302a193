/-
  Part 6 of the texts. Conditions: none.
-/
import Derived.Test.YtgcddcaachpbnaaGreatReM5
import Derived.Lib.FrozenHead2
import Derived.Lib.OthersKept
import Derived.Shelf.Strings.BuilderK
namespace Go.Proofs.YtgcddcaachpbnaaGreat
open Go Go.RowKit Go.Lib Go.Sort Go.Shelf
set_option linter.unusedVariables false
set_option linter.unusedSimpArgs false
set_option maxHeartbeats 1000000
abbrev GB (l : List ByteArray) : AL := .mrow 9 1 (l.map B7)
theorem Rw {d : Array (List UInt8)} {vs : Array Value} (hs : d.size ≤ vs.size) {k : Nat} {x : List UInt8} (hx : d[k]? = some x) : (putCells encStr 0 d vs)[k]? = some (encStr x) := by
 have hk := (Array.getElem?_eq_some_iff.1 hx).1
 unfold putCells
 rw [Array.getElem?_mapIdx, Array.getElem?_eq_getElem (by omega), Option.map_some, if_pos (by omega), Nat.sub_zero, getElem!_pos d k hk]
 rw [Array.getElem?_eq_getElem hk] at hx
 cases hx
 rfl
theorem Qc (d : Array (List UInt8)) (vs : Array Value) : (putCells encStr 0 d vs).size = vs.size := by simp [putCells]
theorem T2 {S : AA} {r : Nat} {b : AL} (h : S r = some b) : AG S r (some b) = S := by
 funext k
 unfold AG
 split
 ·rename_i e; rw [e, h]
 ·rfl
theorem PB (w : World) (g n : Nat) (d : Array (List UInt8)) (os : Array Obj) (vs : Array Value) (e : TypeId) (hg : w.heap[g]? = some (.cells vs e (0, 0))) :
  (grow (putRow encStr (Sort.ahead w n) g 0 d) os).heap[g]? = some (.cells (putCells encStr 0 d vs) e (0, 0)) ∧ (∀ k, k < w.heap.size → k ≠ g → (grow (putRow encStr (Sort.ahead w n) g 0 d) os).heap[k]? = w.heap[k]?) ∧ w.heap.size ≤ (grow (putRow encStr (Sort.ahead w n) g 0 d) os).heap.size := by
 have hlt := (Array.getElem?_eq_some_iff.1 hg).1
 have hsz : (putRow encStr (Sort.ahead w n) g 0 d).heap.size = w.heap.size := by simp [putRow, mapBlock, Sort.ahead]
 refine ⟨?_, fun k hk hne => ?_, ?_⟩
 ·rw [heap_grow_old _ _ (by rw [hsz]; exact hlt)]
  simp [putRow, mapBlock, Sort.ahead, Array.getElem?_modify, hg, onCells]
 ·rw [heap_grow_old _ _ (by rw [hsz]; exact hk)]
  simp [putRow, mapBlock, Sort.ahead, Array.getElem?_modify, Ne.symm hne]
 ·rw [Go.Sort.size_grow, hsz]
  omega
theorem OJ (b : ByteArray) : encStr (bLs b) = .string b := by
 show Value.string (lBs (bLs b)) = _
 rw [QM]
theorem O0 (l : List ByteArray) (hl : l.length ≤ 100000) (r : Nat) (hr : 1000 ≤ r) (S : AA) (sr : S r = some (GB l)) (hS : Ar S) (σ : Sto) (w : World) (ι : Ax) (hF : Fit σ w) (hO : Dm σ S ι w) :
  Calls Tryz.prog 30 #[.slice (ι r).p l.length (ι r).cap] w fun e w' => ∃ v σ' ι', e = .returned v ∧ Ar (AG S r (some (GB (srt l)))) ∧ Upd S ι (AG S r (some (GB (srt l)))) ι' ∧ Dm σ' (AG S r (some (GB (srt l)))) ι' w' ∧ AR σ' (AG S r (some (GB (srt l)))) ι' v (.tup []) ∧ Fit σ' w' ∧ (∀ p x, σ p = some x → σ' p = some x) ∧
   (∀ p : Addr, p.block < w.heap.size → Bz S ι p.block → σ' p = σ p) ∧ (w'.os = w.os ∧ w'.tape = w.tape ∧ w'.output = w.output) ∧ w.heap.size ≤ w'.heap.size ∧
   (∀ g, g < w.heap.size → Bz S ι g → w'.heap[g]? = w.heap[g]?) ∧ (∀ id b g, AG S r (some (GB (srt l))) id = some b → (ι' id).g = some g → w.heap.size ≤ g ∨ ¬ Bz S ι g) := by
 have hS' : Ar (AG S r (some (GB (srt l)))) := A9 hS hr rfl
 have hb : Be σ S ι w (ι r) (.mrow 9 1 (l.map B7)) := hO.1 r _ sr
 generalize hxs : l.map B7 = xs at hb
 have hlen : xs.length = l.length := by rw [← hxs, List.length_map]
 generalize hh : ι r = hd at hb
 cases hb with
 | mnil k1 k2 =>
  obtain rfl : l = [] := by simpa using hxs
  refine (Any.slices_Sort_string_none Tryz.lays190 hd.p hd.cap w).mono fun e w' ⟨he, hw⟩ => ?_
  subst hw
  have hid : AG S r (some (GB (srt []))) = S := by
   have : srt [] = [] := List.eq_nil_of_length_eq_zero (Fy [])
   rw [this]
   exact T2 sr
  rw [hid]
  exact ⟨_, σ, ι, he, hS, Upd.refl _ _, hO, .tup (fun _ => undef) rfl (by simp) (by simp), hF, fun _ _ h => h, fun _ _ _ => rfl, ⟨rfl, rfl, rfl⟩, Nat.le_refl _, fun _ _ _ => rfl, fun id b g h1 h2 => .inr fun hno => hno id b h1 h2⟩
 | @mrow _ _ _ g cs k1 k2 k3 k4 k5 k6 k7 k8 k9 =>
  subst hxs
  rw [List.length_map] at k4
  rw [Nat.mul_one] at k6
  have hcell : ∀ k b, l[k]? = some b → cs[k]? = some (Value.string b) := fun k b hb => by
   obtain ⟨v, v1, v2⟩ := k8 k (B7 b) 0 (.str b) (by rw [List.getElem?_map, hb]; rfl) rfl
   have := (Cp (S := noS) (ι := noH) (.one (.st v2))).1
   rw [this] at v1
   simpa using v1
  have hH : Go.Sort.Holds encStr w g 0 (l.map bLs).toArray := fun j hj => by
   have hj' : j < l.length := by simpa using hj
   have hc := hcell j l[j] (List.getElem?_eq_getElem hj')
   refine ⟨?_, Blk.frozen k3 _⟩
   rw [cell_of_row w g _ _ _ _ k3, Nat.zero_add, hc, getElem!_pos _ j hj]
   simp only [List.getElem_toArray, List.getElem_map]
   rw [OJ]
  have hgl : g < w.heap.size := (Array.getElem?_eq_some_iff.1 k3).1
  have hcon := Any.slices_Sort_string Tryz.lays190 g 0 hd.cap (l.map bLs) w hH hgl (by simp; omega)
  rw [List.length_map] at hcon
  rw [k2]
  refine Calls.mono hcon fun e w' ⟨he, n, os, hw⟩ => ?_
  obtain ⟨d', hd'⟩ : ∃ d', ((l.map bLs).mergeSort fun x y => decide (x ≤ y)).toArray = d' := ⟨_, rfl⟩
  rw [hd'] at hw
  have hdl : d'.size = l.length := by rw [← hd']; simp
  have hget : ∀ k b, (srt l)[k]? = some b → d'[k]? = some (bLs b) := fun k b hb => by
   unfold srt at hb
   rw [List.getElem?_map, Option.map_eq_some_iff] at hb
   obtain ⟨x, hx, rfl⟩ := hb
   rw [← hd', MK, List.getElem?_toArray]
   exact hx
  obtain ⟨w1, w2, w3⟩ := PB w g n d' os cs _ k3
  rw [← hw] at w1 w2 w3
  have hupd : Upd S ι (AG S r (some (GB (srt l)))) ι := fun id b hb => by
   by_cases e : id = r
   ·subst e
    rw [sr] at hb
    cases hb
    exact ⟨_, AE _ _ _, by simp [AL.len, Fy], fun _ => ⟨rfl, rfl⟩⟩
   ·exact ⟨b, by rw [AH _ e]; exact hb, Nat.le_refl _, fun _ => ⟨rfl, rfl⟩⟩
  have hotherg : ∀ id b g', id ≠ r → S id = some b → (ι id).g = some g' → g' ≠ g := fun id b g' hne hb hg' e => by
   subst e
   exact hne (hO.2 id r b _ g' hb sr hg' (by rw [hh]; exact k1))
  have hFit : Fit σ w' := fun p x hp => by
   have hlt := hF.lt hp
   by_cases e : p.block = g
   ·rw [k9 p e] at hp; cases hp
   ·exact (By (w2 _ hlt e)).trans (hF p x hp)
  refine ⟨_, σ, ι, he, hS', hupd, ⟨fun id b hb => ?_, fun id id' b b' g' q1 q2 q3 q4 => ?_⟩, .tup (fun _ => undef) rfl (by simp) (by simp), hFit, fun _ _ h => h, fun _ _ _ => rfl, ?_, w3, fun g' q1 q2 => ?_, fun id b g' q1 q2 => ?_⟩
  ·by_cases e : id = r
   ·subst e
    rw [AE] at hb
    cases hb
    rw [hh]
    refine .mrow k1 k2 w1 (by rw [List.length_map, Fy]; exact k4) k5 (by rw [Qc, Nat.mul_one]; exact k6) (fun x hx => by obtain ⟨b, _, rfl⟩ := List.mem_map.1 hx; rfl) (fun k x j a hx ha => ?_) k9
    rw [List.getElem?_map, Option.map_eq_some_iff] at hx
    obtain ⟨b, hb, rfl⟩ := hx
    have hj : j = 0 ∧ a = .str b := by
     match j, ha with
     | 0, ha => cases ha; exact ⟨rfl, rfl⟩
     | j + 1, ha => simp [B7] at ha
    obtain ⟨rfl, rfl⟩ := hj
    have hp := Rw (vs := cs) (by rw [hdl, k6]; exact k4) (hget k b hb)
    rw [OJ] at hp
    obtain ⟨i, hi⟩ := List.getElem?_of_mem ((Ef l).mem_iff.1 (List.mem_of_getElem? hb))
    obtain ⟨v, v1, v2⟩ := k8 i (B7 b) 0 (.str b) (by rw [List.getElem?_map, hi]; rfl) rfl
    have := (Cp (S := noS) (ι := noH) (.one (.st v2))).1
    subst this
    exact ⟨.string b, by simpa using hp, v2⟩
   ·rw [AH _ e] at hb
    refine (hO.1 id b hb).mono (fun _ _ h => h) hupd (fun g' hg' => w2 g' ((hO.1 id b hb).gsome hg') (hotherg id b g' e hb hg')) (fun _ _ _ _ => rfl)
  ·have back : ∀ i c, AG S r (some (GB (srt l))) i = some c → ∃ c', S i = some c' := fun i c hc => by
    by_cases e : i = r
    ·subst e; exact ⟨_, sr⟩
    ·rw [AH _ e] at hc; exact ⟨c, hc⟩
   obtain ⟨c1, c1'⟩ := back _ _ q1
   obtain ⟨c2, c2'⟩ := back _ _ q2
   exact hO.2 _ _ _ _ _ c1' c2' q3 q4
  ·rw [hw]
   exact ⟨rfl, rfl, rfl⟩
  ·exact w2 g' q1 fun e => q2 r _ sr (by rw [hh, e]; exact k1)
  ·refine .inr fun hno => ?_
   by_cases e : id = r
   ·subst e; exact hno id _ sr q2
   ·rw [AH _ e] at q1; exact hno id _ q1 q2
theorem UK (l : List ByteArray) (hl : l.length ≤ 100000) (r : Nat) (hr : 1000 ≤ r) (S : AA) (sr : S r = some (GB l)) :
  As Tryz.prog 30 [.one (.row r l.length)] S (.tup []) (AG S r (some (GB (srt l)))) := by
 intro hS σ w vs ι hG hF hO hv
 cases hv with
 | @cons v1 _ _ _ h1 hv =>
 cases hv
 obtain ⟨b, b1, b2, b3⟩ := CX (AY h1)
 rw [sr] at b1
 cases b1
 have hv1 := b3 (by simp [AL.len])
 subst hv1
 exact O0 l hl r hr S sr hS σ w ι hF hO

def sep (k : Nat) : ByteArray := if k = 0 then ⟨#[40]⟩ else ⟨#[44]⟩
mutual
def Tm.text : Tm → ByteArray
 | .mk n xs => n ++ Tm.textsFrom 0 xs ++ (if xs.length = 0 then ⟨#[]⟩ else ⟨#[41]⟩)
def Tm.textsFrom : Nat → List Tm → ByteArray
 | _, [] => ⟨#[]⟩
 | k, t :: ts => sep k ++ t.text ++ Tm.textsFrom (k+1) ts
end
theorem empty_append (b : ByteArray) : (⟨#[]⟩ : ByteArray) ++ b = b := ByteArray.empty_append
theorem append_empty (b : ByteArray) : b ++ (⟨#[]⟩ : ByteArray) = b := ByteArray.append_empty
theorem Tm.text_eq (t : Tm) : t.text = t.name ++ Tm.textsFrom 0 t.args ++ (if t.args.length = 0 then ⟨#[]⟩ else ⟨#[41]⟩) := by cases t; rfl
theorem Tm.textsFrom_snoc (a : Tm) : ∀ (k : Nat) (xs : List Tm), Tm.textsFrom k (xs ++ [a]) = Tm.textsFrom k xs ++ (sep (k + xs.length) ++ a.text)
 | k, [] => by simp [Tm.textsFrom, empty_append, append_empty]
 | k, t :: ts => by
  rw [List.cons_append, Tm.textsFrom, Tm.textsFrom_snoc a (k+1) ts, Tm.textsFrom, List.length_cons, show k + 1 + ts.length = k + (ts.length + 1) by omega]
  simp only [ByteArray.append_assoc]
theorem Tm.textsFrom_append : ∀ (k : Nat) (xs ys : List Tm), Tm.textsFrom k (xs ++ ys) = Tm.textsFrom k xs ++ Tm.textsFrom (k + xs.length) ys
 | k, [], ys => by simp [Tm.textsFrom, empty_append]
 | k, t :: ts, ys => by
  rw [List.cons_append, Tm.textsFrom, Tm.textsFrom_append (k+1) ts, Tm.textsFrom, List.length_cons, show k + 1 + ts.length = k + (ts.length + 1) by omega]
  simp only [ByteArray.append_assoc]
theorem HP (k : Nat) : (sep k).size = 1 := by unfold sep; split <;> rfl
def Tm.ahead (t : Tm) (k : Nat) : ByteArray := t.name ++ Tm.textsFrom 0 (t.args.take k)
theorem Tm.ahead_zero (t : Tm) : t.ahead 0 = t.name := by simp [Tm.ahead, Tm.textsFrom, append_empty]
theorem Tm.ahead_succ {t : Tm} {k : Nat} {a : Tm} (h : t.args[k]? = some a) : t.ahead (k+1) = t.ahead k ++ sep k ++ a.text := by
 have hl := Bn h
 unfold Tm.ahead
 rw [Ak h, Tm.textsFrom_snoc, List.length_take, Nat.min_eq_left (by omega), Nat.zero_add]
 simp only [ByteArray.append_assoc]
theorem Tm.ahead_all {t : Tm} {k : Nat} (h : k = t.args.length) : t.text = t.ahead k ++ (if k = 0 then ⟨#[]⟩ else ⟨#[41]⟩) := by
 subst h
 rw [Tm.text_eq, Tm.ahead, List.take_length]
theorem Tm.ahead_le (t : Tm) (k : Nat) : (t.ahead k).size ≤ t.text.size := by
 rw [Tm.text_eq, Tm.ahead]
 have : t.args = t.args.take k ++ t.args.drop k := (List.take_append_drop k t.args).symm
 conv => rhs; rw [this]
 rw [Tm.textsFrom_append]
 simp only [ByteArray.size_append]
 omega
theorem Iq {t : Tm} (h : Ba t = 0) : 1 ≤ t.name.size ∧ t.name.size ≤ 8 := by
 unfold Ba at h
 split at h
 ·split at h
  ·rename_i h1 _
   simp [A5] at h1
   omega
  ·rename_i h1 _
   simp [A5] at h1
   omega
 ·omega
mutual
theorem Tm.text_le : ∀ t : Tm, t.chk = 0 → t.text.size + 1 ≤ 10 * t.size
 | .mk n xs, h => by
  rw [Tm.chk_eq] at h
  split at h
  ·rename_i h0
   have h1 := Iq h0
   have h2 := Tm.textsFrom_le 0 xs h
   have h3 : (if xs.length = 0 then (⟨#[]⟩ : ByteArray) else ⟨#[41]⟩).size ≤ 1 := by split <;> simp [ByteArray.size]
   simp only [Tm.name] at h1
   simp only [Tm.text, Tm.size, ByteArray.size_append]
   omega
  ·omega
theorem Tm.textsFrom_le : ∀ (k : Nat) (xs : List Tm), Tm.chkL xs = 0 → (Tm.textsFrom k xs).size ≤ 10 * Tm.sizes xs
 | _, [], _ => by simp [Tm.textsFrom, Tm.sizes, ByteArray.size]
 | k, t :: ts, h => by
  rw [Tm.chkL] at h
  split at h
  ·rename_i h0
   have h1 := Tm.text_le t h0
   have h2 := Tm.textsFrom_le (k+1) ts h
   simp only [Tm.textsFrom, Tm.sizes, ByteArray.size_append, HP]
   omega
  ·omega
end

set_option maxRecDepth 100000
def FK : IR :=
 (.seq (.ops [.i 2 (.mov (.c (.one (.st (.bool false)))))]) (.seq (.ops [.m 3 0, .i 4 (.bin .geq (.t 3) (.c (.one (.st (.int .u8 97))))), .m 5 4, .mk (some 6) (some (5, true)) (.mov (.t 0)) .no, .mk (some 7) (some (5, true)) (.bin .leq (.t 6) (.c (.one (.st (.int .u8 122))))) .no, .i 8 (.pick (.t 5) (.t 7) (.c (.one (.st (.bool false))))), .m 9 8, .mk (some 10) (some (9, false)) (.mov (.t 0)) .no, .mk (some 11) (some (9, false)) (.bin .geq (.t 10) (.c (.one (.st (.int .u8 65))))) .no, .mk (some 12) (some (9, false)) (.mov (.t 11)) .no, .mk (some 13) (some (12, true)) (.mov (.t 0)) .no, .mk (some 14) (some (12, true)) (.bin .leq (.t 13) (.c (.one (.st (.int .u8 90))))) .no, .mk (some 15) (some (9, false)) (.pick (.t 12) (.t 14) (.c (.one (.st (.bool false))))) .no, .i 16 (.pick (.t 9) (.c (.one (.st (.bool true)))) (.t 15)), .m 17 16, .mk (some 18) (some (17, false)) (.mov (.t 0)) .no, .mk (some 19) (some (17, false)) (.bin .geq (.t 18) (.c (.one (.st (.int .u8 48))))) .no, .mk (some 20) (some (17, false)) (.mov (.t 19)) .no, .mk (some 21) (some (20, true)) (.mov (.t 0)) .no, .mk (some 22) (some (20, true)) (.bin .leq (.t 21) (.c (.one (.st (.int .u8 57))))) .no, .mk (some 23) (some (17, false)) (.pick (.t 20) (.t 22) (.c (.one (.st (.bool false))))) .no, .i 24 (.pick (.t 17) (.c (.one (.st (.bool true)))) (.t 23)), .m 2 24]) .ret))
theorem KI : OkF Tryz.prog 118 25 [] FK [.t 2] := .of Tryz.func118 rfl rfl (by kernel_rfl) rfl
def GW : IR :=
 (.seq (.ops [.i 2 (.mov (.c (.one (.st (.bool false)))))]) (.seq (.ops [.m 3 0, .i 4 (.bin .geq (.t 3) (.c (.one (.st (.int .u8 97))))), .m 5 4, .mk (some 6) (some (5, true)) (.mov (.t 0)) .no, .mk (some 7) (some (5, true)) (.bin .leq (.t 6) (.c (.one (.st (.int .u8 122))))) .no, .i 8 (.pick (.t 5) (.t 7) (.c (.one (.st (.bool false))))), .m 9 8, .mk (some 10) (some (9, false)) (.mov (.t 0)) .no, .mk (some 11) (some (9, false)) (.bin .geq (.t 10) (.c (.one (.st (.int .u8 65))))) .no, .mk (some 12) (some (9, false)) (.mov (.t 11)) .no, .mk (some 13) (some (12, true)) (.mov (.t 0)) .no, .mk (some 14) (some (12, true)) (.bin .leq (.t 13) (.c (.one (.st (.int .u8 90))))) .no, .mk (some 15) (some (9, false)) (.pick (.t 12) (.t 14) (.c (.one (.st (.bool false))))) .no, .i 16 (.pick (.t 9) (.c (.one (.st (.bool true)))) (.t 15)), .m 17 16, .mk (some 18) (some (17, false)) (.mov (.t 0)) .no, .mk (some 19) (some (17, false)) (.bin .geq (.t 18) (.c (.one (.st (.int .u8 48))))) .no, .mk (some 20) (some (17, false)) (.mov (.t 19)) .no, .mk (some 21) (some (20, true)) (.mov (.t 0)) .no, .mk (some 22) (some (20, true)) (.bin .leq (.t 21) (.c (.one (.st (.int .u8 57))))) .no, .mk (some 23) (some (17, false)) (.pick (.t 20) (.t 22) (.c (.one (.st (.bool false))))) .no, .i 24 (.pick (.t 17) (.c (.one (.st (.bool true)))) (.t 23)), .m 2 24]) .ret))
theorem Kk : OkF Tryz.prog 43 25 [] GW [.t 2] := .of Tryz.func43 rfl rfl (by kernel_rfl) rfl
def Cu : IR :=
 (.seq (.ops [.i 2 (.mov (.c (.one (.st (.bool false)))))]) (.seq (.seq (.ops [.m 4 0, .i 5 (.len true (.t 4)), .i 6 (.bin .lss (.t 5) (.n 1)), .m 7 6, .mk (some 8) (some (7, false)) (.mov (.t 0)) .no, .mk (some 9) (some (7, false)) (.len true (.t 8)) .no, .mk (some 10) (some (7, false)) (.bin .gtr (.t 9) (.n 8)) .no, .i 11 (.pick (.t 7) (.c (.one (.st (.bool true)))) (.t 10)), .m 12 11, .mk (some 13) (some (12, false)) (.mov (.t 0)) .no, .mk (some 14) (some (12, false)) (.indexStr (.t 13) (.n 0)) .no, .mk (some 15) (some (12, false)) (.bin .geq (.t 14) (.c (.one (.st (.int .u8 48))))) .no, .mk (some 16) (some (12, false)) (.mov (.t 15)) .no, .mk (some 17) (some (16, true)) (.mov (.t 0)) .no, .mk (some 18) (some (16, true)) (.indexStr (.t 17) (.n 0)) .no, .mk (some 19) (some (16, true)) (.bin .leq (.t 18) (.c (.one (.st (.int .u8 57))))) .no, .mk (some 20) (some (12, false)) (.pick (.t 16) (.t 19) (.c (.one (.st (.bool false))))) .no, .i 21 (.pick (.t 12) (.c (.one (.st (.bool true)))) (.t 20))]) (.cond (.t 21) (.seq (.ops [.i 2 (.mov (.c (.one (.st (.bool false)))))]) .ret) .skip)) (.seq (.seq (.ops [.m 22 0, .i 23 (.len true (.t 22)), .i 24 (.mov (.n 0))]) (.block 0 (.loop (.seq (.ops [.i 25 (.bin .lss (.t 24) (.t 23))]) (.seq (.cond (.t 25) .skip (.exit 0)) (.seq (.block 1 (.seq (.ops [.m 26 24, .m 3 26]) (.seq (.ops [.m 27 0, .m 28 3, .i 29 (.indexStr (.t 27) (.t 28)), .i 30 (.call 118 [.t 29]), .i 31 (.un .not (.t 30))]) (.cond (.t 31) (.seq (.ops [.i 2 (.mov (.c (.one (.st (.bool false)))))]) .ret) .skip)))) (.ops [.i 32 (.bin .add (.t 24) (.n 1)), .m 24 32]))))))) (.seq (.ops [.i 2 (.mov (.c (.one (.st (.bool true)))))]) .ret))))
theorem DZ : OkF Tryz.prog 104 33 [] Cu [.t 2] := .of Tryz.func104 rfl rfl (by kernel_rfl) rfl
def DO : IR :=
 (.seq (.ops [.i 2 (.mov (.c (.one (.st (.bool false)))))]) (.seq (.seq (.ops [.m 4 0, .i 5 (.bin .eql (.t 4) (.c (.one (.st (.str (ByteArray.mk (#[]))))))), .m 6 5, .mk (some 7) (some (6, false)) (.mov (.t 0)) .no, .mk (some 8) (some (6, false)) (.len true (.t 7)) .no, .mk (some 9) (some (6, false)) (.bin .gtr (.t 8) (.n 8)) .no, .i 10 (.pick (.t 6) (.c (.one (.st (.bool true)))) (.t 9)), .m 11 10, .mk (some 12) (some (11, false)) (.mov (.t 0)) .no, .mk (some 13) (some (11, false)) (.indexStr (.t 12) (.n 0)) .no, .mk (some 14) (some (11, false)) (.bin .geq (.t 13) (.c (.one (.st (.int .u8 48))))) .no, .mk (some 15) (some (11, false)) (.mov (.t 14)) .no, .mk (some 16) (some (15, true)) (.mov (.t 0)) .no, .mk (some 17) (some (15, true)) (.indexStr (.t 16) (.n 0)) .no, .mk (some 18) (some (15, true)) (.bin .leq (.t 17) (.c (.one (.st (.int .u8 57))))) .no, .mk (some 19) (some (11, false)) (.pick (.t 15) (.t 18) (.c (.one (.st (.bool false))))) .no, .i 20 (.pick (.t 11) (.c (.one (.st (.bool true)))) (.t 19))]) (.cond (.t 20) (.seq (.ops [.i 2 (.mov (.c (.one (.st (.bool false)))))]) .ret) .skip)) (.seq (.seq (.ops [.i 3 (.mov (.n 0))]) (.block 0 (.loop (.seq (.seq (.ops [.m 21 3, .m 22 0, .i 23 (.len true (.t 22)), .i 24 (.bin .lss (.t 21) (.t 23))]) (.cond (.t 24) .skip (.exit 0))) (.seq (.block 1 (.seq (.ops [.m 27 0, .m 28 3, .i 29 (.indexStr (.t 27) (.t 28)), .i 30 (.call 43 [.t 29]), .i 31 (.un .not (.t 30))]) (.cond (.t 31) (.seq (.ops [.i 2 (.mov (.c (.one (.st (.bool false)))))]) .ret) .skip))) (.ops [.m 25 3, .i 26 (.bin .add (.t 25) (.n 1)), .m 3 26])))))) (.seq (.ops [.i 2 (.mov (.c (.one (.st (.bool true)))))]) .ret))))
theorem D8 : OkF Tryz.prog 23 32 [] DO [.t 2] := .of Tryz.func23 rfl rfl (by kernel_rfl) rfl
def C1 : IR :=
 (.seq (.ops [.i 2 (.mov (.c (.one (.st (.bool false)))))]) (.seq (.ops [.m 3 0, .i 4 (.bin .neq (.t 3) (.c (.one (.st (.str (ByteArray.mk (#[]))))))), .m 5 4, .mk (some 6) (some (5, true)) (.mov (.t 0)) .no, .mk (some 7) (some (5, true)) (.indexStr (.t 6) (.n 0)) .no, .mk (some 8) (some (5, true)) (.bin .geq (.t 7) (.c (.one (.st (.int .u8 65))))) .no, .i 9 (.pick (.t 5) (.t 8) (.c (.one (.st (.bool false))))), .m 10 9, .mk (some 11) (some (10, true)) (.mov (.t 0)) .no, .mk (some 12) (some (10, true)) (.indexStr (.t 11) (.n 0)) .no, .mk (some 13) (some (10, true)) (.bin .leq (.t 12) (.c (.one (.st (.int .u8 90))))) .no, .i 14 (.pick (.t 10) (.t 13) (.c (.one (.st (.bool false))))), .m 2 14]) .ret))
theorem Eg : OkF Tryz.prog 62 15 [] C1 [.t 2] := .of Tryz.func62 rfl rfl (by kernel_rfl) rfl
def Gq : IR :=
 (.seq (.ops [.i 2 (.mov (.c (.one (.st (.bool false)))))]) (.seq (.ops [.m 3 0, .i 4 (.bin .neq (.t 3) (.c (.one (.st (.str (ByteArray.mk (#[]))))))), .m 5 4, .mk (some 6) (some (5, true)) (.mov (.t 0)) .no, .mk (some 7) (some (5, true)) (.indexStr (.t 6) (.n 0)) .no, .mk (some 8) (some (5, true)) (.bin .geq (.t 7) (.c (.one (.st (.int .u8 65))))) .no, .i 9 (.pick (.t 5) (.t 8) (.c (.one (.st (.bool false))))), .m 10 9, .mk (some 11) (some (10, true)) (.mov (.t 0)) .no, .mk (some 12) (some (10, true)) (.indexStr (.t 11) (.n 0)) .no, .mk (some 13) (some (10, true)) (.bin .leq (.t 12) (.c (.one (.st (.int .u8 90))))) .no, .i 14 (.pick (.t 10) (.t 13) (.c (.one (.st (.bool false))))), .m 2 14]) .ret))
theorem Js : OkF Tryz.prog 19 15 [] Gq [.t 2] := .of Tryz.func19 rfl rfl (by kernel_rfl) rfl
def FO : IR :=
 (.seq (.ops [.i 2 (.box 25 (.t 0)), .i 4 (.mov (.n 0))]) (.seq (.ops [.m 7 1, .i 8 (.bin .sub (.t 7) (.n 1)), .m 1 8]) (.seq (.seq (.ops [.f 9 1 2, .l 10 9, .i 11 (.len false (.t 10)), .i 12 (.mov (.n 0))]) (.block 0 (.loop (.seq (.ops [.i 13 (.bin .lss (.t 12) (.t 11))]) (.seq (.cond (.t 13) .skip (.exit 0)) (.seq (.block 1 (.seq (.ops [.i 14 (.indexAddr 2 (.t 10) (.t 12)), .L 15 2 14, .i 6 (.alloc 25 [.st (.str (ByteArray.mk (#[]))), .full []]), .s 2 6 15]) (.seq (.seq (.ops [.m 16 1, .i 17 (.bin .lss (.t 16) (.n 0))]) (.cond (.t 17) (.exit 0) .skip)) (.ops [.L 18 2 6, .m 19 1, .i 20 (.call 74 [.t 18, .t 19]), .m 1 20])))) (.ops [.i 21 (.bin .add (.t 12) (.n 1)), .m 12 21]))))))) (.seq (.ops [.m 22 1, .m 4 22]) .ret))))
theorem KW : OkF Tryz.prog 74 23 [] FO [.t 4] := .of Tryz.func74 rfl rfl (by kernel_rfl) rfl
def Lb : IR :=
 (.seq (.ops [.i 2 (.box 25 (.t 0)), .i 4 (.mov (.n 0))]) (.seq (.ops [.i 5 (.mov (.n 1))]) (.seq (.seq (.ops [.i 6 (.mov (.n 0))]) (.block 0 (.loop (.seq (.seq (.ops [.m 7 6, .f 8 1 2, .l 9 8, .i 10 (.len false (.t 9)), .i 11 (.bin .lss (.t 7) (.t 10)), .m 12 11, .mk (some 13) (some (12, true)) (.mov (.t 5)) .no, .mk (some 14) (some (12, true)) (.mov (.t 1)) .no, .mk (some 15) (some (12, true)) (.bin .leq (.t 13) (.t 14)) .no, .i 16 (.pick (.t 12) (.t 15) (.c (.one (.st (.bool false)))))]) (.cond (.t 16) .skip (.exit 0))) (.seq (.block 1 (.ops [.m 19 5, .f 20 1 2, .l 21 20, .m 22 6, .i 23 (.indexAddr 2 (.t 21) (.t 22)), .L 24 2 23, .m 25 1, .m 26 5, .i 27 (.bin .sub (.t 25) (.t 26)), .i 28 (.call 9 [.t 24, .t 27]), .i 29 (.bin .add (.t 19) (.t 28)), .m 5 29])) (.ops [.m 17 6, .i 18 (.bin .add (.t 17) (.n 1)), .m 6 18])))))) (.seq (.seq (.ops [.m 30 5, .m 31 1, .i 32 (.bin .gtr (.t 30) (.t 31))]) (.cond (.t 32) (.seq (.ops [.m 33 1, .i 34 (.bin .add (.t 33) (.n 1)), .m 4 34]) .ret) .skip)) (.seq (.ops [.m 35 5, .m 4 35]) .ret)))))
theorem RW : OkF Tryz.prog 9 36 [] Lb [.t 4] := .of Tryz.func9 rfl rfl (by kernel_rfl) rfl
def GK : IR :=
 (.seq (.ops [.i 1 (.box 25 (.t 0)), .i 2 (.mov (.n 0))]) (.seq (.seq (.ops [.f 6 0 1, .l 7 6, .i 8 (.call 104 [.t 7]), .i 9 (.un .not (.t 8))]) (.cond (.t 9) (.seq (.ops [.i 2 (.mov (.n 1))]) .ret) .skip)) (.seq (.seq (.ops [.f 10 0 1, .l 11 10, .i 12 (.call 62 [.t 11]), .m 13 12, .mk (some 14) (some (13, true)) (.fieldAddr 1 (.t 1)) .no, .mk (some 15) (some (13, true)) (.load false 1 (.t 14)) .no, .mk (some 16) (some (13, true)) (.len false (.t 15)) .no, .mk (some 17) (some (13, true)) (.bin .gtr (.t 16) (.n 0)) .no, .i 18 (.pick (.t 13) (.t 17) (.c (.one (.st (.bool false)))))]) (.cond (.t 18) (.seq (.ops [.i 2 (.mov (.n 2))]) .ret) .skip)) (.seq (.seq (.ops [.f 19 1 1, .l 20 19, .i 21 (.len false (.t 20)), .i 22 (.mov (.n 0))]) (.block 0 (.loop (.seq (.ops [.i 23 (.bin .lss (.t 22) (.t 21))]) (.seq (.cond (.t 23) .skip (.exit 0)) (.seq (.block 1 (.seq (.ops [.i 24 (.indexAddr 2 (.t 20) (.t 22)), .L 25 2 24, .i 4 (.alloc 25 [.st (.str (ByteArray.mk (#[]))), .full []]), .s 2 4 25]) (.seq (.ops [.L 26 2 4, .i 27 (.call 75 [.t 26]), .m 5 27]) (.seq (.ops [.m 28 5, .i 29 (.bin .neq (.t 28) (.n 0))]) (.cond (.t 29) (.seq (.ops [.m 30 5, .m 2 30]) .ret) .skip))))) (.ops [.i 31 (.bin .add (.t 22) (.n 1)), .m 22 31]))))))) (.seq (.ops [.i 2 (.mov (.n 0))]) .ret)))))
theorem Ki : OkF Tryz.prog 75 32 [] GK [.t 2] := .of Tryz.func75 rfl rfl (by kernel_rfl) rfl
def GQ : IR :=
 (.seq (.ops [.i 1 (.box 25 (.t 0)), .i 2 (.mov (.n 0))]) (.seq (.seq (.ops [.L 3 2 1, .i 4 (.call 74 [.t 3, .n 200]), .i 5 (.bin .lss (.t 4) (.n 0))]) (.cond (.t 5) (.seq (.ops [.i 2 (.mov (.n 3))]) .ret) .skip)) (.seq (.ops [.L 6 2 1, .i 7 (.call 75 [.t 6]), .m 2 7]) .ret)))
theorem Kg : OkF Tryz.prog 48 8 [] GQ [.t 2] := .of Tryz.func48 rfl rfl (by kernel_rfl) rfl
def JX : IR :=
 (.seq (.ops [.i 1 (.box 25 (.t 0)), .i 2 (.mov (.c (.one (.full []))))]) (.seq (.ops [.L 5 2 1, .i 6 (.buildSlice false 25 2 [.t 5]), .m 3 6]) (.seq (.seq (.ops [.i 4 (.mov (.n 0))]) (.block 0 (.loop (.seq (.seq (.ops [.m 7 4, .f 8 1 1, .l 9 8, .i 10 (.len false (.t 9)), .i 11 (.bin .lss (.t 7) (.t 10))]) (.cond (.t 11) .skip (.exit 0))) (.seq (.block 1 (.ops [.m 14 3, .f 15 1 1, .l 16 15, .m 17 4, .i 18 (.indexAddr 2 (.t 16) (.t 17)), .L 19 2 18, .i 20 (.call 22 [.t 19]), .i 21 (.append false 25 2 40 (.t 14) (.t 20)), .m 3 21])) (.ops [.m 12 4, .i 13 (.bin .add (.t 12) (.n 1)), .m 4 13])))))) (.seq (.ops [.m 22 3, .m 2 22]) .ret))))
theorem PZ : OkF Tryz.prog 22 23 [] JX [.t 2] := .of Tryz.func22 rfl rfl (by kernel_rfl) rfl
def Hi : IR :=
 (.seq (.ops [.i 1 (.box 25 (.t 0)), .i 2 (.mov (.n 0))]) (.seq (.seq (.ops [.L 5 2 1, .i 6 (.call 9 [.t 5, .n 200]), .i 7 (.bin .gtr (.t 6) (.n 200))]) (.cond (.t 7) (.seq (.ops [.i 2 (.mov (.n 3))]) .ret) .skip)) (.seq (.ops [.L 8 2 1, .i 9 (.call 22 [.t 8]), .m 3 9]) (.seq (.seq (.ops [.i 4 (.mov (.n 0))]) (.block 0 (.loop (.seq (.seq (.ops [.m 10 4, .m 11 3, .i 12 (.len false (.t 11)), .i 13 (.bin .lss (.t 10) (.t 12))]) (.cond (.t 13) .skip (.exit 0))) (.seq (.block 1 (.seq (.seq (.ops [.m 16 3, .m 17 4, .i 18 (.indexAddr 2 (.t 16) (.t 17)), .f 19 0 18, .l 20 19, .i 21 (.call 23 [.t 20]), .i 22 (.un .not (.t 21))]) (.cond (.t 22) (.seq (.ops [.i 2 (.mov (.n 1))]) .ret) .skip)) (.seq (.ops [.m 23 3, .m 24 4, .i 25 (.indexAddr 2 (.t 23) (.t 24)), .f 26 0 25, .l 27 26, .i 28 (.call 19 [.t 27]), .m 29 28, .mk (some 30) (some (29, true)) (.mov (.t 3)) .no, .mk (some 31) (some (29, true)) (.mov (.t 4)) .no, .mk (some 32) (some (29, true)) (.indexAddr 2 (.t 30) (.t 31)) .no, .mk (some 33) (some (29, true)) (.fieldAddr 1 (.t 32)) .no, .mk (some 34) (some (29, true)) (.load false 1 (.t 33)) .no, .mk (some 35) (some (29, true)) (.len false (.t 34)) .no, .mk (some 36) (some (29, true)) (.bin .gtr (.t 35) (.n 0)) .no, .i 37 (.pick (.t 29) (.t 36) (.c (.one (.st (.bool false)))))]) (.cond (.t 37) (.seq (.ops [.i 2 (.mov (.n 2))]) .ret) .skip)))) (.ops [.m 14 4, .i 15 (.bin .add (.t 14) (.n 1)), .m 4 15])))))) (.seq (.ops [.i 2 (.mov (.n 0))]) .ret)))))
theorem NC : OkF Tryz.prog 8 38 [] Hi [.t 2] := .of Tryz.func8 rfl rfl (by kernel_rfl) rfl
def Ik : IR :=
 (.seq (.ops [.i 2 (.box 25 (.t 0)), .i 3 (.box 25 (.t 1)), .i 4 (.mov (.n 0))]) (.seq (.ops [.L 6 2 2, .i 7 (.call 8 [.t 6]), .m 5 7]) (.seq (.seq (.ops [.m 8 5, .i 9 (.bin .eql (.t 8) (.n 0))]) (.cond (.t 9) (.ops [.L 10 2 3, .i 11 (.call 8 [.t 10]), .m 5 11]) .skip)) (.seq (.ops [.m 12 5, .m 4 12]) .ret))))
theorem Oa : OkF Tryz.prog 18 13 [] Ik [.t 4] := .of Tryz.func18 rfl rfl (by kernel_rfl) rfl
def LM : IR :=
 (.seq (.ops [.i 2 (.box 25 (.t 0)), .i 3 (.box 25 (.t 1)), .i 4 (.mov (.c (.one (.st (.bool false)))))]) (.seq (.seq (.ops [.f 6 0 2, .l 7 6, .f 8 0 3, .l 9 8, .i 10 (.bin .neq (.t 7) (.t 9)), .m 11 10, .mk (some 12) (some (11, false)) (.fieldAddr 1 (.t 2)) .no, .mk (some 13) (some (11, false)) (.load false 1 (.t 12)) .no, .mk (some 14) (some (11, false)) (.len false (.t 13)) .no, .mk (some 15) (some (11, false)) (.fieldAddr 1 (.t 3)) .no, .mk (some 16) (some (11, false)) (.load false 1 (.t 15)) .no, .mk (some 17) (some (11, false)) (.len false (.t 16)) .no, .mk (some 18) (some (11, false)) (.bin .neq (.t 14) (.t 17)) .no, .i 19 (.pick (.t 11) (.c (.one (.st (.bool true)))) (.t 18))]) (.cond (.t 19) (.seq (.ops [.i 4 (.mov (.c (.one (.st (.bool false)))))]) .ret) .skip)) (.seq (.seq (.ops [.i 5 (.mov (.n 0))]) (.block 0 (.loop (.seq (.seq (.ops [.m 20 5, .f 21 1 2, .l 22 21, .i 23 (.len false (.t 22)), .i 24 (.bin .lss (.t 20) (.t 23))]) (.cond (.t 24) .skip (.exit 0))) (.seq (.block 1 (.seq (.ops [.f 27 1 2, .l 28 27, .m 29 5, .i 30 (.indexAddr 2 (.t 28) (.t 29)), .L 31 2 30, .f 32 1 3, .l 33 32, .m 34 5, .i 35 (.indexAddr 2 (.t 33) (.t 34)), .L 36 2 35, .i 37 (.call 36 [.t 31, .t 36]), .i 38 (.un .not (.t 37))]) (.cond (.t 38) (.seq (.ops [.i 4 (.mov (.c (.one (.st (.bool false)))))]) .ret) .skip))) (.ops [.m 25 5, .i 26 (.bin .add (.t 25) (.n 1)), .m 5 26])))))) (.seq (.ops [.i 4 (.mov (.c (.one (.st (.bool true)))))]) .ret))))
theorem Qw : OkF Tryz.prog 36 39 [] LM [.t 4] := .of Tryz.func36 rfl rfl (by kernel_rfl) rfl
def Py : IR :=
 (.seq (.ops [.i 4 (.mov (.c (.one (.st (.bool false)))))]) (.seq (.seq (.ops [.i 5 (.mov (.n 0))]) (.block 0 (.loop (.seq (.seq (.ops [.m 6 5, .m 7 1, .i 8 (.len false (.t 7)), .i 9 (.bin .lss (.t 6) (.t 8))]) (.cond (.t 9) .skip (.exit 0))) (.seq (.block 1 (.seq (.ops [.m 12 1, .m 13 5, .i 14 (.indexAddr 1 (.t 12) (.t 13)), .l 15 14, .m 16 0, .i 17 (.bin .eql (.t 15) (.t 16))]) (.cond (.t 17) (.seq (.ops [.i 4 (.mov (.c (.one (.st (.bool true)))))]) .ret) .skip))) (.ops [.m 10 5, .i 11 (.bin .add (.t 10) (.n 1)), .m 5 11])))))) (.seq (.ops [.i 4 (.mov (.c (.one (.st (.bool false)))))]) .ret)))
theorem Tx : OkF Tryz.prog 21 18 [] Py [.t 4] := .of Tryz.func21 rfl rfl (by kernel_rfl) rfl
def Ih : IR :=
 (.seq (.ops [.i 1 (.box 25 (.t 0)), .i 2 (.mov (.c (.one (.full []))))]) (.seq (.ops [.L 6 2 1, .i 7 (.call 22 [.t 6]), .m 3 7]) (.seq (.ops [.i 4 (.mov (.c (.one (.full []))))]) (.seq (.seq (.ops [.i 5 (.mov (.n 0))]) (.block 0 (.loop (.seq (.seq (.ops [.m 8 5, .m 9 3, .i 10 (.len false (.t 9)), .i 11 (.bin .lss (.t 8) (.t 10))]) (.cond (.t 11) .skip (.exit 0))) (.seq (.block 1 (.seq (.ops [.m 14 3, .m 15 5, .i 16 (.indexAddr 2 (.t 14) (.t 15)), .f 17 0 16, .l 18 17, .i 19 (.call 19 [.t 18]), .m 20 19, .mk (some 21) (some (20, true)) (.mov (.t 3)) .no, .mk (some 22) (some (20, true)) (.mov (.t 5)) .no, .mk (some 23) (some (20, true)) (.indexAddr 2 (.t 21) (.t 22)) .no, .mk (some 24) (some (20, true)) (.fieldAddr 0 (.t 23)) .no, .mk (some 25) (some (20, true)) (.load false 1 (.t 24)) .no, .mk (some 26) (some (20, true)) (.mov (.t 4)) .no, .mk (some 27) (some (20, true)) (.call 21 [.t 25, .t 26]) .no, .mk (some 28) (some (20, true)) (.un .not (.t 27)) .no, .i 29 (.pick (.t 20) (.t 28) (.c (.one (.st (.bool false)))))]) (.cond (.t 29) (.ops [.m 30 4, .m 31 3, .m 32 5, .i 33 (.indexAddr 2 (.t 31) (.t 32)), .f 34 0 33, .l 35 34, .i 36 (.buildFlat [.t 35]), .i 37 (.append false 9 1 16 (.t 30) (.t 36)), .m 4 37]) .skip))) (.ops [.m 12 5, .i 13 (.bin .add (.t 12) (.n 1)), .m 5 13])))))) (.seq (.ops [.m 38 4, .m 2 38]) .ret)))))
theorem N3 : OkF Tryz.prog 20 39 [] Ih [.t 2] := .of Tryz.func20 rfl rfl (by kernel_rfl) rfl
def MF : IR :=
 (.seq (.ops [.i 1 (.box 25 (.t 0)), .i 2 (.mov (.c (.one (.st (.bool false)))))]) (.seq (.ops [.L 3 2 1, .i 4 (.call 9 [.t 3, .n 3000]), .i 5 (.bin .gtr (.t 4) (.n 3000)), .m 2 5]) .ret))
theorem Qh : OkF Tryz.prog 6 6 [] MF [.t 2] := .of Tryz.func6 rfl rfl (by kernel_rfl) rfl
def Jr : IR :=
 (.seq (.ops [.i 4 (.box 25 (.t 0)), .i 6 (.box 25 (.t 2)), .i 8 (.mov (.c (.one (.st (.bool false)))))]) (.seq (.seq (.ops [.m 9 3, .i 10 (.bin .neq (.t 9) (.n 0))]) (.cond (.t 10) (.seq (.ops [.m 11 1, .m 12 3, .i 13 (.bin .eql (.t 11) (.t 12)), .m 14 13, .mk (some 15) (some (14, true)) (.fieldAddr 0 (.t 4)) .no, .mk (some 16) (some (14, true)) (.load false 1 (.t 15)) .no, .mk (some 17) (some (14, true)) (.bin .eql (.t 16) (.c (.one (.st (.str (ByteArray.mk (#[]))))))) .no, .i 18 (.pick (.t 14) (.t 17) (.c (.one (.st (.bool false))))), .m 19 18, .mk (some 20) (some (19, true)) (.fieldAddr 1 (.t 4)) .no, .mk (some 21) (some (19, true)) (.load false 1 (.t 20)) .no, .mk (some 22) (some (19, true)) (.len false (.t 21)) .no, .mk (some 23) (some (19, true)) (.bin .eql (.t 22) (.n 0)) .no, .i 24 (.pick (.t 19) (.t 23) (.c (.one (.st (.bool false))))), .m 8 24]) .ret) .skip)) (.seq (.ops [.m 25 1, .i 26 (.bin .eql (.t 25) (.n 0)), .m 27 26, .mk (some 28) (some (27, true)) (.load true 2 (.t 4)) .no, .mk (some 29) (some (27, true)) (.load true 2 (.t 6)) .no, .mk (some 30) (some (27, true)) (.call 36 [.t 28, .t 29]) .no, .i 31 (.pick (.t 27) (.t 30) (.c (.one (.st (.bool false))))), .m 8 31]) .ret)))
theorem PX : OkF Tryz.prog 42 32 [] Jr [.t 8] := .of Tryz.func42 rfl rfl (by kernel_rfl) rfl
def HZ : IR :=
 (.seq (.ops [.i 1 (.box 25 (.t 0)), .i 2 (.alloc 25 [.st (.str (ByteArray.mk (#[]))), .full []])]) (.seq (.ops [.f 6 0 1, .l 7 6, .i 8 (.build [.st (.str (ByteArray.mk (#[]))), .full []] [(0, 1, .t 7)]), .i 3 (.alloc 25 [.st (.str (ByteArray.mk (#[]))), .full []]), .s 2 3 8]) (.seq (.seq (.ops [.f 9 1 1, .l 10 9, .i 11 (.len false (.t 10)), .i 12 (.mov (.n 0))]) (.block 0 (.loop (.seq (.ops [.i 13 (.bin .lss (.t 12) (.t 11))]) (.seq (.cond (.t 13) .skip (.exit 0)) (.seq (.block 1 (.seq (.ops [.i 14 (.indexAddr 2 (.t 10) (.t 12)), .L 15 2 14, .i 5 (.alloc 25 [.st (.str (ByteArray.mk (#[]))), .full []]), .s 2 5 15]) (.ops [.f 16 1 3, .l 17 16, .L 18 2 5, .i 19 (.call 55 [.t 18]), .i 20 (.buildSlice false 25 2 [.t 19]), .i 21 (.append false 25 2 40 (.t 17) (.t 20)), .f 22 1 3, .s 1 22 21]))) (.ops [.i 23 (.bin .add (.t 12) (.n 1)), .m 12 23]))))))) (.seq (.ops [.L 24 2 3, .s 2 2 24]) .ret))))
theorem MH : OkF Tryz.prog 55 25 [] HZ [.cell 2 true 2] := .of Tryz.func55 rfl rfl (by kernel_rfl) rfl
def BV : IR :=
 (.seq (.ops [.i 4 (.mov (.n 0))]) (.seq (.seq (.ops [.m 6 0, .i 7 (.len false (.t 6)), .i 8 (.mov (.n 0))]) (.block 0 (.loop (.seq (.ops [.i 9 (.bin .lss (.t 8) (.t 7))]) (.seq (.cond (.t 9) .skip (.exit 0)) (.seq (.block 1 (.seq (.ops [.m 10 8, .m 5 10]) (.seq (.ops [.m 11 1, .m 12 0, .m 13 5, .i 14 (.indexAddr 1 (.t 12) (.t 13)), .l 15 14, .i 16 (.bin .eql (.t 11) (.t 15))]) (.cond (.t 16) (.seq (.ops [.m 17 5, .m 4 17]) .ret) .skip)))) (.ops [.i 18 (.bin .add (.t 8) (.n 1)), .m 8 18]))))))) (.seq (.ops [.i 4 (.mov (.c (.one (.st (.int .i64 (-1))))))]) .ret)))
theorem B4 : OkF Tryz.prog 95 19 [] BV [.t 4] := .of Tryz.func95 rfl rfl (by kernel_rfl) rfl
def Bs : IR :=
 (.seq (.ops [.i 4 (.mov (.c (.one (.st (.bool false)))))]) (.seq (.ops [.m 5 0, .m 6 1, .i 7 (.call 95 [.t 5, .t 6]), .i 8 (.bin .geq (.t 7) (.n 0)), .m 4 8]) .ret))
theorem Cr : OkF Tryz.prog 66 9 [] Bs [.t 4] := .of Tryz.func66 rfl rfl (by kernel_rfl) rfl
def Ew : IR :=
 (.seq (.ops [.i 2 (.box 25 (.t 0)), .i 4 (.mov (.c (.one (.full []))))]) (.seq (.seq (.ops [.f 7 0 2, .l 8 7, .i 9 (.call 62 [.t 8]), .m 10 9, .mk (some 11) (some (10, true)) (.mov (.t 1)) .no, .mk (some 12) (some (10, true)) (.fieldAddr 0 (.t 2)) .no, .mk (some 13) (some (10, true)) (.load false 1 (.t 12)) .no, .mk (some 14) (some (10, true)) (.call 66 [.t 11, .t 13]) .no, .mk (some 15) (some (10, true)) (.un .not (.t 14)) .no, .i 16 (.pick (.t 10) (.t 15) (.c (.one (.st (.bool false)))))]) (.cond (.t 16) (.ops [.m 17 1, .f 18 0 2, .l 19 18, .i 20 (.buildFlat [.t 19]), .i 21 (.append false 9 1 16 (.t 17) (.t 20)), .m 1 21]) .skip)) (.seq (.seq (.ops [.f 22 1 2, .l 23 22, .i 24 (.len false (.t 23)), .i 25 (.mov (.n 0))]) (.block 0 (.loop (.seq (.ops [.i 26 (.bin .lss (.t 25) (.t 24))]) (.seq (.cond (.t 26) .skip (.exit 0)) (.seq (.block 1 (.seq (.ops [.i 27 (.indexAddr 2 (.t 23) (.t 25)), .L 28 2 27, .i 6 (.alloc 25 [.st (.str (ByteArray.mk (#[]))), .full []]), .s 2 6 28]) (.ops [.L 29 2 6, .m 30 1, .i 31 (.callS 93 [.t 29, .t 30]), .m 1 31]))) (.ops [.i 32 (.bin .add (.t 25) (.n 1)), .m 25 32]))))))) (.seq (.ops [.m 33 1, .m 4 33]) .ret))))
theorem Hh : OkF Tryz.prog 93 34 [31] Ew [.t 4] := .of Tryz.func93 rfl rfl (by kernel_rfl) rfl
def Hf : IR :=
 (.seq (.ops [.i 1 (.box 25 (.t 0)), .i 2 (.mov (.c (.one (.full []))))]) (.seq (.ops [.L 3 2 1, .i 4 (.callS 93 [.t 3, .c (.one (.full []))]), .m 2 4]) .ret))
theorem Mo : OkF Tryz.prog 63 5 [4] Hf [.t 2] := .of Tryz.func63 rfl rfl (by kernel_rfl) rfl

theorem DL (s : ByteArray) (k : Nat) : EA s k = Ap s k := rfl
theorem MY {s : ByteArray} (h : ¬ s.size = 0) : ¬ s = ⟨#[]⟩ := fun e => h (by rw [e]; rfl)
theorem JU {s : ByteArray} (h : s.size = 0) : s = ⟨#[]⟩ := by
 have := ByteArray.size_eq_zero_iff.1 h
 exact this
theorem R9 (n : Int) (h0 : 0 ≤ n) : AN Tryz.prog 118 [.one (.st (.int .u8 n))] (Ad (BD n)) := by
 refine KI.ac fun C hC => ?_
 unfold FK
 have hc : (97 ≤ n ∧ n ≤ 122) ∨ (122 < n) ∨ (n < 97 ∧ 65 ≤ n ∧ n ≤ 90) ∨ (n < 97 ∧ 90 < n) ∨ (n < 65 ∧ 48 ≤ n ∧ n ≤ 57) ∨ (n < 65 ∧ 57 < n) ∨ (n < 48) := by omega
 rcases hc with h | h | h | h | h | h | h
 ·have h1 : 97 ≤ n := h.1
  have h2 : n ≤ 122 := h.2
  repeat' with_reducible first | refine W ?_ | refine Z0 ?_ | ((first | refine Wo fun K hK => ?_ | refine Wq ?_ | refine Wr ?_); (try simp only [go_sem, fN, seval, eT, iR, h1, h2]); (repeat refine Ai ?_); (try (refine hK _ ?_; clear hK K)))
  simp only [go_sem, fN, seval, AK, AS.result, AB, AD, AI, BD, h1, h2]
  try simp
 ·have h1 : 97 ≤ n := by omega
  have h2 : ¬ n ≤ 122 := by omega
  have h3 : 65 ≤ n := by omega
  have h4 : ¬ n ≤ 90 := by omega
  have h5 : 48 ≤ n := by omega
  have h6 : ¬ n ≤ 57 := by omega
  repeat' with_reducible first | refine W ?_ | refine Z0 ?_ | ((first | refine Wo fun K hK => ?_ | refine Wq ?_ | refine Wr ?_); (try simp only [go_sem, fN, seval, eT, iR, h1, h2, h3, h4, h5, h6]); (repeat refine Ai ?_); (try (refine hK _ ?_; clear hK K)))
  simp only [go_sem, fN, seval, AK, AS.result, AB, AD, AI, BD, h1, h2, h3, h4, h5, h6]
  try simp
 ·have h1 : ¬ 97 ≤ n := by omega
  have h3 : 65 ≤ n := by omega
  have h4 : n ≤ 90 := by omega
  repeat' with_reducible first | refine W ?_ | refine Z0 ?_ | ((first | refine Wo fun K hK => ?_ | refine Wq ?_ | refine Wr ?_); (try simp only [go_sem, fN, seval, eT, iR, h1, h3, h4]); (repeat refine Ai ?_); (try (refine hK _ ?_; clear hK K)))
  simp only [go_sem, fN, seval, AK, AS.result, AB, AD, AI, BD, h1, h3, h4]
  try simp
 ·have h1 : ¬ 97 ≤ n := by omega
  have h3 : 65 ≤ n := by omega
  have h4 : ¬ n ≤ 90 := by omega
  have h5 : 48 ≤ n := by omega
  have h6 : ¬ n ≤ 57 := by omega
  repeat' with_reducible first | refine W ?_ | refine Z0 ?_ | ((first | refine Wo fun K hK => ?_ | refine Wq ?_ | refine Wr ?_); (try simp only [go_sem, fN, seval, eT, iR, h1, h3, h4, h5, h6]); (repeat refine Ai ?_); (try (refine hK _ ?_; clear hK K)))
  simp only [go_sem, fN, seval, AK, AS.result, AB, AD, AI, BD, h1, h3, h4, h5, h6]
  try simp
 ·have h1 : ¬ 97 ≤ n := by omega
  have h3 : ¬ 65 ≤ n := by omega
  have h5 : 48 ≤ n := by omega
  have h6 : n ≤ 57 := by omega
  repeat' with_reducible first | refine W ?_ | refine Z0 ?_ | ((first | refine Wo fun K hK => ?_ | refine Wq ?_ | refine Wr ?_); (try simp only [go_sem, fN, seval, eT, iR, h1, h3, h5, h6]); (repeat refine Ai ?_); (try (refine hK _ ?_; clear hK K)))
  simp only [go_sem, fN, seval, AK, AS.result, AB, AD, AI, BD, h1, h3, h5, h6]
  try simp
 ·have h1 : ¬ 97 ≤ n := by omega
  have h3 : ¬ 65 ≤ n := by omega
  have h5 : 48 ≤ n := by omega
  have h6 : ¬ n ≤ 57 := by omega
  repeat' with_reducible first | refine W ?_ | refine Z0 ?_ | ((first | refine Wo fun K hK => ?_ | refine Wq ?_ | refine Wr ?_); (try simp only [go_sem, fN, seval, eT, iR, h1, h3, h5, h6]); (repeat refine Ai ?_); (try (refine hK _ ?_; clear hK K)))
  simp only [go_sem, fN, seval, AK, AS.result, AB, AD, AI, BD, h1, h3, h5, h6]
  try simp
 ·have h1 : ¬ 97 ≤ n := by omega
  have h3 : ¬ 65 ≤ n := by omega
  have h5 : ¬ 48 ≤ n := by omega
  repeat' with_reducible first | refine W ?_ | refine Z0 ?_ | ((first | refine Wo fun K hK => ?_ | refine Wq ?_ | refine Wr ?_); (try simp only [go_sem, fN, seval, eT, iR, h1, h3, h5]); (repeat refine Ai ?_); (try (refine hK _ ?_; clear hK K)))
  simp only [go_sem, fN, seval, AK, AS.result, AB, AD, AI, BD, h1, h3, h5]
  try simp
theorem GY (n : Int) (h0 : 0 ≤ n) : AN Tryz.prog 43 [.one (.st (.int .u8 n))] (Ad (BD n)) := by
 refine Kk.ac fun C hC => ?_
 unfold GW
 have hc : (97 ≤ n ∧ n ≤ 122) ∨ (122 < n) ∨ (n < 97 ∧ 65 ≤ n ∧ n ≤ 90) ∨ (n < 97 ∧ 90 < n) ∨ (n < 65 ∧ 48 ≤ n ∧ n ≤ 57) ∨ (n < 65 ∧ 57 < n) ∨ (n < 48) := by omega
 rcases hc with h | h | h | h | h | h | h
 ·have h1 : 97 ≤ n := h.1
  have h2 : n ≤ 122 := h.2
  repeat' with_reducible first | refine W ?_ | refine Z0 ?_ | ((first | refine Wo fun K hK => ?_ | refine Wq ?_ | refine Wr ?_); (try simp only [go_sem, fN, seval, eT, iR, h1, h2]); (repeat refine Ai ?_); (try (refine hK _ ?_; clear hK K)))
  simp only [go_sem, fN, seval, AK, AS.result, AB, AD, AI, BD, h1, h2]
  try simp
 ·have h1 : 97 ≤ n := by omega
  have h2 : ¬ n ≤ 122 := by omega
  have h3 : 65 ≤ n := by omega
  have h4 : ¬ n ≤ 90 := by omega
  have h5 : 48 ≤ n := by omega
  have h6 : ¬ n ≤ 57 := by omega
  repeat' with_reducible first | refine W ?_ | refine Z0 ?_ | ((first | refine Wo fun K hK => ?_ | refine Wq ?_ | refine Wr ?_); (try simp only [go_sem, fN, seval, eT, iR, h1, h2, h3, h4, h5, h6]); (repeat refine Ai ?_); (try (refine hK _ ?_; clear hK K)))
  simp only [go_sem, fN, seval, AK, AS.result, AB, AD, AI, BD, h1, h2, h3, h4, h5, h6]
  try simp
 ·have h1 : ¬ 97 ≤ n := by omega
  have h3 : 65 ≤ n := by omega
  have h4 : n ≤ 90 := by omega
  repeat' with_reducible first | refine W ?_ | refine Z0 ?_ | ((first | refine Wo fun K hK => ?_ | refine Wq ?_ | refine Wr ?_); (try simp only [go_sem, fN, seval, eT, iR, h1, h3, h4]); (repeat refine Ai ?_); (try (refine hK _ ?_; clear hK K)))
  simp only [go_sem, fN, seval, AK, AS.result, AB, AD, AI, BD, h1, h3, h4]
  try simp
 ·have h1 : ¬ 97 ≤ n := by omega
  have h3 : 65 ≤ n := by omega
  have h4 : ¬ n ≤ 90 := by omega
  have h5 : 48 ≤ n := by omega
  have h6 : ¬ n ≤ 57 := by omega
  repeat' with_reducible first | refine W ?_ | refine Z0 ?_ | ((first | refine Wo fun K hK => ?_ | refine Wq ?_ | refine Wr ?_); (try simp only [go_sem, fN, seval, eT, iR, h1, h3, h4, h5, h6]); (repeat refine Ai ?_); (try (refine hK _ ?_; clear hK K)))
  simp only [go_sem, fN, seval, AK, AS.result, AB, AD, AI, BD, h1, h3, h4, h5, h6]
  try simp
 ·have h1 : ¬ 97 ≤ n := by omega
  have h3 : ¬ 65 ≤ n := by omega
  have h5 : 48 ≤ n := by omega
  have h6 : n ≤ 57 := by omega
  repeat' with_reducible first | refine W ?_ | refine Z0 ?_ | ((first | refine Wo fun K hK => ?_ | refine Wq ?_ | refine Wr ?_); (try simp only [go_sem, fN, seval, eT, iR, h1, h3, h5, h6]); (repeat refine Ai ?_); (try (refine hK _ ?_; clear hK K)))
  simp only [go_sem, fN, seval, AK, AS.result, AB, AD, AI, BD, h1, h3, h5, h6]
  try simp
 ·have h1 : ¬ 97 ≤ n := by omega
  have h3 : ¬ 65 ≤ n := by omega
  have h5 : 48 ≤ n := by omega
  have h6 : ¬ n ≤ 57 := by omega
  repeat' with_reducible first | refine W ?_ | refine Z0 ?_ | ((first | refine Wo fun K hK => ?_ | refine Wq ?_ | refine Wr ?_); (try simp only [go_sem, fN, seval, eT, iR, h1, h3, h5, h6]); (repeat refine Ai ?_); (try (refine hK _ ?_; clear hK K)))
  simp only [go_sem, fN, seval, AK, AS.result, AB, AD, AI, BD, h1, h3, h5, h6]
  try simp
 ·have h1 : ¬ 97 ≤ n := by omega
  have h3 : ¬ 65 ≤ n := by omega
  have h5 : ¬ 48 ≤ n := by omega
  repeat' with_reducible first | refine W ?_ | refine Z0 ?_ | ((first | refine Wo fun K hK => ?_ | refine Wq ?_ | refine Wr ?_); (try simp only [go_sem, fN, seval, eT, iR, h1, h3, h5]); (repeat refine Ai ?_); (try (refine hK _ ?_; clear hK K)))
  simp only [go_sem, fN, seval, AK, AS.result, AB, AD, AI, BD, h1, h3, h5]
  try simp
theorem D0 (s : ByteArray) : AN Tryz.prog 62 [CP s] (Ad (A0 s)) := by
 by_cases h0 : s.size = 0
 ·have := JU h0
  subst this
  refine Eg.ac fun C hC => ?_
  unfold C1
  repeat' with_reducible first | refine W ?_ | refine Z0 ?_ | ((first | refine Wo fun K hK => ?_ | refine Wq ?_ | refine Wr ?_); (try simp only [go_sem, fN, seval, eT, iR]); (repeat refine Ai ?_); (try (refine hK _ ?_; clear hK K)))
  simp only [go_sem, fN, seval, AK, AS.result, AB, AD, AI]
  rfl
 ·have h1 := MY h0
  have h2 : 0 < s.size := by omega
  refine Eg.ac fun C hC => ?_
  unfold C1
  by_cases h3 : 65 ≤ Ap s 0 <;> by_cases h4 : Ap s 0 ≤ 90
  all_goals
   repeat' with_reducible first | refine W ?_ | refine Z0 ?_ | ((first | refine Wo fun K hK => ?_ | refine Wq ?_ | refine Wr ?_); (try simp only [go_sem, fN, seval, eT, iR, h1, h2, DL, h3, h4]); (repeat refine Ai ?_); (try (refine hK _ ?_; clear hK K)))
   simp only [go_sem, fN, seval, AK, AS.result, AB, AD, AI, A0, h3, h4, h2]
   try simp
theorem E4 (s : ByteArray) : AN Tryz.prog 19 [CP s] (Ad (A0 s)) := by
 by_cases h0 : s.size = 0
 ·have := JU h0
  subst this
  refine Js.ac fun C hC => ?_
  unfold Gq
  repeat' with_reducible first | refine W ?_ | refine Z0 ?_ | ((first | refine Wo fun K hK => ?_ | refine Wq ?_ | refine Wr ?_); (try simp only [go_sem, fN, seval, eT, iR]); (repeat refine Ai ?_); (try (refine hK _ ?_; clear hK K)))
  simp only [go_sem, fN, seval, AK, AS.result, AB, AD, AI]
  rfl
 ·have h1 := MY h0
  have h2 : 0 < s.size := by omega
  refine Js.ac fun C hC => ?_
  unfold Gq
  by_cases h3 : 65 ≤ Ap s 0 <;> by_cases h4 : Ap s 0 ≤ 90
  all_goals
   repeat' with_reducible first | refine W ?_ | refine Z0 ?_ | ((first | refine Wo fun K hK => ?_ | refine Wq ?_ | refine Wr ?_); (try simp only [go_sem, fN, seval, eT, iR, h1, h2, DL, h3, h4]); (repeat refine Ai ?_); (try (refine hK _ ?_; clear hK K)))
   simp only [go_sem, fN, seval, AK, AS.result, AB, AD, AI, A0, h3, h4, h2]
   try simp
theorem Lv (s : ByteArray) (h1 : 1 ≤ s.size) (h8 : s.size ≤ 8) (hd : ¬ (48 ≤ Ap s 0 ∧ Ap s 0 ≤ 57)) : A5 s = CM s s.size := by
 unfold A5
 have : (decide (48 ≤ Ap s 0) && decide (Ap s 0 ≤ 57)) = false := by
  rw [Bool.and_eq_false_iff]
  simp
  omega
 rw [this]
 simp [h1, h8]
theorem UZ (s : ByteArray) : AN Tryz.prog 104 [CP s] (Ad (A5 s)) := by
 by_cases h0 : s.size < 1
 ·have e : A5 s = false := by simp [A5]; omega
  rw [e]
  have h0' : (s.size : Int) < 1 := by omega
  refine DZ.ac fun C hC => ?_
  unfold Cu
  repeat' with_reducible first | refine W ?_ | refine Z0 ?_ | ((first | refine Wo fun K hK => ?_ | refine Wq ?_ | refine Wr ?_); (try simp only [go_sem, fN, seval, eT, iR, h0']); (repeat refine Ai ?_); (try (refine hK _ ?_; clear hK K)))
  with_reducible refine Wp ?_
  simp only [go_sem, fN, seval, true_implies, false_implies, implies_true, dT, dF, nL, h0']
  (try with_reducible refine iC ?_)
  repeat' with_reducible first | refine W ?_ | refine Z0 ?_ | ((first | refine Wo fun K hK => ?_ | refine Wq ?_ | refine Wr ?_); (try simp only [go_sem, fN, seval, eT, iR]); (repeat refine Ai ?_); (try (refine hK _ ?_; clear hK K)))
  simp only [go_sem, fN, seval, AK, AS.result, AB, AD, AI]
 have h0' : ¬ (s.size : Int) < 1 := by omega
 by_cases h8 : 8 < s.size
 ·have e : A5 s = false := by simp [A5]; omega
  rw [e]
  have h8' : (8 : Int) < s.size := by omega
  refine DZ.ac fun C hC => ?_
  unfold Cu
  repeat' with_reducible first | refine W ?_ | refine Z0 ?_ | ((first | refine Wo fun K hK => ?_ | refine Wq ?_ | refine Wr ?_); (try simp only [go_sem, fN, seval, eT, iR, h0', h8']); (repeat refine Ai ?_); (try (refine hK _ ?_; clear hK K)))
  with_reducible refine Wp ?_
  simp only [go_sem, fN, seval, true_implies, false_implies, implies_true, dT, dF, nL, h0']
  (try with_reducible refine iC ?_)
  repeat' with_reducible first | refine W ?_ | refine Z0 ?_ | ((first | refine Wo fun K hK => ?_ | refine Wq ?_ | refine Wr ?_); (try simp only [go_sem, fN, seval, eT, iR]); (repeat refine Ai ?_); (try (refine hK _ ?_; clear hK K)))
  simp only [go_sem, fN, seval, AK, AS.result, AB, AD, AI]
 have h8' : ¬ (8 : Int) < s.size := by omega
 have hpos : 0 < s.size := by omega
 by_cases hd : 48 ≤ Ap s 0 ∧ Ap s 0 ≤ 57
 ·have e : A5 s = false := by simp [A5, hd.1, hd.2]
  rw [e]
  refine DZ.ac fun C hC => ?_
  unfold Cu
  repeat' with_reducible first | refine W ?_ | refine Z0 ?_ | ((first | refine Wo fun K hK => ?_ | refine Wq ?_ | refine Wr ?_); (try simp only [go_sem, fN, seval, eT, iR, h0', h8', hpos, DL, hd.1, hd.2]); (repeat refine Ai ?_); (try (refine hK _ ?_; clear hK K)))
  with_reducible refine Wp ?_
  simp only [go_sem, fN, seval, true_implies, false_implies, implies_true, dT, dF, nL, h0']
  (try with_reducible refine iC ?_)
  repeat' with_reducible first | refine W ?_ | refine Z0 ?_ | ((first | refine Wo fun K hK => ?_ | refine Wq ?_ | refine Wr ?_); (try simp only [go_sem, fN, seval, eT, iR]); (repeat refine Ai ?_); (try (refine hK _ ?_; clear hK K)))
  simp only [go_sem, fN, seval, AK, AS.result, AB, AD, AI]
 rw [Lv s (by omega) (by omega) hd]
 have hd2 : (48 ≤ Ap s 0 ∧ ¬ Ap s 0 ≤ 57) ∨ (¬ 48 ≤ Ap s 0) := by omega
 refine DZ.ac fun C hC => ?_
 unfold Cu
 have h57 : 48 ≤ Ap s 0 → ¬ Ap s 0 ≤ 57 := fun h h' => hd ⟨h, h'⟩
 by_cases h48 : 48 ≤ Ap s 0
 all_goals
  simp only [h48, true_implies, false_implies] at h57
  repeat' with_reducible first | refine W ?_ | refine Z0 ?_ | ((first | refine Wo fun K hK => ?_ | refine Wq ?_ | refine Wr ?_); (try simp only [go_sem, fN, seval, eT, iR, h0', h8', hpos, DL, h48, h57]); (repeat refine Ai ?_); (try (refine hK _ ?_; clear hK K)))
  with_reducible refine Wp ?_
  simp only [go_sem, fN, seval, true_implies, false_implies, implies_true, dT, dF, nL, h0']
  (try with_reducible refine iC ?_)
  repeat' with_reducible first | refine W ?_ | refine Z0 ?_ | ((first | refine Wo fun K hK => ?_ | refine Wq ?_ | refine Wr ?_); (try simp only [go_sem, fN, seval, eT, iR]); (repeat refine Ai ?_); (try (refine hK _ ?_; clear hK K)))
  refine IWP.loop (fun m x => ∃ k, k ≤ s.size ∧ m = s.size - k ∧ CM s k = true ∧ x.env 0 = CP s ∧ x.env 23 = AO s.size ∧ x.env 24 = AO k) s.size ⟨0, Nat.zero_le _, rfl, rfl, rfl, rfl, rfl⟩ ?_
  rintro m ⟨env, S⟩ ⟨k, hk, rfl, hl, e0, e23, e24⟩
  simp only at e0 e23 e24
  repeat' with_reducible first | refine W ?_ | refine Z0 ?_ | ((first | refine Wo fun K hK => ?_ | refine Wq ?_ | refine Wr ?_); (try simp only [go_sem, fN, seval, eT, iR, e0, e23, e24]); (repeat refine Ai ?_); (try (refine hK _ ?_; clear hK K)))
  with_reducible refine Wp ?_
  simp only [go_sem, fN, seval, true_implies, false_implies, implies_true, dT, dF, nL, e0, e23, e24]
  (try with_reducible refine iC ?_)
  refine ⟨fun hlt => ?_, fun hge => ?_⟩
  ·have hlt' : k < s.size := by omega
   repeat' (first | (with_reducible first | refine W ?_ | refine Z0 ?_ | ((first | refine Wo fun K hK => ?_ | refine Wq ?_ | refine Wr ?_); (try simp only [go_sem, fN, seval, eT, iR, e0, e23, e24, hlt', DL]); (repeat refine Ai ?_); (try (refine hK _ ?_; clear hK K)))) | refine Cg _ (R9 _ (Ep s k).1) ?_)
   with_reducible refine Wp ?_
   simp only [go_sem, fN, seval, true_implies, false_implies, implies_true, dT, dF, nL]
   (try with_reducible refine iC ?_)
   refine ⟨fun hn => ?_, fun hn => ?_⟩
   ·repeat' with_reducible first | refine W ?_ | refine Z0 ?_ | ((first | refine Wo fun K hK => ?_ | refine Wq ?_ | refine Wr ?_); (try simp only [go_sem, fN, seval, eT, iR]); (repeat refine Ai ?_); (try (refine hK _ ?_; clear hK K)))
    simp only [go_sem, fN, seval, AK, AS.result, AB, AD, AI]
    rw [HY s k hlt' (by simpa using hn)]
   ·repeat' with_reducible first | refine W ?_ | refine Z0 ?_ | ((first | refine Wo fun K hK => ?_ | refine Wq ?_ | refine Wr ?_); (try simp only [go_sem, fN, seval, eT, iR, e0, e23, e24]); (repeat refine Ai ?_); (try (refine hK _ ?_; clear hK K)))
    refine AF ⟨s.size - (k + 1), by omega, k + 1, by omega, rfl, ?_, ?_⟩
    ·rw [FS s k hlt', hl]
     simpa using hn
    ·simp only [go_sem, fN, seval, eT, iR, e0, e23, e24]
     congr 3
  ·repeat' with_reducible first | refine W ?_ | refine Z0 ?_ | ((first | refine Wo fun K hK => ?_ | refine Wq ?_ | refine Wr ?_); (try simp only [go_sem, fN, seval, eT, iR]); (repeat refine Ai ?_); (try (refine hK _ ?_; clear hK K)))
   simp only [go_sem, fN, seval, AK, AS.result, AB, AD, AI]
   rw [show s.size = k by omega, hl]
theorem Dn (s : ByteArray) : AN Tryz.prog 23 [CP s] (Ad (A5 s)) := by
 by_cases h0 : s.size < 1
 ·have e : A5 s = false := by simp [A5]; omega
  rw [e]
  have h0' : s = ⟨#[]⟩ := JU (by omega)
  subst h0'
  refine D8.ac fun C hC => ?_
  unfold DO
  repeat' with_reducible first | refine W ?_ | refine Z0 ?_ | ((first | refine Wo fun K hK => ?_ | refine Wq ?_ | refine Wr ?_); (try simp only [go_sem, fN, seval, eT, iR]); (repeat refine Ai ?_); (try (refine hK _ ?_; clear hK K)))
  with_reducible refine Wp ?_
  simp only [go_sem, fN, seval, true_implies, false_implies, implies_true, dT, dF, nL]
  (try with_reducible refine iC ?_)
  repeat' with_reducible first | refine W ?_ | refine Z0 ?_ | ((first | refine Wo fun K hK => ?_ | refine Wq ?_ | refine Wr ?_); (try simp only [go_sem, fN, seval, eT, iR]); (repeat refine Ai ?_); (try (refine hK _ ?_; clear hK K)))
  simp only [go_sem, fN, seval, AK, AS.result, AB, AD, AI]
 have h0' : ¬ s = ⟨#[]⟩ := MY (by omega)
 by_cases h8 : 8 < s.size
 ·have e : A5 s = false := by simp [A5]; omega
  rw [e]
  have h8' : (8 : Int) < s.size := by omega
  refine D8.ac fun C hC => ?_
  unfold DO
  repeat' with_reducible first | refine W ?_ | refine Z0 ?_ | ((first | refine Wo fun K hK => ?_ | refine Wq ?_ | refine Wr ?_); (try simp only [go_sem, fN, seval, eT, iR, h0', h8']); (repeat refine Ai ?_); (try (refine hK _ ?_; clear hK K)))
  with_reducible refine Wp ?_
  simp only [go_sem, fN, seval, true_implies, false_implies, implies_true, dT, dF, nL, h0']
  (try with_reducible refine iC ?_)
  repeat' with_reducible first | refine W ?_ | refine Z0 ?_ | ((first | refine Wo fun K hK => ?_ | refine Wq ?_ | refine Wr ?_); (try simp only [go_sem, fN, seval, eT, iR]); (repeat refine Ai ?_); (try (refine hK _ ?_; clear hK K)))
  simp only [go_sem, fN, seval, AK, AS.result, AB, AD, AI]
 have h8' : ¬ (8 : Int) < s.size := by omega
 have hpos : 0 < s.size := by omega
 by_cases hd : 48 ≤ Ap s 0 ∧ Ap s 0 ≤ 57
 ·have e : A5 s = false := by simp [A5, hd.1, hd.2]
  rw [e]
  refine D8.ac fun C hC => ?_
  unfold DO
  repeat' with_reducible first | refine W ?_ | refine Z0 ?_ | ((first | refine Wo fun K hK => ?_ | refine Wq ?_ | refine Wr ?_); (try simp only [go_sem, fN, seval, eT, iR, h0', h8', hpos, DL, hd.1, hd.2]); (repeat refine Ai ?_); (try (refine hK _ ?_; clear hK K)))
  with_reducible refine Wp ?_
  simp only [go_sem, fN, seval, true_implies, false_implies, implies_true, dT, dF, nL, h0']
  (try with_reducible refine iC ?_)
  repeat' with_reducible first | refine W ?_ | refine Z0 ?_ | ((first | refine Wo fun K hK => ?_ | refine Wq ?_ | refine Wr ?_); (try simp only [go_sem, fN, seval, eT, iR]); (repeat refine Ai ?_); (try (refine hK _ ?_; clear hK K)))
  simp only [go_sem, fN, seval, AK, AS.result, AB, AD, AI]
 rw [Lv s (by omega) (by omega) hd]
 refine D8.ac fun C hC => ?_
 unfold DO
 have h57 : 48 ≤ Ap s 0 → ¬ Ap s 0 ≤ 57 := fun h h' => hd ⟨h, h'⟩
 by_cases h48 : 48 ≤ Ap s 0
 all_goals
  simp only [h48, true_implies, false_implies] at h57
  repeat' with_reducible first | refine W ?_ | refine Z0 ?_ | ((first | refine Wo fun K hK => ?_ | refine Wq ?_ | refine Wr ?_); (try simp only [go_sem, fN, seval, eT, iR, h0', h8', hpos, DL, h48, h57]); (repeat refine Ai ?_); (try (refine hK _ ?_; clear hK K)))
  with_reducible refine Wp ?_
  simp only [go_sem, fN, seval, true_implies, false_implies, implies_true, dT, dF, nL, h0']
  (try with_reducible refine iC ?_)
  repeat' with_reducible first | refine W ?_ | refine Z0 ?_ | ((first | refine Wo fun K hK => ?_ | refine Wq ?_ | refine Wr ?_); (try simp only [go_sem, fN, seval, eT, iR]); (repeat refine Ai ?_); (try (refine hK _ ?_; clear hK K)))
  refine IWP.loop (fun m x => ∃ k, k ≤ s.size ∧ m = s.size - k ∧ CM s k = true ∧ x.env 0 = CP s ∧ x.env 3 = AO k) s.size ⟨0, Nat.zero_le _, rfl, rfl, rfl, rfl⟩ ?_
  rintro m ⟨env, S⟩ ⟨k, hk, rfl, hl, e0, e3⟩
  simp only at e0 e3
  repeat' with_reducible first | refine W ?_ | refine Z0 ?_ | ((first | refine Wo fun K hK => ?_ | refine Wq ?_ | refine Wr ?_); (try simp only [go_sem, fN, seval, eT, iR, e0, e3]); (repeat refine Ai ?_); (try (refine hK _ ?_; clear hK K)))
  with_reducible refine Wp ?_
  simp only [go_sem, fN, seval, true_implies, false_implies, implies_true, dT, dF, nL, e0, e3]
  (try with_reducible refine iC ?_)
  refine ⟨fun hlt => ?_, fun hge => ?_⟩
  ·have hlt' : k < s.size := by omega
   repeat' (first | (with_reducible first | refine W ?_ | refine Z0 ?_ | ((first | refine Wo fun K hK => ?_ | refine Wq ?_ | refine Wr ?_); (try simp only [go_sem, fN, seval, eT, iR, e0, e3, hlt', DL]); (repeat refine Ai ?_); (try (refine hK _ ?_; clear hK K)))) | refine Cg _ (GY _ (Ep s k).1) ?_)
   with_reducible refine Wp ?_
   simp only [go_sem, fN, seval, true_implies, false_implies, implies_true, dT, dF, nL]
   (try with_reducible refine iC ?_)
   refine ⟨fun hn => ?_, fun hn => ?_⟩
   ·repeat' with_reducible first | refine W ?_ | refine Z0 ?_ | ((first | refine Wo fun K hK => ?_ | refine Wq ?_ | refine Wr ?_); (try simp only [go_sem, fN, seval, eT, iR]); (repeat refine Ai ?_); (try (refine hK _ ?_; clear hK K)))
    simp only [go_sem, fN, seval, AK, AS.result, AB, AD, AI]
    rw [HY s k hlt' (by simpa using hn)]
   ·repeat' with_reducible first | refine W ?_ | refine Z0 ?_ | ((first | refine Wo fun K hK => ?_ | refine Wq ?_ | refine Wr ?_); (try simp only [go_sem, fN, seval, eT, iR, e0, e3]); (repeat refine Ai ?_); (try (refine hK _ ?_; clear hK K)))
    refine AF ⟨s.size - (k + 1), by omega, k + 1, by omega, rfl, ?_, ?_⟩
    ·rw [FS s k hlt', hl]
     simpa using hn
    ·simp only [go_sem, fN, seval, eT, iR, e0, e3]
     congr 3
  ·repeat' with_reducible first | refine W ?_ | refine Z0 ?_ | ((first | refine Wo fun K hK => ?_ | refine Wq ?_ | refine Wr ?_); (try simp only [go_sem, fN, seval, eT, iR]); (repeat refine Ai ?_); (try (refine hK _ ?_; clear hK K)))
   simp only [go_sem, fN, seval, AK, AS.result, AB, AD, AI]
   rw [show s.size = k by omega, hl]
theorem SM (t : Tm) (m : Int) (h0 : 0 ≤ m) (h1 : m ≤ 9223372036854775807) : AN Tryz.prog 74 [aTm t, AO m] (AO (CC t.size m)) := by
 induction h : SizeOf.sizeOf t using Nat.strongRecOn generalizing t m with
 | _ N ih =>
 subst h
 have hs := Tm.size_eq t
 refine KW.ac fun C hC => ?_
 unfold FO
 refine IWP.learn 0 (by omega) fun hkn => ?_
 have hkn := Fm hkn
 repeat' with_reducible first | refine W ?_ | refine Z0 ?_ | ((first | refine Wo fun K hK => ?_ | refine Wq ?_ | refine Wr ?_); (try simp only [go_sem, fN, seval, eT, iR]); (repeat refine Ai ?_); (try (refine hK _ ?_; clear hK K)))
 refine IWP.loopD [6] (fun n s => ∃ k, k ≤ t.args.length ∧ n = t.args.length - k ∧ s.env 1 = AO (CC (1 + Tm.sizes (t.args.take k)) m) ∧ s.env 10 = .one (.st (.list (t.args.map Al))) ∧ s.env 11 = AO t.args.length ∧ s.env 12 = AO k ∧ s.S 6 = none) t.args.length ⟨0, Nat.zero_le _, rfl, by
  simp only [go_sem, fN, seval, eT, iR]
  rw [CC]
  have z0 : Tm.sizes [] = 0 := rfl
  congr 3
  split <;> omega, rfl, rfl, rfl, rfl⟩ ?_
 rintro n ⟨env, S⟩ ⟨k, hk, rfl, e1, e10, e11, e12, s6⟩
 simp only at e1 e10 e11 e12 s6
 repeat' with_reducible first | refine W ?_ | refine Z0 ?_ | ((first | refine Wo fun K hK => ?_ | refine Wq ?_ | refine Wr ?_); (try simp only [go_sem, fN, seval, eT, iR, e1, e10, e11, e12, s6]); (repeat refine Ai ?_); (try (refine hK _ ?_; clear hK K)))
 with_reducible refine Wp ?_
 simp only [go_sem, fN, seval, true_implies, false_implies, implies_true, dT, dF, nL, e1, e10, e11, e12, s6]
 (try with_reducible refine iC ?_)
 refine ⟨fun hlt => ?_, fun hge => ?_⟩
 ·obtain ⟨a, ha⟩ := Af (show k < t.args.length by omega)
  have z1 := Tm.sizes_take ha
  have z2 := Tm.sizes_take_le t.args (k + 1)
  have z3 := Tm.length_le t.args
  have z4 := RL (1 + Tm.sizes (t.args.take k)) m h0
  repeat' with_reducible first | refine W ?_ | refine Z0 ?_ | ((first | refine Wo fun K hK => ?_ | refine Wq ?_ | refine Wr ?_); (try simp only [go_sem, fN, seval, eT, iR, e1, e10, e11, e12, s6, ha]); (repeat refine Ai ?_); (try (refine hK _ ?_; clear hK K)))
  with_reducible refine Wp ?_
  simp only [go_sem, fN, seval, true_implies, false_implies, implies_true, dT, dF, nL, e1]
  (try with_reducible refine iC ?_)
  refine ⟨fun hb => ?_, fun hb => ?_⟩
  ·repeat' with_reducible first | refine W ?_ | refine Z0 ?_ | ((first | refine Wo fun K hK => ?_ | refine Wq ?_ | refine Wr ?_); (try simp only [go_sem, fN, seval, eT, iR, e1]); (repeat refine Ai ?_); (try (refine hK _ ?_; clear hK K)))
   simp only [go_sem, fN, seval, AK, AS.result, AB, AD, AI, e1]
   rw [Ov hb (show _ ≤ t.size by rw [hs]; omega)]
  ·repeat' (first | (with_reducible first | refine W ?_ | refine Z0 ?_ | ((first | refine Wo fun K hK => ?_ | refine Wq ?_ | refine Wr ?_); (try simp only [go_sem, fN, seval, eT, iR, e1, e10, e11, e12, s6, ha]); (repeat refine Ai ?_); (try (refine hK _ ?_; clear hK K)))) | refine Cg _ (ih _ (Tm.lt_of_arg (AP ha)) a _ (by omega) (by omega) rfl) ?_)
   refine AF ⟨t.args.length - (k + 1), by omega, k + 1, by omega, rfl, ?_⟩
   simp only [go_sem, fN, seval, AS.drop, Ac, AC.clears, AC.clear, AC.highs, AC.high, Bool.not_false, Bool.true_and, Bool.and_self, AV.purge, AV.purges, AC.purge, AL.purge, List.contains_cons, List.contains_nil, Nat.reduceBEq, Bool.or_self, Bool.or_false, Bool.false_or, Bool.or_true, eT, iR, e1, e10, e11, e12, s6]
   exact ⟨by rw [NP (by omega), z1]; congr 4; omega, by congr 3⟩
 ·repeat' with_reducible first | refine W ?_ | refine Z0 ?_ | ((first | refine Wo fun K hK => ?_ | refine Wq ?_ | refine Wr ?_); (try simp only [go_sem, fN, seval, eT, iR, e1]); (repeat refine Ai ?_); (try (refine hK _ ?_; clear hK K)))
  simp only [go_sem, fN, seval, AK, AS.result, AB, AD, AI, e1]
  rw [List.take_of_length_le (by omega), hs]
theorem DF (t : Tm) (m : Int) (h0 : 0 ≤ m) (h1 : m ≤ 9223372036854775806) : AN Tryz.prog 9 [aTm t, AO m] (AO (Az t.size m)) := by
 induction h : SizeOf.sizeOf t using Nat.strongRecOn generalizing t m with
 | _ N ih =>
 subst h
 have hs := Tm.size_eq t
 refine RW.ac fun C hC => ?_
 unfold Lb
 refine IWP.learn 0 (by omega) fun hkn => ?_
 have hkn := Fm hkn
 repeat' with_reducible first | refine W ?_ | refine Z0 ?_ | ((first | refine Wo fun K hK => ?_ | refine Wq ?_ | refine Wr ?_); (try simp only [go_sem, fN, seval, eT, iR]); (repeat refine Ai ?_); (try (refine hK _ ?_; clear hK K)))
 refine IWP.loop (fun n s => ∃ k, k ≤ t.args.length ∧ n = t.args.length - k ∧ s.env 5 = AO (Az (1 + Tm.sizes (t.args.take k)) m) ∧ s.env 1 = AO m ∧ s.env 2 = .one (.ptr 2 1 0 0) ∧ s.env 6 = AO k ∧ s.S 2 = some (.box 25 [.st (.str t.name), .st (.list (t.args.map Al))])) t.args.length ⟨0, Nat.zero_le _, rfl, by
  simp only [go_sem, fN, seval, eT, iR]
  rw [Az]
  have z0 : Tm.sizes [] = 0 := rfl
  congr 3
  split <;> omega, rfl, rfl, rfl, rfl⟩ ?_
 rintro n ⟨env, S⟩ ⟨k, hk, rfl, e5, e1, e2, e6, s2⟩
 simp only at e5 e1 e2 e6 s2
 have z4 := Ha (1 + Tm.sizes (t.args.take k)) m h0
 by_cases hlt : (k : Int) < t.args.length
 ·obtain ⟨a, ha⟩ := Af (show k < t.args.length by omega)
  have z1 := Tm.sizes_take ha
  have z2 := Tm.sizes_take_le t.args (k + 1)
  by_cases hb : m < Az (1 + Tm.sizes (t.args.take k)) m
  ·have hb' : ¬ Az (1 + Tm.sizes (t.args.take k)) m ≤ m := by omega
   repeat' with_reducible first | refine W ?_ | refine Z0 ?_ | ((first | refine Wo fun K hK => ?_ | refine Wq ?_ | refine Wr ?_); (try simp only [go_sem, fN, seval, eT, iR, e5, e1, e2, e6, s2, hlt, hb']); (repeat refine Ai ?_); (try (refine hK _ ?_; clear hK K)))
   with_reducible refine Wp ?_
   simp only [go_sem, fN, seval, true_implies, false_implies, implies_true, dT, dF, nL, hb']
   (try with_reducible refine iC ?_)
   repeat' with_reducible first | refine W ?_ | refine Z0 ?_ | ((first | refine Wo fun K hK => ?_ | refine Wq ?_ | refine Wr ?_); (try simp only [go_sem, fN, seval, eT, iR, e5, e1, e2, e6, s2]); (repeat refine Ai ?_); (try (refine hK _ ?_; clear hK K)))
   with_reducible refine Wp ?_
   simp only [go_sem, fN, seval, true_implies, false_implies, implies_true, dT, dF, nL, hb]
   (try with_reducible refine iC ?_)
   repeat' with_reducible first | refine W ?_ | refine Z0 ?_ | ((first | refine Wo fun K hK => ?_ | refine Wq ?_ | refine Wr ?_); (try simp only [go_sem, fN, seval, eT, iR, e1]); (repeat refine Ai ?_); (try (refine hK _ ?_; clear hK K)))
   simp only [go_sem, fN, seval, AK, AS.result, AB, AD, AI]
   rw [Eo hb (show _ ≤ t.size by rw [hs]; omega)]
  ·have hb' : Az (1 + Tm.sizes (t.args.take k)) m ≤ m := by omega
   obtain ⟨b1, b2⟩ := Hb hb
   repeat' with_reducible first | refine W ?_ | refine Z0 ?_ | ((first | refine Wo fun K hK => ?_ | refine Wq ?_ | refine Wr ?_); (try simp only [go_sem, fN, seval, eT, iR, e5, e1, e2, e6, s2, hlt, hb']); (repeat refine Ai ?_); (try (refine hK _ ?_; clear hK K)))
   with_reducible refine Wp ?_
   simp only [go_sem, fN, seval, true_implies, false_implies, implies_true, dT, dF, nL, hb']
   (try with_reducible refine iC ?_)
   repeat' with_reducible first | refine W ?_ | refine Z0 ?_ | ((first | refine Wo fun K hK => ?_ | refine Wq ?_ | refine Wr ?_); (try simp only [go_sem, fN, seval, eT, iR, e5, e1, e2, e6, s2, ha]); (repeat refine Ai ?_); (try (refine hK _ ?_; clear hK K)))
   refine ⟨_, ih _ (Tm.lt_of_arg (AP ha)) a (m - Az (1 + Tm.sizes (t.args.take k)) m) (by omega) (by omega) rfl, ?_⟩
   have z5 := Ha a.size (m - Az (1 + Tm.sizes (t.args.take k)) m) (by omega)
   repeat' with_reducible first | refine W ?_ | refine Z0 ?_ | ((first | refine Wo fun K hK => ?_ | refine Wq ?_ | refine Wr ?_); (try simp only [go_sem, fN, seval, eT, iR, e5, e1, e2, e6, s2]); (repeat refine Ai ?_); (try (refine hK _ ?_; clear hK K)))
   refine AF ⟨t.args.length - (k + 1), by omega, k + 1, by omega, rfl, ?_⟩
   simp only [go_sem, fN, seval, eT, iR, e5, e1, e2, e6, s2]
   exact ⟨by rw [b1, JQ b2, z1]; congr 4; omega, by congr 3⟩
 ·repeat' with_reducible first | refine W ?_ | refine Z0 ?_ | ((first | refine Wo fun K hK => ?_ | refine Wq ?_ | refine Wr ?_); (try simp only [go_sem, fN, seval, eT, iR, e5, e1, e2, e6, s2, hlt]); (repeat refine Ai ?_); (try (refine hK _ ?_; clear hK K)))
  with_reducible refine Wp ?_
  simp only [go_sem, fN, seval, true_implies, false_implies, implies_true, dT, dF, nL]
  (try with_reducible refine iC ?_)
  have hfull : 1 + Tm.sizes (t.args.take k) = t.size := by rw [List.take_of_length_le (by omega), hs]
  rw [hfull] at e5 z4
  repeat' with_reducible first | refine W ?_ | refine Z0 ?_ | ((first | refine Wo fun K hK => ?_ | refine Wq ?_ | refine Wr ?_); (try simp only [go_sem, fN, seval, eT, iR, e5, e1]); (repeat refine Ai ?_); (try (refine hK _ ?_; clear hK K)))
  by_cases hb : m < Az t.size m
  ·with_reducible refine Wp ?_
   simp only [go_sem, fN, seval, true_implies, false_implies, implies_true, dT, dF, nL, hb]
   (try with_reducible refine iC ?_)
   repeat' with_reducible first | refine W ?_ | refine Z0 ?_ | ((first | refine Wo fun K hK => ?_ | refine Wq ?_ | refine Wr ?_); (try simp only [go_sem, fN, seval, eT, iR, e1]); (repeat refine Ai ?_); (try (refine hK _ ?_; clear hK K)))
   simp only [go_sem, fN, seval, AK, AS.result, AB, AD, AI]
   rw [Eo hb (Nat.le_refl _)]
  ·with_reducible refine Wp ?_
   simp only [go_sem, fN, seval, true_implies, false_implies, implies_true, dT, dF, nL, hb]
   (try with_reducible refine iC ?_)
   repeat' with_reducible first | refine W ?_ | refine Z0 ?_ | ((first | refine Wo fun K hK => ?_ | refine Wq ?_ | refine Wr ?_); (try simp only [go_sem, fN, seval, eT, iR, e5]); (repeat refine Ai ?_); (try (refine hK _ ?_; clear hK K)))
   simp only [go_sem, fN, seval, AK, AS.result, AB, AD, AI, e5]
theorem UA (t : Tm) : AN Tryz.prog 75 [aTm t] (AO t.chk) := by
 induction h : SizeOf.sizeOf t using Nat.strongRecOn generalizing t with
 | _ N ih =>
 subst h
 have hc := Tm.chk_eq t
 have hc1 : Ba t = if A5 t.name = true then (if A0 t.name = true ∧ 0 < t.args.length then 2 else 0) else 1 := rfl
 refine Ki.ac fun C hC => ?_
 unfold GK
 refine IWP.learn 0 (by omega) fun hkn => ?_
 have hkn := Fm hkn
 repeat' with_reducible first | refine W ?_ | refine Z0 ?_ | ((first | refine Wo fun K hK => ?_ | refine Wq ?_ | refine Wr ?_); (try simp only [go_sem, fN, seval, eT, iR]); (repeat refine Ai ?_); (try (refine hK _ ?_; clear hK K)))
 refine ⟨_, UZ _, ?_⟩
 cases hn : A5 t.name with
 | false =>
  rw [hn, if_neg (by simp)] at hc1
  repeat' with_reducible first | refine W ?_ | refine Z0 ?_ | ((first | refine Wo fun K hK => ?_ | refine Wq ?_ | refine Wr ?_); (try simp only [go_sem, fN, seval, eT, iR]); (repeat refine Ai ?_); (try (refine hK _ ?_; clear hK K)))
  with_reducible refine Wp ?_
  simp only [go_sem, fN, seval, true_implies, false_implies, implies_true, dT, dF, nL]
  (try with_reducible refine iC ?_)
  repeat' with_reducible first | refine W ?_ | refine Z0 ?_ | ((first | refine Wo fun K hK => ?_ | refine Wq ?_ | refine Wr ?_); (try simp only [go_sem, fN, seval, eT, iR]); (repeat refine Ai ?_); (try (refine hK _ ?_; clear hK K)))
  simp only [go_sem, fN, seval, AK, AS.result, AB, AD, AI]
  rw [hc, hc1]
  rfl
 | true =>
  rw [hn, if_pos rfl] at hc1
  repeat' with_reducible first | refine W ?_ | refine Z0 ?_ | ((first | refine Wo fun K hK => ?_ | refine Wq ?_ | refine Wr ?_); (try simp only [go_sem, fN, seval, eT, iR]); (repeat refine Ai ?_); (try (refine hK _ ?_; clear hK K)))
  with_reducible refine Wp ?_
  simp only [go_sem, fN, seval, true_implies, false_implies, implies_true, dT, dF, nL]
  (try with_reducible refine iC ?_)
  repeat' with_reducible first | refine W ?_ | refine Z0 ?_ | ((first | refine Wo fun K hK => ?_ | refine Wq ?_ | refine Wr ?_); (try simp only [go_sem, fN, seval, eT, iR]); (repeat refine Ai ?_); (try (refine hK _ ?_; clear hK K)))
  refine ⟨_, D0 _, ?_⟩
  by_cases hv : A0 t.name = true ∧ 0 < t.args.length
  ·obtain ⟨hv1, hv2⟩ := hv
   have hv2' : (0 : Int) < t.args.length := by omega
   rw [if_pos ⟨hv1, hv2⟩] at hc1
   rw [hv1]
   repeat' with_reducible first | refine W ?_ | refine Z0 ?_ | ((first | refine Wo fun K hK => ?_ | refine Wq ?_ | refine Wr ?_); (try simp only [go_sem, fN, seval, eT, iR, hv2']); (repeat refine Ai ?_); (try (refine hK _ ?_; clear hK K)))
   with_reducible refine Wp ?_
   simp only [go_sem, fN, seval, true_implies, false_implies, implies_true, dT, dF, nL, hv2']
   (try with_reducible refine iC ?_)
   repeat' with_reducible first | refine W ?_ | refine Z0 ?_ | ((first | refine Wo fun K hK => ?_ | refine Wq ?_ | refine Wr ?_); (try simp only [go_sem, fN, seval, eT, iR]); (repeat refine Ai ?_); (try (refine hK _ ?_; clear hK K)))
   simp only [go_sem, fN, seval, AK, AS.result, AB, AD, AI]
   rw [hc, hc1]
   rfl
  ·rw [if_neg hv] at hc1
   rw [if_pos hc1] at hc
   have hv2 : A0 t.name = true → ¬ (0 : Int) < t.args.length := fun h h' => hv ⟨h, by omega⟩
   cases hvv : A0 t.name
   all_goals
    simp only [hvv, true_implies, false_implies, Bool.false_eq_true] at hv2
    repeat' with_reducible first | refine W ?_ | refine Z0 ?_ | ((first | refine Wo fun K hK => ?_ | refine Wq ?_ | refine Wr ?_); (try simp only [go_sem, fN, seval, eT, iR, hv2]); (repeat refine Ai ?_); (try (refine hK _ ?_; clear hK K)))
    with_reducible refine Wp ?_
    simp only [go_sem, fN, seval, true_implies, false_implies, implies_true, dT, dF, nL, hv2]
    (try with_reducible refine iC ?_)
    repeat' with_reducible first | refine W ?_ | refine Z0 ?_ | ((first | refine Wo fun K hK => ?_ | refine Wq ?_ | refine Wr ?_); (try simp only [go_sem, fN, seval, eT, iR]); (repeat refine Ai ?_); (try (refine hK _ ?_; clear hK K)))
    refine IWP.loopD [4] (fun n s => ∃ k, k ≤ t.args.length ∧ n = t.args.length - k ∧ Tm.chkL (t.args.take k) = 0 ∧ s.env 20 = .one (.st (.list (t.args.map Al))) ∧ s.env 21 = AO t.args.length ∧ s.env 22 = AO k ∧ s.S 4 = none) t.args.length ⟨0, Nat.zero_le _, rfl, rfl, rfl, rfl, rfl, rfl⟩ ?_
    rintro n ⟨env, S⟩ ⟨k, hk, rfl, h0, e20, e21, e22, s4⟩
    simp only at e20 e21 e22 s4
    repeat' with_reducible first | refine W ?_ | refine Z0 ?_ | ((first | refine Wo fun K hK => ?_ | refine Wq ?_ | refine Wr ?_); (try simp only [go_sem, fN, seval, eT, iR, e20, e21, e22, s4]); (repeat refine Ai ?_); (try (refine hK _ ?_; clear hK K)))
    with_reducible refine Wp ?_
    simp only [go_sem, fN, seval, true_implies, false_implies, implies_true, dT, dF, nL, e20, e21, e22, s4]
    (try with_reducible refine iC ?_)
    refine ⟨fun hlt => ?_, fun hge => ?_⟩
    ·obtain ⟨a, ha⟩ := Af (show k < t.args.length by omega)
     obtain ⟨g1, g2⟩ := Tm.chkL_get ha h0
     repeat' (first | (with_reducible first | refine W ?_ | refine Z0 ?_ | ((first | refine Wo fun K hK => ?_ | refine Wq ?_ | refine Wr ?_); (try simp only [go_sem, fN, seval, eT, iR, e20, e21, e22, s4, ha]); (repeat refine Ai ?_); (try (refine hK _ ?_; clear hK K)))) | refine Cg _ (ih _ (Tm.lt_of_arg (AP ha)) a rfl) ?_)
     with_reducible refine Wp ?_
     simp only [go_sem, fN, seval, true_implies, false_implies, implies_true, dT, dF, nL]
     (try with_reducible refine iC ?_)
     refine ⟨fun hb => ?_, fun hb => ?_⟩
     ·repeat' with_reducible first | refine W ?_ | refine Z0 ?_ | ((first | refine Wo fun K hK => ?_ | refine Wq ?_ | refine Wr ?_); (try simp only [go_sem, fN, seval, eT, iR]); (repeat refine Ai ?_); (try (refine hK _ ?_; clear hK K)))
      simp only [go_sem, fN, seval, AK, AS.result, AB, AD, AI]
      rw [hc, g2 hb]
     ·repeat' with_reducible first | refine W ?_ | refine Z0 ?_ | ((first | refine Wo fun K hK => ?_ | refine Wq ?_ | refine Wr ?_); (try simp only [go_sem, fN, seval, eT, iR, e20, e21, e22, s4]); (repeat refine Ai ?_); (try (refine hK _ ?_; clear hK K)))
      refine AF ⟨t.args.length - (k + 1), by omega, k + 1, by omega, rfl, g1 (by omega), ?_⟩
      simp only [go_sem, fN, seval, AS.drop, Ac, AC.clears, AC.clear, AC.highs, AC.high, Bool.not_false, Bool.true_and, Bool.and_self, AV.purge, AV.purges, AC.purge, AL.purge, List.contains_cons, List.contains_nil, Nat.reduceBEq, Bool.or_self, Bool.or_false, Bool.false_or, Bool.or_true, eT, iR, e20, e21, e22, s4]
      congr 3
    ·repeat' with_reducible first | refine W ?_ | refine Z0 ?_ | ((first | refine Wo fun K hK => ?_ | refine Wq ?_ | refine Wr ?_); (try simp only [go_sem, fN, seval, eT, iR]); (repeat refine Ai ?_); (try (refine hK _ ?_; clear hK K)))
     simp only [go_sem, fN, seval, AK, AS.result, AB, AD, AI]
     rw [List.take_of_length_le (by omega)] at h0
     rw [hc, h0]
theorem Dy (t : Tm) : AN Tryz.prog 48 [aTm t] (AO t.may) := by
 have hm : t.may = if 200 < t.size then 3 else t.chk := rfl
 refine Kg.ac fun C hC => ?_
 unfold GQ
 repeat' with_reducible first | refine W ?_ | refine Z0 ?_ | ((first | refine Wo fun K hK => ?_ | refine Wq ?_ | refine Wr ?_); (try simp only [go_sem, fN, seval, eT, iR]); (repeat refine Ai ?_); (try (refine hK _ ?_; clear hK K)))
 refine ⟨_, SM t 200 (by omega) (by omega), ?_⟩
 by_cases h : CC t.size 200 < 0
 ·repeat' with_reducible first | refine W ?_ | refine Z0 ?_ | ((first | refine Wo fun K hK => ?_ | refine Wq ?_ | refine Wr ?_); (try simp only [go_sem, fN, seval, eT, iR, h]); (repeat refine Ai ?_); (try (refine hK _ ?_; clear hK K)))
  with_reducible refine Wp ?_
  simp only [go_sem, fN, seval, true_implies, false_implies, implies_true, dT, dF, nL, h]
  (try with_reducible refine iC ?_)
  repeat' with_reducible first | refine W ?_ | refine Z0 ?_ | ((first | refine Wo fun K hK => ?_ | refine Wq ?_ | refine Wr ?_); (try simp only [go_sem, fN, seval, eT, iR]); (repeat refine Ai ?_); (try (refine hK _ ?_; clear hK K)))
  simp only [go_sem, fN, seval, AK, AS.result, AB, AD, AI]
  unfold CC at h
  rw [hm, if_pos (by split at h <;> omega)]
 ·repeat' with_reducible first | refine W ?_ | refine Z0 ?_ | ((first | refine Wo fun K hK => ?_ | refine Wq ?_ | refine Wr ?_); (try simp only [go_sem, fN, seval, eT, iR, h]); (repeat refine Ai ?_); (try (refine hK _ ?_; clear hK K)))
  with_reducible refine Wp ?_
  simp only [go_sem, fN, seval, true_implies, false_implies, implies_true, dT, dF, nL, h]
  (try with_reducible refine iC ?_)
  repeat' (first | (with_reducible first | refine W ?_ | refine Z0 ?_ | ((first | refine Wo fun K hK => ?_ | refine Wq ?_ | refine Wr ?_); (try simp only [go_sem, fN, seval, eT, iR]); (repeat refine Ai ?_); (try (refine hK _ ?_; clear hK K)))) | refine Cg _ (UA t) ?_)
  simp only [go_sem, fN, seval, AK, AS.result, AB, AD, AI]
  unfold CC at h
  rw [hm, if_neg (by split at h <;> omega)]
theorem MT (t : Tm) (hz : t.size ≤ 1000000) : AN Tryz.prog 22 [aTm t] (FH t.knots) := by
 induction h : SizeOf.sizeOf t using Nat.strongRecOn generalizing t with
 | _ N ih =>
 subst h
 have hs := Tm.size_eq t
 refine PZ.ac fun C hC => ?_
 unfold JX
 repeat' with_reducible first | refine W ?_ | refine Z0 ?_ | ((first | refine Wo fun K hK => ?_ | refine Wq ?_ | refine Wr ?_); (try simp only [go_sem, fN, seval, eT, iR]); (repeat refine Ai ?_); (try (refine hK _ ?_; clear hK K)))
 refine IWP.ghost (Aa.own 3 21 25 2 (xs := ([t].map Al)) (by simp only [go_sem, fN, seval, eT, iR]) rfl C3 (by omega)) ?_
 have hlen := Tm.length_le t.args
 refine IWP.loopD [] (fun m s => ∃ k, k ≤ t.args.length ∧ m = t.args.length - k ∧ s.env 1 = .one (.ptr 1 1 0 0) ∧ s.S 1 = some (.box 25 [.st (.str t.name), .st (.list (t.args.map Al))]) ∧ s.env 3 = .one (.row 21 (t :: Tm.knotsL (t.args.take k)).length) ∧ s.S 21 = some (.arow 25 2 ((t :: Tm.knotsL (t.args.take k)).map Al)) ∧ s.env 4 = AO k)
  t.args.length ⟨0, Nat.zero_le _, rfl, rfl, rfl, rfl, rfl, rfl⟩ ?_
 rintro m ⟨env, S⟩ ⟨k, hk, rfl, e1, s1, e3, s21, e4⟩
 simp only at e1 s1 e3 s21 e4
 repeat' with_reducible first | refine W ?_ | refine Z0 ?_ | ((first | refine Wo fun K hK => ?_ | refine Wq ?_ | refine Wr ?_); (try simp only [go_sem, fN, seval, eT, iR, e1, s1, e3, s21, e4]); (repeat refine Ai ?_); (try (refine hK _ ?_; clear hK K)))
 with_reducible refine Wp ?_
 simp only [go_sem, fN, seval, true_implies, false_implies, implies_true, dT, dF, nL]
 (try with_reducible refine iC ?_)
 refine ⟨fun hlt => ?_, fun hge => ?_⟩
 ·obtain ⟨a, ha⟩ := Af (show k < t.args.length by omega)
  have z1 := Tm.sizes_take ha
  have z2 := Tm.sizes_take_le t.args (k + 1)
  have z3 := Tm.knots_length a
  have z4 := Tm.knotsL_length (t.args.take k)
  repeat' (first | (with_reducible first | refine W ?_ | refine Z0 ?_ | ((first | refine Wo fun K hK => ?_ | refine Wq ?_ | refine Wr ?_); (try simp only [go_sem, fN, seval, eT, iR, e1, s1, e3, s21, e4, ha]); (repeat refine Ai ?_); (try (refine hK _ ?_; clear hK K)))) | refine Cg _ (ih _ (Tm.lt_of_arg (AP ha)) a (by omega) rfl) ?_)
  refine AF ⟨t.args.length - (k + 1), by omega, k + 1, by omega, rfl, ?_⟩
  simp only [go_sem, fN, seval, AS.drop, Ac, AC.clears, AC.clear, AC.highs, AC.high, Bool.not_false, Bool.true_and, Bool.and_self, AV.purge, AV.purges, AC.purge, AL.purge, List.contains_cons, List.contains_nil, Nat.reduceBEq, Bool.or_self, Bool.or_false, Bool.false_or, Bool.or_true, eT, iR, e1, s1, e3, s21, e4]
  rw [Tm.knotsL_take ha]
  exact ⟨by simp <;> omega, by simp [BI], rfl⟩
 ·repeat' with_reducible first | refine W ?_ | refine Z0 ?_ | ((first | refine Wo fun K hK => ?_ | refine Wq ?_ | refine Wr ?_); (try simp only [go_sem, fN, seval, eT, iR, e1, s1, e3, s21, e4]); (repeat refine Ai ?_); (try (refine hK _ ?_; clear hK K)))
  simp only [go_sem, fN, seval, AK, AS.result, AB, AD, AI, e3, s21]
  rw [List.take_of_length_le (by omega), Tm.knots_eq]
  rfl
theorem Aw (t : Tm) : AN Tryz.prog 8 [aTm t] (AO t.may) := by
 have hm : t.may = if 200 < t.size then 3 else t.chk := rfl
 refine NC.ac fun C hC => ?_
 unfold Hi
 repeat' with_reducible first | refine W ?_ | refine Z0 ?_ | ((first | refine Wo fun K hK => ?_ | refine Wq ?_ | refine Wr ?_); (try simp only [go_sem, fN, seval, eT, iR]); (repeat refine Ai ?_); (try (refine hK _ ?_; clear hK K)))
 refine ⟨_, DF t 200 (by omega) (by omega), ?_⟩
 by_cases h : (200 : Int) < Az t.size 200
 ·repeat' with_reducible first | refine W ?_ | refine Z0 ?_ | ((first | refine Wo fun K hK => ?_ | refine Wq ?_ | refine Wr ?_); (try simp only [go_sem, fN, seval, eT, iR, h]); (repeat refine Ai ?_); (try (refine hK _ ?_; clear hK K)))
  with_reducible refine Wp ?_
  simp only [go_sem, fN, seval, true_implies, false_implies, implies_true, dT, dF, nL, h]
  (try with_reducible refine iC ?_)
  repeat' with_reducible first | refine W ?_ | refine Z0 ?_ | ((first | refine Wo fun K hK => ?_ | refine Wq ?_ | refine Wr ?_); (try simp only [go_sem, fN, seval, eT, iR]); (repeat refine Ai ?_); (try (refine hK _ ?_; clear hK K)))
  simp only [go_sem, fN, seval, AK, AS.result, AB, AD, AI]
  unfold Az at h
  rw [hm, if_pos (by split at h <;> omega)]
 have hz := (Hb h).2
 rw [if_neg (by omega)] at hm
 repeat' with_reducible first | refine W ?_ | refine Z0 ?_ | ((first | refine Wo fun K hK => ?_ | refine Wq ?_ | refine Wr ?_); (try simp only [go_sem, fN, seval, eT, iR, h]); (repeat refine Ai ?_); (try (refine hK _ ?_; clear hK K)))
 with_reducible refine Wp ?_
 simp only [go_sem, fN, seval, true_implies, false_implies, implies_true, dT, dF, nL, h]
 (try with_reducible refine iC ?_)
 repeat' (first | (with_reducible first | refine W ?_ | refine Z0 ?_ | ((first | refine Wo fun K hK => ?_ | refine Wq ?_ | refine Wr ?_); (try simp only [go_sem, fN, seval, eT, iR]); (repeat refine Ai ?_); (try (refine hK _ ?_; clear hK K)))) | refine Cg _ (MT t (by omega)) ?_)
 have hl := Tm.knots_length t
 have hc := Tm.firstErr_knots t
 refine IWP.loop (fun n s => ∃ k, k ≤ t.knots.length ∧ n = t.knots.length - k ∧ BY (t.knots.take k) = 0 ∧ s.env 3 = FH t.knots ∧ s.env 4 = AO k) t.knots.length ⟨0, Nat.zero_le _, rfl, rfl, rfl, rfl⟩ ?_
 rintro n ⟨env, S⟩ ⟨k, hk, rfl, h0, e3, e4⟩
 simp only at e3 e4
 repeat' with_reducible first | refine W ?_ | refine Z0 ?_ | ((first | refine Wo fun K hK => ?_ | refine Wq ?_ | refine Wr ?_); (try simp only [go_sem, fN, seval, eT, iR, e3, e4]); (repeat refine Ai ?_); (try (refine hK _ ?_; clear hK K)))
 with_reducible refine Wp ?_
 simp only [go_sem, fN, seval, true_implies, false_implies, implies_true, dT, dF, nL]
 (try with_reducible refine iC ?_)
 refine ⟨fun hlt => ?_, fun hge => ?_⟩
 ·obtain ⟨a, ha⟩ := Af (show k < t.knots.length by omega)
  obtain ⟨g1, g2⟩ := Mc ha h0
  have hc1 : Ba a = if A5 a.name = true then (if A0 a.name = true ∧ 0 < a.args.length then 2 else 0) else 1 := rfl
  repeat' with_reducible first | refine W ?_ | refine Z0 ?_ | ((first | refine Wo fun K hK => ?_ | refine Wq ?_ | refine Wr ?_); (try simp only [go_sem, fN, seval, eT, iR, e3, e4, ha]); (repeat refine Ai ?_); (try (refine hK _ ?_; clear hK K)))
  refine ⟨_, Dn _, ?_⟩
  cases hn : A5 a.name with
  | false =>
   rw [hn, if_neg (by simp)] at hc1
   repeat' with_reducible first | refine W ?_ | refine Z0 ?_ | ((first | refine Wo fun K hK => ?_ | refine Wq ?_ | refine Wr ?_); (try simp only [go_sem, fN, seval, eT, iR]); (repeat refine Ai ?_); (try (refine hK _ ?_; clear hK K)))
   with_reducible refine Wp ?_
   simp only [go_sem, fN, seval, true_implies, false_implies, implies_true, dT, dF, nL]
   (try with_reducible refine iC ?_)
   repeat' with_reducible first | refine W ?_ | refine Z0 ?_ | ((first | refine Wo fun K hK => ?_ | refine Wq ?_ | refine Wr ?_); (try simp only [go_sem, fN, seval, eT, iR]); (repeat refine Ai ?_); (try (refine hK _ ?_; clear hK K)))
   simp only [go_sem, fN, seval, AK, AS.result, AB, AD, AI]
   rw [hm, ← hc, g2 (by omega), hc1]
  | true =>
   rw [hn, if_pos rfl] at hc1
   repeat' with_reducible first | refine W ?_ | refine Z0 ?_ | ((first | refine Wo fun K hK => ?_ | refine Wq ?_ | refine Wr ?_); (try simp only [go_sem, fN, seval, eT, iR]); (repeat refine Ai ?_); (try (refine hK _ ?_; clear hK K)))
   with_reducible refine Wp ?_
   simp only [go_sem, fN, seval, true_implies, false_implies, implies_true, dT, dF, nL]
   (try with_reducible refine iC ?_)
   repeat' with_reducible first | refine W ?_ | refine Z0 ?_ | ((first | refine Wo fun K hK => ?_ | refine Wq ?_ | refine Wr ?_); (try simp only [go_sem, fN, seval, eT, iR, e3, e4, ha]); (repeat refine Ai ?_); (try (refine hK _ ?_; clear hK K)))
   refine ⟨_, E4 _, ?_⟩
   by_cases hv : A0 a.name = true ∧ 0 < a.args.length
   ·obtain ⟨hv1, hv2⟩ := hv
    have hv2' : (0 : Int) < a.args.length := by omega
    rw [if_pos ⟨hv1, hv2⟩] at hc1
    rw [hv1]
    repeat' with_reducible first | refine W ?_ | refine Z0 ?_ | ((first | refine Wo fun K hK => ?_ | refine Wq ?_ | refine Wr ?_); (try simp only [go_sem, fN, seval, eT, iR, e3, e4, ha, hv2']); (repeat refine Ai ?_); (try (refine hK _ ?_; clear hK K)))
    with_reducible refine Wp ?_
    simp only [go_sem, fN, seval, true_implies, false_implies, implies_true, dT, dF, nL, hv2']
    (try with_reducible refine iC ?_)
    repeat' with_reducible first | refine W ?_ | refine Z0 ?_ | ((first | refine Wo fun K hK => ?_ | refine Wq ?_ | refine Wr ?_); (try simp only [go_sem, fN, seval, eT, iR]); (repeat refine Ai ?_); (try (refine hK _ ?_; clear hK K)))
    simp only [go_sem, fN, seval, AK, AS.result, AB, AD, AI]
    rw [hm, ← hc, g2 (by omega), hc1]
   ·rw [if_neg hv] at hc1
    have hv2 : A0 a.name = true → ¬ (0 : Int) < a.args.length := fun h h' => hv ⟨h, by omega⟩
    cases hvv : A0 a.name
    all_goals
     simp only [hvv, true_implies, false_implies, Bool.false_eq_true] at hv2
     repeat' with_reducible first | refine W ?_ | refine Z0 ?_ | ((first | refine Wo fun K hK => ?_ | refine Wq ?_ | refine Wr ?_); (try simp only [go_sem, fN, seval, eT, iR, e3, e4, ha, hv2]); (repeat refine Ai ?_); (try (refine hK _ ?_; clear hK K)))
     with_reducible refine Wp ?_
     simp only [go_sem, fN, seval, true_implies, false_implies, implies_true, dT, dF, nL, hv2]
     (try with_reducible refine iC ?_)
     repeat' with_reducible first | refine W ?_ | refine Z0 ?_ | ((first | refine Wo fun K hK => ?_ | refine Wq ?_ | refine Wr ?_); (try simp only [go_sem, fN, seval, eT, iR, e3, e4]); (repeat refine Ai ?_); (try (refine hK _ ?_; clear hK K)))
     refine AF ⟨t.knots.length - (k + 1), by omega, k + 1, by omega, rfl, g1 hc1, ?_⟩
     simp only [go_sem, fN, seval, eT, iR, e3, e4]
     congr 3
 ·repeat' with_reducible first | refine W ?_ | refine Z0 ?_ | ((first | refine Wo fun K hK => ?_ | refine Wq ?_ | refine Wr ?_); (try simp only [go_sem, fN, seval, eT, iR]); (repeat refine Ai ?_); (try (refine hK _ ?_; clear hK K)))
  simp only [go_sem, fN, seval, AK, AS.result, AB, AD, AI]
  rw [List.take_of_length_le (by omega)] at h0
  rw [hm, ← hc, h0]
def Bx (a b : Tm) : Int := if a.may = 0 then b.may else a.may
theorem BK (t u : Tm) : AN Tryz.prog 18 [aTm t, aTm u] (AO (Bx t u)) := by
 refine Oa.ac fun C hC => ?_
 unfold Ik
 repeat' with_reducible first | refine W ?_ | refine Z0 ?_ | ((first | refine Wo fun K hK => ?_ | refine Wq ?_ | refine Wr ?_); (try simp only [go_sem, fN, seval, eT, iR]); (repeat refine Ai ?_); (try (refine hK _ ?_; clear hK K)))
 refine ⟨_, Aw t, ?_⟩
 by_cases h : t.may = 0
 ·repeat' with_reducible first | refine W ?_ | refine Z0 ?_ | ((first | refine Wo fun K hK => ?_ | refine Wq ?_ | refine Wr ?_); (try simp only [go_sem, fN, seval, eT, iR, h]); (repeat refine Ai ?_); (try (refine hK _ ?_; clear hK K)))
  with_reducible refine Wp ?_
  simp only [go_sem, fN, seval, true_implies, false_implies, implies_true, dT, dF, nL, h]
  (try with_reducible refine iC ?_)
  repeat' (first | (with_reducible first | refine W ?_ | refine Z0 ?_ | ((first | refine Wo fun K hK => ?_ | refine Wq ?_ | refine Wr ?_); (try simp only [go_sem, fN, seval, eT, iR]); (repeat refine Ai ?_); (try (refine hK _ ?_; clear hK K)))) | refine Cg _ (Aw u) ?_)
  simp only [go_sem, fN, seval, AK, AS.result, AB, AD, AI]
  rw [Bx, if_pos h]
 ·repeat' with_reducible first | refine W ?_ | refine Z0 ?_ | ((first | refine Wo fun K hK => ?_ | refine Wq ?_ | refine Wr ?_); (try simp only [go_sem, fN, seval, eT, iR, h]); (repeat refine Ai ?_); (try (refine hK _ ?_; clear hK K)))
  with_reducible refine Wp ?_
  simp only [go_sem, fN, seval, true_implies, false_implies, implies_true, dT, dF, nL, h]
  (try with_reducible refine iC ?_)
  repeat' with_reducible first | refine W ?_ | refine Z0 ?_ | ((first | refine Wo fun K hK => ?_ | refine Wq ?_ | refine Wr ?_); (try simp only [go_sem, fN, seval, eT, iR]); (repeat refine Ai ?_); (try (refine hK _ ?_; clear hK K)))
  simp only [go_sem, fN, seval, AK, AS.result, AB, AD, AI]
  rw [Bx, if_neg h]
theorem An (t : Tm) : AN Tryz.prog 6 [aTm t] (Ad (decide (3000 < t.size))) := by
 have hc : ((3000 : Int) < Az t.size 3000) = (3000 < t.size) := by
  unfold Az
  by_cases h : (3000 : Int) < t.size
  ·rw [if_pos h]; simp; omega
  ·rw [if_neg h]; simp; omega
 refine Qh.ac fun C hC => ?_
 unfold MF
 repeat' (first | (with_reducible first | refine W ?_ | refine Z0 ?_ | ((first | refine Wo fun K hK => ?_ | refine Wq ?_ | refine Wr ?_); (try simp only [go_sem, fN, seval, eT, iR]); (repeat refine Ai ?_); (try (refine hK _ ?_; clear hK K)))) | refine Cg _ (DF t 3000 (by omega) (by omega)) ?_)
 simp only [go_sem, fN, seval, AK, AS.result, AB, AD, AI, hc]
theorem Ue (x : ByteArray) (l : List ByteArray) : AN Tryz.prog 21 [CP x, B3 l] (Ad (CQ x l)) := by
 refine Tx.ac fun C hC => ?_
 unfold Py
 refine IWP.learn 1 (by omega) fun hkn => ?_
 have hkn := Dd hkn
 rw [List.length_map] at hkn
 repeat' with_reducible first | refine W ?_ | refine Z0 ?_ | ((first | refine Wo fun K hK => ?_ | refine Wq ?_ | refine Wr ?_); (try simp only [go_sem, fN, seval, eT, iR]); (repeat refine Ai ?_); (try (refine hK _ ?_; clear hK K)))
 refine IWP.loop (fun n s => ∃ k, k ≤ l.length ∧ n = l.length - k ∧ CQ x (l.take k) = false ∧ s.env 0 = CP x ∧ s.env 1 = B3 l ∧ s.env 5 = AO k) l.length ⟨0, Nat.zero_le _, rfl, rfl, rfl, rfl, rfl⟩ ?_
 rintro n ⟨env, S⟩ ⟨k, hk, rfl, h0, e0, e1, e5⟩
 simp only at e0 e1 e5
 repeat' with_reducible first | refine W ?_ | refine Z0 ?_ | ((first | refine Wo fun K hK => ?_ | refine Wq ?_ | refine Wr ?_); (try simp only [go_sem, fN, seval, eT, iR, e0, e1, e5]); (repeat refine Ai ?_); (try (refine hK _ ?_; clear hK K)))
 with_reducible refine Wp ?_
 simp only [go_sem, fN, seval, true_implies, false_implies, implies_true, dT, dF, nL]
 (try with_reducible refine iC ?_)
 refine ⟨fun hlt => ?_, fun hge => ?_⟩
 ·obtain ⟨a, ha⟩ := Af (show k < l.length by omega)
  repeat' with_reducible first | refine W ?_ | refine Z0 ?_ | ((first | refine Wo fun K hK => ?_ | refine Wq ?_ | refine Wr ?_); (try simp only [go_sem, fN, seval, eT, iR, e0, e1, e5, ha]); (repeat refine Ai ?_); (try (refine hK _ ?_; clear hK K)))
  with_reducible refine Wp ?_
  simp only [go_sem, fN, seval, true_implies, false_implies, implies_true, dT, dF, nL]
  (try with_reducible refine iC ?_)
  refine ⟨fun hb => ?_, fun hb => ?_⟩
  ·repeat' with_reducible first | refine W ?_ | refine Z0 ?_ | ((first | refine Wo fun K hK => ?_ | refine Wq ?_ | refine Wr ?_); (try simp only [go_sem, fN, seval, eT, iR]); (repeat refine Ai ?_); (try (refine hK _ ?_; clear hK K)))
   simp only [go_sem, fN, seval, AK, AS.result, AB, AD, AI]
   rw [HC.2 (by rw [← hb]; exact AP ha)]
  ·repeat' with_reducible first | refine W ?_ | refine Z0 ?_ | ((first | refine Wo fun K hK => ?_ | refine Wq ?_ | refine Wr ?_); (try simp only [go_sem, fN, seval, eT, iR, e0, e1, e5]); (repeat refine Ai ?_); (try (refine hK _ ?_; clear hK K)))
   refine AF ⟨l.length - (k + 1), by omega, k + 1, by omega, rfl, ?_, ?_⟩
   ·rw [Ak ha, Mb]
    rw [Mb] at h0
    simp only [List.mem_append, List.mem_singleton, not_or]
    exact ⟨h0, fun e => hb e.symm⟩
   ·simp only [go_sem, fN, seval, eT, iR, e0, e1, e5]
    congr 3
 ·repeat' with_reducible first | refine W ?_ | refine Z0 ?_ | ((first | refine Wo fun K hK => ?_ | refine Wq ?_ | refine Wr ?_); (try simp only [go_sem, fN, seval, eT, iR]); (repeat refine Ai ?_); (try (refine hK _ ?_; clear hK K)))
  simp only [go_sem, fN, seval, AK, AS.result, AB, AD, AI]
  rw [List.take_of_length_le (by omega)] at h0
  rw [h0]
theorem Tt (l : List ByteArray) (x : ByteArray) : ∃ i : Int, AN Tryz.prog 95 [B3 l, CP x] (AO i) ∧ (0 ≤ i ↔ CQ x l = true) := by
 by_cases hin : CQ x l = true
 ·obtain ⟨k0, hk0, hmin⟩ : ∃ k, l[k]? = some x ∧ ∀ j, j < k → l[j]? ≠ some x := by
   have hx := HC.1 hin
   have ⟨k, hk⟩ := List.getElem?_of_mem hx
   induction k using Nat.strongRecOn with
   | _ k ih =>
    by_cases h : ∃ j, j < k ∧ l[j]? = some x
    ·obtain ⟨j, hj, hjx⟩ := h
     exact ih j hj hjx
    ·exact ⟨k, hk, fun j hj hjx => h ⟨j, hj, hjx⟩⟩
  have hlt0 := Bn hk0
  refine ⟨k0, ?_, by simp [hin]⟩
  refine B4.ac fun C hC => ?_
  unfold BV
  refine IWP.learn 0 (by omega) fun hkn => ?_
  have hkn := Dd hkn
  rw [List.length_map] at hkn
  repeat' with_reducible first | refine W ?_ | refine Z0 ?_ | ((first | refine Wo fun K hK => ?_ | refine Wq ?_ | refine Wr ?_); (try simp only [go_sem, fN, seval, eT, iR]); (repeat refine Ai ?_); (try (refine hK _ ?_; clear hK K)))
  refine IWP.loop (fun n s => ∃ k, k ≤ k0 ∧ n = k0 - k ∧ s.env 0 = B3 l ∧ s.env 1 = CP x ∧ s.env 7 = AO l.length ∧ s.env 8 = AO k) k0 ⟨0, Nat.zero_le _, rfl, rfl, rfl, rfl, rfl⟩ ?_
  rintro n ⟨env, S⟩ ⟨k, hk, rfl, e0, e1, e7, e8⟩
  simp only at e0 e1 e7 e8
  have hlt : (k : Int) < l.length := by omega
  repeat' with_reducible first | refine W ?_ | refine Z0 ?_ | ((first | refine Wo fun K hK => ?_ | refine Wq ?_ | refine Wr ?_); (try simp only [go_sem, fN, seval, eT, iR, e0, e1, e7, e8, hlt]); (repeat refine Ai ?_); (try (refine hK _ ?_; clear hK K)))
  with_reducible refine Wp ?_
  simp only [go_sem, fN, seval, true_implies, false_implies, implies_true, dT, dF, nL, e0, e1, e7, e8, hlt]
  (try with_reducible refine iC ?_)
  obtain ⟨a, ha⟩ := Af (show k < l.length by omega)
  repeat' with_reducible first | refine W ?_ | refine Z0 ?_ | ((first | refine Wo fun K hK => ?_ | refine Wq ?_ | refine Wr ?_); (try simp only [go_sem, fN, seval, eT, iR, e0, e1, e7, e8, ha]); (repeat refine Ai ?_); (try (refine hK _ ?_; clear hK K)))
  by_cases he : k = k0
  ·subst he
   rw [hk0] at ha
   cases ha
   with_reducible refine Wp ?_
   simp only [go_sem, fN, seval, true_implies, false_implies, implies_true, dT, dF, nL]
   (try with_reducible refine iC ?_)
   repeat' with_reducible first | refine W ?_ | refine Z0 ?_ | ((first | refine Wo fun K hK => ?_ | refine Wq ?_ | refine Wr ?_); (try simp only [go_sem, fN, seval, eT, iR, e0, e1, e7, e8]); (repeat refine Ai ?_); (try (refine hK _ ?_; clear hK K)))
   simp only [go_sem, fN, seval, AK, AS.result, AB, AD, AI]
  ·have hne : ¬ x = a := fun e => hmin k (by omega) (by rw [ha, e])
   with_reducible refine Wp ?_
   simp only [go_sem, fN, seval, true_implies, false_implies, implies_true, dT, dF, nL, hne]
   (try with_reducible refine iC ?_)
   repeat' with_reducible first | refine W ?_ | refine Z0 ?_ | ((first | refine Wo fun K hK => ?_ | refine Wq ?_ | refine Wr ?_); (try simp only [go_sem, fN, seval, eT, iR, e0, e1, e7, e8]); (repeat refine Ai ?_); (try (refine hK _ ?_; clear hK K)))
   refine AF ⟨k0 - (k + 1), by omega, k + 1, by omega, rfl, ?_⟩
   simp only [go_sem, fN, seval, eT, iR, e0, e1, e7, e8]
   congr 3
 ·rw [Bool.not_eq_true] at hin
  refine ⟨-1, ?_, by simp [hin]⟩
  refine B4.ac fun C hC => ?_
  unfold BV
  refine IWP.learn 0 (by omega) fun hkn => ?_
  have hkn := Dd hkn
  rw [List.length_map] at hkn
  repeat' with_reducible first | refine W ?_ | refine Z0 ?_ | ((first | refine Wo fun K hK => ?_ | refine Wq ?_ | refine Wr ?_); (try simp only [go_sem, fN, seval, eT, iR]); (repeat refine Ai ?_); (try (refine hK _ ?_; clear hK K)))
  refine IWP.loop (fun n s => ∃ k, k ≤ l.length ∧ n = l.length - k ∧ s.env 0 = B3 l ∧ s.env 1 = CP x ∧ s.env 7 = AO l.length ∧ s.env 8 = AO k) l.length ⟨0, Nat.zero_le _, rfl, rfl, rfl, rfl, rfl⟩ ?_
  rintro n ⟨env, S⟩ ⟨k, hk, rfl, e0, e1, e7, e8⟩
  simp only at e0 e1 e7 e8
  by_cases hlt : (k : Int) < l.length
  ·repeat' with_reducible first | refine W ?_ | refine Z0 ?_ | ((first | refine Wo fun K hK => ?_ | refine Wq ?_ | refine Wr ?_); (try simp only [go_sem, fN, seval, eT, iR, e0, e1, e7, e8, hlt]); (repeat refine Ai ?_); (try (refine hK _ ?_; clear hK K)))
   with_reducible refine Wp ?_
   simp only [go_sem, fN, seval, true_implies, false_implies, implies_true, dT, dF, nL, e0, e1, e7, e8, hlt]
   (try with_reducible refine iC ?_)
   obtain ⟨a, ha⟩ := Af (show k < l.length by omega)
   have hne : ¬ x = a := fun e => by
    rw [Mb] at hin
    exact hin (by rw [e]; exact AP ha)
   repeat' with_reducible first | refine W ?_ | refine Z0 ?_ | ((first | refine Wo fun K hK => ?_ | refine Wq ?_ | refine Wr ?_); (try simp only [go_sem, fN, seval, eT, iR, e0, e1, e7, e8, ha]); (repeat refine Ai ?_); (try (refine hK _ ?_; clear hK K)))
   with_reducible refine Wp ?_
   simp only [go_sem, fN, seval, true_implies, false_implies, implies_true, dT, dF, nL, hne]
   (try with_reducible refine iC ?_)
   repeat' with_reducible first | refine W ?_ | refine Z0 ?_ | ((first | refine Wo fun K hK => ?_ | refine Wq ?_ | refine Wr ?_); (try simp only [go_sem, fN, seval, eT, iR, e0, e1, e7, e8]); (repeat refine Ai ?_); (try (refine hK _ ?_; clear hK K)))
   refine AF ⟨l.length - (k + 1), by omega, k + 1, by omega, rfl, ?_⟩
   simp only [go_sem, fN, seval, eT, iR, e0, e1, e7, e8]
   congr 3
  ·repeat' with_reducible first | refine W ?_ | refine Z0 ?_ | ((first | refine Wo fun K hK => ?_ | refine Wq ?_ | refine Wr ?_); (try simp only [go_sem, fN, seval, eT, iR, e0, e1, e7, e8, hlt]); (repeat refine Ai ?_); (try (refine hK _ ?_; clear hK K)))
   with_reducible refine Wp ?_
   simp only [go_sem, fN, seval, true_implies, false_implies, implies_true, dT, dF, nL, e0, e1, e7, e8, hlt]
   (try with_reducible refine iC ?_)
   repeat' with_reducible first | refine W ?_ | refine Z0 ?_ | ((first | refine Wo fun K hK => ?_ | refine Wq ?_ | refine Wr ?_); (try simp only [go_sem, fN, seval, eT, iR]); (repeat refine Ai ?_); (try (refine hK _ ?_; clear hK K)))
   simp only [go_sem, fN, seval, AK, AS.result, AB, AD, AI]
theorem Gh (l : List ByteArray) (x : ByteArray) : AN Tryz.prog 66 [B3 l, CP x] (Ad (CQ x l)) := by
 obtain ⟨i, h1, h2⟩ := Tt l x
 refine Cr.ac fun C hC => ?_
 unfold Bs
 repeat' (first | (with_reducible first | refine W ?_ | refine Z0 ?_ | ((first | refine Wo fun K hK => ?_ | refine Wq ?_ | refine Wr ?_); (try simp only [go_sem, fN, seval, eT, iR]); (repeat refine Ai ?_); (try (refine hK _ ?_; clear hK K)))) | refine Cg _ (h1) ?_)
 simp only [go_sem, fN, seval, AK, AS.result, AB, AD, AI]
 congr 4
 cases hi : CQ x l with
 | true => exact decide_eq_true (h2.2 hi)
 | false =>
  refine decide_eq_false fun h => ?_
  rw [h2.1 h] at hi
  cases hi
mutual
def Tm.beq : Tm → Tm → Bool
 | .mk n xs, .mk m ys => decide (n = m) && Tm.beqL xs ys
def Tm.beqL : List Tm → List Tm → Bool
 | [], [] => true
 | x :: xs, y :: ys => x.beq y && Tm.beqL xs ys
 | _, _ => false
end
mutual
theorem Tm.beq_iff : ∀ a b : Tm, a.beq b = true ↔ a = b
 | .mk n xs, .mk m ys => by
  rw [Tm.beq, Bool.and_eq_true, Tm.beqL_iff xs ys, decide_eq_true_eq, Tm.mk.injEq]
theorem Tm.beqL_iff : ∀ xs ys : List Tm, Tm.beqL xs ys = true ↔ xs = ys
 | [], [] => by simp [Tm.beqL]
 | x :: xs, y :: ys => by rw [Tm.beqL, Bool.and_eq_true, Tm.beq_iff x y, Tm.beqL_iff xs ys, List.cons.injEq]
 | [], y :: ys => by simp [Tm.beqL]
 | x :: xs, [] => by simp [Tm.beqL]
end
theorem Tm.beq_refl (a : Tm) : a.beq a = true := (Tm.beq_iff a a).2 rfl
theorem Tm.eq_of {a b : Tm} (h1 : a.name = b.name) (h2 : a.args = b.args) : a = b := by
 cases a; cases b
 simp only [Tm.name_mk, Tm.args_mk] at h1 h2
 rw [h1, h2]
theorem JC (a b : Tm) : AN Tryz.prog 36 [aTm a, aTm b] (Ad (a.beq b)) := by
 induction h : SizeOf.sizeOf a using Nat.strongRecOn generalizing a b with
 | _ N ih =>
 subst h
 have hno : a ≠ b → a.beq b = false := fun h => by
  rw [← Bool.not_eq_true, Tm.beq_iff]
  exact h
 refine Qw.ac fun C hC => ?_
 unfold LM
 refine IWP.learn 0 (by omega) fun hkn => ?_
 have hkn := Fm hkn
 by_cases hn : a.name = b.name
 ·by_cases hl : a.args.length = b.args.length
  ·have hl' : (a.args.length : Int) = b.args.length := by omega
   repeat' with_reducible first | refine W ?_ | refine Z0 ?_ | ((first | refine Wo fun K hK => ?_ | refine Wq ?_ | refine Wr ?_); (try simp only [go_sem, fN, seval, eT, iR, hn, hl']); (repeat refine Ai ?_); (try (refine hK _ ?_; clear hK K)))
   with_reducible refine Wp ?_
   simp only [go_sem, fN, seval, true_implies, false_implies, implies_true, dT, dF, nL, hn, hl']
   (try with_reducible refine iC ?_)
   repeat' with_reducible first | refine W ?_ | refine Z0 ?_ | ((first | refine Wo fun K hK => ?_ | refine Wq ?_ | refine Wr ?_); (try simp only [go_sem, fN, seval, eT, iR]); (repeat refine Ai ?_); (try (refine hK _ ?_; clear hK K)))
   refine IWP.loop (fun n s => ∃ k, k ≤ a.args.length ∧ n = a.args.length - k ∧ a.args.take k = b.args.take k ∧ s.env 2 = .one (.ptr 2 1 0 0) ∧ s.env 3 = .one (.ptr 3 1 0 0) ∧ s.S 2 = some (.box 25 [.st (.str b.name), .st (.list (a.args.map Al))]) ∧ s.S 3 = some (.box 25 [.st (.str b.name), .st (.list (b.args.map Al))]) ∧ s.env 5 = AO k) a.args.length ⟨0, Nat.zero_le _, rfl, rfl, rfl, rfl, rfl, rfl, rfl⟩ ?_
   rintro n ⟨env, S⟩ ⟨k, hk, rfl, h0, e2, e3, s2, s3, e5⟩
   simp only at e2 e3 s2 s3 e5
   repeat' with_reducible first | refine W ?_ | refine Z0 ?_ | ((first | refine Wo fun K hK => ?_ | refine Wq ?_ | refine Wr ?_); (try simp only [go_sem, fN, seval, eT, iR, e2, e3, s2, s3, e5]); (repeat refine Ai ?_); (try (refine hK _ ?_; clear hK K)))
   with_reducible refine Wp ?_
   simp only [go_sem, fN, seval, true_implies, false_implies, implies_true, dT, dF, nL]
   (try with_reducible refine iC ?_)
   refine ⟨fun hlt => ?_, fun hge => ?_⟩
   ·obtain ⟨x, hx⟩ := Af (show k < a.args.length by omega)
    obtain ⟨y, hy⟩ := Af (show k < b.args.length by omega)
    repeat' (first | (with_reducible first | refine W ?_ | refine Z0 ?_ | ((first | refine Wo fun K hK => ?_ | refine Wq ?_ | refine Wr ?_); (try simp only [go_sem, fN, seval, eT, iR, e2, e3, s2, s3, e5, hx, hy]); (repeat refine Ai ?_); (try (refine hK _ ?_; clear hK K)))) | refine Cg _ (ih _ (Tm.lt_of_arg (AP hx)) x y rfl) ?_)
    cases hxy : x.beq y with
    | false =>
     with_reducible refine Wp ?_
     simp only [go_sem, fN, seval, true_implies, false_implies, implies_true, dT, dF, nL]
     (try with_reducible refine iC ?_)
     repeat' with_reducible first | refine W ?_ | refine Z0 ?_ | ((first | refine Wo fun K hK => ?_ | refine Wq ?_ | refine Wr ?_); (try simp only [go_sem, fN, seval, eT, iR]); (repeat refine Ai ?_); (try (refine hK _ ?_; clear hK K)))
     simp only [go_sem, fN, seval, AK, AS.result, AB, AD, AI]
     rw [hno fun e => by
      subst e
      rw [hx] at hy
      cases hy
      rw [Tm.beq_refl] at hxy
      cases hxy]
    | true =>
     have hxy := (Tm.beq_iff x y).1 hxy
     with_reducible refine Wp ?_
     simp only [go_sem, fN, seval, true_implies, false_implies, implies_true, dT, dF, nL]
     (try with_reducible refine iC ?_)
     repeat' with_reducible first | refine W ?_ | refine Z0 ?_ | ((first | refine Wo fun K hK => ?_ | refine Wq ?_ | refine Wr ?_); (try simp only [go_sem, fN, seval, eT, iR, e2, e3, s2, s3, e5]); (repeat refine Ai ?_); (try (refine hK _ ?_; clear hK K)))
     refine AF ⟨a.args.length - (k + 1), by omega, k + 1, by omega, rfl, ?_, ?_⟩
     ·rw [Ak hx, Ak hy, h0, hxy]
     ·simp only [go_sem, fN, seval, eT, iR, e2, e3, s2, s3, e5]
      congr 3
   ·repeat' with_reducible first | refine W ?_ | refine Z0 ?_ | ((first | refine Wo fun K hK => ?_ | refine Wq ?_ | refine Wr ?_); (try simp only [go_sem, fN, seval, eT, iR]); (repeat refine Ai ?_); (try (refine hK _ ?_; clear hK K)))
    simp only [go_sem, fN, seval, AK, AS.result, AB, AD, AI]
    rw [List.take_of_length_le (by omega), List.take_of_length_le (by omega)] at h0
    rw [Tm.eq_of hn h0, Tm.beq_refl]
  ·have hl' : ¬ (a.args.length : Int) = b.args.length := by omega
   repeat' with_reducible first | refine W ?_ | refine Z0 ?_ | ((first | refine Wo fun K hK => ?_ | refine Wq ?_ | refine Wr ?_); (try simp only [go_sem, fN, seval, eT, iR, hn, hl']); (repeat refine Ai ?_); (try (refine hK _ ?_; clear hK K)))
   with_reducible refine Wp ?_
   simp only [go_sem, fN, seval, true_implies, false_implies, implies_true, dT, dF, nL, hn, hl']
   (try with_reducible refine iC ?_)
   repeat' with_reducible first | refine W ?_ | refine Z0 ?_ | ((first | refine Wo fun K hK => ?_ | refine Wq ?_ | refine Wr ?_); (try simp only [go_sem, fN, seval, eT, iR]); (repeat refine Ai ?_); (try (refine hK _ ?_; clear hK K)))
   simp only [go_sem, fN, seval, AK, AS.result, AB, AD, AI]
   rw [hno fun e => hl (by rw [e])]
 ·repeat' with_reducible first | refine W ?_ | refine Z0 ?_ | ((first | refine Wo fun K hK => ?_ | refine Wq ?_ | refine Wr ?_); (try simp only [go_sem, fN, seval, eT, iR, hn]); (repeat refine Ai ?_); (try (refine hK _ ?_; clear hK K)))
  with_reducible refine Wp ?_
  simp only [go_sem, fN, seval, true_implies, false_implies, implies_true, dT, dF, nL, hn]
  (try with_reducible refine iC ?_)
  repeat' with_reducible first | refine W ?_ | refine Z0 ?_ | ((first | refine Wo fun K hK => ?_ | refine Wq ?_ | refine Wr ?_); (try simp only [go_sem, fN, seval, eT, iR]); (repeat refine Ai ?_); (try (refine hK _ ?_; clear hK K)))
  simp only [go_sem, fN, seval, AK, AS.result, AB, AD, AI]
  rw [hno fun e => hn (by rw [e])]
def Tm.nil : Tm := .mk ⟨#[]⟩ []
def Io (a : Tm) (e : Int) (b : Tm) (f : Int) : Bool := if f = 0 then decide (e = 0) && a.beq b else decide (e = f) && a.beq Tm.nil
theorem Oy (a : Tm) (e f : Int) (h : f ≠ 0 → a = Tm.nil) (he : e = f) : Io a e a f = true := by
 unfold Io
 subst he
 by_cases h0 : e = 0
 ·simp [h0, Tm.beq_refl]
 ·rw [if_neg h0, h h0]
  simp [Tm.beq_refl]
theorem Tu (a b : Tm) (e f : Int) : AN Tryz.prog 42 [aTm a, AO e, aTm b, AO f] (Ad (Io a e b f)) := by
 refine PX.ac fun C hC => ?_
 unfold Jr
 by_cases hf : f = 0
 ·repeat' with_reducible first | refine W ?_ | refine Z0 ?_ | ((first | refine Wo fun K hK => ?_ | refine Wq ?_ | refine Wr ?_); (try simp only [go_sem, fN, seval, eT, iR, hf]); (repeat refine Ai ?_); (try (refine hK _ ?_; clear hK K)))
  with_reducible refine Wp ?_
  simp only [go_sem, fN, seval, true_implies, false_implies, implies_true, dT, dF, nL, hf]
  (try with_reducible refine iC ?_)
  by_cases he : e = 0
  ·repeat' (first | (with_reducible first | refine W ?_ | refine Z0 ?_ | ((first | refine Wo fun K hK => ?_ | refine Wq ?_ | refine Wr ?_); (try simp only [go_sem, fN, seval, eT, iR, he, hf]); (repeat refine Ai ?_); (try (refine hK _ ?_; clear hK K)))) | refine Cg _ (JC a b) ?_)
   simp only [go_sem, fN, seval, AK, AS.result, AB, AD, AI, Io, hf, he]
   try simp
  ·repeat' with_reducible first | refine W ?_ | refine Z0 ?_ | ((first | refine Wo fun K hK => ?_ | refine Wq ?_ | refine Wr ?_); (try simp only [go_sem, fN, seval, eT, iR, he, hf]); (repeat refine Ai ?_); (try (refine hK _ ?_; clear hK K)))
   simp only [go_sem, fN, seval, AK, AS.result, AB, AD, AI, Io, hf, he]
   try simp
 ·repeat' with_reducible first | refine W ?_ | refine Z0 ?_ | ((first | refine Wo fun K hK => ?_ | refine Wq ?_ | refine Wr ?_); (try simp only [go_sem, fN, seval, eT, iR, hf]); (repeat refine Ai ?_); (try (refine hK _ ?_; clear hK K)))
  with_reducible refine Wp ?_
  simp only [go_sem, fN, seval, true_implies, false_implies, implies_true, dT, dF, nL, hf]
  (try with_reducible refine iC ?_)
  by_cases he : e = f
  ·have hf' : ¬ e = 0 := by omega
   by_cases hn : a.name = ⟨#[]⟩
   ·repeat' with_reducible first | refine W ?_ | refine Z0 ?_ | ((first | refine Wo fun K hK => ?_ | refine Wq ?_ | refine Wr ?_); (try simp only [go_sem, fN, seval, eT, iR, he, hf, hn]); (repeat refine Ai ?_); (try (refine hK _ ?_; clear hK K)))
    simp only [go_sem, fN, seval, AK, AS.result, AB, AD, AI, Io, hf, he, hn]
    congr 4
    simp only [Bool.true_and]
    rw [Bool.eq_iff_iff, Tm.beq_iff, decide_eq_true_eq]
    constructor
    ·intro h
     have : a.args = [] := List.eq_nil_of_length_eq_zero (by omega)
     exact Tm.eq_of hn this
    ·intro h
     rw [h]
     rfl
   ·repeat' with_reducible first | refine W ?_ | refine Z0 ?_ | ((first | refine Wo fun K hK => ?_ | refine Wq ?_ | refine Wr ?_); (try simp only [go_sem, fN, seval, eT, iR, he, hf, hn]); (repeat refine Ai ?_); (try (refine hK _ ?_; clear hK K)))
    simp only [go_sem, fN, seval, AK, AS.result, AB, AD, AI, Io, hf, he, hn]
    simp only [Bool.true_and]
    rw [show a.beq Tm.nil = false by
     rw [← Bool.not_eq_true, Tm.beq_iff]
     intro h
     exact hn (by rw [h]; rfl)]
  ·repeat' with_reducible first | refine W ?_ | refine Z0 ?_ | ((first | refine Wo fun K hK => ?_ | refine Wq ?_ | refine Wr ?_); (try simp only [go_sem, fN, seval, eT, iR, he, hf]); (repeat refine Ai ?_); (try (refine hK _ ?_; clear hK K)))
   simp only [go_sem, fN, seval, AK, AS.result, AB, AD, AI, Io, hf, he]
   try simp

def K8 : IR :=
 (.seq (.ops [.i 1 (.box 25 (.t 0)), .i 2 (.mov (.c (.one (.st (.str (ByteArray.mk (#[])))))))]) (.seq (.ops [.f 5 0 1, .l 6 5, .m 3 6]) (.seq (.seq (.ops [.i 4 (.mov (.n 0))]) (.block 0 (.loop (.seq (.seq (.ops [.m 7 4, .f 8 1 1, .l 9 8, .i 10 (.len false (.t 9)), .i 11 (.bin .lss (.t 7) (.t 10))]) (.cond (.t 11) .skip (.exit 0))) (.seq (.block 1 (.seq (.seq (.ops [.m 14 4, .i 15 (.bin .eql (.t 14) (.n 0))]) (.cond (.t 15) (.ops [.m 16 3, .i 17 (.bin .add (.t 16) (.c (.one (.st (.str (ByteArray.mk (#[40]))))))), .m 3 17]) (.ops [.m 18 3, .i 19 (.bin .add (.t 18) (.c (.one (.st (.str (ByteArray.mk (#[44]))))))), .m 3 19]))) (.ops [.m 20 3, .f 21 1 1, .l 22 21, .m 23 4, .i 24 (.indexAddr 2 (.t 22) (.t 23)), .L 25 2 24, .i 26 (.call 24 [.t 25]), .i 27 (.bin .add (.t 20) (.t 26)), .m 3 27]))) (.ops [.m 12 4, .i 13 (.bin .add (.t 12) (.n 1)), .m 4 13])))))) (.seq (.seq (.ops [.f 28 1 1, .l 29 28, .i 30 (.len false (.t 29)), .i 31 (.bin .gtr (.t 30) (.n 0))]) (.cond (.t 31) (.ops [.m 32 3, .i 33 (.bin .add (.t 32) (.c (.one (.st (.str (ByteArray.mk (#[41]))))))), .m 3 33]) .skip)) (.seq (.ops [.m 34 3, .m 2 34]) .ret)))))
theorem RB : OkF Tryz.prog 24 35 [] K8 [.t 2] := .of Tryz.func24 rfl rfl (by kernel_rfl) rfl

theorem Nl : sep 0 = ⟨#[40]⟩ := rfl
theorem NO {k : Nat} (h : k ≠ 0) : sep k = ⟨#[44]⟩ := if_neg h
theorem Tm.text_lt {t x : Tm} (h : x ∈ t.args) : x.text.size ≤ t.text.size := by
 obtain ⟨k, hk⟩ := List.getElem?_of_mem h
 have h1 := t.ahead_le (k + 1)
 rw [Tm.ahead_succ hk, ByteArray.size_append] at h1
 omega
theorem Tm.textsFrom_ge : ∀ (k : Nat) (xs : List Tm), xs.length ≤ (Tm.textsFrom k xs).size
 | _, [] => Nat.zero_le _
 | k, t :: ts => by
  have := Tm.textsFrom_ge (k + 1) ts
  simp only [Tm.textsFrom, ByteArray.size_append, HP, List.length_cons]
  omega
theorem Tm.args_text (t : Tm) : t.args.length ≤ t.text.size := by
 have := Tm.textsFrom_ge 0 t.args
 rw [Tm.text_eq, ByteArray.size_append, ByteArray.size_append]
 omega
theorem JD (t : Tm) : t.text.size ≤ 1000000 → AN Tryz.prog 24 [aTm t] (CP t.text) := by
 obtain ⟨N, hN⟩ : ∃ N, SizeOf.sizeOf t < N := ⟨_, Nat.lt_succ_self _⟩
 induction N generalizing t with
 | zero => omega
 | succ N ih =>
 intro hz
 have hal0 := t.args_text
 refine RB.ac fun C hC => ?_
 unfold K8
 repeat' with_reducible first | refine W ?_ | refine Z0 ?_ | ((first | refine Wo fun K hK => ?_ | refine Wp ?_ | refine Wq ?_ | refine Wr ?_); (try simp only [go_sem, fN, seval, eT, iR, dT, dF, nL]); (repeat refine Ai ?_); (try (refine hK _ ?_; clear hK K)); try refine iC ?_)
 refine IWP.loop (fun m s => ∃ k, k ≤ t.args.length ∧ m = t.args.length - k ∧ s.env 3 = CP (t.ahead k) ∧ s.env 4 = AO k ∧ s.env 1 = .one (.ptr 1 1 0 0) ∧ s.S 1 = some (.box 25 [.st (.str t.name), .st (.list (t.args.map Al))])) t.args.length ⟨0, Nat.zero_le _, rfl, by rw [Tm.ahead_zero]; rfl, rfl, rfl, rfl⟩ ?_
 rintro m ⟨env, S⟩ ⟨k, hk, rfl, e3, e4, e1, s1⟩
 simp only at e3 e4 e1 s1
 have hah := t.ahead_le k
 by_cases hlt : k < t.args.length
 ·have hlt' : (k : Int) < t.args.length := by omega
  obtain ⟨a, ha⟩ := Af hlt
  have hm := AP ha
  have hta := Tm.text_lt hm
  have hs := ih a (by have := Tm.lt_of_arg hm; omega) (by omega)
  have hnx := Tm.ahead_succ ha
  have h1 := t.ahead_le (k + 1)
  rw [hnx, ByteArray.size_append, ByteArray.size_append, HP] at h1
  have z1 : (⟨#[40]⟩ : ByteArray).size = 1 := rfl
  have z2 : (⟨#[44]⟩ : ByteArray).size = 1 := rfl
  by_cases h0 : k = 0
  ·subst h0
   rw [Nl] at hnx
   have hl0 : (0 : Int) < t.args.length := by omega
   repeat' (first | (with_reducible first | refine W ?_ | refine Z0 ?_ | ((first | refine Wo fun K hK => ?_ | refine Wp ?_ | refine Wq ?_ | refine Wr ?_); (try simp only [go_sem, fN, seval, eT, iR, e3, e4, e1, s1, hl0, ha, dT, dF, nL]); (repeat refine Ai ?_); (try (refine hK _ ?_; clear hK K)); try refine iC ?_)) | refine Cg _ (hs) ?_)
   refine AF ⟨t.args.length - (0 + 1), by omega, 0 + 1, by omega, rfl, ?_⟩
   simp only [go_sem, fN, seval, eT, iR, e3, e4, e1, s1, hnx]
   try rfl
  ·rw [NO h0] at hnx
   have h0' : ¬ (k : Int) = 0 := by omega
   repeat' (first | (with_reducible first | refine W ?_ | refine Z0 ?_ | ((first | refine Wo fun K hK => ?_ | refine Wp ?_ | refine Wq ?_ | refine Wr ?_); (try simp only [go_sem, fN, seval, eT, iR, e3, e4, e1, s1, hlt', h0', ha, dT, dF, nL]); (repeat refine Ai ?_); (try (refine hK _ ?_; clear hK K)); try refine iC ?_)) | refine Cg _ (hs) ?_)
   refine AF ⟨t.args.length - (k + 1), by omega, k + 1, by omega, rfl, ?_⟩
   simp only [go_sem, fN, seval, eT, iR, e3, e4, e1, s1, hnx]
   try (congr 3)
 ·have hlt' : ¬ (k : Int) < t.args.length := by omega
  have hal := Tm.ahead_all (t := t) (k := k) (by omega)
  by_cases h0 : k = 0
  ·rw [if_pos h0, append_empty] at hal
   have hl0 : ¬ (0 : Int) < t.args.length := by omega
   repeat' with_reducible first | refine W ?_ | refine Z0 ?_ | ((first | refine Wo fun K hK => ?_ | refine Wp ?_ | refine Wq ?_ | refine Wr ?_); (try simp only [go_sem, fN, seval, eT, iR, e3, e4, e1, s1, hlt', hl0, dT, dF, nL]); (repeat refine Ai ?_); (try (refine hK _ ?_; clear hK K)); try refine iC ?_)
   simp only [go_sem, fN, seval, AK, AS.result, AB, AD, AI]
   rw [hal]
  ·rw [if_neg h0] at hal
   have z1 : (⟨#[41]⟩ : ByteArray).size = 1 := rfl
   rw [hal, ByteArray.size_append] at hz
   have hl0 : (0 : Int) < t.args.length := by omega
   repeat' with_reducible first | refine W ?_ | refine Z0 ?_ | ((first | refine Wo fun K hK => ?_ | refine Wp ?_ | refine Wq ?_ | refine Wr ?_); (try simp only [go_sem, fN, seval, eT, iR, e3, e4, e1, s1, hlt', hl0, dT, dF, nL]); (repeat refine Ai ?_); (try (refine hK _ ?_; clear hK K)); try refine iC ?_)
   simp only [go_sem, fN, seval, AK, AS.result, AB, AD, AI]
   rw [hal]

theorem HE {P : Program} {f : FuncId} {xs : List AV} {S : AA} {r : AV} {S' : AA} (hS' : Ar S → Ar S')
  (h : Ar S → ∀ (C : Ctx) (σ : Sto) (ι : Ax) (vs : List Value) (w : World), C.n = xs.length → AQ C σ ι (AS.startS xs S) { tmps := vs.toArray, defers := [] } w → Ag (AR σ S ι) vs xs → Calls P f vs.toArray w fun e w' => ∃ v σ' ι' env', e = .returned v ∧ AQ C σ' ι' ⟨env', S'⟩ { tmps := vs.toArray, defers := [] } w' ∧ AR σ' S' ι' v r) : As P f xs S r S' := by
 intro hclean σ w vs ι hglob hfit hown hvs
 have hl := hvs.len
 let C : Ctx := ⟨xs.length, w.heap.size, fun g => ¬ Bz S ι g, σ, w, S, ι, hclean, hglob, [], none, false⟩
 have R : AQ C σ ι (AS.startS xs S) { tmps := vs.toArray, defers := [] } w := by
  refine ⟨by simp [C, hl], fun i hi => ?_, EO, hfit, hown.1, hown.2, fun id b g h hg => .inr (fun hno => hno id b h hg), fun _ _ h => h, fun _ _ _ => rfl, ⟨rfl, rfl, rfl⟩, ⟨Nat.le_refl _, Nat.le_refl _⟩, fun _ _ _ => rfl, Upd.refl _ _⟩
  show AR σ S ι _ ((xs[i]?).getD (.tup []))
  have hi : i < xs.length := hi
  have hi2 : i < vs.length := by omega
  obtain ⟨b, hb1, hb2⟩ := hvs.get' (List.getElem?_eq_getElem hi2)
  rw [Array.getD_eq_getD_getElem?, hb1]
  simpa [hi2] using hb2
 refine (h hclean C σ ι vs w rfl R hvs).mono fun e w' ⟨v, σ', ι', env', he, R', hv⟩ => ?_
 exact ⟨v, σ', ι', he, hS' hclean, R'.upd, ⟨R'.blk, R'.inj⟩, hv, R'.fit, R'.ext, fun p h1 h2 => R'.old p h1 (fun h => h h2), R'.os, R'.grown.2, fun g h1 h2 => R'.same g h1 (fun h => h h2), fun id b g h1 h2 => R'.base id b g h1 h2⟩
theorem Aa.ownCell {C : Ctx} {s : AS} {id r : Nat} {e e' : TypeId} {cs : List AC} (j wd : Nat) (hS : s.S id = some (.box e cs)) (hj : cs[j]? = some (.full [])) (hr : s.S r = none) (hne : id ≠ r) :
  Aa C s ((s.set r (.mrow e' wd [])).set id (.box e (cs.set j (.row r 0)))) := fun a w ⟨σ, ι, R⟩ => by
 have hb := R.blk _ _ hS
 cases hb with
 | @box _ _ g vs k1 k2 k3 k4 k5 =>
  obtain ⟨v, hv, hvr⟩ := k4.get hj
  cases hvr with
  | @full p len xs hs =>
   have hl : len = 0 := by
    obtain ⟨p', cap', e1, _⟩ := B9 hs
    cases e1
    rfl
   subst hl
   obtain ⟨hu, R'⟩ := R.fresh (w' := w) hr (.mrow e' wd []) ⟨p, 0, none⟩ (Ext.refl _ _) R.fit (Below.refl _ _) (by simp) (fun S' ι' hu => .mnil rfl rfl)
   have hS' : (s.set r (.mrow e' wd [])).S id = some (.box e cs) := by simp [AS.set, AH _ hne, hS]
   have hι : AG ι r ⟨p, 0, none⟩ id = ι id := AH _ hne _
   have hrr : (s.set r (.mrow e' wd [])).S r = some (.mrow e' wd []) := by simp [AS.set, AE]
   obtain ⟨hu2, R2⟩ := R'.turn (w' := w) hS' (.box e (cs.set j (.row r 0))) (AG ι r ⟨p, 0, none⟩ id) (σ' := σ) (fun _ _ h => h) (fun _ _ _ => rfl) R.fit (by simp [AL.len]) (fun _ => ⟨rfl, rfl⟩) ⟨rfl, rfl, rfl⟩ (Nat.le_refl _) (fun _ _ _ => rfl) (fun g h => .inl h)
    (fun hu2 => by
     rw [hι] at hu2 ⊢
     refine .box k1 k2 k3 (Ag.of_get (by rw [List.length_set]; exact k4.len) fun q u c hu3 hc => ?_) k5
     by_cases e2 : q = j
     ·subst e2
      rw [hv] at hu3
      cases hu3
      rw [List.getElem?_set_self (List.getElem?_eq_some_iff.1 hj).1] at hc
      cases hc
      refine .row (b := .mrow e' wd []) (by simp [AS.set, AG, Ne.symm hne]) (Nat.le_refl _) rfl fun _ => ?_
      simp [AG, Ne.symm hne]
     ·rw [List.getElem?_set_ne (fun e => e2 e.symm)] at hc
      obtain ⟨u', hu', hr'⟩ := k4.get hc
      rw [hu3] at hu'
      cases hu'
      exact (hr'.mono (fun _ _ h => h) hu).mono (fun _ _ h => h) hu2)
   exact ⟨σ, _, R2⟩

def B2 : IR :=
 (.seq (.ops [.i 4 (.mov (.n 0)), .i 5 (.mov (.c (.one (.st (.lit .nilIface)))))]) (.seq (.ops [.m 6 0, .i 7 (.callS 105 [.t 6])]) (.seq (.ops [.m 8 0, .m 9 0, .i 10 (.nilCheck (.t 9)), .f 11 1 10, .l 12 11, .m 13 1, .i 14 (.appS 5 (.t 12) (.t 13)), .i 15 (.nilCheck (.t 8)), .f 16 1 15, .s 1 16 14]) (.seq (.ops [.m 17 1, .i 18 (.len true (.t 17)), .m 4 18, .i 5 (.mov (.c (.one (.st (.lit .nilIface)))))]) .ret))))
theorem C_ : OkF Tryz.prog 76 19 [7] B2 [.t 4, .t 5] := .of Tryz.func76 rfl rfl (by kernel_rfl) rfl
def CB : IR :=
 (.seq (.ops [.i 4 (.mov (.c (.one (.st (.lit .nilIface)))))]) (.seq (.ops [.m 5 0, .i 6 (.callS 105 [.t 5])]) (.seq (.ops [.m 7 0, .m 8 0, .i 9 (.nilCheck (.t 8)), .f 10 1 9, .l 11 10, .m 12 1, .i 13 (.buildFlat [.t 12]), .i 14 (.append true 5 1 1 (.t 11) (.t 13)), .i 15 (.nilCheck (.t 7)), .f 16 1 15, .s 1 16 14]) (.seq (.ops [.i 4 (.mov (.c (.one (.st (.lit .nilIface)))))]) .ret))))
theorem DT : OkF Tryz.prog 77 17 [6, 14] CB [.t 4] := .of Tryz.func77 rfl rfl (by kernel_rfl) rfl

theorem HV : (Tryz.prog.info? 81).map (fun i => i.size) = some 2 := by kernel_rfl
set_option maxRecDepth 100000 in
theorem I5 (b : Nat) (w : World) (h0 : w.cell? ⟨b, 0, none⟩ = some (.pointer (some ⟨b, 0, none⟩))) :
  Calls Tryz.prog 105 #[.pointer (some ⟨b, 0, none⟩)] w fun e w' => e = .returned (.tuple #[]) ∧ w' = w := by
 obtain ⟨j, hj, _⟩ := Option.map_eq_some_iff.1 HV
 go_enter Tryz.func105, Tryz.ntmps105
 go_wp2
 rw [Lib.run_neq_ptr_same w _ Tryz.underlying78 hj]
 go_wp2
 go_end0
 exact ⟨rfl, rfl⟩
set_option maxRecDepth 100000 in
theorem IA (b : Nat) (w : World) (h0 : w.cell? ⟨b, 0, none⟩ = some (.pointer none)) (hsh : w.shape? b = some (81, 2)) (hfz : w.frozen? ⟨b, 0, none⟩ = false) :
  Calls Tryz.prog 105 #[.pointer (some ⟨b, 0, none⟩)] w fun e w' => e = .returned (.tuple #[]) ∧ w' = w.setCell ⟨b, 0, none⟩ (.pointer (some ⟨b, 0, none⟩)) := by
 obtain ⟨j, hj, hjs⟩ := Option.map_eq_some_iff.1 HV
 go_enter Tryz.func105, Tryz.ntmps105
 go_wp2
 rw [Lib.run_to_unsafe w ⟨b, 0, none⟩ Tryz.underlying78 Tryz.underlying151 hj (by rw [hjs]; decide) hsh (Nat.zero_lt_succ 1)]
 simp only [Result.andThen]
 rw [Oper.upon_value]
 go_wp2
 rw [run_callFunc_extern Tryz.func119 (by kernel_rfl) (by kernel_rfl) (by kernel_rfl) (e := Extern.AbiNoEscape.same) (by kernel_rfl)]
 rw [Lib.run_noEscape]
 simp only [Result.andThen]
 rw [Oper.upon_value]
 go_wp2
 rw [Lib.run_from_unsafe w ⟨b, 0, none⟩ Tryz.underlying151 Tryz.underlying78 hj hsh (by kernel_rfl)]
 simp only [Result.andThen]
 rw [Oper.upon_value]
 go_wp2
 go_end0
 exact ⟨rfl, rfl⟩
def Frz (w w' : World) (g : Nat) : Prop := w'.heap.size = w.heap.size ∧ (∀ k, k ≠ g → w'.heap[k]? = w.heap[k]?) ∧ w'.os = w.os ∧ w'.tape = w.tape ∧ w'.output = w.output ∧ ∀ cs e f, w.heap[g]? = some (.cells cs e f) → ∃ f', w'.heap[g]? = some (.cells cs e f')
theorem Ow (w : World) (g n : Nat) : Frz w (w.drew.freeze ⟨g, 0, none⟩ n) g := by
 unfold World.freeze
 split
 ·exact ⟨rfl, fun _ _ => rfl, rfl, rfl, rfl, fun cs e f h => ⟨f, h⟩⟩
 ·refine ⟨by simp, fun k hk => ?_, rfl, rfl, rfl, fun cs e f h => ?_⟩
  ·simp only [Array.getElem?_modify]
   rw [if_neg (fun e => hk e.symm)]
   rfl
  ·obtain ⟨lo, hi⟩ := f
   have h' : w.drew.heap[g]? = some (.cells cs e (lo, hi)) := h
   refine ⟨if lo == hi then (0, 0 + n) else (min lo 0, max hi (0 + n)), ?_⟩
   simp only [Array.getElem?_modify, if_true, h', Option.map_some]
set_option maxRecDepth 100000 in
theorem H8 (b g cap : Nat) (p : Value) (cur : Array Value) (l : List UInt8) (w : World) (h0 : l ≠ []) (hbk : w.heap[b]? = some (.cells #[p, .slice (some ⟨g, 0, none⟩) l.length cap] 81 (0, 0))) (hbg : w.heap[g]? = some (.cells cur 5 (0, 0)))
  (hcm : cap ≤ maxLen) (hnc : l.length ≤ cap) (hsz : l.length ≤ cur.size) (hcur : ∀ (j : Nat) (x : UInt8), l[j]? = some x → cur[j]? = some (Value.int .u8 (x.toNat : Int))) :
  Calls Tryz.prog 50 #[.pointer (some ⟨b, 0, none⟩)] w fun e w' => e = .returned (.string ⟨l.toArray⟩) ∧ Frz w w' g := by
 have hl0 : l.length ≠ 0 := by simpa using h0
 have c1 : w.drew.cell? ⟨b, 1, none⟩ = some (.slice (some ⟨g, 0, none⟩) l.length cap) := by
  have : w.drew.heap[b]? = some (.cells #[p, .slice (some ⟨g, 0, none⟩) l.length cap] 81 (0, 0)) := hbk
  rw [Lib.cell_of_heap this]; rfl
 have hSD : (Builtin.unsafeSliceData_ #[79] 111 #[.slice (some ⟨g, 0, none⟩) l.length cap]).run Tryz.prog w.drew = .ok (.pointer (some ⟨g, 0, none⟩)) w.drew :=
  Lib.run_unsafeSliceData_row _ _ _ _ _ _ (by omega)
 have hUS : (Builtin.unsafeString_ #[111, 3] 9 #[.pointer (some ⟨g, 0, none⟩), .int .i64 l.length]).run Tryz.prog w.drew = .ok (.string ⟨l.toArray⟩) (w.drew.freeze ⟨g, 0, none⟩ l.length) := by
  refine Lib.run_unsafeString_row w.drew 111 3 9 5 Tryz.underlying111 (by kernel_rfl) g cur.size (by have hg' : w.drew.heap[g]? = some (.cells cur 5 (0, 0)) := hbg; simp [World.shape?, hg']) l h0 (by omega) (by unfold maxLen at hcm; omega) ?_
  intro j x hx
  have hg' : w.drew.heap[g]? = some (.cells cur 5 (0, 0)) := hbg
  rw [BJ, Nat.zero_add, cell_of_row w.drew g _ _ _ _ hg']
  exact hcur j x hx
 go_enter Tryz.func50, Tryz.ntmps50
 go_wp2
 have mixed : Tryz.prog.follows Departure.mixedOrders = true := by kernel_rfl
 go_region_o
 all_goals (go_wp2; go_ret; exact ⟨rfl, Ow w g l.length⟩)
abbrev bT : TypeId := 81
abbrev u8T : TypeId := 5
structure Bld (S : AA) (a0 r : Nat) (bs : ByteArray) : Prop where
 ha : 1000 ≤ a0
 hr : 1000 ≤ r
 ne : a0 ≠ r
 box : ∃ p, (p = .st (.lit (.pointer none)) ∨ p = .ptr a0 1 0 0) ∧ S a0 = some (.box bT [p, .row r bs.size])
 row : S r = some (.mrow u8T 1 (At bs))
def HX (S : AA) (a0 r : Nat) (bs : ByteArray) : AA := AG (AG S a0 (some (.box bT [.ptr a0 1 0 0, .row r bs.size]))) r (some (.mrow u8T 1 (At bs)))
theorem Bld.next {S : AA} {a0 r : Nat} {bs cs : ByteArray} (h : Bld S a0 r bs) : Bld (HX S a0 r cs) a0 r cs :=
 ⟨h.ha, h.hr, h.ne, ⟨_, .inr rfl, by unfold HX; rw [AH _ h.ne, AE]⟩, by unfold HX; rw [AE]⟩
theorem Mz {σ : Sto} {S : AA} {ι : Ax} {v : Value} {a0 : Nat} {e : TypeId} {cs : List AC} (h : AR σ S ι v (.one (.ptr a0 1 0 0))) (hS : S a0 = some (.box e cs)) : ∃ g, (ι a0).g = some g ∧ v = .pointer (some ⟨g, 0, none⟩) := by
 have h := AY h
 cases h with
 | @ptr _ _ _ _ _ b h1 h2 h3 h4 =>
  rw [hS] at h1
  cases h1
  obtain ⟨g, g1, g2⟩ := h4 rfl
  exact ⟨g, g1, by rw [g2]; rfl⟩
theorem Ru {σ : Sto} {S : AA} {ι : Ax} {v : Value} {a0 : Nat} {e : TypeId} {cs : List AC} (h : Ao σ S ι v (.ptr a0 1 0 0)) (hS : S a0 = some (.box e cs)) : ∃ g, (ι a0).g = some g ∧ v = .pointer (some ⟨g, 0, none⟩) := Mz (.one h) hS
theorem N9 {α : Type} {l : List α} (h : l.length = 2) : ∃ a b, l = [a, b] := by
 match l, h with
 | [a, b], _ => exact ⟨a, b, rfl⟩
theorem IY {a0 r : Nat} {bs : ByteArray} {S : AA} (h : Bld S a0 r bs) : As Tryz.prog 105 [.one (.ptr a0 1 0 0)] S (.tup []) (AG S a0 (some (.box bT [.ptr a0 1 0 0, .row r bs.size]))) := by
 obtain ⟨p, hp, hSa⟩ := h.box
 refine HE (fun hc => A9 hc h.ha (by simp only [AL.high, AC.highs, AC.high, decide_eq_true h.ha, decide_eq_true h.hr, Bool.and_self])) fun hclean C σ ι vs w hn R hvs => ?_
 obtain ⟨v, rfl⟩ : ∃ v, vs = [v] := by
  have := hvs.len
  match vs, this with
  | [v], _ => exact ⟨v, rfl⟩
 have hv : AR σ S ι v (.one (.ptr a0 1 0 0)) := by cases hvs with | cons h _ => exact h
 obtain ⟨g, hg, rfl⟩ := Mz hv hSa
 have hb := R.blk a0 _ hSa
 cases hb with
 | @box _ _ g' vs k1 k2 k3 k4 k5 =>
 rw [hg] at k1
 cases k1
 obtain ⟨v0, v1, hvs2⟩ := N9 (show vs.toList.length = 2 by rw [k4.len]; rfl)
 obtain rfl : vs = #[v0, v1] := Array.ext' hvs2
 have r0 : Ao σ S ι v0 p := by cases k4 with | cons h _ => exact h
 have r1 : Ao σ S ι v1 (.row r bs.size) := by cases k4 with | cons _ h => cases h with | cons h _ => exact h
 have c0 : w.cell? ⟨g, 0, none⟩ = some v0 := by rw [Lib.cell_of_heap k3]; rfl
 have key : ∀ w', w' = w.setRow g #[.pointer (some ⟨g, 0, none⟩), v1] → ∃ σ' ι' env', AQ C σ' ι' ⟨env', AG S a0 (some (.box bT [.ptr a0 1 0 0, .row r bs.size]))⟩ { tmps := #[.pointer (some ⟨g, 0, none⟩)], defers := [] } w' ∧ AR σ' (AG S a0 (some (.box bT [.ptr a0 1 0 0, .row r bs.size]))) ι' (.tuple #[]) (.tup []) := fun w' hw' => by
  subst hw'
  obtain ⟨hu, R'⟩ := R.turn (w' := w.setRow g #[.pointer (some ⟨g, 0, none⟩), v1]) hSa (.box bT [.ptr a0 1 0 0, .row r bs.size]) (ι a0) (σ' := σ) (fun _ _ h => h) (fun _ _ _ => rfl) (R.fit.row k5 fun k hk => setRow_other _ _ _ _ hk) (by simp [AL.len]) (fun _ => ⟨rfl, rfl⟩) (BZ _ _) (by simp)
   (fun k hk hne => setRow_other _ _ _ _ (fun e => hne (by rw [e]; exact hg))) (fun g h => .inl h) (fun hu => .box hg k2 (setRow_heap w _ _ _ _ _ k3) (.cons (.ptr (b := .box bT [.ptr a0 1 0 0, .row r bs.size]) (by simp [AS.set, AE]) (by simp [AL.len]) rfl fun _ => ⟨g, by rw [AE]; exact hg, by simp [AL.wid]⟩) (.cons (r1.mono (fun _ _ h => h) hu) .nil)) k5)
  exact ⟨σ, _, _, R', .tup (fun _ => undef) rfl (by simp) (by simp)⟩
 rcases hp with rfl | rfl
 ·have e0 : v0 = .pointer none := by cases r0 with | st h => cases h with | lit _ => rfl
  subst e0
  refine (IA g w c0 (by simp [World.shape?, k3]) (Lib.frozen_of_heap k3 0)).mono ?_
  rintro e w' ⟨rfl, rfl⟩
  obtain ⟨σ', ι', env', R', hv'⟩ := key _ (setCell_eq_setRow w g 0 _ _ _ _ k3)
  exact ⟨_, σ', ι', env', rfl, R', hv'⟩
 ·obtain ⟨g2, hg2, e0⟩ := Ru r0 hSa
  rw [hg] at hg2
  cases hg2
  subst e0
  refine (I5 g w c0).mono ?_
  rintro e w' ⟨rfl, rfl⟩
  obtain ⟨σ', ι', env', R', hv'⟩ := key _ (setRow_self w' g _ _ _ k3).symm
  exact ⟨_, σ', ι', env', rfl, R', hv'⟩
theorem It (a b : ByteArray) : At (a ++ b) = At a ++ At b := by unfold At; simp
theorem MO {a0 r : Nat} {bs : ByteArray} {S : AA} (h : Bld S a0 r bs) : Bld (upS S) (up1 a0) (up1 r) bs := by
 obtain ⟨p, hp, hSa⟩ := h.box
 refine ⟨BL _, BL _, fun e => h.ne (Nat.add_right_cancel e), ?_, by rw [CF h.row]; rfl⟩
 rcases hp with rfl | rfl
 ·exact ⟨_, .inl rfl, by rw [CF hSa]; rfl⟩
 ·exact ⟨_, .inr rfl, by rw [CF hSa]; rfl⟩
theorem Jy {a0 r n : Nat} (ha : 1000 ≤ a0) (hr : 1000 ≤ r) : (AL.box bT [.ptr a0 1 0 0, .row r n]).high = true := by simp only [AL.high, AC.highs, AC.high, decide_eq_true ha, decide_eq_true hr, Bool.and_self]
theorem Ke {a0 r : Nat} {bs : ByteArray} {S : AA} (h : Bld S a0 r bs) (s : ByteArray) (hz : bs.size + s.size ≤ 140737488355328) : As Tryz.prog 76 [.one (.ptr a0 1 0 0), CP s] S (.tup [AO s.size, .one (.st (.lit .nilIface))]) (HX S a0 r (bs ++ s)) := by
 obtain ⟨p, hp, hSa⟩ := h.box
 have hSr := h.row
 have ha := h.ha
 have hr := h.hr
 have hne := h.ne
 have hne2 : ¬ r = a0 := fun e => hne e.symm
 have hbl := D5 bs
 refine C_.acS fun hS C hC => ?_
 unfold B2
 repeat' with_reducible first | refine W ?_ | refine Z0 ?_ | ((first | refine Wo fun K hK => ?_ | refine Wp ?_ | refine Wq ?_ | refine Wr ?_); (try simp only [go_sem, fN, seval, eT, iR, hSa, dT, dF, nL]); (repeat refine Ai ?_); (try (refine hK _ ?_; clear hK K)); try refine iC ?_)
 refine ⟨_, _, IY (MO h), ?_⟩
 repeat' with_reducible first | refine W ?_ | refine Z0 ?_ | ((first | refine Wo fun K hK => ?_ | refine Wp ?_ | refine Wq ?_ | refine Wr ?_); (try simp only [go_sem, fN, seval, eT, iR, hSa, hSr, hne, hne2, hbl, dT, dF, nL]); (repeat refine Ai ?_); (try (refine hK _ ?_; clear hK K)); try refine iC ?_)
 refine J4 (.tup [AO s.size, .one (.st (.lit .nilIface))]) hS ha hr hne2 (Jy ha hr) rfl trivial ?_ ?_ ?_ ?_ fun i hi i1 i2 => ?_
 ·simp only [go_sem, fN, seval, eT, iR, AB, AD, AI]
 ·simp only [go_sem, fN, seval, eT, iR]
  try rfl
 ·simp only [go_sem, fN, seval, eT, iR, hne, hne2]
  try (rw [ByteArray.size_append])
 ·simp only [go_sem, fN, seval, eT, iR, hne, hne2, It]
 ·simp only [go_sem, fN, seval, eT, iR, i1, i2]
theorem Nx (c : UInt8) : At ⟨#[c]⟩ = [[.int .u8 (c.toNat : Int)]] := rfl
theorem FW {a0 r : Nat} {bs : ByteArray} {S : AA} (h : Bld S a0 r bs) (c : UInt8) (hz : bs.size + 1 ≤ 140737488355328) : As Tryz.prog 77 [.one (.ptr a0 1 0 0), .one (.st (.int .u8 (c.toNat : Int)))] S (.one (.st (.lit .nilIface))) (HX S a0 r (bs ++ ⟨#[c]⟩)) := by
 obtain ⟨p, hp, hSa⟩ := h.box
 have hSr := h.row
 have ha := h.ha
 have hr := h.hr
 have hne := h.ne
 have hne2 : ¬ r = a0 := fun e => hne e.symm
 have hbl := D5 bs
 have hsz : (bs ++ ⟨#[c]⟩).size = bs.size + 1 := by rw [ByteArray.size_append]; rfl
 refine DT.acS fun hS C hC => ?_
 unfold CB
 repeat' with_reducible first | refine W ?_ | refine Z0 ?_ | ((first | refine Wo fun K hK => ?_ | refine Wp ?_ | refine Wq ?_ | refine Wr ?_); (try simp only [go_sem, fN, seval, eT, iR, hSa, dT, dF, nL]); (repeat refine Ai ?_); (try (refine hK _ ?_; clear hK K)); try refine iC ?_)
 refine ⟨_, _, IY (MO h), ?_⟩
 have h63 : bs.size + 1 ≤ maxLen := by rw [Df]; omega
 repeat' with_reducible first | refine W ?_ | refine Z0 ?_ | ((first | refine Wo fun K hK => ?_ | refine Wp ?_ | refine Wq ?_ | refine Wr ?_); (try simp only [go_sem, fN, seval, eT, iR, hSa, hSr, hne, hne2, hbl, h63, dT, dF, nL]); (repeat refine Ai ?_); (try (refine hK _ ?_; clear hK K)); try refine iC ?_)
 refine J4 (.one (.st (.lit .nilIface))) hS ha hr hne2 (Jy ha hr) rfl trivial ?_ ?_ ?_ ?_ fun i hi i1 i2 => ?_
 ·simp only [go_sem, fN, seval, eT, iR, AB, AD, AI]
 ·simp only [go_sem, fN, seval, eT, iR]
  try rfl
 ·simp only [go_sem, fN, seval, eT, iR, hne, hne2, hbl, hsz]
 ·simp only [go_sem, fN, seval, eT, iR, hne, hne2, It, Nx]
 ·simp only [go_sem, fN, seval, eT, iR, i1, i2]
theorem I6 {a0 r : Nat} {bs : ByteArray} {S : AA} (h : Bld S a0 r bs) (h0 : 0 < bs.size) (hmx : bs.size ≤ 140737488355328) : As Tryz.prog 50 [.one (.ptr a0 1 0 0)] S (CP bs) (AG S r (some (.dead bs.size 1))) := by
 obtain ⟨p, hp, hSa⟩ := h.box
 refine HE (fun hc => A9 hc h.hr rfl) fun hclean C σ ι vs w hn R hvs => ?_
 obtain ⟨v, rfl⟩ : ∃ v, vs = [v] := by
  have := hvs.len
  match vs, this with
  | [v], _ => exact ⟨v, rfl⟩
 have hv : AR σ S ι v (.one (.ptr a0 1 0 0)) := by cases hvs with | cons h _ => exact h
 obtain ⟨g, hg, rfl⟩ := Mz hv hSa
 have hb := R.blk a0 _ hSa
 have hbr := R.blk r _ h.row
 have hlen : (At bs).length = bs.size := D5 bs
 cases hb with
 | @box _ _ g' vs k1 k2 k3 k4 k5 =>
 rw [hg] at k1
 cases k1
 obtain ⟨v0, v1, hvs2⟩ := N9 (show vs.toList.length = 2 by rw [k4.len]; rfl)
 obtain rfl : vs = #[v0, v1] := Array.ext' hvs2
 have r1 : Ao σ S ι v1 (.row r bs.size) := by cases k4 with | cons _ h => cases h with | cons h _ => exact h
 generalize hrow : At bs = row at hbr hlen
 cases hbr with
 | mnil m1 m2 => simp at hlen; omega
 | @mrow _ _ _ gr cur m1 m2 m3 m4 m5 m6 m7 m8 m9 =>
 subst hrow
 have e1 : v1 = .slice (some ⟨gr, 0, none⟩) bs.size (ι r).cap := by
  cases r1 with
  | row q1 q2 q3 q4 =>
   rw [h.row] at q1
   cases q1
   rw [q4 hlen.symm, m2]
 subst e1
 have hl : bs.data.toList.length = bs.size := by rw [Array.length_toList]; rfl
 refine (H8 g gr (ι r).cap v0 cur bs.data.toList w (fun e => by rw [e] at hl; simp at hl; omega) (by rw [hl]; exact k3) m3 m5 (by omega) (by rw [m6, hl]; omega) fun j x hx => ?_).mono ?_
 ·have hx' : (At bs)[j]? = some [SV.int .u8 (x.toNat : Int)] := by
   unfold At
   rw [List.getElem?_map, hx]
   rfl
  obtain ⟨u, u1, u2⟩ := m8 j _ 0 _ hx' rfl
  rw [Nat.mul_one, Nat.add_zero] at u1
  rw [u1]
  cases u2
  rfl
 ·rintro e w' ⟨rfl, f1, f2, f3, f4, f5, f6⟩
  obtain ⟨hu, R'⟩ := R.turn (w' := w') h.row (.dead bs.size 1) (ι r) (σ' := σ) (fun _ _ h => h) (fun _ _ _ => rfl) (R.fit.row m9 f2) (by simp [AL.len, hlen]) (fun _ => ⟨rfl, rfl⟩) ⟨f3, f4, f5⟩ (by omega)
   (fun k hk hne => f2 k (fun e => hne (by rw [e]; exact m1))) (fun g h => .inl h) (fun hu => .dead fun g hg => by
    rw [m1] at hg
    cases hg
    obtain ⟨f', h'⟩ := f6 _ _ _ m3
    exact ⟨_, h', rfl⟩)
  refine ⟨_, σ, _, _, rfl, R', .one (.st (.str ?_))⟩
  show bs.size ≤ maxLen
  rw [Df]
  omega

def G5 : IR :=
 (.seq (.ops [.i 1 (.box 25 (.t 0)), .i 2 (.mov (.c (.one (.st (.str (ByteArray.mk (#[])))))))]) (.seq (.ops [.i 3 (.alloc 81 [.st (.lit (.pointer none)), .full []])]) (.seq (.ops [.L 4 2 1, .i 5 (.callS 49 [.t 3, .t 4])]) (.seq (.ops [.i 6 (.callS 50 [.t 3]), .m 2 6]) .ret))))
theorem Mm : OkF Tryz.prog 28 7 [5, 6] G5 [.t 2] := .of Tryz.func28 rfl rfl (by kernel_rfl) rfl
def HJ : IR :=
 (.seq (.ops [.i 3 (.box 25 (.t 1))]) (.seq (.ops [.m 6 0, .f 7 0 3, .l 8 7, .i 9 (.callS 76 [.t 6, .t 8])]) (.seq (.seq (.ops [.f 10 1 3, .l 11 10, .i 12 (.len false (.t 11)), .i 13 (.mov (.n 0))]) (.block 0 (.loop (.seq (.ops [.i 14 (.bin .lss (.t 13) (.t 12))]) (.seq (.cond (.t 14) .skip (.exit 0)) (.seq (.block 1 (.seq (.ops [.m 15 13, .i 16 (.indexAddr 2 (.t 11) (.t 13)), .L 17 2 16, .i 5 (.alloc 25 [.st (.str (ByteArray.mk (#[]))), .full []]), .m 4 15, .s 2 5 17]) (.seq (.ops [.m 18 0, .m 19 4, .i 20 (.mm false (.t 19) (.n 1)), .i 21 (.indexStr (.c (.one (.st (.str (ByteArray.mk (#[40, 44])))))) (.t 20)), .i 22 (.callS 77 [.t 18, .t 21])]) (.ops [.m 23 0, .L 24 2 5, .i 25 (.callS 49 [.t 23, .t 24])])))) (.ops [.i 26 (.bin .add (.t 13) (.n 1)), .m 13 26]))))))) (.seq (.ops [.f 27 1 3, .l 28 27, .i 29 (.len false (.t 28)), .i 30 (.bin .gtr (.t 29) (.n 0))]) (.cond (.t 30) (.ops [.m 31 0, .i 32 (.callS 77 [.t 31, .c (.one (.st (.int .u8 41)))])]) .skip)))))
theorem Mk : OkF Tryz.prog 49 33 [9, 22, 25, 32] HJ [] := .of Tryz.func49 rfl rfl (by kernel_rfl) rfl

end Go.Proofs.YtgcddcaachpbnaaGreat
