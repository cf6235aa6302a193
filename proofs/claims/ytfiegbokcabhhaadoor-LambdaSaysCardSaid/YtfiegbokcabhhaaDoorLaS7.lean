/-
  Proved: for every lambda term and list of names, checking and writing give what M1 and M3 say: the law LambdaSays returns true; as a tied card. Conditions: none.
-/
import Derived.Test.YtfiegbokcabhhaaDoorLaS6
import Derived.Test.YtfiegbokcabhhaaDoorRows
import Derived.ProofKit
import Derived.OpenShut
import Derived.JoinedCond
import Derived.Deep.Slices
import Derived.Test.YtfiegbokcabhhaaDoorTie
import Derived.Test.YtfiegbokcabhhaaDoorCards
import Derived.LaidMore
import Derived.MakeChecks
import Derived.Stop.Joined
import Derived.Lib.LaidTab
import Derived.Lib.ItoaNum
import Derived.LaidLaws
namespace Go.Proofs.YtfiegbokcabhhaaDoor
open Go Go.RowKit
set_option linter.unusedVariables false
set_option linter.unusedSimpArgs false
set_option maxHeartbeats 2000000
def brP (t : Lm) (place : Int) : Bool := decide (t.kind = 2 ∧ 0 < place ∨ t.kind = 3 ∧ 1 < place)
def WrS (o : Nat) (ns : List ByteArray) (t : Lm) (s : ByteArray) : Prop := ∀ (place : Int) (bs : ByteArray) (p : AC) (b r i ni N : Nat) (S : AStore), 0 ≤ place ∧ place ≤ 2 → ns.length + t.size < N → N ≤ 1000000 → bs.size + s.size + 4 * t.size ≤ 1000000000 → 1000 ≤ b → 1000 ≤ r → 1000 ≤ i → 1000 ≤ ni → (p = .st (.lit (.pointer none)) ∨ p = .ptr b 1 0 0) → S b = some (boxW p r bs.size (.row i ns.length) o) → S r = some (.mrow u8W 1 (byteRow bs)) → S i = some (rowW ns) → S ni = none →
  ACallsS Tryd.prog 30 [.one (.ptr b 1 0 0), aLm t, aInt place] S (.tup []) (wdone S b r i ni N ns (bs ++ brk (brP t place) s) o)
theorem up_boxWp {S : AStore} {b r n i m : Nat} {o : Int} {p : AC} (hp : p = .st (.lit (.pointer none)) ∨ p = .ptr b 1 0 0) (h : S b = some (boxW p r n (.row i m) o)) : ∃ p', (p' = .st (.lit (.pointer none)) ∨ p' = .ptr (up1 b) 1 0 0) ∧ upS S (up1 b) = some (boxW p' (up1 r) n (.row (up1 i) m) o) := by
  rcases hp with rfl | rfl
  · exact ⟨_, .inl rfl, upS_some h⟩
  · exact ⟨_, .inr rfl, upS_some h⟩
set_option maxRecDepth 100000 in
theorem write_v {o : Nat} {ns : List ByteArray} {j : Nat} {n : ByteArray} (h : j < ns.length) (hn : ns[ns.length - 1 - j]? = some n) : WrS o ns (.v j) n := by
  intro place bs p b r i ni N S hpl hN hN2 hz hb hr hi hni hp sb sr si sni
  have hbr : ¬ b = r := fun e => by subst e; rw [sb] at sr; cases sr
  have hbi : ¬ b = i := fun e => by subst e; rw [sb] at si; cases si
  have hbn : ¬ b = ni := fun e => by subst e; rw [sb] at sni; cases sni
  have hri : ¬ r = i := fun e => by subst e; rw [sr] at si; injection si with si; injection si with si; exact absurd si (by decide)
  have hrn : ¬ r = ni := fun e => by subst e; rw [sr] at sni; cases sni
  have hin : ¬ i = ni := fun e => by subst e; rw [si] at sni; cases sni
  have hrb : ¬ r = b := fun e => hbr e.symm
  have hib : ¬ i = b := fun e => hbi e.symm
  have hnb : ¬ ni = b := fun e => hbn e.symm
  have hir : ¬ i = r := fun e => hri e.symm
  have hnr : ¬ ni = r := fun e => hrn e.symm
  have hnj : ¬ ni = i := fun e => hin e.symm
  have hbk : brk (brP (.v j) place) n = n := by
    unfold brP brk
    rw [if_neg]
    simp [Lm.v, Lm.kind]
  rw [hbk]
  refine ok_metaprune_lambda_writer_write.acS fun hS C hC => ?_
  unfold ir_metaprune_lambda_writer_write
  have n4 : S 4 = none := clean_none hS (by omega)
  have n901 : S 901 = none := clean_none hS (by omega)
  have n902 : S 902 = none := clean_none hS (by omega)
  have hge : (0 : Int) ≤ (ns.length : Int) - 1 - j := by omega
  have hidx : (ns.length : Int) - 1 - j = ((ns.length - 1 - j : Nat) : Int) := by omega
  have hge2 : (0 : Int) ≤ ((ns.length - 1 - j : Nat) : Int) := by omega
  have hml : (ns.map encS).length = ns.length := by simp
  repeat' (first | (with_reducible first | refine W ?_ | refine Wz0 ?_) | ((with_reducible first | refine Wo (fun K hK => ?_) | refine Wp ?_ | refine Wq ?_ | refine Wr ?_); (try simp only [go_sem, fN, seval, eT, iR, AS.startS, hiw_ne, low_ne, hb, hr, hi, hni, n4, n901, n902, hbr, hrb, hbi, hib, hbn, hnb, hri, hir, hrn, hnr, hin, hnj, dn_bldWS, bldWS, sb, sr, si, Lm.v, Lm.kind_mk, Lm.idx_mk, Lm.subs_mk, hidx, hge2, hn, hml, encS, dT, dF, nL]); (repeat with_reducible refine Ai ?_); (try (refine hK _ ?_; clear hK K)); (try with_reducible refine iC ?_)))
  refine ⟨_, _, writeStringW_S (bldW_mkU (bs := bs) (c := .row i ns.length) (o := o) hbr hp (by simp only [go_sem, fN, seval, eT, iR, hiw_ne, low_ne, hb, hr, hi, hni, n4, n901, n902, hbr, hrb, hbi, hib, hbn, hnb, hri, hir, hrn, hnr, hin, hnj, dn_bldWS, bldWS, sb, sr]) (by simp only [go_sem, fN, seval, eT, iR, hiw_ne, low_ne, hb, hr, hi, hni, n4, n901, n902, hbr, hrb, hbi, hib, hbn, hnb, hri, hir, hrn, hnr, hin, hnj, dn_bldWS, bldWS, sb, sr])) (n) (by first | omega | (simp only [ByteArray.size_append] at *; omega)), ?_⟩
  repeat' (first | (with_reducible first | refine W ?_ | refine Wz0 ?_) | ((with_reducible first | refine Wo (fun K hK => ?_) | refine Wp ?_ | refine Wq ?_ | refine Wr ?_); (try simp only [go_sem, fN, seval, eT, iR, hiw_ne, low_ne, hb, hr, hi, hni, n4, n901, n902, hbr, hrb, hbi, hib, hbn, hnb, hri, hir, hrn, hnr, hin, hnj, dn_bldWS, bldWS, sb, sr, si, dT, dF, nL]); (repeat with_reducible refine Ai ?_); (try (refine hK _ ?_; clear hK K)); (try with_reducible refine iC ?_)))
  refine wend hS trivial hb hr hi (j := i) (xs := ns) (c := .row i ns.length) ?_ ?_ ?_ (by omega) (.inr ⟨rfl, rfl⟩) List.take_length ?_ hbn hrn hrb hri hni (.inl rfl) fun k k1 k2 k3 k4 => ?_
  · simp only [go_sem, fN, seval, eT, iR, hiw_ne, low_ne, hb, hr, hi, hni, n4, n901, n902, hbr, hrb, hbi, hib, hbn, hnb, hri, hir, hrn, hnr, hin, hnj, dn_bldWS, bldWS]
  · simp only [go_sem, fN, seval, eT, iR, hiw_ne, low_ne, hb, hr, hi, hni, n4, n901, n902, hbr, hrb, hbi, hib, hbn, hnb, hri, hir, hrn, hnr, hin, hnj, dn_bldWS, bldWS]
  · simp only [go_sem, fN, seval, eT, iR, hiw_ne, low_ne, hb, hr, hi, hni, n4, n901, n902, hbr, hrb, hbi, hib, hbn, hnb, hri, hir, hrn, hnr, hin, hnj, dn_bldWS, bldWS, si]
  · simp only [go_sem, fN, seval, eT, iR, hiw_ne, low_ne, hb, hr, hi, hni, n4, n901, n902, hbr, hrb, hbi, hib, hbn, hnb, hri, hir, hrn, hnr, hin, hnj, dn_bldWS, bldWS, sni]
  · simp only [go_sem, fN, seval, eT, iR, hiw_ne, low_ne, k1, k2, k3, k4, dn_bldWS, bldWS]
set_option maxRecDepth 100000 in
theorem write_c {o : Nat} {ns : List ByteArray} {j : Nat} (h : j < 40) : WrS o ns (.mk 4 j []) (⟨#[99]⟩ ++ decS j) := by
  intro place bs p b r i ni N S hpl hN hN2 hz hb hr hi hni hp sb sr si sni
  have hbr : ¬ b = r := fun e => by subst e; rw [sb] at sr; cases sr
  have hbi : ¬ b = i := fun e => by subst e; rw [sb] at si; cases si
  have hbn : ¬ b = ni := fun e => by subst e; rw [sb] at sni; cases sni
  have hri : ¬ r = i := fun e => by subst e; rw [sr] at si; injection si with si; injection si with si; exact absurd si (by decide)
  have hrn : ¬ r = ni := fun e => by subst e; rw [sr] at sni; cases sni
  have hin : ¬ i = ni := fun e => by subst e; rw [si] at sni; cases sni
  have hrb : ¬ r = b := fun e => hbr e.symm
  have hib : ¬ i = b := fun e => hbi e.symm
  have hnb : ¬ ni = b := fun e => hbn e.symm
  have hir : ¬ i = r := fun e => hri e.symm
  have hnr : ¬ ni = r := fun e => hrn e.symm
  have hnj : ¬ ni = i := fun e => hin e.symm
  have hbk : brk (brP (.mk 4 j []) place) (⟨#[99]⟩ ++ decS j) = ⟨#[99]⟩ ++ decS j := by
    unfold brP brk
    rw [if_neg]
    simp [Lm.kind]
  rw [hbk]
  refine ok_metaprune_lambda_writer_write.acS fun hS C hC => ?_
  unfold ir_metaprune_lambda_writer_write
  have n4 : S 4 = none := clean_none hS (by omega)
  have n901 : S 901 = none := clean_none hS (by omega)
  have n902 : S 902 = none := clean_none hS (by omega)
  have hds := decS_size_le (n := j) (by omega)
  have h99 : (⟨#[99]⟩ : ByteArray).size = 1 := rfl
  repeat' (first | (with_reducible first | refine W ?_ | refine Wz0 ?_) | refine Cg _ (itoaS_a j (by omega)) ?_ | ((with_reducible first | refine Wo (fun K hK => ?_) | refine Wp ?_ | refine Wq ?_ | refine Wr ?_); (try simp only [go_sem, fN, seval, eT, iR, AS.startS, hiw_ne, low_ne, hb, hr, hi, hni, n4, n901, n902, hbr, hrb, hbi, hib, hbn, hnb, hri, hir, hrn, hnr, hin, hnj, dn_bldWS, bldWS, sb, sr, si, Lm.kind_mk, Lm.idx_mk, Lm.subs_mk, h99, dT, dF, nL]); (repeat with_reducible refine Ai ?_); (try (refine hK _ ?_; clear hK K)); (try with_reducible refine iC ?_)))
  refine ⟨_, _, writeStringW_S (bldW_mkU (bs := bs) (c := .row i ns.length) (o := o) hbr hp (by simp only [go_sem, fN, seval, eT, iR, hiw_ne, low_ne, hb, hr, hi, hni, n4, n901, n902, hbr, hrb, hbi, hib, hbn, hnb, hri, hir, hrn, hnr, hin, hnj, dn_bldWS, bldWS, sb, sr]) (by simp only [go_sem, fN, seval, eT, iR, hiw_ne, low_ne, hb, hr, hi, hni, n4, n901, n902, hbr, hrb, hbi, hib, hbn, hnb, hri, hir, hrn, hnr, hin, hnj, dn_bldWS, bldWS, sb, sr])) (⟨#[99]⟩ ++ decS j) (by first | omega | (simp only [ByteArray.size_append] at *; omega)), ?_⟩
  repeat' (first | (with_reducible first | refine W ?_ | refine Wz0 ?_) | ((with_reducible first | refine Wo (fun K hK => ?_) | refine Wp ?_ | refine Wq ?_ | refine Wr ?_); (try simp only [go_sem, fN, seval, eT, iR, hiw_ne, low_ne, hb, hr, hi, hni, n4, n901, n902, hbr, hrb, hbi, hib, hbn, hnb, hri, hir, hrn, hnr, hin, hnj, dn_bldWS, bldWS, sb, sr, si, dT, dF, nL]); (repeat with_reducible refine Ai ?_); (try (refine hK _ ?_; clear hK K)); (try with_reducible refine iC ?_)))
  refine wend hS trivial hb hr hi (j := i) (xs := ns) (c := .row i ns.length) ?_ ?_ ?_ (by omega) (.inr ⟨rfl, rfl⟩) List.take_length ?_ hbn hrn hrb hri hni (.inl rfl) fun k k1 k2 k3 k4 => ?_
  · simp only [go_sem, fN, seval, eT, iR, hiw_ne, low_ne, hb, hr, hi, hni, n4, n901, n902, hbr, hrb, hbi, hib, hbn, hnb, hri, hir, hrn, hnr, hin, hnj, dn_bldWS, bldWS]
  · simp only [go_sem, fN, seval, eT, iR, hiw_ne, low_ne, hb, hr, hi, hni, n4, n901, n902, hbr, hrb, hbi, hib, hbn, hnb, hri, hir, hrn, hnr, hin, hnj, dn_bldWS, bldWS]
  · simp only [go_sem, fN, seval, eT, iR, hiw_ne, low_ne, hb, hr, hi, hni, n4, n901, n902, hbr, hrb, hbi, hib, hbn, hnb, hri, hir, hrn, hnr, hin, hnj, dn_bldWS, bldWS, si]
  · simp only [go_sem, fN, seval, eT, iR, hiw_ne, low_ne, hb, hr, hi, hni, n4, n901, n902, hbr, hrb, hbi, hib, hbn, hnb, hri, hir, hrn, hnr, hin, hnj, dn_bldWS, bldWS, sni]
  · simp only [go_sem, fN, seval, eT, iR, hiw_ne, low_ne, k1, k2, k3, k4, dn_bldWS, bldWS]
theorem brk0 (t : Lm) (s : ByteArray) : brk (brP t 0) s = s := by
  unfold brP brk
  rw [if_neg]
  simp
set_option maxRecDepth 100000 in
theorem write_l {o : Nat} {ns : List ByteArray} {t : Lm} {s : ByteArray} (ho : o ≤ ns.length) (ih : WrS o (ns ++ [lxName 120 (ns.length - o)]) t s) : WrS o ns (.l t) (⟨#[92]⟩ ++ lxName 120 (ns.length - o) ++ ⟨#[46]⟩ ++ s) := by
  intro place bs p b r i ni N S hpl hN hN2 hz hb hr hi hni hp sb sr si sni
  have hbr : ¬ b = r := fun e => by subst e; rw [sb] at sr; cases sr
  have hbi : ¬ b = i := fun e => by subst e; rw [sb] at si; cases si
  have hbn : ¬ b = ni := fun e => by subst e; rw [sb] at sni; cases sni
  have hri : ¬ r = i := fun e => by subst e; rw [sr] at si; injection si with si; injection si with si; exact absurd si (by decide)
  have hrn : ¬ r = ni := fun e => by subst e; rw [sr] at sni; cases sni
  have hin : ¬ i = ni := fun e => by subst e; rw [si] at sni; cases sni
  have hrb : ¬ r = b := fun e => hbr e.symm
  have hib : ¬ i = b := fun e => hbi e.symm
  have hnb : ¬ ni = b := fun e => hbn e.symm
  have hir : ¬ i = r := fun e => hri e.symm
  have hnr : ¬ ni = r := fun e => hrn e.symm
  have hnj : ¬ ni = i := fun e => hin e.symm
  rw [Lm.size_l] at hN hz
  refine ok_metaprune_lambda_writer_write.acS fun hS C hC => ?_
  unfold ir_metaprune_lambda_writer_write
  have n4 : S 4 = none := clean_none hS (by omega)
  have n901 : S 901 = none := clean_none hS (by omega)
  have n902 : S 902 = none := clean_none hS (by omega)
  have hsub : (ns.length : Int) - o = ((ns.length - o : Nat) : Int) := by omega
  have hds := decS_size_le (n := ns.length - o) (by omega)
  have h120 : (⟨#[120]⟩ : ByteArray).size = 1 := rfl
  have h92 : (⟨#[92]⟩ : ByteArray).size = 1 := rfl
  have h46 : (⟨#[46]⟩ : ByteArray).size = 1 := rfl
  have h40 : (⟨#[40]⟩ : ByteArray).size = 1 := rfl
  have h41 : (⟨#[41]⟩ : ByteArray).size = 1 := rfl
  have hml : (ns.map encS).length = ns.length := by simp
  have hxs : (lxName 120 (ns.length - o)).size ≤ 7 := lxName_size (by omega)
  have hx : ⟨#[120]⟩ ++ decS (ns.length - o) = lxName 120 (ns.length - o) := rfl
  generalize lxName 120 (ns.length - o) = nm at *
  have hlen : (ns ++ [nm]).length = ns.length + 1 := by simp
  have hmap : (ns ++ [nm]).map encS = ns.map encS ++ [[.str nm]] := by simp [encS]
  have hl2 : ((ns ++ [nm]).map encS).length = ns.length + 1 := by simp
  have hl3 : (((ns.length + 1 : Nat) : Int) - 1).toNat = ns.length := by omega
  simp only [ByteArray.size_append] at hz
  by_cases hp0 : 0 < place
  · have hbk : bs ++ brk (brP (.l t) place) (⟨#[92]⟩ ++ nm ++ ⟨#[46]⟩ ++ s) = bs ++ ⟨#[40]⟩ ++ (⟨#[92]⟩ ++ nm ++ ⟨#[46]⟩) ++ s ++ ⟨#[41]⟩ := by
      unfold brP brk
      rw [if_pos]
      · simp only [ByteArray.append_assoc]
      · simp [Lm.l, Lm.kind, hp0]
    rw [hbk]
    obtain ⟨Sd, hW⟩ : ∃ Sd, wdone S b r i ni N ns (bs ++ ⟨#[40]⟩ ++ (⟨#[92]⟩ ++ nm ++ ⟨#[46]⟩) ++ s ++ ⟨#[41]⟩) o = Sd := ⟨_, rfl⟩
    rw [hW]
    repeat' (first | (with_reducible first | refine W ?_ | refine Wz0 ?_) | ((with_reducible first | refine Wo (fun K hK => ?_) | refine Wp ?_ | refine Wq ?_ | refine Wr ?_); (try simp only [go_sem, fN, seval, eT, iR, AS.startS, hiw_ne, low_ne, hb, hr, hi, hni, n4, n901, n902, hbr, hrb, hbi, hib, hbn, hnb, hri, hir, hrn, hnr, hin, hnj, dn_bldWS, bldWS, sb, sr, si, Lm.l, Lm.kind_mk, Lm.idx_mk, Lm.subs_mk, hp0, dT, dF, nL]); (repeat with_reducible refine Ai ?_); (try (refine hK _ ?_; clear hK K)); (try with_reducible refine iC ?_)))
    refine ⟨_, _, writeByteW_S (bldW_mkU (bs := bs) (c := .row i ns.length) (o := o) hbr hp (by simp only [go_sem, fN, seval, eT, iR, hiw_ne, low_ne, hb, hr, hi, hni, n4, n901, n902, hbr, hrb, hbi, hib, hbn, hnb, hri, hir, hrn, hnr, hin, hnj, dn_bldWS, bldWS, sb, sr]) (by simp only [go_sem, fN, seval, eT, iR, hiw_ne, low_ne, hb, hr, hi, hni, n4, n901, n902, hbr, hrb, hbi, hib, hbn, hnb, hri, hir, hrn, hnr, hin, hnj, dn_bldWS, bldWS, sb, sr])) 40 (by first | omega | (simp only [ByteArray.size_append] at *; omega)), ?_⟩
    repeat' (first | (with_reducible first | refine W ?_ | refine Wz0 ?_) | refine Cg _ (itoaS_a (ns.length - o) (by omega)) ?_ | ((with_reducible first | refine Wo (fun K hK => ?_) | refine Wp ?_ | refine Wq ?_ | refine Wr ?_); (try simp only [go_sem, fN, seval, eT, iR, AS.startS, hiw_ne, low_ne, hb, hr, hi, hni, n4, n901, n902, hbr, hrb, hbi, hib, hbn, hnb, hri, hir, hrn, hnr, hin, hnj, dn_bldWS, bldWS, sb, sr, si, Lm.l, Lm.kind_mk, Lm.idx_mk, Lm.subs_mk, hp0, hsub, hx, h120, h92, h46, dT, dF, nL]); (repeat with_reducible refine Ai ?_); (try (refine hK _ ?_; clear hK K)); (try with_reducible refine iC ?_)))
    refine ⟨_, _, writeStringW_S (bldW_mkU (bs := bs ++ ⟨#[40]⟩) (c := .row i ns.length) (o := o) hbr (.inr rfl) (by simp only [go_sem, fN, seval, eT, iR, hiw_ne, low_ne, hb, hr, hi, hni, n4, n901, n902, hbr, hrb, hbi, hib, hbn, hnb, hri, hir, hrn, hnr, hin, hnj, dn_bldWS, bldWS, sb, sr]) (by simp only [go_sem, fN, seval, eT, iR, hiw_ne, low_ne, hb, hr, hi, hni, n4, n901, n902, hbr, hrb, hbi, hib, hbn, hnb, hri, hir, hrn, hnr, hin, hnj, dn_bldWS, bldWS, sb, sr])) (⟨#[92]⟩ ++ nm ++ ⟨#[46]⟩) (by first | omega | (simp only [ByteArray.size_append] at *; omega)), ?_⟩
    repeat' (first | (with_reducible first | refine W ?_ | refine Wz0 ?_) | ((with_reducible first | refine Wo (fun K hK => ?_) | refine Wp ?_ | refine Wq ?_ | refine Wr ?_); (try simp only [go_sem, fN, seval, eT, iR, hiw_ne, low_ne, hb, hr, hi, hni, n4, n901, n902, hbr, hrb, hbi, hib, hbn, hnb, hri, hir, hrn, hnr, hin, hnj, dn_bldWS, bldWS, sb, sr, si, Lm.l, Lm.kind_mk, Lm.idx_mk, Lm.subs_mk, hml, dT, dF, nL]); (repeat with_reducible refine Ai ?_); (try (refine hK _ ?_; clear hK K)); (try with_reducible refine iC ?_)))
    refine ⟨_, _, ih 0 (bs ++ ⟨#[40]⟩ ++ (⟨#[92]⟩ ++ nm ++ ⟨#[46]⟩)) _ (up1 b) (up1 r) (up1 i) (up1 901) N _ (by decide) (by omega) hN2 (by simp only [ByteArray.size_append]; omega) (up1_le _) (up1_le _) (up1_le _) (up1_le _) (.inr rfl) (up_boxW (by simp only [go_sem, fN, seval, eT, iR, hiw_ne, low_ne, hb, hr, hi, hni, n4, n901, n902, hbr, hrb, hbi, hib, hbn, hnb, hri, hir, hrn, hnr, hin, hnj, dn_bldWS, bldWS, hlen])) (up_mrowW (by simp only [go_sem, fN, seval, eT, iR, hiw_ne, low_ne, hb, hr, hi, hni, n4, n901, n902, hbr, hrb, hbi, hib, hbn, hnb, hri, hir, hrn, hnr, hin, hnj, dn_bldWS, bldWS])) (up_rowW (by simp only [go_sem, fN, seval, eT, iR, hiw_ne, low_ne, hb, hr, hi, hni, n4, n901, n902, hbr, hrb, hbi, hib, hbn, hnb, hri, hir, hrn, hnr, hin, hnj, dn_bldWS, bldWS, hmap, rowW])) (up_noneW (by simp only [go_sem, fN, seval, eT, iR, hiw_ne, low_ne, hb, hr, hi, hni, n4, n901, n902, hbr, hrb, hbi, hib, hbn, hnb, hri, hir, hrn, hnr, hin, hnj, dn_bldWS, bldWS])), ?_⟩
    rw [brk0]
    repeat' (first | (with_reducible first | refine W ?_ | refine Wz0 ?_) | ((with_reducible first | refine Wo (fun K hK => ?_) | refine Wp ?_ | refine Wq ?_ | refine Wr ?_); (try simp only [go_sem, fN, seval, eT, iR, dn_wdone, wdone, hiw_ne, low_ne, hb, hr, hi, hni, n4, n901, n902, hbr, hrb, hbi, hib, hbn, hnb, hri, hir, hrn, hnr, hin, hnj, dn_bldWS, bldWS, hlen, hl2, hl3, dT, dF, nL]); (repeat with_reducible refine Ai ?_); (try (refine hK _ ?_; clear hK K)); (try with_reducible refine iC ?_)))
    refine ⟨_, _, writeByteW_S (bldW_mkU (bs := bs ++ ⟨#[40]⟩ ++ (⟨#[92]⟩ ++ nm ++ ⟨#[46]⟩) ++ s) (c := .part 901 ns.length (ns.length + 1)) (o := o) hbr (.inr rfl) (by simp only [go_sem, fN, seval, eT, iR, hiw_ne, low_ne, hb, hr, hi, hni, n4, n901, n902, hbr, hrb, hbi, hib, hbn, hnb, hri, hir, hrn, hnr, hin, hnj, dn_bldWS, bldWS, sb, sr]) (by simp only [go_sem, fN, seval, eT, iR, hiw_ne, low_ne, hb, hr, hi, hni, n4, n901, n902, hbr, hrb, hbi, hib, hbn, hnb, hri, hir, hrn, hnr, hin, hnj, dn_bldWS, bldWS, sb, sr])) 41 (by first | omega | (simp only [ByteArray.size_append] at *; omega)), ?_⟩
    repeat' (first | (with_reducible first | refine W ?_ | refine Wz0 ?_) | ((with_reducible first | refine Wo (fun K hK => ?_) | refine Wp ?_ | refine Wq ?_ | refine Wr ?_); (try simp only [go_sem, fN, seval, eT, iR, hiw_ne, low_ne, hb, hr, hi, hni, n4, n901, n902, hbr, hrb, hbi, hib, hbn, hnb, hri, hir, hrn, hnr, hin, hnj, dn_bldWS, bldWS, hlen, hl2, hl3, dT, dF, nL]); (repeat with_reducible refine Ai ?_); (try (refine hK _ ?_; clear hK K)); (try with_reducible refine iC ?_)))
    rw [← hW]
    refine wend hS trivial hb hr hi (j := 901) (xs := ns ++ [nm]) (c := .part 901 ns.length (ns ++ [nm]).length) ?_ ?_ ?_ (by first | omega | (simp only [List.length_append, List.length_cons, List.length_nil]; omega)) (by first | exact .inl rfl | exact .inr ⟨rfl, rfl⟩) (by simp) ?_ hbn hrn hrb (by omega) hni (.inr ⟨by decide, ?_, hin, hib, hir⟩) fun k k1 k2 k3 k4 => ?_
    · simp only [go_sem, fN, seval, eT, iR, hiw_ne, low_ne, hb, hr, hi, hni, n4, n901, n902, hbr, hrb, hbi, hib, hbn, hnb, hri, hir, hrn, hnr, hin, hnj, dn_bldWS, bldWS, hlen]
    · simp only [go_sem, fN, seval, eT, iR, hiw_ne, low_ne, hb, hr, hi, hni, n4, n901, n902, hbr, hrb, hbi, hib, hbn, hnb, hri, hir, hrn, hnr, hin, hnj, dn_bldWS, bldWS]
    · simp only [go_sem, fN, seval, eT, iR, hiw_ne, low_ne, hb, hr, hi, hni, n4, n901, n902, hbr, hrb, hbi, hib, hbn, hnb, hri, hir, hrn, hnr, hin, hnj, dn_bldWS, bldWS]
    · simp only [go_sem, fN, seval, eT, iR, hiw_ne, low_ne, hb, hr, hi, hni, n4, n901, n902, hbr, hrb, hbi, hib, hbn, hnb, hri, hir, hrn, hnr, hin, hnj, dn_bldWS, bldWS, sni]
    · simp only [go_sem, fN, seval, eT, iR, hiw_ne, low_ne, hb, hr, hi, hni, n4, n901, n902, hbr, hrb, hbi, hib, hbn, hnb, hri, hir, hrn, hnr, hin, hnj, dn_bldWS, bldWS]
    · simp only [go_sem, fN, seval, eT, iR, hiw_ne, low_ne, k1, k2, k3, k4, dn_bldWS, bldWS]
  · have hbk : bs ++ brk (brP (.l t) place) (⟨#[92]⟩ ++ nm ++ ⟨#[46]⟩ ++ s) = bs ++ (⟨#[92]⟩ ++ nm ++ ⟨#[46]⟩) ++ s := by
      unfold brP brk
      rw [if_neg]
      · simp only [ByteArray.append_assoc]
      · simp [Lm.l, Lm.kind, hp0]
    rw [hbk]
    obtain ⟨Sd, hW⟩ : ∃ Sd, wdone S b r i ni N ns (bs ++ (⟨#[92]⟩ ++ nm ++ ⟨#[46]⟩) ++ s) o = Sd := ⟨_, rfl⟩
    rw [hW]
    repeat' (first | (with_reducible first | refine W ?_ | refine Wz0 ?_) | refine Cg _ (itoaS_a (ns.length - o) (by omega)) ?_ | ((with_reducible first | refine Wo (fun K hK => ?_) | refine Wp ?_ | refine Wq ?_ | refine Wr ?_); (try simp only [go_sem, fN, seval, eT, iR, AS.startS, hiw_ne, low_ne, hb, hr, hi, hni, n4, n901, n902, hbr, hrb, hbi, hib, hbn, hnb, hri, hir, hrn, hnr, hin, hnj, dn_bldWS, bldWS, sb, sr, si, Lm.l, Lm.kind_mk, Lm.idx_mk, Lm.subs_mk, hp0, hsub, hx, h120, h92, h46, dT, dF, nL]); (repeat with_reducible refine Ai ?_); (try (refine hK _ ?_; clear hK K)); (try with_reducible refine iC ?_)))
    refine ⟨_, _, writeStringW_S (bldW_mkU (bs := bs) (c := .row i ns.length) (o := o) hbr hp (by simp only [go_sem, fN, seval, eT, iR, hiw_ne, low_ne, hb, hr, hi, hni, n4, n901, n902, hbr, hrb, hbi, hib, hbn, hnb, hri, hir, hrn, hnr, hin, hnj, dn_bldWS, bldWS, sb, sr]) (by simp only [go_sem, fN, seval, eT, iR, hiw_ne, low_ne, hb, hr, hi, hni, n4, n901, n902, hbr, hrb, hbi, hib, hbn, hnb, hri, hir, hrn, hnr, hin, hnj, dn_bldWS, bldWS, sb, sr])) (⟨#[92]⟩ ++ nm ++ ⟨#[46]⟩) (by first | omega | (simp only [ByteArray.size_append] at *; omega)), ?_⟩
    repeat' (first | (with_reducible first | refine W ?_ | refine Wz0 ?_) | ((with_reducible first | refine Wo (fun K hK => ?_) | refine Wp ?_ | refine Wq ?_ | refine Wr ?_); (try simp only [go_sem, fN, seval, eT, iR, hiw_ne, low_ne, hb, hr, hi, hni, n4, n901, n902, hbr, hrb, hbi, hib, hbn, hnb, hri, hir, hrn, hnr, hin, hnj, dn_bldWS, bldWS, sb, sr, si, Lm.l, Lm.kind_mk, Lm.idx_mk, Lm.subs_mk, hml, dT, dF, nL]); (repeat with_reducible refine Ai ?_); (try (refine hK _ ?_; clear hK K)); (try with_reducible refine iC ?_)))
    refine ⟨_, _, ih 0 (bs ++ (⟨#[92]⟩ ++ nm ++ ⟨#[46]⟩)) _ (up1 b) (up1 r) (up1 i) (up1 901) N _ (by decide) (by omega) hN2 (by simp only [ByteArray.size_append]; omega) (up1_le _) (up1_le _) (up1_le _) (up1_le _) (.inr rfl) (up_boxW (by simp only [go_sem, fN, seval, eT, iR, hiw_ne, low_ne, hb, hr, hi, hni, n4, n901, n902, hbr, hrb, hbi, hib, hbn, hnb, hri, hir, hrn, hnr, hin, hnj, dn_bldWS, bldWS, hlen])) (up_mrowW (by simp only [go_sem, fN, seval, eT, iR, hiw_ne, low_ne, hb, hr, hi, hni, n4, n901, n902, hbr, hrb, hbi, hib, hbn, hnb, hri, hir, hrn, hnr, hin, hnj, dn_bldWS, bldWS])) (up_rowW (by simp only [go_sem, fN, seval, eT, iR, hiw_ne, low_ne, hb, hr, hi, hni, n4, n901, n902, hbr, hrb, hbi, hib, hbn, hnb, hri, hir, hrn, hnr, hin, hnj, dn_bldWS, bldWS, hmap, rowW])) (up_noneW (by simp only [go_sem, fN, seval, eT, iR, hiw_ne, low_ne, hb, hr, hi, hni, n4, n901, n902, hbr, hrb, hbi, hib, hbn, hnb, hri, hir, hrn, hnr, hin, hnj, dn_bldWS, bldWS])), ?_⟩
    rw [brk0]
    repeat' (first | (with_reducible first | refine W ?_ | refine Wz0 ?_) | ((with_reducible first | refine Wo (fun K hK => ?_) | refine Wp ?_ | refine Wq ?_ | refine Wr ?_); (try simp only [go_sem, fN, seval, eT, iR, dn_wdone, wdone, hiw_ne, low_ne, hb, hr, hi, hni, n4, n901, n902, hbr, hrb, hbi, hib, hbn, hnb, hri, hir, hrn, hnr, hin, hnj, dn_bldWS, bldWS, hlen, hl2, hl3, dT, dF, nL]); (repeat with_reducible refine Ai ?_); (try (refine hK _ ?_; clear hK K)); (try with_reducible refine iC ?_)))
    rw [← hW]
    refine wend hS trivial hb hr hi (j := 901) (xs := ns ++ [nm]) (c := .part 901 ns.length (ns ++ [nm]).length) ?_ ?_ ?_ (by first | omega | (simp only [List.length_append, List.length_cons, List.length_nil]; omega)) (by first | exact .inl rfl | exact .inr ⟨rfl, rfl⟩) (by simp) ?_ hbn hrn hrb (by omega) hni (.inr ⟨by decide, ?_, hin, hib, hir⟩) fun k k1 k2 k3 k4 => ?_
    · simp only [go_sem, fN, seval, eT, iR, hiw_ne, low_ne, hb, hr, hi, hni, n4, n901, n902, hbr, hrb, hbi, hib, hbn, hnb, hri, hir, hrn, hnr, hin, hnj, dn_bldWS, bldWS, hlen]
    · simp only [go_sem, fN, seval, eT, iR, hiw_ne, low_ne, hb, hr, hi, hni, n4, n901, n902, hbr, hrb, hbi, hib, hbn, hnb, hri, hir, hrn, hnr, hin, hnj, dn_bldWS, bldWS]
    · simp only [go_sem, fN, seval, eT, iR, hiw_ne, low_ne, hb, hr, hi, hni, n4, n901, n902, hbr, hrb, hbi, hib, hbn, hnb, hri, hir, hrn, hnr, hin, hnj, dn_bldWS, bldWS]
    · simp only [go_sem, fN, seval, eT, iR, hiw_ne, low_ne, hb, hr, hi, hni, n4, n901, n902, hbr, hrb, hbi, hib, hbn, hnb, hri, hir, hrn, hnr, hin, hnj, dn_bldWS, bldWS, sni]
    · simp only [go_sem, fN, seval, eT, iR, hiw_ne, low_ne, hb, hr, hi, hni, n4, n901, n902, hbr, hrb, hbi, hib, hbn, hnb, hri, hir, hrn, hnr, hin, hnj, dn_bldWS, bldWS]
    · simp only [go_sem, fN, seval, eT, iR, hiw_ne, low_ne, k1, k2, k3, k4, dn_bldWS, bldWS]
set_option maxRecDepth 100000 in
theorem write_a {o : Nat} {ns : List ByteArray} {f x : Lm} {s t : ByteArray} (ihf : WrS o ns f s) (ihx : WrS o ns x t) : WrS o ns (.a f x) (brk (decide (f.kind = 2)) s ++ ⟨#[32]⟩ ++ brk (decide (x.kind = 2 ∨ x.kind = 3)) t) := by
  intro place bs p b r i ni N S hpl hN hN2 hz hb hr hi hni hp sb sr si sni
  have hbr : ¬ b = r := fun e => by subst e; rw [sb] at sr; cases sr
  have hbi : ¬ b = i := fun e => by subst e; rw [sb] at si; cases si
  have hbn : ¬ b = ni := fun e => by subst e; rw [sb] at sni; cases sni
  have hri : ¬ r = i := fun e => by subst e; rw [sr] at si; injection si with si; injection si with si; exact absurd si (by decide)
  have hrn : ¬ r = ni := fun e => by subst e; rw [sr] at sni; cases sni
  have hin : ¬ i = ni := fun e => by subst e; rw [si] at sni; cases sni
  have hrb : ¬ r = b := fun e => hbr e.symm
  have hib : ¬ i = b := fun e => hbi e.symm
  have hnb : ¬ ni = b := fun e => hbn e.symm
  have hir : ¬ i = r := fun e => hri e.symm
  have hnr : ¬ ni = r := fun e => hrn e.symm
  have hnj : ¬ ni = i := fun e => hin e.symm
  rw [Lm.size_a] at hN hz
  refine ok_metaprune_lambda_writer_write.acS fun hS C hC => ?_
  unfold ir_metaprune_lambda_writer_write
  have n4 : S 4 = none := clean_none hS (by omega)
  have n901 : S 901 = none := clean_none hS (by omega)
  have n902 : S 902 = none := clean_none hS (by omega)
  have h32 : (⟨#[32]⟩ : ByteArray).size = 1 := rfl
  have h40 : (⟨#[40]⟩ : ByteArray).size = 1 := rfl
  have h41 : (⟨#[41]⟩ : ByteArray).size = 1 := rfl
  have hlen : ns.length = ns.length := rfl
  have hbf : brk (decide (f.kind = 2)) s = brk (brP f 1) s := by
    unfold brP
    congr 1
    simp
  have hbx : brk (decide (x.kind = 2 ∨ x.kind = 3)) t = brk (brP x 2) t := by
    unfold brP
    congr 1
    simp
  simp only [ByteArray.size_append] at hz
  rw [hbf, hbx] at hz
  rw [hbf, hbx]
  clear hbf hbx
  have hs1 := brk_size (brP f 1) s
  have ht1 := brk_size (brP x 2) t
  generalize hS1 : brk (brP f 1) s = s1 at *
  generalize hT1 : brk (brP x 2) t = t1 at *
  obtain ⟨p1, hp1, sb1⟩ := up_boxWp (S := S) (b := b) (i := i) (p := p) hp sb
  by_cases hp0 : 1 < place
  · have hbk : bs ++ brk (brP (.a f x) place) (s1 ++ ⟨#[32]⟩ ++ t1) = bs ++ ⟨#[40]⟩ ++ s1 ++ ⟨#[32]⟩ ++ t1 ++ ⟨#[41]⟩ := by
      unfold brP brk
      rw [if_pos]
      · simp only [ByteArray.append_assoc]
      · simp [Lm.a, Lm.kind, hp0]
    rw [hbk]
    obtain ⟨Sd, hW⟩ : ∃ Sd, wdone S b r i ni N ns (bs ++ ⟨#[40]⟩ ++ s1 ++ ⟨#[32]⟩ ++ t1 ++ ⟨#[41]⟩) o = Sd := ⟨_, rfl⟩
    rw [hW]
    repeat' (first | (with_reducible first | refine W ?_ | refine Wz0 ?_) | ((with_reducible first | refine Wo (fun K hK => ?_) | refine Wp ?_ | refine Wq ?_ | refine Wr ?_); (try simp only [go_sem, fN, seval, eT, iR, AS.startS, hiw_ne, low_ne, hb, hr, hi, hni, n4, n901, n902, hbr, hrb, hbi, hib, hbn, hnb, hri, hir, hrn, hnr, hin, hnj, dn_bldWS, bldWS, sb, sr, si, Lm.a, Lm.kind_mk, Lm.idx_mk, Lm.subs_mk, hp0, dT, dF, nL]); (repeat with_reducible refine Ai ?_); (try (refine hK _ ?_; clear hK K)); (try with_reducible refine iC ?_)))
    refine ⟨_, _, writeByteW_S (bldW_mkU (bs := bs) (c := .row i ns.length) (o := o) hbr hp (by simp only [go_sem, fN, seval, eT, iR, hiw_ne, low_ne, hb, hr, hi, hni, n4, n901, n902, hbr, hrb, hbi, hib, hbn, hnb, hri, hir, hrn, hnr, hin, hnj, dn_bldWS, bldWS, sb, sr]) (by simp only [go_sem, fN, seval, eT, iR, hiw_ne, low_ne, hb, hr, hi, hni, n4, n901, n902, hbr, hrb, hbi, hib, hbn, hnb, hri, hir, hrn, hnr, hin, hnj, dn_bldWS, bldWS, sb, sr])) 40 (by first | omega | (simp only [ByteArray.size_append] at *; omega)), ?_⟩
    repeat' (first | (with_reducible first | refine W ?_ | refine Wz0 ?_) | ((with_reducible first | refine Wo (fun K hK => ?_) | refine Wp ?_ | refine Wq ?_ | refine Wr ?_); (try simp only [go_sem, fN, seval, eT, iR, AS.startS, hiw_ne, low_ne, hb, hr, hi, hni, n4, n901, n902, hbr, hrb, hbi, hib, hbn, hnb, hri, hir, hrn, hnr, hin, hnj, dn_bldWS, bldWS, sb, sr, si, Lm.a, Lm.kind_mk, Lm.idx_mk, Lm.subs_mk, hp0, dT, dF, nL]); (repeat with_reducible refine Ai ?_); (try (refine hK _ ?_; clear hK K)); (try with_reducible refine iC ?_)))
    have hc1 := ihf 1 (bs ++ ⟨#[40]⟩) (.ptr (up1 b) 1 0 0) (up1 b) (up1 r) (up1 i) (up1 901) N
    rw [hS1] at hc1
    refine ⟨_, _, hc1 _ (by decide) (by omega) hN2 (by simp only [ByteArray.size_append]; omega) (up1_le _) (up1_le _) (up1_le _) (up1_le _) (.inr rfl) (up_boxW (by simp only [go_sem, fN, seval, eT, iR, hiw_ne, low_ne, hb, hr, hi, hni, n4, n901, n902, hbr, hrb, hbi, hib, hbn, hnb, hri, hir, hrn, hnr, hin, hnj, dn_bldWS, bldWS])) (up_mrowW (by simp only [go_sem, fN, seval, eT, iR, hiw_ne, low_ne, hb, hr, hi, hni, n4, n901, n902, hbr, hrb, hbi, hib, hbn, hnb, hri, hir, hrn, hnr, hin, hnj, dn_bldWS, bldWS])) (up_rowW (by simp only [go_sem, fN, seval, eT, iR, hiw_ne, low_ne, hb, hr, hi, hni, n4, n901, n902, hbr, hrb, hbi, hib, hbn, hnb, hri, hir, hrn, hnr, hin, hnj, dn_bldWS, bldWS, si])) (up_noneW (by simp only [go_sem, fN, seval, eT, iR, hiw_ne, low_ne, hb, hr, hi, hni, n4, n901, n902, hbr, hrb, hbi, hib, hbn, hnb, hri, hir, hrn, hnr, hin, hnj, dn_bldWS, bldWS])), ?_⟩
    repeat' (first | (with_reducible first | refine W ?_ | refine Wz0 ?_) | ((with_reducible first | refine Wo (fun K hK => ?_) | refine Wp ?_ | refine Wq ?_ | refine Wr ?_); (try simp only [go_sem, fN, seval, eT, iR, dn_wdone, wdone, hiw_ne, low_ne, hb, hr, hi, hni, n4, n901, n902, hbr, hrb, hbi, hib, hbn, hnb, hri, hir, hrn, hnr, hin, hnj, dn_bldWS, bldWS, hp0, dT, dF, nL]); (repeat with_reducible refine Ai ?_); (try (refine hK _ ?_; clear hK K)); (try with_reducible refine iC ?_)))
    refine ⟨_, _, writeByteW_S (bldW_mkU (bs := bs ++ ⟨#[40]⟩ ++ s1) (c := .row 901 ns.length) (o := o) hbr (.inr rfl) (by simp only [go_sem, fN, seval, eT, iR, hiw_ne, low_ne, hb, hr, hi, hni, n4, n901, n902, hbr, hrb, hbi, hib, hbn, hnb, hri, hir, hrn, hnr, hin, hnj, dn_bldWS, bldWS, sb, sr]) (by simp only [go_sem, fN, seval, eT, iR, hiw_ne, low_ne, hb, hr, hi, hni, n4, n901, n902, hbr, hrb, hbi, hib, hbn, hnb, hri, hir, hrn, hnr, hin, hnj, dn_bldWS, bldWS, sb, sr])) 32 (by first | omega | (simp only [ByteArray.size_append] at *; omega)), ?_⟩
    repeat' (first | (with_reducible first | refine W ?_ | refine Wz0 ?_) | ((with_reducible first | refine Wo (fun K hK => ?_) | refine Wp ?_ | refine Wq ?_ | refine Wr ?_); (try simp only [go_sem, fN, seval, eT, iR, AS.startS, hiw_ne, low_ne, hb, hr, hi, hni, n4, n901, n902, hbr, hrb, hbi, hib, hbn, hnb, hri, hir, hrn, hnr, hin, hnj, dn_bldWS, bldWS, sb, sr, si, Lm.a, Lm.kind_mk, Lm.idx_mk, Lm.subs_mk, hp0, dT, dF, nL]); (repeat with_reducible refine Ai ?_); (try (refine hK _ ?_; clear hK K)); (try with_reducible refine iC ?_)))
    have hc2 := ihx 2 (bs ++ ⟨#[40]⟩ ++ s1 ++ ⟨#[32]⟩) (.ptr (up1 b) 1 0 0) (up1 b) (up1 r) (up1 901) (up1 902) N
    rw [hT1] at hc2
    refine ⟨_, _, hc2 _ (by decide) (by omega) hN2 (by simp only [ByteArray.size_append]; omega) (up1_le _) (up1_le _) (up1_le _) (up1_le _) (.inr rfl) (up_boxW (by simp only [go_sem, fN, seval, eT, iR, hiw_ne, low_ne, hb, hr, hi, hni, n4, n901, n902, hbr, hrb, hbi, hib, hbn, hnb, hri, hir, hrn, hnr, hin, hnj, dn_bldWS, bldWS])) (up_mrowW (by simp only [go_sem, fN, seval, eT, iR, hiw_ne, low_ne, hb, hr, hi, hni, n4, n901, n902, hbr, hrb, hbi, hib, hbn, hnb, hri, hir, hrn, hnr, hin, hnj, dn_bldWS, bldWS])) (up_rowW (by simp only [go_sem, fN, seval, eT, iR, hiw_ne, low_ne, hb, hr, hi, hni, n4, n901, n902, hbr, hrb, hbi, hib, hbn, hnb, hri, hir, hrn, hnr, hin, hnj, dn_bldWS, bldWS])) (up_noneW (by simp only [go_sem, fN, seval, eT, iR, hiw_ne, low_ne, hb, hr, hi, hni, n4, n901, n902, hbr, hrb, hbi, hib, hbn, hnb, hri, hir, hrn, hnr, hin, hnj, dn_bldWS, bldWS])), ?_⟩
    repeat' (first | (with_reducible first | refine W ?_ | refine Wz0 ?_) | ((with_reducible first | refine Wo (fun K hK => ?_) | refine Wp ?_ | refine Wq ?_ | refine Wr ?_); (try simp only [go_sem, fN, seval, eT, iR, dn_wdone, wdone, hiw_ne, low_ne, hb, hr, hi, hni, n4, n901, n902, hbr, hrb, hbi, hib, hbn, hnb, hri, hir, hrn, hnr, hin, hnj, dn_bldWS, bldWS, hp0, dT, dF, nL]); (repeat with_reducible refine Ai ?_); (try (refine hK _ ?_; clear hK K)); (try with_reducible refine iC ?_)))
    refine ⟨_, _, writeByteW_S (bldW_mkU (bs := bs ++ ⟨#[40]⟩ ++ s1 ++ ⟨#[32]⟩ ++ t1) (c := .row 902 ns.length) (o := o) hbr (.inr rfl) (by simp only [go_sem, fN, seval, eT, iR, hiw_ne, low_ne, hb, hr, hi, hni, n4, n901, n902, hbr, hrb, hbi, hib, hbn, hnb, hri, hir, hrn, hnr, hin, hnj, dn_bldWS, bldWS, sb, sr]) (by simp only [go_sem, fN, seval, eT, iR, hiw_ne, low_ne, hb, hr, hi, hni, n4, n901, n902, hbr, hrb, hbi, hib, hbn, hnb, hri, hir, hrn, hnr, hin, hnj, dn_bldWS, bldWS, sb, sr])) 41 (by first | omega | (simp only [ByteArray.size_append] at *; omega)), ?_⟩
    repeat' (first | (with_reducible first | refine W ?_ | refine Wz0 ?_) | ((with_reducible first | refine Wo (fun K hK => ?_) | refine Wp ?_ | refine Wq ?_ | refine Wr ?_); (try simp only [go_sem, fN, seval, eT, iR, AS.startS, hiw_ne, low_ne, hb, hr, hi, hni, n4, n901, n902, hbr, hrb, hbi, hib, hbn, hnb, hri, hir, hrn, hnr, hin, hnj, dn_bldWS, bldWS, dT, dF, nL]); (repeat with_reducible refine Ai ?_); (try (refine hK _ ?_; clear hK K)); (try with_reducible refine iC ?_)))
    rw [← hW]
    refine wend hS trivial hb hr hi (j := 902) (xs := ns) (c := .row 902 ns.length) ?_ ?_ ?_ (by first | omega | (simp only [List.length_append, List.length_cons, List.length_nil]; omega)) (by first | exact .inl rfl | exact .inr ⟨rfl, rfl⟩) (by simp) ?_ hbn hrn hrb (by omega) hni (.inr ⟨by decide, ?_, hin, hib, hir⟩) fun k k1 k2 k3 k4 => ?_
    · simp only [go_sem, fN, seval, eT, iR, hiw_ne, low_ne, hb, hr, hi, hni, n4, n901, n902, hbr, hrb, hbi, hib, hbn, hnb, hri, hir, hrn, hnr, hin, hnj, dn_bldWS, bldWS, hlen]
    · simp only [go_sem, fN, seval, eT, iR, hiw_ne, low_ne, hb, hr, hi, hni, n4, n901, n902, hbr, hrb, hbi, hib, hbn, hnb, hri, hir, hrn, hnr, hin, hnj, dn_bldWS, bldWS]
    · simp only [go_sem, fN, seval, eT, iR, hiw_ne, low_ne, hb, hr, hi, hni, n4, n901, n902, hbr, hrb, hbi, hib, hbn, hnb, hri, hir, hrn, hnr, hin, hnj, dn_bldWS, bldWS]
    · simp only [go_sem, fN, seval, eT, iR, hiw_ne, low_ne, hb, hr, hi, hni, n4, n901, n902, hbr, hrb, hbi, hib, hbn, hnb, hri, hir, hrn, hnr, hin, hnj, dn_bldWS, bldWS, sni]
    · simp only [go_sem, fN, seval, eT, iR, hiw_ne, low_ne, hb, hr, hi, hni, n4, n901, n902, hbr, hrb, hbi, hib, hbn, hnb, hri, hir, hrn, hnr, hin, hnj, dn_bldWS, bldWS]
    · simp only [go_sem, fN, seval, eT, iR, hiw_ne, low_ne, k1, k2, k3, k4, dn_bldWS, bldWS]
  · have hbk : bs ++ brk (brP (.a f x) place) (s1 ++ ⟨#[32]⟩ ++ t1) = bs ++ s1 ++ ⟨#[32]⟩ ++ t1 := by
      unfold brP brk
      rw [if_neg]
      · simp only [ByteArray.append_assoc]
      · simp [Lm.a, Lm.kind, hp0]
    rw [hbk]
    obtain ⟨Sd, hW⟩ : ∃ Sd, wdone S b r i ni N ns (bs ++ s1 ++ ⟨#[32]⟩ ++ t1) o = Sd := ⟨_, rfl⟩
    rw [hW]
    repeat' (first | (with_reducible first | refine W ?_ | refine Wz0 ?_) | ((with_reducible first | refine Wo (fun K hK => ?_) | refine Wp ?_ | refine Wq ?_ | refine Wr ?_); (try simp only [go_sem, fN, seval, eT, iR, AS.startS, hiw_ne, low_ne, hb, hr, hi, hni, n4, n901, n902, hbr, hrb, hbi, hib, hbn, hnb, hri, hir, hrn, hnr, hin, hnj, dn_bldWS, bldWS, sb, sr, si, Lm.a, Lm.kind_mk, Lm.idx_mk, Lm.subs_mk, hp0, dT, dF, nL]); (repeat with_reducible refine Ai ?_); (try (refine hK _ ?_; clear hK K)); (try with_reducible refine iC ?_)))
    have hc1 := fun S' => ihf 1 bs p1 (up1 b) (up1 r) (up1 i) (up1 901) N S'
    rw [hS1] at hc1
    have sbx : ∀ S' : AStore, S' b = some (boxW p r bs.size (.row i ns.length) o) → upS S' (up1 b) = some (boxW p1 (up1 r) bs.size (.row (up1 i) ns.length) o) := fun S' h => by rw [upS_up, h, ← sb, ← upS_up, sb1]
    refine ⟨_, _, hc1 _ (by decide) (by omega) hN2 (by omega) (up1_le _) (up1_le _) (up1_le _) (up1_le _) hp1 (sbx _ (by simp only [go_sem, fN, seval, eT, iR, hiw_ne, low_ne, hb, hr, hi, hni, n4, n901, n902, hbr, hrb, hbi, hib, hbn, hnb, hri, hir, hrn, hnr, hin, hnj, dn_bldWS, bldWS, sb])) (up_mrowW (by simp only [go_sem, fN, seval, eT, iR, hiw_ne, low_ne, hb, hr, hi, hni, n4, n901, n902, hbr, hrb, hbi, hib, hbn, hnb, hri, hir, hrn, hnr, hin, hnj, dn_bldWS, bldWS, sr])) (up_rowW (by simp only [go_sem, fN, seval, eT, iR, hiw_ne, low_ne, hb, hr, hi, hni, n4, n901, n902, hbr, hrb, hbi, hib, hbn, hnb, hri, hir, hrn, hnr, hin, hnj, dn_bldWS, bldWS, si])) (up_noneW (by simp only [go_sem, fN, seval, eT, iR, hiw_ne, low_ne, hb, hr, hi, hni, n4, n901, n902, hbr, hrb, hbi, hib, hbn, hnb, hri, hir, hrn, hnr, hin, hnj, dn_bldWS, bldWS])), ?_⟩
    repeat' (first | (with_reducible first | refine W ?_ | refine Wz0 ?_) | ((with_reducible first | refine Wo (fun K hK => ?_) | refine Wp ?_ | refine Wq ?_ | refine Wr ?_); (try simp only [go_sem, fN, seval, eT, iR, dn_wdone, wdone, hiw_ne, low_ne, hb, hr, hi, hni, n4, n901, n902, hbr, hrb, hbi, hib, hbn, hnb, hri, hir, hrn, hnr, hin, hnj, dn_bldWS, bldWS, hp0, dT, dF, nL]); (repeat with_reducible refine Ai ?_); (try (refine hK _ ?_; clear hK K)); (try with_reducible refine iC ?_)))
    refine ⟨_, _, writeByteW_S (bldW_mkU (bs := bs ++ s1) (c := .row 901 ns.length) (o := o) hbr (.inr rfl) (by simp only [go_sem, fN, seval, eT, iR, hiw_ne, low_ne, hb, hr, hi, hni, n4, n901, n902, hbr, hrb, hbi, hib, hbn, hnb, hri, hir, hrn, hnr, hin, hnj, dn_bldWS, bldWS, sb, sr]) (by simp only [go_sem, fN, seval, eT, iR, hiw_ne, low_ne, hb, hr, hi, hni, n4, n901, n902, hbr, hrb, hbi, hib, hbn, hnb, hri, hir, hrn, hnr, hin, hnj, dn_bldWS, bldWS, sb, sr])) 32 (by first | omega | (simp only [ByteArray.size_append] at *; omega)), ?_⟩
    repeat' (first | (with_reducible first | refine W ?_ | refine Wz0 ?_) | ((with_reducible first | refine Wo (fun K hK => ?_) | refine Wp ?_ | refine Wq ?_ | refine Wr ?_); (try simp only [go_sem, fN, seval, eT, iR, AS.startS, hiw_ne, low_ne, hb, hr, hi, hni, n4, n901, n902, hbr, hrb, hbi, hib, hbn, hnb, hri, hir, hrn, hnr, hin, hnj, dn_bldWS, bldWS, sb, sr, si, Lm.a, Lm.kind_mk, Lm.idx_mk, Lm.subs_mk, hp0, dT, dF, nL]); (repeat with_reducible refine Ai ?_); (try (refine hK _ ?_; clear hK K)); (try with_reducible refine iC ?_)))
    have hc2 := ihx 2 (bs ++ s1 ++ ⟨#[32]⟩) (.ptr (up1 b) 1 0 0) (up1 b) (up1 r) (up1 901) (up1 902) N
    rw [hT1] at hc2
    refine ⟨_, _, hc2 _ (by decide) (by omega) hN2 (by simp only [ByteArray.size_append]; omega) (up1_le _) (up1_le _) (up1_le _) (up1_le _) (.inr rfl) (up_boxW (by simp only [go_sem, fN, seval, eT, iR, hiw_ne, low_ne, hb, hr, hi, hni, n4, n901, n902, hbr, hrb, hbi, hib, hbn, hnb, hri, hir, hrn, hnr, hin, hnj, dn_bldWS, bldWS])) (up_mrowW (by simp only [go_sem, fN, seval, eT, iR, hiw_ne, low_ne, hb, hr, hi, hni, n4, n901, n902, hbr, hrb, hbi, hib, hbn, hnb, hri, hir, hrn, hnr, hin, hnj, dn_bldWS, bldWS])) (up_rowW (by simp only [go_sem, fN, seval, eT, iR, hiw_ne, low_ne, hb, hr, hi, hni, n4, n901, n902, hbr, hrb, hbi, hib, hbn, hnb, hri, hir, hrn, hnr, hin, hnj, dn_bldWS, bldWS])) (up_noneW (by simp only [go_sem, fN, seval, eT, iR, hiw_ne, low_ne, hb, hr, hi, hni, n4, n901, n902, hbr, hrb, hbi, hib, hbn, hnb, hri, hir, hrn, hnr, hin, hnj, dn_bldWS, bldWS])), ?_⟩
    repeat' (first | (with_reducible first | refine W ?_ | refine Wz0 ?_) | ((with_reducible first | refine Wo (fun K hK => ?_) | refine Wp ?_ | refine Wq ?_ | refine Wr ?_); (try simp only [go_sem, fN, seval, eT, iR, dn_wdone, wdone, hiw_ne, low_ne, hb, hr, hi, hni, n4, n901, n902, hbr, hrb, hbi, hib, hbn, hnb, hri, hir, hrn, hnr, hin, hnj, dn_bldWS, bldWS, hp0, dT, dF, nL]); (repeat with_reducible refine Ai ?_); (try (refine hK _ ?_; clear hK K)); (try with_reducible refine iC ?_)))
    rw [← hW]
    refine wend hS trivial hb hr hi (j := 902) (xs := ns) (c := .row 902 ns.length) ?_ ?_ ?_ (by first | omega | (simp only [List.length_append, List.length_cons, List.length_nil]; omega)) (by first | exact .inl rfl | exact .inr ⟨rfl, rfl⟩) (by simp) ?_ hbn hrn hrb (by omega) hni (.inr ⟨by decide, ?_, hin, hib, hir⟩) fun k k1 k2 k3 k4 => ?_
    · simp only [go_sem, fN, seval, eT, iR, hiw_ne, low_ne, hb, hr, hi, hni, n4, n901, n902, hbr, hrb, hbi, hib, hbn, hnb, hri, hir, hrn, hnr, hin, hnj, dn_bldWS, bldWS, hlen]
    · simp only [go_sem, fN, seval, eT, iR, hiw_ne, low_ne, hb, hr, hi, hni, n4, n901, n902, hbr, hrb, hbi, hib, hbn, hnb, hri, hir, hrn, hnr, hin, hnj, dn_bldWS, bldWS]
    · simp only [go_sem, fN, seval, eT, iR, hiw_ne, low_ne, hb, hr, hi, hni, n4, n901, n902, hbr, hrb, hbi, hib, hbn, hnb, hri, hir, hrn, hnr, hin, hnj, dn_bldWS, bldWS]
    · simp only [go_sem, fN, seval, eT, iR, hiw_ne, low_ne, hb, hr, hi, hni, n4, n901, n902, hbr, hrb, hbi, hib, hbn, hnb, hri, hir, hrn, hnr, hin, hnj, dn_bldWS, bldWS, sni]
    · simp only [go_sem, fN, seval, eT, iR, hiw_ne, low_ne, hb, hr, hi, hni, n4, n901, n902, hbr, hrb, hbi, hib, hbn, hnb, hri, hir, hrn, hnr, hin, hnj, dn_bldWS, bldWS]
    · simp only [go_sem, fN, seval, eT, iR, hiw_ne, low_ne, k1, k2, k3, k4, dn_bldWS, bldWS]
theorem write_S {o : Nat} {ns : List ByteArray} {t : Lm} {s : ByteArray} (h : LTx 120 o ns t s) : WrS o ns t s := by
  induction h with
  | v h hn => exact write_v h hn
  | c h => exact write_c h
  | l ho h ih => exact write_l ho ih
  | a hf hx ihf ihx => exact write_a ihf ihx

theorem freeL_ok : ∀ (p l : List ByteArray), freeL p l = 0 → (∀ n ∈ l, nameOk n = true ∧ byteAt n 0 ≠ 120 ∧ byteAt n 0 ≠ 99 ∧ n ∉ p) ∧ l.Nodup
  | _, [], _ => ⟨fun n h => by simp at h, List.nodup_nil⟩
  | p, n :: r, h => by
    rw [freeL] at h
    by_cases h1 : nameOk n = true ∧ byteAt n 0 ≠ 120 ∧ byteAt n 0 ≠ 99
    · rw [if_pos h1] at h
      by_cases h2 : isIn n p = true
      · rw [if_pos h2] at h
        exact absurd h (by decide)
      · rw [if_neg h2] at h
        obtain ⟨q1, q2⟩ := freeL_ok (p ++ [n]) r h
        have hnp : n ∉ p := fun e => h2 (isIn_iff.2 e)
        refine ⟨fun m hm => ?_, List.nodup_cons.2 ⟨fun hn => ?_, q2⟩⟩
        · rcases List.mem_cons.1 hm with rfl | hm
          · exact ⟨h1.1, h1.2.1, h1.2.2, hnp⟩
          · obtain ⟨a, b, c, d⟩ := q1 m hm
            exact ⟨a, b, c, fun e => d (List.mem_append_left _ e)⟩
        · exact (q1 n hn).2.2.2 (by simp)
    · rw [if_neg h1] at h
      exact absurd h (by decide)
theorem freeMay_ok {l : List ByteArray} (h : freeMay l = 0) : l.length ≤ 40 ∧ (∀ n ∈ l, nameOk n = true ∧ byteAt n 0 ≠ 120 ∧ byteAt n 0 ≠ 99) ∧ l.Nodup := by
  unfold freeMay at h
  by_cases h1 : 40 < l.length
  · rw [if_pos h1] at h
    exact absurd h (by decide)
  · rw [if_neg h1] at h
    obtain ⟨q1, q2⟩ := freeL_ok [] l h
    exact ⟨by omega, fun n hn => ⟨(q1 n hn).1, (q1 n hn).2.1, (q1 n hn).2.2.1⟩, q2⟩
theorem ltx_pos {p : UInt8} {o : Nat} {ns : List ByteArray} {t : Lm} {s : ByteArray} (h : LTx p o ns t s) : (∀ n ∈ ns, 0 < n.size) → 0 < s.size := by
  induction h with
  | @v ns i n h hn => exact fun hns => hns n (List.mem_of_getElem? hn)
  | c h =>
    intro _
    rw [ByteArray.size_append]
    have h1 : (⟨#[99]⟩ : ByteArray).size = 1 := rfl
    omega
  | l ho h ih =>
    intro _
    simp only [ByteArray.size_append]
    have h1 : (⟨#[92]⟩ : ByteArray).size = 1 := rfl
    omega
  | a hf hx ihf ihx =>
    intro _
    simp only [ByteArray.size_append]
    have h1 : (⟨#[32]⟩ : ByteArray).size = 1 := rfl
    omega
theorem text_ex {t : Lm} {free : List ByteArray} (hf : freeMay free = 0) (hm : t.may 0 free.length = 0) : ∃ s, LTx 120 free.length free t s ∧ 0 < s.size ∧ s.size ≤ 20 * 200 := by
  obtain ⟨f1, f2, _⟩ := freeMay_ok hf
  unfold Lm.may at hm
  have h1 : ¬ ((free.length : Int) < 0 ∨ 40 < (free.length : Int)) := by omega
  rw [if_neg h1] at hm
  by_cases h2 : 200 < t.size
  · rw [if_pos h2] at hm
    exact absurd hm (by decide)
  rw [if_neg h2] at hm
  have hz : ∀ n ∈ free, 0 < n.size ∧ n.size ≤ 8 := fun n hn => by
    obtain ⟨a, b, _⟩ := nameOk_cases (f2 n hn).1
    omega
  obtain ⟨s, hs, hl⟩ := ltx_ex 120 free.length 200 t free (by omega) hm (Nat.le_refl _) (by omega) fun n hn => (hz n hn).2
  exact ⟨s, hs, ltx_pos hs fun n hn => (hz n hn).1, by omega⟩

theorem cloneW_N (l : List ByteArray) (hl : l.length ≤ 1000000) : ACallsN Tryd.prog 29 [aStrs l] 9 1 (l.map encS) true := by
  unfold ACallsN
  rw [List.length_map]
  refine ok_slices_Clone_string_string.acS fun hS C hC => ?_
  unfold ir_slices_Clone_string_string
  by_cases h0 : l.length = 0
  · have hl : l = [] := List.eq_nil_of_length_eq_zero h0
    subst hl
    repeat' (first | (with_reducible first | refine W ?_ | refine Wz0 ?_) | ((with_reducible first | refine Wo (fun K hK => ?_) | refine Wp ?_ | refine Wq ?_ | refine Wr ?_); (try simp only [go_sem, fN, seval, eT, iR, dT, dF, nL]); (repeat with_reducible refine Ai ?_); (try (refine hK _ ?_; clear hK K)); (try with_reducible refine iC ?_)))
    refine ⟨?_, ?_⟩
    · repeat' (first | (with_reducible first | refine W ?_ | refine Wz0 ?_) | ((with_reducible first | refine Wo (fun K hK => ?_) | refine Wp ?_ | refine Wq ?_ | refine Wr ?_); (try simp only [go_sem, fN, seval, eT, iR, dT, dF, nL]); (repeat with_reducible refine Ai ?_); (try (refine hK _ ?_; clear hK K)); (try with_reducible refine iC ?_)))
      refine finS_ghost (Ghost.ownM (C := C) 2 30 9 1 rfl rfl (by omega)) ?_
      exact finN (mu := true) trivial 30 (by decide) rfl (fun i hi => by show updE _ _ _ _ = _; rw [updE_ne _ (by omega)]; rfl) rfl
    · repeat' (first | (with_reducible first | refine W ?_ | refine Wz0 ?_) | ((with_reducible first | refine Wo (fun K hK => ?_) | refine Wp ?_ | refine Wq ?_ | refine Wr ?_); (try simp only [go_sem, fN, seval, eT, iR, dT, dF, nL]); (repeat with_reducible refine Ai ?_); (try (refine hK _ ?_; clear hK K)); (try with_reducible refine iC ?_)))
      exact finN (mu := true) trivial 7 (by decide) rfl (fun i hi => by show updE _ _ _ _ = _; rw [updE_ne _ (by omega)]; rfl) rfl
  · have hb : l.length * 16 ≤ 140737488355328 := by omega
    repeat' (first | (with_reducible first | refine W ?_ | refine Wz0 ?_) | ((with_reducible first | refine Wo (fun K hK => ?_) | refine Wp ?_ | refine Wq ?_ | refine Wr ?_); (try simp only [go_sem, fN, seval, eT, iR, h0, hb, dT, dF, nL]); (repeat with_reducible refine Ai ?_); (try (refine hK _ ?_; clear hK K)); (try with_reducible refine iC ?_)))
    exact finN (mu := true) trivial 7 (by decide) rfl (fun i hi => by show updE _ _ _ _ = _; rw [updE_ne _ (by omega)]; rfl) rfl
set_option maxRecDepth 100000 in
theorem lshow_a {free : List ByteArray} {t : Lm} {s : ByteArray} (h : LTx 120 free.length free t s) (h0 : 0 < s.size) (hz : s.size + 4 * t.size ≤ 100000000) (hl : free.length + t.size ≤ 900000) : ACalls Tryd.prog 20 [aLm t, aStrs free] (aStr s) := by
  have hw := write_S h
  refine ok_lambda_Show.ac fun C hC => ?_
  unfold ir_lambda_Show
  repeat' (first | (with_reducible first | refine W ?_ | refine Wz0 ?_) | ((with_reducible first | refine Wo (fun K hK => ?_) | refine Wp ?_ | refine Wq ?_ | refine Wr ?_); (try simp only [go_sem, fN, seval, eT, iR, dT, dF, nL]); (repeat with_reducible refine Ai ?_); (try (refine hK _ ?_; clear hK K)); (try with_reducible refine iC ?_)))
  refine CallNG.mk _ _ _ _ (cloneW_N free (by omega)) ⟨rfl, by simp, ?_⟩
  have hml : (free.map encS).length = free.length := by simp
  repeat' (first | (with_reducible first | refine W ?_ | refine Wz0 ?_) | (first | refine IWP.ghost (Ghost.ownCell (e' := u8W) (id := 11) (r := 900) 1 1 rfl rfl rfl (by decide)) ?_) | ((with_reducible first | refine Wo (fun K hK => ?_) | refine Wp ?_ | refine Wq ?_ | refine Wr ?_); (try simp only [go_sem, fN, seval, eT, iR, hml, rowB, dT, dF, nL]); (repeat with_reducible refine Ai ?_); (try (refine hK _ ?_; clear hK K)); (try with_reducible refine iC ?_)))
  have hc := fun S' => hw 0 ⟨#[]⟩ (.st (.lit (.pointer none))) (up1 11) (up1 900) (up1 9) (up1 901) (free.length + t.size + 1) S' (by decide) (by omega) (by omega) (by show 0 + s.size + _ ≤ _; omega) (up1_le _) (up1_le _) (up1_le _) (up1_le _) (.inl rfl)
  rw [brk0] at hc
  have he : ⟨#[]⟩ ++ s = s := ByteArray.empty_append
  rw [he] at hc
  refine ⟨_, _, hc _ (up_boxW0 (r := 900) (i := 9) (n := 0) (m := free.length) (o := free.length) ?_) (up_mrowW (bs := ⟨#[]⟩) ?_) (up_rowW (ns := free) ?_) (up_noneW ?_), ?_⟩
  · rfl
  · rfl
  · rfl
  · rfl
  repeat' (first | (with_reducible first | refine W ?_ | refine Wz0 ?_) | ((with_reducible first | refine Wo (fun K hK => ?_) | refine Wp ?_ | refine Wq ?_ | refine Wr ?_); (try simp only [go_sem, fN, seval, eT, iR, dn_wdone, wdone, dT, dF, nL]); (repeat with_reducible refine Ai ?_); (try (refine hK _ ?_; clear hK K)); (try with_reducible refine iC ?_)))
  refine ⟨_, _, builderStringW_S (bldW_mkU (b := 11) (r := 900) (bs := s) (c := .row 901 free.length) (o := free.length) (by decide) (.inr rfl) (by simp only [go_sem, fN, seval, eT, iR]) (by simp only [go_sem, fN, seval, eT, iR])) h0 (by omega), ?_⟩
  repeat' (first | (with_reducible first | refine W ?_ | refine Wz0 ?_) | ((with_reducible first | refine Wo (fun K hK => ?_) | refine Wp ?_ | refine Wq ?_ | refine Wr ?_); (try simp only [go_sem, fN, seval, eT, iR, dT, dF, nL]); (repeat with_reducible refine Ai ?_); (try (refine hK _ ?_; clear hK K)); (try with_reducible refine iC ?_)))
  simp only [go_sem, fN, seval, FinQ, AS.result, resAll, resOne, tupV]
theorem decRS_a (n : Nat) (hn : n < 1000000) : ACalls Tryd.prog 19 [aInt n] (aStr (decS n)) := by
  induction n using Nat.strongRecOn with
  | _ n ih =>
  refine ok_R_Dec.ac fun C hC => ?_
  unfold ir_R_Dec
  by_cases h : (n : Int) < 10
  · have hb : bytesOf [[SV.int .u8 (48 + (n : Int))]] = some [48 + (n : Int)] := rfl
    have hr : inR .u8 (48 + (n : Int)) := by simp [inR, IntKind.min, IntKind.max, IntKind.signed, IntKind.bits]; omega
    have hs : strOfNums [48 + (n : Int)] = decS n := by
      rw [decS_small (by omega)]
      unfold strOfNums
      have e : (48 + (n : Int)).toNat = 48 + n := by omega
      simp only [List.map_cons, List.map_nil, e]
    repeat' (first | (with_reducible first | refine W ?_ | refine Wz0 ?_) | ((with_reducible first | refine Wo (fun K hK => ?_) | refine Wp ?_ | refine Wq ?_ | refine Wr ?_); (try simp only [go_sem, fN, seval, eT, iR, h, hb, hr, hs, dT, dF, nL]); (repeat with_reducible refine Ai ?_); (try (refine hK _ ?_; clear hK K)); (try with_reducible refine iC ?_)))
    simp only [go_sem, fN, seval, FinQ, AS.result, resAll, resOne, tupV]
  · have q1 : (n : Int).tdiv 10 = ((n / 10 : Nat) : Int) := by rw [Int.tdiv_eq_ediv_of_nonneg (by omega)]; omega
    have q2 : (n : Int).tmod 10 = ((n % 10 : Nat) : Int) := by rw [Int.tmod_eq_emod_of_nonneg (by omega)]; omega
    have h1 := ih (n / 10) (by omega) (by omega)
    have h2 := ih (n % 10) (by omega) (by omega)
    have z1 := decS_size_le (n := n / 10) (by omega)
    have z2 := decS_size_le (n := n % 10) (by omega)
    repeat' (first | (with_reducible first | refine W ?_ | refine Wz0 ?_) | refine Cg _ (h1) ?_ | refine Cg _ (h2) ?_ | ((with_reducible first | refine Wo (fun K hK => ?_) | refine Wp ?_ | refine Wq ?_ | refine Wr ?_); (try simp only [go_sem, fN, seval, eT, iR, h, q1, q2, dT, dF, nL]); (repeat with_reducible refine Ai ?_); (try (refine hK _ ?_; clear hK K)); (try with_reducible refine iC ?_)))
    simp only [go_sem, fN, seval, FinQ, AS.result, resAll, resOne, tupV]
    rw [decS_big (n := n) (by omega)]
set_option maxRecDepth 100000 in
theorem lamText_a {o : Nat} {ns : List ByteArray} {t : Lm} {s : ByteArray} (h : LTx 120 o ns t s) : ns.length + t.size ≤ 900000 → s.size ≤ 100000000 → ACalls Tryd.prog 8 [aLm t, aStrs ns, aInt o] (aStr s) := by
  induction h with
  | @v ns j n h hn =>
    intro hl hz
    have hge : (0 : Int) ≤ (ns.length : Int) - 1 - j := by omega
    have hidx : (ns.length : Int) - 1 - j = ((ns.length - 1 - j : Nat) : Int) := by omega
    have hge2 : (0 : Int) ≤ ((ns.length - 1 - j : Nat) : Int) := by omega
    refine ok_R_LamText.ac fun C hC => ?_
    unfold ir_R_LamText
    repeat' (first | (with_reducible first | refine W ?_ | refine Wz0 ?_) | ((with_reducible first | refine Wo (fun K hK => ?_) | refine Wp ?_ | refine Wq ?_ | refine Wr ?_); (try simp only [go_sem, fN, seval, eT, iR, Lm.v, Lm.kind_mk, Lm.idx_mk, Lm.subs_mk, hidx, hge2, hn, encS, dT, dF, nL]); (repeat with_reducible refine Ai ?_); (try (refine hK _ ?_; clear hK K)); (try with_reducible refine iC ?_)))
    simp only [go_sem, fN, seval, FinQ, AS.result, resAll, resOne, tupV]
  | @c ns j h =>
    intro hl hz
    have hds := decS_size_le (n := j) (by omega)
    have h99 : (⟨#[99]⟩ : ByteArray).size = 1 := rfl
    refine ok_R_LamText.ac fun C hC => ?_
    unfold ir_R_LamText
    repeat' (first | (with_reducible first | refine W ?_ | refine Wz0 ?_) | refine Cg _ (decRS_a j (by omega)) ?_ | ((with_reducible first | refine Wo (fun K hK => ?_) | refine Wp ?_ | refine Wq ?_ | refine Wr ?_); (try simp only [go_sem, fN, seval, eT, iR, Lm.kind_mk, Lm.idx_mk, Lm.subs_mk, h99, dT, dF, nL]); (repeat with_reducible refine Ai ?_); (try (refine hK _ ?_; clear hK K)); (try with_reducible refine iC ?_)))
    simp only [go_sem, fN, seval, FinQ, AS.result, resAll, resOne, tupV]
  | @l ns t s ho h ih =>
    intro hl hz
    rw [Lm.size_l] at hl
    simp only [ByteArray.size_append] at hz
    have hsub : (ns.length : Int) - o = ((ns.length - o : Nat) : Int) := by omega
    have hds := decS_size_le (n := ns.length - o) (by omega)
    have h120 : (⟨#[120]⟩ : ByteArray).size = 1 := rfl
    have h92 : (⟨#[92]⟩ : ByteArray).size = 1 := rfl
    have h46 : (⟨#[46]⟩ : ByteArray).size = 1 := rfl
    have hml : (ns.map encS).length = ns.length := by simp
    have hxs : (lxName 120 (ns.length - o)).size ≤ 7 := lxName_size (by omega)
    have hx : ⟨#[120]⟩ ++ decS (ns.length - o) = lxName 120 (ns.length - o) := rfl
    generalize lxName 120 (ns.length - o) = nm at *
    have hmap : ns.map encS ++ [[.str nm]] = (ns ++ [nm]).map encS := by simp [encS]
    have hcall : ACalls Tryd.prog 8 [aLm t, .one (.st (.list (ns.map encS ++ [[.str nm]]))), aInt o] (aStr s) := by rw [hmap]; exact ih (by simp; omega) (by omega)
    refine ok_R_LamText.ac fun C hC => ?_
    unfold ir_R_LamText
    repeat' (first | (with_reducible first | refine W ?_ | refine Wz0 ?_) | refine Cg _ (decRS_a (ns.length - o) (by omega)) ?_ | refine Cg _ (hcall) ?_ | ((with_reducible first | refine Wo (fun K hK => ?_) | refine Wp ?_ | refine Wq ?_ | refine Wr ?_); (try simp only [go_sem, fN, seval, eT, iR, Lm.l, Lm.kind_mk, Lm.idx_mk, Lm.subs_mk, hsub, hx, h120, h92, h46, hml, dT, dF, nL]); (repeat with_reducible refine Ai ?_); (try (refine hK _ ?_; clear hK K)); (try with_reducible refine iC ?_)))
    simp only [go_sem, fN, seval, FinQ, AS.result, resAll, resOne, tupV]
  | @a ns f x s t hf hx ihf ihx =>
    intro hl hz
    rw [Lm.size_a] at hl
    simp only [ByteArray.size_append] at hz
    have h32 : (⟨#[32]⟩ : ByteArray).size = 1 := rfl
    have h40 : (⟨#[40]⟩ : ByteArray).size = 1 := rfl
    have h41 : (⟨#[41]⟩ : ByteArray).size = 1 := rfl
    have z1 := brk_size (decide (f.kind = 2)) s
    have z2 := brk_size (decide (x.kind = 2 ∨ x.kind = 3)) t
    have hc1 := ihf (by omega) (by omega)
    have hc2 := ihx (by omega) (by omega)
    have bY : ∀ (b : Bool) (u : ByteArray), b = true → brk b u = ⟨#[40]⟩ ++ u ++ ⟨#[41]⟩ := fun b u h => if_pos h
    have bN : ∀ (b : Bool) (u : ByteArray), ¬ b = true → brk b u = u := fun b u h => if_neg h
    by_cases q1 : f.kind = 2
    · have dq1 : decide (f.kind = 2) = true := decide_eq_true q1
      by_cases q2 : x.kind = 2
      · have q3 : ¬ x.kind = 3 := by omega
        have dq2 : decide (x.kind = 2) = true := decide_eq_true q2
        have dq3 : decide (x.kind = 3) = false := decide_eq_false q3
        rw [bY _ _ (by simp [q1]), bY _ _ (by simp [q2])]
        refine ok_R_LamText.ac fun C hC => ?_
        unfold ir_R_LamText
        repeat' (first | (with_reducible first | refine W ?_ | refine Wz0 ?_) | refine Cg _ (hc1) ?_ | refine Cg _ (hc2) ?_ | ((with_reducible first | refine Wo (fun K hK => ?_) | refine Wp ?_ | refine Wq ?_ | refine Wr ?_); (try simp only [go_sem, fN, seval, eT, iR, Lm.a, Lm.kind_mk, Lm.idx_mk, Lm.subs_mk, dq1, dq2, dq3, h32, h40, h41, dT, dF, nL]); (repeat with_reducible refine Ai ?_); (try (refine hK _ ?_; clear hK K)); (try with_reducible refine iC ?_)))
        simp only [go_sem, fN, seval, FinQ, AS.result, resAll, resOne, tupV]
      · by_cases q3 : x.kind = 3
        · have dq2 : decide (x.kind = 2) = false := decide_eq_false q2
          have dq3 : decide (x.kind = 3) = true := decide_eq_true q3
          rw [bY _ _ (by simp [q1]), bY _ _ (by simp [q2, q3])]
          refine ok_R_LamText.ac fun C hC => ?_
          unfold ir_R_LamText
          repeat' (first | (with_reducible first | refine W ?_ | refine Wz0 ?_) | refine Cg _ (hc1) ?_ | refine Cg _ (hc2) ?_ | ((with_reducible first | refine Wo (fun K hK => ?_) | refine Wp ?_ | refine Wq ?_ | refine Wr ?_); (try simp only [go_sem, fN, seval, eT, iR, Lm.a, Lm.kind_mk, Lm.idx_mk, Lm.subs_mk, dq1, dq2, dq3, h32, h40, h41, dT, dF, nL]); (repeat with_reducible refine Ai ?_); (try (refine hK _ ?_; clear hK K)); (try with_reducible refine iC ?_)))
          simp only [go_sem, fN, seval, FinQ, AS.result, resAll, resOne, tupV]
        · have dq2 : decide (x.kind = 2) = false := decide_eq_false q2
          have dq3 : decide (x.kind = 3) = false := decide_eq_false q3
          rw [bY _ _ (by simp [q1]), bN _ _ (by simp [q2, q3])]
          refine ok_R_LamText.ac fun C hC => ?_
          unfold ir_R_LamText
          repeat' (first | (with_reducible first | refine W ?_ | refine Wz0 ?_) | refine Cg _ (hc1) ?_ | refine Cg _ (hc2) ?_ | ((with_reducible first | refine Wo (fun K hK => ?_) | refine Wp ?_ | refine Wq ?_ | refine Wr ?_); (try simp only [go_sem, fN, seval, eT, iR, Lm.a, Lm.kind_mk, Lm.idx_mk, Lm.subs_mk, dq1, dq2, dq3, h32, h40, h41, dT, dF, nL]); (repeat with_reducible refine Ai ?_); (try (refine hK _ ?_; clear hK K)); (try with_reducible refine iC ?_)))
          simp only [go_sem, fN, seval, FinQ, AS.result, resAll, resOne, tupV]
    · have dq1 : decide (f.kind = 2) = false := decide_eq_false q1
      by_cases q2 : x.kind = 2
      · have q3 : ¬ x.kind = 3 := by omega
        have dq2 : decide (x.kind = 2) = true := decide_eq_true q2
        have dq3 : decide (x.kind = 3) = false := decide_eq_false q3
        rw [bN _ _ (by simp [q1]), bY _ _ (by simp [q2])]
        refine ok_R_LamText.ac fun C hC => ?_
        unfold ir_R_LamText
        repeat' (first | (with_reducible first | refine W ?_ | refine Wz0 ?_) | refine Cg _ (hc1) ?_ | refine Cg _ (hc2) ?_ | ((with_reducible first | refine Wo (fun K hK => ?_) | refine Wp ?_ | refine Wq ?_ | refine Wr ?_); (try simp only [go_sem, fN, seval, eT, iR, Lm.a, Lm.kind_mk, Lm.idx_mk, Lm.subs_mk, dq1, dq2, dq3, h32, h40, h41, dT, dF, nL]); (repeat with_reducible refine Ai ?_); (try (refine hK _ ?_; clear hK K)); (try with_reducible refine iC ?_)))
        simp only [go_sem, fN, seval, FinQ, AS.result, resAll, resOne, tupV]
      · by_cases q3 : x.kind = 3
        · have dq2 : decide (x.kind = 2) = false := decide_eq_false q2
          have dq3 : decide (x.kind = 3) = true := decide_eq_true q3
          rw [bN _ _ (by simp [q1]), bY _ _ (by simp [q2, q3])]
          refine ok_R_LamText.ac fun C hC => ?_
          unfold ir_R_LamText
          repeat' (first | (with_reducible first | refine W ?_ | refine Wz0 ?_) | refine Cg _ (hc1) ?_ | refine Cg _ (hc2) ?_ | ((with_reducible first | refine Wo (fun K hK => ?_) | refine Wp ?_ | refine Wq ?_ | refine Wr ?_); (try simp only [go_sem, fN, seval, eT, iR, Lm.a, Lm.kind_mk, Lm.idx_mk, Lm.subs_mk, dq1, dq2, dq3, h32, h40, h41, dT, dF, nL]); (repeat with_reducible refine Ai ?_); (try (refine hK _ ?_; clear hK K)); (try with_reducible refine iC ?_)))
          simp only [go_sem, fN, seval, FinQ, AS.result, resAll, resOne, tupV]
        · have dq2 : decide (x.kind = 2) = false := decide_eq_false q2
          have dq3 : decide (x.kind = 3) = false := decide_eq_false q3
          rw [bN _ _ (by simp [q1]), bN _ _ (by simp [q2, q3])]
          refine ok_R_LamText.ac fun C hC => ?_
          unfold ir_R_LamText
          repeat' (first | (with_reducible first | refine W ?_ | refine Wz0 ?_) | refine Cg _ (hc1) ?_ | refine Cg _ (hc2) ?_ | ((with_reducible first | refine Wo (fun K hK => ?_) | refine Wp ?_ | refine Wq ?_ | refine Wr ?_); (try simp only [go_sem, fN, seval, eT, iR, Lm.a, Lm.kind_mk, Lm.idx_mk, Lm.subs_mk, dq1, dq2, dq3, h32, h40, h41, dT, dF, nL]); (repeat with_reducible refine Ai ?_); (try (refine hK _ ?_; clear hK K)); (try with_reducible refine iC ?_)))
          simp only [go_sem, fN, seval, FinQ, AS.result, resAll, resOne, tupV]

theorem ltext_ok {t : Lm} {free : List ByteArray} {s : ByteArray} (hf : freeMay free = 0) (hm : t.may 0 free.length = 0) (hs : LTx 120 free.length free t s) (h0 : 0 < s.size) (hz : s.size ≤ 4000) : ACalls Tryd.prog 9 [aLm t, aStrs free] (.tup [aStr s, aInt 0]) := by
  have h200 : t.size ≤ 200 := by
    unfold Lm.may at hm
    split at hm
    · cases hm
    · split at hm
      · cases hm
      · omega
  have h40 := (freeMay_ok hf).1
  have hc := lCheck_a t free.length
  have hn := names_a free
  have hw := lshow_a hs h0 (by omega) (by omega)
  rw [hf] at hn
  rw [hm] at hc
  refine ok_lambda_Text.ac fun C hC => ?_
  unfold ir_lambda_Text
  repeat' (first | (with_reducible first | refine W ?_ | refine Wz0 ?_) | refine Cg _ (hn) ?_ | refine Cg _ (hc) ?_ | refine Cg _ (hw) ?_ | ((with_reducible first | refine Wo (fun K hK => ?_) | refine Wp ?_ | refine Wq ?_ | refine Wr ?_); (try simp only [go_sem, fN, seval, eT, iR, dT, dF, nL]); (repeat with_reducible refine Ai ?_); (try (refine hK _ ?_; clear hK K)); (try with_reducible refine iC ?_)))
  simp only [go_sem, fN, seval, FinQ, AS.result, resAll, resOne, tupV]
theorem ltext_no {t : Lm} {free : List ByteArray} (e : Int) (he : ¬ e = 0) (h : (freeMay free = e) ∨ (freeMay free = 0 ∧ t.may 0 free.length = e)) : ACalls Tryd.prog 9 [aLm t, aStrs free] (.tup [aStr ⟨#[]⟩, aInt e]) := by
  have hc := lCheck_a t free.length
  have hn := names_a free
  rcases h with h | ⟨h, h2⟩
  · rw [h] at hn
    refine ok_lambda_Text.ac fun C hC => ?_
    unfold ir_lambda_Text
    repeat' (first | (with_reducible first | refine W ?_ | refine Wz0 ?_) | refine Cg _ (hn) ?_ | ((with_reducible first | refine Wo (fun K hK => ?_) | refine Wp ?_ | refine Wq ?_ | refine Wr ?_); (try simp only [go_sem, fN, seval, eT, iR, he, dT, dF, nL]); (repeat with_reducible refine Ai ?_); (try (refine hK _ ?_; clear hK K)); (try with_reducible refine iC ?_)))
    simp only [go_sem, fN, seval, FinQ, AS.result, resAll, resOne, tupV]
  · rw [h] at hn
    rw [h2] at hc
    refine ok_lambda_Text.ac fun C hC => ?_
    unfold ir_lambda_Text
    repeat' (first | (with_reducible first | refine W ?_ | refine Wz0 ?_) | refine Cg _ (hn) ?_ | refine Cg _ (hc) ?_ | ((with_reducible first | refine Wo (fun K hK => ?_) | refine Wp ?_ | refine Wq ?_ | refine Wr ?_); (try simp only [go_sem, fN, seval, eT, iR, he, dT, dF, nL]); (repeat with_reducible refine Ai ?_); (try (refine hK _ ?_; clear hK K)); (try with_reducible refine iC ?_)))
    simp only [go_sem, fN, seval, FinQ, AS.result, resAll, resOne, tupV]
theorem lambdaSays_a (t : Lm) (u : Int) (free : List ByteArray) : ACalls Tryd.prog 3 [aLm t, aInt u, aStrs free] (aBool true) := by
  have hA := hugeLam_a t
  have hCk := lCheck_a t u
  have hM := lMay_a t u 0
  have hM2 := lMay_a t free.length 0
  have hN := names_a free
  have hF := freeMay_a free
  refine ok_L_LambdaSays.ac fun C hC => ?_
  unfold ir_L_LambdaSays
  by_cases h1 : 3000 < t.size
  · have d1 : decide (3000 < t.size) = true := decide_eq_true h1
    repeat' (first | (with_reducible first | refine W ?_ | refine Wz0 ?_) | refine Cg _ (hA) ?_ | ((with_reducible first | refine Wo (fun K hK => ?_) | refine Wp ?_ | refine Wq ?_ | refine Wr ?_); (try simp only [go_sem, fN, seval, eT, iR, d1, dT, dF, nL]); (repeat with_reducible refine Ai ?_); (try (refine hK _ ?_; clear hK K)); (try with_reducible refine iC ?_)))
    simp only [go_sem, fN, seval, FinQ, AS.result, resAll, resOne, tupV]
  have d1 : decide (3000 < t.size) = false := decide_eq_false h1
  by_cases h2 : (100 : Int) < free.length
  · repeat' (first | (with_reducible first | refine W ?_ | refine Wz0 ?_) | refine Cg _ (hA) ?_ | ((with_reducible first | refine Wo (fun K hK => ?_) | refine Wp ?_ | refine Wq ?_ | refine Wr ?_); (try simp only [go_sem, fN, seval, eT, iR, d1, h2, dT, dF, nL]); (repeat with_reducible refine Ai ?_); (try (refine hK _ ?_; clear hK K)); (try with_reducible refine iC ?_)))
    simp only [go_sem, fN, seval, FinQ, AS.result, resAll, resOne, tupV]
  have hfr := freeMay_range free
  by_cases h3 : freeMay free = 0
  case neg =>
    have hT := ltext_no (t := t) (free := free) (freeMay free) h3 (.inl rfl)
    repeat' (first | (with_reducible first | refine W ?_ | refine Wz0 ?_) | refine Cg _ (hA) ?_ | refine Cg _ (hCk) ?_ | refine Cg _ (hM) ?_ | refine Cg _ (hN) ?_ | refine Cg _ (hF) ?_ | refine Cg _ (hT) ?_ | ((with_reducible first | refine Wo (fun K hK => ?_) | refine Wp ?_ | refine Wq ?_ | refine Wr ?_); (try simp only [go_sem, fN, seval, eT, iR, d1, h2, h3, eq_self, dT, dF, nL]); (repeat with_reducible refine Ai ?_); (try (refine hK _ ?_; clear hK K)); (try with_reducible refine iC ?_)))
    simp only [go_sem, fN, seval, FinQ, AS.result, resAll, resOne, tupV]
  by_cases h4 : t.may 0 free.length = 0
  case neg =>
    have hT := ltext_no (t := t) (free := free) (t.may 0 free.length) h4 (.inr ⟨h3, rfl⟩)
    repeat' (first | (with_reducible first | refine W ?_ | refine Wz0 ?_) | refine Cg _ (hA) ?_ | refine Cg _ (hCk) ?_ | refine Cg _ (hM) ?_ | refine Cg _ (hM2) ?_ | refine Cg _ (hN) ?_ | refine Cg _ (hF) ?_ | refine Cg _ (hT) ?_ | ((with_reducible first | refine Wo (fun K hK => ?_) | refine Wp ?_ | refine Wq ?_ | refine Wr ?_); (try simp only [go_sem, fN, seval, eT, iR, d1, h2, h3, h4, eq_self, dT, dF, nL]); (repeat with_reducible refine Ai ?_); (try (refine hK _ ?_; clear hK K)); (try with_reducible refine iC ?_)))
    simp only [go_sem, fN, seval, FinQ, AS.result, resAll, resOne, tupV]
  obtain ⟨s, hs, h0, hz⟩ := text_ex h3 h4
  have hT := ltext_ok h3 h4 hs h0 (by omega)
  have h40 := (freeMay_ok h3).1
  have h200 : t.size ≤ 200 := by
    unfold Lm.may at h4
    split at h4
    · cases h4
    · split at h4
      · cases h4
      · omega
  have hL := lamText_a hs (by omega) (by omega)
  repeat' (first | (with_reducible first | refine W ?_ | refine Wz0 ?_) | refine Cg _ (hA) ?_ | refine Cg _ (hCk) ?_ | refine Cg _ (hM) ?_ | refine Cg _ (hM2) ?_ | refine Cg _ (hN) ?_ | refine Cg _ (hF) ?_ | refine Cg _ (hT) ?_ | refine Cg _ (hL) ?_ | ((with_reducible first | refine Wo (fun K hK => ?_) | refine Wp ?_ | refine Wq ?_ | refine Wr ?_); (try simp only [go_sem, fN, seval, eT, iR, d1, h2, h3, h4, eq_self, dT, dF, nL]); (repeat with_reducible refine Ai ?_); (try (refine hK _ ?_; clear hK K)); (try with_reducible refine iC ?_)))
  simp only [go_sem, fN, seval, FinQ, AS.result, resAll, resOne, tupV]

open Go.ChangeShapes Go.WideShapes Go.ChangeAt
section
variable {H : Type} {enc : TypeId × Value → H} {P : Program}
theorem trodAll_stays (hl : laidOutB P = true) : ∀ {ts : List TypeId} {vs : List Value} {ds : List (DataW H)} {ps : List MemPlace} {W W' : World} {sp : Nat → Bool},
    (∀ t ∈ ts, P.readableRec t = true ∧ t < P.types.size) → DataW.TrodAll enc P W 0 (fun _ => true) true ts vs ds ps → (∀ p ∈ ps, W.sameAt W' p) → (∀ p ∈ ps, sp p.block = true) → DataW.TrodAll enc P W' 0 sp true ts vs ds ps
  | [], [], [], _, _, _, _, _, h, _, _ => h
  | _ :: _, _ :: _, _ :: _, _, _, _, _, hT, ⟨p, q, h1, h2, e⟩, hsame, hs => ⟨p, q, WideElems.Trod_stays hl (hT _ (List.mem_cons.2 (Or.inl rfl))).1 (hT _ (List.mem_cons.2 (Or.inl rfl))).2 h1 (fun x hx => hsame x (by rw [e]; exact List.mem_append_left _ hx)) (fun x hx => hs x (by rw [e]; exact List.mem_append_left _ hx)),
      trodAll_stays hl (fun t ht => hT t (List.mem_cons.2 (Or.inr ht))) h2 (fun x hx => hsame x (by rw [e]; exact List.mem_append_right _ hx)) (fun x hx => hs x (by rw [e]; exact List.mem_append_right _ hx)), e⟩
  | [], _ :: _, _, _, _, _, _, _, h, _, _ => h.elim
  | [], [], _ :: _, _, _, _, _, _, h, _, _ => h.elim
  | _ :: _, [], _, _, _, _, _, _, h, _, _ => h.elim
  | _ :: _, _ :: _, [], _, _, _, _, _, h, _, _ => h.elim
theorem law_post {f : Func} {s : ChangeSpec} {apart fresh handsOn : Bool} {W W' : World} {args : Array Value} {ds : List (DataW H)} {before : List MemPlace} {tb : TypeId}
    (hW : DataW.Whole enc P f.params.toList s.vars apart W args.toList ds [] before) (hv : s.vars = []) (hr : f.resultTypes = #[tb]) (htb : P.underlying tb = some .bool)
    (hres : (s.fn H (ds ++ [])).results = [.lit (.bool true)]) (hargs : (s.fn H (ds ++ [])).args = ds) (hvs : (s.fn H (ds ++ [])).vars = [])
    (hl : laidOutB P = true) (hT : (f.params.toList.all fun t => P.readableRec t && decide (t < P.types.size)) = true) (hb : Below W.heap.size W W') :
    s.post enc P f apart fresh handsOn false W args (.bool true) W' := by
  have hlt : ∀ p ∈ before, p.block < W.heap.size := fun p hp => hW.lt p hp
  have hT' : ∀ t ∈ f.params.toList, P.readableRec t = true ∧ t < P.types.size := fun t ht => by
    have := List.all_eq_true.1 hT t ht
    simpa using this
  obtain ⟨p, q, hA, hV, rfl, hz, hn⟩ := hW
  rw [hv] at hV
  obtain ⟨_, rfl⟩ := trodVars_none hV
  have hargs' : ∀ sp : Nat → Bool, (∀ x ∈ p, sp x.block = true) → DataW.TrodAll enc P W' 0 sp true f.params.toList args.toList ds p := fun sp hsp =>
    trodAll_stays hl hT' hA (fun x hx => hb.same (hlt x (by simpa using hx))) hsp
  have hres' : ∀ (b : Nat) (sp : Nat → Bool) (hd : Bool), DataW.TrodAll enc P W' b sp hd f.resultTypes.toList ((Value.bool true).resultList f.resultTypes.size) (s.fn H (ds ++ [])).results [] := fun b sp hd => by
    rw [hres, hr]
    exact trodAll_cons_mk (shut_bool htb true) trodAll_mk0
  refine ⟨ds, [], p ++ [], [], p, [], ⟨p, [], hA, by rw [hv]; exact rfl, rfl, hz, hn⟩, hres' _ _ _, by rw [hargs]; exact hargs' _ (fun x hx => by simpa using hlt x (by simpa using hx)), by rw [hv, hvs]; exact rfl,
    World.keptBut_mono (fun x hx => ⟨hx, Or.inr (by simpa using hx)⟩) (hb.frame (· ∈ p ++ [])), fun h => by cases h⟩
variable {W : World} {sp : Nat → Bool} {hd : Bool} {base : Nat}
def sto (W : World) : Sto := look W
theorem fit_sto (W : World) : Fit (sto W) W := fun _ _ h => h
theorem spot_none {W : World} {a : Addr} {v : Value} (h : W.cell? a = some v) : a.spot = none := by
  cases hs : a.spot with
  | none => rfl
  | some n =>
    unfold World.cell? at h
    split at h
    · simp [hs] at h
    · cases h
theorem choose_list {α : Type} {p : Nat → α → Prop} {n : Nat} (h : ∀ i, i < n → ∃ b, p i b) : ∃ xs : List α, xs.length = n ∧ ∀ i (h : i < xs.length), p i xs[i] := by
  induction n with
  | zero => exact ⟨[], rfl, fun i h => absurd h (by simp)⟩
  | succ m ih =>
    obtain ⟨xs, h1, h2⟩ := ih (fun i hi => h i (by omega))
    obtain ⟨b, h3⟩ := h m (by omega)
    refine ⟨xs ++ [b], by simp [h1], fun i hi => ?_⟩
    by_cases him : i < xs.length
    · rw [List.getElem_append_left him]
      exact h2 i him
    · have : i = xs.length := by simp at hi; omega
      subst this
      rw [show (xs ++ [b])[xs.length]'hi = b by simp, h1]
      exact h3
theorem trod_three {t : TypeId} {f0 f1 f2 : Field} {k0 k1 k2 : Nat} {fuel : Nat} {cs : List Value} {x : DataW H × List MemPlace} (hs : P.underlying t = some (.struct #[f0, f1, f2])) (o0 : f0.offset = 0) (o1 : f1.offset = k0) (o2 : f2.offset = k0 + k1)
    (h0 : P.cellsOf f0.type = k0) (h1 : P.cellsOf f1.type = k1) (h2 : P.cellsOf f2.type = k2) (hC : P.cellsOf t = k0 + k1 + k2) (h : DataW.trod enc P W base sp hd fuel t cs = some x) :
    ∃ (a b c : List Value) (y0 y1 y2 : DataW H × List MemPlace) (n : Nat), fuel = n + 1 ∧ cs = a ++ (b ++ c) ∧ DataW.trod enc P W base sp hd n f0.type a = some y0 ∧ DataW.trod enc P W base sp hd n f1.type b = some y1 ∧ DataW.trod enc P W base sp hd n f2.type c = some y2 := by
  obtain ⟨ys, n, hn, _, hlen, hyl, hf⟩ := DataW.trod_struct hs h
  match ys, hyl with
  | [y0, y1, y2], _ =>
  have g0 := hf 0 f0 rfl
  have g1 := hf 1 f1 rfl
  have g2 := hf 2 f2 rfl
  rw [o0, h0, List.drop_zero] at g0
  rw [o1, h1] at g1
  rw [o2, h2, List.take_of_length_le (by rw [List.length_drop]; omega), ← List.drop_drop] at g2
  exact ⟨_, _, _, y0, y1, y2, n, hn, by rw [List.take_append_drop, List.take_append_drop], g0, g1, g2⟩
theorem list_of_trod {α : Type} {e0 : α → List SV} {t e : TypeId} {k : Nat} {fuel : Nat} {cs : List Value} {x : DataW H × List MemPlace} (ht : P.underlying t = some (.slice e)) (hc : P.cellsOf e = k) (hlen : ∀ a, (e0 a).length = k) (hk : 0 < k)
    (f : ∀ (n : Nat) (cs : List Value) (y : DataW H × List MemPlace), n < fuel → DataW.trod enc P W base sp hd n e cs = some y → ∃ a : α, All2 (SRep (sto W)) cs (e0 a))
    (h : DataW.trod enc P W base sp hd fuel t cs = some x) (hs : hardRows = true → k < 2 := by decide) : ∃ xs : List α, All2 (SRep (sto W)) cs [.list (xs.map e0)] := by
  rcases DataW.trod_slice ht h with ⟨rfl, _⟩ | ⟨a, len, cap, elems, rest, n, hfu, rfl, _, hb, hl, hm, hlen', hel, _, _⟩
  · exact ⟨[], .cons srep_nil .nil⟩
  · have key : ∀ i, i < len → ∃ (b : α), ∃ (cs' : List Value), cs'.length = k ∧ (∀ j u, cs'[j]? = some u → W.cell? ((a.add (i * k)).add j) = some u) ∧ All2 (SRep (sto W)) cs' (e0 b) := fun i hi => by
      have h1 := hel i hi
      rw [List.getElem?_eq_getElem (by omega)] at h1
      obtain ⟨cs', h2, h3⟩ := Option.bind_eq_some_iff.1 h1
      obtain ⟨_, h4, h5⟩ := World.cells?_some h2
      obtain ⟨b, hb⟩ := f n cs' _ (by omega) h3
      rw [hc] at h4 h5
      refine ⟨b, cs', h4, fun j u hj => ?_, hb⟩
      rw [h5 j (by have := (List.getElem?_eq_some_iff.1 hj).1; omega)]
      exact hj
    obtain ⟨xs, hxl, hxs⟩ : ∃ xs : List α, xs.length = len ∧ ∀ i (h : i < xs.length), ∃ cs' : List Value, cs'.length = k ∧ (∀ j u, cs'[j]? = some u → W.cell? ((a.add (i * k)).add j) = some u) ∧ All2 (SRep (sto W)) cs' (e0 xs[i]) := choose_list key
    have cell : ∀ m y j z, (xs.map e0)[m]? = some y → y[j]? = some z → ∃ v, W.cell? ⟨a.block, a.off + m * k + j, none⟩ = some v ∧ SRep (sto W) v z := fun m y j z hy hz => by
      rw [List.getElem?_map, Option.map_eq_some_iff] at hy
      obtain ⟨b, hb', rfl⟩ := hy
      obtain ⟨hm', hbe⟩ := List.getElem?_eq_some_iff.1 hb'
      obtain ⟨cs', c1, c2, c3⟩ := hxs m hm'
      rw [hbe] at c3
      obtain ⟨v, v1, v2⟩ := c3.get hz
      refine ⟨v, ?_, v2⟩
      have := c2 j v v1
      have hsp := spot_none this
      rw [← this]
      congr 1
      have h7 : ((a.add (m * k)).add j).block = a.block ∧ ((a.add (m * k)).add j).off = a.off + m * k + j := by
        unfold Addr.add
        split <;> split <;> simp_all
      generalize (a.add (m * k)).add j = q at *
      cases q
      simp_all
    refine ⟨xs, .cons (.list (b := a.block) (o := a.off) (w := k) (fun m j => (W.cell? ⟨a.block, a.off + m * k + j, none⟩).getD undef) (by simp [hxl]) hl hm (by simp) (fun h0 => ?_) (fun y hy => ?_) (fun q1 q2 _ => absurd (hs q1) (by omega)) (fun m y j z hy hz => ?_) (fun m y j z hy hz => ?_)) .nil⟩
    · obtain ⟨cs', h1, h2, h3⟩ := hxs 0 (by omega)
      have h4 : W.cell? a = some (cs'[0]'(by omega)) := by
        have := h2 0 _ (List.getElem?_eq_getElem (by omega))
        simpa [Addr.add] using this
      have := spot_none h4
      cases a
      simp_all
    · obtain ⟨b, _, rfl⟩ := List.mem_map.1 hy
      exact hlen b
    · obtain ⟨v, v1, v2⟩ := cell m y j z hy hz
      show W.cell? _ = _
      rw [v1]; rfl
    · obtain ⟨v, v1, v2⟩ := cell m y j z hy hz
      rw [v1]; exact v2
theorem int_trod {t : TypeId} (ht : P.underlying t = some (.int .i64)) (fuel : Nat) (cs : List Value) (x : DataW H × List MemPlace) (h : DataW.trod enc P W base sp hd fuel t cs = some x) : ∃ n : Int, All2 (SRep (sto W)) cs (encI n) := by
  obtain ⟨n, rfl, _, hn⟩ := DataW.trod_int ht h
  exact ⟨n, .cons (.int (by rw [inR_i64]; simpa [Lit.wf, IntKind.min, IntKind.max, IntKind.signed, IntKind.bits] using hn)) .nil⟩
theorem str_trod {t : TypeId} (ht : P.underlying t = some .string) (fuel : Nat) (cs : List Value) (x : DataW H × List MemPlace) (h : DataW.trod enc P W base sp hd fuel t cs = some x) : ∃ s : ByteArray, All2 (SRep (sto W)) cs (encS s) := by
  obtain ⟨s, rfl, _, hs⟩ := DataW.trod_string ht h
  exact ⟨s, .cons (.str hs) .nil⟩
theorem arg_int {t : TypeId} (ht : P.underlying t = some (.int .i64)) {r : Reach} {b0 : Nat} {v : Value} {d : DataW H} {p : List MemPlace} (hv : Value.okWide P W r b0 t v) (h : DataW.Trod enc P W base sp hd t v d p) : ∃ n : Int, VRep (sto W) noS noH v (aInt n) := by
  obtain ⟨n, rfl⟩ := okWide_int ht hv
  obtain ⟨fuel, hf⟩ := h
  obtain ⟨m, hm⟩ := int_trod ht fuel _ _ hf
  have : All2 (SRep (sto W)) [.int .i64 n] (encI m) := hm
  cases this with
  | cons h1 h2 => exact ⟨m, .one (.st h1)⟩
theorem arg_list {α : Type} {e0 : α → List SV} {t e : TypeId} {k : Nat} (ht : P.underlying t = some (.slice e)) (hc : P.cellsOf e = k) (hlen : ∀ a, (e0 a).length = k) (hk : 0 < k) {r : Reach} {b0 : Nat} {v : Value} {d : DataW H} {p : List MemPlace} (hv : Value.okWide P W r b0 t v)
    (f : ∀ (n : Nat) (cs : List Value) (y : DataW H × List MemPlace), DataW.trod enc P W base sp hd n e cs = some y → ∃ a : α, All2 (SRep (sto W)) cs (e0 a)) (h : DataW.Trod enc P W base sp hd t v d p) (hs : hardRows = true → k < 2 := by decide) : ∃ xs : List α, VRep (sto W) noS noH v (.one (.st (.list (xs.map e0)))) := by
  obtain ⟨a, len, cap, rfl⟩ := okWide_slice ht hv
  obtain ⟨fuel, hf⟩ := h
  obtain ⟨xs, hxs⟩ := list_of_trod ht hc hlen hk (fun n cs y _ hy => f n cs y hy) hf hs
  have : All2 (SRep (sto W)) [.slice a len cap] [.list (xs.map e0)] := hxs
  cases this with
  | cons h1 h2 => exact ⟨xs, .one (.st h1)⟩
theorem arg_struct {α : Type} {e0 : α → List SV} {t : TypeId} {fs : Array Field} (ht : P.underlying t = some (.struct fs)) {r : Reach} {b0 : Nat} {v : Value} {d : DataW H} {p : List MemPlace} (hv : Value.okWide P W r b0 t v)
    (f : ∀ (n : Nat) (cs : List Value) (y : DataW H × List MemPlace), DataW.trod enc P W base sp hd n t cs = some y → ∃ a : α, All2 (SRep (sto W)) cs (e0 a)) (h : DataW.Trod enc P W base sp hd t v d p) : ∃ a : α, VRep (sto W) noS noH v (.agg ((e0 a).map .st)) := by
  obtain ⟨cs, rfl, hsz⟩ := okWide_struct ht hv
  obtain ⟨fuel, hf⟩ := h
  obtain ⟨a, ha⟩ := f fuel _ _ hf
  exact ⟨a, .agg ((All2.mono (fun _ _ h => .st h) ha).map_right)⟩
end
theorem acalls_true {P : Program} {f : FuncId} {xs : List AV} {b : Bool} (h : ACalls P f xs (aBool b)) {σ : Sto} {w : World} {vs : List Value} (hg : GlobIn σ) (hf : Fit σ w) (hv : All2 (VRep σ noS noH) vs xs) :
    Calls P f vs.toArray w fun e w' => e = .returned (.bool b) ∧ Below w.heap.size w w' := (h σ w vs hg hf hv).mono fun e w' ⟨v, σ', he, hv, _, _, hb⟩ => by
  rw [vrep_bool hv] at he
  exact ⟨he, hb⟩

theorem laid_at {P : Program} {W : World} {x : String × DataW Unit} : ∀ {l : List (String × DataW Unit)} {ps : List MemPlace}, DataW.LaidVars P W l ps → x ∈ l → ∃ q, DataW.LaidVars P W [x] q
  | [], _, _, hx => by simp at hx
  | y :: l, ps, h, hx => by
    obtain ⟨n, d⟩ := y
    obtain ⟨g, t, cs, fuel, p, q, a1, a2, a3, a4, a5, a6⟩ := h
    rcases List.mem_cons.1 hx with rfl | hx
    · exact ⟨_, g, t, cs, fuel, p, [], a1, a2, a3, a4, rfl, rfl⟩
    · exact laid_at a5 hx
theorem size_sto {P : Program} {W : World} {n : String} {g : Nat} {cs : Array Value} (hg : P.globalNamed n = some g) (h : W.var? P n = some cs) : sto W ⟨g, cs.size, some 0⟩ = some .nilFunc := by
  unfold World.var? at h
  rw [hg] at h
  simp only [Option.bind_some] at h
  show look W _ = _
  unfold look
  simp only
  cases hb : W.heap[g]? with
  | none => rw [hb] at h; cases h
  | some o =>
    rw [hb] at h
    cases o <;> simp_all
theorem glob_tab {P : Program} {W : World} {name : String} {g : Nat} {t e : TypeId} {n : Nat} {k : IntKind} {zs : List Int} (hg : P.globalNamed name = some g) (hty : (P.globals[g]?).map (·.type) = some t) (ht : P.underlying t = some (.array n e)) (he : P.underlying e = some (.int k))
    (hce : P.cellsOf e = 1) (hct : P.cellsOf t = n) (hin : ∀ z ∈ zs, inR k z) {ps : List MemPlace} (h : DataW.LaidVars P W [(name, Lib.tabData k zs)] ps) : GlobAt (sto W) (g, zs.map fun z => .int k z) := by
  obtain ⟨g0, t0, cs0, f0, p0, q0, hg0, ht0, hv0, hd0, _, _⟩ := h
  obtain rfl := Option.some.inj (hg.symm.trans hg0)
  obtain rfl := Option.some.inj (hty.symm.trans ht0)
  have hc := Lib.cells_of_tab ht he hce hct hd0
  have hs : cs0.size = zs.length := by
    have := congrArg List.length hc
    simpa using this
  refine ⟨⟨fun j => (zs[j]?).elim .nilFunc (.int k), fun j a ha => ?_, fun j a ha => ?_⟩, ?_⟩
  · rw [List.getElem?_map, Option.map_eq_some_iff] at ha
    obtain ⟨z, hz, rfl⟩ := ha
    have h1 := World.var?_cell hg0 hv0 j
    have h2 : cs0[j]? = some (.int k z) := by
      have h3 := congrArg (fun l : List Value => l[j]?) hc
      simpa [hz] using h3
    show look W _ = _
    rw [look_none rfl, Nat.zero_add, h1, h2]
    simp only [hz, Option.elim]
  · rw [List.getElem?_map, Option.map_eq_some_iff] at ha
    obtain ⟨z, hz, rfl⟩ := ha
    simp only [hz, Option.elim]
    exact .int (hin z (List.mem_of_getElem? hz))
  · have := size_sto hg0 hv0
    rw [hs] at this
    simpa using this
theorem in_i64 {zs : List Int} (h : zs.all (fun z => decide (-9223372036854775808 ≤ z) && decide (z ≤ 9223372036854775807)) = true) : ∀ z ∈ zs, inR .i64 z := fun z hz => by
  have := List.all_eq_true.1 h z hz
  rw [inR_i64]
  simpa using this
theorem in_u64 {zs : List Int} (h : zs.all (fun z => decide (0 ≤ z) && decide (z ≤ 18446744073709551615)) = true) : ∀ z ∈ zs, inR .u64 z := fun z hz => by
  have := List.all_eq_true.1 h z hz
  simp only [Bool.and_eq_true, decide_eq_true_eq] at this
  simp [inR, IntKind.min, IntKind.max, IntKind.signed, IntKind.bits]
  omega
theorem glob_subs {W : World} {ps : List MemPlace} (h : DataW.LaidVars Tryd.prog W [("metaprune/lambda.subs", Rows.laid_metaprune_lambda_subs)] ps) : GlobAt (sto W) (0, [.int .i64 0, .int .i64 0, .int .i64 1, .int .i64 2, .int .i64 0, .int .i64 0]) := glob_tab (k := .i64) (zs := [0, 0, 1, 2, 0, 0]) (by kernel_rfl) (by kernel_rfl) Tryd.underlying76 Tryd.underlying3 (by kernel_rfl) (by kernel_rfl) (in_i64 (by decide)) h
theorem glob_pow {W : World} {ps : List MemPlace} (h : DataW.LaidVars Tryd.prog W [("internal/strconv.uint64pow10", Rows.laid_internal_strconv_uint64pow10)] ps) : GlobAt (sto W) (1, pow10s) := glob_tab (k := .u64) (zs := Lib.pow10Tab) (by kernel_rfl) (by kernel_rfl) Tryd.underlying90 Tryd.underlying83 (by kernel_rfl) (by kernel_rfl) (in_u64 (by decide)) h

section
variable {H : Type} {enc : TypeId × Value → H} {W : World} {sp : Nat → Bool} {hd : Bool} {base : Nat}
set_option maxRecDepth 100000 in
theorem lm_trod : ∀ (fuel : Nat) (cs : List Value) (x : DataW H × List MemPlace), DataW.trod enc Tryd.prog W base sp hd fuel 24 cs = some x → ∃ t : Lm, All2 (SRep (sto W)) cs (encL t) := by
  intro fuel
  induction fuel using Nat.strongRecOn with
  | _ fuel ih =>
  intro cs x h
  obtain ⟨a, b, c, y0, y1, y2, n, hn, rfl, h0, h1, h2⟩ := trod_three Tryd.underlying24 rfl rfl rfl (show Tryd.prog.cellsOf 3 = 1 by kernel_rfl) (show Tryd.prog.cellsOf 3 = 1 by kernel_rfl) (show Tryd.prog.cellsOf 22 = 1 by kernel_rfl) (show Tryd.prog.cellsOf 24 = 3 by kernel_rfl) h
  obtain ⟨k, hk⟩ := int_trod Tryd.underlying3 _ _ _ h0
  obtain ⟨i, hi⟩ := int_trod Tryd.underlying3 _ _ _ h1
  obtain ⟨xs, hxs⟩ := list_of_trod (e0 := encL) Tryd.underlying22 (show Tryd.prog.cellsOf 24 = 3 by kernel_rfl) (fun a => by rw [encL_eq]; rfl) (by decide) (fun m cs y hm hy => ih m (by omega) cs y hy) h2
  exact ⟨.mk k i xs, by rw [encL_eq]; exact hk.append (hi.append hxs)⟩
set_option maxRecDepth 100000 in
theorem arg_lm {r : Reach} {b0 : Nat} {v : Value} {d : DataW H} {p : List MemPlace} (hv : Value.okWide Tryd.prog W r b0 24 v) (h : DataW.Trod enc Tryd.prog W base sp hd 24 v d p) : ∃ t : Lm, VRep (sto W) noS noH v (aLm t) := by
  obtain ⟨t, ht⟩ := arg_struct Tryd.underlying24 hv lm_trod h
  exact ⟨t, by rw [encL_eq] at ht; exact ht⟩
end

section
variable {H : Type} {enc : TypeId × Value → H} {W : World} {sp : Nat → Bool} {hd : Bool} {base : Nat}
theorem arg_strs {r : Reach} {b0 : Nat} {v : Value} {d : DataW H} {p : List MemPlace} (hv : Value.okWide Tryd.prog W r b0 25 v) (h : DataW.Trod enc Tryd.prog W base sp hd 25 v d p) : ∃ l : List ByteArray, VRep (sto W) noS noH v (aStrs l) :=
  arg_list (k := 1) Tryd.underlying25 (by kernel_rfl) (fun _ => rfl) (by decide) hv (str_trod Tryd.underlying9) h
end

end Go.Proofs.YtfiegbokcabhhaaDoor
namespace Go.Proofs.YtfiegbokcabhhaaDoor.lambdaSays
open Go Go.RowKit Go.ChangeShapes Go.WideShapes Go.ChangeAt
set_option linter.unusedVariables false
theorem globInW {W : World} (h : laidMetH Tryd.prog Rows.lambdaSaysRow.laid W) : GlobIn (sto W) := by
  rw [MakeChecks.laidMetH_plain _ _ _ (by kernel_rfl)] at h
  obtain ⟨ps, h, _, _⟩ := h
  obtain ⟨_, h1⟩ := laid_at (x := ("metaprune/lambda.subs", Rows.laid_metaprune_lambda_subs)) h (by simp [Rows.lambdaSaysRow])
  obtain ⟨_, h2⟩ := laid_at (x := ("internal/strconv.uint64pow10", Rows.laid_internal_strconv_uint64pow10)) h (by simp [Rows.lambdaSaysRow])
  intro y hy
  simp only [globs, List.mem_cons, List.not_mem_nil, or_false] at hy
  rcases hy with rfl | rfl
  · exact glob_subs h1
  · exact glob_pow h2
theorem own : ownKnob Tryd.prog.godebug = none := by kernel_rfl
theorem laid : laidOutB Tryd.prog = true := by kernel_rfl
set_option maxRecDepth 100000 in
theorem contract (H : Type) (enc : TypeId × Value → H) (W : World) (base : Nat) (args : Array Value) (ds gs : List (DataW H)) (before : List MemPlace) (hL : laidMetH Tryd.prog Rows.lambdaSaysRow.laid W)
    (hval : ∀ (j : Nat) t v, Tryd.f3.params[j]? = some t → args[j]? = some v → Value.okWide Tryd.prog W .any base t v)
    (hW : DataW.Whole enc Tryd.prog Tryd.f3.params.toList Rows.lambdaSaysSpec.vars false W args.toList ds gs before) :
    Calls Tryd.prog 3 args W fun e W' => ∃ v, e = .returned v ∧ Rows.lambdaSaysSpec.post enc Tryd.prog Tryd.f3 false true false false W args v W' := by
  have hG := globInW hL
  obtain ⟨p, q, hA0, hV, rfl, hfz, hnd⟩ := id hW
  obtain ⟨rfl, rfl⟩ := trodVars_none hV
  have hA : DataW.TrodAll enc Tryd.prog W 0 (fun _ => true) true Tryd.f3.params.toList args.toList ds p := hA0
  rw [Tryd.params3] at hA hval
  obtain ⟨v0, v1, v2, d0, d1, d2, p0, p1, p2, hargs, rfl, rfl, h0, h1, h2⟩ := trodAll_three hA
  obtain rfl : args = #[v0, v1, v2] := by cases args; simp_all
  obtain ⟨t, r0⟩ := arg_lm (hval 0 24 v0 rfl rfl) h0
  obtain ⟨u, r1⟩ := arg_int Tryd.underlying3 (hval 1 3 v1 rfl rfl) h1
  obtain ⟨l, r2⟩ := arg_strs (hval 2 25 v2 rfl rfl) h2
  refine (acalls_true (lambdaSays_a t u l) hG (fit_sto W) (vs := [v0, v1, v2]) (.cons r0 (.cons r1 (.cons r2 .nil)))).mono fun e W' ⟨he, hb⟩ => ⟨_, he, ?_⟩
  exact law_post hW rfl rfl Tryd.underlying4 rfl rfl rfl laid (by kernel_rfl) hb
theorem door_met (os : Os) (args : Array Value) : laidMetH Tryd.prog Rows.lambdaSaysRow.laid ((World.doorLaid Tryd.prog 400 os).forCall (fun _ _ => 0) ⟨#[], args, []⟩).memory :=
  laidMetH_of_parts3 (fuel := 8) (laidMet_of_run' 8 (by kernel_rfl) (by kernel_rfl)) (by kernel_rfl) (by kernel_rfl)
set_option maxRecDepth 100000 in
theorem lifted (os : Os) (started : os.Started) (H : Type) (enc : TypeId × Value → H) :
    ReturnsInHanded {} Tryd.checked os 3 .any (fun w args => (Rows.lambdaSaysSpec.pre enc Tryd.prog Tryd.f3 [] false w args ∧ laidMetH Tryd.prog Rows.lambdaSaysRow.laid w) ∧ sizedMet enc Tryd.prog Tryd.f3 (OpenSpec.ofChange Rows.lambdaSaysSpec) false w args)
      (Rows.lambdaSaysSpec.post enc Tryd.prog Tryd.f3 false true false false) := by
  refine returnsInHanded_of_change_and (C := Tryd.checked) (X := fun w _ => laidMetH Tryd.prog Rows.lambdaSaysRow.laid w) (fun _ _ _ hh h => h.of_heap hh) own started (by kernel_rfl) Tryd.func3
    (ChangeSpec.witness_shaped (enc := enc) (C := Tryd.checked) (os := os) (X := fun w _ => laidMetH Tryd.prog Rows.lambdaSaysRow.laid w) false (World.doorLaid Tryd.prog 400 os) #[.agg #[.int .i64 0, .int .i64 0, .slice none 0 0], .int .i64 0, .slice none 0 0] 8 rfl (World.shaped_of_RefB (by kernel_rfl) (by kernel_rfl)) (by kernel_rfl) (by kernel_rfl) (by kernel_rfl) (door_met os _)) ?_
  intro W base args ds gs before hval hW _ _ hL _
  exact contract H enc W base args ds gs before hL hval hW
theorem row_holds : Rows.LambdaSaysSaid :=
  OpenClaim.holds_of_wide 3 Tryd.f3 rfl rfl rfl rfl rfl rfl rfl ⟨rfl, rfl, rfl, rfl, rfl⟩ rfl rfl rfl rfl rfl (by kernel_rfl) Tryd.func3 (by kernel_rfl)
    (of_decide_eq_true (by kernel_rfl)) (by unfold Func.isWrapper; first | (rw [if_pos (by decide +kernel)]; kernel_rfl) | (rw [if_neg (by decide +kernel)]; exact ⟨rfl, rfl⟩))
    (fun os started H enc _ => lifted os started H enc)
theorem no_stand : (Tryd.f3.params.toList.all fun t => !Tryd.prog.wantsStandIn t) = true := by kernel_rfl
theorem proved : Rows.LambdaSaysCardSaid :=
  Claim7.holds_tied_plain_at .later [] [.data, .data, .data, .data] true Rows.lambdaSaysCard.stood.harness Rows.lambdaSaysCard.stood.looks
    row_holds (fun _ h => by cases h) (by kernel_rfl) (fun _ h => by cases h) lambdaSays_row_tie rfl ⟨rfl, rfl⟩ (by kernel_rfl) rfl
    (fun f fn hf hfn => by
      obtain rfl : f = 3 := Option.some.inj ((show Tryd.prog.funcNamed "metaprune/metaprunelaw.LambdaSays" = some 3 by kernel_rfl).symm.trans hf) |>.symm
      obtain rfl : fn = Tryd.f3 := (Option.some.inj (Tryd.func3.symm.trans hfn)).symm
      exact ⟨by kernel_rfl, fun j t ht => by
        have h1 := List.all_eq_true.1 no_stand t (by rw [Array.mem_toList_iff]; exact Array.mem_of_getElem? ht)
        have h2 : Tryd.prog.wantsStandIn t = false := by simpa using h1
        exact h2⟩)
    (by kernel_rfl)

end Go.Proofs.YtfiegbokcabhhaaDoor.lambdaSays
