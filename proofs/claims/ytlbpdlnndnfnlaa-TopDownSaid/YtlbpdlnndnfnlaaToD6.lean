/-
  Part 6 of the texts. Conditions: none.
-/
import Derived.Test.YtlbpdlnndnfnlaaToD5
namespace Go.Proofs.Ytlbpdlnndnfnlaa
open Go Go.RowKit
set_option linter.unusedVariables false
set_option linter.unusedSimpArgs false
set_option maxHeartbeats 400000
theorem Kc {ts : List ByteArray} : ∀ x ∈ ts.map C5, x.length = 1 := by
 intro x hx
 obtain ⟨a, _, rfl⟩ := List.mem_map.1 hx
 rfl
theorem GJ {α : Type} (f : Nat → α) (i : Nat) (a b : α) : AG (AG f i a) i b = AG f i b := by
 funext k
 unfold AG
 split <;> rfl
theorem KS {α : Type} (f : Nat → α) {i j : Nat} (h : ¬ i = j) (a b : α) : AG (AG f i a) j b = AG (AG f j b) i a := by
 funext k
 unfold AG
 split
 ·rename_i e
  subst e
  rw [if_neg (fun e => h e.symm)]
 ·rfl
theorem KC (t : Tm) (hz : t.size ≤ 1000000)
  (ih : ∀ a ∈ t.args, ∀ (i : Nat) (l : List ByteArray) (S : AA), 1000 ≤ i → l.length + a.size ≤ 3000000 → S i = some (.arow 9 1 (l.map C5)) →
   Aq Try.prog 53 [aTm a, .one (.row i l.length)] S (.one (.row i (Au l a.knots).length)) (AG S i (some (.arow 9 1 ((Au l a.knots).map C5)))))
  (C : Ctx) (hC : C.n = 34) (i : Nat) (hi : 20 < i) (l : List ByteArray) (hlz : l.length + t.size ≤ 3000000) (S : AA) (hS : Am S) (env : Nat → AV) (e0 : env 0 = aTm t) (e1 : env 1 = .one (.row i l.length))
  (Q : AX → AS → Prop) (hQ : ∀ env', env' 4 = .one (.row i (Au l t.knots).length) → Q .ret ⟨env', AG (AG S 2 (some (.box 27 [.st (.str t.name), .st (.list (t.args.map Ap))]))) i (some (.arow 9 1 ((Au l t.knots).map C5)))⟩) :
  IWP Try.prog C [31] EU Q ⟨env, AG S i (some (.arow 9 1 (l.map C5)))⟩ := by
 have hs := Tm.size_eq t
 have hk := Tm.knots_eq t
 have hc2 := Aj hS (i := 2) (by omega)
 have hc6 := Aj hS (i := 6) (by omega)
 have hi2 : ¬ 2 = i := by omega
 have hi6 : ¬ 6 = i := by omega
 have hi2' : ¬ i = 2 := by omega
 have hi6' : ¬ i = 6 := by omega
 unfold EU
 have hlk : ∀ k, (Au (Bk l t.name) (Tm.knotsL (t.args.take k))).length ≤ l.length + 1 + Tm.sizes (t.args.take k) := fun k => by
  have h1 := DJ (Tm.knotsL (t.args.take k)) (Bk l t.name)
  have h2 := Fz l t.name
  have h3 := Tm.knotsL_length (t.args.take k)
  omega
 repeat' with_reducible first | refine W ?_ | refine Z0 ?_ | ((first | refine Wo fun K hK => ?_ | refine Wq ?_ | refine Wr ?_); (try simp only [go_sem, fN, seval, eT, iR, e0, e1, hc2, hi2, hi6, hi2', hi6']); (repeat refine Ai ?_); (try (refine hK _ ?_; clear hK K)))
 refine ⟨_, Bm _, ?_⟩
 rcases (show AZ t.name = false ∨ (AZ t.name = true ∧ CI t.name l = true) ∨ (AZ t.name = true ∧ CI t.name l = false) by cases AZ t.name <;> cases CI t.name l <;> simp) with hv | ⟨hv, hin⟩ | ⟨hv, hin⟩
 case' inl =>
  have hl1 := PV (l := l) hv
  repeat' with_reducible first | refine W ?_ | refine Z0 ?_ | ((first | refine Wo fun K hK => ?_ | refine Wq ?_ | refine Wr ?_); (try simp only [go_sem, fN, seval, eT, iR, e0, e1, hv, hi2, hi2']); (repeat refine Ai ?_); (try (refine hK _ ?_; clear hK K)))
  with_reducible refine Wp ?_
  simp only [go_sem, fN, seval, true_implies, false_implies, implies_true, dT, dF, nL, hv]
  (try with_reducible refine iC ?_)
  repeat' with_reducible first | refine W ?_ | refine Z0 ?_ | ((first | refine Wo fun K hK => ?_ | refine Wq ?_ | refine Wr ?_); (try simp only [go_sem, fN, seval, eT, iR, e0, e1, hi2, hi2']); (repeat refine Ai ?_); (try (refine hK _ ?_; clear hK K)))
 case' inr.inl =>
  have hl1 := Pp (l := l) hin
  repeat' (first | (with_reducible first | refine W ?_ | refine Z0 ?_ | ((first | refine Wo fun K hK => ?_ | refine Wq ?_ | refine Wr ?_); (try simp only [go_sem, fN, seval, eT, iR, e0, e1, hv, hi2, hi2', hin]); (repeat refine Ai ?_); (try (refine hK _ ?_; clear hK K)))) | refine Cg _ (Ei _ _) ?_)
  with_reducible refine Wp ?_
  simp only [go_sem, fN, seval, true_implies, false_implies, implies_true, dT, dF, nL, hv]
  (try with_reducible refine iC ?_)
  repeat' with_reducible first | refine W ?_ | refine Z0 ?_ | ((first | refine Wo fun K hK => ?_ | refine Wq ?_ | refine Wr ?_); (try simp only [go_sem, fN, seval, eT, iR, e0, e1, hi2, hi2']); (repeat refine Ai ?_); (try (refine hK _ ?_; clear hK K)))
 case' inr.inr =>
  have hl1 := OE (l := l) hv hin
  repeat' (first | (with_reducible first | refine W ?_ | refine Z0 ?_ | ((first | refine Wo fun K hK => ?_ | refine Wq ?_ | refine Wr ?_); (try simp only [go_sem, fN, seval, eT, iR, e0, e1, hv, hi2, hi2', hin]); (repeat refine Ai ?_); (try (refine hK _ ?_; clear hK K)))) | refine Cg _ (Ei _ _) ?_)
  with_reducible refine Wp ?_
  simp only [go_sem, fN, seval, true_implies, false_implies, implies_true, dT, dF, nL, hv]
  (try with_reducible refine iC ?_)
  repeat' with_reducible first | refine W ?_ | refine Z0 ?_ | ((first | refine Wo fun K hK => ?_ | refine Wq ?_ | refine Wr ?_); (try simp only [go_sem, fN, seval, eT, iR, e0, e1, hi2, hi2']); (repeat refine Ai ?_); (try (refine hK _ ?_; clear hK K)))
 all_goals
  refine IWP.loopD [6] (fun m s => ∃ k, k ≤ t.args.length ∧ m = t.args.length - k ∧ s.env 1 = .one (.row i (Au (Bk l t.name) (Tm.knotsL (t.args.take k))).length) ∧ s.env 23 = .one (.st (.list (t.args.map Ap))) ∧ s.env 24 = AR t.args.length ∧ s.env 25 = AR k ∧ s.S = AG (AG S 2 (some (.box 27 [.st (.str t.name), .st (.list (t.args.map Ap))]))) i (some (.arow 9 1 ((Au (Bk l t.name) (Tm.knotsL (t.args.take k))).map C5)))) t.args.length ⟨0, Nat.zero_le _, rfl, ?_, rfl, rfl, rfl, ?_⟩ ?_
  ·show _ = AV.one (.row i (Bk l t.name).length)
   rw [hl1]
   simp only [go_sem, fN, seval, eT, iR, e1]
  ·show _ = AG (AG S 2 _) i (some (.arow 9 1 ((Bk l t.name).map C5)))
   rw [hl1]
   first
    | (simp only [GJ]; exact KS _ hi2' _ _)
    | (simp only [KS _ hi2', GJ, List.map_append]; rfl)
  rintro m ⟨env', S'⟩ ⟨k, hk', rfl, e1', e23, e24, e25, hS'⟩
  simp only at e1' e23 e24 e25 hS'
  have s6 : S' 6 = none := by rw [hS', AH _ hi6, AH _ (by omega), hc6]
  have si : S' i = some (.arow 9 1 ((Au (Bk l t.name) (Tm.knotsL (t.args.take k))).map C5)) := by rw [hS', AE]
  have hlk' := hlk k
  have z3 := Tm.length_le t.args
  by_cases hlt : (k : Int) < t.args.length
  ·obtain ⟨a, ha⟩ := Ay (show k < t.args.length by omega)
   have z1 := Tm.sizes_take ha
   have z2 := Tm.sizes_take_le t.args (k + 1)
   repeat' with_reducible first | refine W ?_ | refine Z0 ?_ | ((first | refine Wo fun K hK => ?_ | refine Wq ?_ | refine Wr ?_); (try simp only [go_sem, fN, seval, eT, iR, e1', e23, e24, e25, s6, si, hlt]); (repeat refine Ai ?_); (try (refine hK _ ?_; clear hK K)))
   with_reducible refine Wp ?_
   simp only [go_sem, fN, seval, true_implies, false_implies, implies_true, dT, dF, nL, e1', e23, e24, e25, s6, si, hlt]
   (try with_reducible refine iC ?_)
   repeat' with_reducible first | refine W ?_ | refine Z0 ?_ | ((first | refine Wo fun K hK => ?_ | refine Wq ?_ | refine Wr ?_); (try simp only [go_sem, fN, seval, eT, iR, e1', e23, e24, e25, s6, si, ha]); (repeat refine Ai ?_); (try (refine hK _ ?_; clear hK K)))
   have hni : ([6] : List Nat).contains i = false := by simp; omega
   refine ⟨_, _, ih a (Ah ha) (up1 i) _ _ (BA i) (by omega) (by rw [BY, AH _ hi6', AH _ hi6', si]; rfl), ?_⟩
   repeat' with_reducible first | refine W ?_ | refine Z0 ?_ | ((first | refine Wo fun K hK => ?_ | refine Wq ?_ | refine Wr ?_); (try simp only [go_sem, fN, seval, eT, iR, e23, e24, e25]); (repeat refine Ai ?_); (try (refine hK _ ?_; clear hK K)))
   refine AO ⟨t.args.length - (k + 1), by omega, k + 1, by omega, rfl, ?_⟩
   have hib : (i == 6) = false := by simp; omega
   simp only [go_sem, fN, seval, AS.drop, AC.clears, AC.clear, AC.highs, AC.high, Bool.not_false, Bool.true_and, Bool.and_self, AV.purge, AV.purges, AC.purge, AJ.purge, List.contains_cons, List.contains_nil, Nat.reduceBEq, Bool.or_self, Bool.or_false, Bool.false_or, Bool.or_true, eT, iR, e23, e24, hib]
   rw [Tm.knotsL_take ha, JD]
   refine ⟨rfl, by congr 3, ?_⟩
   rw [G6 hni, NE rfl, NE rfl, hS', G6 hni, G6 rfl, MS (by decide) hS, GJ]
   rfl
  ·repeat' with_reducible first | refine W ?_ | refine Z0 ?_ | ((first | refine Wo fun K hK => ?_ | refine Wq ?_ | refine Wr ?_); (try simp only [go_sem, fN, seval, eT, iR, e1', e23, e24, e25, hlt]); (repeat refine Ai ?_); (try (refine hK _ ?_; clear hK K)))
   with_reducible refine Wp ?_
   simp only [go_sem, fN, seval, true_implies, false_implies, implies_true, dT, dF, nL, e1', e23, e24, e25, hlt]
   (try with_reducible refine iC ?_)
   repeat' with_reducible first | refine W ?_ | refine Z0 ?_ | ((first | refine Wo fun K hK => ?_ | refine Wq ?_ | refine Wr ?_); (try simp only [go_sem, fN, seval, eT, iR, e1']); (repeat refine Ai ?_); (try (refine hK _ ?_; clear hK K)))
   rw [hS']
   have hfin : Au (Bk l t.name) (Tm.knotsL (t.args.take k)) = Au l t.knots := by rw [List.take_of_length_le (by omega), hk]; rfl
   rw [hfin]
   refine hQ _ ?_
   simp only [go_sem, fN, seval, eT, iR]
theorem LD {α : Type} {f : Nat → α} {i : Nat} {a : α} (h : f i = a) : AG f i a = f := by
 funext k
 unfold AG
 split
 ·rename_i e
  rw [e, h]
 ·rfl
theorem Rb (t : Tm) (hz : t.size ≤ 1000000) : ∀ (i : Nat) (l : List ByteArray) (S : AA), 1000 ≤ i → l.length + t.size ≤ 3000000 → S i = some (.arow 9 1 (l.map C5)) →
   Aq Try.prog 53 [aTm t, .one (.row i l.length)] S (.one (.row i (Au l t.knots).length)) (AG S i (some (.arow 9 1 ((Au l t.knots).map C5)))) := by
 induction h : SizeOf.sizeOf t using Nat.strongRecOn generalizing t with
 | _ N ih =>
 subst h
 have hs := Tm.size_eq t
 intro i l S hi hl hSi
 refine Gr.acS fun hS C hC => ?_
 have hcore := KC t hz (fun a ha => ih _ (Tm.lt_of_arg ha) a (by have := Tm.size_mem ha; omega) rfl) C hC i (by omega) l hl S hS (fun j => ([aTm t, .one (.row i l.length)][j]?).getD (.tup [])) rfl rfl
  (HC C [.t 4] (.one (.row i (Au l t.knots).length)) (AG S i (some (.arow 9 1 ((Au l t.knots).map C5))))) ?_
 ·rw [LD hSi] at hcore
  exact hcore
 ·intro env' e4
  have hc' : Am (AG S i (some (.arow 9 1 ((Au l t.knots).map C5)))) := BZ hS hi rfl
  refine Om trivial ⟨_, Ac.low (R3 (HB (by omega) fun k c _ hk => (hS k c hk).2) rfl), ?_, ?_, hc'⟩
  ·simp only [AB, AD, AK, e4, AV.low, AV.high, AC.high, hi, decide_true, if_true, Option.map_some]
  ·show BU _ = _
   rw [Pf _ hi, If _ (by omega), GS hS]
theorem Qe (t : Tm) (hz : t.size ≤ 1000000) (a0 : Nat) (S : AA) (ha : 1000 ≤ a0) (hSa : S a0 = none) :
   Aq Try.prog 53 [aTm t, .one (.full [])] S (.one (.row a0 (Au [] t.knots).length)) (AG S a0 (some (.arow 9 1 ((Au [] t.knots).map C5)))) := by
 have hs := Tm.size_eq t
 refine Gr.acS fun hS C hC => ?_
 refine IWP.ghost (Ac.own 1 21 9 1 (xs := ([] : List ByteArray).map C5) rfl (Aj hS (by omega)) Kc (by omega)) ?_
 refine KC t hz (fun a ha => Rb a (by have := Tm.size_mem ha; omega)) C hC 21 (by omega) [] (by simp; omega) S hS _ rfl rfl _ ?_
 intro env' e4
 have hb : ∀ i b, 1000 ≤ i → AG (AG S 2 (some (.box 27 [.st (.str t.name), .st (.list (t.args.map Ap))]))) 21 (some (.arow 9 1 ((Au [] t.knots).map C5))) i = some b → b.high = true := HB (by omega) (HB (by omega) fun k c _ hk => (hS k c hk).2)
 refine Om trivial ⟨_, Ac.hand 21 a0 (b0 := .arow 9 1 ((Au [] t.knots).map C5)) (by omega) ha (by show AG _ _ _ _ = _; rw [AH _ (by omega), AH _ (by omega), hSa]) (by simp only [AE]) rfl hb, ?_, ?_, BZ hS ha rfl⟩
 ·simp only [AB, AD, AK, e4, AV.hand, AV.ren, AC.ren, BL, if_true, AV.high, AC.high, ha, decide_true, Option.map_some]
 ·show AG (BU _) _ _ = _
  rw [If _ (by omega), If _ (by omega), GS hS]
theorem Qp (t : Tm) (hz : t.size ≤ 1000000) : AT Try.prog 40 [aTm t] (Bu t.varsOf) := by
 refine Ls.ac fun C hC => ?_
 unfold GV
 repeat' with_reducible first | refine W ?_ | refine Z0 ?_ | ((first | refine Wo fun K hK => ?_ | refine Wq ?_ | refine Wr ?_); (try simp only [go_sem, fN, seval, eT, iR]); (repeat refine Ai ?_); (try (refine hK _ ?_; clear hK K)))
 refine ⟨_, _, Qe t hz (up1 10) _ (BA 10) (by rw [BY]; rfl), ?_⟩
 repeat' with_reducible first | refine W ?_ | refine Z0 ?_ | ((first | refine Wo fun K hK => ?_ | refine Wq ?_ | refine Wr ?_); (try simp only [go_sem, fN, seval, eT, iR]); (repeat refine Ai ?_); (try (refine hK _ ?_; clear hK K)))
 simp only [go_sem, fN, seval, AN, AS.result, AB, AD, AK]
 rfl
theorem NZ (t : Tm) (hz : t.size ≤ 1000000) : AT Try.prog 31 [aTm t] (aTm t) := by
 induction h : SizeOf.sizeOf t using Nat.strongRecOn generalizing t with
 | _ N ih =>
 subst h
 have hs := Tm.size_eq t
 have hkn := Tm.length_le t.args
 refine L2.ac fun C hC => ?_
 unfold Gg
 repeat' with_reducible first | refine W ?_ | refine Z0 ?_ | ((first | refine Wo fun K hK => ?_ | refine Wq ?_ | refine Wr ?_); (try simp only [go_sem, fN, seval, eT, iR]); (repeat refine Ai ?_); (try (refine hK _ ?_; clear hK K)))
 refine IWP.ghost (Ac.ownC 3 1 21 27 2 (xs := ([] : List Tm).map Ap) rfl rfl rfl HR) ?_
 refine IWP.loopD [5] (fun m s => ∃ k, k ≤ t.args.length ∧ m = t.args.length - k ∧ s.env 2 = .one (.ptr 2 1 0 0) ∧ s.env 3 = .one (.ptr 3 1 0 0) ∧ s.S 2 = some (.box 27 [.st (.str ⟨#[]⟩), .full []]) ∧ s.S 3 = some (.box 27 [.st (.str t.name), .row 21 k]) ∧ s.S 21 = some (.arow 27 2 ((t.args.take k).map Ap)) ∧ s.env 10 = .one (.st (.list (t.args.map Ap))) ∧ s.env 11 = AR t.args.length ∧ s.env 12 = AR k ∧ s.S 5 = none)
  t.args.length ⟨0, Nat.zero_le _, rfl, rfl, rfl, rfl, rfl, rfl, rfl, rfl, rfl, rfl⟩ ?_
 rintro m ⟨env, S⟩ ⟨k, hk, rfl, e2, e3, s2, s3, s21, e10, e11, e12, s5⟩
 simp only at e2 e3 s2 s3 s21 e10 e11 e12 s5
 have hlk : (t.args.take k).length = k := by rw [List.length_take]; omega
 by_cases hlt : (k : Int) < t.args.length
 ·obtain ⟨a, ha⟩ := Ay (show k < t.args.length by omega)
  repeat' with_reducible first | refine W ?_ | refine Z0 ?_ | ((first | refine Wo fun K hK => ?_ | refine Wq ?_ | refine Wr ?_); (try simp only [go_sem, fN, seval, eT, iR, e2, e3, s2, s3, s21, e10, e11, e12, s5, hlt]); (repeat refine Ai ?_); (try (refine hK _ ?_; clear hK K)))
  with_reducible refine Wp ?_
  simp only [go_sem, fN, seval, true_implies, false_implies, implies_true, dT, dF, nL, e10, e11, e12, hlt]
  (try with_reducible refine iC ?_)
  repeat' (first | (with_reducible first | refine W ?_ | refine Z0 ?_ | ((first | refine Wo fun K hK => ?_ | refine Wq ?_ | refine Wr ?_); (try simp only [go_sem, fN, seval, eT, iR, e2, e3, s2, s3, s21, e10, e11, e12, s5, ha, hlk]); (repeat refine Ai ?_); (try (refine hK _ ?_; clear hK K)))) | refine Cg _ (ih _ (Tm.lt_of_arg (Ah ha)) a (by have := Tm.size_mem (Ah ha); omega) rfl) ?_)
  refine AO ⟨t.args.length - (k + 1), by omega, k + 1, by omega, rfl, ?_⟩
  simp only [go_sem, fN, seval, AS.drop, As, AC.clears, AC.clear, AC.highs, AC.high, Bool.not_false, Bool.true_and, Bool.and_self, AV.purge, AV.purges, AC.purge, AJ.purge, List.contains_cons, List.contains_nil, Nat.reduceBEq, Bool.or_self, Bool.or_false, Bool.false_or, Bool.or_true, eT, iR, e2, e3, s2, s3, s21, e10, e11, e12, s5]
  exact ⟨by rw [A0 ha]; simp [Aa], by congr 3⟩
 ·repeat' with_reducible first | refine W ?_ | refine Z0 ?_ | ((first | refine Wo fun K hK => ?_ | refine Wq ?_ | refine Wr ?_); (try simp only [go_sem, fN, seval, eT, iR, e2, e3, s2, s3, s21, e10, e11, e12, s5, hlt]); (repeat refine Ai ?_); (try (refine hK _ ?_; clear hK K)))
  with_reducible refine Wp ?_
  simp only [go_sem, fN, seval, true_implies, false_implies, implies_true, dT, dF, nL, e10, e11, e12, hlt]
  (try with_reducible refine iC ?_)
  repeat' with_reducible first | refine W ?_ | refine Z0 ?_ | ((first | refine Wo fun K hK => ?_ | refine Wq ?_ | refine Wr ?_); (try simp only [go_sem, fN, seval, eT, iR, e2, e3, s2, s3, s21, e10, e11, e12, s5]); (repeat refine Ai ?_); (try (refine hK _ ?_; clear hK K)))
  have hall : t.args.take k = t.args := List.take_of_length_le (by omega)
  rw [hall] at hlk s21
  simp only [go_sem, fN, seval, AN, AS.result, AB, AD, AK, e2, s2, s21, hlk]

mutual
def Tm.mt : Tm → Tm → List Bd → List Bd × Bool
 | .mk n xs, t, l => if AZ n = true then (match lookup l n with
   | some x => (l, x.beq t)
   | none => (l ++ [(n, t)], true))
  else if n = t.name ∧ xs.length = t.args.length then Tm.mtL xs t.args l else (l, false)
def Tm.mtL : List Tm → List Tm → List Bd → List Bd × Bool
 | x :: xs, y :: ys, l => if (x.mt y l).2 = true then Tm.mtL xs ys (x.mt y l).1 else ((x.mt y l).1, false)
 | _, _, l => (l, true)
end
section
variable {p t : Tm} {l : List Bd}
theorem Tm.mt_old (hv : AZ p.name = true) {x : Tm} (h : lookup l p.name = some x) : p.mt t l = (l, x.beq t) := by
 cases p with
 | mk n xs =>
  simp only [Tm.name_mk] at hv h
  rw [Tm.mt, if_pos hv, h]
theorem Tm.mt_new (hv : AZ p.name = true) (h : lookup l p.name = none) : p.mt t l = (l ++ [(p.name, t)], true) := by
 cases p with
 | mk n xs =>
  simp only [Tm.name_mk] at hv h
  rw [Tm.mt, if_pos hv, h]
  rfl
theorem Tm.mt_clash (hv : AZ p.name = false) (h : ¬ (p.name = t.name ∧ p.args.length = t.args.length)) : p.mt t l = (l, false) := by
 cases p with
 | mk n xs =>
  simp only [Tm.name_mk, Tm.args_mk] at hv h
  rw [Tm.mt, if_neg (by simp [hv]), if_neg h]
theorem Tm.mt_knot (hv : AZ p.name = false) (h1 : p.name = t.name) (h2 : p.args.length = t.args.length) : p.mt t l = Tm.mtL p.args t.args l := by
 cases p with
 | mk n xs =>
  simp only [Tm.name_mk, Tm.args_mk] at hv h1 h2
  rw [Tm.mt, if_neg (by simp [hv]), if_pos ⟨h1, h2⟩]
  rfl
end
theorem Tm.mtL_nil (ys : List Tm) (l : List Bd) : Tm.mtL [] ys l = (l, true) := by cases ys <;> simp [Tm.mtL]
theorem Tm.mtL_append : ∀ (xs ys xs' ys' : List Tm) (l : List Bd), xs.length = ys.length → Tm.mtL (xs ++ xs') (ys ++ ys') l = if (Tm.mtL xs ys l).2 = true then Tm.mtL xs' ys' (Tm.mtL xs ys l).1 else ((Tm.mtL xs ys l).1, false)
 | [], [], xs', ys', l, _ => by simp [Tm.mtL_nil]
 | x :: xs, y :: ys, xs', ys', l, h => by
  simp only [List.cons_append, Tm.mtL]
  by_cases hx : (x.mt y l).2 = true
  ·simp only [hx, if_true]
   exact Tm.mtL_append xs ys xs' ys' _ (by simpa using h)
  ·simp only [hx]
   simp
 | [], y :: ys, _, _, _, h => by simp at h
 | x :: xs, [], _, _, _, h => by simp at h
theorem Tm.mtL_take {xs ys : List Tm} {k : Nat} {x y : Tm} {l : List Bd} (hl : xs.length = ys.length) (hx : xs[k]? = some x) (hy : ys[k]? = some y) (h : (Tm.mtL (xs.take k) (ys.take k) l).2 = true) :
  Tm.mtL (xs.take (k + 1)) (ys.take (k + 1)) l = x.mt y (Tm.mtL (xs.take k) (ys.take k) l).1 := by
 rw [A0 hx, A0 hy, Tm.mtL_append _ _ _ _ _ (by simp [hl]), if_pos h]
 generalize Tm.mtL (xs.take k) (ys.take k) l = q
 simp only [Tm.mtL]
 split
 ·rename_i h1
  exact Prod.ext rfl h1.symm
 ·rename_i h1
  exact Prod.ext rfl (by simpa using h1)
theorem Tm.mtL_no {xs ys : List Tm} {k : Nat} {l : List Bd} (hl : xs.length = ys.length) (h : (Tm.mtL (xs.take k) (ys.take k) l).2 = false) : Tm.mtL xs ys l = ((Tm.mtL (xs.take k) (ys.take k) l).1, false) := by
 have e : Tm.mtL xs ys l = Tm.mtL (xs.take k ++ xs.drop k) (ys.take k ++ ys.drop k) l := by rw [List.take_append_drop, List.take_append_drop]
 rw [e, Tm.mtL_append _ _ _ _ _ (by simp [hl]), h]
 rfl
structure H6 (l l' : List Bd) (many most : Nat) : Prop where
 named : Cf l → Cf l'
 len : l'.length ≤ l.length + many
 size : ∀ b ∈ l', b ∈ l ∨ b.2.size ≤ most
theorem H6.refl (l : List Bd) (n m : Nat) : H6 l l n m := ⟨fun h => h, by omega, fun b hb => .inl hb⟩
theorem H6.trans {a b c : List Bd} {n m k n' m' : Nat} (h : H6 a b n m) (h' : H6 b c n' m') (hn : n + n' ≤ k) {M : Nat} (h1 : m ≤ M) (h2 : m' ≤ M) : H6 a c k M := by
 refine ⟨fun q => h'.named (h.named q), by have := h.len; have := h'.len; omega, fun x hx => ?_⟩
 rcases h'.size x hx with h3 | h3
 ·rcases h.size x h3 with h4 | h4
  ·exact .inl h4
  ·exact .inr (by omega)
 ·exact .inr (by omega)
theorem Lm {l : List Bd} {n : ByteArray} (h : lookup l n = none) : n ∉ l.map (·.1) := by
 intro hm
 obtain ⟨b, hb, rfl⟩ := List.mem_map.1 hm
 unfold lookup at h
 rw [Option.map_eq_none_iff, List.find?_eq_none] at h
 exact h b hb (by simp)
theorem N6 {l : List Bd} {b : Bd} (h : lookup l b.1 = none) (hn : Cf l) : Cf (l ++ [b]) := by
 unfold Cf at *
 rw [List.map_append, List.nodup_append]
 refine ⟨hn, by simp, fun x hx y hy e => ?_⟩
 simp only [List.map_cons, List.map_nil, List.mem_singleton] at hy
 subst hy
 subst e
 exact Lm h hx
mutual
theorem Tm.mt_ok : ∀ (p t : Tm) (l : List Bd), H6 l (p.mt t l).1 p.size t.size
 | .mk n xs, t, l => by
  rw [Tm.mt]
  split
  ·split
   ·exact H6.refl _ _ _
   ·rename_i h
    refine ⟨fun hn => N6 h hn, ?_, fun b hb => ?_⟩
    ·have := Tm.size_pos (.mk n xs)
     rw [List.length_append, List.length_singleton]
     omega
    ·rcases List.mem_append.1 hb with hb | hb
     ·exact .inl hb
     ·rw [List.mem_singleton] at hb
      subst hb
      exact .inr (Nat.le_refl _)
  ·split
   ·have := Tm.mtL_ok xs t.args l
    have h1 := Tm.size_eq t
    exact ⟨this.named, by have := this.len; rw [Tm.size]; omega, fun b hb => (this.size b hb).imp_right (by omega)⟩
   ·exact H6.refl _ _ _
theorem Tm.mtL_ok : ∀ (xs ys : List Tm) (l : List Bd), H6 l (Tm.mtL xs ys l).1 (Tm.sizes xs) (Tm.sizes ys)
 | [], ys, l => by rw [Tm.mtL_nil]; exact H6.refl _ _ _
 | x :: xs, [], l => by rw [Tm.mtL]; exact H6.refl _ _ _; simp
 | x :: xs, y :: ys, l => by
  rw [Tm.mtL]
  have h1 := Tm.mt_ok x y l
  split
  ·exact h1.trans (Tm.mtL_ok xs ys _) (by rw [Tm.sizes]; exact Nat.le_refl _) (by rw [Tm.sizes]; omega) (by rw [Tm.sizes]; omega)
  ·exact ⟨h1.named, by have := h1.len; rw [Tm.sizes]; show (x.mt y l).1.length ≤ _; omega, fun b hb => (h1.size b hb).imp_right (by rw [Tm.sizes]; omega)⟩
end
def Ar (p t : Tm) : List Bd := if (p.mt t []).2 = true then Br (p.mt t []).1 else []
def Bj (p t : Tm) : Bool := (p.mt t []).2
theorem Po : Cf [] := List.nodup_nil
theorem Gf (p t : Tm) : Cf (p.mt t []).1 := (Tm.mt_ok p t []).named Po
theorem Q2 (p t : Tm) : (p.mt t []).1.length ≤ p.size := by have := (Tm.mt_ok p t []).len; simpa using this
theorem Ou (p t : Tm) : ∀ b ∈ (p.mt t []).1, b.2.size ≤ t.size := fun b hb => ((Tm.mt_ok p t []).size b hb).resolve_left (by simp)

abbrev Pr := Tm × Tm
def EH (p : Pr) : List SV := [.str p.1.name, .list (p.1.args.map Ap), .str p.2.name, .list (p.2.args.map Ap)]
abbrev Fj (l : List Pr) : AV := .one (.st (.list (l.map EH)))
instance : SG EH 4 := ⟨fun _ => rfl⟩
theorem Pk {ts : List Pr} : ∀ x ∈ ts.map EH, x.length = 4 := by
 intro x hx
 obtain ⟨a, _, rfl⟩ := List.mem_map.1 hx
 rfl

set_option maxRecDepth 100000
def C8 : IR :=
 (.seq (.ops [.i 2 (.mov (.c (.one (.st (.bool false)))))]) (.seq (.ops [.m 3 0, .m 4 0, .i 5 (.bin .neq (.t 3) (.t 4)), .m 2 5]) .ret))
theorem Fi : OkF Try.prog 72 6 [] C8 [.t 2] := .of Try.func72 rfl rfl (by kernel_rfl) rfl
def Cd : IR :=
 (.seq (.ops [.i 4 (.mov (.n 0))]) (.seq (.ops [.m 7 0, .i 8 (.call 72 [.t 7]), .m 5 8]) (.seq (.ops [.m 9 1, .i 10 (.call 72 [.t 9]), .m 6 10]) (.seq (.seq (.ops [.m 11 5]) (.cond (.t 11) (.seq (.seq (.ops [.m 12 6]) (.cond (.t 12) (.seq (.ops [.i 4 (.mov (.n 0))]) .ret) .skip)) (.seq (.ops [.i 4 (.mov (.c (.one (.st (.int .i64 (-1))))))]) .ret)) .skip)) (.seq (.seq (.ops [.m 13 6]) (.cond (.t 13) (.seq (.ops [.i 4 (.mov (.n 1))]) .ret) .skip)) (.seq (.seq (.ops [.m 14 0, .m 15 1, .i 16 (.bin .lss (.t 14) (.t 15))]) (.cond (.t 16) (.seq (.ops [.i 4 (.mov (.c (.one (.st (.int .i64 (-1))))))]) .ret) .skip)) (.seq (.seq (.ops [.m 17 0, .m 18 1, .i 19 (.bin .gtr (.t 17) (.t 18))]) (.cond (.t 19) (.seq (.ops [.i 4 (.mov (.n 1))]) .ret) .skip)) (.seq (.ops [.i 4 (.mov (.n 0))]) .ret))))))))
theorem Ex : OkF Try.prog 65 20 [] Cd [.t 4] := .of Try.func65 rfl rfl (by kernel_rfl) rfl
def Ev : IR :=
 (.seq (.ops [.i 2 (.box 95 (.t 0)), .i 4 (.mov (.n 0))]) (.seq (.ops [.f 5 0 2, .l 6 5, .m 7 1, .i 8 (.call 65 [.t 6, .t 7]), .m 4 8]) .ret))
theorem IB : OkF Try.prog 74 9 [] Ev [.t 4] := .of Try.func74 rfl rfl (by kernel_rfl) rfl
def Ag : IR :=
 (.seq (.ops [.i 6 (.mov (.n 0)), .i 7 (.mov (.c (.one (.st (.bool false)))))]) (.seq (.ops [.m 12 0, .i 13 (.len false (.t 12)), .m 8 13]) (.seq (.ops [.m 14 8, .i 9 (.mov (.n 0)), .m 10 14]) (.seq (.block 0 (.loop (.seq (.seq (.ops [.m 15 9, .m 16 10, .i 17 (.bin .lss (.t 15) (.t 16))]) (.cond (.t 17) .skip (.exit 0))) (.block 1 (.seq (.ops [.m 18 9, .m 19 10, .i 20 (.bin .add (.t 18) (.t 19)), .i 21 (.conv .u64 (.t 20)), .i 22 (.bin .shr (.t 21) (.c (.one (.st (.int .u64 1))))), .i 23 (.conv .i64 (.t 22)), .m 11 23]) (.seq (.ops [.m 24 2, .m 25 0, .m 26 11, .i 27 (.indexAddr 3 (.t 25) (.t 26)), .L 28 3 27, .m 29 1, .i 30 (.callV (.t 24) [.t 28, .t 29]), .i 31 (.bin .lss (.t 30) (.n 0))]) (.cond (.t 31) (.ops [.m 32 11, .i 33 (.bin .add (.t 32) (.n 1)), .m 9 33]) (.ops [.m 34 11, .m 10 34])))))))) (.seq (.ops [.m 35 9, .m 36 9, .m 37 8, .i 38 (.bin .lss (.t 36) (.t 37)), .m 39 38, .mk (some 40) (some (39, true)) (.mov (.t 2)) .no, .mk (some 41) (some (39, true)) (.mov (.t 0)) .no, .mk (some 42) (some (39, true)) (.mov (.t 9)) .no, .mk (some 43) (some (39, true)) (.indexAddr 3 (.t 41) (.t 42)) .no, .mk (some 44) (some (39, true)) (.load true 3 (.t 43)) .no, .mk (some 45) (some (39, true)) (.mov (.t 1)) .no, .mk (some 46) (some (39, true)) (.callV (.t 40) [.t 44, .t 45]) .no, .mk (some 47) (some (39, true)) (.bin .eql (.t 46) (.n 0)) .no, .i 48 (.pick (.t 39) (.t 47) (.c (.one (.st (.bool false))))), .m 6 35, .m 7 48]) .ret)))))
theorem Az : OkF Try.prog 73 49 [] Ag [.t 6, .t 7] := .of Try.func73 rfl rfl (by kernel_rfl) rfl
def Fv : IR :=
 (.seq (.ops [.i 4 (.alloc 27 [.st (.str (ByteArray.mk (#[]))), .full []]), .i 5 (.mov (.c (.one (.st (.bool false)))))]) (.seq (.ops [.m 9 0, .m 10 1, .i 11 (.call 73 [.t 9, .t 10, .c (.one (.fn 74 []))]), .m 8 11, .i 12 (.extract 0 (.t 8)), .i 13 (.extract 1 (.t 8)), .m 6 12, .m 7 13]) (.seq (.seq (.ops [.m 14 7, .i 15 (.un .not (.t 14))]) (.cond (.t 15) (.seq (.ops [.i 16 (.build [.st (.str (ByteArray.mk (#[]))), .full []] []), .s 2 4 16, .i 5 (.mov (.c (.one (.st (.bool false)))))]) .ret) .skip)) (.seq (.ops [.m 17 0, .m 18 6, .i 19 (.indexAddr 3 (.t 17) (.t 18)), .f 20 1 19, .L 21 2 20, .s 2 4 21, .i 5 (.mov (.c (.one (.st (.bool true)))))]) .ret))))
theorem Jd : OkF Try.prog 66 22 [] Fv [.cell 4 true 2, .t 5] := .of Try.func66 rfl rfl (by kernel_rfl) rfl
def BF : IR :=
 (.seq (.ops [.i 4 (.box 27 (.t 1)), .i 6 (.alloc 27 [.st (.str (ByteArray.mk (#[]))), .full []])]) (.seq (.seq (.ops [.m 12 2]) (.cond (.t 12) (.seq (.ops [.m 14 0, .i 15 (.nilCheck (.t 14)), .f 16 0 15, .l 17 16, .f 18 0 4, .l 19 18, .i 20 (.call 66 [.t 17, .t 19]), .m 13 20, .i 21 (.extract 0 (.t 13)), .i 22 (.extract 1 (.t 13)), .i 7 (.alloc 27 [.st (.str (ByteArray.mk (#[]))), .full []]), .s 2 7 21, .m 8 22]) (.seq (.ops [.m 23 8]) (.cond (.t 23) (.seq (.ops [.m 24 0, .L 25 2 7, .i 26 (.callS 59 [.t 24, .t 25, .c (.one (.st (.bool false)))]), .s 2 6 26]) .ret) .skip))) .skip)) (.seq (.seq (.ops [.m 27 0, .i 28 (.nilCheck (.t 27)), .f 29 1 28, .l 30 29, .i 31 (.bin .sub (.t 30) (.n 1)), .i 32 (.nilCheck (.t 27)), .f 33 1 32, .s 1 33 31]) (.seq (.ops [.m 34 0, .i 35 (.nilCheck (.t 34)), .f 36 1 35, .l 37 36, .i 38 (.bin .lss (.t 37) (.n 0))]) (.cond (.t 38) (.seq (.ops [.i 39 (.build [.st (.str (ByteArray.mk (#[]))), .full []] []), .s 2 6 39]) .ret) .skip))) (.seq (.ops [.f 40 0 4, .l 41 40, .i 42 (.build [.st (.str (ByteArray.mk (#[]))), .full []] [(0, 1, .t 41)]), .i 9 (.alloc 27 [.st (.str (ByteArray.mk (#[]))), .full []]), .s 2 9 42]) (.seq (.seq (.ops [.f 43 1 4, .l 44 43, .i 45 (.len false (.t 44)), .i 46 (.mov (.n 0))]) (.block 0 (.loop (.seq (.ops [.i 47 (.bin .lss (.t 46) (.t 45))]) (.seq (.cond (.t 47) .skip (.exit 0)) (.seq (.block 1 (.seq (.ops [.i 48 (.indexAddr 2 (.t 44) (.t 46)), .L 49 2 48, .i 11 (.alloc 27 [.st (.str (ByteArray.mk (#[]))), .full []]), .s 2 11 49]) (.seq (.ops [.mk (some 50) none (.fieldAddr 1 (.t 9)) (.onb 9), .mk (some 51) none (.load false 1 (.t 50)) (.onb 9), .m 52 0, .L 53 2 11, .m 54 2, .mk (some 55) none (.callS 59 [.t 52, .t 53, .t 54]) (.keeps [9, 9]), .i 56 (.buildSlice false 27 2 [.t 55]), .i 57 (.append false 27 2 40 (.t 51) (.t 56)), .f 58 1 9, .s 1 58 57]) (.seq (.ops [.m 59 0, .i 60 (.nilCheck (.t 59)), .f 61 1 60, .l 62 61, .i 63 (.bin .lss (.t 62) (.n 0))]) (.cond (.t 63) (.seq (.ops [.i 64 (.build [.st (.str (ByteArray.mk (#[]))), .full []] []), .s 2 6 64]) .ret) .skip))))) (.ops [.i 65 (.bin .add (.t 46) (.n 1)), .m 46 65]))))))) (.seq (.ops [.L 66 2 9, .s 2 6 66]) .ret))))))
theorem Bh : OkF Try.prog 59 67 [26, 55] BF [.cell 6 true 2] := .of Try.func59 rfl rfl (by kernel_rfl) rfl
def Hn : IR :=
 (.seq (.ops [.i 3 (.box 27 (.t 1)), .i 4 (.alloc 27 [.st (.str (ByteArray.mk (#[]))), .full []]), .i 5 (.mov (.c (.one (.st (.bool false)))))]) (.seq (.ops [.m 8 0, .i 9 (.build [.full [], .st (.int .i64 0)] [(0, 1, .t 8), (1, 1, .n 2000)]), .i 10 (.box 99 (.t 9)), .m 6 10]) (.seq (.ops [.m 11 6, .L 12 2 3, .i 13 (.callS 59 [.t 11, .t 12, .c (.one (.st (.bool true)))]), .i 7 (.alloc 27 [.st (.str (ByteArray.mk (#[]))), .full []]), .s 2 7 13]) (.seq (.ops [.L 14 2 7, .m 15 6, .mk (some 16) none (.nilCheck (.t 15)) (.onb 10), .mk (some 17) none (.fieldAddr 1 (.t 16)) (.onb 10), .mk (some 18) none (.load false 1 (.t 17)) (.onb 10), .i 19 (.bin .geq (.t 18) (.n 0)), .mk none none (.store 2 (.t 4) (.t 14)) (.onb 4), .m 5 19]) .ret))))
theorem MU : OkF Try.prog 49 20 [13, 10060010] Hn [.cell 4 true 2, .t 5] := .of Try.func49 rfl rfl (by kernel_rfl) rfl

theorem OW (a : ByteArray) : AT Try.prog 72 [Cb a] (Ad false) := by
 refine Fi.ac fun C hC => ?_
 unfold C8
 repeat' with_reducible first | refine W ?_ | refine Z0 ?_ | ((first | refine Wo fun K hK => ?_ | refine Wq ?_ | refine Wr ?_); (try simp only [go_sem, fN, seval, eT, iR]); (repeat refine Ai ?_); (try (refine hK _ ?_; clear hK K)))
 simp only [go_sem, fN, seval, AN, AS.result, AB, AD, AK]
theorem KD (a b : ByteArray) : AT Try.prog 65 [Cb a, Cb b] (AR (CZ a b)) := by
 refine Ex.ac fun C hC => ?_
 unfold Cd
 repeat' (first | (with_reducible first | refine W ?_ | refine Z0 ?_ | ((first | refine Wo fun K hK => ?_ | refine Wq ?_ | refine Wr ?_); (try simp only [go_sem, fN, seval, eT, iR]); (repeat refine Ai ?_); (try (refine hK _ ?_; clear hK K)))) | refine Cg _ (OW a) ?_ | refine Cg _ (OW b) ?_)
 with_reducible refine Wp ?_
 simp only [go_sem, fN, seval, true_implies, false_implies, implies_true, dT, dF, nL]
 (try with_reducible refine iC ?_)
 repeat' with_reducible first | refine W ?_ | refine Z0 ?_ | ((first | refine Wo fun K hK => ?_ | refine Wq ?_ | refine Wr ?_); (try simp only [go_sem, fN, seval, eT, iR]); (repeat refine Ai ?_); (try (refine hK _ ?_; clear hK K)))
 with_reducible refine Wp ?_
 simp only [go_sem, fN, seval, true_implies, false_implies, implies_true, dT, dF, nL]
 (try with_reducible refine iC ?_)
 repeat' with_reducible first | refine W ?_ | refine Z0 ?_ | ((first | refine Wo fun K hK => ?_ | refine Wq ?_ | refine Wr ?_); (try simp only [go_sem, fN, seval, eT, iR]); (repeat refine Ai ?_); (try (refine hK _ ?_; clear hK K)))
 unfold CZ
 cases h : sLt a b with
 | true =>
  with_reducible refine Wp ?_
  simp only [go_sem, fN, seval, true_implies, false_implies, implies_true, dT, dF, nL]
  (try with_reducible refine iC ?_)
  repeat' with_reducible first | refine W ?_ | refine Z0 ?_ | ((first | refine Wo fun K hK => ?_ | refine Wq ?_ | refine Wr ?_); (try simp only [go_sem, fN, seval, eT, iR]); (repeat refine Ai ?_); (try (refine hK _ ?_; clear hK K)))
  simp only [go_sem, fN, seval, AN, AS.result, AB, AD, AK]
 | false =>
  with_reducible refine Wp ?_
  simp only [go_sem, fN, seval, true_implies, false_implies, implies_true, dT, dF, nL]
  (try with_reducible refine iC ?_)
  by_cases he : a = b
  ·repeat' with_reducible first | refine W ?_ | refine Z0 ?_ | ((first | refine Wo fun K hK => ?_ | refine Wq ?_ | refine Wr ?_); (try simp only [go_sem, fN, seval, eT, iR, h, he, Bool.or_true, Bool.or_false]); (repeat refine Ai ?_); (try (refine hK _ ?_; clear hK K)))
   with_reducible refine Wp ?_
   simp only [go_sem, fN, seval, true_implies, false_implies, implies_true, dT, dF, nL, h, he, Bool.or_true, Bool.or_false]
   (try with_reducible refine iC ?_)
   repeat' with_reducible first | refine W ?_ | refine Z0 ?_ | ((first | refine Wo fun K hK => ?_ | refine Wq ?_ | refine Wr ?_); (try simp only [go_sem, fN, seval, eT, iR]); (repeat refine Ai ?_); (try (refine hK _ ?_; clear hK K)))
   simp only [go_sem, fN, seval, AN, AS.result, AB, AD, AK, h, he]
  ·repeat' with_reducible first | refine W ?_ | refine Z0 ?_ | ((first | refine Wo fun K hK => ?_ | refine Wq ?_ | refine Wr ?_); (try simp only [go_sem, fN, seval, eT, iR, h, he, Bool.or_true, Bool.or_false]); (repeat refine Ai ?_); (try (refine hK _ ?_; clear hK K)))
   with_reducible refine Wp ?_
   simp only [go_sem, fN, seval, true_implies, false_implies, implies_true, dT, dF, nL, h, he, Bool.or_true, Bool.or_false]
   (try with_reducible refine iC ?_)
   repeat' with_reducible first | refine W ?_ | refine Z0 ?_ | ((first | refine Wo fun K hK => ?_ | refine Wq ?_ | refine Wr ?_); (try simp only [go_sem, fN, seval, eT, iR]); (repeat refine Ai ?_); (try (refine hK _ ?_; clear hK K)))
   simp only [go_sem, fN, seval, AN, AS.result, AB, AD, AK, h, he]
theorem Sm (b : Bd) (n : ByteArray) : AT Try.prog 74 [aBd b, Cb n] (AR (CZ b.1 n)) := by
 refine IB.ac fun C hC => ?_
 unfold Ev
 repeat' (first | (with_reducible first | refine W ?_ | refine Z0 ?_ | ((first | refine Wo fun K hK => ?_ | refine Wq ?_ | refine Wr ?_); (try simp only [go_sem, fN, seval, eT, iR]); (repeat refine Ai ?_); (try (refine hK _ ?_; clear hK K)))) | refine Cg _ (KD b.1 n) ?_)
 simp only [go_sem, fN, seval, AN, AS.result, AB, AD, AK]
theorem CB {a b : ByteArray} : CZ a b < 0 ↔ sLt a b = true := by
 unfold CZ
 split
 ·rename_i h; simp [h]
 ·rename_i h
  split <;> simp [h]
theorem QJ {a b : ByteArray} : CZ a b = 0 ↔ a = b := by
 unfold CZ
 split
 ·rename_i h
  constructor
  ·intro h'; cases h'
  ·intro e; subst e; rw [BX] at h; cases h
 ·split <;> simp_all
def Dl (l : List Bd) (n : ByteArray) (i : Nat) : Bool := match l[i]? with
 | some b => decide (b.1 = n)
 | none => false
theorem Of (b : Bd) (n : ByteArray) (S : AA) : Aq Try.prog 74 [aBd b, Cb n] S (AR (CZ b.1 n)) S := (Sm b n).toS rfl
theorem Tt {i j : Nat} (h : i < j) : (((i : Int) + j).fdiv 2) = (((i + j) / 2 : Nat) : Int) ∧ i ≤ (i + j) / 2 ∧ (i + j) / 2 < j := by
 refine ⟨?_, by omega, by omega⟩
 rw [Int.fdiv_eq_ediv_of_nonneg _ (by omega)]
 omega
theorem R9 (n : Int) : inR .u64 n ↔ 0 ≤ n ∧ n ≤ 18446744073709551615 := by
 simp [inR, IntKind.min, IntKind.max, IntKind.signed, IntKind.bits]
theorem Q1 (l : List Bd) (h40 : l.length ≤ 100000) (ho : BM l) (n : ByteArray) :
  ∃ i : Nat, i ≤ l.length ∧ (∀ k b, l[k]? = some b → k < i → sLt b.1 n = true) ∧ (∀ k b, l[k]? = some b → i ≤ k → sLt b.1 n = false) ∧
   AT Try.prog 73 [Rh l, Cb n, .one (.fn 74 [])] (.tup [AR i, Ad (Dl l n i)]) := by
 obtain ⟨i0, hi0, hlo, hhi⟩ : ∃ i : Nat, i ≤ l.length ∧ (∀ k b, l[k]? = some b → k < i → sLt b.1 n = true) ∧ (∀ k b, l[k]? = some b → i ≤ k → sLt b.1 n = false) := by
  clear h40
  induction l with
  | nil => exact ⟨0, by simp, by simp, by simp⟩
  | cons c l ih =>
   obtain ⟨o1, o2⟩ := List.pairwise_cons.1 ho
   obtain ⟨i, q1, q2, q3⟩ := ih o2
   cases hc : sLt c.1 n with
   | true =>
    refine ⟨i + 1, by simp; omega, fun k b hk hki => ?_, fun k b hk hki => ?_⟩
    ·cases k with
     | zero => simp at hk; subst hk; exact hc
     | succ k => exact q2 k b (by simpa using hk) (by omega)
    ·cases k with
     | zero => omega
     | succ k => exact q3 k b (by simpa using hk) (by omega)
   | false =>
    refine ⟨0, by simp, fun k b hk hki => by omega, fun k b hk hki => ?_⟩
    cases k with
    | zero => simp at hk; subst hk; exact hc
    | succ k =>
     have hm := Ah (show l[k]? = some b by simpa using hk)
     cases hb : sLt b.1 n with
     | false => rfl
     | true => have := Cl (o1 b hm) hb; rw [hc] at this; cases this
 refine ⟨i0, hi0, hlo, hhi, ?_⟩
 have hplain : B0 Try.prog 74 = true := by kernel_rfl
 refine Az.ac fun C hC => ?_
 unfold Ag
 repeat' with_reducible first | refine W ?_ | refine Z0 ?_ | ((first | refine Wo fun K hK => ?_ | refine Wq ?_ | refine Wr ?_); (try simp only [go_sem, fN, seval, eT, iR]); (repeat refine Ai ?_); (try (refine hK _ ?_; clear hK K)))
 refine IWP.loop (fun m s => ∃ i j : Nat, i ≤ i0 ∧ i0 ≤ j ∧ j ≤ l.length ∧ m = j - i ∧ s.env 0 = Rh l ∧ s.env 1 = Cb n ∧ s.env 2 = .one (.fn 74 []) ∧ s.env 8 = AR l.length ∧ s.env 9 = AR i ∧ s.env 10 = AR j) l.length ⟨0, l.length, Nat.zero_le _, hi0, Nat.le_refl _, rfl, rfl, rfl, rfl, rfl, rfl, rfl⟩ ?_
 rintro m ⟨env, S⟩ ⟨i, j, hi, hj, hjl, rfl, e0, e1, e2, e8, e9, e10⟩
 simp only at e0 e1 e2 e8 e9 e10
 by_cases hlt : (i : Int) < j
 ·obtain ⟨z1, z2, z3⟩ := Tt (show i < j by omega)
  obtain ⟨b, hb⟩ := Ay (show (i + j) / 2 < l.length by omega)
  repeat' with_reducible first | refine W ?_ | refine Z0 ?_ | ((first | refine Wo fun K hK => ?_ | refine Wq ?_ | refine Wr ?_); (try simp only [go_sem, fN, seval, eT, iR, e0, e1, e2, e8, e9, e10, hlt]); (repeat refine Ai ?_); (try (refine hK _ ?_; clear hK K)))
  with_reducible refine Wp ?_
  simp only [go_sem, fN, seval, true_implies, false_implies, implies_true, dT, dF, nL, hlt]
  (try with_reducible refine iC ?_)
  have hbits : (1 : Nat) ≤ IntKind.u64.bits := by show 1 ≤ 64; omega
  repeat' with_reducible first | refine W ?_ | refine Z0 ?_ | ((first | refine Wo fun K hK => ?_ | refine Wq ?_ | refine Wr ?_); (try simp only [go_sem, fN, seval, eT, iR, e0, e1, e2, e8, e9, e10, hlt, z1, R9, hbits, hb, Ey, hplain]); (repeat refine Ai ?_); (try (refine hK _ ?_; clear hK K)))
  refine ⟨_, _, Of b n _, ?_⟩
  cases hc : sLt b.1 n with
  | true =>
   have hneg : CZ b.1 n < 0 := CB.2 hc
   repeat' with_reducible first | refine W ?_ | refine Z0 ?_ | ((first | refine Wo fun K hK => ?_ | refine Wq ?_ | refine Wr ?_); (try simp only [go_sem, fN, seval, eT, iR, hneg]); (repeat refine Ai ?_); (try (refine hK _ ?_; clear hK K)))
   with_reducible refine Wp ?_
   simp only [go_sem, fN, seval, true_implies, false_implies, implies_true, dT, dF, nL, hneg]
   (try with_reducible refine iC ?_)
   repeat' with_reducible first | refine W ?_ | refine Z0 ?_ | ((first | refine Wo fun K hK => ?_ | refine Wq ?_ | refine Wr ?_); (try simp only [go_sem, fN, seval, eT, iR, e0, e1, e2, e8, e9, e10]); (repeat refine Ai ?_); (try (refine hK _ ?_; clear hK K)))
   refine AO ⟨j - ((i + j) / 2 + 1), by omega, (i + j) / 2 + 1, j, ?_, hj, hjl, rfl, ?_⟩
   ·rcases Nat.lt_or_ge ((i + j) / 2) i0 with h | h
    ·omega
    ·rw [hhi _ b hb h] at hc; cases hc
   ·simp only [go_sem, fN, seval, eT, iR, e0, e1, e2, e8, e9, e10]
    congr 3
  | false =>
   have hneg : ¬ CZ b.1 n < 0 := fun h => by rw [CB.1 h] at hc; cases hc
   repeat' with_reducible first | refine W ?_ | refine Z0 ?_ | ((first | refine Wo fun K hK => ?_ | refine Wq ?_ | refine Wr ?_); (try simp only [go_sem, fN, seval, eT, iR, hneg]); (repeat refine Ai ?_); (try (refine hK _ ?_; clear hK K)))
   with_reducible refine Wp ?_
   simp only [go_sem, fN, seval, true_implies, false_implies, implies_true, dT, dF, nL, hneg]
   (try with_reducible refine iC ?_)
   repeat' with_reducible first | refine W ?_ | refine Z0 ?_ | ((first | refine Wo fun K hK => ?_ | refine Wq ?_ | refine Wr ?_); (try simp only [go_sem, fN, seval, eT, iR, e0, e1, e2, e8, e9, e10]); (repeat refine Ai ?_); (try (refine hK _ ?_; clear hK K)))
   refine AO ⟨(i + j) / 2 - i, by omega, i, (i + j) / 2, hi, ?_, by omega, rfl, ?_⟩
   ·rcases Nat.lt_or_ge ((i + j) / 2) i0 with h | h
    ·rw [hlo _ b hb h] at hc; cases hc
    ·omega
   ·simp only [go_sem, fN, seval, eT, iR, e0, e1, e2, e8, e9, e10]
 ·have hii : i = i0 := by omega
  subst hii
  have hjj : j = i := by omega
  subst hjj
  repeat' with_reducible first | refine W ?_ | refine Z0 ?_ | ((first | refine Wo fun K hK => ?_ | refine Wq ?_ | refine Wr ?_); (try simp only [go_sem, fN, seval, eT, iR, e0, e1, e2, e8, e9, e10, hlt]); (repeat refine Ai ?_); (try (refine hK _ ?_; clear hK K)))
  with_reducible refine Wp ?_
  simp only [go_sem, fN, seval, true_implies, false_implies, implies_true, dT, dF, nL, hlt]
  (try with_reducible refine iC ?_)
  by_cases hil : (j : Int) < l.length
  ·obtain ⟨b, hb⟩ := Ay (show j < l.length by omega)
   repeat' with_reducible first | refine W ?_ | refine Z0 ?_ | ((first | refine Wo fun K hK => ?_ | refine Wq ?_ | refine Wr ?_); (try simp only [go_sem, fN, seval, eT, iR, e0, e1, e2, e8, e9, e10, hil, hb, Ey, hplain]); (repeat refine Ai ?_); (try (refine hK _ ?_; clear hK K)))
   refine ⟨_, _, Of b n _, ?_⟩
   repeat' with_reducible first | refine W ?_ | refine Z0 ?_ | ((first | refine Wo fun K hK => ?_ | refine Wq ?_ | refine Wr ?_); (try simp only [go_sem, fN, seval, eT, iR]); (repeat refine Ai ?_); (try (refine hK _ ?_; clear hK K)))
   simp only [go_sem, fN, seval, AN, AS.result, AB, AD, AK]
   unfold Dl
   rw [hb]
   simp only [QJ]
  ·repeat' with_reducible first | refine W ?_ | refine Z0 ?_ | ((first | refine Wo fun K hK => ?_ | refine Wq ?_ | refine Wr ?_); (try simp only [go_sem, fN, seval, eT, iR, e0, e1, e2, e8, e9, e10, hil]); (repeat refine Ai ?_); (try (refine hK _ ?_; clear hK K)))
   simp only [go_sem, fN, seval, AN, AS.result, AB, AD, AK]
   unfold Dl
   rw [List.getElem?_eq_none (by omega)]
theorem Lk {l : List Bd} {n : ByteArray} {i : Nat} (hlo : ∀ k b, l[k]? = some b → k < i → sLt b.1 n = true) (hhi : ∀ k b, l[k]? = some b → i ≤ k → sLt b.1 n = false) (ho : BM l) :
  (∃ b, l[i]? = some b ∧ b.1 = n ∧ lookup l n = some b.2) ∨ (Dl l n i = false ∧ lookup l n = none) := by
 have hlow : ∀ c ∈ l.take i, c.1 ≠ n := fun c hc e => by
  obtain ⟨k, hk, rfl⟩ := List.getElem_of_mem hc
  rw [List.length_take] at hk
  have := hlo k l[k] (List.getElem?_eq_getElem (by omega)) (by omega)
  rw [List.getElem_take] at e
  rw [e, BX] at this
  cases this
 by_cases hil : i < l.length
 ·obtain ⟨b, hb⟩ := Ay hil
  by_cases he : b.1 = n
  ·exact .inl ⟨b, hb, he, MW hb he hlow⟩
  ·refine .inr ⟨by unfold Dl; rw [hb]; exact decide_eq_false he, DZ fun c hc e => ?_⟩
   obtain ⟨k, hk, rfl⟩ := List.getElem_of_mem hc
   have hck := List.getElem?_eq_getElem hk
   rcases Nat.lt_trichotomy k i with h | h | h
   ·have := hlo k _ hck h
    rw [e, BX] at this
    cases this
   ·subst h
    rw [hb] at hck
    cases hck
    exact he e
   ·have h1 := Md ho hb hck h
    rw [e, hhi i b hb (Nat.le_refl _)] at h1
    cases h1
 ·refine .inr ⟨by unfold Dl; rw [List.getElem?_eq_none (by omega)], DZ fun c hc => hlow c ?_⟩
  rw [List.take_of_length_le (by omega)]
  exact hc
theorem Rt (l : List Bd) (h40 : l.length ≤ 100000) (ho : BM l) (n : ByteArray) : AT Try.prog 66 [Rh l, Cb n] (.tup [aTm ((lookup l n).getD Tm.nil), Ad (lookup l n).isSome]) := by
 obtain ⟨i, hi, hlo, hhi, hs⟩ := Q1 l h40 ho n
 refine Jd.ac fun C hC => ?_
 unfold Fv
 repeat' with_reducible first | refine W ?_ | refine Z0 ?_ | ((first | refine Wo fun K hK => ?_ | refine Wq ?_ | refine Wr ?_); (try simp only [go_sem, fN, seval, eT, iR]); (repeat refine Ai ?_); (try (refine hK _ ?_; clear hK K)))
 refine ⟨_, hs, ?_⟩
 rcases Lk hlo hhi ho with ⟨b, hb, he, hl⟩ | ⟨hf, hl⟩
 ·have hf : Dl l n i = true := by unfold Dl; rw [hb]; exact decide_eq_true he
  repeat' with_reducible first | refine W ?_ | refine Z0 ?_ | ((first | refine Wo fun K hK => ?_ | refine Wq ?_ | refine Wr ?_); (try simp only [go_sem, fN, seval, eT, iR, hf]); (repeat refine Ai ?_); (try (refine hK _ ?_; clear hK K)))
  with_reducible refine Wp ?_
  simp only [go_sem, fN, seval, true_implies, false_implies, implies_true, dT, dF, nL, hf]
  (try with_reducible refine iC ?_)
  repeat' with_reducible first | refine W ?_ | refine Z0 ?_ | ((first | refine Wo fun K hK => ?_ | refine Wq ?_ | refine Wr ?_); (try simp only [go_sem, fN, seval, eT, iR, hb, Ey]); (repeat refine Ai ?_); (try (refine hK _ ?_; clear hK K)))
  simp only [go_sem, fN, seval, AN, AS.result, AB, AD, AK]
  rw [hl]
  rfl
 ·repeat' with_reducible first | refine W ?_ | refine Z0 ?_ | ((first | refine Wo fun K hK => ?_ | refine Wq ?_ | refine Wr ?_); (try simp only [go_sem, fN, seval, eT, iR, hf]); (repeat refine Ai ?_); (try (refine hK _ ?_; clear hK K)))
  with_reducible refine Wp ?_
  simp only [go_sem, fN, seval, true_implies, false_implies, implies_true, dT, dF, nL, hf]
  (try with_reducible refine iC ?_)
  repeat' with_reducible first | refine W ?_ | refine Z0 ?_ | ((first | refine Wo fun K hK => ?_ | refine Wq ?_ | refine Wr ?_); (try simp only [go_sem, fN, seval, eT, iR]); (repeat refine Ai ?_); (try (refine hK _ ?_; clear hK K)))
  simp only [go_sem, fN, seval, AN, AS.result, AB, AD, AK]
  rw [hl]
  rfl

def B1 (s : List Bd) (t : Tm) : Tm × Bool := if (t.on s).size ≤ 2000 then (t.on s, true) else (Tm.nil, false)

def Tm.atP : Tm → List Int → Option Tm
 | t, [] => some t
 | t, i :: p => if i < 0 then none else match t.args[i.toNat]? with
  | some a => a.atP p
  | none => none
def Tm.putP : Tm → List Int → Tm → Tm
 | t, [], x => x
 | t, i :: p, x => match t.args[i.toNat]? with
  | some a => .mk t.name (t.args.set i.toNat (a.putP p x))
  | none => t
theorem Tm.putP_nil (t x : Tm) : t.putP [] x = x := by cases t; rfl
theorem Tm.atP_cons (t : Tm) (i : Int) (p : List Int) : t.atP (i :: p) = if i < 0 then none else match t.args[i.toNat]? with
  | some a => a.atP p
  | none => none := by cases t; rfl
theorem Tm.putP_cons (t : Tm) (i : Int) (p : List Int) (x : Tm) : t.putP (i :: p) x = match t.args[i.toNat]? with
  | some a => .mk t.name (t.args.set i.toNat (a.putP p x))
  | none => t := by cases t; rfl
theorem Tm.atP_at {t a : Tm} {k : Nat} (h : t.args[k]? = some a) (p : List Int) : t.atP ((k : Int) :: p) = a.atP p := by
 rw [Tm.atP_cons, if_neg (by omega), Int.toNat_natCast, h]
theorem Tm.putP_at {t a : Tm} {k : Nat} (h : t.args[k]? = some a) (p : List Int) (x : Tm) : t.putP ((k : Int) :: p) x = .mk t.name (t.args.set k (a.putP p x)) := by
 rw [Tm.putP_cons, Int.toNat_natCast, h]
def PT (R : List Pr) (t : Tm) : Bool := R.any fun r => Bj r.1 t
def Bv (R : List Pr) (t : Tm) : List Pr → Option (Tm × Int)
 | [] => none
 | r :: l => if Bj r.1 t = true then (if (B1 (Ar r.1 t) r.2).2 = true then some ((B1 (Ar r.1 t) r.2).1, 0) else some (Tm.nil, 8)) else Bv R t l
def Fm (R : List Pr) (t : Tm) : Option (Tm × Int) := Bv R t R
theorem F4 (R : List Pr) (t : Tm) : ∀ l : List Pr, Bv R t l = none ↔ l.any (fun r => Bj r.1 t) = false
 | [] => by simp [Bv]
 | r :: l => by
  rw [Bv, List.any_cons, Bool.or_eq_false_iff, ← F4 R t l]
  by_cases h : Bj r.1 t = true
  ·rw [if_pos h, h]
   split <;> simp
  ·rw [if_neg h]
   simp only [Bool.not_eq_true] at h
   simp [h]
theorem NR {R : List Pr} {t : Tm} : Fm R t = none ↔ PT R t = false := F4 R t R
theorem HU {R : List Pr} {t x : Tm} {e : Int} : ∀ {l : List Pr}, Bv R t l = some (x, e) → (e = 0 ∨ e = 8) ∧ x.size ≤ 2000 ∧ (e = 8 → x = Tm.nil)
 | [], h => by cases h
 | r :: l, h => by
  rw [Bv] at h
  split at h
  ·split at h
   ·cases h
    refine ⟨.inl rfl, ?_, by simp⟩
    unfold B1
    split
    ·assumption
    ·decide
   ·cases h
    exact ⟨.inr rfl, by decide, fun _ => rfl⟩
  ·exact HU h
mutual
def Tm.inn (R : List Pr) : Tm → Option (Tm × Int)
 | .mk n xs => match Tm.innL R xs with
  | some (ys, e) => some (.mk n ys, e)
  | none => Fm R (.mk n xs)
def Tm.innL (R : List Pr) : List Tm → Option (List Tm × Int)
 | [] => none
 | x :: xs => match Tm.inn R x with
  | some (y, e) => some (y :: xs, e)
  | none => match Tm.innL R xs with
   | some (ys, e) => some (x :: ys, e)
   | none => none
end
mutual
def Tm.out (R : List Pr) : Tm → Option (Tm × Int)
 | .mk n xs => match Fm R (.mk n xs) with
  | some r => some r
  | none => match Tm.outL R xs with
   | some (ys, e) => some (.mk n ys, e)
   | none => none
def Tm.outL (R : List Pr) : List Tm → Option (List Tm × Int)
 | [] => none
 | x :: xs => match Tm.out R x with
  | some (y, e) => some (y :: xs, e)
  | none => match Tm.outL R xs with
   | some (ys, e) => some (x :: ys, e)
   | none => none
end
theorem Tm.inn_eq (R : List Pr) (t : Tm) : t.inn R = match Tm.innL R t.args with
  | some (ys, e) => some (.mk t.name ys, e)
  | none => Fm R t := by cases t; rfl
mutual
theorem Tm.inn_none (R : List Pr) : ∀ t : Tm, t.inn R = none ↔ t.knots.any (PT R) = false
 | .mk n xs => by
  rw [Tm.inn, Tm.knots, List.any_cons, Bool.or_eq_false_iff, ← Tm.innL_none R xs]
  cases Tm.innL R xs with
  | none => simp [NR]
  | some r => simp
theorem Tm.innL_none (R : List Pr) : ∀ xs : List Tm, Tm.innL R xs = none ↔ (Tm.knotsL xs).any (PT R) = false
 | [] => by simp [Tm.innL, Tm.knotsL]
 | x :: xs => by
  rw [Tm.innL, Tm.knotsL, List.any_append, Bool.or_eq_false_iff, ← Tm.innL_none R xs, ← Tm.inn_none R x]
  cases Tm.inn R x with
  | some r => simp
  | none => cases Tm.innL R xs <;> simp
end
def BV (step : Tm → Option (Tm × Int)) : Nat → Int → Tm → Tm × Int × Int
 | 0, n, t => match step t with
  | none => (t, n, 0)
  | some _ => (Tm.nil, 0, 9)
 | k + 1, n, t => match step t with
  | none => (t, n, 0)
  | some (x, e) => if e ≠ 0 then (Tm.nil, 0, e) else if 2000 < x.size then (Tm.nil, 0, 8) else BV step k (n + 1) x


theorem JY (y : ByteArray) : lookup [] y = none := rfl
theorem Dk (b : Bd) (l : List Bd) (y : ByteArray) : lookup (b :: l) y = if b.1 = y then some b.2 else lookup l y := by
 unfold lookup
 by_cases h : b.1 = y
 ·rw [List.find?_cons_of_pos (by simpa using h), if_pos h]; rfl
 ·rw [List.find?_cons_of_neg (by simpa using h), if_neg h]
theorem JF {l : List Bd} (hn : Cf l) {y : ByteArray} {x : Tm} : lookup l y = some x ↔ (y, x) ∈ l := by
 induction l with
 | nil => simp [JY]
 | cons b l ih =>
  obtain ⟨n1, n2⟩ := List.nodup_cons.1 (show ((b :: l).map fun c : Bd => c.1).Nodup from hn)
  rw [Dk, List.mem_cons]
  by_cases h : b.1 = y
  ·rw [if_pos h]
   constructor
   ·intro e
    cases e
    exact .inl (by rw [← h])
   ·rintro (e | e)
    ·rw [← e]
    ·exact absurd (List.mem_map.2 ⟨(y, x), e, rfl⟩) (by subst h; exact n1)
  ·rw [if_neg h, ih n2]
   constructor
   ·exact .inr
   ·rintro (e | e)
    ·exact absurd (by rw [← e]) h
    ·exact e
theorem Fl (y : ByteArray) (m : List Bd) : ∀ l : List Bd, lookup (l ++ m) y = match lookup l y with | some x => some x | none => lookup m y
 | [] => rfl
 | b :: l => by
  rw [List.cons_append, Dk, Dk, Fl y m l]
  by_cases h : b.1 = y
  ·rw [if_pos h, if_pos h]
  ·rw [if_neg h, if_neg h]
structure OkB (s : List Bd) : Prop where
 ord : BM s
 var : ∀ b ∈ s, AZ b.1 = true
 nam : ∀ b ∈ s, Aw b.1 = true
 chk : ∀ b ∈ s, b.2.chk = 0
theorem LC {t : Tm} (h : t.chk = 0) : B5 t = 0 := by
 rw [Tm.chk_eq] at h
 by_cases h1 : B5 t = 0
 ·exact h1
 ·rw [if_neg h1] at h; exact h
theorem M6 {n : ByteArray} {xs ys : List Tm} (h : (Tm.mk n xs).chk = 0) (hl : ys.length = xs.length) (hy : ∀ y ∈ ys, y.chk = 0) : (Tm.mk n ys).chk = 0 := by
 have h1 : B5 (Tm.mk n ys) = 0 := by
  have := LC h
  unfold B5 at this ⊢
  rw [Tm.name_mk, Tm.args_mk] at this ⊢
  rw [hl]; exact this
 rw [Tm.chk_eq, if_pos h1, Tm.args_mk]
 clear h h1 hl
 induction ys with
 | nil => rfl
 | cons x ys ih =>
  simp only [Tm.chkL]
  rw [if_pos (hy x (by simp))]
  exact ih fun y h => hy y (by simp [h])
theorem Ok {s : List Bd} (hs : ∀ b ∈ s, b.2.chk = 0) {t : Tm} (hc : t.chk = 0) : (t.on s).chk = 0 := by
 induction hN : SizeOf.sizeOf t using Nat.strongRecOn generalizing t with
 | _ N ih =>
 subst hN
 obtain ⟨c1, c2⟩ := Tm.chk_args hc
 by_cases hleaf : (∃ x, lookup s t.name = some x) ∧ t.args = []
 ·obtain ⟨⟨x, hx⟩, h0⟩ := hleaf
  rw [Tm.on_leaf hx h0]
  obtain ⟨b, hb, _, rfl⟩ := GE hx
  exact hs b hb
 ·have hon : t.on s = .mk t.name (t.args.map (Tm.on s)) := Tm.on_knot (by
   cases hl : lookup s t.name with
   | none => exact .inl rfl
   | some x => exact .inr fun h0 => hleaf ⟨⟨x, hl⟩, h0⟩)
  rw [hon]
  refine M6 (xs := t.args) (by cases t; exact hc) (by simp) fun y hy => ?_
  obtain ⟨c, hc', rfl⟩ := List.mem_map.1 hy
  exact ih _ (Tm.lt_of_arg hc') (c2 c hc') rfl
theorem Qc {s : List Bd} {M : Nat} (hM : 1 ≤ M) (hs : ∀ b ∈ s, b.2.size ≤ M) (t : Tm) : (t.on s).size ≤ t.size * M := by
 induction hN : SizeOf.sizeOf t using Nat.strongRecOn generalizing t with
 | _ N ih =>
 subst hN
 have hsz := Tm.size_eq t
 by_cases hleaf : (∃ x, lookup s t.name = some x) ∧ t.args = []
 ·obtain ⟨⟨x, hx⟩, h0⟩ := hleaf
  rw [Tm.on_leaf hx h0]
  obtain ⟨b, hb, _, rfl⟩ := GE hx
  have := hs b hb
  have h1 := Nat.mul_le_mul_right M (Tm.size_pos t)
  omega
 ·have hon : t.on s = .mk t.name (t.args.map (Tm.on s)) := Tm.on_knot (by
   cases hl : lookup s t.name with
   | none => exact .inl rfl
   | some x => exact .inr fun h0 => hleaf ⟨⟨x, hl⟩, h0⟩)
  have key : ∀ xs : List Tm, (∀ x ∈ xs, (x.on s).size ≤ x.size * M) → Tm.sizes (xs.map (Tm.on s)) ≤ Tm.sizes xs * M := by
   intro xs
   induction xs with
   | nil => intro _; simp [Tm.sizes]
   | cons x xs ih2 =>
    intro h
    have h1 := h x (by simp)
    have h2 := ih2 fun y hy => h y (by simp [hy])
    simp only [List.map_cons, Tm.sizes]
    rw [Nat.add_mul]
    omega
  have hk := key t.args fun x hx => ih _ (Tm.lt_of_arg hx) x rfl
  rw [hon]
  have e : (Tm.mk t.name (t.args.map (Tm.on s))).size = 1 + Tm.sizes (t.args.map (Tm.on s)) := rfl
  rw [e, hsz, Nat.add_mul]
  omega
theorem SF {s : List Bd} (hs : OkB s) {y : ByteArray} (h : AZ y = false) : lookup s y = none := DZ fun b hb e => by
 have := hs.var b hb
 rw [e, h] at this
 cases this
theorem TT {n : ByteArray} {xs : List Tm} {m : List Bd} (hn : AZ n = false) (hm : ∀ b ∈ m, AZ b.1 = true) : (Tm.mk n xs).on m = .mk n (xs.map (Tm.on m)) :=
 Tm.on_knot (t := .mk n xs) (.inl (DZ fun b hb e => by rw [Tm.name_mk] at e; have := hm b hb; rw [e, hn] at this; cases this))

def Hh (l m : List Bd) : Prop := ∀ n x, lookup l n = some x → lookup m n = some x
theorem Hh.trans {a b c : List Bd} (h : Hh a b) (k : Hh b c) : Hh a c := fun n x e => k n x (h n x e)
theorem Hz {l : List Bd} {b : Bd} {n : ByteArray} : lookup (l ++ [b]) n = match lookup l n with | some x => some x | none => if b.1 = n then some b.2 else none := by
 rw [Fl, Dk, JY]
 all_goals cases lookup l n <;> rfl
mutual
theorem Rq : ∀ (p t : Tm) (l : List Bd), Hh l (p.mt t l).1
 | .mk n xs, t, l => by
  rw [Tm.mt]
  split
  ·split
   ·exact fun _ _ h => h
   ·intro m x h
    rw [Hz, h]
  ·split
   ·exact La xs t.args l
   ·exact fun _ _ h => h
theorem La : ∀ (xs ys : List Tm) (l : List Bd), Hh l (Tm.mtL xs ys l).1
 | [], ys, l => by rw [Tm.mtL_nil]; exact fun _ _ h => h
 | x :: xs, [], l => by rw [Tm.mtL]; exact fun _ _ h => h; simp
 | x :: xs, y :: ys, l => by
  rw [Tm.mtL]
  split
  ·exact (Rq x y l).trans (La xs ys _)
  ·exact Rq x y l
end
mutual
theorem NM : ∀ (p : Tm), p.chk = 0 → ∀ (t : Tm) (l : List Bd), (p.mt t l).2 = true → ∀ m : List Bd, (∀ b ∈ m, AZ b.1 = true) → Hh (p.mt t l).1 m → p.on m = t
 | .mk n xs, hc, t, l, h, m, hm, hx => by
  obtain ⟨c1, c2⟩ := Tm.chk_args hc
  simp only [Tm.name_mk, Tm.args_mk] at c1 c2
  cases hv : AZ n with
  | true =>
   have h0 := c1 hv
   subst h0
   cases hl : lookup l n with
   | some x =>
    rw [Tm.mt_old (p := .mk n []) hv hl] at h hx
    rw [Tm.on_leaf (t := .mk n []) (hx n x hl) rfl]
    exact (Tm.beq_iff x t).1 h
   | none =>
    rw [Tm.mt_new (p := .mk n []) hv hl] at h hx
    exact Tm.on_leaf (t := .mk n []) (hx n t (by rw [Hz, hl]; simp [Tm.name_mk])) rfl
  | false =>
   by_cases hk : n = t.name ∧ xs.length = t.args.length
   ·rw [Tm.mt_knot (p := .mk n xs) hv hk.1 hk.2] at h hx
    rw [TT hv hm, KK xs c2 t.args l hk.2 h m hm hx]
    cases t
    rw [hk.1]
    rfl
   ·rw [Tm.mt_clash (p := .mk n xs) hv hk] at h
    cases h
theorem KK : ∀ (xs : List Tm), (∀ x ∈ xs, x.chk = 0) → ∀ (ys : List Tm) (l : List Bd), xs.length = ys.length → (Tm.mtL xs ys l).2 = true → ∀ m : List Bd, (∀ b ∈ m, AZ b.1 = true) → Hh (Tm.mtL xs ys l).1 m → xs.map (Tm.on m) = ys
 | [], _, [], l, _, _, m, _, _ => rfl
 | x :: xs, hc, y :: ys, l, hl, h, m, hm, hx => by
  rw [Tm.mtL] at h hx
  by_cases h1 : (x.mt y l).2 = true
  ·rw [if_pos h1] at h hx
   rw [List.map_cons, NM x (hc x (by simp)) y l h1 m hm ((La xs ys _).trans hx), KK xs (fun a ha => hc a (by simp [ha])) ys _ (by simpa using hl) h m hm hx]
  ·rw [if_neg h1] at h
   cases h
 | [], _, y :: ys, l, hl, _, m, _, _ => by simp at hl
 | x :: xs, _, [], l, hl, _, m, _, _ => by simp at hl
end
def OS (b : Bd) : Prop := AZ b.1 = true ∧ Aw b.1 = true ∧ b.2.chk = 0
theorem O7 {t : Tm} (h : t.chk = 0) : Aw t.name = true := by
 have := LC h
 unfold B5 at this
 split at this
 ·assumption
 ·cases this
mutual
theorem Oq : ∀ (p : Tm), p.chk = 0 → ∀ (t : Tm), t.chk = 0 → ∀ (l : List Bd), (∀ b ∈ l, OS b) → ∀ b ∈ (p.mt t l).1, OS b
 | .mk n xs, hc, t, ht, l, hl => by
  obtain ⟨c1, c2⟩ := Tm.chk_args hc
  simp only [Tm.name_mk, Tm.args_mk] at c1 c2
  rw [Tm.mt]
  split
  ·rename_i hv
   split
   ·exact hl
   ·intro b hb
    rcases List.mem_append.1 hb with hb | hb
    ·exact hl b hb
    ·rw [List.mem_singleton] at hb
     subst hb
     exact ⟨hv, O7 hc, ht⟩
  ·split
   ·exact Mx xs c2 t.args (Tm.chk_args ht).2 l hl
   ·exact hl
theorem Mx : ∀ (xs : List Tm), (∀ x ∈ xs, x.chk = 0) → ∀ (ys : List Tm), (∀ y ∈ ys, y.chk = 0) → ∀ (l : List Bd), (∀ b ∈ l, OS b) → ∀ b ∈ (Tm.mtL xs ys l).1, OS b
 | [], _, ys, _, l, hl => by rw [Tm.mtL_nil]; exact hl
 | x :: xs, _, [], _, l, hl => by rw [Tm.mtL]; exact hl; simp
 | x :: xs, hc, y :: ys, hy, l, hl => by
  rw [Tm.mtL]
  have h1 := Oq x (hc x (by simp)) y (hy y (by simp)) l hl
  split
  ·exact Mx xs (fun a ha => hc a (by simp [ha])) ys (fun a ha => hy a (by simp [ha])) _ h1
  ·exact h1
end
section
variable {p t : Tm}
theorem Sw (h : Bj p t = true) : Ar p t = Br (p.mt t []).1 := by
 unfold Ar
 rw [if_pos (show (p.mt t []).2 = true from h)]
theorem Gn (hp : p.chk = 0) (ht : t.chk = 0) : OkB (Ar p t) := by
 unfold Ar
 have hg := Oq p hp t ht [] (by simp)
 split
 ·exact ⟨Ct (Gf p t), fun b hb => (hg b (Dz.1 hb)).1, fun b hb => (hg b (Dz.1 hb)).2.1, fun b hb => (hg b (Dz.1 hb)).2.2⟩
 ·exact ⟨List.Pairwise.nil, by simp, by simp, by simp⟩
theorem O9 : ∀ b ∈ Ar p t, b.2.size ≤ t.size := fun b hb => by
 unfold Ar at hb
 split at hb
 ·exact Ou p t b (Dz.1 hb)
 ·simp at hb
theorem MA : (Ar p t).length ≤ p.size := by
 unfold Ar
 split
 ·rw [Bl]; exact Q2 p t
 ·simp
theorem Sa (hp : p.chk = 0) (ht : t.chk = 0) (h : Bj p t = true) : p.on (Ar p t) = t := by
 refine NM p hp t [] h _ (Gn hp ht).var fun n x hl => ?_
 rw [Sw h]
 exact (JF (EQ (Cq _).symm (Gf p t))).2 (Dz.2 ((JF (Gf p t)).1 hl))
end

def Dq {α : Type} (f : α → Int) : List α → Int
 | [] => 0
 | x :: xs => if f x = 0 then Dq f xs else f x
theorem FA {α : Type} (f : α → Int) : ∀ xs ys : List α, Dq f (xs ++ ys) = if Dq f xs = 0 then Dq f ys else Dq f xs
 | [], ys => rfl
 | x :: xs, ys => by
  by_cases h : f x = 0
  ·have e1 : Dq f (x :: (xs ++ ys)) = Dq f (xs ++ ys) := if_pos h
   have e2 : Dq f (x :: xs) = Dq f xs := if_pos h
   rw [List.cons_append, e1, e2, FA f xs ys]
  ·have e1 : Dq f (x :: (xs ++ ys)) = f x := if_neg h
   have e2 : Dq f (x :: xs) = f x := if_neg h
   rw [List.cons_append, e1, e2, if_neg h]
theorem Rl {α : Type} {f : α → Int} {xs : List α} {k : Nat} {a : α} (h : xs[k]? = some a) (h0 : Dq f (xs.take k) = 0) : (f a = 0 → Dq f (xs.take (k + 1)) = 0) ∧ (f a ≠ 0 → Dq f xs = f a) := by
 refine ⟨fun ha => ?_, fun ha => ?_⟩
 ·rw [A0 h, FA, if_pos h0]
  simp [Dq, ha]
 ·have e : xs = xs.take k ++ a :: xs.drop (k + 1) := by
   rw [← C0 h, List.take_append_drop]
  rw [e, FA, if_pos h0]
  simp [Dq, ha]
theorem Ko {α : Type} {f : α → Int} : ∀ {xs : List α}, Dq f xs = 0 → ∀ x ∈ xs, f x = 0
 | [], _, x, h => by cases h
 | y :: ys, h0, x, hx => by
  rw [Dq] at h0
  by_cases hy : f y = 0
  ·rw [if_pos hy] at h0
   rcases List.mem_cons.1 hx with rfl | hx
   ·exact hy
   ·exact Ko h0 x hx
  ·rw [if_neg hy] at h0
   exact absurd h0 hy
def JG (r : Pr) : Bool := r.2.varsOf.any fun v => !CI v r.1.varsOf
def FX (r : Pr) : Int := if CO r.1 r.2 = 0 then (if AZ r.1.name = true then 2 else if JG r = true then 15 else 0) else CO r.1 r.2
def By (R : List Pr) : Int := if 40 < R.length then 3 else Dq FX R
structure A_ (R : List Pr) : Prop where
 len : R.length ≤ 40
 left : ∀ r ∈ R, r.1.may = 0
 right : ∀ r ∈ R, r.2.may = 0
 head : ∀ r ∈ R, AZ r.1.name = false
 vars : ∀ r ∈ R, ∀ v ∈ r.2.varsOf, v ∈ r.1.varsOf
theorem Lj {r : Pr} (h : FX r = 0) : r.1.may = 0 ∧ r.2.may = 0 ∧ AZ r.1.name = false ∧ JG r = false := by
 unfold FX at h
 by_cases h1 : CO r.1 r.2 = 0
 ·rw [if_pos h1] at h
  by_cases h2 : AZ r.1.name = true
  ·rw [if_pos h2] at h; cases h
  ·rw [if_neg h2] at h
   by_cases h3 : JG r = true
   ·rw [if_pos h3] at h; cases h
   ·unfold CO at h1
    by_cases h4 : r.1.may = 0
    ·rw [if_pos h4] at h1
     exact ⟨h4, h1, by simpa using h2, by simpa using h3⟩
    ·rw [if_neg h4] at h1
     exact absurd h1 h4
 ·rw [if_neg h1] at h
  exact absurd h h1
theorem Ku {R : List Pr} (h : By R = 0) : A_ R := by
 unfold By at h
 by_cases h0 : 40 < R.length
 ·rw [if_pos h0] at h; cases h
 ·rw [if_neg h0] at h
  have key := fun r hr => Lj (Ko h r hr)
  refine ⟨by omega, fun r hr => (key r hr).1, fun r hr => (key r hr).2.1, fun r hr => (key r hr).2.2.1, fun r hr v hv => ?_⟩
  have := (key r hr).2.2.2
  unfold JG at this
  rw [List.any_eq_false] at this
  have := this v hv
  simp only [Bool.not_eq_true', Bool.not_eq_false] at this
  exact IW.1 this
def De (R : List Pr) (t : Tm) : Int := if By R = 0 then t.may else By R
def Db (t : Tm) : Nat → List Pr → Tm × Int × Int
 | _, [] => (Tm.nil, -1, 0)
 | k, r :: l => if Bj r.1 t = true then ((B1 (Ar r.1 t) r.2).1, (k : Int), if (B1 (Ar r.1 t) r.2).2 = true then 0 else 8) else Db t (k + 1) l
theorem Lx {s : List Bd} {t : Tm} (h : ¬ (B1 s t).2 = true) : (B1 s t).1 = Tm.nil := by
 unfold B1 at *
 split
 ·rename_i h1
  rw [if_pos h1] at h
  exact absurd rfl h
 ·rfl
theorem JI (R : List Pr) (t : Tm) : ∀ (l : List Pr) (k : Nat), match Bv R t l with
  | none => Db t k l = (Tm.nil, -1, 0)
  | some (x, e) => ∃ i : Nat, Db t k l = (x, (i : Int), e)
 | [], k => rfl
 | r :: l, k => by
  rw [Bv, Db]
  by_cases h : Bj r.1 t = true
  ·rw [if_pos h, if_pos h]
   by_cases h2 : (B1 (Ar r.1 t) r.2).2 = true
   ·rw [if_pos h2, if_pos h2]
    exact ⟨k, rfl⟩
   ·rw [if_neg h2, if_neg h2]
    exact ⟨k, by rw [Lx h2]⟩
  ·rw [if_neg h, if_neg h]
   exact JI R t l (k + 1)
theorem OV {R : List Pr} : ∀ {xs : List Tm} {k : Nat} {a y : Tm} {e : Int}, xs[k]? = some a → (∀ b ∈ xs.take k, b.inn R = none) → a.inn R = some (y, e) → Tm.innL R xs = some (xs.set k y, e)
 | [], k, a, y, e, h, _, _ => by simp at h
 | x :: xs, 0, a, y, e, h, _, hy => by
  simp at h
  subst h
  rw [Tm.innL, hy]
  rfl
 | x :: xs, k + 1, a, y, e, h, hn, hy => by
  rw [Tm.innL, hn x (by simp), OV (xs := xs) (k := k) (by simpa using h) (fun b hb => hn b (by rw [List.take_succ_cons]; exact List.mem_cons_of_mem _ hb)) hy]
  rfl
theorem Mq {R : List Pr} : ∀ {xs : List Tm}, (∀ b ∈ xs, b.inn R = none) → Tm.innL R xs = none
 | [], _ => rfl
 | x :: xs, h => by rw [Tm.innL, h x (by simp), Mq (fun b hb => h b (List.mem_cons_of_mem _ hb))]
theorem HA {R : List Pr} (hR : A_ R) {t x : Tm} {e : Int} (ht : t.chk = 0) : ∀ {l : List Pr}, (∀ r ∈ l, r ∈ R) → Bv R t l = some (x, e) → x.chk = 0 ∨ e = 8
 | [], _, h => by cases h
 | r :: l, hl, h => by
  rw [Bv] at h
  have hr := hl r (by simp)
  split at h
  ·rename_i hc
   split at h
   ·rename_i h2
    cases h
    left
    have e1 : (B1 (Ar r.1 t) r.2).1 = r.2.on (Ar r.1 t) := by
     unfold B1 at h2 ⊢
     split
     ·rfl
     ·rename_i h3
      rw [if_neg h3] at h2
      cases h2
    rw [e1]
    exact Ok (Gn (Tm.may_chk (hR.left r hr)).1 ht).chk (Tm.may_chk (hR.right r hr)).1
   ·cases h
    exact .inr rfl
  ·exact HA hR ht (fun r hr => hl r (List.mem_cons_of_mem _ hr)) h
theorem LF {n : ByteArray} {xs : List Tm} {k : Nat} {y : Tm} (h : (Tm.mk n xs).chk = 0) (hk : k < xs.length) (hy : y.chk = 0) : (Tm.mk n (xs.set k y)).chk = 0 := by
 refine M6 h (by simp) fun z hz => ?_
 rcases List.mem_or_eq_of_mem_set hz with hz | rfl
 ·exact (Tm.chk_args h).2 z hz
 ·exact hy
theorem D7 : ∀ {xs : List Tm} {k : Nat} {a : Tm} (y : Tm), xs[k]? = some a → Tm.sizes (xs.set k y) + a.size = Tm.sizes xs + y.size
 | [], k, a, y, h => by simp at h
 | x :: xs, 0, a, y, h => by
  simp at h
  subst h
  simp only [List.set_cons_zero, Tm.sizes]
  omega
 | x :: xs, k + 1, a, y, h => by
  have := D7 (xs := xs) (k := k) y (by simpa using h)
  simp only [List.set_cons_succ, Tm.sizes]
  omega
mutual
theorem Gz {R : List Pr} (hR : A_ R) : ∀ {t x : Tm} {e : Int}, t.chk = 0 → t.inn R = some (x, e) → (e = 0 ∨ e = 8) ∧ (e = 0 → x.chk = 0) ∧ x.size ≤ t.size + 2000
 | .mk n xs, x, e, hc, h => by
  rw [Tm.inn] at h
  split at h
  ·rename_i ys e' hy
   cases h
   obtain ⟨k, a, y, h1, h2, h3, h4, h5, h6⟩ := KJ (xs := xs) hR (fun b hb => (Tm.chk_args hc).2 b hb) hy
   subst h2
   have h7 := D7 y h1
   have hk := DD h1
   refine ⟨h4, fun he => LF hc hk (h5 he), ?_⟩
   have z1 : (Tm.mk n (xs.set k y)).size = 1 + Tm.sizes (xs.set k y) := rfl
   have z2 : (Tm.mk n xs).size = 1 + Tm.sizes xs := rfl
   omega
  ·obtain ⟨h1, h2, h3⟩ := HU h
   refine ⟨h1, fun he => (HA hR hc (fun r hr => hr) h).resolve_right (by omega), by omega⟩
theorem KJ {R : List Pr} (hR : A_ R) : ∀ {xs ys : List Tm} {e : Int}, (∀ b ∈ xs, b.chk = 0) → Tm.innL R xs = some (ys, e) → ∃ k a y, xs[k]? = some a ∧ ys = xs.set k y ∧ a.inn R = some (y, e) ∧ (e = 0 ∨ e = 8) ∧ (e = 0 → y.chk = 0) ∧ y.size ≤ a.size + 2000
 | [], ys, e, _, h => by cases h
 | x :: xs, ys, e, hc, h => by
  rw [Tm.innL] at h
  split at h
  ·rename_i y e' hy
   cases h
   obtain ⟨q1, q2, q3⟩ := Gz hR (hc x (by simp)) hy
   exact ⟨0, x, y, rfl, rfl, hy, q1, q2, q3⟩
  ·split at h
   ·rename_i ys' e' hy
    cases h
    obtain ⟨k, a, y, h1, h2, h3, h4⟩ := KJ hR (fun b hb => hc b (List.mem_cons_of_mem _ hb)) hy
    exact ⟨k + 1, a, y, by simpa using h1, by rw [h2]; rfl, h3, h4⟩
   ·cases h
end
mutual
theorem Mk {R : List Pr} (hR : A_ R) : ∀ {t x : Tm} {e : Int}, t.chk = 0 → t.out R = some (x, e) → (e = 0 ∨ e = 8) ∧ (e = 0 → x.chk = 0) ∧ x.size ≤ t.size + 2000
 | .mk n xs, x, e, hc, h => by
  rw [Tm.out] at h
  split at h
  ·rename_i r hr
   obtain ⟨x', e'⟩ := r
   cases h
   obtain ⟨h1, h2, h3⟩ := HU hr
   refine ⟨h1, fun he => (HA hR hc (fun r hr => hr) hr).resolve_right (by omega), by omega⟩
  ·split at h
   ·rename_i ys e' hy
    cases h
    obtain ⟨k, a, y, h1, h2, h3, h4, h5, h6⟩ := KB (xs := xs) hR (fun b hb => (Tm.chk_args hc).2 b hb) hy
    subst h2
    have h7 := D7 y h1
    have hk := DD h1
    refine ⟨h4, fun he => LF hc hk (h5 he), ?_⟩
    have z1 : (Tm.mk n (xs.set k y)).size = 1 + Tm.sizes (xs.set k y) := rfl
    have z2 : (Tm.mk n xs).size = 1 + Tm.sizes xs := rfl
    omega
   ·cases h
theorem KB {R : List Pr} (hR : A_ R) : ∀ {xs ys : List Tm} {e : Int}, (∀ b ∈ xs, b.chk = 0) → Tm.outL R xs = some (ys, e) → ∃ k a y, xs[k]? = some a ∧ ys = xs.set k y ∧ a.out R = some (y, e) ∧ (e = 0 ∨ e = 8) ∧ (e = 0 → y.chk = 0) ∧ y.size ≤ a.size + 2000
 | [], ys, e, _, h => by cases h
 | x :: xs, ys, e, hc, h => by
  rw [Tm.outL] at h
  split at h
  ·rename_i y e' hy
   cases h
   obtain ⟨q1, q2, q3⟩ := Mk hR (hc x (by simp)) hy
   exact ⟨0, x, y, rfl, rfl, hy, q1, q2, q3⟩
  ·split at h
   ·rename_i ys' e' hy
    cases h
    obtain ⟨k, a, y, h1, h2, h3, h4⟩ := KB hR (fun b hb => hc b (List.mem_cons_of_mem _ hb)) hy
    exact ⟨k + 1, a, y, by simpa using h1, by rw [h2]; rfl, h3, h4⟩
   ·cases h
end

mutual
theorem FP : ∀ (t : Tm) (p : List Int), p ∈ t.places → ∃ x, t.atP p = some x ∧ x ∈ t.knots
 | .mk n xs, p, h => by
  rw [Tm.places] at h
  rcases List.mem_cons.1 h with rfl | h
  ·exact ⟨_, rfl, by rw [Tm.knots]; exact List.mem_cons_self⟩
  ·obtain ⟨x, h1, h2⟩ := F2 n xs 0 xs p (by simp) h
   exact ⟨x, h1, by rw [Tm.knots]; exact List.mem_cons_of_mem _ h2⟩
theorem F2 (n : ByteArray) (all : List Tm) : ∀ (k : Nat) (xs : List Tm) (p : List Int), all.drop k = xs → p ∈ Tm.placesFrom k xs → ∃ x, (Tm.mk n all).atP p = some x ∧ x ∈ Tm.knotsL xs
 | _, [], p, _, h => by simp [Tm.placesFrom] at h
 | k, x :: xs, p, hd, h => by
  have hk : all[k]? = some x := by
   have := congrArg (fun l => l[0]?) hd
   simpa using this
  rw [Tm.placesFrom] at h
  rcases List.mem_append.1 h with h | h
  ·obtain ⟨q, hq, rfl⟩ := List.mem_map.1 h
   obtain ⟨y, h1, h2⟩ := FP x q hq
   exact ⟨y, by rw [Tm.atP_at (t := .mk n all) hk]; exact h1, by rw [Tm.knotsL]; exact List.mem_append_left _ h2⟩
  ·obtain ⟨y, h1, h2⟩ := F2 n all (k + 1) xs p (by rw [← List.tail_drop, hd]; rfl) h
   exact ⟨y, h1, by rw [Tm.knotsL]; exact List.mem_append_right _ h2⟩
end
mutual
theorem Gu : ∀ (t x : Tm), t.chk = 0 → x ∈ t.knots → x.chk = 0
 | .mk n xs, x, hc, h => by
  rw [Tm.knots] at h
  rcases List.mem_cons.1 h with rfl | h
  ·exact hc
  ·exact Kt xs x (fun b hb => (Tm.chk_args hc).2 b hb) h
theorem Kt : ∀ (xs : List Tm) (x : Tm), (∀ b ∈ xs, b.chk = 0) → x ∈ Tm.knotsL xs → x.chk = 0
 | [], x, _, h => by simp [Tm.knotsL] at h
 | y :: ys, x, hc, h => by
  rw [Tm.knotsL] at h
  rcases List.mem_append.1 h with h | h
  ·exact Gu y x (hc y (by simp)) h
  ·exact Kt ys x (fun b hb => hc b (List.mem_cons_of_mem _ hb)) h
end
mutual
theorem G5 : ∀ (t x : Tm), x ∈ t.knots → x.size ≤ t.size
 | .mk n xs, x, h => by
  rw [Tm.knots] at h
  rcases List.mem_cons.1 h with rfl | h
  ·exact Nat.le_refl _
  ·have := JU xs x h
   simp only [Tm.size]
   omega
theorem JU : ∀ (xs : List Tm) (x : Tm), x ∈ Tm.knotsL xs → x.size ≤ Tm.sizes xs
 | [], x, h => by simp [Tm.knotsL] at h
 | y :: ys, x, h => by
  rw [Tm.knotsL] at h
  simp only [Tm.sizes]
  rcases List.mem_append.1 h with h | h
  ·have := G5 y x h; omega
  ·have := JU ys x h; omega
end
def Oe (inner : Bool) (R : List Pr) (t : Tm) : Option (Tm × Int) := if inner = true then t.inn R else t.out R
theorem Ni {inner : Bool} {R : List Pr} (hR : A_ R) {t x : Tm} {e : Int} (hc : t.chk = 0) (h : Oe inner R t = some (x, e)) : (e = 0 ∨ e = 8) ∧ (e = 0 → x.chk = 0) ∧ x.size ≤ t.size + 2000 := by
 cases inner with
 | true => exact Gz hR hc h
 | false => exact Mk hR hc h
theorem L5 {step : Tm → Option (Tm × Int)} : ∀ (k : Nat) (n : Int) (t : Tm), (BV step k n t).2.2 ≠ 0 → BV step k n t = (Tm.nil, 0, (BV step k n t).2.2)
 | 0, n, t, h => by
  unfold BV at h ⊢
  split at h
  ·exact absurd rfl h
  ·rfl
 | k + 1, n, t, h => by
  rw [BV] at h ⊢
  split at h
  ·exact absurd rfl h
  ·rename_i x e hs
   by_cases he : e ≠ 0
   ·rw [if_pos he] at h ⊢
   ·rw [if_neg he] at h ⊢
    by_cases hz : 2000 < x.size
    ·rw [if_pos hz] at h ⊢
    ·rw [if_neg hz] at h ⊢
     exact L5 k (n + 1) x h
theorem Oj {inner : Bool} {R : List Pr} (hR : A_ R) : ∀ (k : Nat) (n : Int) (t : Tm), t.chk = 0 → (BV (Oe inner R) k n t).1.chk = 0 ∨ (BV (Oe inner R) k n t).2.2 ≠ 0
 | 0, n, t, hc => by
  unfold BV
  split
  ·exact .inl hc
  ·exact .inr (by decide)
 | k + 1, n, t, hc => by
  rw [BV]
  split
  ·exact .inl hc
  ·rename_i x e hs
   obtain ⟨h1, h2, h3⟩ := Ni hR hc hs
   by_cases he : e ≠ 0
   ·rw [if_pos he]
    exact .inr he
   ·rw [if_neg he]
    by_cases hz : 2000 < x.size
    ·rw [if_pos hz]
     exact .inr (by decide)
    ·rw [if_neg hz]
     exact Oj hR k (n + 1) x (h2 (by omega))

def BP : List (Tm × Nat) → Tm → Tm
 | [], x => x
 | (t, i) :: V, x => BP V (.mk t.name (t.args.set i x))
mutual
def Tm.visits : List (Tm × Nat) → Tm → List (List (Tm × Nat) × Tm)
 | V, .mk n xs => (V, .mk n xs) :: Tm.visitsL V (.mk n xs) 0 xs
def Tm.visitsL : List (Tm × Nat) → Tm → Nat → List Tm → List (List (Tm × Nat) × Tm)
 | _, _, _, [] => []
 | V, t, k, x :: xs => Tm.visits ((t, k) :: V) x ++ Tm.visitsL V t (k + 1) xs
end
theorem Tm.visits_eq (V : List (Tm × Nat)) (t : Tm) : t.visits V = (V, t) :: Tm.visitsL V t 0 t.args := by cases t; rfl
theorem Lg {V : List (Tm × Nat)} {t a : Tm} {k : Nat} {xs : List Tm} (h : xs[k]? = some a) : Tm.visitsL V t k (xs.drop k) = a.visits ((t, k) :: V) ++ Tm.visitsL V t (k + 1) (xs.drop (k + 1)) := by
 obtain ⟨hk, he⟩ := List.getElem?_eq_some_iff.1 h
 rw [List.drop_eq_getElem_cons hk, he, Tm.visitsL]
abbrev EX := (Tm → Tm) × Tm
def B8 (q : List (Tm × Nat) × Tm) : EX := (BP q.1, q.2)
def En (V : List (Tm × Nat)) (t : Tm) (p : List Int) : EX := (fun y => BP V (t.putP p y), (t.atP p).getD Tm.nil)
mutual
theorem CC : ∀ (t : Tm) (V : List (Tm × Nat)), (t.visits V).map B8 = t.places.map (En V t)
 | .mk n xs, V => by
  rw [Tm.visits, Tm.places, List.map_cons, List.map_cons, E8 n xs 0 xs V (by simp)]
  rfl
theorem E8 (n : ByteArray) (all : List Tm) : ∀ (k : Nat) (xs : List Tm) (V : List (Tm × Nat)), all.drop k = xs → (Tm.visitsL V (.mk n all) k xs).map B8 = (Tm.placesFrom k xs).map (En V (.mk n all))
 | _, [], _, _ => rfl
 | k, x :: xs, V, h => by
  have hk : all[k]? = some x := by
   have := congrArg (fun l => l[0]?) h
   simpa using this
  rw [Tm.visitsL, Tm.placesFrom, List.map_append, List.map_append, CC x, E8 n all (k + 1) xs V (by rw [← List.tail_drop, h]; rfl), List.map_map]
  congr 1
  refine List.map_congr_left fun p _ => ?_
  show (fun y => BP ((Tm.mk n all, k) :: V) (x.putP p y), (x.atP p).getD Tm.nil) = (fun y => BP V ((Tm.mk n all).putP ((k : Int) :: p) y), ((Tm.mk n all).atP ((k : Int) :: p)).getD Tm.nil)
  rw [Tm.atP_at (t := .mk n all) hk]
  congr 1
  funext y
  rw [Tm.putP_at (t := .mk n all) hk]
  rfl
end
def Bi (q : EX) : List Pr → Option (List Tm)
 | [] => some []
 | r :: l => if Bj r.1 q.2 = true then (if (B1 (Ar r.1 q.2) r.2).2 = true ∧ (q.1 (B1 (Ar r.1 q.2) r.2).1).size ≤ 2000 then (Bi q l).map (q.1 (B1 (Ar r.1 q.2) r.2).1 :: ·) else none) else Bi q l
def Ax (R : List Pr) : List EX → Option (List Tm)
 | [] => some []
 | q :: l => match Bi q R with
  | none => none
  | some a => (Ax R l).map (a ++ ·)
def Do (R : List Pr) (t : Tm) : Option (List Tm) := Ax R (t.places.map (En [] t))
theorem Jf (R : List Pr) (t : Tm) : Do R t = Ax R ((t.visits []).map B8) := by rw [CC]; rfl
theorem Dr (R : List Pr) : ∀ a b : List EX, Ax R (a ++ b) = match Ax R a with
  | none => none
  | some x => (Ax R b).map (x ++ ·)
 | [], b => by
  simp only [List.nil_append, Ax]
  cases Ax R b <;> simp
 | q :: a, b => by
  rw [List.cons_append, Ax, Ax, Dr R a b]
  cases Bi q R with
  | none => rfl
  | some x =>
   simp only
   cases Ax R a with
   | none => rfl
   | some y => cases Ax R b <;> simp
theorem MH {R : List Pr} {a : List EX} {q : EX} {x y : List Tm} (h : Ax R a = some x) (h2 : Bi q R = some y) : Ax R (a ++ [q]) = some (x ++ y) := by
 rw [Dr, h]
 simp [Ax, h2]
theorem NV {R : List Pr} {a b : List EX} {q : EX} (h2 : Bi q R = none) : Ax R (a ++ q :: b) = none := by
 rw [Dr, Ax, h2]
 cases Ax R a <;> rfl
theorem Kk (q : EX) : ∀ (l : List Pr) (k : Nat), (Db q.2 k l = (Tm.nil, -1, 0) ∧ Bi q l = some []) ∨
  ∃ (i : Nat) (y : Tm) (r : Pr), k ≤ i ∧ i < k + l.length ∧ r ∈ l ∧ Bj r.1 q.2 = true ∧ (B1 (Ar r.1 q.2) r.2).1 = y ∧ ((Db q.2 k l = (y, (i : Int), 0) ∧ (B1 (Ar r.1 q.2) r.2).2 = true ∧ Bi q l = if (q.1 y).size ≤ 2000 then (Bi q (l.drop (i + 1 - k))).map (q.1 y :: ·) else none) ∨ (Db q.2 k l = (Tm.nil, (i : Int), 8) ∧ Bi q l = none))
 | [], k => .inl ⟨rfl, rfl⟩
 | r :: l, k => by
  rw [Db, Bi]
  by_cases h : Bj r.1 q.2 = true
  ·rw [if_pos h, if_pos h]
   refine .inr ⟨k, _, r, Nat.le_refl k, by simp, by simp, h, rfl, ?_⟩
   by_cases h2 : (B1 (Ar r.1 q.2) r.2).2 = true
   ·refine .inl ⟨by rw [if_pos h2], h2, ?_⟩
    by_cases h3 : (q.1 (B1 (Ar r.1 q.2) r.2).1).size ≤ 2000
    ·rw [if_pos ⟨h2, h3⟩, if_pos h3, show k + 1 - k = 1 by omega]
     rfl
    ·rw [if_neg (fun h => h3 h.2), if_neg h3]
   ·exact .inr ⟨by rw [if_neg h2, Lx h2], by rw [if_neg (fun h => h2 h.1)]⟩
  ·rw [if_neg h, if_neg h]
   rcases Kk q l (k + 1) with ⟨h1, h3⟩ | ⟨i, y, r', h1, h2, hm, hc, hy, h3⟩
   ·exact .inl ⟨h1, h3⟩
   ·refine .inr ⟨i, y, r', by omega, by rw [List.length_cons]; omega, List.mem_cons_of_mem _ hm, hc, hy, ?_⟩
    rcases h3 with ⟨h3, h4, h5⟩ | h3
    ·refine .inl ⟨h3, h4, ?_⟩
     rw [h5, show i + 1 - k = (i + 1 - (k + 1)) + 1 by omega, List.drop_succ_cons]
    ·exact .inr h3
theorem Ps {s : List Bd} {t : Tm} : (B1 s t).1.size ≤ 2000 := by
 unfold B1
 split
 ·assumption
 ·decide
def KX : List (Tm × Nat) → Prop
 | [] => True
 | (t, i) :: V => i < t.args.length ∧ t.args.length ≤ 1000000 ∧ KX V
mutual
theorem KA : ∀ (t : Tm) (V : List (Tm × Nat)), KX V → t.size ≤ 1000000 → ∀ q ∈ t.visits V, KX q.1 ∧ q.2 ∈ t.knots
 | .mk n xs, V, hV, hz, q, hq => by
  rw [Tm.visits] at hq
  rw [Tm.knots]
  rcases List.mem_cons.1 hq with rfl | hq
  ·exact ⟨hV, List.mem_cons_self⟩
  ·have := Ja n xs 0 xs V (by simp) hV hz q hq
   exact ⟨this.1, List.mem_cons_of_mem _ this.2⟩
theorem Ja (n : ByteArray) (all : List Tm) : ∀ (k : Nat) (xs : List Tm) (V : List (Tm × Nat)), all.drop k = xs → KX V → (Tm.mk n all).size ≤ 1000000 → ∀ q ∈ Tm.visitsL V (.mk n all) k xs, KX q.1 ∧ q.2 ∈ Tm.knotsL xs
 | _, [], _, _, _, _, q, hq => by simp [Tm.visitsL] at hq
 | k, x :: xs, V, h, hV, hz, q, hq => by
  have hk : all[k]? = some x := by
   have := congrArg (fun l => l[0]?) h
   simpa using this
  have hlt : k < all.length := (List.getElem?_eq_some_iff.1 hk).1
  have hl := Tm.length_le all
  have hx := D7 x hk
  have hx2 : x.size ≤ Tm.sizes all := by
   have h2 := Tm.length_le all
   have : ∀ {l : List Tm}, x ∈ l → x.size ≤ Tm.sizes l := fun {l} hm => by
    induction l with
    | nil => cases hm
    | cons y ys ih =>
     simp only [Tm.sizes]
     rcases List.mem_cons.1 hm with rfl | hm
     ·omega
     ·have := ih hm
      omega
   exact this (List.mem_of_getElem? hk)
  simp only [Tm.size] at hz
  rw [Tm.visitsL] at hq
  rw [Tm.knotsL]
  rcases List.mem_append.1 hq with hq | hq
  ·have := KA x ((.mk n all, k) :: V) ⟨hlt, by show all.length ≤ _; omega, hV⟩ (by omega) q hq
   exact ⟨this.1, List.mem_append_left _ this.2⟩
  ·have := Ja n all (k + 1) xs V (by rw [← List.tail_drop, h]; rfl) hV (by simp only [Tm.size]; omega) q hq
   exact ⟨this.1, List.mem_append_right _ this.2⟩
end
theorem HF : ∀ (p : List Int) (t y : Tm), (t.putP p y).size ≤ t.size + y.size
 | [], t, y => by rw [Tm.putP_nil]; omega
 | i :: p, t, y => by
  rw [Tm.putP_cons]
  split
  ·rename_i a ha
   have h1 := D7 (a.putP p y) ha
   have h2 := HF p a y
   have h3 := Tm.size_eq t
   simp only [Tm.size]
   omega
  ·omega
theorem Mr {t : Tm} {q : List (Tm × Nat) × Tm} (hq : q ∈ t.visits []) (y : Tm) : (BP q.1 y).size ≤ t.size + y.size := by
 have h1 : B8 q ∈ (t.visits []).map B8 := List.mem_map_of_mem hq
 rw [CC] at h1
 obtain ⟨p, _, h2⟩ := List.mem_map.1 h1
 have h3 : BP q.1 = fun y => BP [] (t.putP p y) := (congrArg Prod.fst h2).symm
 rw [h3]
 exact HF p t y
theorem HQ {q : EX} : ∀ {l : List Pr} {a : List Tm}, Bi q l = some a → a.length ≤ l.length
 | [], a, h => by cases h; simp
 | r :: l, a, h => by
  rw [Bi] at h
  split at h
  ·split at h
   ·rw [Option.map_eq_some_iff] at h
    obtain ⟨b, h1, rfl⟩ := h
    have := HQ h1
    simp only [List.length_cons]
    omega
   ·cases h
  ·have := HQ h
   simp only [List.length_cons]
   omega
theorem F_ {R : List Pr} : ∀ {l : List EX} {a : List Tm}, Ax R l = some a → a.length ≤ l.length * R.length
 | [], a, h => by cases h; simp
 | q :: l, a, h => by
  rw [Ax] at h
  split at h
  ·cases h
  ·rename_i b hb
   rw [Option.map_eq_some_iff] at h
   obtain ⟨c, h1, rfl⟩ := h
   have h2 := HQ hb
   have h3 := F_ h1
   simp only [List.length_cons, List.length_append, Nat.add_mul]
   omega
theorem N4 (t : Tm) (V : List (Tm × Nat)) : (t.visits V).length = t.size := by
 have := congrArg List.length (CC t V)
 simp only [List.length_map] at this
 rw [this, Tm.places_length]

theorem J0 : ∀ (p : List Int) (t x : Tm), t.chk = 0 → x.chk = 0 → (t.putP p x).chk = 0
 | [], t, x, _, hx => by rw [Tm.putP_nil]; exact hx
 | i :: p, t, x, ht, hx => by
  rw [Tm.putP_cons]
  split
  ·rename_i a ha
   have hl := (List.getElem?_eq_some_iff.1 ha).1
   refine LF (n := t.name) (xs := t.args) (by cases t; exact ht) hl ?_
   exact J0 p a x ((Tm.chk_args ht).2 a (List.mem_of_getElem? ha)) hx
  ·exact ht
def Rf (q : EX) : Prop := q.2.chk = 0 ∧ ∀ y : Tm, y.chk = 0 → (q.1 y).chk = 0
theorem QD {s : List Bd} {t : Tm} (hs : OkB s) (ht : t.chk = 0) (h : (B1 s t).2 = true) : (B1 s t).1.chk = 0 := by
 unfold B1 at h ⊢
 split
 ·exact Ok hs.chk ht
 ·rename_i hn
  rw [if_neg hn] at h
  cases h
theorem Iw {q : EX} (hq : Rf q) : ∀ {l : List Pr} {a : List Tm}, (∀ r ∈ l, r.1.chk = 0 ∧ r.2.chk = 0) → Bi q l = some a → ∀ x ∈ a, x.chk = 0 ∧ x.size ≤ 2000
 | [], a, _, h, x, hx => by cases h; cases hx
 | r :: l, a, hl, h, x, hx => by
  rw [Bi] at h
  split at h
  ·split at h
   ·rename_i h1 h2
    rw [Option.map_eq_some_iff] at h
    obtain ⟨b, hb, rfl⟩ := h
    rcases List.mem_cons.1 hx with rfl | hx
    ·have hr := hl r (by simp)
     exact ⟨hq.2 _ (QD (Gn hr.1 hq.1) hr.2 h2.1), h2.2⟩
    ·exact Iw hq (fun r hr => hl r (by simp [hr])) hb x hx
   ·cases h
  ·exact Iw hq (fun r hr => hl r (by simp [hr])) h x hx
theorem K5 {R : List Pr} (hR : ∀ r ∈ R, r.1.chk = 0 ∧ r.2.chk = 0) : ∀ {l : List EX} {a : List Tm}, (∀ q ∈ l, Rf q) → Ax R l = some a → ∀ x ∈ a, x.chk = 0 ∧ x.size ≤ 2000
 | [], a, _, h, x, hx => by cases h; cases hx
 | q :: l, a, hq, h, x, hx => by
  rw [Ax] at h
  split at h
  ·cases h
  ·rename_i b hb
   rw [Option.map_eq_some_iff] at h
   obtain ⟨c, hc, rfl⟩ := h
   rcases List.mem_append.1 hx with hx | hx
   ·exact Iw (hq q (by simp)) hR hb x hx
   ·exact K5 hR (fun q h => hq q (by simp [h])) hc x hx
theorem PS {R : List Pr} (hR : A_ R) {t : Tm} (ht : t.chk = 0) {a : List Tm} (h : Do R t = some a) : ∀ x ∈ a, x.chk = 0 ∧ x.size ≤ 2000 := by
 refine K5 (fun r hr => ⟨(Tm.may_chk (hR.left r hr)).1, (Tm.may_chk (hR.right r hr)).1⟩) (fun q hq => ?_) h
 obtain ⟨p, hp, rfl⟩ := List.mem_map.1 hq
 obtain ⟨x, h1, h2⟩ := FP t p hp
 refine ⟨?_, fun y hy => J0 p t y ht hy⟩
 show ((t.atP p).getD Tm.nil).chk = 0
 rw [h1]
 exact Gu t x ht h2

def Ix : List ByteArray → ByteArray → Int → Int
 | [], _, _ => -1
 | x :: xs, s, i => if x = s then i else Ix xs s (i + 1)
def Bp (row : List ByteArray) (s : ByteArray) : Int := Ix row s 0
def D8 (x y : Int) : Int := if x < y then -1 else if y < x then 1 else 0
def BW (row : List ByteArray) (a b : Tm) : Int :=
 if D8 (Bp row a.name) (Bp row b.name) ≠ 0 then D8 (Bp row a.name) (Bp row b.name) else if CZ a.name b.name ≠ 0 then CZ a.name b.name else D8 a.args.length b.args.length
theorem Rv {x y : Int} : D8 x y < 0 ↔ x < y := by unfold D8; split <;> (try split) <;> omega
theorem MJ {x y : Int} : 0 < D8 x y ↔ y < x := by unfold D8; split <;> (try split) <;> omega
theorem D4 {x y : Int} : D8 x y = 0 ↔ x = y := by unfold D8; split <;> (try split) <;> omega
theorem SI {a b : ByteArray} : CZ a b < 0 ↔ sLt a b = true := by
 unfold CZ
 split
 ·rename_i h; simp [h]
 ·rename_i h
  split <;> simp [h]
theorem Lb {a b : ByteArray} : CZ a b = 0 ↔ a = b := by
 unfold CZ
 split
 ·rename_i h
  constructor
  ·intro h'; cases h'
  ·intro e; subst e; rw [BX] at h; cases h
 ·split <;> simp_all
theorem R7 {a b : ByteArray} : 0 < CZ a b ↔ sLt b a = true := by
 unfold CZ
 split
 ·rename_i h
  rw [KT h]
  simp
 ·rename_i h
  split
  ·rename_i e
   subst e
   rw [BX]
   simp
  ·rename_i e
   rcases EG a b with h1 | h1 | h1
   ·exact absurd h1 h
   ·exact absurd h1 e
   ·simp [h1]
theorem Qs {row : List ByteArray} {a b : Tm} : 0 < BW row a b ↔ Bp row b.name < Bp row a.name ∨ (Bp row a.name = Bp row b.name ∧ (sLt b.name a.name = true ∨ (a.name = b.name ∧ b.args.length < a.args.length))) := by
 unfold BW
 rcases Int.lt_trichotomy (Bp row a.name) (Bp row b.name) with h | h | h
 ·have h1 := Rv.2 h
  rw [if_pos (by omega)]
  constructor
  ·intro h2; omega
  ·intro h2; omega
 ·have h1 := D4.2 h
  rw [if_neg (by omega)]
  rcases EG a.name b.name with h2 | h2 | h2
  ·have h3 := SI.2 h2
   rw [if_pos (by omega)]
   constructor
   ·intro h4; omega
   ·rintro (h4 | ⟨_, h4 | ⟨h4, _⟩⟩)
    ·omega
    ·rw [KT h2] at h4; cases h4
    ·rw [h4, BX] at h2; cases h2
  ·have h3 := Lb.2 h2
   rw [if_neg (by omega), MJ]
   constructor
   ·intro h4; exact .inr ⟨h, .inr ⟨h2, by omega⟩⟩
   ·rintro (h4 | ⟨_, h4 | ⟨_, h4⟩⟩)
    ·omega
    ·rw [h2, BX] at h4; cases h4
    ·omega
  ·have h3 := R7.2 h2
   rw [if_pos (by omega)]
   exact ⟨fun _ => .inr ⟨h, .inl h2⟩, fun _ => h3⟩
 ·have h1 := MJ.2 h
  rw [if_pos (by omega)]
  exact ⟨fun _ => .inl h, fun _ => h1⟩
theorem DE {row : List ByteArray} {a b : Tm} : BW row a b = 0 ↔ a.name = b.name ∧ a.args.length = b.args.length := by
 unfold BW
 constructor
 ·intro h
  by_cases h1 : D8 (Bp row a.name) (Bp row b.name) ≠ 0
  ·rw [if_pos h1] at h; exact absurd h h1
  rw [if_neg h1] at h
  by_cases h2 : CZ a.name b.name ≠ 0
  ·rw [if_pos h2] at h; exact absurd h h2
  rw [if_neg h2, D4] at h
  exact ⟨Lb.1 (by omega), by omega⟩
 ·rintro ⟨h1, h2⟩
  rw [if_neg (by rw [h1, Classical.not_not]; exact D4.2 rfl), if_neg (by rw [Classical.not_not]; exact Lb.2 h1), h2]
  exact D4.2 rfl
theorem N3 {row : List ByteArray} {a b c : Tm} (h : 0 < BW row a b) (k : 0 < BW row b c) : 0 < BW row a c := by
 rw [Qs] at h k ⊢
 rcases h with h1 | ⟨h1, h2 | ⟨h2, h3⟩⟩ <;> rcases k with k1 | ⟨k1, k2 | ⟨k2, k3⟩⟩
 ·exact .inl (by omega)
 ·exact .inl (by omega)
 ·exact .inl (by omega)
 ·exact .inl (by omega)
 ·exact .inr ⟨by omega, .inl (Cl k2 h2)⟩
 ·exact .inr ⟨by omega, .inl (by rw [← k2]; exact h2)⟩
 ·exact .inl (by omega)
 ·exact .inr ⟨by omega, .inl (by rw [h2]; exact k2)⟩
 ·exact .inr ⟨by omega, .inr ⟨h2.trans k2, by omega⟩⟩
theorem GI {row : List ByteArray} {a a' b b' : Tm} (h1 : a.name = a'.name) (h2 : a.args.length = a'.args.length) (h3 : b.name = b'.name) (h4 : b.args.length = b'.args.length) : BW row a b = BW row a' b' := by
 unfold BW
 rw [h1, h2, h3, h4]
mutual
def Tm.occN (v : ByteArray) : Tm → Nat
 | .mk n xs => (if n = v then 1 else 0) + Tm.occNs v xs
def Tm.occNs (v : ByteArray) : List Tm → Nat
 | [] => 0
 | t :: ts => t.occN v + Tm.occNs v ts
end
def okV (a b : Tm) : Prop := ∀ v, AZ v = true → b.occN v ≤ a.occN v
theorem okV.trans {a b c : Tm} (h : okV a b) (k : okV b c) : okV a c := fun v hv => Nat.le_trans (k v hv) (h v hv)
inductive Lex (R : Tm → Tm → Prop) : List Tm → List Tm → Prop
 | here {x y xs ys} : x ≠ y → R x y → xs.length = ys.length → Lex R (x :: xs) (y :: ys)
 | on {x xs ys} : Lex R xs ys → Lex R (x :: xs) (x :: ys)
theorem Lex.len {R : Tm → Tm → Prop} {xs ys : List Tm} (h : Lex R xs ys) : xs.length = ys.length := by
 induction h with
 | here _ _ h => simp [h]
 | on _ ih => simp [ih]
theorem Lex.irrefl {R : Tm → Tm → Prop} : ∀ {xs : List Tm}, ¬ Lex R xs xs
 | [], h => by cases h
 | x :: xs, h => by
  cases h with
  | here h _ _ => exact h rfl
  | on h => exact Lex.irrefl h
theorem Lex.trans {R : Tm → Tm → Prop} : ∀ {xs ys zs : List Tm}, (∀ x ∈ xs, ∀ y ∈ ys, ∀ z ∈ zs, R x y → R y z → R x z ∧ x ≠ z) → Lex R xs ys → Lex R ys zs → Lex R xs zs := by
 intro xs ys zs ht h k
 induction h generalizing zs with
 | here hne hr hl =>
  cases k with
  | here hne2 hr2 hl2 =>
   obtain ⟨h1, h2⟩ := ht _ (by simp) _ (by simp) _ (by simp) hr hr2
   exact .here h2 h1 (hl.trans hl2)
  | on k => exact .here hne hr (hl.trans k.len)
 | on h ih =>
  cases k with
  | here hne2 hr2 hl2 => exact .here hne2 hr2 (h.len.trans hl2)
  | on k => exact .on (ih (fun x hx y hy z hz => ht x (by simp [hx]) y (by simp [hy]) z (by simp [hz])) k)
section
variable {s : List Bd} {a b : Tm} {row : List ByteArray}
theorem Lex.map {R : Tm → Tm → Prop} {f : Tm → Tm} : ∀ {xs ys : List Tm}, (∀ x ∈ xs, ∀ y ∈ ys, R x y → R (f x) (f y) ∧ f x ≠ f y) → Lex R xs ys → Lex R (xs.map f) (ys.map f) := by
 intro xs ys h k
 induction k with
 | here hne hr hl =>
  obtain ⟨h1, h2⟩ := h _ (by simp) _ (by simp) hr
  exact .here h2 h1 (by simp [hl])
 | on k ih => exact .on (ih fun x hx y hy => h x (by simp [hx]) y (by simp [hy]))
theorem Lex.at {R : Tm → Tm → Prop} {x y : Tm} (hne : x ≠ y) (h : R x y) : ∀ (xs ys : List Tm), Lex R (xs ++ x :: ys) (xs ++ y :: ys)
 | [], ys => .here hne h rfl
 | z :: xs, ys => .on (Lex.at hne h xs ys)
end

inductive Pa (row : List ByteArray) : Tm → Tm → Prop
 | is {a x : Tm} : AZ a.name = false → x ∈ a.args → Pa row a x
 | sub {a b x : Tm} : AZ a.name = false → x ∈ a.args → Pa row x b → Pa row a b
 | gt {a b : Tm} : AZ a.name = false → AZ b.name = false → 0 < BW row a b → (∀ y ∈ b.args, Pa row a y) → Pa row a b
 | lex {a b x y : Tm} {p xs ys : List Tm} : AZ a.name = false → AZ b.name = false → BW row a b = 0 → (∀ y ∈ b.args, Pa row a y) → a.args = p ++ x :: xs → b.args = p ++ y :: ys → x ≠ y → Pa row x y → Pa row a b
theorem Lex.split {R : Tm → Tm → Prop} {xs ys : List Tm} (h : Lex R xs ys) : ∃ p x y us vs, xs = p ++ x :: us ∧ ys = p ++ y :: vs ∧ x ≠ y ∧ R x y := by
 induction h with
 | here hne hr hl => exact ⟨[], _, _, _, _, rfl, rfl, hne, hr⟩
 | on k ih =>
  obtain ⟨p, x, y, us, vs, e1, e2, h1, h2⟩ := ih
  exact ⟨_ :: p, x, y, us, vs, by rw [e1]; rfl, by rw [e2]; rfl, h1, h2⟩
theorem Lex.at2 {R : Tm → Tm → Prop} {x y : Tm} (hne : x ≠ y) (h : R x y) {us vs : List Tm} (hl : us.length = vs.length) : ∀ p : List Tm, Lex R (p ++ x :: us) (p ++ y :: vs)
 | [] => .here hne h hl
 | z :: p => .on (Lex.at2 hne h hl p)
theorem Ee {row : List ByteArray} {a b : Tm} : Pa row a b ↔ AZ a.name = false ∧ ((∃ x ∈ a.args, x = b ∨ Pa row x b) ∨ (AZ b.name = false ∧ ¬ BW row a b < 0 ∧ (∀ y ∈ b.args, Pa row a y) ∧ (0 < BW row a b ∨ Lex (Pa row) a.args b.args))) := by
 constructor
 ·intro h
  cases h with
  | is h1 h2 => exact ⟨h1, .inl ⟨_, h2, .inl rfl⟩⟩
  | sub h1 h2 h3 => exact ⟨h1, .inl ⟨_, h2, .inr h3⟩⟩
  | gt h1 h2 h3 h4 => exact ⟨h1, .inr ⟨h2, by omega, h4, .inl h3⟩⟩
  | lex h1 h2 h3 h4 e1 e2 hne h5 =>
   refine ⟨h1, .inr ⟨h2, by omega, h4, .inr ?_⟩⟩
   have hl := (DE.1 h3).2
   rw [e1, e2] at hl ⊢
   exact Lex.at2 hne h5 (by simpa using hl) _
 ·rintro ⟨h1, ⟨x, hx, rfl | h⟩ | ⟨h2, h3, h4, h5⟩⟩
  ·exact .is h1 hx
  ·exact .sub h1 hx h
  ·by_cases h6 : 0 < BW row a b
   ·exact .gt h1 h2 h6 h4
   ·rcases h5 with h5 | h5
    ·exact absurd h5 h6
    ·obtain ⟨p, x, y, us, vs, e1, e2, hne, h7⟩ := h5.split
     exact .lex h1 h2 (by omega) h4 e1 e2 hne h7
variable {row : List ByteArray} {a b c : Tm}
theorem Pa.fn (h : Pa row a b) : AZ a.name = false := (Ee.1 h).1
theorem F6 (h : ¬ BW row a b < 0) (k : ¬ BW row b c < 0) : (0 < BW row a c) ∨ (BW row a b = 0 ∧ BW row b c = 0 ∧ BW row a c = 0) := by
 rcases Int.lt_trichotomy (BW row a b) 0 with h1 | h1 | h1
 ·exact absurd h1 h
 ·obtain ⟨e1, e2⟩ := DE.1 h1
  have e : BW row a c = BW row b c := GI e1 e2 rfl rfl
  rcases Int.lt_trichotomy (BW row b c) 0 with k1 | k1 | k1
  ·exact absurd k1 k
  ·exact .inr ⟨h1, k1, e.trans k1⟩
  ·exact .inl (by omega)
 ·rcases Int.lt_trichotomy (BW row b c) 0 with k1 | k1 | k1
  ·exact absurd k1 k
  ·obtain ⟨e1, e2⟩ := DE.1 k1
   have e : BW row a b = BW row a c := GI rfl rfl e1 e2
   exact .inl (by omega)
  ·exact .inl (N3 h1 k1)
theorem Tm.lt_args {x : Tm} (h : x ∈ a.args) : SizeOf.sizeOf x < SizeOf.sizeOf a := Tm.lt_of_arg h
theorem BG : ∀ N : Nat, ∀ a b c : Tm, SizeOf.sizeOf a + SizeOf.sizeOf b + SizeOf.sizeOf c < N → (Pa row a b → Pa row b c → Pa row a c) ∧ (a = c → Pa row a b → Pa row b c → False)
 | 0, _, _, _, h => absurd h (Nat.not_lt_zero _)
 | N + 1, a, b, c, hN => by
  have step : Pa row a b → Pa row b c → Pa row a c := fun h k => by
   have hv := h.fn
   have hw := k.fn
   obtain ⟨_, ⟨x, hx, hxb⟩ | ⟨_, hs, hall, hor⟩⟩ := Ee.1 h
   ·have hlt := Tm.lt_args hx
    rcases hxb with rfl | hxb
    ·exact .sub hv hx k
    ·exact .sub hv hx ((BG N x b c (by omega)).1 hxb k)
   ·obtain ⟨_, ⟨y, hy, hyc⟩ | ⟨hvc, ks, kall, kor⟩⟩ := Ee.1 k
    ·have hlt := Tm.lt_args hy
     rcases hyc with rfl | hyc
     ·exact hall y hy
     ·exact (BG N a y c (by omega)).1 (hall y hy) hyc
    ·have call : ∀ z ∈ c.args, Pa row a z := fun z hz => by
      have hlt := Tm.lt_args hz
      exact (BG N a b z (by omega)).1 h (kall z hz)
     rcases F6 hs ks with hg | ⟨z1, z2, z3⟩
     ·exact .gt hv hvc hg call
     ·rcases hor with hor | hor
      ·omega
      ·rcases kor with kor | kor
       ·omega
       ·refine Ee.2 ⟨hv, .inr ⟨hvc, by omega, call, .inr ?_⟩⟩
        refine Lex.trans (fun x hx y hy z hz h1 h2 => ?_) hor kor
        have l1 := Tm.lt_args hx
        have l2 := Tm.lt_args hy
        have l3 := Tm.lt_args hz
        have := BG N x y z (by omega)
        exact ⟨this.1 h1 h2, fun e => this.2 e h1 h2⟩
  refine ⟨step, fun e h k => ?_⟩
  subst e
  have hv := h.fn
  have haa := step h k
  obtain ⟨_, ⟨x, hx, hxb⟩ | ⟨_, hs, hall, hor⟩⟩ := Ee.1 h
  ·have hlt := Tm.lt_args hx
   rcases hxb with rfl | hxb
   ·obtain ⟨_, ⟨y, hy, hyc⟩ | ⟨_, ks, kall, kor⟩⟩ := Ee.1 k
    ·have hl2 := Tm.lt_args hy
     rcases hyc with rfl | hyc
     ·omega
     ·exact (BG N x y x (by omega)).2 rfl (.is k.fn hy) ((BG N y a x (by omega)).1 hyc (.is hv hx))
    ·exact (BG N x x x (by omega)).2 rfl (kall x hx) (kall x hx)
   ·have hxx : Pa row x a := (BG N x b a (by omega)).1 hxb k
    have := Tm.lt_args hx
    exact (BG N x b x (by omega)).2 rfl hxb ((BG N b a x (by omega)).1 k (.is hv hx))
  ·obtain ⟨_, ⟨y, hy, hyc⟩ | ⟨_, ks, kall, kor⟩⟩ := Ee.1 k
   ·have hl2 := Tm.lt_args hy
    rcases hyc with rfl | hyc
    ·exact (BG N y y y (by omega)).2 rfl (hall y hy) (hall y hy)
    ·exact (BG N a y a (by omega)).2 rfl (hall y hy) hyc
   ·rcases F6 hs ks with hg | ⟨z1, z2, z3⟩
    ·have := (DE (row := row) (a := a) (b := a)).2 ⟨rfl, rfl⟩
     omega
    ·rcases hor with hor | hor
     ·omega
     ·rcases kor with kor | kor
      ·omega
      ·refine absurd (Lex.trans (fun x hx y hy z hz h1 h2 => ?_) hor kor) Lex.irrefl
       have l1 := Tm.lt_args hx
       have l2 := Tm.lt_args hy
       have l3 := Tm.lt_args hz
       have := BG N x y z (by omega)
       exact ⟨this.1 h1 h2, fun e => this.2 e h1 h2⟩
theorem Q4 (h : Pa row a b) : ¬ Pa row b a := fun k => (BG _ a b a (Nat.lt_succ_self _)).2 rfl h k
theorem Kf (a : Tm) : ¬ Pa row a a := fun h => Q4 h h
theorem TI {n : ByteArray} (hn : AZ n = false) {xs : List Tm} {x : Tm} (h : x ∈ xs) : Pa row (.mk n xs) x := .is hn h
theorem TC {n : ByteArray} (hn : AZ n = false) (xs ys : List Tm) (h : Pa row a b) : Pa row (.mk n (xs ++ a :: ys)) (.mk n (xs ++ b :: ys)) := by
 have hne : a ≠ b := fun e => by subst e; exact Kf a h
 refine .lex hn hn (DE.2 ⟨rfl, by simp [Tm.args_mk]⟩) (fun y hy => ?_) rfl rfl hne h
 rw [Tm.args_mk, List.mem_append, List.mem_cons] at hy
 rcases hy with hy | rfl | hy
 ·exact .is hn (by rw [Tm.args_mk]; simp [hy])
 ·exact .sub hn (by rw [Tm.args_mk]; simp) h
 ·exact .is hn (by rw [Tm.args_mk]; simp [hy])
theorem Ot (row : List ByteArray) (a b : Tm) (s : List Bd) : BW row (.mk a.name (a.args.map (Tm.on s))) (.mk b.name (b.args.map (Tm.on s))) = BW row a b :=
 GI rfl (by rw [Tm.args_mk, List.length_map]) rfl (by rw [Tm.args_mk, List.length_map])
theorem Tj {s : List Bd} (hs : OkB s) (h : Pa row a b) : Pa row (a.on s) (b.on s) := by
 have hk : ∀ {t : Tm}, AZ t.name = false → t.on s = .mk t.name (t.args.map (Tm.on s)) := fun ht => Tm.on_knot (.inl (SF hs ht))
 induction h with
 | is h1 h2 =>
  rw [hk h1]
  exact .is h1 (by rw [Tm.args_mk]; exact List.mem_map_of_mem h2)
 | sub h1 h2 h3 ih =>
  rw [hk h1]
  exact .sub h1 (by rw [Tm.args_mk]; exact List.mem_map_of_mem h2) ih
 | @gt a b h1 h2 h3 h4 ih =>
  rw [hk h1] at ih ⊢
  rw [hk h2]
  refine .gt h1 h2 (by rw [Ot]; exact h3) (fun y hy => ?_)
  rw [Tm.args_mk] at hy
  obtain ⟨y0, hy0, rfl⟩ := List.mem_map.1 hy
  exact ih y0 hy0
 | @lex a b x y p xs ys h1 h2 h3 h4 e1 e2 hne h5 ih ih2 =>
  rw [hk h1] at ih ⊢
  rw [hk h2]
  refine .lex (p := p.map (Tm.on s)) (xs := xs.map (Tm.on s)) (ys := ys.map (Tm.on s)) h1 h2 ((Ot row a b s).trans h3) (fun y hy => ?_) (by rw [Tm.args_mk, e1]; simp) (by rw [Tm.args_mk, e2]; simp) (fun e => ?_) ih2
  ·rw [Tm.args_mk] at hy
   obtain ⟨y0, hy0, rfl⟩ := List.mem_map.1 hy
   exact ih y0 hy0
  ·rw [e] at ih2
   exact Kf _ ih2

open Classical in
noncomputable def paB (row : List ByteArray) (a b : Tm) : Bool := decide (Pa row a b)
theorem Cu {row : List ByteArray} {a b : Tm} : paB row a b = true ↔ Pa row a b := by unfold paB; simp
theorem GB {row : List ByteArray} {a b : Tm} : paB row a b = false ↔ ¬ Pa row a b := by unfold paB; simp
theorem Sv {row : List ByteArray} {a b : Tm} (h : AZ a.name = true) : paB row a b = false := GB.2 fun k => by have := k.fn; rw [h] at this; cases this
theorem O0 {row : List ByteArray} {a b x : Tm} (h : AZ a.name = false) (hx : x ∈ a.args) (k : x = b ∨ paB row x b = true) : paB row a b = true :=
 Cu.2 (Ee.2 ⟨h, .inl ⟨x, hx, k.imp id Cu.1⟩⟩)
theorem Ig {row : List ByteArray} {a b : Tm} (h : AZ a.name = false) (hno : ∀ x ∈ a.args, x ≠ b ∧ paB row x b = false) : Pa row a b ↔ (AZ b.name = false ∧ ¬ BW row a b < 0 ∧ (∀ y ∈ b.args, Pa row a y) ∧ (0 < BW row a b ∨ Lex (Pa row) a.args b.args)) := by
 rw [Ee]
 constructor
 ·rintro ⟨_, ⟨x, hx, e | k⟩ | h⟩
  ·exact absurd e (hno x hx).1
  ·exact absurd k (GB.1 (hno x hx).2)
  ·exact h
 ·exact fun k => ⟨h, .inr k⟩
theorem In {row : List ByteArray} {a b : Tm} (h : AZ a.name = false) (hno : ∀ x ∈ a.args, x ≠ b ∧ paB row x b = false) (hs : AZ b.name = true ∨ BW row a b < 0 ∨ ∃ y ∈ b.args, paB row a y = false) : paB row a b = false := by
 rw [GB, Ig h hno]
 rintro ⟨h1, h2, h3, _⟩
 rcases hs with hs | hs | ⟨y, hy, k⟩
 ·rw [h1] at hs; cases hs
 ·exact h2 hs
 ·exact GB.1 k (h3 y hy)
theorem TZ {row : List ByteArray} {a b : Tm} (h : AZ a.name = false) (hb : AZ b.name = false) (hs : 0 < BW row a b) (hall : ∀ y ∈ b.args, paB row a y = true) : paB row a b = true :=
 Cu.2 (.gt h hb hs fun y hy => Cu.1 (hall y hy))
theorem Lex.tail {R : Tm → Tm → Prop} : ∀ {xs ys : List Tm} {x y : Tm}, x ≠ y → Lex R (x :: xs) (y :: ys) → R x y
 | _, _, _, _, hne, .here _ h _ => h
 | _, _, _, _, hne, .on _ => absurd rfl hne
theorem Lex.same {R : Tm → Tm → Prop} : ∀ {xs ys : List Tm} {x : Tm}, Lex R (x :: xs) (x :: ys) → Lex R xs ys
 | _, _, _, .here hne _ _ => absurd rfl hne
 | _, _, _, .on h => h
theorem Lex.first {R : Tm → Tm → Prop} {x y : Tm} {us vs : List Tm} (hne : x ≠ y) : ∀ {p q : List Tm}, p = q → Lex R (p ++ x :: us) (q ++ y :: vs) → R x y
 | [], _, rfl, h => Lex.tail hne h
 | z :: p, _, rfl, h => Lex.first hne rfl (Lex.same h)
theorem FF {xs : List Tm} {k : Nat} {x : Tm} (h : xs[k]? = some x) : xs = xs.take k ++ x :: xs.drop (k + 1) := by
 have hm : k < xs.length := (List.getElem?_eq_some_iff.1 h).1
 have h1 := (List.getElem?_eq_some_iff.1 h).2
 conv => lhs; rw [← List.take_append_drop k xs, List.drop_eq_getElem_cons hm, h1]
theorem QM {row : List ByteArray} {a b x y : Tm} {k : Nat} (h : AZ a.name = false) (hb : AZ b.name = false) (hno : ∀ x ∈ a.args, x ≠ b ∧ paB row x b = false) (hs : BW row a b = 0) (hall : ∀ y ∈ b.args, paB row a y = true) (hp : a.args.take k = b.args.take k) (hx : a.args[k]? = some x) (hy : b.args[k]? = some y) (hne : x ≠ y) : paB row a b = paB row x y := by
 cases hxy : paB row x y with
 | true => exact Cu.2 (.lex h hb hs (fun y hy => Cu.1 (hall y hy)) (FF hx) ((FF hy).trans (by rw [hp])) hne (Cu.1 hxy))
 | false =>
  rw [GB, Ig h hno]
  rintro ⟨_, _, _, k1 | k1⟩
  ·omega
  ·refine GB.1 hxy ?_
   rw [FF hx, FF hy] at k1
   exact Lex.first hne hp k1
theorem RS {row : List ByteArray} {a b : Tm} (h : AZ a.name = false) (hno : ∀ x ∈ a.args, x ≠ b ∧ paB row x b = false) (hs : BW row a b = 0) (he : a.args = b.args) : paB row a b = false := by
 rw [GB, Ig h hno]
 rintro ⟨_, _, _, k1 | k1⟩
 ·omega
 ·rw [he] at k1
  exact Lex.irrefl k1

theorem Sq {t : Tm} (h : t.chk = 0) (ha : 0 < t.args.length) : AZ t.name = false := by
 rw [Tm.chk_eq] at h
 cases hv : AZ t.name with
 | false => rfl
 | true =>
  split at h
  ·rename_i h0
   unfold B5 at h0
   split at h0
   ·rw [if_pos ⟨hv, ha⟩] at h0
    cases h0
   ·cases h0
  ·rename_i h0
   exact absurd h h0
theorem Qz {row : List ByteArray} {a b : Tm} (hab : Pa row a b) : ∀ (p : List Int) (t : Tm), t.chk = 0 → t.atP p = some a → Pa row t (t.putP p b)
 | [], t, _, h => by
  have : t = a := by cases t; simpa [Tm.atP] using h
  rw [Tm.putP_nil, this]
  exact hab
 | i :: p, t, hc, h => by
  rw [Tm.atP_cons] at h
  split at h
  ·cases h
  ·split at h
   ·rename_i x hx
    rw [Tm.putP_cons, hx]
    simp only
    have hl := (List.getElem?_eq_some_iff.1 hx).1
    have ih := Qz hab p x ((Tm.chk_args hc).2 x (List.mem_of_getElem? hx)) h
    have e1 := FF hx
    have e2 : t.args.set i.toNat (x.putP p b) = t.args.take i.toNat ++ x.putP p b :: t.args.drop (i.toNat + 1) := by
     rw [List.set_eq_take_append_cons_drop, if_pos hl]
    have hk := TC (n := t.name) (Sq hc (by omega)) (t.args.take i.toNat) (t.args.drop (i.toNat + 1)) ih
    rw [e2]
    rw [← e1] at hk
    cases t with
    | mk n xs => exact hk
   ·cases h
theorem HH {row : List ByteArray} {t : Tm} (ht : t.chk = 0) {p : List Int} {y : Tm} (hy : t.atP p = some y) (hyc : y.chk = 0) : ∀ {l : List Pr} {a : List Tm}, (∀ r ∈ l, r.1.chk = 0 ∧ Pa row r.1 r.2) → Bi (En [] t p) l = some a → ∀ x ∈ a, Pa row t x
 | [], a, _, h, x, hx => by cases h; cases hx
 | r :: l, a, hl, h, x, hx => by
  have hs : (En [] t p).2 = y := by show (t.atP p).getD Tm.nil = y; rw [hy]; rfl
  rw [Bi, hs] at h
  split at h
  ·rename_i hcase
   split at h
   ·rename_i h2
    rw [Option.map_eq_some_iff] at h
    obtain ⟨b, hb, rfl⟩ := h
    rcases List.mem_cons.1 hx with rfl | hx
    ·obtain ⟨hr, hp⟩ := hl r (by simp)
     have hon : (B1 (Ar r.1 y) r.2).1 = r.2.on (Ar r.1 y) := by
      have := h2.1
      unfold B1 at this ⊢
      split
      ·rfl
      ·rename_i hn
       rw [if_neg hn] at this
       cases this
     have h1 := Tj (Gn hr hyc) hp
     rw [Sa hr hyc hcase] at h1
     show Pa row t (t.putP p (B1 (Ar r.1 y) r.2).1)
     rw [hon]
     exact Qz h1 p t ht hy
    ·exact HH ht hy hyc (fun r hr => hl r (by simp [hr])) hb x hx
   ·cases h
  ·exact HH ht hy hyc (fun r hr => hl r (by simp [hr])) h x hx
theorem H1 {row : List ByteArray} {R : List Pr} (hR : ∀ r ∈ R, r.1.chk = 0 ∧ Pa row r.1 r.2) {t : Tm} (ht : t.chk = 0) : ∀ {l : List (List Int)} {a : List Tm}, (∀ p ∈ l, p ∈ t.places) → Ax R (l.map (En [] t)) = some a → ∀ x ∈ a, Pa row t x
 | [], a, _, h, x, hx => by cases h; cases hx
 | p :: l, a, hp, h, x, hx => by
  rw [List.map_cons, Ax] at h
  split at h
  ·cases h
  ·rename_i b hb
   rw [Option.map_eq_some_iff] at h
   obtain ⟨c, hc, rfl⟩ := h
   rcases List.mem_append.1 hx with hx | hx
   ·obtain ⟨y, h1, h2⟩ := FP t p (hp p (by simp))
    exact HH ht h1 (Gu t y ht h2) hR hb x hx
   ·exact H1 hR ht (fun q h => hp q (by simp [h])) hc x hx
theorem Np {row : List ByteArray} {R : List Pr} (hR : ∀ r ∈ R, r.1.chk = 0 ∧ Pa row r.1 r.2) {t : Tm} (ht : t.chk = 0) {a : List Tm} (h : Do R t = some a) : ∀ x ∈ a, Pa row t x := H1 hR ht (fun _ h => h) h
theorem J3 {q : EX} : ∀ {l : List Pr}, l.any (fun r => Bj r.1 q.2) = false → Bi q l = some []
 | [], _ => rfl
 | r :: l, h => by
  rw [List.any_cons, Bool.or_eq_false_iff] at h
  rw [Bi, if_neg (by rw [h.1]; decide)]
  exact J3 h.2
theorem Kj {q : EX} : ∀ {l : List Pr} {a : List Tm}, Bi q l = some a → l.any (fun r => Bj r.1 q.2) = true → a ≠ []
 | [], a, _, h => by cases h
 | r :: l, a, h, hany => by
  rw [Bi] at h
  split at h
  ·split at h
   ·rw [Option.map_eq_some_iff] at h
    obtain ⟨b, hb, rfl⟩ := h
    simp
   ·cases h
  ·rename_i hn
   rw [List.any_cons] at hany
   have : Bj r.1 q.2 = false := by simpa using hn
   rw [this, Bool.false_or] at hany
   exact Kj h hany
theorem JC {R : List Pr} : ∀ {l : List EX}, (∀ q ∈ l, PT R q.2 = false) → Ax R l = some []
 | [], _ => rfl
 | q :: l, h => by
  rw [Ax, J3 (h q (by simp)), JC fun q hq => h q (by simp [hq])]
  rfl
theorem Hj {R : List Pr} : ∀ {l : List EX} {a : List Tm}, Ax R l = some a → (∃ q ∈ l, PT R q.2 = true) → a ≠ []
 | [], a, _, h => by obtain ⟨q, hq, _⟩ := h; cases hq
 | q :: l, a, h, hex => by
  rw [Ax] at h
  split at h
  ·cases h
  ·rename_i b hb
   rw [Option.map_eq_some_iff] at h
   obtain ⟨c, hc, rfl⟩ := h
   obtain ⟨q', hq', hf⟩ := hex
   rcases List.mem_cons.1 hq' with rfl | hq'
   ·have := Kj hb hf
    intro e
    exact this (List.append_eq_nil_iff.1 e).1
   ·have := Hj hc ⟨q', hq', hf⟩
    intro e
    exact this (List.append_eq_nil_iff.1 e).2
mutual
theorem Gx : ∀ (t : Tm) (V : List (Tm × Nat)), (t.visits V).map (fun q => q.2) = t.knots
 | .mk n xs, V => by
  rw [Tm.visits, Tm.knots, List.map_cons, F0]
theorem F0 : ∀ (xs : List Tm) (V : List (Tm × Nat)) (t : Tm) (k : Nat), (Tm.visitsL V t k xs).map (fun q => q.2) = Tm.knotsL xs
 | [], V, t, k => rfl
 | x :: xs, V, t, k => by
  rw [Tm.visitsL, Tm.knotsL, List.map_append, Gx x, F0 xs]
end
theorem Hv (t : Tm) : (t.places.map (En [] t)).map (·.2) = t.knots := by
 have h := congrArg (List.map Prod.snd) (CC t [])
 rw [List.map_map] at h
 have h1 : ∀ (t : Tm) (V : List (Tm × Nat)), (t.visits V).map (fun q => q.2) = t.knots := fun t => Gx t
 rw [show (Prod.snd ∘ B8) = (fun q : List (Tm × Nat) × Tm => q.2) from rfl, h1] at h
 exact h.symm
theorem Iz {R : List Pr} {t : Tm} (h : t.inn R = none) : Do R t = some [] := by
 rw [Tm.inn_none, List.any_eq_false] at h
 refine JC fun q hq => ?_
 have : q.2 ∈ t.knots := by rw [← Hv]; exact List.mem_map_of_mem hq
 simpa using h q.2 this
theorem OH {R : List Pr} {t : Tm} {a : List Tm} (h : t.inn R ≠ none) (hs : Do R t = some a) : a ≠ [] := by
 refine Hj hs ?_
 cases hk : t.knots.any (PT R) with
 | false => exact absurd ((Tm.inn_none R t).2 hk) h
 | true =>
  obtain ⟨x, hx, hf⟩ := List.any_eq_true.1 hk
  rw [← Hv] at hx
  obtain ⟨q, hq, rfl⟩ := List.mem_map.1 hx
  exact ⟨q, hq, hf⟩
theorem KU {step : Tm → Option (Tm × Int)} : ∀ (k : Nat) (n : Int) (t : Tm), (BV step k n t).2.2 = 0 → step (BV step k n t).1 = none ∧ ((BV step k n t).2.1 = n ∧ step t = none ∨ n < (BV step k n t).2.1 ∧ step t ≠ none)
 | 0, n, t, h => by
  rw [BV] at h ⊢
  split
  ·rename_i hs
   exact ⟨hs, .inl ⟨rfl, hs⟩⟩
  ·rename_i hs
   rw [hs] at h
   cases h
 | k + 1, n, t, h => by
  rw [BV] at h ⊢
  split
  ·rename_i hs
   exact ⟨hs, .inl ⟨rfl, hs⟩⟩
  ·rename_i x e hs
   rw [hs] at h
   simp only at h
   split
   ·rename_i he
    rw [if_pos he] at h
    exact absurd h he
   ·rename_i he
    rw [if_neg he] at h
    split
    ·rename_i hz
     rw [if_pos hz] at h
     cases h
    ·rename_i hz
     rw [if_neg hz] at h
     obtain ⟨h1, h2⟩ := KU k (n + 1) x h
     refine ⟨h1, .inr ⟨?_, by rw [hs]; simp⟩⟩
     rcases h2 with ⟨h2, _⟩ | ⟨h2, _⟩ <;> omega
theorem Jz {R : List Pr} (hR : A_ R) : ∀ (k : Nat) (n : Int) (t : Tm), t.chk = 0 → (BV (Tm.inn R) k n t).2.2 = 0 ∨ (BV (Tm.inn R) k n t).2.2 = 8 ∨ (BV (Tm.inn R) k n t).2.2 = 9
 | 0, n, t, hc => by
  rw [BV]
  cases h : Tm.inn R t with
  | none => exact .inl rfl
  | some y => exact .inr (.inr rfl)
 | k + 1, n, t, hc => by
  rw [BV]
  cases h : Tm.inn R t with
  | none => exact .inl rfl
  | some y =>
   obtain ⟨x, e⟩ := y
   obtain ⟨h1, h2, h3⟩ := Gz hR hc h
   simp only
   by_cases he : e = 0
   ·rw [if_neg (by simpa using he)]
    split
    ·exact .inr (.inl rfl)
    ·exact Jz hR k _ x (h2 he)
   ·rw [if_pos he]
    rcases h1 with h1 | h1
    ·exact .inl h1
    ·exact .inr (.inl h1)
theorem I3 {step : Tm → Option (Tm × Int)} : ∀ (k : Nat) (n : Int) (t : Tm), (BV step k n t).1.size ≤ max 2000 t.size
 | 0, n, t => by
  rw [BV]
  split
  ·exact Nat.le_max_right _ _
  ·show Tm.nil.size ≤ _
   exact Nat.le_trans (by decide) (Nat.le_max_left _ _)
 | k + 1, n, t => by
  have hn : Tm.nil.size ≤ max 2000 t.size := Nat.le_trans (by decide) (Nat.le_max_left _ _)
  rw [BV]
  split
  ·exact Nat.le_max_right _ _
  ·rename_i x e hs
   split
   ·exact hn
   ·split
    ·exact hn
    ·have := I3 (step := step) k (n + 1) x
     omega
theorem Sh {s : List Bd} {t : Tm} (h : (t.on s).size ≤ 2000) : B1 s t = (t.on s, true) := by unfold B1; rw [if_pos h]
theorem I2 {t : Tm} (ht : t.chk = 0) (hz : t.size ≤ 19) {p : List Int} {y : Tm} (hy : t.atP p = some y) (hyz : y.size ≤ 19) : ∀ {l : List Pr}, (∀ r ∈ l, r.2.size ≤ 7) → ∃ a, Bi (En [] t p) l = some a ∧ ∀ x ∈ a, x.size ≤ 152
 | [], _ => ⟨[], rfl, by simp⟩
 | r :: l, hl => by
  have hs : (En [] t p).2 = y := by show (t.atP p).getD Tm.nil = y; rw [hy]; rfl
  obtain ⟨b, hb, hbz⟩ := I2 ht hz hy hyz (l := l) fun r' hr => hl r' (by simp [hr])
  rw [Bi, hs]
  by_cases hc : Bj r.1 y = true
  ·rw [if_pos hc]
   have h7 := hl r (by simp)
   have h1 : (r.2.on (Ar r.1 y)).size ≤ r.2.size * 19 := Qc (by omega) (fun b hb => by have := O9 b hb; omega) r.2
   rw [Sh (by omega)]
   have h2 := HF p t (r.2.on (Ar r.1 y))
   have h3 : ((En [] t p).1 (r.2.on (Ar r.1 y))).size ≤ 152 := by
    show (t.putP p (r.2.on (Ar r.1 y))).size ≤ 152
    omega
   simp only
   rw [if_pos ⟨trivial, by omega⟩, hb]
   exact ⟨_, rfl, fun x hx => by
    rcases List.mem_cons.1 hx with rfl | hx
    ·exact h3
    ·exact hbz x hx⟩
  ·rw [if_neg hc]
   exact ⟨b, hb, hbz⟩
theorem N7 : ∀ (t x : Tm), x ∈ t.knots → x.size ≤ t.size := fun t x h => G5 t x h
theorem GZ {R : List Pr} (hR : ∀ r ∈ R, r.2.size ≤ 7) {t : Tm} (ht : t.chk = 0) (hz : t.size ≤ 19) : ∀ {l : List (List Int)}, (∀ p ∈ l, p ∈ t.places) → ∃ a, Ax R (l.map (En [] t)) = some a ∧ ∀ x ∈ a, x.size ≤ 152
 | [], _ => ⟨[], rfl, by simp⟩
 | p :: l, hp => by
  obtain ⟨c, hc, hcz⟩ := GZ hR ht hz (l := l) fun q h => hp q (by simp [h])
  obtain ⟨y, h1, h2⟩ := FP t p (hp p (by simp))
  obtain ⟨b, hb, hbz⟩ := I2 ht hz h1 (by have := N7 t y h2; omega) hR
  rw [List.map_cons, Ax, hb]
  simp only
  rw [hc]
  exact ⟨_, rfl, fun x hx => by
   rcases List.mem_append.1 hx with hx | hx
   ·exact hbz x hx
   ·exact hcz x hx⟩
theorem Mf {R : List Pr} (hR : ∀ r ∈ R, r.2.size ≤ 7) {t : Tm} (ht : t.chk = 0) (hz : t.size ≤ 19) : ∃ a, Do R t = some a ∧ ∀ x ∈ a, x.size ≤ 152 := GZ hR ht hz fun _ h => h

theorem Ac.memoWeak {C : Ctx} {s : AS} {id : Nat} {f f' : List SV → List SV → SV → Prop} (hS : s.S id = some (.memo f)) (hf : ∀ cs ds x, f cs ds x → f' cs ds x) : Ac C s (s.set id (.memo f')) := fun a w ⟨σ, ι, R⟩ => by
 have hb := R.blk _ _ hS
 cases hb with
 | @memo _ g ents h1 h2 h3 h4 =>
  obtain ⟨hu, R'⟩ := R.turn (w' := w) hS (.memo f') (ι id) (σ' := σ) (fun _ _ h => h) (fun _ _ _ => rfl) R.fit (Nat.le_refl _) (fun _ => ⟨rfl, rfl⟩) ⟨rfl, rfl, rfl⟩ (Nat.le_refl _) (fun _ _ _ => rfl) (fun g h => .inl h) (fun hu => .memo h1 h2 (h3.weak hf) h4)
  exact ⟨σ, _, R'⟩
theorem Ac.freeze {C : Ctx} {s : AS} (id : Nat) (ts : List Nat) {ty : TypeId} {xs : List SV} (hS : s.S id = some (.box ty (xs.map .st))) (hl : 0 < xs.length) (ht : ∀ t ∈ ts, s.env t = .one (.ptr id 1 0 0)) :
  Ac C s ⟨fun t => if t ∈ ts then .one (.eptr xs) else s.env t, AG s.S id (some (.dead 1 0))⟩ := fun a w ⟨σ, ι, R⟩ => by
 have hb := R.blk _ _ hS
 cases hb with
 | @box _ _ g vs h1 h2 h3 h4 h5 =>
  have hkeep := ED (σ := σ) (w' := w) (g := g) (k := xs.length) (fun p x e hx => by rw [h5 _ e] at hx; cases hx)
  obtain ⟨hu, R'⟩ := R.turn (w' := w) hS (.dead 1 0) (ι id) (σ' := DO σ w g xs.length) hkeep (fun p hp _ => EL (fun e => hp (by rw [e]; exact h1))) (DP R.fit) (Nat.le_refl _) (fun _ => ⟨rfl, rfl⟩) ⟨rfl, rfl, rfl⟩ (Nat.le_refl _) (fun _ _ _ => rfl) (fun g h => .inl h)
   (fun hu => .dead fun g' hg' => by rw [h1] at hg'; cases hg'; exact ⟨_, h3, rfl⟩)
  refine ⟨_, _, R'.size, fun i hi => ?_, R'.nod, R'.fit, R'.blk, R'.inj, R'.base, R'.ext, R'.old, R'.os, R'.grown, R'.same, R'.upd⟩
  show AM _ _ _ _ (if i ∈ ts then .one (.eptr xs) else s.env i)
  split
  ·rename_i hm
   have re := R.env i hi
   rw [ht i hm] at re
   obtain ⟨b, q1, q2, q3⟩ := Dv (AQ re)
   rw [hS] at q1
   cases q1
   obtain ⟨g', e1, e2⟩ := q3 rfl
   rw [h1] at e1
   cases e1
   rw [e2]
   have cell : ∀ j x, xs[j]? = some x → ∃ v, vs[j]? = some v ∧ Ak σ v x := fun j x hx => by
    obtain ⟨v, v1, v2⟩ := h4.get (j := j) (b := .st x) (by rw [List.getElem?_map, hx]; rfl)
    exact ⟨v, by simpa using v1, CP v2⟩
   refine .one (.eptr (fun j => (vs[j]?).getD undef) (fun j x hx => ?_) (fun j x hx => ?_) (fun _ _ => ?_))
   ·obtain ⟨v, v1, v2⟩ := cell j x hx
    have hj := (List.getElem?_eq_some_iff.1 hx).1
    rw [show (0 * (AJ.box ty (xs.map AC.st)).wid + 0 + j) = j by omega, IM hj, cell_of_row w g _ _ _ _ h3, v1]
    rfl
   ·obtain ⟨v, v1, v2⟩ := cell j x hx
    rw [v1]
    exact v2.mono hkeep
   ·rw [FY hl, D9 h3]
  ·exact R'.env i hi

def Bn : IR :=
 (.seq (.ops [.i 6 (.mov (.c (.one (.st (.bool false)))))]) (.seq (.seq (.ops [.m 11 1, .i 12 (.nilCheck (.t 11)), .f 13 1 12, .l 14 13, .i 15 (.len false (.t 14)), .i 16 (.mov (.n 0))]) (.block 0 (.loop (.seq (.ops [.i 17 (.bin .lss (.t 16) (.t 15))]) (.seq (.cond (.t 17) .skip (.exit 0)) (.seq (.block 1 (.seq (.ops [.m 18 16, .m 7 18]) (.seq (.ops [.m 19 1, .i 20 (.nilCheck (.t 19)), .f 21 1 20, .l 22 21, .m 23 7, .i 24 (.indexAddr 2 (.t 22) (.t 23)), .L 25 2 24, .m 26 2, .i 27 (.nilCheck (.t 26)), .L 28 2 27, .i 29 (.call 61 [.t 25, .t 28]), .m 30 29, .mk (some 31) (some (30, false)) (.mov (.t 0)) .no, .mk (some 32) (some (30, false)) (.mov (.t 1)) .no, .mk (some 33) (some (30, false)) (.nilCheck (.t 32)) .no, .mk (some 34) (some (30, false)) (.fieldAddr 1 (.t 33)) .no, .mk (some 35) (some (30, false)) (.load false 1 (.t 34)) .no, .mk (some 36) (some (30, false)) (.mov (.t 7)) .no, .mk (some 37) (some (30, false)) (.indexAddr 2 (.t 35) (.t 36)) .no, .mk (some 38) (some (30, false)) (.mov (.t 2)) .no, .mk (some 39) (some (30, false)) (.callR 34 [.t 31, .t 37, .t 38]) .no, .i 40 (.pick (.t 30) (.c (.one (.st (.bool true)))) (.t 39))]) (.cond (.t 40) (.seq (.ops [.i 6 (.mov (.c (.one (.st (.bool true)))))]) .ret) .skip)))) (.ops [.i 41 (.bin .add (.t 16) (.n 1)), .m 16 41]))))))) (.seq (.seq (.ops [.m 42 2, .i 43 (.nilCheck (.t 42)), .f 44 0 43, .l 45 44, .i 46 (.call 39 [.t 45])]) (.cond (.t 46) (.seq (.ops [.i 6 (.mov (.c (.one (.st (.bool false)))))]) .ret) .skip)) (.seq (.ops [.m 47 0, .i 48 (.nilCheck (.t 47)), .f 49 0 48, .l 50 49, .m 51 1, .i 52 (.nilCheck (.t 51)), .L 53 2 52, .m 54 2, .i 55 (.nilCheck (.t 54)), .L 56 2 55, .i 57 (.call 62 [.t 50, .t 53, .t 56]), .m 8 57]) (.seq (.seq (.ops [.m 58 8, .i 59 (.bin .lss (.t 58) (.n 0))]) (.cond (.t 59) (.seq (.ops [.i 6 (.mov (.c (.one (.st (.bool false)))))]) .ret) .skip)) (.seq (.seq (.ops [.m 60 2, .i 61 (.nilCheck (.t 60)), .f 62 1 61, .l 63 62, .i 64 (.len false (.t 63)), .i 65 (.mov (.n 0))]) (.block 2 (.loop (.seq (.ops [.i 66 (.bin .lss (.t 65) (.t 64))]) (.seq (.cond (.t 66) .skip (.exit 2)) (.seq (.block 3 (.seq (.ops [.m 67 65, .m 9 67]) (.seq (.ops [.m 68 0, .m 69 1, .m 70 2, .i 71 (.nilCheck (.t 70)), .f 72 1 71, .l 73 72, .m 74 9, .i 75 (.indexAddr 2 (.t 73) (.t 74)), .i 76 (.callR 34 [.t 68, .t 69, .t 75]), .i 77 (.un .not (.t 76))]) (.cond (.t 77) (.seq (.ops [.i 6 (.mov (.c (.one (.st (.bool false)))))]) .ret) .skip)))) (.ops [.i 78 (.bin .add (.t 65) (.n 1)), .m 65 78]))))))) (.seq (.seq (.ops [.m 79 8, .i 80 (.bin .gtr (.t 79) (.n 0))]) (.cond (.t 80) (.seq (.ops [.i 6 (.mov (.c (.one (.st (.bool true)))))]) .ret) .skip)) (.seq (.seq (.ops [.m 81 1, .i 82 (.nilCheck (.t 81)), .f 83 1 82, .l 84 83, .i 85 (.len false (.t 84)), .i 86 (.mov (.n 0))]) (.block 4 (.loop (.seq (.ops [.i 87 (.bin .lss (.t 86) (.t 85))]) (.seq (.cond (.t 87) .skip (.exit 4)) (.seq (.block 5 (.seq (.ops [.m 88 86, .m 10 88]) (.seq (.ops [.m 89 1, .i 90 (.nilCheck (.t 89)), .f 91 1 90, .l 92 91, .m 93 10, .i 94 (.indexAddr 2 (.t 92) (.t 93)), .L 95 2 94, .m 96 2, .i 97 (.nilCheck (.t 96)), .f 98 1 97, .l 99 98, .m 100 10, .i 101 (.indexAddr 2 (.t 99) (.t 100)), .L 102 2 101, .i 103 (.call 61 [.t 95, .t 102]), .i 104 (.un .not (.t 103))]) (.cond (.t 104) (.seq (.ops [.m 105 0, .m 106 1, .i 107 (.nilCheck (.t 106)), .f 108 1 107, .l 109 108, .m 110 10, .i 111 (.indexAddr 2 (.t 109) (.t 110)), .m 112 2, .i 113 (.nilCheck (.t 112)), .f 114 1 113, .l 115 114, .m 116 10, .i 117 (.indexAddr 2 (.t 115) (.t 116)), .i 118 (.callR 34 [.t 105, .t 111, .t 117]), .m 6 118]) .ret) .skip)))) (.ops [.i 119 (.bin .add (.t 86) (.n 1)), .m 86 119]))))))) (.seq (.ops [.i 6 (.mov (.c (.one (.st (.bool false)))))]) .ret)))))))))
theorem C7 : OkF Try.prog 51 120 [40000039, 40000076, 40000118] Bn [.t 6] := .of Try.func51 rfl rfl (by kernel_rfl) rfl
def Bf : IR :=
 (.seq (.ops [.i 6 (.mov (.c (.one (.st (.bool false)))))]) (.seq (.seq (.ops [.m 11 1, .i 12 (.nilCheck (.t 11)), .f 13 0 12, .l 14 13, .i 15 (.call 39 [.t 14])]) (.cond (.t 15) (.seq (.ops [.i 6 (.mov (.c (.one (.st (.bool false)))))]) .ret) .skip)) (.seq (.ops [.m 16 1, .m 17 2, .i 18 (.buildArr [.t 16, .t 17]), .i 7 (.alloc 86 [.st (.lit (.pointer none)), .st (.lit (.pointer none))]), .s 2 7 18]) (.seq (.seq (.ops [.m 20 0, .i 21 (.nilCheck (.t 20)), .f 22 1 21, .l 23 22, .L 24 2 7, .i 25 (.memoGet true (.one (.st (.bool false))) (.t 23) (.t 24)), .m 19 25, .i 26 (.extract 0 (.t 19)), .i 27 (.extract 1 (.t 19)), .m 8 26, .m 9 27]) (.seq (.ops [.m 28 9]) (.cond (.t 28) (.seq (.ops [.m 29 8, .m 6 29]) .ret) .skip))) (.seq (.ops [.m 30 0, .m 31 1, .m 32 2, .i 33 (.callR 51 [.t 30, .t 31, .t 32]), .m 10 33]) (.seq (.ops [.m 34 0, .i 35 (.nilCheck (.t 34)), .f 36 1 35, .l 37 36, .L 38 2 7, .m 39 10, .mk none none (.memoSet (.t 37) (.t 38) (.t 39)) .no]) (.seq (.ops [.m 40 10, .m 6 40]) .ret)))))))
theorem Cp : OkF Try.prog 34 41 [40000033] Bf [.t 6] := .of Try.func34 rfl rfl (by kernel_rfl) rfl
def FN : IR :=
 (.seq (.ops [.i 4 (.box 27 (.t 1)), .i 5 (.box 27 (.t 2)), .i 6 (.mov (.c (.one (.st (.bool false)))))]) (.seq (.ops [.m 8 0, .i 9 .makeMemo, .i 10 (.build [.full [], .st (.lit (.map none))] [(0, 1, .t 8), (1, 1, .t 9)]), .i 11 (.box 69 (.t 10)), .m 7 11]) (.seq (.ops [.m 12 7, .i 13 (.callR 34 [.t 12, .t 4, .t 5]), .m 6 13]) .ret)))
theorem JA : OkF Try.prog 20 14 [40000013] FN [.t 6] := .of Try.func20 rfl rfl (by kernel_rfl) rfl
def F5 : IR :=
 (.seq (.ops [.i 4 (.box 27 (.t 1)), .i 5 (.box 27 (.t 2)), .i 6 (.mov (.c (.one (.st (.bool false))))), .i 7 (.mov (.n 0))]) (.seq (.seq (.ops [.m 9 0, .L 10 2 4, .L 11 2 5, .i 12 (.call 19 [.t 9, .t 10, .t 11]), .m 8 12]) (.seq (.ops [.m 13 8, .i 14 (.bin .neq (.t 13) (.n 0))]) (.cond (.t 14) (.seq (.ops [.m 15 8, .i 6 (.mov (.c (.one (.st (.bool false))))), .m 7 15]) .ret) .skip))) (.seq (.ops [.m 16 0, .L 17 2 4, .L 18 2 5, .i 19 (.call 20 [.t 16, .t 17, .t 18]), .m 6 19, .i 7 (.mov (.n 0))]) .ret)))
theorem Jp : OkF Try.prog 8 20 [] F5 [.t 6, .t 7] := .of Try.func8 rfl rfl (by kernel_rfl) rfl

theorem LL {σ : Sto} {v : Value} {s s' : ByteArray} (h : Ak σ v (.str s)) (h' : Ak σ v (.str s')) : s = s' := by
 cases h with
 | str _ => cases h' with
  | str _ => rfl
theorem Pj {σ : Sto} {v : Value} {xs ys : List (List SV)} (h : Ak σ v (.list xs)) (h' : Ak σ v (.list ys)) (w : Nat) (hx : ∀ x ∈ xs, x.length = w) (hy : ∀ y ∈ ys, y.length = w) :
  xs.length = ys.length ∧ ∀ (k : Nat) (x y : List SV), xs[k]? = some x → ys[k]? = some y → ∃ c : Nat → Value, (∀ j u, x[j]? = some u → Ak σ (c j) u) ∧ ∀ j u, y[j]? = some u → Ak σ (c j) u := by
 cases h with
 | @list p len cap b o w1 _ c h1 h2 h3 h4 h5 h6 hh h7 h8 =>
 cases h' with
 | @list _ _ _ b' o' w2 _ c' k1 k2 k3 k4 k5 k6 kh k7 k8 =>
 refine ⟨by omega, fun k x y ex ey => ⟨c k, fun j u hu => h8 k x j u ex hu, fun j u hu => ?_⟩⟩
 have m1 := List.mem_of_getElem? ex
 have m2 := List.mem_of_getElem? ey
 have hl := (List.getElem?_eq_some_iff.1 ex).1
 have e1 := h5 (by omega)
 have e2 := k5 (by omega)
 rw [e1] at e2
 cases e2
 have w1e : w1 = w := (h6 x m1).symm.trans (hx x m1)
 have w2e : w2 = w := (k6 y m2).symm.trans (hy y m2)
 have hj : j < x.length := by
  rw [hx x m1, ← hy y m2]
  exact (List.getElem?_eq_some_iff.1 hu).1
 have q1 := h7 k x j _ ex (List.getElem?_eq_getElem hj)
 have q2 := k7 k y j u ey hu
 rw [w1e] at q1
 rw [w2e, q1] at q2
 rw [Option.some.inj q2]
 exact k8 k y j u ey hu
theorem Mp : ∀ (N : Nat) (a b : Tm) (σ : Sto) (c : Nat → Value), SizeOf.sizeOf a < N → (∀ j x, (Ap a)[j]? = some x → Ak σ (c j) x) → (∀ j x, (Ap b)[j]? = some x → Ak σ (c j) x) → a = b
 | 0, _, _, _, _, h, _, _ => absurd h (Nat.not_lt_zero _)
 | N + 1, a, b, σ, c, hN, ha, hb => by
  rw [Aa] at ha hb
  have hn := LL (ha 0 _ rfl) (hb 0 _ rfl)
  have hlen : ∀ {l : List Tm}, ∀ x ∈ l.map Ap, x.length = 2 := fun x hx => by
   obtain ⟨t, _, rfl⟩ := List.mem_map.1 hx
   exact L8 t
  obtain ⟨hl, hr⟩ := Pj (ha 1 _ rfl) (hb 1 _ rfl) 2 hlen hlen
  rw [List.length_map, List.length_map] at hl
  have hargs : a.args = b.args := by
   apply List.ext_getElem?
   intro k
   by_cases hk : k < a.args.length
   ·have e1 : a.args[k]? = some a.args[k] := List.getElem?_eq_getElem hk
    have e2 : b.args[k]? = some (b.args[k]'(by omega)) := List.getElem?_eq_getElem (by omega)
    obtain ⟨c', q1, q2⟩ := hr k (Ap a.args[k]) (Ap (b.args[k]'(by omega))) (by rw [List.getElem?_map, e1]; rfl) (by rw [List.getElem?_map, e2]; rfl)
    have hlt := Tm.lt_of_arg (List.mem_of_getElem? e1)
    rw [e1, e2, Mp N _ _ σ c' (by omega) q1 q2]
   ·rw [List.getElem?_eq_none (by omega), List.getElem?_eq_none (by omega)]
  cases a
  cases b
  simp only [Tm.name, Tm.args] at hn hargs
  rw [hn, hargs]
theorem OZ {a b : Tm} (h : QK (Ap a) (Ap b)) : a = b := by
 obtain ⟨σ, c, h1, h2⟩ := h
 exact Mp _ a b σ c (Nat.lt_succ_self _) h1 h2

def F1 : IR :=
 (.seq (.ops [.i 2 (.box 27 (.t 0)), .i 3 (.box 27 (.t 1)), .i 4 (.mov (.n 0))]) (.seq (.seq (.ops [.L 6 2 2, .i 7 (.call 26 [.t 6]), .m 5 7]) (.seq (.ops [.m 8 5, .i 9 (.bin .neq (.t 8) (.n 0))]) (.cond (.t 9) (.seq (.ops [.m 10 5, .m 4 10]) .ret) .skip))) (.seq (.ops [.L 11 2 3, .i 12 (.call 26 [.t 11]), .m 4 12]) .ret)))
theorem Jb : OkF Try.prog 33 13 [] F1 [.t 4] := .of Try.func33 rfl rfl (by kernel_rfl) rfl

set_option maxHeartbeats 800000
theorem L3 (a b : Tm) : AT Try.prog 33 [aTm a, aTm b] (AR (CO a b)) := by
 refine Jb.ac fun C hC => ?_
 unfold F1
 repeat' with_reducible first | refine W ?_ | refine Z0 ?_ | ((first | refine Wo fun K hK => ?_ | refine Wp ?_ | refine Wq ?_ | refine Wr ?_); (try simp only [go_sem, fN, seval, eT, iR, dT, dF, nL]); (repeat refine Ai ?_); (try (refine hK _ ?_; clear hK K)); try refine iC ?_)
 refine ⟨_, Gj a, ?_⟩
 by_cases h : a.may = 0
 ·repeat' (first | (with_reducible first | refine W ?_ | refine Z0 ?_ | ((first | refine Wo fun K hK => ?_ | refine Wp ?_ | refine Wq ?_ | refine Wr ?_); (try simp only [go_sem, fN, seval, eT, iR, h, dT, dF, nL]); (repeat refine Ai ?_); (try (refine hK _ ?_; clear hK K)); try refine iC ?_)) | refine Cg _ (Gj b) ?_)
  simp only [go_sem, fN, seval, AN, AS.result, AB, AD, AK]
  unfold CO
  rw [if_pos h]
 ·repeat' with_reducible first | refine W ?_ | refine Z0 ?_ | ((first | refine Wo fun K hK => ?_ | refine Wp ?_ | refine Wq ?_ | refine Wr ?_); (try simp only [go_sem, fN, seval, eT, iR, h, dT, dF, nL]); (repeat refine Ai ?_); (try (refine hK _ ?_; clear hK K)); try refine iC ?_)
  simp only [go_sem, fN, seval, AN, AS.result, AB, AD, AK]
  unfold CO
  rw [if_neg h]

def Bb : IR :=
 (.seq (.ops [.i 4 (.mov (.n 0))]) (.seq (.seq (.ops [.m 6 0, .i 7 (.len false (.t 6)), .i 8 (.mov (.n 0))]) (.block 0 (.loop (.seq (.ops [.i 9 (.bin .lss (.t 8) (.t 7))]) (.seq (.cond (.t 9) .skip (.exit 0)) (.seq (.block 1 (.seq (.ops [.m 10 8, .m 5 10]) (.seq (.ops [.m 11 1, .m 12 0, .m 13 5, .i 14 (.indexAddr 1 (.t 12) (.t 13)), .l 15 14, .i 16 (.bin .eql (.t 11) (.t 15))]) (.cond (.t 16) (.seq (.ops [.m 17 5, .m 4 17]) .ret) .skip)))) (.ops [.i 18 (.bin .add (.t 8) (.n 1)), .m 8 18]))))))) (.seq (.ops [.i 4 (.mov (.c (.one (.st (.int .i64 (-1))))))]) .ret)))
theorem Co : OkF Try.prog 55 19 [] Bb [.t 4] := .of Try.func55 rfl rfl (by kernel_rfl) rfl
def D3 : IR :=
 (.seq (.ops [.i 2 (.mov (.c (.one (.st (.bool false)))))]) (.seq (.ops [.m 3 0, .m 4 0, .i 5 (.bin .neq (.t 3) (.t 4)), .m 2 5]) .ret))
theorem Hd : OkF Try.prog 75 6 [] D3 [.t 2] := .of Try.func75 rfl rfl (by kernel_rfl) rfl
def DM : IR :=
 (.seq (.ops [.i 4 (.mov (.n 0))]) (.seq (.ops [.m 7 0, .i 8 (.call 75 [.t 7]), .m 5 8]) (.seq (.ops [.m 9 1, .i 10 (.call 75 [.t 9]), .m 6 10]) (.seq (.seq (.ops [.m 11 5]) (.cond (.t 11) (.seq (.seq (.ops [.m 12 6]) (.cond (.t 12) (.seq (.ops [.i 4 (.mov (.n 0))]) .ret) .skip)) (.seq (.ops [.i 4 (.mov (.c (.one (.st (.int .i64 (-1))))))]) .ret)) .skip)) (.seq (.seq (.ops [.m 13 6]) (.cond (.t 13) (.seq (.ops [.i 4 (.mov (.n 1))]) .ret) .skip)) (.seq (.seq (.ops [.m 14 0, .m 15 1, .i 16 (.bin .lss (.t 14) (.t 15))]) (.cond (.t 16) (.seq (.ops [.i 4 (.mov (.c (.one (.st (.int .i64 (-1))))))]) .ret) .skip)) (.seq (.seq (.ops [.m 17 0, .m 18 1, .i 19 (.bin .gtr (.t 17) (.t 18))]) (.cond (.t 19) (.seq (.ops [.i 4 (.mov (.n 1))]) .ret) .skip)) (.seq (.ops [.i 4 (.mov (.n 0))]) .ret))))))))
theorem GK : OkF Try.prog 69 20 [] DM [.t 4] := .of Try.func69 rfl rfl (by kernel_rfl) rfl
def Ft : IR :=
 (.seq (.ops [.i 2 (.mov (.n 0))]) (.seq (.ops [.i 3 (.mov (.n 0))]) (.seq (.seq (.ops [.m 6 0, .i 7 (.len false (.t 6)), .i 8 (.mov (.n 0))]) (.block 0 (.loop (.seq (.ops [.i 9 (.bin .lss (.t 8) (.t 7))]) (.seq (.cond (.t 9) .skip (.exit 0)) (.seq (.block 1 (.seq (.ops [.i 10 (.indexAddr 1 (.t 6) (.t 8)), .l 11 10, .m 5 11]) (.seq (.ops [.m 12 5, .m 13 3, .i 14 (.bin .neq (.t 12) (.t 13))]) (.cond (.t 14) (.seq (.ops [.m 15 5, .m 2 15]) .ret) .skip)))) (.ops [.i 16 (.bin .add (.t 8) (.n 1)), .m 8 16]))))))) (.seq (.ops [.m 17 3, .m 2 17]) .ret))))
theorem Js : OkF Try.prog 68 18 [] Ft [.t 2] := .of Try.func68 rfl rfl (by kernel_rfl) rfl
def D5 : IR :=
 (.seq (.ops [.i 4 (.box 27 (.t 1)), .i 5 (.box 27 (.t 2)), .i 6 (.mov (.n 0))]) (.seq (.ops [.m 7 0, .f 8 0 4, .l 9 8, .i 10 (.call 55 [.t 7, .t 9]), .m 11 0, .f 12 0 5, .l 13 12, .i 14 (.call 55 [.t 11, .t 13]), .i 15 (.call 69 [.t 10, .t 14]), .f 16 0 4, .l 17 16, .f 18 0 5, .l 19 18, .i 20 (.call 65 [.t 17, .t 19]), .f 21 1 4, .l 22 21, .i 23 (.len false (.t 22)), .f 24 1 5, .l 25 24, .i 26 (.len false (.t 25)), .i 27 (.call 69 [.t 23, .t 26]), .i 28 (.buildFlat [.t 15, .t 20, .t 27]), .i 29 (.call 68 [.t 28]), .m 6 29]) .ret))
theorem He : OkF Try.prog 62 30 [] D5 [.t 6] := .of Try.func62 rfl rfl (by kernel_rfl) rfl
def FO : IR :=
 (.seq (.ops [.i 2 (.mov (.n 0))]) (.seq (.seq (.ops [.m 5 0, .i 6 (.len false (.t 5)), .i 7 (.bin .gtr (.t 6) (.n 40))]) (.cond (.t 7) (.seq (.ops [.i 2 (.mov (.n 3))]) .ret) .skip)) (.seq (.seq (.ops [.m 8 0, .i 9 (.len false (.t 8)), .i 10 (.mov (.n 0))]) (.block 0 (.loop (.seq (.ops [.i 11 (.bin .lss (.t 10) (.t 9))]) (.seq (.cond (.t 11) .skip (.exit 0)) (.seq (.block 1 (.seq (.ops [.m 12 10, .i 13 (.indexAddr 1 (.t 8) (.t 10)), .l 14 13, .m 3 12, .m 4 14]) (.seq (.seq (.ops [.m 15 4, .i 16 (.call 50 [.t 15]), .i 17 (.un .not (.t 16)), .m 18 17, .mk (some 19) (some (18, false)) (.mov (.t 4)) .no, .mk (some 20) (some (18, false)) (.call 39 [.t 19]) .no, .i 21 (.pick (.t 18) (.c (.one (.st (.bool true)))) (.t 20))]) (.cond (.t 21) (.seq (.ops [.i 2 (.mov (.n 1))]) .ret) .skip)) (.seq (.ops [.m 22 0, .m 23 3, .i 24 (.sliceL 1 (.t 22) none (some (.t 23))), .m 25 4, .i 26 (.call 43 [.t 24, .t 25])]) (.cond (.t 26) (.seq (.ops [.i 2 (.mov (.n 4))]) .ret) .skip))))) (.ops [.i 27 (.bin .add (.t 10) (.n 1)), .m 10 27]))))))) (.seq (.ops [.i 2 (.mov (.n 0))]) .ret))))
theorem JS : OkF Try.prog 32 28 [] FO [.t 2] := .of Try.func32 rfl rfl (by kernel_rfl) rfl
def Fq : IR :=
 (.seq (.ops [.i 4 (.box 27 (.t 1)), .i 5 (.box 27 (.t 2)), .i 6 (.mov (.n 0))]) (.seq (.seq (.ops [.m 8 0, .i 9 (.call 32 [.t 8]), .m 7 9]) (.seq (.ops [.m 10 7, .i 11 (.bin .neq (.t 10) (.n 0))]) (.cond (.t 11) (.seq (.ops [.m 12 7, .m 6 12]) .ret) .skip))) (.seq (.ops [.L 13 2 4, .L 14 2 5, .i 15 (.call 33 [.t 13, .t 14]), .m 6 15]) .ret)))
theorem Jk : OkF Try.prog 19 16 [] Fq [.t 6] := .of Try.func19 rfl rfl (by kernel_rfl) rfl

def DY : List Int → Int
 | [] => 0
 | x :: xs => if x ≠ 0 then x else DY xs
theorem ON (row : List ByteArray) (a b : Tm) : BW row a b = DY [D8 (Bp row a.name) (Bp row b.name), CZ a.name b.name, D8 a.args.length b.args.length] := by
 unfold BW
 simp only [DY]
 split
 ·rfl
 ·split
  ·rfl
  ·split
   ·rfl
   ·omega
def K3 : List ByteArray → List ByteArray → Int
 | _, [] => 0
 | seen, x :: xs => if Aw x = true ∧ AZ x = false then (if CI x seen = true then 4 else K3 (seen ++ [x]) xs) else 1
def C3 (row : List ByteArray) : Int := if 40 < row.length then 3 else K3 [] row

def met {α : Type} (l : List α) (seen : List Nat) : List α := seen.filterMap fun j => l[j]?
theorem Qf {α : Type} {l : List α} {seen : List Nat} {j : Nat} {b : α} (h : l[j]? = some b) : met l (seen ++ [j]) = met l seen ++ [b] := by
 unfold met
 rw [List.filterMap_append, List.filterMap_cons_some h]
 rfl
theorem Oc {α : Type} {l : List α} : ∀ {seen : List Nat}, (∀ j ∈ seen, j < l.length) → (met l seen).length = seen.length
 | [], _ => rfl
 | j :: seen, h => by
  have hj := h j (by simp)
  unfold met
  rw [List.filterMap_cons_some (List.getElem?_eq_getElem hj), List.length_cons, List.length_cons]
  exact congrArg (· + 1) (Oc fun i hi => h i (by simp [hi]))
theorem M1 {n : Nat} {seen : List Nat} (hn : seen.Nodup) (h : ∀ j ∈ seen, j < n) : seen.length ≤ n := by
 have h1 : seen.Perm ((List.range n).filter fun j => decide (j ∈ seen)) := (List.perm_ext_iff_of_nodup hn (List.nodup_range.filter _)).2 fun j => by
  rw [List.mem_filter, List.mem_range, decide_eq_true_eq]
  exact ⟨fun hj => ⟨h j hj, hj⟩, fun hj => hj.2⟩
 rw [h1.length_eq]
 exact Nat.le_trans (List.length_filter_le _ _) (Nat.le_of_eq List.length_range)
theorem RC {α : Type} {l : List α} {seen : List Nat} (hn : seen.Nodup) (h : ∀ j ∈ seen, j < l.length) (hall : ∀ j, j < l.length → j ∈ seen) : (met l seen).Perm l := by
 have hp : seen.Perm (List.range l.length) := (List.perm_ext_iff_of_nodup hn List.nodup_range).2 fun j => ⟨fun hj => List.mem_range.2 (h j hj), fun hj => hall j (List.mem_range.1 hj)⟩
 have := hp.filterMap fun j => l[j]?
 rw [C6] at this
 exact this

theorem TJ {ds : List Nat} (hds : ∀ d ∈ ds, d < 1000) {x : Option AJ} (hb : ∀ b, x = some b → b.high = true) : x.map (AJ.purge ds) = x := by
 cases h : x with
 | none => rfl
 | some b => rw [Option.map_some, AJ.purge_high hds (hb b h)]
theorem So {S S1 : AA} {a0 : Nat} {b : AJ} (hS : Am S) (ha : 1000 ≤ a0) (h1 : S1 a0 = some b) (h2 : ∀ i, 1000 ≤ i → i ≠ a0 → S1 i = S i) : BU S1 = AG S a0 (some b) := by
 funext i
 show (if i < 1000 then none else S1 i) = _
 by_cases e : i = a0
 ·subst e
  rw [if_neg (by omega), AE, h1]
 ·rw [AH _ e]
  by_cases hi : i < 1000
  ·rw [if_pos hi, Aj hS hi]
  ·rw [if_neg hi, h2 i (by omega) e]
theorem QV {S S1 : AA} {a0 : Nat} {b : AJ} (hS : Am S) (hb : b.high = true) (h1 : S1 a0 = some b) (h2 : ∀ i, 1000 ≤ i → i ≠ a0 → S1 i = S i) : ∀ i c, 1000 ≤ i → S1 i = some c → c.high = true := fun i c hi hc => by
 by_cases e : i = a0
 ·subst e
  rw [h1] at hc
  cases hc
  exact hb
 ·rw [h2 i hi e] at hc
  exact (hS i c hc).2
theorem CV {C : Ctx} {rs : List RV} {r : AV} {e : AX} {s : AS} {S : AA} {a0 : Nat} {b : AJ} (r0 : AV) (hS : Am S) (ha : 1000 ≤ a0) (hb : b.high = true) (he : match e with | .normal => True | .ret => True | _ => False)
  (h1 : (AB s rs).map AK = some r0) (h2 : outV s.S r0 = some r) (h3 : s.S a0 = some b) (h4 : ∀ i, 1000 ≤ i → i ≠ a0 → s.S i = S i) : HC C rs r (AG S a0 (some b)) e s :=
 Mg he r0 h1 h2 (QV hS hb h3 h4) (So hS ha h3 h4) (BZ hS ha hb)

def AU : IR :=
 (.seq (.ops [.i 6 (.mov (.c (.one (.st (.bool false)))))]) (.seq (.seq (.ops [.m 10 0, .i 11 (.len false (.t 10)), .m 12 1, .i 13 (.len false (.t 12)), .i 14 (.bin .neq (.t 11) (.t 13))]) (.cond (.t 14) (.seq (.ops [.i 6 (.mov (.c (.one (.st (.bool false)))))]) .ret) .skip)) (.seq (.seq (.ops [.m 15 0, .i 16 (.len false (.t 15)), .i 17 (.mov (.n 0))]) (.block 0 (.loop (.seq (.ops [.i 18 (.bin .lss (.t 17) (.t 16))]) (.seq (.cond (.t 18) .skip (.exit 0)) (.seq (.block 1 (.seq (.ops [.m 19 17, .i 20 (.indexAddr 2 (.t 15) (.t 17)), .L 21 2 20, .i 8 (.alloc 27 [.st (.str (ByteArray.mk (#[]))), .full []]), .m 7 19, .s 2 8 21]) (.seq (.ops [.m 22 1, .m 23 7, .i 24 (.indexAddr 2 (.t 22) (.t 23)), .L 25 2 24, .i 9 (.alloc 27 [.st (.str (ByteArray.mk (#[]))), .full []]), .s 2 9 25]) (.seq (.ops [.m 26 2, .L 27 2 8, .L 28 2 9, .i 29 (.callV (.t 26) [.t 27, .t 28]), .i 30 (.un .not (.t 29))]) (.cond (.t 30) (.seq (.ops [.i 6 (.mov (.c (.one (.st (.bool false)))))]) .ret) .skip))))) (.ops [.i 31 (.bin .add (.t 17) (.n 1)), .m 17 31]))))))) (.seq (.ops [.i 6 (.mov (.c (.one (.st (.bool true)))))]) .ret))))
theorem Al : OkF Try.prog 67 32 [] AU [.t 6] := .of Try.func67 rfl rfl (by kernel_rfl) rfl
def Gk : IR :=
 (.seq (.ops [.i 2 (.box 27 (.t 0)), .i 3 (.box 27 (.t 1)), .i 4 (.mov (.c (.one (.st (.bool false)))))]) (.seq (.ops [.f 5 0 2, .l 6 5, .f 7 0 3, .l 8 7, .i 9 (.bin .eql (.t 6) (.t 8)), .m 10 9, .mk (some 11) (some (10, true)) (.fieldAddr 1 (.t 2)) .no, .mk (some 12) (some (10, true)) (.load false 1 (.t 11)) .no, .mk (some 13) (some (10, true)) (.fieldAddr 1 (.t 3)) .no, .mk (some 14) (some (10, true)) (.load false 1 (.t 13)) .no, .mk (some 15) (some (10, true)) (.call 67 [.t 12, .t 14, .c (.one (.fn 61 []))]) .no, .i 16 (.pick (.t 10) (.t 15) (.c (.one (.st (.bool false))))), .m 4 16]) .ret))
theorem Li : OkF Try.prog 61 17 [] Gk [.t 4] := .of Try.func61 rfl rfl (by kernel_rfl) rfl

end Go.Proofs.Ytlbpdlnndnfnlaa
