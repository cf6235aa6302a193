/-
  Part 9 of the texts. Conditions: none.
-/
import Derived.Test.YtgcddcaachpbnaaGreatReR8
namespace Go.Proofs.YtgcddcaachpbnaaGreat
open Go Go.RowKit
set_option linter.unusedVariables false
set_option linter.unusedSimpArgs false
set_option maxHeartbeats 1000000
theorem IWP.at_ {P : Program} {C : Ctx} {mu : List Nat} {x : IR} {Q : AX → AS → Prop} {env0 : Nat → AV} {S0 : AA} (M : (Nat → AV) → AA → Prop) (hM : M env0 S0) (h : ∀ env S, M env S → IWP P C mu x Q ⟨env, S⟩) : IWP P C mu x Q ⟨env0, S0⟩ := h _ _ hM
section
variable {C : Ctx} {s : AS}
theorem AW.ownCM (id j nid : Nat) (e : TypeId) (wd : Nat) {ty : TypeId} {cs : List AC} (hb : s.S id = some (.box ty cs)) (hc : cs[j]? = some (.full [])) (hn : s.S nid = none) :
  AW C s ((s.set nid (.mrow e wd [])).set id (.box ty (cs.set j (.row nid 0)))) := fun a w ⟨σ, ι, R⟩ => by
 have hbk := R.blk id _ hb
 have hne : id ≠ nid := fun e => by subst e; rw [hb] at hn; cases hn
 cases hbk with
 | @box _ _ g vs h1 h2 h3 h4 h5 =>
  obtain ⟨v, hv, hr⟩ := h4.get hc
  cases hr with
  | @full p len _ hs =>
   have hl : len = 0 := by
    obtain ⟨p', cap', e1, _⟩ := Bi hs
    cases e1
    rfl
   subst hl
   obtain ⟨hu, R'⟩ := R.fresh (w' := w) hn (.mrow e wd []) ⟨p, 0, none⟩ (Ext.refl _ _) R.fit (Below.refl _ _) (by simp) (fun S' ι' hu => .mnil rfl rfl)
   have hb' : (s.set nid (.mrow e wd [])).S id = some (.box ty cs) := by simp [AS.set, AG _ hne, hb]
   have hι : AF ι nid ⟨p, 0, none⟩ id = ι id := AG _ hne _
   obtain ⟨hu2, R2⟩ := R'.turn (w' := w) hb' (.box ty (cs.set j (.row nid 0))) (AF ι nid ⟨p, 0, none⟩ id) (σ' := σ) (fun _ _ h => h) (fun _ _ _ => rfl) R.fit (Nat.le_refl _) (fun _ => ⟨by simp [AJ.wid], rfl⟩) ⟨rfl, rfl, rfl⟩ (Nat.le_refl _) (fun _ _ _ => rfl) (fun g h => .inl h) (fun hu2 => by
    refine .box (by rw [hι]; exact h1) (by rw [hι]; exact h2) h3 (AY.of_get (by rw [List.length_set]; exact h4.len) fun k u c hu' hck => ?_) h5
    by_cases hk : k = j
    ·subst hk
     rw [hv] at hu'
     cases hu'
     have hlt : k < cs.length := (List.getElem?_eq_some_iff.1 hc).1
     rw [List.getElem?_set_self hlt] at hck
     cases hck
     exact .row (b := .mrow e wd []) (by simp [AS.set, AF, hne.symm]) (Nat.le_refl _) rfl fun _ => by simp [AF, hne.symm]
    ·rw [List.getElem?_set_ne (fun e => hk e.symm)] at hck
     obtain ⟨u', q1, q2⟩ := h4.get hck
     rw [hu'] at q1
     cases q1
     exact (q2.mono (fun _ _ h => h) hu).mono (fun _ _ h => h) hu2)
   exact ⟨_, _, R2⟩
end
theorem MD {S U : AA} (hU : Aj U) (h : ∀ i, 1000 ≤ i → S i = U i) : BR S = U := by
 funext i
 show (if i < 1000 then none else S i) = U i
 by_cases hi : i < 1000
 ·rw [if_pos hi, AZ hU hi]
 ·rw [if_neg hi, h i (by omega)]
theorem N9 {S : AA} (h : ∀ i b, 1000 ≤ i → S i = some b → b.high = true) : Aj (BR S) := fun i b hb => by
 have hb : (if i < 1000 then none else S i) = some b := hb
 by_cases hi : i < 1000
 ·rw [if_pos hi] at hb
  cases hb
 ·rw [if_neg hi] at hb
  exact ⟨by omega, h i b (by omega) hb⟩
theorem Jf {S : AA} (h : ∀ i b, 1000 ≤ i → S i = some b → b.high = true) {j : Nat} {b : AJ} (hb : b.high = true) : ∀ i b', 1000 ≤ i → AF S j (some b) i = some b' → b'.high = true := fun i b' hi he => by
 by_cases e : i = j
 ·subst e
  rw [AB] at he
  cases he
  exact hb
 ·rw [AG _ e] at he
  exact h i b' hi he
theorem JT {S : AA} (h : ∀ i b, 1000 ≤ i → S i = some b → b.high = true) {j : Nat} (hj : j < 1000) {c : Option AJ} : ∀ i b', 1000 ≤ i → AF S j c i = some b' → b'.high = true := fun i b' hi he => by
 rw [AG _ (by omega)] at he
 exact h i b' hi he
def Dg (S : AA) (out : List Tm) : AA := AF (AF (upS S) 1500 (some (.mrow 25 2 (out.map Ae)))) 1006 (some (.box 23 [.row 1500 out.length]))
theorem EA {S : AA} {out : List Tm} {i : Nat} (h : i ≠ 1500) (h' : i ≠ 1006) : Dg S out i = upS S i := by
 rw [Dg, AG _ h', AG _ h]
theorem O5 {C : Ctx} {y : Nat} {b : AJ} {N : AA → Prop} {Jx : AX → AA → Prop} {env : Nat → AV} {S : AA} (U : AA) (hU : Aj (AF U y (some b))) (hy : U y = none) (hS : ∀ i, 1000 ≤ i → S i = AF U y (some b) i) (hN : N U) : K3 C y b N Jx .normal ⟨env, S⟩ :=
 ⟨⟨fun i => (env i).low, BR S⟩, U, AW.low (s := ⟨env, S⟩) (fun i b' hi h => by
  have h : S i = some b' := h
  rw [hS i hi] at h
  exact (hU i b' h).2), MD hU hS, by
  show Aj (BR S)
  rw [MD hU hS]
  exact hU, hy, hN⟩
theorem J7 {C : Ctx} {y : Nat} {b : AJ} {N : AA → Prop} {Jx : AX → AA → Prop} {env : Nat → AV} {S : AA} (h : ∀ i b, 1000 ≤ i → S i = some b → b.high = true) (hy : 1000 ≤ y) (hSy : S y = some b) (hJ : Jx .ret (AF (BR S) y none)) : K3 C y b N Jx .ret ⟨env, S⟩ :=
 ⟨⟨fun i => (env i).low, BR S⟩, AF (BR S) y none, AW.low (s := ⟨env, S⟩) h, by
  show BR S = _
  rw [Jr]
  refine (JV ?_).symm
  show (if y < 1000 then none else S y) = some b
  rw [if_neg (by omega), hSy], N9 h, AB _ _ _, hJ⟩
theorem KX {S : AA} {i y : Nat} {c : Option AJ} (h : 1000 ≤ i) (hne : i ≠ y) : AF (BR S) y c i = S i := by
 rw [AG _ hne]
 show (if i < 1000 then none else S i) = S i
 rw [if_neg (by omega)]
abbrev Ra (R : List Pr) : AJ := .box 22 [.st (.list (R.map Db))]
abbrev MR (i : Int) : AJ := .box 28 [.st (.int .i64 i)]
def C7 (o : Option (List Tm)) : AV := match o with
 | none => .tup [GY [], Ab 8]
 | some l => .tup [GY l, Ab 0]
theorem Rn {R : List Pr} (hR : Ce R) (t : Tm) (hc : t.chk = 0) (hz : t.size ≤ 2000) : AT Tryz.prog 29 [Cx R, aTm t] (C7 (D0 R t)) := by
 rw [JL]
 have h40 := hR.len
 refine Hg.acT fun C hC htop => ?_
 unfold EJ
 repeat' (first | (with_reducible first | refine W ?_ | refine Z0 ?_ | ((first | refine Wo fun K hK => ?_ | refine Wp ?_ | refine Wq ?_ | refine Wr ?_); (try simp only [go_sem, fN, seval, eT, iR, dT, dF, nL]); (repeat refine Ai ?_); (try (refine hK _ ?_; clear hK K)); try refine iC ?_)) | refine Cg _ (Ro t) ?_)
 refine IWP.at_ (fun env S => env 2 = .one (.ptr 2 1 0 0) ∧ env 4 = .one (.ptr 4 1 0 0) ∧ env 5 = .one (.ptr 5 1 0 0) ∧ env 6 = .one (.ptr 6 1 0 0) ∧ env 7 = .one (.ptr 7 1 0 0) ∧ env 15 = .one (.fn 78 [.eptr (Cc t), .eptr [svW []]]) ∧ S 2 = some (Ra R) ∧ S 4 = some (.box 23 [.full []]) ∧ S 5 = some (MR 0) ∧ S 6 = some (.box 23 [.full []]) ∧ S 7 = some (MR 0) ∧ S 500 = none ∧ S 501 = none) ⟨rfl, rfl, rfl, rfl, rfl, rfl, rfl, rfl, rfl, rfl, rfl, rfl, rfl⟩ ?_
 rintro env S0 ⟨e2, e4, e5, e6, e7, e15, s2, s4, s5, s6, s7, s500, s501⟩
 refine IWP.ghost (AW.ownCM 6 0 500 25 2 s6 rfl s500) ?_
 refine IWP.at_ (fun env' S => env' = env ∧ S 2 = some (Ra R) ∧ S 4 = some (.box 23 [.full []]) ∧ S 5 = some (MR 0) ∧ S 6 = some (.box 23 [.row 500 0]) ∧ S 7 = some (MR 0) ∧ S 500 = some (.mrow 25 2 []) ∧ S 501 = none) ⟨rfl, by simp only [go_sem, fN, seval, eT, iR, s2], by simp only [go_sem, fN, seval, eT, iR, s4], by simp only [go_sem, fN, seval, eT, iR, s5], by simp only [go_sem, fN, seval, eT, iR]; rfl, by simp only [go_sem, fN, seval, eT, iR, s7], by simp only [go_sem, fN, seval, eT, iR], by simp only [go_sem, fN, seval, eT, iR, s501]⟩ ?_
 clear s2 s4 s5 s6 s7 s500 s501 S0
 rintro env' S0 ⟨rfl, s2, s4, s5, s6, s7, s500, s501⟩
 refine IWP.rangeF htop 501 (by decide) s501 (show AS.ev _ (.t 15) = _ from e15) (by kernel_rfl) (Mo t (by omega)) (fun _ => rfl) (fun pre U => ∃ out, A1 R (pre.map CF) = some out ∧ U = Dg S0 out) (fun ex U => ex = .ret ∧ A1 R ((t.visits []).map CF) = none ∧ U 1004 = some (.box 23 [.full []]) ∧ U 1005 = some (MR 8)) ⟨[], rfl, ?_⟩ (fun _ _ _ _ _ => trivial) ?_ ?_ ?_
 ·funext i
  unfold Dg AF
  split
  ·rename_i h
   subst h
   exact Bw s6
  ·split
   ·rename_i h
    subst h
    exact Bw s500
   ·rfl
 ·rintro C' b0 b1 pre v U hC' hpre ⟨out, ho, rfl⟩ hU hcl hb1
  have hv : v ∈ t.visits [] := by
   obtain ⟨tl, htl⟩ := hpre
   rw [← htl]
   simp
  obtain ⟨hsur, hkn⟩ := KG t [] trivial (by omega) v hv
  have hvc := IZ t v.2 hc hkn
  have hvz := Gs t v.2 hkn
  have hlen := DH ho
  have hpl := hpre.length_le
  rw [List.length_append, Mq] at hpl
  rw [List.length_map] at hlen
  have hlen2 : out.length ≤ 80000 := Nat.le_trans hlen (Nat.mul_le_mul (show pre.length ≤ 2000 by simp at hpl; omega) h40)
  have n8 : Dg S0 out 8 = none := AZ hcl (by decide)
  have n11 : Dg S0 out 11 = none := AZ hcl (by decide)
  have w2 : Ds C.n env' 2 = .one (.ptr 1002 1 0 0) := by rw [Ds, if_pos (by omega), e2]; rfl
  have w4 : Ds C.n env' 4 = .one (.ptr 1004 1 0 0) := by rw [Ds, if_pos (by omega), e4]; rfl
  have w5 : Ds C.n env' 5 = .one (.ptr 1005 1 0 0) := by rw [Ds, if_pos (by omega), e5]; rfl
  have w6 : Ds C.n env' 6 = .one (.ptr 1006 1 0 0) := by rw [Ds, if_pos (by omega), e6]; rfl
  have w7 : Ds C.n env' 7 = .one (.ptr 1007 1 0 0) := by rw [Ds, if_pos (by omega), e7]; rfl
  have u501 : up1 501 = 1501 := rfl
  unfold Qh
  repeat' with_reducible first | refine W ?_ | refine Z0 ?_ | ((first | refine Wo fun K hK => ?_ | refine Wp ?_ | refine Wq ?_ | refine Wr ?_); (try simp only [go_sem, fN, seval, eT, iR, KK, n8, n11, u501, dT, dF, nL]); (repeat refine Ai ?_); (try (refine hK _ ?_; clear hK K)); try refine iC ?_)
  refine AI ⟨by simp only [go_sem, fN, seval, eT, iR, u501], ?_⟩
  have hst : ∀ i, 1000 ≤ i → AF (AF (AF (AF (Dg S0 out) 1501 (some b0)) 8 (some (.box 25 [.st (.str ⟨#[]⟩), .full []]))) 8 (some (.box 25 [.st (.str v.2.name), .st (.list (v.2.args.map Ae))]))) 1501 (some b1) i = AF (Dg S0 out) 1501 (some b1) i := fun i hi => by
   by_cases h : i = 1501
   ·subst h
    rw [AB, AB]
   ·rw [AG _ h, AG _ h, AG _ (by omega), AG _ (by omega), AG _ h]
  repeat' with_reducible first | refine W ?_ | refine Z0 ?_ | ((first | refine Wo fun K hK => ?_ | refine Wp ?_ | refine Wq ?_ | refine Wr ?_); (try simp only [go_sem, fN, seval, eT, iR, u501, dT, dF, nL]); (repeat refine Ai ?_); (try (refine hK _ ?_; clear hK K)); try refine iC ?_)
  refine IWP.loopD [11] (fun m s => ∃ f o2, f ≤ R.length ∧ o2.length ≤ f ∧ m = R.length - f ∧ Bs (CF v) R = (Bs (CF v) (R.drop f)).map (o2 ++ ·) ∧ s.env 2 = .one (.ptr 1002 1 0 0) ∧ s.env 4 = .one (.ptr 1004 1 0 0) ∧ s.env 5 = .one (.ptr 1005 1 0 0) ∧ s.env 6 = .one (.ptr 1006 1 0 0) ∧ s.env 7 = .one (.ptr 1007 1 0 0) ∧ s.env 8 = .one (.ptr 8 1 0 0) ∧ s.env 9 = .one (.st (svW v.1)) ∧ s.env 10 = Ab f ∧ s.S 8 = some (.box 25 [.st (.str v.2.name), .st (.list (v.2.args.map Ae))]) ∧ s.S 11 = none ∧ ∀ i, 1000 ≤ i → s.S i = AF (Dg S0 (out ++ o2)) 1501 (some b1) i) R.length ⟨0, [], Nat.zero_le _, Nat.zero_le _, rfl, ?_, ?_, ?_, ?_, ?_, ?_, ?_, ?_, ?_, ?_, ?_, ?_⟩ ?_
  ·simp
  ·simp only [go_sem, fN, seval, eT, iR, w2]
  ·simp only [go_sem, fN, seval, eT, iR, w4]
  ·simp only [go_sem, fN, seval, eT, iR, w5]
  ·simp only [go_sem, fN, seval, eT, iR, w6]
  ·simp only [go_sem, fN, seval, eT, iR, w7]
  ·simp only [go_sem, fN, seval, eT, iR]
  ·simp only [go_sem, fN, seval, eT, iR]
  ·simp only [go_sem, fN, seval, eT, iR]
  ·simp only [go_sem, fN, seval, eT, iR, u501]
  ·simp only [go_sem, fN, seval, eT, iR, n11, u501]
  ·rw [List.append_nil]
   exact hst
  rintro m ⟨env1, S1⟩ ⟨f, o2, hf, hfo, rfl, hoff, x2, x4, x5, x6, x7, x8, x9, x10, s8, s11, hS⟩
  simp only at x2 x4 x5 x6 x7 x8 x9 x10 s8 s11 hS
  have hout : ∀ o, Aj (Dg S0 (out ++ o)) := fun o => Ax (Ax (Gb S0) (by decide) rfl) (by decide) rfl
  have t2 : S1 1002 = some (Ra R) := by rw [hS 1002 (by decide), AG _ (by decide), EA (by decide) (by decide)]; exact Bw s2
  have t4 : S1 1004 = some (.box 23 [.full []]) := by rw [hS 1004 (by decide), AG _ (by decide), EA (by decide) (by decide)]; exact Bw s4
  have t5 : S1 1005 = some (MR 0) := by rw [hS 1005 (by decide), AG _ (by decide), EA (by decide) (by decide)]; exact Bw s5
  have t7 : S1 1007 = some (MR 0) := by rw [hS 1007 (by decide), AG _ (by decide), EA (by decide) (by decide)]; exact Bw s7
  have t6 : S1 1006 = some (.box 23 [.row 1500 (out ++ o2).length]) := by rw [hS 1006 (by decide), AG _ (by decide)]; rfl
  have t15 : S1 1500 = some (.mrow 25 2 ((out ++ o2).map Ae)) := by rw [hS 1500 (by decide), AG _ (by decide)]; rfl
  have t1501 : S1 1501 = some b1 := by rw [hS 1501 (by decide), AB]
  have hhi : ∀ i b, 1000 ≤ i → S1 i = some b → b.high = true := fun i b hi h => by
   rw [hS i hi] at h
   exact ((Ax (hout o2) (by decide) hb1) i b h).2
  have hbad : Bs (CF v) R = none → A1 R ((t.visits []).map CF) = none := fun h => by
   obtain ⟨tl, htl⟩ := hpre
   rw [← htl, List.append_assoc, List.map_append, List.singleton_append, List.map_cons]
   exact H1 h
  have hroot := Rr hR v.2 hvc (by omega) f hf
  rcases Jm (CF v) (R.drop f) f with ⟨hr, ho2⟩ | ⟨i, y, r, hi1, hi2, hmem, hcase, hy, hrest⟩
  ·rw [show (CF v).2 = v.2 from rfl] at hr
   rw [hr] at hroot
   unfold LJ at hroot
   repeat' (first | (with_reducible first | refine W ?_ | refine Z0 ?_ | ((first | refine Wo fun K hK => ?_ | refine Wp ?_ | refine Wq ?_ | refine Wr ?_); (try simp only [go_sem, fN, seval, eT, iR, x2, x4, x5, x6, x7, x8, x9, x10, s8, s11, t2, t4, t5, t6, t7, t15, dT, dF, nL]); (repeat refine Ai ?_); (try (refine hK _ ?_; clear hK K)); try refine iC ?_)) | refine Cg _ (hroot) ?_)
   rw [ho2] at hoff
   simp only [Option.map_some, List.append_nil] at hoff
   refine O5 (Dg S0 (out ++ o2)) (Ax (hout o2) (by decide) hb1) (by
    have := hU
    rw [EA (by decide) (by decide)] at this ⊢
    exact this) (fun i hi => ?_) ⟨out ++ o2, ?_, rfl⟩
   ·show AF (AF S1 11 _) 11 _ i = _
    rw [AG _ (by omega), AG _ (by omega)]
    exact hS i hi
   ·rw [List.map_append]
    exact HF ho hoff
  ·rw [show (CF v).2 = v.2 from rfl] at hrest hcase hy
   rw [show (CF v).1 = BS v.1 from rfl] at hrest
   have hyz : y.size ≤ 2000 := by rw [← hy]; exact KM
   have hpz := MY hv y
   rw [List.length_drop] at hi2
   have hge : ¬ (i : Int) < 0 := by omega
   rcases hrest with ⟨hr, _, ho2⟩ | ⟨hr, ho2⟩
   ·rw [hr] at hroot
    unfold LJ at hroot
    by_cases hgr : (BS v.1 y).size ≤ 2000
    ·have hgi : ¬ (2000 : Int) < (BS v.1 y).size := by omega
     rw [if_pos hgr] at ho2
     repeat' (first | (with_reducible first | refine W ?_ | refine Z0 ?_ | ((first | refine Wo fun K hK => ?_ | refine Wp ?_ | refine Wq ?_ | refine Wr ?_); (try simp only [go_sem, fN, seval, eT, iR, x2, x4, x5, x6, x7, x8, x9, x10, s8, s11, t2, t4, t5, t6, t7, t15, hge, IS, dT, dF, nL]); (repeat refine Ai ?_); (try (refine hK _ ?_; clear hK K)); try refine iC ?_)) | refine Cg _ (hroot) ?_)
     rw [Fe]
     refine ⟨G1 _, _, _, (PV v.1 y hsur).toS (NE _ _), ?_⟩
     have hl2 : ((out ++ o2).map Ae).length = (out ++ o2).length := by simp
     have hat : ((out ++ o2).map Ae ++ [[SV.str ⟨#[]⟩, SV.list []]])[out.length + o2.length]? = some [SV.str ⟨#[]⟩, SV.list []] := by
      rw [List.getElem?_append_right (by simp)]
      simp
     repeat' (first | (with_reducible first | refine W ?_ | refine Z0 ?_ | ((first | refine Wo fun K hK => ?_ | refine Wp ?_ | refine Wq ?_ | refine Wr ?_); (try simp only [go_sem, fN, seval, eT, iR, x2, x4, x5, x6, x7, x8, x9, x10, s8, s11, t2, t4, t5, t6, t7, t15, hge, hgi, hl2, hat, dT, dF, nL]); (repeat refine Ai ?_); (try (refine hK _ ?_; clear hK K)); try refine iC ?_)) | refine Cg _ (Nt (BS v.1 y) (by omega)) ?_ | refine Cg _ (PP (BS v.1 y) (by omega)) ?_)
     have hset : ((out ++ o2).map Ae ++ [[SV.str ⟨#[]⟩, SV.list []]]).set (out.length + o2.length) [.str (BS v.1 y).name, .list ((BS v.1 y).args.map Ae)] = (out ++ (o2 ++ [BS v.1 y])).map Ae := by
      rw [List.set_append_right _ _ (by simp)]
      simp [Ba]
     rw [hset]
     refine AI ⟨R.length - (i + 1), by omega, i + 1, o2 ++ [BS v.1 y], by omega, by simp only [List.length_append, List.length_singleton]; omega, rfl, ?_, ?_, ?_, ?_, ?_, ?_, ?_, ?_, ?_, ?_, rfl, IG (T := AF (Dg S0 (out ++ (o2 ++ [BS v.1 y]))) 1501 (some b1)) (by decide) (Ax (hout _) (by decide) hb1) fun j hj => ?_⟩
     ·rw [hoff, ho2, List.drop_drop, show f + (i + 1 - f) = i + 1 by omega, Option.map_map]
      congr 1
      funext l
      simp
     ·simp only [go_sem, fN, seval, AS.drop, Aa, AC.clears, AC.clear, AC.highs, AC.high, Bool.not_false, Bool.true_and, Bool.and_self, AV.purge, AV.purges, AC.purge, AJ.purge, List.contains_cons, List.contains_nil, Nat.reduceBEq, Bool.or_self, Bool.or_false, Bool.false_or, Bool.or_true, eT, iR, x2]
     ·simp only [go_sem, fN, seval, AS.drop, Aa, AC.clears, AC.clear, AC.highs, AC.high, Bool.not_false, Bool.true_and, Bool.and_self, AV.purge, AV.purges, AC.purge, AJ.purge, List.contains_cons, List.contains_nil, Nat.reduceBEq, Bool.or_self, Bool.or_false, Bool.false_or, Bool.or_true, eT, iR, x4]
     ·simp only [go_sem, fN, seval, AS.drop, Aa, AC.clears, AC.clear, AC.highs, AC.high, Bool.not_false, Bool.true_and, Bool.and_self, AV.purge, AV.purges, AC.purge, AJ.purge, List.contains_cons, List.contains_nil, Nat.reduceBEq, Bool.or_self, Bool.or_false, Bool.false_or, Bool.or_true, eT, iR, x5]
     ·simp only [go_sem, fN, seval, AS.drop, Aa, AC.clears, AC.clear, AC.highs, AC.high, Bool.not_false, Bool.true_and, Bool.and_self, AV.purge, AV.purges, AC.purge, AJ.purge, List.contains_cons, List.contains_nil, Nat.reduceBEq, Bool.or_self, Bool.or_false, Bool.false_or, Bool.or_true, eT, iR, x6]
     ·simp only [go_sem, fN, seval, AS.drop, Aa, AC.clears, AC.clear, AC.highs, AC.high, Bool.not_false, Bool.true_and, Bool.and_self, AV.purge, AV.purges, AC.purge, AJ.purge, List.contains_cons, List.contains_nil, Nat.reduceBEq, Bool.or_self, Bool.or_false, Bool.false_or, Bool.or_true, eT, iR, x7]
     ·simp only [go_sem, fN, seval, AS.drop, Aa, AC.clears, AC.clear, AC.highs, AC.high, Bool.not_false, Bool.true_and, Bool.and_self, AV.purge, AV.purges, AC.purge, AJ.purge, List.contains_cons, List.contains_nil, Nat.reduceBEq, Bool.or_self, Bool.or_false, Bool.false_or, Bool.or_true, eT, iR, x8]
     ·simp only [go_sem, fN, seval, AS.drop, Aa, AC.clears, AC.clear, AC.highs, AC.high, Bool.not_false, Bool.true_and, Bool.and_self, AV.purge, AV.purges, AC.purge, AJ.purge, List.contains_cons, List.contains_nil, Nat.reduceBEq, Bool.or_self, Bool.or_false, Bool.false_or, Bool.or_true, eT, iR, x9]
     ·simp only [go_sem, fN, seval, AS.drop, Aa, AC.clears, AC.clear, AC.highs, AC.high, Bool.not_false, Bool.true_and, Bool.and_self, AV.purge, AV.purges, AC.purge, AJ.purge, List.contains_cons, List.contains_nil, Nat.reduceBEq, Bool.or_self, Bool.or_false, Bool.false_or, Bool.or_true, eT, iR, x10]
      congr 3
     ·simp only [go_sem, fN, seval, AS.drop, Aa, AC.clears, AC.clear, AC.highs, AC.high, Bool.not_false, Bool.true_and, Bool.and_self, AV.purge, AV.purges, AC.purge, AJ.purge, List.contains_cons, List.contains_nil, Nat.reduceBEq, Bool.or_self, Bool.or_false, Bool.false_or, Bool.or_true, eT, iR, s8]
     ·by_cases h1 : j = 1006
      ·subst h1
       show some _ = some _
       congr 4
       simp
       omega
      ·by_cases h2 : j = 1500
       ·subst h2
        rfl
       ·show AF (AF (AF (AF (AF (AF S1 11 _) 11 _) 11 _) 1500 _) 1500 _) 1006 _ j = _
        rw [AG _ h1, AG _ h2, AG _ h2, AG _ (by omega), AG _ (by omega), AG _ (by omega), hS j hj]
        by_cases h3 : j = 1501
        ·subst h3
         rw [AB, AB]
        ·rw [AG _ h3, AG _ h3, EA h2 h1, EA h2 h1]
    ·have hgi : (2000 : Int) < (BS v.1 y).size := by omega
     rw [if_neg hgr] at ho2
     repeat' (first | (with_reducible first | refine W ?_ | refine Z0 ?_ | ((first | refine Wo fun K hK => ?_ | refine Wp ?_ | refine Wq ?_ | refine Wr ?_); (try simp only [go_sem, fN, seval, eT, iR, x2, x4, x5, x6, x7, x8, x9, x10, s8, s11, t2, t4, t5, t6, t7, t15, hge, IS, dT, dF, nL]); (repeat refine Ai ?_); (try (refine hK _ ?_; clear hK K)); try refine iC ?_)) | refine Cg _ (hroot) ?_)
     rw [Fe]
     refine ⟨G1 _, _, _, (PV v.1 y hsur).toS (NE _ _), ?_⟩
     repeat' (first | (with_reducible first | refine W ?_ | refine Z0 ?_ | ((first | refine Wo fun K hK => ?_ | refine Wp ?_ | refine Wq ?_ | refine Wr ?_); (try simp only [go_sem, fN, seval, eT, iR, x2, x4, x5, x6, x7, x8, x9, x10, s8, s11, t2, t4, t5, t6, t7, t15, hge, hgi, dT, dF, nL]); (repeat refine Ai ?_); (try (refine hK _ ?_; clear hK K)); try refine iC ?_)) | refine Cg _ (Nt (BS v.1 y) (by omega)) ?_)
     rw [ho2, Option.map_none] at hoff
     rw [u501]
     refine J7 ?_ (by decide) (by simp only [go_sem, fN, seval, eT, iR, t1501]) ⟨rfl, hbad hoff, ?_, ?_⟩
     ·repeat (first | exact hhi | refine JT ?_ (by decide) | refine Jf ?_ rfl)
     ·rw [KX (by decide) (by decide)]
      simp only [go_sem, fN, seval, eT, iR]
     ·rw [KX (by decide) (by decide)]
      simp only [go_sem, fN, seval, eT, iR]
   ·rw [hr] at hroot
    unfold LJ at hroot
    all_goals
     repeat' (first | (with_reducible first | refine W ?_ | refine Z0 ?_ | ((first | refine Wo fun K hK => ?_ | refine Wp ?_ | refine Wq ?_ | refine Wr ?_); (try simp only [go_sem, fN, seval, eT, iR, x2, x4, x5, x6, x7, x8, x9, x10, s8, s11, t2, t4, t5, t6, t7, t15, hge, dT, dF, nL]); (repeat refine Ai ?_); (try (refine hK _ ?_; clear hK K)); try refine iC ?_)) | refine Cg _ (hroot) ?_)
     rw [ho2, Option.map_none] at hoff
     rw [u501]
     refine J7 ?_ (by decide) (by simp only [go_sem, fN, seval, eT, iR, t1501]) ⟨rfl, hbad hoff, ?_, ?_⟩
     ·repeat (first | exact hhi | refine JT ?_ (by decide) | refine Jf ?_ rfl)
     ·rw [KX (by decide) (by decide)]
      simp only [go_sem, fN, seval, eT, iR]
     ·rw [KX (by decide) (by decide)]
      simp only [go_sem, fN, seval, eT, iR]
 ·rintro U ⟨out, ho, rfl⟩
  rw [ho]
  have hdn : dnS (Dg S0 out) = AF (AF S0 500 (some (.mrow 25 2 (out.map Ae)))) 6 (some (.box 23 [.row 500 out.length])) := by
   show dnS (AF (AF (upS S0) (up1 500) _) (up1 6) _) = _
   rw [Kk, Kk, Ke]
   rfl
  rw [hdn]
  refine Wi ?_
  refine Wb ?_
  have hl : (out.map Ae).length = out.length := by simp
  refine IWP.ghost (AW.share (id := 500) (e := 25) (wd := 2) (xs := out.map Ae) (by simp only [go_sem, fN, seval, eT, iR])) ?_
  unfold C7
  repeat' with_reducible first | refine W ?_ | refine Z0 ?_ | ((first | refine Wo fun K hK => ?_ | refine Wp ?_ | refine Wq ?_ | refine Wr ?_); (try simp only [go_sem, fN, seval, eT, iR, e2, e4, e5, e6, e7, s4, s5, hl, dT, dF, nL]); (repeat refine Ai ?_); (try (refine hK _ ?_; clear hK K)); try refine iC ?_)
  simp only [go_sem, fN, seval, AQ, AS.result, AD, AE, AL, e4, e5, s4, s5, hl]
 ·rintro ex U ⟨rfl, ho, u4, u5⟩
  rw [ho]
  have d4 : dnS U 4 = some (.box 23 [.full []]) := Eh (i := 1004) (by decide) u4
  have d5 : dnS U 5 = some (MR 8) := Eh (i := 1005) (by decide) u5
  refine Wl ?_
  refine Wh ?_
  unfold C7
  simp only [go_sem, fN, seval, AQ, AS.result, AD, AE, AL, e4, e5, d4, d5]
  rfl

set_option maxRecDepth 100000
def Gf : IR :=
 (.seq (.ops [.i 2 (.box 25 (.t 0)), .i 4 (.alloc 25 [.st (.str (ByteArray.mk (#[]))), .full []]), .i 5 (.mov (.c (.one (.st (.bool false)))))]) (.seq (.seq (.ops [.m 6 1, .i 7 (.len false (.t 6)), .i 8 (.bin .eql (.t 7) (.n 0))]) (.cond (.t 8) (.seq (.ops [.L 9 2 2, .s 2 4 9, .i 5 (.mov (.c (.one (.st (.bool true)))))]) .ret) .skip)) (.seq (.seq (.ops [.m 10 1, .i 11 (.indexAddr 1 (.t 10) (.n 0)), .l 12 11, .i 13 (.bin .lss (.t 12) (.n 0)), .m 14 13, .mk (some 15) (some (14, false)) (.mov (.t 1)) .no, .mk (some 16) (some (14, false)) (.indexAddr 1 (.t 15) (.n 0)) .no, .mk (some 17) (some (14, false)) (.load false 1 (.t 16)) .no, .mk (some 18) (some (14, false)) (.fieldAddr 1 (.t 2)) .no, .mk (some 19) (some (14, false)) (.load false 1 (.t 18)) .no, .mk (some 20) (some (14, false)) (.len false (.t 19)) .no, .mk (some 21) (some (14, false)) (.bin .geq (.t 17) (.t 20)) .no, .i 22 (.pick (.t 14) (.c (.one (.st (.bool true)))) (.t 21))]) (.cond (.t 22) (.seq (.ops [.i 23 (.build [.st (.str (ByteArray.mk (#[]))), .full []] []), .s 2 4 23, .i 5 (.mov (.c (.one (.st (.bool false)))))]) .ret) .skip)) (.seq (.ops [.f 24 1 2, .l 25 24, .m 26 1, .i 27 (.indexAddr 1 (.t 26) (.n 0)), .l 28 27, .i 29 (.indexAddr 2 (.t 25) (.t 28)), .L 30 2 29, .m 31 1, .i 32 (.sliceL 1 (.t 31) (some (.n 1)) none), .i 33 (.call 45 [.t 30, .t 32]), .i 34 (.extract 0 (.t 33)), .i 35 (.extract 1 (.t 33)), .s 2 4 34, .m 5 35]) .ret))))
theorem KJ : OkF Tryz.prog 45 36 [] Gf [.cell 4 true 2, .t 5] := .of Tryz.func45 rfl rfl (by kernel_rfl) rfl
def FM : IR :=
 (.seq (.ops [.i 3 (.box 25 (.t 0)), .i 5 (.box 25 (.t 2)), .i 6 (.alloc 25 [.st (.str (ByteArray.mk (#[]))), .full []])]) (.seq (.seq (.ops [.m 9 1, .i 10 (.len false (.t 9)), .i 11 (.bin .eql (.t 10) (.n 0))]) (.cond (.t 11) (.seq (.ops [.L 12 2 5, .s 2 6 12]) .ret) .skip)) (.seq (.ops [.f 13 0 3, .l 14 13, .i 15 (.build [.st (.str (ByteArray.mk (#[]))), .full []] [(0, 1, .t 14)]), .i 7 (.alloc 25 [.st (.str (ByteArray.mk (#[]))), .full []]), .s 2 7 15]) (.seq (.seq (.ops [.i 8 (.mov (.n 0))]) (.block 0 (.loop (.seq (.seq (.ops [.m 16 8, .f 17 1 3, .l 18 17, .i 19 (.len false (.t 18)), .i 20 (.bin .lss (.t 16) (.t 19))]) (.cond (.t 20) .skip (.exit 0))) (.seq (.block 1 (.seq (.ops [.m 23 8, .m 24 1, .i 25 (.indexAddr 1 (.t 24) (.n 0)), .l 26 25, .i 27 (.bin .eql (.t 23) (.t 26))]) (.cond (.t 27) (.ops [.f 28 1 7, .l 29 28, .f 30 1 3, .l 31 30, .m 32 8, .i 33 (.indexAddr 2 (.t 31) (.t 32)), .L 34 2 33, .m 35 1, .i 36 (.sliceL 1 (.t 35) (some (.n 1)) none), .L 37 2 5, .i 38 (.call 47 [.t 34, .t 36, .t 37]), .i 39 (.buildSlice false 25 2 [.t 38]), .i 40 (.append false 25 2 40 (.t 29) (.t 39)), .f 41 1 7, .s 1 41 40]) (.ops [.f 42 1 7, .l 43 42, .f 44 1 3, .l 45 44, .m 46 8, .i 47 (.indexAddr 2 (.t 45) (.t 46)), .L 48 2 47, .i 49 (.buildSlice false 25 2 [.t 48]), .i 50 (.append false 25 2 40 (.t 43) (.t 49)), .f 51 1 7, .s 1 51 50])))) (.ops [.m 21 8, .i 22 (.bin .add (.t 21) (.n 1)), .m 8 22])))))) (.seq (.ops [.L 52 2 7, .s 2 6 52]) .ret)))))
theorem IE : OkF Tryz.prog 47 53 [] FM [.cell 6 true 2] := .of Tryz.func47 rfl rfl (by kernel_rfl) rfl
def FA : IR :=
 (.seq (.ops [.i 1 (.box 25 (.t 0)), .i 2 (.mov (.c (.one (.full []))))]) (.seq (.ops [.i 7 (.buildSlice false 39 1 [.c (.one (.full []))]), .m 3 7]) (.seq (.seq (.ops [.i 4 (.mov (.n 0))]) (.block 0 (.loop (.seq (.seq (.ops [.m 8 4, .f 9 1 1, .l 10 9, .i 11 (.len false (.t 10)), .i 12 (.bin .lss (.t 8) (.t 11))]) (.cond (.t 12) .skip (.exit 0))) (.seq (.block 1 (.seq (.ops [.f 15 1 1, .l 16 15, .m 17 4, .i 18 (.indexAddr 2 (.t 16) (.t 17)), .L 19 2 18, .i 20 (.call 44 [.t 19]), .m 5 20]) (.seq (.ops [.i 6 (.mov (.n 0))]) (.block 2 (.loop (.seq (.seq (.ops [.m 21 6, .m 22 5, .i 23 (.len false (.t 22)), .i 24 (.bin .lss (.t 21) (.t 23))]) (.cond (.t 24) .skip (.exit 2))) (.seq (.block 3 (.ops [.m 27 3, .m 28 4, .i 29 (.buildFlat [.t 28]), .m 30 5, .m 31 6, .i 32 (.indexAddr 1 (.t 30) (.t 31)), .l 33 32, .i 34 (.append false 3 1 8 (.t 29) (.t 33)), .i 35 (.buildSlice false 39 1 [.t 34]), .i 36 (.append false 39 1 24 (.t 27) (.t 35)), .m 3 36])) (.ops [.m 25 6, .i 26 (.bin .add (.t 25) (.n 1)), .m 6 26])))))))) (.ops [.m 13 4, .i 14 (.bin .add (.t 13) (.n 1)), .m 4 14])))))) (.seq (.ops [.m 37 3, .m 2 37]) .ret))))
theorem I2 : OkF Tryz.prog 44 38 [] FA [.t 2] := .of Tryz.func44 rfl rfl (by kernel_rfl) rfl

theorem RX (p : List Int) : ∀ t : Tm, AT Tryz.prog 45 [aTm t, PC p] (.tup [aTm ((t.atP p).getD Tm.nil), Ah (t.atP p).isSome]) := by
 induction p with
 | nil =>
  intro t
  rw [Tm.atP_nil]
  refine KJ.ac fun C hC => ?_
  unfold Gf
  repeat' with_reducible first | refine W ?_ | refine Z0 ?_ | ((first | refine Wo fun K hK => ?_ | refine Wp ?_ | refine Wq ?_ | refine Wr ?_); (try simp only [go_sem, fN, seval, eT, iR, dT, dF, nL]); (repeat refine Ai ?_); (try (refine hK _ ?_; clear hK K)); try refine iC ?_)
  simp only [go_sem, fN, seval, AQ, AS.result, AD, AE, AL]
 | cons i p ih =>
  intro t
  rw [Tm.atP_cons]
  have htk : List.take p.length (List.map OL p) = List.map OL p := by rw [List.take_of_length_le (by simp)]
  have hl1 : ¬ ((p.length + 1 : Nat) : Int) = 0 := by omega
  refine KJ.ac fun C hC => ?_
  unfold Gf
  by_cases h0 : i < 0
  ·rw [if_pos h0]
   repeat' with_reducible first | refine W ?_ | refine Z0 ?_ | ((first | refine Wo fun K hK => ?_ | refine Wp ?_ | refine Wq ?_ | refine Wr ?_); (try simp only [go_sem, fN, seval, eT, iR, h0, hl1, dT, dF, nL]); (repeat refine Ai ?_); (try (refine hK _ ?_; clear hK K)); try refine iC ?_)
   simp only [go_sem, fN, seval, AQ, AS.result, AD, AE, AL]
   rfl
  ·rw [if_neg h0]
   obtain ⟨k, rfl⟩ : ∃ k : Nat, i = k := ⟨i.toNat, by omega⟩
   rw [Int.toNat_natCast]
   by_cases h1 : (t.args.length : Int) ≤ k
   ·rw [List.getElem?_eq_none (by omega)]
    repeat' with_reducible first | refine W ?_ | refine Z0 ?_ | ((first | refine Wo fun K hK => ?_ | refine Wp ?_ | refine Wq ?_ | refine Wr ?_); (try simp only [go_sem, fN, seval, eT, iR, h0, h1, hl1, dT, dF, nL]); (repeat refine Ai ?_); (try (refine hK _ ?_; clear hK K)); try refine iC ?_)
    simp only [go_sem, fN, seval, AQ, AS.result, AD, AE, AL]
    rfl
   ·obtain ⟨a, ha⟩ := Ac (show k < t.args.length by omega)
    rw [ha]
    repeat' (first | (with_reducible first | refine W ?_ | refine Z0 ?_ | ((first | refine Wo fun K hK => ?_ | refine Wp ?_ | refine Wq ?_ | refine Wr ?_); (try simp only [go_sem, fN, seval, eT, iR, h0, h1, ha, hl1, htk, dT, dF, nL]); (repeat refine Ai ?_); (try (refine hK _ ?_; clear hK K)); try refine iC ?_)) | refine Cg _ (ih a) ?_)
    simp only [go_sem, fN, seval, AQ, AS.result, AD, AE, AL]
theorem Qy (p : List Int) : ∀ t : Tm, t.size ≤ 1000000 → ∀ x : Tm, (t.atP p).isSome = true → AT Tryz.prog 47 [aTm t, PC p, aTm x] (aTm (t.putP p x)) := by
 induction p with
 | nil =>
  intro t hz x hat
  rw [Tm.putP_nil]
  refine IE.ac fun C hC => ?_
  unfold FM
  repeat' with_reducible first | refine W ?_ | refine Z0 ?_ | ((first | refine Wo fun K hK => ?_ | refine Wp ?_ | refine Wq ?_ | refine Wr ?_); (try simp only [go_sem, fN, seval, eT, iR, dT, dF, nL]); (repeat refine Ai ?_); (try (refine hK _ ?_; clear hK K)); try refine iC ?_)
  simp only [go_sem, fN, seval, AQ, AS.result, AD, AE, AL]
 | cons i p ih =>
  intro t hz x hat
  have hs := Tm.size_eq t
  have hkn := Tm.length_le t.args
  rw [Tm.atP_cons] at hat
  have h0 : ¬ i < 0 := fun h => by rw [if_pos h] at hat; cases hat
  rw [if_neg h0] at hat
  obtain ⟨j, rfl⟩ : ∃ k : Nat, i = k := ⟨i.toNat, by omega⟩
  rw [Int.toNat_natCast] at hat
  obtain ⟨b, hb⟩ : ∃ b, t.args[j]? = some b := by
   cases h : t.args[j]? with
   | none => rw [h] at hat; cases hat
   | some b => exact ⟨b, rfl⟩
  rw [hb] at hat
  dsimp only at hat
  have hjl := Bo hb
  rw [Tm.putP_at hb]
  have htk : List.take p.length (List.map OL p) = List.map OL p := by rw [List.take_of_length_le (by simp)]
  have hl1 : ¬ ((p.length + 1 : Nat) : Int) = 0 := by omega
  refine IE.ac fun C hC => ?_
  unfold FM
  repeat' with_reducible first | refine W ?_ | refine Z0 ?_ | ((first | refine Wo fun K hK => ?_ | refine Wp ?_ | refine Wq ?_ | refine Wr ?_); (try simp only [go_sem, fN, seval, eT, iR, hl1, dT, dF, nL]); (repeat refine Ai ?_); (try (refine hK _ ?_; clear hK K)); try refine iC ?_)
  refine IWP.ghost (AW.ownC 7 1 60 25 2 (xs := ([] : List Tm).map Ae) rfl rfl rfl C1) ?_
  refine IWP.loop (fun m s => ∃ k, k ≤ t.args.length ∧ m = t.args.length - k ∧ s.env 1 = PC ((j : Int) :: p) ∧ s.env 3 = .one (.ptr 3 1 0 0) ∧ s.env 5 = .one (.ptr 5 1 0 0) ∧ s.env 6 = .one (.ptr 6 1 0 0) ∧ s.env 7 = .one (.ptr 7 1 0 0) ∧ s.S 3 = some (.box 25 [.st (.str t.name), .st (.list (t.args.map Ae))]) ∧ s.S 5 = some (.box 25 [.st (.str x.name), .st (.list (x.args.map Ae))]) ∧ s.S 6 = some (.box 25 [.st (.str ⟨#[]⟩), .full []]) ∧ s.S 7 = some (.box 25 [.st (.str t.name), .row 60 k]) ∧ s.S 60 = some (.arow 25 2 (((t.args.set j (b.putP p x)).take k).map Ae)) ∧ s.env 8 = Ab k)
   t.args.length ⟨0, Nat.zero_le _, rfl, rfl, rfl, rfl, rfl, rfl, rfl, rfl, rfl, rfl, rfl, rfl⟩ ?_
  rintro m ⟨env, S⟩ ⟨k, hk, rfl, e1, e3, e5, e6, e7, s3, s5, s6, s7, s60, e8⟩
  simp only at e1 e3 e5 e6 e7 s3 s5 s6 s7 s60 e8
  have hlk : ((t.args.set j (b.putP p x)).take k).length = k := by rw [List.length_take, List.length_set]; omega
  by_cases hlt : (k : Int) < t.args.length
  ·obtain ⟨a, ha⟩ := Ac (show k < t.args.length by omega)
   by_cases hkj : (k : Int) = j
   ·have hkj' : k = j := by omega
    subst hkj'
    have hset : (t.args.set k (b.putP p x))[k]? = some (b.putP p x) := by rw [List.getElem?_set_self hjl]
    repeat' (first | (with_reducible first | refine W ?_ | refine Z0 ?_ | ((first | refine Wo fun K hK => ?_ | refine Wp ?_ | refine Wq ?_ | refine Wr ?_); (try simp only [go_sem, fN, seval, eT, iR, e1, e3, e5, e6, e7, s3, s5, s6, s7, s60, e8, hlt, hb, htk, hlk, dT, dF, nL]); (repeat refine Ai ?_); (try (refine hK _ ?_; clear hK K)); try refine iC ?_)) | refine Cg _ (ih b (by have := Tm.size_mem (AO hb); omega) x hat) ?_)
    refine AI ⟨t.args.length - (k + 1), by omega, k + 1, by omega, rfl, ?_⟩
    simp only [go_sem, fN, seval, eT, iR, e1, e3, e5, e6, e7, s3, s5, s6, s7, s60, e8]
    exact ⟨by rw [Am hset]; simp [Ba], by congr 3⟩
   ·have hkj' : j ≠ k := by omega
    have hset : (t.args.set j (b.putP p x))[k]? = some a := by rw [List.getElem?_set_ne hkj', ha]
    repeat' with_reducible first | refine W ?_ | refine Z0 ?_ | ((first | refine Wo fun K hK => ?_ | refine Wp ?_ | refine Wq ?_ | refine Wr ?_); (try simp only [go_sem, fN, seval, eT, iR, e1, e3, e5, e6, e7, s3, s5, s6, s7, s60, e8, hlt, hkj, ha, hlk, dT, dF, nL]); (repeat refine Ai ?_); (try (refine hK _ ?_; clear hK K)); try refine iC ?_)
    refine AI ⟨t.args.length - (k + 1), by omega, k + 1, by omega, rfl, ?_⟩
    simp only [go_sem, fN, seval, eT, iR, e1, e3, e5, e6, e7, s3, s5, s6, s7, s60, e8]
    exact ⟨by rw [Am hset]; simp [Ba], by congr 3⟩
  ·have hall : (t.args.set j (b.putP p x)).take k = t.args.set j (b.putP p x) := List.take_of_length_le (by rw [List.length_set]; omega)
   rw [hall] at hlk s60
   repeat' with_reducible first | refine W ?_ | refine Z0 ?_ | ((first | refine Wo fun K hK => ?_ | refine Wp ?_ | refine Wq ?_ | refine Wr ?_); (try simp only [go_sem, fN, seval, eT, iR, e1, e3, e5, e6, e7, s3, s5, s6, s7, s60, e8, hlt, hlk, dT, dF, nL]); (repeat refine Ai ?_); (try (refine hK _ ?_; clear hK K)); try refine iC ?_)
   simp only [go_sem, fN, seval, AQ, AS.result, AD, AE, AL, e6, s60, hlk]
   rfl
theorem OC (t : Tm) (hz : t.size ≤ 1000000) : AT Tryz.prog 44 [aTm t] (Qz t.places) := by
 induction h : SizeOf.sizeOf t using Nat.strongRecOn generalizing t with
 | _ N ih =>
 subst h
 have hs := Tm.size_eq t
 have hkn := Tm.length_le t.args
 refine I2.ac fun C hC => ?_
 unfold FA
 repeat' with_reducible first | refine W ?_ | refine Z0 ?_ | ((first | refine Wo fun K hK => ?_ | refine Wp ?_ | refine Wq ?_ | refine Wr ?_); (try simp only [go_sem, fN, seval, eT, iR, dT, dF, nL]); (repeat refine Ai ?_); (try (refine hK _ ?_; clear hK K)); try refine iC ?_)
 refine IWP.ghost (AW.own 3 60 39 1 (xs := ([[]] : List (List Int)).map N2) (by simp only [go_sem, fN, seval, eT, iR]; rfl) rfl (by simp) (by omega)) ?_
 refine IWP.loop (fun m s => ∃ k, k ≤ t.args.length ∧ m = t.args.length - k ∧ s.env 1 = .one (.ptr 1 1 0 0) ∧ s.S 1 = some (.box 25 [.st (.str t.name), .st (.list (t.args.map Ae))]) ∧ s.env 3 = .one (.row 60 (t.placesTo k).length) ∧ s.S 60 = some (.arow 39 1 ((t.placesTo k).map N2)) ∧ s.env 4 = Ab k ∧ s.S 34 = none)
  t.args.length ⟨0, Nat.zero_le _, rfl, rfl, rfl, rfl, rfl, rfl, rfl⟩ ?_
 rintro m ⟨env, S⟩ ⟨k, hk, rfl, e1, s1, e3, s60, e4, s34⟩
 simp only at e1 s1 e3 s60 e4 s34
 by_cases hlt : (k : Int) < t.args.length
 ·obtain ⟨a, ha⟩ := Ac (show k < t.args.length by omega)
  have hsz := Tm.size_mem (AO ha)
  have hpl := Tm.places_length a
  have hto := Tm.placesTo_length t k
  have hst := Tm.sizes_take ha
  have hst2 := Tm.sizes_take_le t.args (k + 1)
  repeat' (first | (with_reducible first | refine W ?_ | refine Z0 ?_ | ((first | refine Wo fun K hK => ?_ | refine Wp ?_ | refine Wq ?_ | refine Wr ?_); (try simp only [go_sem, fN, seval, eT, iR, e1, s1, e3, s60, e4, hlt, ha, dT, dF, nL]); (repeat refine Ai ?_); (try (refine hK _ ?_; clear hK K)); try refine iC ?_)) | refine Cg _ (ih _ (Tm.lt_of_arg (AO ha)) a (by omega) rfl) ?_)
  refine IWP.loopD [34] (fun m s => ∃ i, i ≤ a.places.length ∧ m = a.places.length - i ∧ s.env 1 = .one (.ptr 1 1 0 0) ∧ s.S 1 = some (.box 25 [.st (.str t.name), .st (.list (t.args.map Ae))]) ∧ s.env 3 = .one (.row 60 (t.placesTo k ++ (a.places.take i).map fun p => (k : Int) :: p).length) ∧ s.S 60 = some (.arow 39 1 ((t.placesTo k ++ (a.places.take i).map fun p => (k : Int) :: p).map N2)) ∧ s.env 4 = Ab k ∧ s.env 5 = Qz a.places ∧ s.env 6 = Ab i ∧ s.S 34 = none)
   a.places.length ⟨0, Nat.zero_le _, rfl, ?_⟩ ?_
  ·simp only [go_sem, fN, seval, eT, iR, e1, s1, e3, s60, e4, s34]
  rintro m ⟨env, S⟩ ⟨i, hi, rfl, e1, s1, e3, s60, e4, e5, e6, s34⟩
  simp only at e1 s1 e3 s60 e4 e5 e6 s34
  have hlen : (t.placesTo k ++ (a.places.take i).map fun p => (k : Int) :: p).length ≤ 1000000 := by
   rw [List.length_append, List.length_map, List.length_take]
   omega
  by_cases hli : (i : Int) < a.places.length
  ·obtain ⟨p, hp⟩ := Ac (show i < a.places.length by omega)
   have hd := Tm.places_deep a p (AO hp)
   repeat' with_reducible first | refine W ?_ | refine Z0 ?_ | ((first | refine Wo fun K hK => ?_ | refine Wp ?_ | refine Wq ?_ | refine Wr ?_); (try simp only [go_sem, fN, seval, eT, iR, e1, s1, e3, s60, e4, e5, e6, s34, hli, hp, dT, dF, nL]); (repeat refine Ai ?_); (try (refine hK _ ?_; clear hK K)); try refine iC ?_)
   refine AI ⟨a.places.length - (i + 1), by omega, i + 1, by omega, rfl, ?_⟩
   simp only [go_sem, fN, seval, AS.drop, Aa, AC.clears, AC.clear, AC.highs, AC.high, Bool.not_false, Bool.true_and, Bool.and_self, AV.purge, AV.purges, AC.purge, AJ.purge, List.contains_cons, List.contains_nil, Nat.reduceBEq, Bool.or_self, Bool.or_false, Bool.false_or, Bool.or_true, eT, iR, e1, s1, e3, s60, e4, e5, e6, s34]
   rw [Am hp]
   refine ⟨?_, ?_, rfl⟩
   ·simp
    omega
   ·simp
  ·repeat' with_reducible first | refine W ?_ | refine Z0 ?_ | ((first | refine Wo fun K hK => ?_ | refine Wp ?_ | refine Wq ?_ | refine Wr ?_); (try simp only [go_sem, fN, seval, eT, iR, e1, s1, e3, s60, e4, e5, e6, s34, hli, dT, dF, nL]); (repeat refine Ai ?_); (try (refine hK _ ?_; clear hK K)); try refine iC ?_)
   refine AI ⟨t.args.length - (k + 1), by omega, k + 1, by omega, rfl, ?_⟩
   have e9 : (t.placesTo k ++ (a.places.take i).map fun p => (k : Int) :: p) = t.placesTo (k + 1) := by
    rw [List.take_of_length_le (by omega), Tm.placesTo_succ ha]
   rw [e9] at e3 s60
   exact ⟨e1, s1, e3, s60, rfl, s34⟩
 ·repeat' with_reducible first | refine W ?_ | refine Z0 ?_ | ((first | refine Wo fun K hK => ?_ | refine Wp ?_ | refine Wq ?_ | refine Wr ?_); (try simp only [go_sem, fN, seval, eT, iR, e1, s1, e3, s60, e4, hlt, dT, dF, nL]); (repeat refine Ai ?_); (try (refine hK _ ?_; clear hK K)); try refine iC ?_)
  simp only [go_sem, fN, seval, AQ, AS.result, AD, AE, AL, e3, s60]
  rw [Tm.placesTo_all (by omega)]

abbrev GF (l : List Bd) : AJ := .arow 138 3 (l.map B2)
def mtV (i : Nat) (p t : Tm) (l : List Bd) : AV := if (Aw p.name || (p.mt t l).2) = true then .one (.row i (p.mt t l).1.length) else .one (.full [])
theorem Kl {i : Nat} {p t : Tm} {l : List Bd} (h : (p.mt t l).2 = true) : mtV i p t l = .one (.row i (p.mt t l).1.length) := by unfold mtV; rw [h, Bool.or_true, if_pos rfl]
theorem No {i : Nat} {p t : Tm} {l : List Bd} (h : Aw p.name = true) : mtV i p t l = .one (.row i (p.mt t l).1.length) := by unfold mtV; rw [h, Bool.true_or, if_pos rfl]
theorem NK {i : Nat} {p t : Tm} {l : List Bd} (hv : Aw p.name = false) (h : (p.mt t l).2 = false) : mtV i p t l = .one (.full []) := by unfold mtV; rw [h, hv]; rfl
theorem F9 (p : Tm) (hz : p.size ≤ 1000000)
  (ih : ∀ a ∈ p.args, ∀ (t : Tm) (i : Nat) (l : List Bd) (S : AA), 1000 ≤ i → l.length + a.size ≤ 2000000 → S i = some (GF l) →
   Ak Tryz.prog 100 [aTm a, aTm t, .one (.row i l.length)] S (.tup [mtV i a t l, Ah (a.mt t l).2]) (AF S i (some (GF (a.mt t l).1))))
  (C : Ctx) (hC : C.n = 75) (t : Tm) (i : Nat) (hi : 100 < i) (l : List Bd) (hl : l.length + p.size ≤ 2000000) (S : AA) (hS : ∀ j, j < 100 → S j = none) (si : S i = some (GF l)) (env : Nat → AV) (e0 : env 0 = aTm p) (e1 : env 1 = aTm t) (e2 : env 2 = .one (.row i l.length))
  (Q : AX → AS → Prop) (hQ : ∀ env' S', env' 6 = mtV i p t l → env' 7 = Ah (p.mt t l).2 → S' i = some (GF (p.mt t l).1) → (∀ j, 100 ≤ j → j ≠ i → S' j = S j) → Q .ret ⟨env', S'⟩) :
  IWP Tryz.prog C [68] D9 Q ⟨env, S⟩ := by
 have hs := Tm.size_eq p
 have hln := Tm.length_le p.args
 have n3 : S 3 = none := hS 3 (by omega)
 have n4 : S 4 = none := hS 4 (by omega)
 have n8 : S 8 = none := hS 8 (by omega)
 have d3 : ¬ 3 = i := by omega
 have d4 : ¬ 4 = i := by omega
 have d8 : ¬ 8 = i := by omega
 have f3 : ¬ i = 3 := by omega
 have f4 : ¬ i = 4 := by omega
 have f8 : ¬ i = 8 := by omega
 unfold D9
 repeat' with_reducible first | refine W ?_ | refine Z0 ?_ | ((first | refine Wo fun K hK => ?_ | refine Wp ?_ | refine Wq ?_ | refine Wr ?_); (try simp only [go_sem, fN, seval, eT, iR, n3, n4, e0, e1, e2, dT, dF, nL]); (repeat refine Ai ?_); (try (refine hK _ ?_; clear hK K)); try refine iC ?_)
 refine ⟨_, GC _, ?_⟩
 cases hv : Aw p.name with
 | true =>
  repeat' with_reducible first | refine W ?_ | refine Z0 ?_ | ((first | refine Wo fun K hK => ?_ | refine Wp ?_ | refine Wq ?_ | refine Wr ?_); (try simp only [go_sem, fN, seval, eT, iR, hv, n3, n4, n8, d3, d4, d8, f3, f4, f8, e0, e1, e2, si, dT, dF, nL]); (repeat refine Ai ?_); (try (refine hK _ ?_; clear hK K)); try refine iC ?_)
  refine ⟨_, MN l p.name, ?_⟩
  cases hlk : lookup l p.name with
  | some x =>
   repeat' (first | (with_reducible first | refine W ?_ | refine Z0 ?_ | ((first | refine Wo fun K hK => ?_ | refine Wp ?_ | refine Wq ?_ | refine Wr ?_); (try simp only [go_sem, fN, seval, eT, iR, hlk, n3, n4, n8, d3, d4, d8, f3, f4, f8, e0, e1, e2, si, Option.getD_some, Option.isSome_some, dT, dF, nL]); (repeat refine Ai ?_); (try (refine hK _ ?_; clear hK K)); try refine iC ?_)) | refine Cg _ (Q3 _ _) ?_)
   have hm := Tm.mt_old (t := t) hv hlk
   refine hQ _ _ ?_ ?_ ?_ fun j hj hne => ?_
   ·rw [No hv, hm]
    simp only [go_sem, fN, seval, eT, iR]
   ·rw [hm]
    simp only [go_sem, fN, seval, eT, iR]
   ·rw [hm]
    simp only [go_sem, fN, seval, eT, iR, f3, f4, f8, si]
   ·have j3 : ¬ j = 3 := by omega
    have j4 : ¬ j = 4 := by omega
    have j8 : ¬ j = 8 := by omega
    simp only [go_sem, fN, seval, eT, iR, j3, j4, j8]
  | none =>
   repeat' with_reducible first | refine W ?_ | refine Z0 ?_ | ((first | refine Wo fun K hK => ?_ | refine Wp ?_ | refine Wq ?_ | refine Wr ?_); (try simp only [go_sem, fN, seval, eT, iR, hlk, n3, n4, n8, d3, d4, d8, f3, f4, f8, e0, e1, e2, si, Option.getD_none, Option.isSome_none, B2, dT, dF, nL]); (repeat refine Ai ?_); (try (refine hK _ ?_; clear hK K)); try refine iC ?_)
   have hm := Tm.mt_new (t := t) hv hlk
   refine hQ _ _ ?_ ?_ ?_ fun j hj hne => ?_
   ·rw [No hv, hm, List.length_append]
    simp only [go_sem, fN, seval, eT, iR]
   ·rw [hm]
    simp only [go_sem, fN, seval, eT, iR]
   ·rw [hm]
    simp only [go_sem, fN, seval, eT, iR, f3, f4, f8, si]
    rw [GF, List.map_append]
    rfl
   ·have j3 : ¬ j = 3 := by omega
    have j4 : ¬ j = 4 := by omega
    have j8 : ¬ j = 8 := by omega
    simp only [go_sem, fN, seval, eT, iR, j3, j4, j8, hne]
 | false =>
  by_cases hn : p.name = t.name
  case neg =>
   have hc : ¬ (p.name = t.name ∧ p.args.length = t.args.length) := fun h => hn h.1
   have hm := Tm.mt_clash (l := l) hv hc
   repeat' with_reducible first | refine W ?_ | refine Z0 ?_ | ((first | refine Wo fun K hK => ?_ | refine Wp ?_ | refine Wq ?_ | refine Wr ?_); (try simp only [go_sem, fN, seval, eT, iR, hv, n3, n4, n8, d3, d4, d8, f3, f4, f8, e0, e1, e2, si, hn, dT, dF, nL]); (repeat refine Ai ?_); (try (refine hK _ ?_; clear hK K)); try refine iC ?_)
   refine hQ _ _ ?_ ?_ ?_ fun j hj hne => ?_
   ·rw [NK hv (by rw [hm])]
    simp only [go_sem, fN, seval, eT, iR]
   ·rw [hm]
    simp only [go_sem, fN, seval, eT, iR]
   ·rw [hm]
    simp only [go_sem, fN, seval, eT, iR, f3, f4, si]
   ·have j3 : ¬ j = 3 := by omega
    have j4 : ¬ j = 4 := by omega
    simp only [go_sem, fN, seval, eT, iR, j3, j4]
  by_cases hlen : p.args.length = t.args.length
  case neg =>
   have hc : ¬ (p.name = t.name ∧ p.args.length = t.args.length) := fun h => hlen h.2
   have hlen' : ¬ (p.args.length : Int) = t.args.length := by omega
   have hm := Tm.mt_clash (l := l) hv hc
   repeat' with_reducible first | refine W ?_ | refine Z0 ?_ | ((first | refine Wo fun K hK => ?_ | refine Wp ?_ | refine Wq ?_ | refine Wr ?_); (try simp only [go_sem, fN, seval, eT, iR, hv, n3, n4, n8, d3, d4, d8, f3, f4, f8, e0, e1, e2, si, hn, hlen', dT, dF, nL]); (repeat refine Ai ?_); (try (refine hK _ ?_; clear hK K)); try refine iC ?_)
   refine hQ _ _ ?_ ?_ ?_ fun j hj hne => ?_
   ·rw [NK hv (by rw [hm])]
    simp only [go_sem, fN, seval, eT, iR]
   ·rw [hm]
    simp only [go_sem, fN, seval, eT, iR]
   ·rw [hm]
    simp only [go_sem, fN, seval, eT, iR, f3, f4, si]
   ·have j3 : ¬ j = 3 := by omega
    have j4 : ¬ j = 4 := by omega
    simp only [go_sem, fN, seval, eT, iR, j3, j4]
  have hlen' : (p.args.length : Int) = t.args.length := by omega
  have hknot : p.mt t l = Tm.mtL p.args t.args l := Tm.mt_knot hv hn hlen
  repeat' with_reducible first | refine W ?_ | refine Z0 ?_ | ((first | refine Wo fun K hK => ?_ | refine Wp ?_ | refine Wq ?_ | refine Wr ?_); (try simp only [go_sem, fN, seval, eT, iR, hv, n3, n4, n8, d3, d4, d8, f3, f4, f8, e0, e1, e2, si, hn, hlen', dT, dF, nL]); (repeat refine Ai ?_); (try (refine hK _ ?_; clear hK K)); try refine iC ?_)
  refine IWP.loop (fun m x => ∃ k, k ≤ p.args.length ∧ m = p.args.length - k ∧ (Tm.mtL (p.args.take k) (t.args.take k) l).2 = true ∧ x.env 2 = .one (.row i (Tm.mtL (p.args.take k) (t.args.take k) l).1.length) ∧ x.env 3 = .one (.ptr 3 1 0 0) ∧ x.env 4 = .one (.ptr 4 1 0 0) ∧ x.env 10 = Ab k ∧
    x.S 3 = some (.box 25 [.st (.str t.name), .st (.list (p.args.map Ae))]) ∧ x.S 4 = some (.box 25 [.st (.str t.name), .st (.list (t.args.map Ae))]) ∧ x.S i = some (GF (Tm.mtL (p.args.take k) (t.args.take k) l).1) ∧ ∀ j, 100 ≤ j → j ≠ i → x.S j = S j)
   p.args.length ⟨0, Nat.zero_le _, rfl, by simp [Tm.mtL], by (simp only [go_sem, fN, seval, eT, iR, e2]); simp [Tm.mtL], rfl, rfl, rfl, by simp only [go_sem, fN, seval, eT, iR, hn], rfl, by (simp only [go_sem, fN, seval, eT, iR, f3, f4, si]); simp [Tm.mtL], fun j hj hne => ?_⟩ ?_
  ·have j3 : ¬ j = 3 := by omega
   have j4 : ¬ j = 4 := by omega
   simp only [go_sem, fN, seval, eT, iR, j3, j4]
  rintro m ⟨env, S1⟩ ⟨k, hk, rfl, hok, e2, e3', e4', e10, s3, s4, si, hrest⟩
  simp only at e2 e3' e4' e10 s3 s4 si hrest
  by_cases hlt : (k : Int) < p.args.length
  ·obtain ⟨a, ha⟩ := Ac (show k < p.args.length by omega)
   obtain ⟨c, hc⟩ := Ac (show k < t.args.length by omega)
   have hstep := Tm.mtL_take hlen ha hc hok
   have hb1 := (Tm.mtL_ok (p.args.take k) (t.args.take k) l).len
   have z1 := Tm.sizes_take ha
   have z2 := Tm.sizes_take_le p.args (k + 1)
   repeat' with_reducible first | refine W ?_ | refine Z0 ?_ | ((first | refine Wo fun K hK => ?_ | refine Wp ?_ | refine Wq ?_ | refine Wr ?_); (try simp only [go_sem, fN, seval, eT, iR, e2, e3', e4', e10, s3, s4, si, hlt, ha, hc, dT, dF, nL]); (repeat refine Ai ?_); (try (refine hK _ ?_; clear hK K)); try refine iC ?_)
   have hcall := ih a (AO ha) c (up1 i) (Tm.mtL (p.args.take k) (t.args.take k) l).1 (upS S1) (A9 i) (by omega) (by rw [BW, si]; rfl)
   rw [← hstep] at hcall
   cases hb : (Tm.mtL (p.args.take (k + 1)) (t.args.take (k + 1)) l).2 with
   | true =>
    rw [Kl (by rw [← hstep]; exact hb), ← hstep, hb] at hcall
    refine ⟨_, _, hcall, ?_⟩
    repeat' with_reducible first | refine W ?_ | refine Z0 ?_ | ((first | refine Wo fun K hK => ?_ | refine Wp ?_ | refine Wq ?_ | refine Wr ?_); (try simp only [go_sem, fN, seval, eT, iR, e2, e3', e4', e10, s3, s4, d3, d4, dT, dF, nL]); (repeat refine Ai ?_); (try (refine hK _ ?_; clear hK K)); try refine iC ?_)
    refine AI ⟨p.args.length - (k + 1), by omega, k + 1, by omega, rfl, hb, ?_⟩
    simp only [go_sem, fN, seval, eT, iR, e2, e3', e4', e10, s3, s4, d3, d4]
    refine ⟨by congr 3, fun j hj hne => ?_⟩
    simp only [go_sem, fN, seval, eT, iR, hne]
    exact hrest j hj hne
   | false =>
    have hno := Tm.mtL_no hlen hb
    rw [hb] at hcall
    refine ⟨_, _, hcall, ?_⟩
    repeat' with_reducible first | refine W ?_ | refine Z0 ?_ | ((first | refine Wo fun K hK => ?_ | refine Wp ?_ | refine Wq ?_ | refine Wr ?_); (try simp only [go_sem, fN, seval, eT, iR, hb, e2, e3', e4', e10, s3, s4, dT, dF, nL]); (repeat refine Ai ?_); (try (refine hK _ ?_; clear hK K)); try refine iC ?_)
    refine hQ _ _ ?_ ?_ ?_ fun j hj hne => ?_
    ·rw [NK hv (by rw [hknot, hno])]
     simp only [go_sem, fN, seval, eT, iR]
    ·rw [hknot, hno]
     simp only [go_sem, fN, seval, eT, iR]
    ·rw [hknot, hno]
     simp only [go_sem, fN, seval, eT, iR]
    ·simp only [go_sem, fN, seval, eT, iR, hne]
     exact hrest j hj hne
  ·rw [List.take_of_length_le (by omega), List.take_of_length_le (by omega)] at hok si e2
   rw [← hlen'] at *
   repeat' with_reducible first | refine W ?_ | refine Z0 ?_ | ((first | refine Wo fun K hK => ?_ | refine Wp ?_ | refine Wq ?_ | refine Wr ?_); (try simp only [go_sem, fN, seval, eT, iR, e2, e3', e10, s3, hlt, dT, dF, nL]); (repeat refine Ai ?_); (try (refine hK _ ?_; clear hK K)); try refine iC ?_)
   refine hQ _ _ ?_ ?_ ?_ hrest
   ·rw [Kl (by rw [hknot]; exact hok), hknot]
    simp only [go_sem, fN, seval, eT, iR, e2]
   ·rw [hknot, hok]
    simp only [go_sem, fN, seval, eT, iR]
   ·rw [hknot]
    exact si
theorem P4 {S S1 : AA} {a0 : Nat} {b : AJ} (hS : Aj S) (ha : 1000 ≤ a0) (h1 : S1 a0 = some b) (h2 : ∀ i, 100 ≤ i → i ≠ a0 → S1 i = S i) : BR S1 = AF S a0 (some b) := Nu hS ha h1 fun i hi hne => h2 i (by omega) hne
theorem LO (p : Tm) (hz : p.size ≤ 1000000) : ∀ (t : Tm) (i : Nat) (l : List Bd) (S : AA), 1000 ≤ i → l.length + p.size ≤ 2000000 → S i = some (GF l) →
   Ak Tryz.prog 100 [aTm p, aTm t, .one (.row i l.length)] S (.tup [mtV i p t l, Ah (p.mt t l).2]) (AF S i (some (GF (p.mt t l).1))) := by
 induction h : SizeOf.sizeOf p using Nat.strongRecOn generalizing p with
 | _ N ih =>
 subst h
 have hs := Tm.size_eq p
 intro t i l S hi hl hSi
 refine Fi.acS fun hS C hC => ?_
 refine F9 p hz (fun a ha => ih _ (Tm.lt_of_arg ha) a (by have := Tm.size_mem ha; omega) rfl) C hC t i (by omega) l hl S (fun j hj => AZ hS (by omega)) hSi _ rfl rfl rfl _ ?_
 intro env' S' h6 h7 si hrest
 refine Jy trivial (by simp only [AD, AE, AL, h6, h7, Option.map_some]) ?_ (Lo hS rfl si fun k hk hne => hrest k (by omega) hne) (P4 hS hi si hrest) (Ax hS hi rfl)
 unfold mtV
 split
 ·exact Bool.and_eq_true_iff.2 ⟨Fk (n := (p.mt t l).1.length) hi, rfl⟩
 ·rfl
theorem Ls (p t : Tm) (hz : p.size ≤ 1000000) (a0 : Nat) (S : AA) (ha : 1000 ≤ a0) (hSa : S a0 = none) :
   Ak Tryz.prog 100 [aTm p, aTm t, .one (.full [])] S (.tup [mtV a0 p t [], Ah (p.mt t []).2]) (AF S a0 (some (GF (p.mt t []).1))) := by
 refine Fi.acS fun hS C hC => ?_
 refine IWP.ghost (AW.own 2 900 138 3 (xs := ([] : List Bd).map B2) rfl (AZ hS (by omega)) Jq (by omega)) ?_
 refine F9 p hz (fun a ha => LO a (by have := Tm.size_mem ha; have := Tm.size_eq p; omega)) C hC t 900 (by omega) [] (by simp; omega) _ (fun j hj => by
  show AF S 900 _ j = none
  rw [AG _ (by omega)]
  exact AZ hS (by omega)) (AB _ _ _) _ rfl rfl rfl _ ?_
 intro env' S' h6 h7 si hrest
 have hrest' : ∀ j, 1000 ≤ j → S' j = S j := fun j hj => by
  rw [hrest j (by omega) (by omega)]
  exact AG _ (by omega) _
 have e : (AV.tup [mtV a0 p t [], Ah (p.mt t []).2]) = (AV.tup [mtV 900 p t [], Ah (p.mt t []).2]).ren (BD 900 a0) := by
  unfold mtV
  split
  ·simp only [AV.ren, AV.rens, AC.ren, Mz]
  ·simp only [AV.ren, AV.rens, AC.ren]
 rw [e]
 refine Jj trivial 900 a0 _ (by omega) ha (by show S' a0 = none; rw [hrest' a0 ha, hSa]) si rfl (fun j b hj hb => (hS j b (by rw [← hrest' j hj]; exact hb)).2) (by simp only [AD, AE, AL, h6, h7, Option.map_some]) ?_ ?_ (Ax hS ha rfl)
 ·rw [← e]
  unfold mtV
  split
  ·exact Bool.and_eq_true_iff.2 ⟨Fk (n := (p.mt t []).1.length) ha, rfl⟩
  ·rfl
 ·congr 1
  funext j
  show (if j < 1000 then none else S' j) = S j
  by_cases hj : j < 1000
  ·rw [if_pos hj, AZ hS hj]
  ·rw [if_neg hj, hrest' j (by omega)]
theorem Jv (p t : Tm) (hp : p.size ≤ 100000) (ht : t.size ≤ 1000000) : AT Tryz.prog 72 [aTm p, aTm t] (.tup [Em (A3 p t), Ah (CE p t)]) := by
 have hnm := IQ p t
 have hml := NH p t
 refine Kx.ac fun C hC => ?_
 unfold Fl
 repeat' with_reducible first | refine W ?_ | refine Z0 ?_ | ((first | refine Wo fun K hK => ?_ | refine Wp ?_ | refine Wq ?_ | refine Wr ?_); (try simp only [go_sem, fN, seval, eT, iR, dT, dF, nL]); (repeat refine Ai ?_); (try (refine hK _ ?_; clear hK K)); try refine iC ?_)
 refine ⟨_, _, Ls p t (by omega) (up1 900) _ (A9 900) (by rw [BW]; rfl), ?_⟩
 cases hc : (p.mt t []).2 with
 | false =>
  repeat' with_reducible first | refine W ?_ | refine Z0 ?_ | ((first | refine Wo fun K hK => ?_ | refine Wp ?_ | refine Wq ?_ | refine Wr ?_); (try simp only [go_sem, fN, seval, eT, iR, hc, dT, dF, nL]); (repeat refine Ai ?_); (try (refine hK _ ?_; clear hK K)); try refine iC ?_)
  simp only [go_sem, fN, seval, AQ, AS.result, AD, AE, AL]
  unfold A3 CE
  rw [hc]
  rfl
 | true =>
  have hca : A3 p t = BB (p.mt t []).1 := by unfold A3; rw [if_pos hc]
  have his : CE p t = true := hc
  rw [Kl hc]
  repeat' (first | (with_reducible first | refine W ?_ | refine Z0 ?_ | ((first | refine Wo fun K hK => ?_ | refine Wp ?_ | refine Wq ?_ | refine Wr ?_); (try simp only [go_sem, fN, seval, eT, iR, hc, dT, dF, nL]); (repeat refine Ai ?_); (try (refine hK _ ?_; clear hK K)); try refine iC ?_)) | refine Cg _ (OI _ hnm (by omega)) ?_)
  simp only [go_sem, fN, seval, AQ, AS.result, AD, AE, AL, hca, his]

def Pp (r : Pr) (t : Tm) : AV := if CE r.1 t = true then .tup [aTm (Bt (A3 r.1 t) r.2).1, Ah true, Ah (!(Bt (A3 r.1 t) r.2).2)] else .tup [aTm Tm.nil, Ah false, Ah false]
theorem RR (r : Pr) (t : Tm) (hp : r.1.size ≤ 100000) (hq : r.2.size ≤ 100000) (ht : t.size ≤ 1000000) : AT Tryz.prog 46 [aPr r, aTm t] (Pp r t) := by
 unfold Pp
 refine OG.ac fun C hC => ?_
 unfold Jn
 by_cases h : CE r.1 t = true
 ·rw [if_pos h]
  repeat' (first | (with_reducible first | refine W ?_ | refine Z0 ?_ | ((first | refine Wo fun K hK => ?_ | refine Wp ?_ | refine Wq ?_ | refine Wr ?_); (try simp only [go_sem, fN, seval, eT, iR, h, dT, dF, nL]); (repeat refine Ai ?_); (try (refine hK _ ?_; clear hK K)); try refine iC ?_)) | refine Cg _ (Jv r.1 t hp ht) ?_ | refine Cg _ (RG (A3 r.1 t) r.2 (by omega)) ?_)
  simp only [go_sem, fN, seval, AQ, AS.result, AD, AE, AL]
 ·rw [if_neg h]
  repeat' (first | (with_reducible first | refine W ?_ | refine Z0 ?_ | ((first | refine Wo fun K hK => ?_ | refine Wp ?_ | refine Wq ?_ | refine Wr ?_); (try simp only [go_sem, fN, seval, eT, iR, h, dT, dF, nL]); (repeat refine Ai ?_); (try (refine hK _ ?_; clear hK K)); try refine iC ?_)) | refine Cg _ (Jv r.1 t hp ht) ?_)
  simp only [go_sem, fN, seval, AQ, AS.result, AD, AE, AL]
  rfl

def EX : IR :=
 (.seq (.ops [.i 2 (.mov (.c (.one (.st (.bool false)))))]) (.seq (.seq (.ops [.i 3 (.mov (.n 0))]) (.block 0 (.loop (.seq (.seq (.ops [.m 4 3, .m 5 0, .i 6 (.len false (.t 5)), .i 7 (.bin .lss (.t 4) (.t 6))]) (.cond (.t 7) .skip (.exit 0))) (.seq (.block 1 (.seq (.ops [.m 10 0, .m 11 3, .i 12 (.indexAddr 4 (.t 10) (.t 11)), .f 13 0 12, .L 14 2 13, .i 15 (.call 6 [.t 14]), .m 16 15, .mk (some 17) (some (16, false)) (.mov (.t 0)) .no, .mk (some 18) (some (16, false)) (.mov (.t 3)) .no, .mk (some 19) (some (16, false)) (.indexAddr 4 (.t 17) (.t 18)) .no, .mk (some 20) (some (16, false)) (.fieldAddr 2 (.t 19)) .no, .mk (some 21) (some (16, false)) (.load true 2 (.t 20)) .no, .mk (some 22) (some (16, false)) (.call 6 [.t 21]) .no, .i 23 (.pick (.t 16) (.c (.one (.st (.bool true)))) (.t 22))]) (.cond (.t 23) (.seq (.ops [.i 2 (.mov (.c (.one (.st (.bool true)))))]) .ret) .skip))) (.ops [.m 8 3, .i 9 (.bin .add (.t 8) (.n 1)), .m 3 9])))))) (.seq (.ops [.m 24 0, .i 25 (.len false (.t 24)), .i 26 (.bin .gtr (.t 25) (.n 100)), .m 2 26]) .ret)))
theorem Ig : OkF Tryz.prog 5 27 [] EX [.t 2] := .of Tryz.func5 rfl rfl (by kernel_rfl) rfl

def H8 (l : List Pr) : Bool := l.any (fun p => decide (3000 < p.1.size) || decide (3000 < p.2.size)) || decide (100 < l.length)
theorem Bu (l : List Pr) : AT Tryz.prog 5 [Cx l] (Ah (H8 l)) := by
 refine Ig.ac fun C hC => ?_
 unfold EX
 refine IWP.learn 0 (by omega) fun hkn => ?_
 have hkn := C2 hkn
 rw [List.length_map] at hkn
 repeat' with_reducible first | refine W ?_ | refine Z0 ?_ | ((first | refine Wo fun K hK => ?_ | refine Wp ?_ | refine Wq ?_ | refine Wr ?_); (try simp only [go_sem, fN, seval, eT, iR, dT, dF, nL]); (repeat refine Ai ?_); (try (refine hK _ ?_; clear hK K)); try refine iC ?_)
 refine IWP.loop (fun m s => ∃ k, k ≤ l.length ∧ m = l.length - k ∧ (l.take k).any (fun p => decide (3000 < p.1.size) || decide (3000 < p.2.size)) = false ∧ s.env 0 = Cx l ∧ s.env 3 = Ab k) l.length ⟨0, Nat.zero_le _, rfl, rfl, rfl, rfl⟩ ?_
 rintro m ⟨env, S⟩ ⟨k, hk, rfl, h0, e0, e3⟩
 simp only at e0 e3
 by_cases hlt : (k : Int) < l.length
 ·obtain ⟨p, hp⟩ := Ac (show k < l.length by omega)
  repeat' with_reducible first | refine W ?_ | refine Z0 ?_ | ((first | refine Wo fun K hK => ?_ | refine Wp ?_ | refine Wq ?_ | refine Wr ?_); (try simp only [go_sem, fN, seval, eT, iR, e0, e3, hlt, hp, Db, dT, dF, nL]); (repeat refine Ai ?_); (try (refine hK _ ?_; clear hK K)); try refine iC ?_)
  refine ⟨_, Ea p.1, ?_⟩
  by_cases hz : 3000 < p.1.size
  ·repeat' with_reducible first | refine W ?_ | refine Z0 ?_ | ((first | refine Wo fun K hK => ?_ | refine Wp ?_ | refine Wq ?_ | refine Wr ?_); (try simp only [go_sem, fN, seval, eT, iR, hz, dT, dF, nL]); (repeat refine Ai ?_); (try (refine hK _ ?_; clear hK K)); try refine iC ?_)
   simp only [go_sem, fN, seval, AQ, AS.result, AD, AE, AL]
   have : l.any (fun p => decide (3000 < p.1.size) || decide (3000 < p.2.size)) = true := List.any_eq_true.2 ⟨p, AO hp, by simp [hz]⟩
   unfold H8
   rw [this]
   rfl
  ·repeat' with_reducible first | refine W ?_ | refine Z0 ?_ | ((first | refine Wo fun K hK => ?_ | refine Wp ?_ | refine Wq ?_ | refine Wr ?_); (try simp only [go_sem, fN, seval, eT, iR, hz, e0, e3, hp, Db, dT, dF, nL]); (repeat refine Ai ?_); (try (refine hK _ ?_; clear hK K)); try refine iC ?_)
   refine ⟨_, Ea p.2, ?_⟩
   by_cases hy : 3000 < p.2.size
   ·repeat' with_reducible first | refine W ?_ | refine Z0 ?_ | ((first | refine Wo fun K hK => ?_ | refine Wp ?_ | refine Wq ?_ | refine Wr ?_); (try simp only [go_sem, fN, seval, eT, iR, hy, dT, dF, nL]); (repeat refine Ai ?_); (try (refine hK _ ?_; clear hK K)); try refine iC ?_)
    simp only [go_sem, fN, seval, AQ, AS.result, AD, AE, AL]
    have : l.any (fun p => decide (3000 < p.1.size) || decide (3000 < p.2.size)) = true := List.any_eq_true.2 ⟨p, AO hp, by simp [hy]⟩
    unfold H8
    rw [this]
    rfl
   ·repeat' with_reducible first | refine W ?_ | refine Z0 ?_ | ((first | refine Wo fun K hK => ?_ | refine Wp ?_ | refine Wq ?_ | refine Wr ?_); (try simp only [go_sem, fN, seval, eT, iR, hy, e0, e3, dT, dF, nL]); (repeat refine Ai ?_); (try (refine hK _ ?_; clear hK K)); try refine iC ?_)
    refine AI ⟨l.length - (k + 1), by omega, k + 1, by omega, rfl, ?_, ?_⟩
    ·rw [Am hp, List.any_append, h0]
     simp [hz, hy]
    ·simp only [go_sem, fN, seval, eT, iR, e0, e3]
     congr 3
 ·repeat' with_reducible first | refine W ?_ | refine Z0 ?_ | ((first | refine Wo fun K hK => ?_ | refine Wp ?_ | refine Wq ?_ | refine Wr ?_); (try simp only [go_sem, fN, seval, eT, iR, e0, e3, hlt, dT, dF, nL]); (repeat refine Ai ?_); (try (refine hK _ ?_; clear hK K)); try refine iC ?_)
  simp only [go_sem, fN, seval, AQ, AS.result, AD, AE, AL]
  rw [List.take_of_length_le (by omega)] at h0
  unfold H8
  rw [h0, Bool.false_or]
  congr 4
  simp
  omega

theorem PD {R : List Pr} (hR : Ce R) (t : Tm) (hc : t.chk = 0) (hz : t.size ≤ 2000) : AT Tryz.prog 25 [Cx R, aTm t] (C7 (D0 R t)) := by
 have h40 := hR.len
 have hpl := Tm.places_length t
 unfold D0
 refine K_.ac fun C hC => ?_
 unfold GA
 repeat' (first | (with_reducible first | refine W ?_ | refine Z0 ?_ | ((first | refine Wo fun K hK => ?_ | refine Wp ?_ | refine Wq ?_ | refine Wr ?_); (try simp only [go_sem, fN, seval, eT, iR, dT, dF, nL]); (repeat refine Ai ?_); (try (refine hK _ ?_; clear hK K)); try refine iC ?_)) | refine Cg _ (OC t (by omega)) ?_)
 refine IWP.ghost (AW.own 7 500 25 2 (xs := []) rfl rfl (by simp) (by omega)) ?_
 refine IWP.loopD [9, 12] (fun m s => ∃ i out, i ≤ t.places.length ∧ m = t.places.length - i ∧ A1 R ((t.places.take i).map (F0 [] t)) = some out ∧ s.env 0 = Cx R ∧ s.env 3 = .one (.ptr 3 1 0 0) ∧ s.env 6 = Qz t.places ∧ s.env 7 = .one (.row 500 out.length) ∧ s.env 8 = Ab i ∧ s.S 3 = some (P0 t) ∧ s.S 9 = none ∧ s.S 12 = none ∧ s.S 500 = some (.arow 25 2 (out.map Ae))) t.places.length ⟨0, [], Nat.zero_le _, rfl, rfl, rfl, rfl, rfl, rfl, rfl, rfl, rfl, rfl, rfl⟩ ?_
 rintro m ⟨env, S⟩ ⟨i, out, hi, rfl, ho, e0, e3, e6, e7, e8, s3, s9, s12, s500⟩
 simp only at e0 e3 e6 e7 e8 s3 s9 s12 s500
 by_cases hlt : i < t.places.length
 case neg =>
  rw [List.take_of_length_le (by omega)] at ho
  rw [ho]
  have hlt' : ¬ (i : Int) < t.places.length := by omega
  have hl : (out.map Ae).length = out.length := by simp
  unfold C7
  repeat' with_reducible first | refine W ?_ | refine Z0 ?_ | ((first | refine Wo fun K hK => ?_ | refine Wp ?_ | refine Wq ?_ | refine Wr ?_); (try simp only [go_sem, fN, seval, eT, iR, e0, e3, e6, e7, e8, s3, s9, s12, s500, hlt', dT, dF, nL]); (repeat refine Ai ?_); (try (refine hK _ ?_; clear hK K)); try refine iC ?_)
  simp only [go_sem, fN, seval, AQ, AS.result, AD, AE, AL, s500, hl]
 obtain ⟨p, hp⟩ := Ac hlt
 have hlt' : (i : Int) < t.places.length := by omega
 obtain ⟨x, hx, hxk⟩ := Gj t p (AO hp)
 have hxz := Gs t x hxk
 have hat := RX p t
 rw [hx] at hat
 have hlen := DH ho
 rw [List.length_map, List.length_take] at hlen
 have hlen2 : out.length ≤ 80000 := Nat.le_trans hlen (Nat.mul_le_mul (show min i t.places.length ≤ 2000 by omega) h40)
 obtain ⟨q, hq⟩ : ∃ q, F0 [] t p = q := ⟨_, rfl⟩
 have q1 : ∀ y, q.1 y = t.putP p y := fun y => by rw [← hq]; rfl
 have q2 : q.2 = x := by rw [← hq]; show (t.atP p).getD Tm.nil = x; rw [hx]; rfl
 have hnext : ∀ o, Bs q R = some o → A1 R ((t.places.take (i + 1)).map (F0 [] t)) = some (out ++ o) := fun o h => by
  rw [Am hp, List.map_append]
  exact HF ho (by rw [hq]; exact h)
 have hbad : Bs q R = none → A1 R (t.places.map (F0 [] t)) = none := fun h => by
  have e : t.places = t.places.take i ++ p :: t.places.drop (i + 1) := by rw [← By hp, List.take_append_drop]
  rw [e, List.map_append, List.map_cons]
  exact H1 (by rw [hq]; exact h)
 repeat' (first | (with_reducible first | refine W ?_ | refine Z0 ?_ | ((first | refine Wo fun K hK => ?_ | refine Wp ?_ | refine Wq ?_ | refine Wr ?_); (try simp only [go_sem, fN, seval, eT, iR, e0, e3, e6, e7, e8, s3, s9, s12, s500, hlt', hp, dT, dF, nL]); (repeat refine Ai ?_); (try (refine hK _ ?_; clear hK K)); try refine iC ?_)) | refine Cg _ (hat) ?_)
 refine IWP.loopD [12] (fun m s => ∃ k o2, k ≤ R.length ∧ o2.length ≤ k ∧ m = R.length - k ∧ Bs q R = (Bs q (R.drop k)).map (o2 ++ ·) ∧ s.env 0 = Cx R ∧ s.env 3 = .one (.ptr 3 1 0 0) ∧ s.env 6 = Qz t.places ∧ s.env 7 = .one (.row 500 (out ++ o2).length) ∧ s.env 8 = Ab i ∧ s.env 9 = .one (.ptr 9 1 0 0) ∧ s.env 11 = Ab k ∧ s.S 3 = some (P0 t) ∧ s.S 9 = some (P0 x) ∧ s.S 12 = none ∧ s.S 500 = some (.arow 25 2 ((out ++ o2).map Ae))) R.length ⟨0, [], Nat.zero_le _, Nat.zero_le _, rfl, by simp, ?_⟩ ?_
 ·simp only [go_sem, fN, seval, eT, iR, e0, e3, e6, e7, e8, s3, s9, s12, s500, List.append_nil]
 rintro m ⟨env, S⟩ ⟨k, o2, hk, hko, rfl, hoff, e0, e3, e6, e7, e8, e9, e11, s3, s9, s12, s500⟩
 simp only at e0 e3 e6 e7 e8 e9 e11 s3 s9 s12 s500
 by_cases hkl : k < R.length
 case neg =>
  have hkl' : ¬ (k : Int) < R.length := by omega
  rw [List.drop_of_length_le (by omega)] at hoff
  simp only [Bs, Option.map_some, List.append_nil] at hoff
  repeat' with_reducible first | refine W ?_ | refine Z0 ?_ | ((first | refine Wo fun K hK => ?_ | refine Wp ?_ | refine Wq ?_ | refine Wr ?_); (try simp only [go_sem, fN, seval, eT, iR, e0, e3, e6, e7, e8, e9, e11, s3, s9, s12, s500, hkl', dT, dF, nL]); (repeat refine Ai ?_); (try (refine hK _ ?_; clear hK K)); try refine iC ?_)
  refine AI ⟨t.places.length - (i + 1), by omega, i + 1, out ++ o2, by omega, rfl, hnext _ hoff, ?_⟩
  simp only [go_sem, fN, seval, AS.drop, Aa, AC.clears, AC.clear, AC.highs, AC.high, Bool.not_false, Bool.true_and, Bool.and_self, AV.purge, AV.purges, AC.purge, AJ.purge, List.contains_cons, List.contains_nil, Nat.reduceBEq, Bool.or_self, Bool.or_false, Bool.false_or, Bool.or_true, eT, iR, e0, e3, e6, e7, e8, e9, e11, s3, s9, s12, s500]
  congr 3
 obtain ⟨r, hr⟩ := Ac hkl
 have hkl' : (k : Int) < R.length := by omega
 have hmem := AO hr
 have z1 := (Tm.may_chk (hR.left r hmem)).2
 have z2 := (Tm.may_chk (hR.right r hmem)).2
 have hfits := RR r x (by omega) (by omega) (by omega)
 unfold Pp at hfits
 rw [By hr, Bs, q2] at hoff
 by_cases hcase : CE r.1 x = true
 case neg =>
  rw [if_neg hcase] at hoff hfits
  repeat' (first | (with_reducible first | refine W ?_ | refine Z0 ?_ | ((first | refine Wo fun K hK => ?_ | refine Wp ?_ | refine Wq ?_ | refine Wr ?_); (try simp only [go_sem, fN, seval, eT, iR, e0, e3, e6, e7, e8, e9, e11, s3, s9, s12, s500, hkl', hr, Db, dT, dF, nL]); (repeat refine Ai ?_); (try (refine hK _ ?_; clear hK K)); try refine iC ?_)) | refine Cg _ (hfits) ?_)
  refine AI ⟨R.length - (k + 1), by omega, k + 1, o2, by omega, by omega, rfl, hoff, ?_⟩
  simp only [go_sem, fN, seval, AS.drop, Aa, AC.clears, AC.clear, AC.highs, AC.high, Bool.not_false, Bool.true_and, Bool.and_self, AV.purge, AV.purges, AC.purge, AJ.purge, List.contains_cons, List.contains_nil, Nat.reduceBEq, Bool.or_self, Bool.or_false, Bool.false_or, Bool.or_true, eT, iR, e0, e3, e6, e7, e8, e9, e11, s3, s9, s12, s500]
  congr 3
 rw [if_pos hcase] at hoff hfits
 have hyz : (Bt (A3 r.1 x) r.2).1.size ≤ 2000 := KM
 generalize Bt (A3 r.1 x) r.2 = yg at hoff hfits hyz
 obtain ⟨y, g⟩ := yg
 simp only [q1] at hoff
 by_cases hg : g = true
 case neg =>
  rw [if_neg (fun h => hg h.1), Option.map_none] at hoff
  simp only [Bool.not_eq_true] at hg
  rw [hg] at hfits
  rw [hbad hoff]
  unfold C7
  repeat' (first | (with_reducible first | refine W ?_ | refine Z0 ?_ | ((first | refine Wo fun K hK => ?_ | refine Wp ?_ | refine Wq ?_ | refine Wr ?_); (try simp only [go_sem, fN, seval, eT, iR, e0, e3, e6, e7, e8, e9, e11, s3, s9, s12, s500, hkl', hr, Db, dT, dF, nL]); (repeat refine Ai ?_); (try (refine hK _ ?_; clear hK K)); try refine iC ?_)) | refine Cg _ (hfits) ?_)
  simp only [go_sem, fN, seval, AQ, AS.result, AD, AE, AL]
  rfl
 subst hg
 have hput := Qy p t (by omega) y (by rw [hx]; rfl)
 have hsz := Ep (t.putP p y) 2000 (by omega) (by omega)
 have hpz := G0 p t y
 by_cases hgr : (t.putP p y).size ≤ 2000
 case neg =>
  have hgi : (2000 : Int) < Az (t.putP p y).size 2000 := by unfold Az; split <;> omega
  rw [if_neg (fun h => hgr h.2), Option.map_none] at hoff
  rw [hbad hoff]
  unfold C7
  repeat' (first | (with_reducible first | refine W ?_ | refine Z0 ?_ | ((first | refine Wo fun K hK => ?_ | refine Wp ?_ | refine Wq ?_ | refine Wr ?_); (try simp only [go_sem, fN, seval, eT, iR, e0, e3, e6, e7, e8, e9, e11, s3, s9, s12, s500, hkl', hr, Db, hgi, hp, dT, dF, nL]); (repeat refine Ai ?_); (try (refine hK _ ?_; clear hK K)); try refine iC ?_)) | refine Cg _ (hfits) ?_ | refine Cg _ (hput) ?_ | refine Cg _ (hsz) ?_)
  simp only [go_sem, fN, seval, AQ, AS.result, AD, AE, AL]
  rfl
 have hgi : ¬ (2000 : Int) < Az (t.putP p y).size 2000 := by unfold Az; split <;> omega
 rw [if_pos ⟨rfl, hgr⟩, Option.map_map] at hoff
 have hl2 : ((out ++ o2).map Ae).length = (out ++ o2).length := by simp
 repeat' (first | (with_reducible first | refine W ?_ | refine Z0 ?_ | ((first | refine Wo fun K hK => ?_ | refine Wp ?_ | refine Wq ?_ | refine Wr ?_); (try simp only [go_sem, fN, seval, eT, iR, e0, e3, e6, e7, e8, e9, e11, s3, s9, s12, s500, hkl', hr, Db, hgi, hp, hl2, dT, dF, nL]); (repeat refine Ai ?_); (try (refine hK _ ?_; clear hK K)); try refine iC ?_)) | refine Cg _ (hfits) ?_ | refine Cg _ (hput) ?_ | refine Cg _ (hsz) ?_)
 refine AI ⟨R.length - (k + 1), by omega, k + 1, o2 ++ [t.putP p y], by omega, by simp only [List.length_append, List.length_singleton]; omega, rfl, ?_, ?_⟩
 ·rw [hoff]
  congr 1
  funext l
  simp
 ·simp only [go_sem, fN, seval, AS.drop, Aa, AC.clears, AC.clear, AC.highs, AC.high, Bool.not_false, Bool.true_and, Bool.and_self, AV.purge, AV.purges, AC.purge, AJ.purge, List.contains_cons, List.contains_nil, Nat.reduceBEq, Bool.or_self, Bool.or_false, Bool.false_or, Bool.or_true, eT, iR, e0, e3, e6, e7, e8, e9, e11, s3, s9, s12, s500]
  refine ⟨by rw [Nat.add_assoc], by congr 3, ?_⟩
  congr 1
  simp [Ba]

theorem Ja : ∀ (p : List Int) (t x : Tm), t.chk = 0 → x.chk = 0 → (t.putP p x).chk = 0
 | [], t, x, _, hx => by rw [Tm.putP_nil]; exact hx
 | i :: p, t, x, ht, hx => by
  rw [Tm.putP_cons]
  split
  ·rename_i a ha
   have hl := (List.getElem?_eq_some_iff.1 ha).1
   refine RE (n := t.name) (xs := t.args) (by cases t; exact ht) hl ?_
   exact Ja p a x ((Tm.chk_args ht).2 a (List.mem_of_getElem? ha)) hx
  ·exact ht
def Pb (q : Ff) : Prop := q.2.chk = 0 ∧ ∀ y : Tm, y.chk = 0 → (q.1 y).chk = 0
theorem OQ {s : List Bd} {t : Tm} (hs : OkB s) (ht : t.chk = 0) (h : (Bt s t).2 = true) : (Bt s t).1.chk = 0 := by
 unfold Bt at h ⊢
 split
 ·exact Qw hs.chk ht
 ·rename_i hn
  rw [if_neg hn] at h
  cases h
theorem Hq {q : Ff} (hq : Pb q) : ∀ {l : List Pr} {a : List Tm}, (∀ r ∈ l, r.1.chk = 0 ∧ r.2.chk = 0) → Bs q l = some a → ∀ x ∈ a, x.chk = 0 ∧ x.size ≤ 2000
 | [], a, _, h, x, hx => by cases h; cases hx
 | r :: l, a, hl, h, x, hx => by
  rw [Bs] at h
  split at h
  ·split at h
   ·rename_i h1 h2
    rw [Option.map_eq_some_iff] at h
    obtain ⟨b, hb, rfl⟩ := h
    rcases List.mem_cons.1 hx with rfl | hx
    ·have hr := hl r (by simp)
     exact ⟨hq.2 _ (OQ (Nd hr.1 hq.1) hr.2 h2.1), h2.2⟩
    ·exact Hq hq (fun r hr => hl r (by simp [hr])) hb x hx
   ·cases h
  ·exact Hq hq (fun r hr => hl r (by simp [hr])) h x hx
theorem KA {R : List Pr} (hR : ∀ r ∈ R, r.1.chk = 0 ∧ r.2.chk = 0) : ∀ {l : List Ff} {a : List Tm}, (∀ q ∈ l, Pb q) → A1 R l = some a → ∀ x ∈ a, x.chk = 0 ∧ x.size ≤ 2000
 | [], a, _, h, x, hx => by cases h; cases hx
 | q :: l, a, hq, h, x, hx => by
  rw [A1] at h
  split at h
  ·cases h
  ·rename_i b hb
   rw [Option.map_eq_some_iff] at h
   obtain ⟨c, hc, rfl⟩ := h
   rcases List.mem_append.1 hx with hx | hx
   ·exact Hq (hq q (by simp)) hR hb x hx
   ·exact KA hR (fun q h => hq q (by simp [h])) hc x hx
theorem Jt {R : List Pr} (hR : Ce R) {t : Tm} (ht : t.chk = 0) {a : List Tm} (h : D0 R t = some a) : ∀ x ∈ a, x.chk = 0 ∧ x.size ≤ 2000 := by
 refine KA (fun r hr => ⟨(Tm.may_chk (hR.left r hr)).1, (Tm.may_chk (hR.right r hr)).1⟩) (fun q hq => ?_) h
 obtain ⟨p, hp, rfl⟩ := List.mem_map.1 hq
 obtain ⟨x, h1, h2⟩ := Gj t p hp
 refine ⟨?_, fun y hy => Ja p t y ht hy⟩
 show ((t.atP p).getD Tm.nil).chk = 0
 rw [h1]
 exact IZ t x ht h2
open Classical in
noncomputable def Cv : List Tm → List Tm → Option (List Tm)
 | all, [] => some all
 | all, x :: l => if x.text ∈ all.map Tm.text then Cv all l else if 200 ≤ all.length then none else Cv (all ++ [x]) l
noncomputable def Bk (R : List Pr) : Nat → Nat → List Tm → List Tm × Int
 | 0, _, all => (all, 0)
 | f + 1, i, all => match all[i]? with
  | none => (all, 0)
  | some t => match D0 R t with
   | none => ([], 8)
   | some l => match Cv all l with
    | none => ([], 3)
    | some all' => Bk R f (i + 1) all'
structure FF (all : List Tm) : Prop where
 ok : ∀ x ∈ all, x.chk = 0 ∧ x.size ≤ 2000
 len : all.length ≤ 200
 nod : (all.map Tm.text).Nodup
theorem FF.snoc {all : List Tm} {x : Tm} (h : FF all) (hg : all.length < 200) (hx : x.chk = 0 ∧ x.size ≤ 2000) (hin : x.text ∉ all.map Tm.text) : FF (all ++ [x]) :=
 ⟨fun y hy => by
  rcases List.mem_append.1 hy with hy | hy
  ·exact h.ok y hy
  ·rw [List.mem_singleton.1 hy]; exact hx, by simp; omega, by
  rw [List.map_append, List.nodup_append]
  refine ⟨h.nod, by simp, fun a ha b hb e => hin ?_⟩
  rw [List.map_singleton, List.mem_singleton] at hb
  rw [← hb, ← e]
  exact ha⟩
theorem HO {R : List Pr} {i : Nat} {all : List Tm} (h : all.length ≤ i) (f : Nat) : Bk R f i all = (all, 0) := by
 cases f with
 | zero => rfl
 | succ f => rw [Bk, List.getElem?_eq_none h]
theorem JW {R : List Pr} {i f : Nat} {all : List Tm} {t : Tm} (h : all[i]? = some t) : Bk R (f + 1) i all = match D0 R t with
  | none => ([], 8)
  | some l => match Cv all l with
   | none => ([], 3)
   | some all' => Bk R f (i + 1) all' := by rw [Bk, h]
theorem Fv {t : Tm} (h : t.chk = 0) : 0 < t.name.size := by
 rw [Tm.chk_eq] at h
 split at h
 ·rename_i h0
  have := HS h0
  omega
 ·omega
theorem JC : ∀ {l m : List ByteArray}, l.Pairwise (fun a b => sLt a b = true) → m.Pairwise (fun a b => sLt a b = true) → (∀ x, x ∈ l ↔ x ∈ m) → l = m := fun {l m} hl hm hx => by
 have nod : ∀ {k : List ByteArray}, k.Pairwise (fun a b => sLt a b = true) → k.Nodup := fun hk => hk.imp fun {a b} hab e => by
  subst e
  rw [CH] at hab
  cases hab
 have weak : ∀ {k : List ByteArray}, k.Pairwise (fun a b => sLt a b = true) → k.Pairwise (fun a b => sLt b a = false) := fun hk => hk.imp fun {a b} hab => by
  cases h : sLt b a with
  | false => rfl
  | true => have := B0 hab h; rw [CH] at this; cases this
 exact FD (weak hl) (weak hm) ((List.perm_ext_iff_of_nodup (nod hl) (nod hm)).2 hx)
theorem NP {l : List ByteArray} (hn : l.Nodup) : (srt l).Pairwise fun a b => sLt a b = true := by
 have hn' : (srt l).Nodup := (Dh l).symm.nodup hn
 refine (FO l).imp₂ (fun a b h1 h2 => ?_) hn'
 rcases C6 a b with q | q | q
 ·exact q
 ·exact absurd q h2
 ·rw [q] at h1; cases h1

set_option maxHeartbeats 2000000
abbrev QP (b : ByteArray) : KV × AV := (.s b, Ah true)
abbrev OM (l : List ByteArray) : AJ := .map none (l.map QP)
theorem H0 {s : ByteArray} : ∀ {l : List ByteArray}, s ∈ l → DJ (l.map QP) (.s s) = some (Ah true)
 | [], h => by cases h
 | x :: l, h => by
  rw [List.map_cons, DJ]
  by_cases e : x = s
  ·rw [if_pos (by rw [e])]
  ·rw [if_neg (by simpa using e)]
   rcases List.mem_cons.1 h with h | h
   ·exact absurd h.symm e
   ·exact H0 h
theorem Gq {s : ByteArray} : ∀ {l : List ByteArray}, s ∉ l → DJ (l.map QP) (.s s) = none
 | [], h => rfl
 | x :: l, h => by
  rw [List.map_cons, DJ, if_neg (by simpa using fun e => h (by rw [← e]; simp))]
  exact Gq fun hx => h (by simp [hx])
theorem P9 {s : ByteArray} : ∀ {l : List ByteArray}, s ∉ l → GZ (l.map QP) (.s s) (Ah true) = (l ++ [s]).map QP
 | [], h => rfl
 | x :: l, h => by
  rw [List.map_cons, GZ, if_neg (by simpa using fun e => h (by rw [← e]; simp)), P9 fun hx => h (by simp [hx])]
  rfl
def Ei (x : List Tm × Int) : AV := .tup [Bm (srt (x.1.map Tm.text)), Ab x.2]
noncomputable def DW (R : List Pr) (t : Tm) : List Tm × Int := if GD R t = 0 then Bk R 200 0 [t] else ([], GD R t)
theorem DI (e : Int) : Ei ([], e) = .tup [Bm [], Ab e] := by
 have : srt [] = [] := List.eq_nil_of_length_eq_zero (Ev [])
 unfold Ei
 rw [List.map_nil, this]
theorem IV {all : List Tm} (h : FF all) {x : Tm} (hx : x ∈ all) : 0 < x.name.size ∧ x.text.size ≤ 20000 := by
 obtain ⟨h1, h2⟩ := h.ok x hx
 have := x.text_le h1
 exact ⟨Fv h1, by omega⟩
set_option maxRecDepth 100000 in
theorem Pi (R : List Pr) (t : Tm) : AT Tryz.prog 11 [Cx R, aTm t] (Ei (DW R t)) := by
 unfold DW
 by_cases ha : GD R t = 0
 case neg =>
  rw [if_neg ha, DI]
  refine Dx.ac fun C hC => ?_
  unfold Cd
  repeat' (first | (with_reducible first | refine W ?_ | refine Z0 ?_ | ((first | refine Wo fun K hK => ?_ | refine Wp ?_ | refine Wq ?_ | refine Wr ?_); (try simp only [go_sem, fN, seval, eT, iR, ha, dT, dF, nL]); (repeat refine Ai ?_); (try (refine hK _ ?_; clear hK K)); try refine iC ?_)) | refine Cg _ (KB R t) ?_)
  simp only [go_sem, fN, seval, AQ, AS.result, AD, AE, AL]
  rfl
 rw [if_pos ha]
 obtain ⟨hR, hc, hz⟩ := OA ha
 have ok1 : FF [t] := ⟨fun x hx => by rw [List.mem_singleton.1 hx]; exact ⟨hc, by omega⟩, by simp, by simp⟩
 have sh := IV ok1 (x := t) (by simp)
 refine Dx.ac fun C hC => ?_
 unfold Cd
 repeat' (first | (with_reducible first | refine W ?_ | refine Z0 ?_ | ((first | refine Wo fun K hK => ?_ | refine Wp ?_ | refine Wq ?_ | refine Wr ?_); (try simp only [go_sem, fN, seval, eT, iR, ha, Bh, C_, KV.of, GZ, dT, dF, nL]); (repeat refine Ai ?_); (try (refine hK _ ?_; clear hK K)); try refine iC ?_)) | refine Cg _ (KB R t) ?_ | refine Cg _ (K8 t sh.1 (by omega)) ?_)
 refine IWP.ghost (AW.own 8 500 25 2 (xs := [[.str t.name, .list (t.args.map Ae)]]) (by rfl) (by rfl) (by simp) (by rw [hC]; decide)) ?_
 refine IWP.loopD [12, 501] (fun m s => ∃ i all, i ≤ all.length ∧ m = 200 - i ∧ FF all ∧ Bk R 200 0 [t] = Bk R (200 - i) i all ∧ s.env 0 = Cx R ∧ s.env 7 = .one (.mptr 22) ∧ s.S 22 = some (OM (all.map Tm.text)) ∧ s.S 12 = none ∧ s.S 501 = none ∧ s.S 67 = none ∧ s.S 502 = none ∧ ((s.env 8 = .one (.row 500 (all.length - i)) ∧ s.S 500 = some (.arow 25 2 ((all.drop i).map Ae))) ∨ ∃ y, s.env 8 = .one (.rest 500 1 (all.length - i + 1)) ∧ s.S 500 = some (.arow 25 2 (Ae y :: (all.drop i).map Ae)))) 200 ⟨0, [t], Nat.zero_le _, rfl, ok1, rfl, rfl, rfl, ?_, ?_, ?_, ?_, ?_, .inl ⟨?_, ?_⟩⟩ ?_
 ·simp only [go_sem, fN, seval, eT, iR]
  try rfl
 ·simp only [go_sem, fN, seval, eT, iR]
 ·simp only [go_sem, fN, seval, eT, iR]
 ·simp only [go_sem, fN, seval, eT, iR]
 ·simp only [go_sem, fN, seval, eT, iR]
 ·simp only [go_sem, fN, seval, eT, iR]
  try rfl
 ·simp only [go_sem, fN, seval, eT, iR]
  try rfl
 rintro m ⟨env, S⟩ ⟨i, all, hi, rfl, hok, htot, e0, e7, s22, s12, s501, s67, s502, hq⟩
 simp only at e0 e7 s22 s12 s501 s67 s502 hq
 rw [htot]
 have h200 := hok.len
 have hdl : ((all.drop i).map Ae).length = all.length - i := by rw [List.length_map, List.length_drop]
 obtain ⟨env', S', hg, e0, e7, e8, s22, s12, s67, s502, s500⟩ : ∃ env' S', AW C ⟨env, S⟩ ⟨env', S'⟩ ∧ env' 0 = Cx R ∧ env' 7 = .one (.mptr 22) ∧ env' 8 = .one (.row 500 (all.length - i)) ∧ S' 22 = some (OM (all.map Tm.text)) ∧ S' 12 = none ∧ S' 67 = none ∧ S' 502 = none ∧ S' 500 = some (.arow 25 2 ((all.drop i).map Ae)) := by
  rcases hq with ⟨e8, s500⟩ | ⟨y, e8, s500⟩
  ·exact ⟨env, S, AW.refl _ _, e0, e7, e8, s22, s12, s67, s502, s500⟩
  ·have g1 := AW.front (C := C) (s := ⟨env, S⟩) 8 500 501 1000 s500 (by show env 8 = _; rw [e8, List.length_cons, hdl]) (C1 (ts := y :: all.drop i)) s501 (by rw [List.length_cons, hdl]; omega) (by rw [hC]; decide)
   have g2 := AW.drop (C := C) [500] _ (by decide) |> g1.trans
   have g3 := g2.trans (AW.rename (C := C) 8 501 500 1000 (e := 25) (wd := 2) (xs := (all.drop i).map Ae) ?_ ?_ ?_ (by rw [hdl]; omega) (by rw [hC]; decide))
   ·refine ⟨_, _, g3, ?_, ?_, ?_, ?_, ?_, ?_, ?_, ?_⟩
    ·simp only [go_sem, fN, seval, AS.drop, Aa, AC.clears, AC.clear, AC.highs, AC.high, Bool.not_false, Bool.true_and, Bool.and_self, AV.purge, AV.purges, AC.purge, AJ.purge, List.contains_cons, List.contains_nil, Nat.reduceBEq, Bool.or_self, Bool.or_false, Bool.false_or, Bool.or_true, eT, iR, e0]
    ·simp only [go_sem, fN, seval, AS.drop, Aa, AC.clears, AC.clear, AC.highs, AC.high, Bool.not_false, Bool.true_and, Bool.and_self, AV.purge, AV.purges, AC.purge, AJ.purge, List.contains_cons, List.contains_nil, Nat.reduceBEq, Bool.or_self, Bool.or_false, Bool.false_or, Bool.or_true, eT, iR, e7]
    ·simp only [go_sem, fN, seval, AS.drop, Aa, AC.clears, AC.clear, AC.highs, AC.high, Bool.not_false, Bool.true_and, Bool.and_self, AV.purge, AV.purges, AC.purge, AJ.purge, List.contains_cons, List.contains_nil, Nat.reduceBEq, Bool.or_self, Bool.or_false, Bool.false_or, Bool.or_true, eT, iR, e0, hdl]
    ·simp only [go_sem, fN, seval, AS.drop, Aa, AC.clears, AC.clear, AC.highs, AC.high, Bool.not_false, Bool.true_and, Bool.and_self, AV.purge, AV.purges, AC.purge, AJ.purge, List.contains_cons, List.contains_nil, Nat.reduceBEq, Bool.or_self, Bool.or_false, Bool.false_or, Bool.or_true, eT, iR, s22]
    ·simp only [go_sem, fN, seval, AS.drop, Aa, AC.clears, AC.clear, AC.highs, AC.high, Bool.not_false, Bool.true_and, Bool.and_self, AV.purge, AV.purges, AC.purge, AJ.purge, List.contains_cons, List.contains_nil, Nat.reduceBEq, Bool.or_self, Bool.or_false, Bool.false_or, Bool.or_true, eT, iR, s12]
    ·simp only [go_sem, fN, seval, AS.drop, Aa, AC.clears, AC.clear, AC.highs, AC.high, Bool.not_false, Bool.true_and, Bool.and_self, AV.purge, AV.purges, AC.purge, AJ.purge, List.contains_cons, List.contains_nil, Nat.reduceBEq, Bool.or_self, Bool.or_false, Bool.false_or, Bool.or_true, eT, iR, s67]
    ·simp only [go_sem, fN, seval, AS.drop, Aa, AC.clears, AC.clear, AC.highs, AC.high, Bool.not_false, Bool.true_and, Bool.and_self, AV.purge, AV.purges, AC.purge, AJ.purge, List.contains_cons, List.contains_nil, Nat.reduceBEq, Bool.or_self, Bool.or_false, Bool.false_or, Bool.or_true, eT, iR, s502]
    ·simp only [go_sem, fN, seval, AS.drop, Aa, AC.clears, AC.clear, AC.highs, AC.high, Bool.not_false, Bool.true_and, Bool.and_self, AV.purge, AV.purges, AC.purge, AJ.purge, List.contains_cons, List.contains_nil, Nat.reduceBEq, Bool.or_self, Bool.or_false, Bool.false_or, Bool.or_true, eT, iR]
   ·simp only [go_sem, fN, seval, AS.drop, Aa, AC.clears, AC.clear, AC.highs, AC.high, Bool.not_false, Bool.true_and, Bool.and_self, AV.purge, AV.purges, AC.purge, AJ.purge, List.contains_cons, List.contains_nil, Nat.reduceBEq, Bool.or_self, Bool.or_false, Bool.false_or, Bool.or_true, eT, iR]
   ·simp only [go_sem, fN, seval, AS.drop, Aa, AC.clears, AC.clear, AC.highs, AC.high, Bool.not_false, Bool.true_and, Bool.and_self, AV.purge, AV.purges, AC.purge, AJ.purge, List.contains_cons, List.contains_nil, Nat.reduceBEq, Bool.or_self, Bool.or_false, Bool.false_or, Bool.or_true, eT, iR, hdl]
   ·simp only [go_sem, fN, seval, AS.drop, Aa, AC.clears, AC.clear, AC.highs, AC.high, Bool.not_false, Bool.true_and, Bool.and_self, AV.purge, AV.purges, AC.purge, AJ.purge, List.contains_cons, List.contains_nil, Nat.reduceBEq, Bool.or_self, Bool.or_false, Bool.false_or, Bool.or_true, eT, iR]
 refine IWP.ghost hg ?_
 clear hg hq s501
 have hdl1 : (all.drop i).length = all.length - i := List.length_drop
 by_cases hlt : i < all.length
 case neg =>
  have hn0 : ¬ (0 : Int) < ((all.length - i : Nat) : Int) := by omega
  rw [HO (by omega)]
  unfold Ei
  have hnod := hok.nod
  have hll : (all.map Tm.text).length = all.length := List.length_map _
  obtain ⟨L, hL⟩ : ∃ L, all.map Tm.text = L := ⟨_, rfl⟩
  rw [hL] at s22 hnod hll
  simp only [hL]
  repeat' with_reducible first | refine W ?_ | refine Z0 ?_ | ((first | refine Wo fun K hK => ?_ | refine Wp ?_ | refine Wq ?_ | refine Wr ?_); (try simp only [go_sem, fN, seval, eT, iR, e0, e7, e8, s22, s12, s500, s67, s502, hn0, Bh, hdl1, dT, dF, nL]); (repeat refine Ai ?_); (try (refine hK _ ?_; clear hK K)); try refine iC ?_)
  refine IWP.ghost (AW.ownM 14 502 9 1 (by rfl) (by simp only [go_sem, fN, seval, eT, iR, s502]) (by rw [hC]; decide)) ?_
  refine IWP.loop (fun m x => ∃ seen : List Nat, seen.Nodup ∧ (∀ j ∈ seen, j < L.length) ∧ m = L.length - seen.length ∧ x.env 14 = .one (.row 502 seen.length) ∧ x.env 67 = .one (.ptr 67 1 0 0) ∧ x.S 22 = some (OM L) ∧ x.S 67 = some (.iter (.mptr 22) L.length seen) ∧ x.S 502 = some (E3 (met L seen))) L.length ⟨[], List.nodup_nil, by simp, rfl, rfl, rfl, by simp only [go_sem, fN, seval, eT, iR, s22], by simp only [go_sem, fN, seval, eT, iR], by (simp only [go_sem, fN, seval, eT, iR]; rfl)⟩ ?_
  rintro m ⟨env, S⟩ ⟨seen, hnd, hls, rfl, e14, e67, s22, s67, s502⟩
  simp only at e14 e67 s22 s67 s502
  have hsl := Fx hnd hls
  have hmt := KY hls
  repeat' with_reducible first | refine W ?_ | refine Z0 ?_ | ((first | refine Wo fun K hK => ?_ | refine Wp ?_ | refine Wq ?_ | refine Wr ?_); (try simp only [go_sem, fN, seval, eT, iR, e14, e67, s22, s67, Cs, dT, dF, nL]); (repeat refine Ai ?_); (try (refine hK _ ?_; clear hK K)); try refine iC ?_)
  refine ⟨fun hall => ?_, fun j x c hx hj hkv => ?_⟩
  ·have hmp := MX hnd hls hall
   have hl' : seen.length = L.length := by rw [← hmt]; exact hmp.length_eq
   refine hK _ ?_
   clear hK K
   refine Wb ?_
   refine Wa ?_
   with_reducible refine Wp ?_
   simp only [go_sem, fN, seval, true_implies, false_implies, implies_true, dT, dF, nL]
   (try with_reducible refine iC ?_)
   repeat' (with_reducible first | refine Wb ?_ | refine Wc ?_ | refine Wd ?_ | refine We ?_ | refine Wg ?_ | refine Wh ?_ | refine Wi ?_ | refine Wj ?_ | refine Wk (by decide) ?_ | refine Wl ?_ | refine Wm ?_ | refine Wn ?_)
   refine IWP.mid (fun x => x.env 14 = .one (.row 502 L.length) ∧ x.S 502 = some (E3 (srt L))) ?_ ?_
   ·have hs := Qt (met L seen) (by omega) (up1 502) (A9 502) (upS S) (by rw [BW, s502]; rfl)
    rw [hmt, hl', MK hmp] at hs
    rw [hl'] at e14
    repeat' with_reducible first | refine W ?_ | refine Z0 ?_ | ((first | refine Wo fun K hK => ?_ | refine Wq ?_ | refine Wr ?_); (try simp only [go_sem, fN, seval, eT, iR, e14]); (repeat refine Ai ?_); (try (refine hK _ ?_; clear hK K)))
    refine ⟨_, _, hs, ?_⟩
    repeat' with_reducible first | refine W ?_ | refine Z0 ?_ | ((first | refine Wo fun K hK => ?_ | refine Wq ?_ | refine Wr ?_); (try simp only [go_sem, fN, seval, eT, iR, e14]); (repeat refine Ai ?_); (try (refine hK _ ?_; clear hK K)))
    refine ⟨rfl, ?_, ?_⟩
    ·simp only [go_sem, fN, seval, eT, iR, e14]
    ·simp only [go_sem, fN, seval, eT, iR]
   rintro ⟨env, S⟩ ⟨e14, s502⟩
   simp only at e14 s502
   have hsl2 := Ev L
   refine IWP.ghost (AW.share (id := 502) s502) ?_
   repeat' with_reducible first | refine W ?_ | refine Z0 ?_ | ((first | refine Wo fun K hK => ?_ | refine Wq ?_ | refine Wr ?_); (try simp only [go_sem, fN, seval, eT, iR, e14, hsl2]); (repeat refine Ai ?_); (try (refine hK _ ?_; clear hK K)))
   simp only [go_sem, fN, seval, AQ, AS.result, AD, AE, AL, hsl2]
  ·rw [Option.map_eq_some_iff] at hx
   obtain ⟨b, hb, rfl⟩ := hx
   have hjl : j < L.length := (List.getElem?_eq_some_iff.1 hb).1
   have hcv : c = .str b := by
    have : some (SV.str b) = some c := hkv
    cases this
    rfl
   subst hcv
   have hnd' : (seen ++ [j]).Nodup := by
    rw [List.nodup_append]
    exact ⟨hnd, by simp, fun a ha b hb e => hj (by rw [List.mem_singleton.1 hb] at e; rw [← e]; exact ha)⟩
   have hlt' : ∀ i ∈ seen ++ [j], i < L.length := fun i hi => by
    rcases List.mem_append.1 hi with h | h
    ·exact hls i h
    ·rw [List.mem_singleton.1 h]; exact hjl
   have hsl' := Fx hnd' hlt'
   rw [List.length_append, List.length_singleton] at hsl'
   refine hK _ ?_
   clear hK K
   refine Wb ?_
   repeat' with_reducible first | refine W ?_ | refine Z0 ?_ | ((first | refine Wo fun K hK => ?_ | refine Wp ?_ | refine Wq ?_ | refine Wr ?_); (try simp only [go_sem, fN, seval, eT, iR, e14, e67, s22, s67, s502, Cs, List.getLast?_concat, hb, KV.sv, hmt, dT, dF, nL]); (repeat refine Ai ?_); (try (refine hK _ ?_; clear hK K)); try refine iC ?_)
   refine AI ⟨L.length - (seen.length + 1), by omega, seen ++ [j], hnd', hlt', by rw [List.length_append, List.length_singleton], ?_⟩
   rw [Lh hb]
   simp only [go_sem, fN, seval, eT, iR, e14, e67, s22, s502]
   show AJ.mrow _ _ ((met L seen).map Bj ++ [Bj b]) = E3 _
   rw [E3, List.map_append]
   rfl
 obtain ⟨a, ha2⟩ := Ac hlt
 have hdr : (all.drop i).map Ae = Ae a :: (all.drop (i + 1)).map Ae := by rw [By ha2]; rfl
 have hdl2 : (all.drop (i + 1)).length + 1 = all.length - i := by rw [List.length_drop]; omega
 have hp0 : (0 : Int) < ((all.length - i : Nat) : Int) := by omega
 have hao := hok.ok a (AO ha2)
 have hon := Rn hR a hao.1 hao.2
 obtain ⟨f, hf⟩ : ∃ f, 200 - i = f + 1 := ⟨200 - i - 1, by omega⟩
 rw [hf, JW ha2]
 cases hsT : D0 R a with
 | none =>
  rw [hsT] at hon
  unfold C7 at hon
  rw [DI]
  have hdr2 := hdr
  rw [hdr] at s500
  repeat' (first | (with_reducible first | refine W ?_ | refine Z0 ?_ | ((first | refine Wo fun K hK => ?_ | refine Wp ?_ | refine Wq ?_ | refine Wr ?_); (try simp only [go_sem, fN, seval, eT, iR, e0, e7, e8, s500, hp0, hdl2, dT, dF, nL]); (repeat refine Ai ?_); (try (refine hK _ ?_; clear hK K)); try refine iC ?_)) | refine Cg _ (hon) ?_)
  simp only [go_sem, fN, seval, AQ, AS.result, AD, AE, AL]
  rfl
 | some l =>
  rw [hsT] at hon
  unfold C7 at hon
  have hlo := Jt hR hao.1 hsT
  have hlen : l.length ≤ 80000 := by
   have h1 := DH (show A1 R (a.places.map (F0 [] a)) = some l from hsT)
   rw [List.length_map, Tm.places_length] at h1
   exact Nat.le_trans h1 (Nat.mul_le_mul hao.2 hR.len)
  rw [hdr] at s500
  repeat' (first | (with_reducible first | refine W ?_ | refine Z0 ?_ | ((first | refine Wo fun K hK => ?_ | refine Wp ?_ | refine Wq ?_ | refine Wr ?_); (try simp only [go_sem, fN, seval, eT, iR, e0, e7, e8, s500, s22, s12, hp0, hdl2, dT, dF, nL]); (repeat refine Ai ?_); (try (refine hK _ ?_; clear hK K)); try refine iC ?_)) | refine Cg _ (hon) ?_)
  refine IWP.loopD [12] (fun m s => ∃ k all2, k ≤ l.length ∧ m = l.length - k ∧ FF all2 ∧ all <+: all2 ∧ Cv all l = Cv all2 (l.drop k) ∧ s.env 0 = Cx R ∧ s.env 7 = .one (.mptr 22) ∧ s.env 8 = .one (.row 500 (all2.length - i)) ∧ s.env 44 = GY l ∧ s.env 45 = Ab l.length ∧ s.env 46 = Ab k ∧ s.S 22 = some (OM (all2.map Tm.text)) ∧ s.S 12 = none ∧ s.S 67 = none ∧ s.S 502 = none ∧ s.S 500 = some (.arow 25 2 ((all2.drop i).map Ae))) l.length ⟨0, all, Nat.zero_le _, rfl, hok, List.prefix_refl _, rfl, ?_⟩ ?_
  ·simp only [go_sem, fN, seval, eT, iR, e0, e7, e8, s22, s12, s67, s502, s500, hdr]
  rintro m ⟨env, S⟩ ⟨k, all2, hk, rfl, hok2, hpre, hadd, e0, e7, e8, e44, e45, e46, s22, s12, s67, s502, s500⟩
  simp only at e0 e7 e8 e44 e45 e46 s22 s12 s67 s502 s500
  rw [hadd]
  have hle := hpre.length_le
  have h200' := hok2.len
  have hdl2 : (all2.drop i).length = all2.length - i := List.length_drop
  by_cases hkl : k < l.length
  case neg =>
   have hkl' : ¬ (k : Int) < l.length := by omega
   rw [List.drop_of_length_le (by omega), Cv]
   repeat' with_reducible first | refine W ?_ | refine Z0 ?_ | ((first | refine Wo fun K hK => ?_ | refine Wp ?_ | refine Wq ?_ | refine Wr ?_); (try simp only [go_sem, fN, seval, eT, iR, e0, e7, e8, e44, e45, e46, s22, s12, s67, s502, s500, hkl', hdl2, dT, dF, nL]); (repeat refine Ai ?_); (try (refine hK _ ?_; clear hK K)); try refine iC ?_)
   have ha3 : all2[i]? = some a := by
    obtain ⟨z, rfl⟩ := hpre
    rw [List.getElem?_append_left hlt]
    exact ha2
   have hd3 : (all2.drop i).map Ae = Ae a :: (all2.drop (i + 1)).map Ae := by rw [By ha3]; rfl
   have hf2 : 200 - (i + 1) = f := by omega
   have hl3 : all2.length - i = all2.length - (i + 1) + 1 := by omega
   refine AI ⟨200 - (i + 1), by omega, i + 1, all2, by omega, rfl, hok2, by rw [hf2], ?_, ?_, ?_, ?_, ?_, ?_, ?_, .inr ⟨a, ?_, ?_⟩⟩
   ·simp only [go_sem, fN, seval, AS.drop, Aa, AC.clears, AC.clear, AC.highs, AC.high, Bool.not_false, Bool.true_and, Bool.and_self, AV.purge, AV.purges, AC.purge, AJ.purge, List.contains_cons, List.contains_nil, Nat.reduceBEq, Bool.or_self, Bool.or_false, Bool.false_or, Bool.or_true, eT, iR, e0]
   ·simp only [go_sem, fN, seval, AS.drop, Aa, AC.clears, AC.clear, AC.highs, AC.high, Bool.not_false, Bool.true_and, Bool.and_self, AV.purge, AV.purges, AC.purge, AJ.purge, List.contains_cons, List.contains_nil, Nat.reduceBEq, Bool.or_self, Bool.or_false, Bool.false_or, Bool.or_true, eT, iR, e7]
   ·simp only [go_sem, fN, seval, AS.drop, Aa, AC.clears, AC.clear, AC.highs, AC.high, Bool.not_false, Bool.true_and, Bool.and_self, AV.purge, AV.purges, AC.purge, AJ.purge, List.contains_cons, List.contains_nil, Nat.reduceBEq, Bool.or_self, Bool.or_false, Bool.false_or, Bool.or_true, eT, iR, s22]
   ·simp only [go_sem, fN, seval, AS.drop, Aa, AC.clears, AC.clear, AC.highs, AC.high, Bool.not_false, Bool.true_and, Bool.and_self, AV.purge, AV.purges, AC.purge, AJ.purge, List.contains_cons, List.contains_nil, Nat.reduceBEq, Bool.or_self, Bool.or_false, Bool.false_or, Bool.or_true, eT, iR]
   ·simp only [go_sem, fN, seval, AS.drop, Aa, AC.clears, AC.clear, AC.highs, AC.high, Bool.not_false, Bool.true_and, Bool.and_self, AV.purge, AV.purges, AC.purge, AJ.purge, List.contains_cons, List.contains_nil, Nat.reduceBEq, Bool.or_self, Bool.or_false, Bool.false_or, Bool.or_true, eT, iR]
   ·simp only [go_sem, fN, seval, AS.drop, Aa, AC.clears, AC.clear, AC.highs, AC.high, Bool.not_false, Bool.true_and, Bool.and_self, AV.purge, AV.purges, AC.purge, AJ.purge, List.contains_cons, List.contains_nil, Nat.reduceBEq, Bool.or_self, Bool.or_false, Bool.false_or, Bool.or_true, eT, iR, s67]
   ·simp only [go_sem, fN, seval, AS.drop, Aa, AC.clears, AC.clear, AC.highs, AC.high, Bool.not_false, Bool.true_and, Bool.and_self, AV.purge, AV.purges, AC.purge, AJ.purge, List.contains_cons, List.contains_nil, Nat.reduceBEq, Bool.or_self, Bool.or_false, Bool.false_or, Bool.or_true, eT, iR, s502]
   ·simp only [go_sem, fN, seval, AS.drop, Aa, AC.clears, AC.clear, AC.highs, AC.high, Bool.not_false, Bool.true_and, Bool.and_self, AV.purge, AV.purges, AC.purge, AJ.purge, List.contains_cons, List.contains_nil, Nat.reduceBEq, Bool.or_self, Bool.or_false, Bool.false_or, Bool.or_true, eT, iR, hl3]
   ·rw [hd3] at s500
    simp only [go_sem, fN, seval, AS.drop, Aa, AC.clears, AC.clear, AC.highs, AC.high, Bool.not_false, Bool.true_and, Bool.and_self, AV.purge, AV.purges, AC.purge, AJ.purge, List.contains_cons, List.contains_nil, Nat.reduceBEq, Bool.or_self, Bool.or_false, Bool.false_or, Bool.or_true, eT, iR, s500]
  have hkl' : (k : Int) < l.length := by omega
  obtain ⟨x, hx⟩ := Ac hkl
  have hxo := hlo x (AO hx)
  have htx := x.text_le hxo.1
  rw [By hx, Cv]
  by_cases hin : x.text ∈ all2.map Tm.text
  ·have hget := H0 hin
   rw [if_pos hin]
   repeat' (first | (with_reducible first | refine W ?_ | refine Z0 ?_ | ((first | refine Wo fun K hK => ?_ | refine Wp ?_ | refine Wq ?_ | refine Wr ?_); (try simp only [go_sem, fN, seval, eT, iR, e0, e7, e8, e44, e45, e46, s22, s12, s67, s502, s500, hkl', hx, hdl2, Bh, C_, KV.of, hget, Ef, dT, dF, nL]); (repeat refine Ai ?_); (try (refine hK _ ?_; clear hK K)); try refine iC ?_)) | refine Cg _ (K8 x (Fv hxo.1) (by omega)) ?_)
   refine AI ⟨l.length - (k + 1), by omega, k + 1, all2, by omega, rfl, hok2, hpre, rfl, ?_⟩
   simp only [go_sem, fN, seval, AS.drop, Aa, AC.clears, AC.clear, AC.highs, AC.high, Bool.not_false, Bool.true_and, Bool.and_self, AV.purge, AV.purges, AC.purge, AJ.purge, List.contains_cons, List.contains_nil, Nat.reduceBEq, Bool.or_self, Bool.or_false, Bool.false_or, Bool.or_true, eT, iR, e0, e7, e8, e44, e45, e46, s22, s12, s67, s502, s500]
   congr 3
  have hget := Gq hin
  have hput := P9 hin
  rw [if_neg hin]
  by_cases hg : 200 ≤ all2.length
  ·rw [if_pos hg]
   have hg' : (200 : Int) < ((all2.length + 1 : Nat) : Int) := by omega
   simp only
   rw [DI]
   repeat' (first | (with_reducible first | refine W ?_ | refine Z0 ?_ | ((first | refine Wo fun K hK => ?_ | refine Wp ?_ | refine Wq ?_ | refine Wr ?_); (try simp only [go_sem, fN, seval, eT, iR, e0, e7, e8, e44, e45, e46, s22, s12, s67, s502, s500, hkl', hx, hdl2, Bh, C_, KV.of, hget, hput, Ef, hg', dT, dF, nL]); (repeat refine Ai ?_); (try (refine hK _ ?_; clear hK K)); try refine iC ?_)) | refine Cg _ (K8 x (Fv hxo.1) (by omega)) ?_)
   simp only [go_sem, fN, seval, AQ, AS.result, AD, AE, AL]
   rfl
  ·rw [if_neg hg]
   have hg' : ¬ (200 : Int) < ((all2.length + 1 : Nat) : Int) := by omega
   have hl4 : (all2 ++ [x]).length - i = all2.length - i + 1 := by rw [List.length_append, List.length_singleton]; omega
   have hd4 : ((all2 ++ [x]).drop i).map Ae = (all2.drop i).map Ae ++ [Ae x] := by
    rw [List.drop_append_of_le_length (by omega), List.map_append]
    rfl
   have hm4 : (all2 ++ [x]).map Tm.text = all2.map Tm.text ++ [x.text] := by rw [List.map_append]; rfl
   repeat' (first | (with_reducible first | refine W ?_ | refine Z0 ?_ | ((first | refine Wo fun K hK => ?_ | refine Wp ?_ | refine Wq ?_ | refine Wr ?_); (try simp only [go_sem, fN, seval, eT, iR, e0, e7, e8, e44, e45, e46, s22, s12, s67, s502, s500, hkl', hx, hdl2, Bh, C_, KV.of, hget, hput, Ef, hg', dT, dF, nL]); (repeat refine Ai ?_); (try (refine hK _ ?_; clear hK K)); try refine iC ?_)) | refine Cg _ (K8 x (Fv hxo.1) (by omega)) ?_)
   refine AI ⟨l.length - (k + 1), by omega, k + 1, all2 ++ [x], by omega, rfl, hok2.snoc (by omega) hxo hin, hpre.trans (List.prefix_append _ _), rfl, ?_⟩
   simp only [go_sem, fN, seval, AS.drop, Aa, AC.clears, AC.clear, AC.highs, AC.high, Bool.not_false, Bool.true_and, Bool.and_self, AV.purge, AV.purges, AC.purge, AJ.purge, List.contains_cons, List.contains_nil, Nat.reduceBEq, Bool.or_self, Bool.or_false, Bool.false_or, Bool.or_true, eT, iR, e0, e7, e8, e44, e45, e46, s22, s12, s67, s502, s500, hl4, hd4, hm4]
   exact ⟨by congr 2; omega, by congr 3⟩

def Dw : IR :=
 (.seq (.ops [.i 2 (.mov (.c (.one (.full []))))]) (.seq (.ops [.i 3 (.mov (.c (.one (.full []))))]) (.seq (.seq (.ops [.i 4 (.mov (.n 0))]) (.block 0 (.loop (.seq (.seq (.ops [.m 6 4, .m 7 0, .i 8 (.len false (.t 7)), .i 9 (.bin .lss (.t 6) (.t 8))]) (.cond (.t 9) .skip (.exit 0))) (.seq (.block 1 (.seq (.ops [.m 12 3, .i 13 (.len false (.t 12)), .m 5 13]) (.seq (.block 2 (.loop (.seq (.seq (.ops [.m 14 5, .i 15 (.bin .gtr (.t 14) (.n 0)), .m 16 15, .mk (some 17) (some (16, true)) (.mov (.t 0)) .no, .mk (some 18) (some (16, true)) (.mov (.t 4)) .no, .mk (some 19) (some (16, true)) (.indexAddr 1 (.t 17) (.t 18)) .no, .mk (some 20) (some (16, true)) (.load false 1 (.t 19)) .no, .mk (some 21) (some (16, true)) (.mov (.t 3)) .no, .mk (some 22) (some (16, true)) (.mov (.t 5)) .no, .mk (some 23) (some (16, true)) (.bin .sub (.t 22) (.n 1)) .no, .mk (some 24) (some (16, true)) (.indexAddr 1 (.t 21) (.t 23)) .no, .mk (some 25) (some (16, true)) (.load false 1 (.t 24)) .no, .mk (some 26) (some (16, true)) (.bin .lss (.t 20) (.t 25)) .no, .i 27 (.pick (.t 16) (.t 26) (.c (.one (.st (.bool false)))))]) (.cond (.t 27) .skip (.exit 2))) (.block 3 (.ops [.m 28 5, .i 29 (.bin .sub (.t 28) (.n 1)), .m 5 29]))))) (.seq (.seq (.ops [.m 30 5, .i 31 (.bin .gtr (.t 30) (.n 0)), .m 32 31, .mk (some 33) (some (32, true)) (.mov (.t 3)) .no, .mk (some 34) (some (32, true)) (.mov (.t 5)) .no, .mk (some 35) (some (32, true)) (.bin .sub (.t 34) (.n 1)) .no, .mk (some 36) (some (32, true)) (.indexAddr 1 (.t 33) (.t 35)) .no, .mk (some 37) (some (32, true)) (.load false 1 (.t 36)) .no, .mk (some 38) (some (32, true)) (.mov (.t 0)) .no, .mk (some 39) (some (32, true)) (.mov (.t 4)) .no, .mk (some 40) (some (32, true)) (.indexAddr 1 (.t 38) (.t 39)) .no, .mk (some 41) (some (32, true)) (.load false 1 (.t 40)) .no, .mk (some 42) (some (32, true)) (.bin .eql (.t 37) (.t 41)) .no, .i 43 (.pick (.t 32) (.t 42) (.c (.one (.st (.bool false)))))]) (.cond (.t 43) (.exit 1) .skip)) (.seq (.ops [.m 44 3, .i 45 (.buildFlat [.c (.one (.st (.str (ByteArray.mk (#[])))))]), .i 46 (.append true 9 1 16 (.t 44) (.t 45)), .m 3 46]) (.seq (.ops [.m 47 3, .m 48 5, .i 49 (.bin .add (.t 48) (.n 1)), .i 50 (.restP 1 (.t 47) (.t 49)), .m 51 3, .m 52 5, .i 53 (.restP 1 (.t 51) (.t 52)), .i 54 (.copyP (.t 50) (.t 53))]) (.ops [.m 55 3, .m 56 5, .m 57 0, .m 58 4, .i 59 (.indexAddr 1 (.t 57) (.t 58)), .l 60 59, .i 61 (.indexAddr 1 (.t 55) (.t 56)), .s 1 61 60]))))))) (.ops [.m 10 4, .i 11 (.bin .add (.t 10) (.n 1)), .m 4 11])))))) (.seq (.ops [.m 62 3, .m 2 62]) .ret))))
theorem Gv : OkF Tryz.prog 26 63 [46, 30000050, 30000053] Dw [.t 2] := .of Tryz.func26 rfl rfl (by kernel_rfl) rfl

theorem Ms {α : Type} (ys : List α) (z e : α) (k : Nat) (hk : k ≤ ys.length) :
  (((ys ++ [z]).take (k + 1) ++ (((ys ++ [z]).drop k).take (min ((ys ++ [z]).length - k) ((ys ++ [z]).length - (k + 1))) ++ (ys ++ [z]).drop (k + 1 + min ((ys ++ [z]).length - k) ((ys ++ [z]).length - (k + 1))))).set k e) = ys.take k ++ e :: ys.drop k := by
 have hm : min ((ys ++ [z]).length - k) ((ys ++ [z]).length - (k + 1)) = ys.length - k := by simp; omega
 rw [hm]
 have hd : (ys ++ [z]).drop (k + 1 + (ys.length - k)) = [] := List.drop_eq_nil_of_le (by simp; omega)
 rw [hd, List.append_nil]
 refine List.ext_getElem? fun j => ?_
 by_cases h1 : j = k
 ·subst h1
  rw [List.getElem?_set_self (by simp; omega), List.getElem?_append_right (by simp; omega)]
  simp [Nat.min_eq_left hk]
 ·rw [List.getElem?_set_ne (Ne.symm h1)]
  rcases Nat.lt_or_ge j k with h2 | h2
  ·rw [List.getElem?_append_left (by simp; omega), List.getElem?_append_left (by simp; omega), List.getElem?_take, List.getElem?_take, if_pos (by omega), if_pos h2, List.getElem?_append_left (by omega)]
  ·obtain ⟨d, rfl⟩ : ∃ d, j = k + 1 + d := ⟨j - (k + 1), by omega⟩
   have e1 : ((ys ++ [z]).take (k + 1)).length = k + 1 := by simp; omega
   have e2 : (ys.take k).length = k := by simp; omega
   rw [List.getElem?_append_right (by omega), List.getElem?_append_right (by omega), e1, e2, show k + 1 + d - (k + 1) = d by omega, show k + 1 + d - k = d + 1 by omega, List.getElem?_cons_succ, List.getElem?_take, List.getElem?_drop]
   split
   ·rename_i h3
    rw [List.getElem?_drop, List.getElem?_append_left (by omega)]
   ·rw [List.getElem?_drop, List.getElem?_eq_none (by omega)]
def KW (l : List ByteArray) : Prop := l.Pairwise fun a b => sLt a b = true
theorem FG {out : List ByteArray} {s : ByteArray} {k : Nat} (h : KW out) (hk : k ≤ out.length) (h1 : ∀ j x, k ≤ j → out[j]? = some x → sLt s x = true) (h2 : ∀ k1 q, k = k1 + 1 → out[k1]? = some q → sLt q s = true) : KW (out.take k ++ s :: out.drop k) := by
 have hlow : ∀ x ∈ out.take k, sLt x s = true := fun x hx => by
  obtain ⟨j, hj⟩ := List.getElem?_of_mem hx
  rw [List.getElem?_take] at hj
  split at hj
  ·rename_i hjk
   obtain ⟨k1, rfl⟩ : ∃ k1, k = k1 + 1 := ⟨k - 1, by omega⟩
   obtain ⟨q, hq⟩ := Ac (show k1 < out.length by omega)
   have hqs := h2 k1 q rfl hq
   by_cases e : j = k1
   ·subst e
    rw [hq] at hj
    cases hj
    exact hqs
   ·have := List.pairwise_iff_getElem.1 h j k1 (by omega) (by omega) (by omega)
    rw [List.getElem?_eq_getElem (by omega)] at hj hq
    cases hj
    cases hq
    exact B0 this hqs
  ·cases hj
 have hhigh : ∀ x ∈ out.drop k, sLt s x = true := fun x hx => by
  obtain ⟨j, hj⟩ := List.getElem?_of_mem hx
  rw [List.getElem?_drop] at hj
  exact h1 (k + j) x (by omega) hj
 unfold KW
 rw [List.pairwise_append]
 refine ⟨h.sublist (List.take_sublist _ _), List.pairwise_cons.2 ⟨hhigh, h.sublist (List.drop_sublist _ _)⟩, fun a ha b hb => ?_⟩
 rcases List.mem_cons.1 hb with rfl | hb
 ·exact hlow a ha
 ·exact B0 (hlow a ha) (hhigh b hb)
abbrev RN (l : List ByteArray) : AJ := .mrow 9 1 (l.map Bj)
theorem JA (l : List ByteArray) (hn : l.Nodup) (hl : l.length ≤ 1000) : AT Tryz.prog 26 [Bm l] (Bm (srt l)) := by
 refine Gv.ac fun C hC => ?_
 unfold Dw
 repeat' with_reducible first | refine W ?_ | refine Z0 ?_ | ((first | refine Wo fun K hK => ?_ | refine Wp ?_ | refine Wq ?_ | refine Wr ?_); (try simp only [go_sem, fN, seval, eT, iR, dT, dF, nL]); (repeat refine Ai ?_); (try (refine hK _ ?_; clear hK K)); try refine iC ?_)
 refine IWP.ghost (AW.ownM 3 500 9 1 (by rfl) (by rfl) (by rw [hC]; decide)) ?_
 refine IWP.loop (fun m s => ∃ i out, i ≤ l.length ∧ m = l.length - i ∧ out.length ≤ i ∧ KW out ∧ (∀ x, x ∈ out ↔ x ∈ l.take i) ∧ s.env 0 = Bm l ∧ s.env 3 = .one (.row 500 out.length) ∧ s.env 4 = Ab i ∧ s.S 500 = some (RN out)) l.length ⟨0, [], Nat.zero_le _, rfl, Nat.le_refl _, List.Pairwise.nil, by simp, rfl, rfl, rfl, rfl⟩ ?_
 rintro m ⟨env, S⟩ ⟨i, out, hi, rfl, hol, hst, hmem, e0, e3, e4, s500⟩
 simp only at e0 e3 e4 s500
 have hlm : (out.map Bj).length = out.length := List.length_map _
 by_cases hlt : i < l.length
 case neg =>
  have hlt' : ¬ (i : Int) < l.length := by omega
  rw [List.take_of_length_le (by omega)] at hmem
  have hso : out = srt l := JC hst (NP hn) fun x => by rw [hmem]; exact ((Dh l).mem_iff).symm
  refine IWP.ghost (AW.share (id := 500) s500) ?_
  repeat' with_reducible first | refine W ?_ | refine Z0 ?_ | ((first | refine Wo fun K hK => ?_ | refine Wp ?_ | refine Wq ?_ | refine Wr ?_); (try simp only [go_sem, fN, seval, eT, iR, e0, e3, e4, hlt', dT, dF, nL]); (repeat refine Ai ?_); (try (refine hK _ ?_; clear hK K)); try refine iC ?_)
  simp only [go_sem, fN, seval, AQ, AS.result, AD, AE, AL, hlm]
  rw [← hso]
 have hlt' : (i : Int) < l.length := by omega
 obtain ⟨s, hs⟩ := Ac hlt
 have hsn : s ∉ out := fun h => by
  rw [hmem] at h
  obtain ⟨j, hj⟩ := List.getElem?_of_mem h
  rw [List.getElem?_take] at hj
  split at hj
  ·rename_i hji
   have := List.pairwise_iff_getElem.1 hn j i (by omega) hlt hji
   exact this ((List.getElem?_eq_some_iff.1 hj).2.trans (List.getElem?_eq_some_iff.1 hs).2.symm)
  ·cases hj
 repeat' with_reducible first | refine W ?_ | refine Z0 ?_ | ((first | refine Wo fun K hK => ?_ | refine Wp ?_ | refine Wq ?_ | refine Wr ?_); (try simp only [go_sem, fN, seval, eT, iR, e0, e3, e4, s500, hlt', hlm, dT, dF, nL]); (repeat refine Ai ?_); (try (refine hK _ ?_; clear hK K)); try refine iC ?_)
 refine IWP.loop (fun m x => ∃ k, k ≤ out.length ∧ m = k ∧ (∀ j y, k ≤ j → out[j]? = some y → sLt s y = true) ∧ x.env 0 = Bm l ∧ x.env 3 = .one (.row 500 out.length) ∧ x.env 4 = Ab i ∧ x.env 5 = Ab k ∧ x.S 500 = some (RN out)) out.length ⟨out.length, Nat.le_refl _, rfl, ?_, ?_⟩ ?_
 ·intro j y hj hy
  rw [List.getElem?_eq_none hj] at hy
  cases hy
 ·simp only [go_sem, fN, seval, eT, iR, e0, e3, e4, s500]
 rintro k ⟨env, S⟩ ⟨_, hk, rfl, hge, e0, e3, e4, e5, s500⟩
 simp only at e0 e3 e4 e5 s500
 have hk1 : ((k : Int) + 1).toNat = k + 1 := by omega
 obtain ⟨X, hX⟩ : ∃ X, List.take (k + 1) (List.map Bj out ++ [[SV.str ⟨#[]⟩]]) ++ (List.take (min (out.length + 1 - k) (out.length - k)) (List.drop k (List.map Bj out ++ [[SV.str ⟨#[]⟩]])) ++ List.drop (k + 1 + min (out.length + 1 - k) (out.length - k)) (List.map Bj out ++ [[SV.str ⟨#[]⟩]])) = X := ⟨_, rfl⟩
 have hXl : X.length = out.length + 1 := by
  rw [← hX]
  simp
  omega
 have hXi := Ms (out.map Bj) [SV.str ⟨#[]⟩] [SV.str s] k (by rw [hlm]; exact hk)
 simp only [List.length_append, hlm, List.length_singleton, show out.length + 1 - (k + 1) = out.length - k by omega] at hXi
 rw [hX, ← List.map_take, ← List.map_drop] at hXi
 obtain ⟨c0, hc0⟩ : ∃ c0, X[k]? = some [c0] := by
  rw [← hX, List.getElem?_append_left (by simp; omega), List.getElem?_take, if_pos (by omega)]
  rcases Nat.lt_or_ge k out.length with h | h
  ·rw [List.getElem?_append_left (by rw [hlm]; exact h), List.getElem?_map, List.getElem?_eq_getElem h]
   exact ⟨_, rfl⟩
  ·rw [List.getElem?_append_right (by rw [hlm]; exact h), hlm, show k - out.length = 0 by omega]
   exact ⟨_, rfl⟩
 have hnew : ∀ x, x ∈ out.take k ++ s :: out.drop k ↔ x ∈ l.take (i + 1) := fun x => by
  rw [Am hs, List.mem_append, List.mem_append, List.mem_cons, ← hmem, List.mem_singleton]
  constructor
  ·rintro (h | h | h)
   ·exact .inl (List.mem_of_mem_take h)
   ·exact .inr h
   ·exact .inl (List.mem_of_mem_drop h)
  ·rintro (h | h)
   ·rw [← List.take_append_drop k out, List.mem_append] at h
    rcases h with h | h
    ·exact .inl h
    ·exact .inr (.inr h)
   ·exact .inr (.inl h)
 have hrow : RN (out.take k ++ s :: out.drop k) = .mrow 9 1 (X.set k [SV.str s]) := by
  rw [hXi]
  simp [RN]
 by_cases h0 : (0 : Int) < (k : Int)
 case neg =>
  repeat' with_reducible first | refine W ?_ | refine Z0 ?_ | ((first | refine Wo fun K hK => ?_ | refine Wp ?_ | refine Wq ?_ | refine Wr ?_); (try simp only [go_sem, fN, seval, eT, iR, e0, e3, e4, e5, s500, hs, hlm, h0, hk1, hX, hXl, hc0, dT, dF, nL]); (repeat refine Ai ?_); (try (refine hK _ ?_; clear hK K)); try refine iC ?_)
  refine AI ⟨l.length - (i + 1), by omega, i + 1, out.take k ++ s :: out.drop k, by omega, rfl, by simp; omega, FG hst hk hge (fun k1 q h => by omega), hnew, ?_⟩
  simp only [go_sem, fN, seval, eT, iR, e0, e3, e4, hrow, splice]
  exact ⟨by congr 2; simp; omega, by congr 3⟩
 obtain ⟨k1, hkk⟩ : ∃ k1, k = k1 + 1 := ⟨k - 1, by omega⟩
 obtain ⟨q, hq⟩ := Ac (show k1 < out.length by omega)
 have hki : (k : Int) - 1 = (k1 : Int) := by omega
 by_cases hsq : sLt s q = true
 ·repeat' with_reducible first | refine W ?_ | refine Z0 ?_ | ((first | refine Wo fun K hK => ?_ | refine Wp ?_ | refine Wq ?_ | refine Wr ?_); (try simp only [go_sem, fN, seval, eT, iR, e0, e3, e4, e5, s500, hs, hlm, h0, hki, hq, hsq, dT, dF, nL]); (repeat refine Ai ?_); (try (refine hK _ ?_; clear hK K)); try refine iC ?_)
  refine AI ⟨k1, by omega, k1, by omega, rfl, fun j y hj hy => ?_, ?_⟩
  ·by_cases e : j = k1
   ·subst e
    rw [hq] at hy
    cases hy
    exact hsq
   ·exact hge j y (by omega) hy
  ·simp only [go_sem, fN, seval, eT, iR, e0, e3, e4, s500]
 ·have hne : ¬ q = s := fun e => hsn (by rw [← e]; exact AO hq)
  repeat' with_reducible first | refine W ?_ | refine Z0 ?_ | ((first | refine Wo fun K hK => ?_ | refine Wp ?_ | refine Wq ?_ | refine Wr ?_); (try simp only [go_sem, fN, seval, eT, iR, e0, e3, e4, e5, s500, hs, hlm, h0, hki, hq, hsq, hne, hk1, hX, hXl, hc0, dT, dF, nL]); (repeat refine Ai ?_); (try (refine hK _ ?_; clear hK K)); try refine iC ?_)
  refine AI ⟨l.length - (i + 1), by omega, i + 1, out.take k ++ s :: out.drop k, by omega, rfl, by simp; omega, FG hst hk hge (fun k1' q' h hq' => ?_), hnew, ?_⟩
  ·obtain rfl : k1' = k1 := by omega
   rw [hq] at hq'
   cases hq'
   rcases C6 q s with h | h | h
   ·exact h
   ·exact absurd h hne
   ·exact absurd h hsq
  simp only [go_sem, fN, seval, eT, iR, e0, e3, e4, hrow, splice]
  exact ⟨by congr 2; simp; omega, by congr 3⟩

theorem PE {R : List Pr} (hR : Ce R) (t : Tm) (hc : t.chk = 0) (hz : t.size ≤ 200) : AT Tryz.prog 10 [Cx R, aTm t] (Ei (Bk R 200 0 [t])) := by
 have ok1 : FF [t] := ⟨fun x hx => by rw [List.mem_singleton.1 hx]; exact ⟨hc, by omega⟩, by simp, by simp⟩
 have sh := IV ok1 (x := t) (by simp)
 refine KQ.ac fun C hC => ?_
 unfold Fq
 repeat' (first | (with_reducible first | refine W ?_ | refine Z0 ?_ | ((first | refine Wo fun K hK => ?_ | refine Wp ?_ | refine Wq ?_ | refine Wr ?_); (try simp only [go_sem, fN, seval, eT, iR, Bh, C_, KV.of, GZ, dT, dF, nL]); (repeat refine Ai ?_); (try (refine hK _ ?_; clear hK K)); try refine iC ?_)) | refine Cg _ (Hh t (by omega)) ?_)
 refine IWP.ghost (AW.own 6 500 25 2 (xs := [[.str t.name, .list (t.args.map Ae)]]) (by rfl) (by rfl) (by simp) (by rw [hC]; decide)) ?_
 refine IWP.ghost (AW.own 8 501 9 1 (xs := [[.str t.text]]) (by rfl) (by rfl) (by simp) (by rw [hC]; decide)) ?_
 refine IWP.loop (fun m s => ∃ i all, i ≤ all.length ∧ m = 200 - i ∧ FF all ∧ Bk R 200 0 [t] = Bk R (200 - i) i all ∧ s.env 0 = Cx R ∧ s.env 6 = .one (.row 500 all.length) ∧ s.env 7 = .one (.mptr 16) ∧ s.env 8 = .one (.row 501 all.length) ∧ s.env 9 = Ab i ∧ s.S 16 = some (OM (all.map Tm.text)) ∧ s.S 500 = some (.arow 25 2 (all.map Ae)) ∧ s.S 501 = some (.arow 9 1 ((all.map Tm.text).map Bj))) 200 ⟨0, [t], Nat.zero_le _, rfl, ok1, rfl, rfl, rfl, rfl, rfl, rfl, ?_, ?_, ?_⟩ ?_
 ·simp only [go_sem, fN, seval, eT, iR]
  try rfl
 ·simp only [go_sem, fN, seval, eT, iR]
  try rfl
 ·simp only [go_sem, fN, seval, eT, iR]
  try rfl
 rintro m ⟨env, S⟩ ⟨i, all, hi, rfl, hok, htot, e0, e6, e7, e8, e9, s16, s500, s501⟩
 simp only at e0 e6 e7 e8 e9 s16 s500 s501
 rw [htot]
 have h200 := hok.len
 have hl0 : (all.map Ae).length = all.length := List.length_map _
 have hl1 : ((all.map Tm.text).map Bj).length = all.length := by rw [List.length_map, List.length_map]
 by_cases hlt : i < all.length
 case neg =>
  have hlt' : ¬ (i : Int) < all.length := by omega
  rw [HO (by omega)]
  unfold Ei
  repeat' (first | (with_reducible first | refine W ?_ | refine Z0 ?_ | ((first | refine Wo fun K hK => ?_ | refine Wp ?_ | refine Wq ?_ | refine Wr ?_); (try simp only [go_sem, fN, seval, eT, iR, e0, e6, e7, e8, e9, s16, s500, s501, hlt', hl0, hl1, dT, dF, nL]); (repeat refine Ai ?_); (try (refine hK _ ?_; clear hK K)); try refine iC ?_)) | refine Cg _ (JA (all.map Tm.text) hok.nod (by rw [List.length_map]; omega)) ?_)
  simp only [go_sem, fN, seval, AQ, AS.result, AD, AE, AL]
 have hlt' : (i : Int) < all.length := by omega
 obtain ⟨a, ha2⟩ := Ac hlt
 have hao := hok.ok a (AO ha2)
 have hon := PD hR a hao.1 hao.2
 obtain ⟨f, hf⟩ : ∃ f, 200 - i = f + 1 := ⟨200 - i - 1, by omega⟩
 rw [hf, JW ha2]
 cases hsT : D0 R a with
 | none =>
  rw [hsT] at hon
  unfold C7 at hon
  rw [DI]
  repeat' (first | (with_reducible first | refine W ?_ | refine Z0 ?_ | ((first | refine Wo fun K hK => ?_ | refine Wp ?_ | refine Wq ?_ | refine Wr ?_); (try simp only [go_sem, fN, seval, eT, iR, e0, e6, e7, e8, e9, s16, s500, s501, hlt', ha2, dT, dF, nL]); (repeat refine Ai ?_); (try (refine hK _ ?_; clear hK K)); try refine iC ?_)) | refine Cg _ (hon) ?_)
  simp only [go_sem, fN, seval, AQ, AS.result, AD, AE, AL]
  rfl
 | some l =>
  rw [hsT] at hon
  unfold C7 at hon
  have hlo := Jt hR hao.1 hsT
  have hlen : l.length ≤ 80000 := by
   have h1 := DH (show A1 R (a.places.map (F0 [] a)) = some l from hsT)
   rw [List.length_map, Tm.places_length] at h1
   exact Nat.le_trans h1 (Nat.mul_le_mul hao.2 hR.len)
  repeat' (first | (with_reducible first | refine W ?_ | refine Z0 ?_ | ((first | refine Wo fun K hK => ?_ | refine Wp ?_ | refine Wq ?_ | refine Wr ?_); (try simp only [go_sem, fN, seval, eT, iR, e0, e6, e7, e8, e9, s16, s500, s501, hlt', ha2, dT, dF, nL]); (repeat refine Ai ?_); (try (refine hK _ ?_; clear hK K)); try refine iC ?_)) | refine Cg _ (hon) ?_)
  refine IWP.loop (fun m s => ∃ k all2, k ≤ l.length ∧ m = l.length - k ∧ FF all2 ∧ all <+: all2 ∧ Cv all l = Cv all2 (l.drop k) ∧ s.env 0 = Cx R ∧ s.env 6 = .one (.row 500 all2.length) ∧ s.env 7 = .one (.mptr 16) ∧ s.env 8 = .one (.row 501 all2.length) ∧ s.env 9 = Ab i ∧ s.env 10 = GY l ∧ s.env 12 = Ab k ∧ s.S 16 = some (OM (all2.map Tm.text)) ∧ s.S 500 = some (.arow 25 2 (all2.map Ae)) ∧ s.S 501 = some (.arow 9 1 ((all2.map Tm.text).map Bj))) l.length ⟨0, all, Nat.zero_le _, rfl, hok, List.prefix_refl _, rfl, ?_⟩ ?_
  ·simp only [go_sem, fN, seval, eT, iR, e0, e6, e7, e8, e9, s16, s500, s501]
  rintro m ⟨env, S⟩ ⟨k, all2, hk, rfl, hok2, hpre, hadd, e0, e6, e7, e8, e9, e10, e12, s16, s500, s501⟩
  simp only at e0 e6 e7 e8 e9 e10 e12 s16 s500 s501
  rw [hadd]
  have hle := hpre.length_le
  have h200' := hok2.len
  have hl0 : (all2.map Ae).length = all2.length := List.length_map _
  by_cases hkl : k < l.length
  case neg =>
   have hkl' : ¬ (k : Int) < l.length := by omega
   rw [List.drop_of_length_le (by omega), Cv]
   repeat' with_reducible first | refine W ?_ | refine Z0 ?_ | ((first | refine Wo fun K hK => ?_ | refine Wp ?_ | refine Wq ?_ | refine Wr ?_); (try simp only [go_sem, fN, seval, eT, iR, e0, e6, e7, e8, e9, e10, e12, s16, s500, s501, hkl', dT, dF, nL]); (repeat refine Ai ?_); (try (refine hK _ ?_; clear hK K)); try refine iC ?_)
   have hf2 : 200 - (i + 1) = f := by omega
   refine AI ⟨200 - (i + 1), by omega, i + 1, all2, by omega, rfl, hok2, by rw [hf2], ?_⟩
   simp only [go_sem, fN, seval, eT, iR, e0, e6, e7, e8, e9, s16, s500, s501]
   congr 3
  have hkl' : (k : Int) < l.length := by omega
  obtain ⟨x, hx⟩ := Ac hkl
  have hxo := hlo x (AO hx)
  have htx := x.text_le hxo.1
  rw [By hx, Cv]
  by_cases hin : x.text ∈ all2.map Tm.text
  ·have hget := H0 hin
   rw [if_pos hin]
   repeat' (first | (with_reducible first | refine W ?_ | refine Z0 ?_ | ((first | refine Wo fun K hK => ?_ | refine Wp ?_ | refine Wq ?_ | refine Wr ?_); (try simp only [go_sem, fN, seval, eT, iR, e0, e6, e7, e8, e9, e10, e12, s16, s500, s501, hkl', hx, Bh, C_, KV.of, hget, Ef, dT, dF, nL]); (repeat refine Ai ?_); (try (refine hK _ ?_; clear hK K)); try refine iC ?_)) | refine Cg _ (Hh x (by omega)) ?_)
   refine AI ⟨l.length - (k + 1), by omega, k + 1, all2, by omega, rfl, hok2, hpre, rfl, ?_⟩
   simp only [go_sem, fN, seval, eT, iR, e0, e6, e7, e8, e9, e10, e12, s16, s500, s501]
   congr 3
  have hget := Gq hin
  have hput := P9 hin
  rw [if_neg hin]
  by_cases hg : 200 ≤ all2.length
  ·rw [if_pos hg]
   have hg' : (200 : Int) < ((all2.length + 1 : Nat) : Int) := by omega
   simp only
   rw [DI]
   repeat' (first | (with_reducible first | refine W ?_ | refine Z0 ?_ | ((first | refine Wo fun K hK => ?_ | refine Wp ?_ | refine Wq ?_ | refine Wr ?_); (try simp only [go_sem, fN, seval, eT, iR, e0, e6, e7, e8, e9, e10, e12, s16, s500, s501, hkl', hx, Bh, C_, KV.of, hget, hput, Ef, hg', hl0, dT, dF, nL]); (repeat refine Ai ?_); (try (refine hK _ ?_; clear hK K)); try refine iC ?_)) | refine Cg _ (Hh x (by omega)) ?_)
   simp only [go_sem, fN, seval, AQ, AS.result, AD, AE, AL]
   rfl
  ·rw [if_neg hg]
   have hg' : ¬ (200 : Int) < ((all2.length + 1 : Nat) : Int) := by omega
   have hd4 : (all2 ++ [x]).map Ae = all2.map Ae ++ [Ae x] := by rw [List.map_append]; rfl
   have hm4 : (all2 ++ [x]).map Tm.text = all2.map Tm.text ++ [x.text] := by rw [List.map_append]; rfl
   repeat' (first | (with_reducible first | refine W ?_ | refine Z0 ?_ | ((first | refine Wo fun K hK => ?_ | refine Wp ?_ | refine Wq ?_ | refine Wr ?_); (try simp only [go_sem, fN, seval, eT, iR, e0, e6, e7, e8, e9, e10, e12, s16, s500, s501, hkl', hx, Bh, C_, KV.of, hget, hput, Ef, hg', hl0, dT, dF, nL]); (repeat refine Ai ?_); (try (refine hK _ ?_; clear hK K)); try refine iC ?_)) | refine Cg _ (Hh x (by omega)) ?_)
   refine AI ⟨l.length - (k + 1), by omega, k + 1, all2 ++ [x], by omega, rfl, hok2.snoc (by omega) hxo hin, hpre.trans (List.prefix_append _ _), rfl, ?_⟩
   simp only [go_sem, fN, seval, eT, iR, e0, e6, e7, e8, e9, e10, e12, s16, s500, s501, hd4, hm4]
   exact ⟨by congr 3, by rw [List.map_append]; rfl⟩

theorem LB (l : List ByteArray) : AT Tryz.prog 31 [Bm l, Bm l] (Ah true) := by
 refine H2.ac fun C hC => ?_
 unfold EQ
 refine IWP.learn 0 (by omega) fun hkn => ?_
 have hml : l.length ≤ maxLen := by simpa using (show ((l.map Bj).length ≤ maxLen ∧ _) from hkn).1
 unfold maxLen at hml
 repeat' with_reducible first | refine W ?_ | refine Z0 ?_ | ((first | refine Wo fun K hK => ?_ | refine Wp ?_ | refine Wq ?_ | refine Wr ?_); (try simp only [go_sem, fN, seval, eT, iR, dT, dF, nL]); (repeat refine Ai ?_); (try (refine hK _ ?_; clear hK K)); try refine iC ?_)
 refine IWP.loop (fun m s => ∃ k, k ≤ l.length ∧ m = l.length - k ∧ s.env 0 = Bm l ∧ s.env 1 = Bm l ∧ s.env 5 = Ab k) l.length ⟨0, Nat.zero_le _, rfl, rfl, rfl, rfl⟩ ?_
 rintro m ⟨env, S⟩ ⟨k, hk, rfl, e0, e1, e5⟩
 simp only at e0 e1 e5
 by_cases hkl : (k : Int) < l.length
 ·obtain ⟨x, hx⟩ := Ac (show k < l.length by omega)
  repeat' with_reducible first | refine W ?_ | refine Z0 ?_ | ((first | refine Wo fun K hK => ?_ | refine Wp ?_ | refine Wq ?_ | refine Wr ?_); (try simp only [go_sem, fN, seval, eT, iR, e0, e1, e5, hkl, hx, dT, dF, nL]); (repeat refine Ai ?_); (try (refine hK _ ?_; clear hK K)); try refine iC ?_)
  refine AI ⟨l.length - (k + 1), by omega, k + 1, by omega, rfl, ?_⟩
  simp only [go_sem, fN, seval, eT, iR, e0, e1, e5]
  congr 3
 ·repeat' with_reducible first | refine W ?_ | refine Z0 ?_ | ((first | refine Wo fun K hK => ?_ | refine Wp ?_ | refine Wq ?_ | refine Wr ?_); (try simp only [go_sem, fN, seval, eT, iR, e0, e1, e5, hkl, dT, dF, nL]); (repeat refine Ai ?_); (try (refine hK _ ?_; clear hK K)); try refine iC ?_)
  simp only [go_sem, fN, seval, AQ, AS.result, AD, AE, AL]
theorem II (l : List ByteArray) (e : Int) (h : e ≠ 0 → l = []) : AT Tryz.prog 12 [Bm l, Ab e, Bm l, Ab e] (Ah true) := by
 by_cases he : e = 0
 ·subst he
  refine HH.ac fun C hC => ?_
  unfold Eb
  repeat' (first | (with_reducible first | refine W ?_ | refine Z0 ?_ | ((first | refine Wo fun K hK => ?_ | refine Wp ?_ | refine Wq ?_ | refine Wr ?_); (try simp only [go_sem, fN, seval, eT, iR, dT, dF, nL]); (repeat refine Ai ?_); (try (refine hK _ ?_; clear hK K)); try refine iC ?_)) | refine Cg _ (LB l) ?_)
  simp only [go_sem, fN, seval, AQ, AS.result, AD, AE, AL]
 ·have hl := h he
  subst hl
  refine HH.ac fun C hC => ?_
  unfold Eb
  repeat' with_reducible first | refine W ?_ | refine Z0 ?_ | ((first | refine Wo fun K hK => ?_ | refine Wp ?_ | refine Wq ?_ | refine Wr ?_); (try simp only [go_sem, fN, seval, eT, iR, he, dT, dF, nL]); (repeat refine Ai ?_); (try (refine hK _ ?_; clear hK K)); try refine iC ?_)
  simp only [go_sem, fN, seval, AQ, AS.result, AD, AE, AL]
theorem Ht (R : List Pr) : ∀ (f i : Nat) (all : List Tm), (Bk R f i all).2 ≠ 0 → (Bk R f i all).1 = []
 | 0, i, all, h => absurd rfl h
 | f + 1, i, all, h => by
  rw [Bk] at h ⊢
  split
  ·rename_i h1
   rw [h1] at h
   exact absurd rfl h
  ·rename_i t h1
   rw [h1] at h
   simp only at h
   split
   ·rfl
   ·rename_i l h2
    rw [h2] at h
    simp only at h
    split
    ·rfl
    ·rename_i all' h3
     rw [h3] at h
     exact Ht R f _ all' h
theorem KT : srt [] = [] := List.eq_nil_of_length_eq_zero (Ev [])
theorem Ik (R : List Pr) (t : Tm) : AT Tryz.prog 3 [Cx R, aTm t] (Ah true) := by
 have cP := Pi R t
 unfold Ei at cP
 by_cases g1 : H8 R = true
 ·refine A5.ac fun C hC => ?_
  unfold Av
  repeat' (first | (with_reducible first | refine W ?_ | refine Z0 ?_ | ((first | refine Wo fun K hK => ?_ | refine Wp ?_ | refine Wq ?_ | refine Wr ?_); (try simp only [go_sem, fN, seval, eT, iR, g1, dT, dF, nL]); (repeat refine Ai ?_); (try (refine hK _ ?_; clear hK K)); try refine iC ?_)) | refine Cg _ (Bu R) ?_)
  simp only [go_sem, fN, seval, AQ, AS.result, AD, AE, AL]
 by_cases g2 : 3000 < t.size
 ·refine A5.ac fun C hC => ?_
  unfold Av
  repeat' (first | (with_reducible first | refine W ?_ | refine Z0 ?_ | ((first | refine Wo fun K hK => ?_ | refine Wp ?_ | refine Wq ?_ | refine Wr ?_); (try simp only [go_sem, fN, seval, eT, iR, g1, g2, dT, dF, nL]); (repeat refine Ai ?_); (try (refine hK _ ?_; clear hK K)); try refine iC ?_)) | refine Cg _ (Bu R) ?_ | refine Cg _ (Ea t) ?_)
  simp only [go_sem, fN, seval, AQ, AS.result, AD, AE, AL]
 by_cases h0 : BH R = 0
 case neg =>
  have ha : GD R t = BH R := if_neg h0
  have hP : DW R t = ([], BH R) := by unfold DW; rw [ha, if_neg h0]
  rw [hP] at cP
  simp only [List.map_nil, KT] at cP
  have cN := II [] (BH R) (fun _ => rfl)
  refine A5.ac fun C hC => ?_
  unfold Av
  repeat' (first | (with_reducible first | refine W ?_ | refine Z0 ?_ | ((first | refine Wo fun K hK => ?_ | refine Wp ?_ | refine Wq ?_ | refine Wr ?_); (try simp only [go_sem, fN, seval, eT, iR, g1, g2, h0, dT, dF, nL]); (repeat refine Ai ?_); (try (refine hK _ ?_; clear hK K)); try refine iC ?_)) | refine Cg _ (Bu R) ?_ | refine Cg _ (Ea t) ?_ | refine Cg _ (Cn R) ?_ | refine Cg _ (cP) ?_ | refine Cg _ (cN) ?_)
  simp only [go_sem, fN, seval, AQ, AS.result, AD, AE, AL]
 case pos =>
 have ha : GD R t = t.may := if_pos h0
 by_cases h1 : t.may = 0
 case neg =>
  have hP : DW R t = ([], t.may) := by unfold DW; rw [ha, if_neg h1]
  rw [hP] at cP
  simp only [List.map_nil, KT] at cP
  have cN := II [] t.may (fun _ => rfl)
  refine A5.ac fun C hC => ?_
  unfold Av
  repeat' (first | (with_reducible first | refine W ?_ | refine Z0 ?_ | ((first | refine Wo fun K hK => ?_ | refine Wp ?_ | refine Wq ?_ | refine Wr ?_); (try simp only [go_sem, fN, seval, eT, iR, g1, g2, h0, h1, dT, dF, nL]); (repeat refine Ai ?_); (try (refine hK _ ?_; clear hK K)); try refine iC ?_)) | refine Cg _ (Bu R) ?_ | refine Cg _ (Ea t) ?_ | refine Cg _ (Cn R) ?_ | refine Cg _ (C5 t) ?_ | refine Cg _ (cP) ?_ | refine Cg _ (cN) ?_)
  simp only [go_sem, fN, seval, AQ, AS.result, AD, AE, AL]
 case pos =>
 obtain ⟨hc, hz⟩ := Tm.may_chk h1
 have hR := JZ h0
 have h40 := hR.len
 have cR := PE hR t hc hz
 have hP : DW R t = Bk R 200 0 [t] := by unfold DW; rw [ha, if_pos h1]
 rw [hP] at cP
 have cN := II (srt ((Bk R 200 0 [t]).1.map Tm.text)) (Bk R 200 0 [t]).2 (fun h => by rw [Ht R _ _ _ h, List.map_nil, KT])
 unfold Ei at cR
 generalize Bk R 200 0 [t] = X at *
 have s30 := Ep t 30 (by omega) (by omega)
 by_cases g3 : 30 < Az t.size 30
 ·refine A5.ac fun C hC => ?_
  unfold Av
  repeat' (first | (with_reducible first | refine W ?_ | refine Z0 ?_ | ((first | refine Wo fun K hK => ?_ | refine Wp ?_ | refine Wq ?_ | refine Wr ?_); (try simp only [go_sem, fN, seval, eT, iR, g1, g2, h0, h1, g3, dT, dF, nL]); (repeat refine Ai ?_); (try (refine hK _ ?_; clear hK K)); try refine iC ?_)) | refine Cg _ (Bu R) ?_ | refine Cg _ (Ea t) ?_ | refine Cg _ (Cn R) ?_ | refine Cg _ (C5 t) ?_ | refine Cg _ (s30) ?_)
  simp only [go_sem, fN, seval, AQ, AS.result, AD, AE, AL]
 by_cases g4 : (6 : Int) < R.length
 ·refine A5.ac fun C hC => ?_
  unfold Av
  repeat' (first | (with_reducible first | refine W ?_ | refine Z0 ?_ | ((first | refine Wo fun K hK => ?_ | refine Wp ?_ | refine Wq ?_ | refine Wr ?_); (try simp only [go_sem, fN, seval, eT, iR, g1, g2, h0, h1, g3, g4, dT, dF, nL]); (repeat refine Ai ?_); (try (refine hK _ ?_; clear hK K)); try refine iC ?_)) | refine Cg _ (Bu R) ?_ | refine Cg _ (Ea t) ?_ | refine Cg _ (Cn R) ?_ | refine Cg _ (C5 t) ?_ | refine Cg _ (s30) ?_)
  simp only [go_sem, fN, seval, AQ, AS.result, AD, AE, AL]
 refine A5.ac fun C hC => ?_
 unfold Av
 repeat' (first | (with_reducible first | refine W ?_ | refine Z0 ?_ | ((first | refine Wo fun K hK => ?_ | refine Wp ?_ | refine Wq ?_ | refine Wr ?_); (try simp only [go_sem, fN, seval, eT, iR, g1, g2, h0, h1, g3, g4, dT, dF, nL]); (repeat refine Ai ?_); (try (refine hK _ ?_; clear hK K)); try refine iC ?_)) | refine Cg _ (Bu R) ?_ | refine Cg _ (Ea t) ?_ | refine Cg _ (Cn R) ?_ | refine Cg _ (C5 t) ?_ | refine Cg _ (s30) ?_)
 refine IWP.loop (fun z s => ∃ k, k ≤ R.length ∧ z = R.length - k ∧ s.env 0 = Cx R ∧ s.env 3 = .one (.ptr 3 1 0 0) ∧ s.S 3 = some (.box 25 [.st (.str t.name), .st (.list (t.args.map Ae))]) ∧ s.env 7 = Ab k) R.length ⟨0, Nat.zero_le _, rfl, rfl, rfl, rfl, rfl⟩ ?_
 rintro z ⟨env, S⟩ ⟨k, hk, rfl, e0, e3, s3, e7⟩
 simp only at e0 e3 s3 e7
 by_cases hkl : (k : Int) < R.length
 ·obtain ⟨q, hq⟩ := Ac (show k < R.length by omega)
  have s1 := Ep q.2 12 (by omega) (by omega)
  by_cases b1 : 12 < Az q.2.size 12
  ·repeat' (first | (with_reducible first | refine W ?_ | refine Z0 ?_ | ((first | refine Wo fun K hK => ?_ | refine Wp ?_ | refine Wq ?_ | refine Wr ?_); (try simp only [go_sem, fN, seval, eT, iR, e0, e3, s3, e7, hkl, hq, Db, b1, dT, dF, nL]); (repeat refine Ai ?_); (try (refine hK _ ?_; clear hK K)); try refine iC ?_)) | refine Cg _ (s1) ?_)
   simp only [go_sem, fN, seval, AQ, AS.result, AD, AE, AL]
  ·repeat' (first | (with_reducible first | refine W ?_ | refine Z0 ?_ | ((first | refine Wo fun K hK => ?_ | refine Wp ?_ | refine Wq ?_ | refine Wr ?_); (try simp only [go_sem, fN, seval, eT, iR, e0, e3, s3, e7, hkl, hq, Db, b1, dT, dF, nL]); (repeat refine Ai ?_); (try (refine hK _ ?_; clear hK K)); try refine iC ?_)) | refine Cg _ (s1) ?_)
   refine AI ⟨R.length - (k + 1), by omega, k + 1, by omega, rfl, ?_⟩
   simp only [go_sem, fN, seval, eT, iR, e0, e3, s3, e7]
   congr 3
 ·repeat' (first | (with_reducible first | refine W ?_ | refine Z0 ?_ | ((first | refine Wo fun K hK => ?_ | refine Wp ?_ | refine Wq ?_ | refine Wr ?_); (try simp only [go_sem, fN, seval, eT, iR, e0, e3, s3, e7, hkl, dT, dF, nL]); (repeat refine Ai ?_); (try (refine hK _ ?_; clear hK K)); try refine iC ?_)) | refine Cg _ (cR) ?_ | refine Cg _ (cP) ?_ | refine Cg _ (cN) ?_)
  simp only [go_sem, fN, seval, AQ, AS.result, AD, AE, AL]

end Go.Proofs.YtgcddcaachpbnaaGreat
