/-
  Proved: for automata made of raw numbers, the three laws on automata hold: the law AutoMade returns true. Conditions: none.
-/
import Derived.Test.YtkegjgodjigjfaaAuM13
namespace Go.Proofs.Ytkegjgodjigjfaa.autoMade
open Go Go.RowKit Go.ChangeShapes Go.WideShapes Go.ChangeAt
set_option linter.unusedVariables false
theorem own:ownKnob Try.prog.godebug=none:=by kernel_rfl
theorem Xs:laidOutB Try.prog=true:=by kernel_rfl
set_option maxRecDepth 100000 in
theorem UC (H:Type) (enc:TypeId × Value→H) (W:World) (base:Nat) (args:Array Value) (ds gs:List (DataW H)) (before:List MemPlace)
  (hval:∀ (j:Nat) t v,Try.f4.params[j]?=some t→args[j]?=some v→Value.okWide Try.prog W .any base t v)
  (hW:DataW.Whole enc Try.prog Try.f4.params.toList Rows.autoMadeSpec.vars false W args.toList ds gs before) :
  Calls Try.prog 4 args W fun e W'=>∃ v,e=.returned v∧Rows.autoMadeSpec.post enc Try.prog Try.f4 false true false false W args v W':=by
 obtain ⟨p,q,hA0,hV,rfl,hfz,hnd⟩:=id hW
 obtain ⟨rfl,rfl⟩:=trodVars_none hV
 have hA:DataW.TrodAll enc Try.prog W 0 (fun _=>true) true Try.f4.params.toList args.toList ds p:=hA0
 rw [Try.params4] at hA hval
 obtain ⟨v0,v1,v2,v3,d0,d1,d2,d3,p0,p1,p2,p3,hargs,rfl,rfl,h0,h1,h2,h3⟩:=trodAll_four hA
 obtain rfl:args=#[v0,v1,v2,v3]:=by cases args;simp_all
 obtain ⟨l,r0⟩:=Vd (hval 0 23 v0 rfl rfl) h0
 obtain ⟨m1,r1⟩:=Ni Try.underlying3 (hval 1 3 v1 rfl rfl) h1
 obtain ⟨m2,r2⟩:=Ni Try.underlying3 (hval 2 3 v2 rfl rfl) h2
 obtain ⟨m3,r3⟩:=Ni Try.underlying3 (hval 3 3 v3 rfl rfl) h3
 have k0:=RO r0.known
 refine (Py (Qt l m1 m2 m3 k0.2 k0.1 r1.known r2.known r3.known) Qk (WQ W) (vs:=[v0,v1,v2,v3]) (.cons r0 (.cons r1 (.cons r2 (.cons r3 .nil))))).mono fun e W' ⟨he,hb⟩=>⟨_,he,?_⟩
 exact Vq hW rfl rfl Try.underlying4 rfl rfl rfl Xs (by kernel_rfl) hb
set_option maxRecDepth 100000 in
theorem XI (os:Os) (started:os.Started) (H:Type) (enc:TypeId × Value→H) :
  ReturnsInHanded {} Try.checked os 4 .any (Rows.autoMadeSpec.pre6 enc Try.prog Try.f4 Rows.autoMadeRow.domain false) (Rows.autoMadeSpec.post enc Try.prog Try.f4 false true false false):=by
 refine returnsInHanded_of_change (C:=Try.checked) own started (by kernel_rfl) Try.func4
  (ChangeSpec.witness6 (enc:=enc) (C:=Try.checked) false ⟨#[],#[.slice none 0 0,.int .i64 0,.int .i64 0,.int .i64 0],[]⟩ 8 (by kernel_rfl) (by kernel_rfl) (by kernel_rfl) (by kernel_rfl)) ?_
 intro W base args ds gs before hval hW _ _
 exact UC H enc W base args ds gs before hval hW
theorem proved:Rows.AutoMadeSaid :=
 OpenClaim.holds_of_wide 4 Try.f4 rfl rfl rfl rfl rfl rfl rfl ⟨rfl,rfl,rfl,rfl,rfl⟩ rfl rfl rfl rfl rfl (by kernel_rfl) Try.func4 (by kernel_rfl)
  (of_decide_eq_true (by kernel_rfl)) (by unfold Func.isWrapper;first | (rw [if_pos (by decide +kernel)];kernel_rfl) | (rw [if_neg (by decide +kernel)];exact ⟨rfl,rfl⟩))
  (fun os started H enc _=>XI os started H enc)

end Go.Proofs.Ytkegjgodjigjfaa.autoMade
