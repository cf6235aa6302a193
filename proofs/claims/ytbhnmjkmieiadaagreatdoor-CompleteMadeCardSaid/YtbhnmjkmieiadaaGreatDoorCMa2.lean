/-
  Part 2 of the texts. Conditions: none.
-/
import Derived.Test.YtbhnmjkmieiadaaGreatDoorCMa1
import Derived.Great.BuildSlice
import Derived.Lib.AppendStr
namespace Go.Proofs.YtbhnmjkmieiadaaGreatDoor
open Go Go.RowKit
set_option linter.unusedVariables false
set_option maxHeartbeats 400000
section
variable {P:Program} {C:Ctx} {o:Oper} {a:Act} {w:World} {K:AV→AS→Prop} {σ:Sto} {ι:A6} {s:AS} {d:Nat} {S:AA}
theorem Qm{x:Operand}{x':Opd}(ho:o.op=.nilCheck x)(hx:AR C.n x=some x')(R:Ac C σ ι s a w)(h:Kd.go P d s K (.nilCheck x')):BQ P C o a w K:=by
 have rx:=R.ev hx;simp only[Kd.go]at h;split at h
 ·rename_i cs heq;have rx':=rx;rw[heq]at rx;obtain⟨b,oo,hex,c,h1,h2⟩:=D0 (Ad rx);exact Af R (.pointer (some ⟨b,oo,none⟩)) _ (by simp[execOp,ho,hex]) h (by rw[hex]at rx;exact rx)
 ·rename_i cs heq;rw[heq]at rx;obtain⟨b,oo,hex,c,h1,h2⟩:=D0 (JZ (Ad rx));exact Af R (.pointer (some ⟨b,oo,none⟩)) _ (by simp[execOp,ho,hex]) h (by rw[hex]at rx;exact rx)
 ·rename_i id m k off heq;rw[heq]at rx;obtain⟨b,h1,h2,h4⟩:=Fu (Ad rx);rw[h1]at h;obtain⟨hm,h⟩:=h;obtain⟨g,g1,g2⟩:=h4 hm;exact Af R (.pointer (some ⟨g,k*b.wid+off,none⟩)) _ (by simp[execOp,ho,g2]) h (by rw[g2]at rx;exact rx)
 ·exact h.elim
theorem Ym{t:TypeId}{d:TypeDesc}{i:TypeInfo}(hd:P.underlying t=some d)(hi:P.info? t=some i){cs:Array Value}{off n:Nat}(g:Bool)(hg:g=Ey d)(hn:n=if g then i.size else 1)(hle:off+n≤cs.size) :
  ∃v,(part t cs off).run P w=.ok v w∧(if g then v=.agg ((cs.toList.drop off).take n).toArray else(cs.toList.drop off).take n=[v]):=by
 cases g with
 | true =>
  simp only[if_true]at hn;have ha:(isAgg t).run P w=.ok true w:=by
   simp only[isAgg,Sem.run_bind,run_underlying hd,Result.andThen_ok];cases d <;> first|rfl|simp[Ey]at hg
  refine⟨.agg (cs.extract off (off+i.size)),by simp[part,ha,sizeOf,typeInfo,hi],?_⟩;subst hn;apply congrArg Value.agg;apply Array.ext';simp
 | false =>
  simp only[Bool.false_eq_true,if_false]at hn ⊢;subst hn;have ha:(isAgg t).run P w=.ok false w:=by
   simp only[isAgg,Sem.run_bind,run_underlying hd,Result.andThen_ok];cases d <;> first|rfl|simp[Ey]at hg
  have hlt:off<cs.size:=by omega
  refine⟨cs[off],by simp[part,ha,Array.getElem?_eq_getElem hlt],?_⟩;rw[List.take_one];simp[List.head?_drop,Array.getElem?_eq_getElem hlt]
theorem YE{v:Value}{cs:List AC}(h:Ae σ S ι v (.agg cs)):∃vs,v=.agg vs∧An (At σ S ι) vs.toList cs:=by
 cases h with|agg h=>exact⟨_,rfl,h⟩
theorem WN{t f:TypeId}{x:Operand}{x':Opd}{fs:Array Field}{fd:Field}{dd:TypeDesc}{i:TypeInfo}(ho:o.op=.field t x f)(hx:AR C.n x=some x')(hd:P.underlying t=some (.struct fs))(hf:fs[f]?=some fd)(hdd:P.underlying fd.type=some dd)(hi:P.info? fd.type=some i)
  (g:Bool) (hg:g=Ey dd) (n:Nat) (hn:n=if g then i.size else 1) (R:Ac C σ ι s a w) (h:Kd.go P d s K (.field g fd.offset n x')):BQ P C o a w K:=by
 have rx:=R.ev hx;simp only[Kd.go]at h;split at h
 ·rename_i cs heq;obtain⟨hle,hK⟩:=h;rw[heq]at rx;obtain⟨vs,hex,hvs⟩:=YE rx;have hl:=hvs.len;obtain⟨v,r1,r2⟩:=Ym (P:=P) (w:=w) hdd hi (cs:=vs) (off:=fd.offset) g hg hn (by simp at hl;omega);refine Af R v _ ?_ hK (Fn ((hvs.drop _).take n) r2);simp[execOp,ho,hex,Instr.field,run_underlying hd,hf,asAgg,r1]
 ·exact h.elim
theorem D4{v:Value}{xs:List (List SV)}(h:At σ S ι v (.full xs)):A8 σ v (.list xs):=by
 cases h with|full h=>exact h
theorem Zc{v:Value}{xs:List (List SV)}(h:A8 σ v (.list xs)){k:Nat}{x:List SV}(hx:xs[k]?=some x){wd:Nat}(hw:x.length=wd) :
  ∃b oo len cap,v=.slice (some ⟨b,oo,none⟩) len cap∧len=xs.length∧∃c:Nat→Value,(∀j y,x[j]?=some y→σ ⟨b,oo+k*wd+j,none⟩=some (c j))∧(∀j y,x[j]?=some y→A8 σ (c j) y)∧(Cq=true→2≤wd→σ ⟨b,0,some 1⟩=some .nilFunc):=by
 cases h with
 | list c h1 h2 h3 h4 h5 h6 hh h7 h8 =>
  have hlt:=(List.getElem?_eq_some_iff.1 hx).1;have hp:=h5 (by omega);have hw':=h6 x (List.mem_of_getElem? hx);subst hp;rw[hw]at hw';subst hw';exact⟨_,_,_,_,rfl,h1,c k,fun j y hy=>h7 k x j y hx hy,fun j y hy=>h8 k x j y hx hy,fun q1 q2=>hh q1 q2 (List.ne_nil_of_mem (List.mem_of_getElem? hx))⟩
theorem FG{t e:TypeId}{i:TypeInfo}(ht:P.underlying t=some (.slice e))(hi:P.info? e=some i){b oo len cap:Nat}{kk:IntKind}{n:Int}(h0:0≤n)(hn:n.toNat<len) :
  (Instr.indexAt t (.slice (some ⟨b,oo,none⟩) len cap) (.int kk n)).run P w=.ok (.pointer (some ⟨b,oo+n.toNat*i.size,none⟩)) w:=by
 have h1:n<(len:Int):=by omega
 simp[Instr.indexAt,asIntOf,run_underlying ht,h0,h1,sizeOf,typeInfo,hi,B6]
theorem JN{t e:TypeId}{len:Nat}{i:TypeInfo}(ht:P.underlying t=some (.array len e))(hi:P.info? e=some i){b oo:Nat}{kk:IntKind}{n:Int}(h0:0≤n)(h1:n<len) :
  (Instr.indexAt t (.pointer (some ⟨b,oo,none⟩)) (.int kk n)).run P w=.ok (.pointer (some ⟨b,oo+n.toNat*i.size,none⟩)) w:=by
 simp[Instr.indexAt,asIntOf,run_underlying ht,Instr.sureAddr,h0,h1,sizeOf,typeInfo,hi,B6]
theorem QI{t e:TypeId}{len:Nat}{x y:Operand}{x' y':Opd}{i:TypeInfo}(ho:o.op=.indexAddr t x y)(hx:AR C.n x=some x')(hy:AR C.n y=some y')(ht:P.underlying t=some (.array len e))(hi:P.info? e=some i)
  (R:Ac C σ ι s a w) (h:Kd.go P d s K (.indexArr len i.size x' y')):BQ P C o a w K:=by
 have rx:=R.ev hx;have ry:=R.ev hy;simp only[Kd.go]at h;split at h
 ·rename_i cs kk n e1 e2;rw[e1]at rx;rw[e2]at ry;obtain⟨hey,-⟩:=BL ry;obtain⟨b,oo,hex,c,h1,h2,hh⟩:=GG (Ad rx);refine Af R (.pointer (some ⟨b,oo+n.toNat*i.size,none⟩)) _ (by simp[execOp,ho,hex,hey,JN ht hi h.1.1 h.1.2]) h.2 (.one (.eptr (fun j=>c (n.toNat*i.size+j)) (fun j y hy=>?_) (fun j y hy=>?_) (fun q1 q2=>hh q1 (I4 q2))))
  ·rw[Nat.add_assoc];exact h1 _ _ (by rw[←List.getElem?_drop];exact hy)
  ·exact h2 _ _ (by rw[←List.getElem?_drop];exact hy)
 ·rename_i id m k off kk n e1 e2;rw[e1]at rx;rw[e2]at ry;obtain⟨hey,-⟩:=BL ry;obtain⟨b,h1,h2,h4⟩:=Fu (Ad rx);rw[h1]at h;obtain⟨hn,hm,h⟩:=h;obtain⟨g,g1,g2⟩:=h4 hm;exact Af R (.pointer (some ⟨g,k*b.wid+off+n.toNat*i.size,none⟩)) _ (by simp[execOp,ho,g2,hey,JN ht hi hn.1 hn.2]) h (.one (.ptr h1 h2 rfl fun _=>⟨g,g1,by rw[Nat.add_assoc]⟩))
 ·exact h.elim
theorem OZ{t e:TypeId}{x y:Operand}{x' y':Opd}{i:TypeInfo}(ho:o.op=.indexAddr t x y)(hx:AR C.n x=some x')(hy:AR C.n y=some y')(ht:P.underlying t=some (.slice e))(hi:P.info? e=some i)
  (R:Ac C σ ι s a w) (h:Kd.go P d s K (.indexAddr i.size x' y')):BQ P C o a w K:=by
 have rx:=R.ev hx;have ry:=R.ev hy;simp only[Kd.go]at h;split at h
 ·rename_i c kk n e1 e2;rw[e1]at rx;rw[e2]at ry;replace rx:=Ad rx;obtain⟨hey,-⟩:=BL ry;have fin:∀(xs:List (List SV)) (x1:List SV),A8 σ (a.eval x) (.list xs)→0≤n→xs[n.toNat]?=some x1→x1.length=i.size→K (.one (.eptr x1)) s→BQ P C o a w K:=fun xs x1 hr h0 hx1 hw hK=>by
   obtain⟨b,oo,len,cap,hex,hl,c,c1,c2,c3⟩:=Zc hr hx1 hw;have hlt:=(List.getElem?_eq_some_iff.1 hx1).1;refine Af R _ _ (by simp[execOp,ho,hex,hey,FG ht hi h0 (show n.toNat<len by omega)]) hK (.one (.eptr c c1 c2 fun q1 q2=>c3 q1 (by have:=Pv q2;omega)))
  split at h
  ·rename_i xs;unfold C5 at h;obtain⟨h0,h⟩:=h;split at h
   ·rename_i x1 hx1;exact fin xs x1 (CU rx) h0 hx1 h.1 h.2
   ·exact h.elim
  ·rename_i xs;unfold C5 at h;obtain⟨h0,h⟩:=h;split at h
   ·rename_i x1 hx1;refine fin xs x1 ?_ h0 hx1 h.1 h.2;exact D4 rx
   ·exact h.elim
  ·rename_i id m;split at h
   ·rename_i e' w' xs hS;obtain⟨hm,rfl,h⟩:=h;unfold C5 at h;obtain⟨h0,h⟩:=h;split at h
    ·rename_i x1 hx1;refine fin xs x1 (R.row_srep rx hS hm) h0 hx1 ?_ h;have hb:=R.blk _ _ hS;cases hb with
     | afull _ _ h7=>exact h7 x1 (List.mem_of_getElem? hx1)
     | arow _ _ _ _ _ _ h7=>exact h7 x1 (List.mem_of_getElem? hx1)
    ·exact h.elim
   ·rename_i e' w' xs hS;obtain⟨hm,rfl,h0,hlt,hK⟩:=h;obtain⟨b,hb1,hb2,hb3⟩:=C9 rx;rw[hS]at hb1;cases hb1;have hex:=hb3 hm;have hb:=R.blk _ _ hS;cases hb with
    | mnil=>simp at hlt
    | @mrow _ _ _ g vs k1 k2 =>
     rw[k2]at hex;refine Af R (.pointer (some ⟨g,n.toNat*i.size,none⟩)) _ (by simp[execOp,ho,hex,hey,FG ht hi h0 (show n.toNat<m by omega)]) hK (.one (.ptr hS (by simpa[AJ.len]using Nat.le_of_eq hm) rfl fun _=>⟨g,k1,by simp[AJ.wid]⟩))
   ·rename_i e' cs hS;obtain⟨hm,hw,h0,hlt,hK⟩:=h;obtain⟨b,hb1,hb2,hb3⟩:=C9 rx;rw[hS]at hb1;cases hb1;have hex:=hb3 hm;have hb:=R.blk _ _ hS;cases hb with
    | @crow _ _ g vs k1 k2 =>
     rw[k2]at hex;refine Af R (.pointer (some ⟨g,n.toNat*i.size,none⟩)) _ (by simp[execOp,ho,hex,hey,FG ht hi h0 (show n.toNat<m by omega)]) hK (.one (.ptr hS (by simpa[AJ.len]using Nat.le_of_eq hm) rfl fun _=>⟨g,k1,by simp[AJ.wid,←hw]⟩))
   ·exact h.elim
  ·exact h.elim
 ·exact h.elim
theorem UA{t e:TypeId}{x y:Operand}{x' y':Opd}{i:TypeInfo}(ho:o.op=.indexAddr t x y)(hx:AR C.n x=some x')(hy:AR C.n y=some y')(ht:P.underlying t=some (.slice e))(hi:P.info? e=some i)
  (R:Ac C σ ι s a w) (h:Kd.go P d s K (.indexP i.size x' y')):BQ P C o a w K:=by
 have rx:=R.ev hx;have ry:=R.ev hy;simp only[Kd.go]at h;split at h
 ·rename_i id k m kk n e1 e2;rw[e1]at rx;rw[e2]at ry;replace rx:=Ad rx;obtain⟨hey,-⟩:=BL ry;split at h
  ·rename_i e' w' xs hS;obtain⟨⟨hm,rfl⟩,⟨h0,hlt⟩,hK⟩:=h;obtain⟨b,hb1,hb2,hb3⟩:=Hl rx;rw[hS]at hb1;cases hb1;obtain⟨hkm,hex⟩:=hb3 hm;have hb:=R.blk _ _ hS;cases hb with
   | mnil=>simp at hm;omega
   | @mrow _ _ _ g vs k1 k2 =>
    rw[k2]at hex;refine Af R (.pointer (some ⟨g,n.toNat*i.size,none⟩)) _ (by simp[execOp,ho,hex,hey,FG ht hi h0 (show n.toNat<k by omega)]) hK (.one (.ptr hS (by simpa[AJ.len]using Nat.le_of_eq hm) rfl fun _=>⟨g,k1,by simp[AJ.wid]⟩))
  ·exact h.elim
 ·exact h.elim
theorem QY{t:TypeId}{x y:Operand}{x' y':Opd}(ho:o.op=.index t x y)(hx:AR C.n x=some x')(hy:AR C.n y=some y')(ht:P.underlying t=some .string)
  (R:Ac C σ ι s a w) (h:Kd.go P d s K (.indexStr x' y')):BQ P C o a w K:=by
 have rx:=R.ev hx;have ry:=R.ev hy;simp only[Kd.go]at h;split at h
 ·rename_i b kk n e1 e2;rw[e1]at rx;rw[e2]at ry;obtain⟨hex,hb⟩:=E2 rx;obtain⟨hey,-⟩:=BL ry;obtain⟨⟨h0,hlt⟩,hK⟩:=h;have hget:b[n.toNat]?=some (b[n.toNat]'hlt):=by simp[getElem?_pos,hlt]
  have e3:((b[n.toNat]'hlt).toNat:Int)=Gy b n.toNat:=by
   unfold Gy;have h2:n.toNat<b.data.toList.length:=by simpa using hlt
   rw[List.getD_eq_getElem?_getD,List.getElem?_eq_getElem h2];rfl
  refine Af R (.int .u8 (Gy b n.toNat)) _ ?_ hK (.one (.st (.int ?_)))
  ·simp only[execOp,ho,hex,hey,Instr.index,asIntOf];simp[run_underlying ht,h0,hget,e3]
  ·unfold Gy;have:=(b.data.toList.getD n.toNat 0).toNat_lt;constructor
   ·simp[IntKind.min,IntKind.signed]
   ·simp only[IntKind.max,IntKind.signed,IntKind.bits,Bool.false_eq_true,if_false];omega
 ·exact h.elim
theorem DK{x y:ByteArray}:(x.toList==y.toList)=decide (x=y):=by
 rw[Bool.eq_iff_iff];simp only[beq_iff_eq,decide_eq_true_eq];constructor
 ·intro h;rw[ByteArray.toList_eq,ByteArray.toList_eq]at h;cases x;cases y;simp only[ByteArray.mk.injEq];exact Array.toList_inj.1 h
 ·rintro rfl;rfl
theorem YD{op:BinOp}{t:TypeId}{k:IntKind}{x y:Int}{K':SV→Prop}(h:W6 op k x y K') :
  ∃v c,(binOp op t (.int k x) (.int k y)).run P w=.ok v w∧A8 σ v c∧K' c:=by
 cases op <;> simp only[W6]at h
 ·exact⟨_,_,by simp[binOp,Op.intArith,Dr h.1],.int h.1,h.2⟩
 ·exact⟨_,_,by simp[binOp,Op.intArith,Dr h.1],.int h.1,h.2⟩
 ·exact⟨_,_,by simp[binOp,Op.intArith,Dr h.1],.int h.1,h.2⟩
 ·exact⟨_,_,by simp[binOp,Op.intDiv,h.1,Dr h.2.1],.int h.2.1,h.2.2⟩
 ·exact⟨_,_,by simp[binOp,Op.intDiv,h.1],.int h.2.1,h.2.2⟩
 ·refine⟨_,_,?_,.int h.2.1,h.2.2⟩;obtain⟨⟨h1,h2⟩,_⟩:=h;simp only[binOp,Op.shift];rw[if_neg (by omega),Nat.min_eq_left h2];rfl
 ·exact⟨.bool (decide (x=y)),_,by simp[binOp,Op.intCmp,BEq.beq],.bool,h⟩
 ·exact⟨.bool (decide (¬x=y)),_,by simp[binOp,Op.intCmp,bne,BEq.beq],.bool,h⟩
 ·exact⟨.bool (decide (x<y)),_,by simp[binOp,Op.intCmp],.bool,h⟩
 ·exact⟨.bool (decide (x≤y)),_,by simp[binOp,Op.intCmp],.bool,h⟩
 ·exact⟨.bool (decide (y<x)),_,by simp[binOp,Op.intCmp],.bool,h⟩
 ·exact⟨.bool (decide (y≤x)),_,by simp[binOp,Op.intCmp],.bool,h⟩
theorem Zx{op:BinOp}{t:TypeId}{x y:ByteArray}{K':SV→Prop}(h:V3 op x y K') :
  ∃v c,(binOp op t (.string x) (.string y)).run P w=.ok v w∧A8 σ v c∧K' c:=by
 cases op <;> simp only[V3]at h
 ·refine⟨_,_,?_,.str (s:=x++y) (by simpa using h.1),h.2⟩;have h1:=h.1;have:¬(((x.size+y.size:Nat):Int) > IntKind.i64.max):=by
   simp[maxLen]at h1;simp[IntKind.max,IntKind.signed,IntKind.bits];omega
  simp only[binOp,Op.stringOp,this,if_false];rfl
 all_goals first|exact h.elim|skip
 ·exact⟨.bool (decide (x=y)),_,by simp only[binOp,Op.stringOp,DK];rfl,.bool,h⟩
 ·exact⟨.bool (decide (¬x=y)),_,by simp only[binOp,Op.stringOp,DK,decide_not];rfl,.bool,h⟩
 ·exact⟨.bool (sLt x y),_,by simp only[binOp,Op.stringOp];rfl,.bool,h⟩
 ·exact⟨.bool (sLt x y||decide (x=y)),_,by simp only[binOp,Op.stringOp,DK];rfl,.bool,h⟩
 ·exact⟨.bool (!(sLt x y||decide (x=y))),_,by simp only[binOp,Op.stringOp,DK];rfl,.bool,h⟩
 ·exact⟨.bool (!sLt x y),_,by simp only[binOp,Op.stringOp];rfl,.bool,h⟩
theorem Gs{op:BinOp}{t:TypeId}{x y:Operand}{k k':IntKind}{m n:Int}:(eqGuard op t x y (.int k m) (.int k' n)).run P w=.ok () w:=by
 unfold eqGuard;split <;> rfl
theorem Lu{op:BinOp}{t:TypeId}{x y:Operand}{m n:ByteArray}:(eqGuard op t x y (.string m) (.string n)).run P w=.ok () w:=by
 unfold eqGuard;split <;> rfl
theorem Ff{op:BinOp}{t:TypeId}{x y:Operand}{m n:Bool}:(eqGuard op t x y (.bool m) (.bool n)).run P w=.ok () w:=by
 unfold eqGuard;split <;> rfl
theorem Vo{op:BinOp}{t t':TypeId}{x y:Operand}{x' y':Opd}(ho:o.op=.binOp op t x y t')(hx:AR C.n x=some x')(hy:AR C.n y=some y')
  (R:Ac C σ ι s a w) (h:Kd.go P d s K (.bin op x' y')):BQ P C o a w K:=by
 have rx:=R.ev hx;have ry:=R.ev hy;simp only[Kd.go]at h;split at h
 ·rename_i k m k' n e1 e2;rw[e1]at rx;rw[e2]at ry;obtain⟨hex,-⟩:=BL rx;obtain⟨hey,-⟩:=BL ry;obtain⟨rfl,h⟩:=h;obtain⟨v,c,r1,r2,r3⟩:=YD (P:=P) (w:=w) (σ:=σ) (t:=t) h;exact Af R v _ (by simp[execOp,ho,hex,hey,Gs,r1]) r3 (.one (.st r2))
 ·rename_i m n e1 e2;rw[e1]at rx;rw[e2]at ry;obtain⟨hex,-⟩:=E2 rx;obtain⟨hey,-⟩:=E2 ry;obtain⟨v,c,r1,r2,r3⟩:=Zx (P:=P) (w:=w) (σ:=σ) (t:=t) h;exact Af R v _ (by simp[execOp,ho,hex,hey,Lu,r1]) r3 (.one (.st r2))
 ·exact h.elim
theorem Vz{neg:Bool}{t t':TypeId}{x y:Operand}{x' y':Opd}(ho:o.op=.binOp (if neg then .neq else .eql) t x y t')(hx:AR C.n x=some x')(hy:AR C.n y=some y')(ht:P.underlying t=some .bool)
  (R:Ac C σ ι s a w) (h:Kd.go P d s K (.eqB neg x' y')):BQ P C o a w K:=by
 have rx:=R.ev hx;have ry:=R.ev hy;simp only[Kd.go]at h;split at h
 ·rename_i m n e1 e2;rw[e1]at rx;rw[e2]at ry;have hex:=D9 rx;have hey:=D9 ry;refine Af R _ _ ?_ h (.one (.st .bool));have he:(Op.equal t (.bool m) (.bool n)).run P w=.ok (m==n) w:=by
   show(Op.equalIn (_+1) t (.bool m) (.bool n)).run P w=_
   rw[Op.equalIn];simp only[Sem.run_bind,run_underlying ht,Result.andThen_ok,Sem.run_pure]
  cases neg with
  | true =>
   simp only[if_true]at ho;simp only[execOp,ho,hex,hey,binOp,Sem.run_bind,Ff,he,Result.andThen_ok,Sem.run_pure];rfl
  | false =>
   simp only[Bool.false_eq_true,if_false]at ho;simp only[execOp,ho,hex,hey,binOp,Sem.run_bind,Ff,he,Result.andThen_ok,Sem.run_pure];rfl
 ·exact h.elim
theorem FF{op:BinOp}{t:TypeId}{x y:Operand}{p q:Option Addr}{m n m' n':Nat}:(eqGuard op t x y (.slice p m n) (.slice q m' n')).run P w=.ok () w:=by
 unfold eqGuard;split <;> rfl
theorem Te{σ:Sto}{v:Value}{xs:List (List SV)}(h:A8 σ v (.list xs)):∃p len cap,v=.slice p len cap∧(0<xs.length→p.isSome=true):=by
 cases h with
 | @list p len cap b o w _ c h1 h2 h3 h4 h5 h6 hh h7 h8=>exact⟨p,len,cap,rfl,fun h0=>by rw[h5 (by omega)];rfl⟩
theorem VJ{neg:Bool}{t t' e:TypeId}{x:Operand}{x':Opd}(ho:o.op=.binOp (if neg then .neq else .eql) t x (.const (.slice none 0 0)) t')(hx:AR C.n x=some x')(ht:P.underlying t=some (.slice e))
  (R:Ac C σ ι s a w) (h:Kd.go P d s K (.eqN neg x')):BQ P C o a w K:=by
 have rx:=R.ev hx;simp only[Kd.go]at h;split at h
 ·rename_i xs e1;rw[e1]at rx;obtain⟨p,len,cap,hex,hp⟩:=Te (CU (Ad rx));have hey:a.eval (.const (.slice none 0 0))=.slice none 0 0:=rfl;have he:(Op.equal t (.slice p len cap) (.slice none 0 0)).run P w=.ok p.isNone w:=by
   show(Op.equalIn (_+1) t (.slice p len cap) (.slice none 0 0)).run P w=_
   rw[Op.equalIn];cases p <;> simp only[Sem.run_bind,run_underlying ht,Result.andThen_ok,Sem.run_pure,Option.isNone]
  have hv:Ae σ s.S ι (.bool (if neg then !p.isNone else p.isNone)) (.one (if xs.length=0 then .ubool else .st (.bool neg))):=by
   by_cases h0:xs.length=0
   ·rw[if_pos h0];exact .one .ubool
   ·rw[if_neg h0];have:=hp (by omega);have e2:p.isNone=false:=by cases p <;> simp_all
    rw[e2];cases neg <;> exact .one (.st .bool)
  refine Af R _ _ ?_ h hv;cases neg with
  | true =>
   simp only[if_true]at ho;simp only[execOp,ho,hex,hey,binOp,Sem.run_bind,FF,he,Result.andThen_ok,Sem.run_pure];try rfl
  | false =>
   simp only[Bool.false_eq_true,if_false]at ho;simp only[execOp,ho,hex,hey,binOp,Sem.run_bind,FF,he,Result.andThen_ok,Sem.run_pure];try rfl
 ·exact h.elim
theorem Yr{σ:Sto}{v:Value}(h:A8 σ v .err):∃t x,v=.iface t x:=by
 cases h with
 | @err t x=>exact⟨t,x,rfl⟩
theorem SH{σ:Sto}{v u:Value}(h:A8 σ v (.lit u)):v=u:=by
 cases h with
 | lit=>rfl
theorem RX{t:TypeId}{ms:Array (String×TypeId)}(ht:P.underlying t=some (.interface ms)):P.underlying t=some (.interface (P.methodsAt t)):=by
 simp[Program.methodsAt,ht]
theorem Ho{n:Int}:inR .u64 n↔0≤n∧n≤18446744073709551615:=by
 simp[inR,IntKind.min,IntKind.max,IntKind.signed,IntKind.bits]
theorem Gk{op:BinOp}{t:TypeId}{x y:Operand}{p q:Option Addr}:(eqGuard op t x y (.pointer p) (.pointer q)).run P w=.ok () w:=by
 unfold eqGuard;split <;> rfl
theorem X6{op:BinOp}{t:TypeId}{k k':IntKind}{x y:Int}{K':SV→Prop}(hx:inR k x)(hy:inR k' y)(h:YW op k x k' y K') :
  ∃v c,(binOp op t (.int k x) (.int k' y)).run P w=.ok v w∧A8 σ v c∧K' c:=by
 cases op <;> simp only[YW]at h;all_goals first|exact h.elim|skip
 ·obtain⟨rfl,⟨rfl,hx0,hy0⟩,hK⟩:=h;rw[Ho]at hx hy;obtain⟨a,rfl⟩:=Int.eq_ofNat_of_zero_le hx0;obtain⟨b,rfl⟩:=Int.eq_ofNat_of_zero_le hy0;have hr:inR .u64 (((a &&& b:Nat)):Int):=by
   rw[Ho];have:a &&& b≤a:=Nat.and_le_left
   omega
  refine⟨_,_,?_,.int hr,hK⟩;have ea:(BitVec.ofInt IntKind.u64.bits ((a:Nat):Int) &&& BitVec.ofInt IntKind.u64.bits ((b:Nat):Int)).toNat=a &&& b:=by
   rw[BitVec.toNat_and,BitVec.ofInt_natCast,BitVec.ofInt_natCast,BitVec.toNat_ofNat,BitVec.toNat_ofNat];have e64:2^IntKind.u64.bits=18446744073709551616:=by decide
   rw[e64,Nat.mod_eq_of_lt (by omega),Nat.mod_eq_of_lt (by omega)]
  have hb:(binOp .and t (.int .u64 ((a:Nat):Int)) (.int .u64 ((b:Nat):Int))).run P w=.ok (.int .u64 (IntKind.u64.wrap ((BitVec.ofInt IntKind.u64.bits ((a:Nat):Int) &&& BitVec.ofInt IntKind.u64.bits ((b:Nat):Int)).toNat:Int))) w:=by
   simp only[binOp,ne_eq,not_true_eq_false,if_false,Op.intBits];rfl
  rw[hb,ea,Dr hr]
 ·obtain⟨rfl,⟨rfl,hx0,hy0⟩,hK⟩:=h;rw[Ho]at hx hy;obtain⟨a,rfl⟩:=Int.eq_ofNat_of_zero_le hx0;obtain⟨b,rfl⟩:=Int.eq_ofNat_of_zero_le hy0;have hr:inR .u64 (((a ||| b:Nat)):Int):=by
   rw[Ho];have:a ||| b<2^64:=Nat.or_lt_two_pow (by omega) (by omega)
   omega
  refine⟨_,_,?_,.int hr,hK⟩;have ea:(BitVec.ofInt IntKind.u64.bits ((a:Nat):Int) ||| BitVec.ofInt IntKind.u64.bits ((b:Nat):Int)).toNat=a ||| b:=by
   rw[BitVec.toNat_or,BitVec.ofInt_natCast,BitVec.ofInt_natCast,BitVec.toNat_ofNat,BitVec.toNat_ofNat];have e64:2^IntKind.u64.bits=18446744073709551616:=by decide
   rw[e64,Nat.mod_eq_of_lt (by omega),Nat.mod_eq_of_lt (by omega)]
  have hb:(binOp .or t (.int .u64 ((a:Nat):Int)) (.int .u64 ((b:Nat):Int))).run P w=.ok (.int .u64 (IntKind.u64.wrap ((BitVec.ofInt IntKind.u64.bits ((a:Nat):Int) ||| BitVec.ofInt IntKind.u64.bits ((b:Nat):Int)).toNat:Int))) w:=by
   simp only[binOp,ne_eq,not_true_eq_false,if_false,Op.intBits];rfl
  rw[hb,ea,Dr hr]
 ·refine⟨_,_,?_,.int h.2.1,h.2.2⟩;obtain⟨⟨h1,h2⟩,h3,_⟩:=h;simp only[binOp,Op.shift];rw[if_neg (by omega),Nat.min_eq_left h2];simp only[Dr h3];rfl
 ·refine⟨_,_,?_,.int h.2.1,h.2.2⟩;obtain⟨⟨h1,h2⟩,_⟩:=h;simp only[binOp,Op.shift];rw[if_neg (by omega),Nat.min_eq_left h2];rfl
theorem JR{op:BinOp}{t t':TypeId}{x y:Operand}{x' y':Opd}(ho:o.op=.binOp op t x y t')(hx:AR C.n x=some x')(hy:AR C.n y=some y')
  (R:Ac C σ ι s a w) (h:Kd.go P d s K (.bits op x' y')):BQ P C o a w K:=by
 have rx:=R.ev hx;have ry:=R.ev hy;simp only[Kd.go]at h;split at h
 ·rename_i k m k' n e1 e2;rw[e1]at rx;rw[e2]at ry;obtain⟨hex,hrx⟩:=BL rx;obtain⟨hey,hry⟩:=BL ry;obtain⟨v,c,r1,r2,r3⟩:=X6 (P:=P) (w:=w) (σ:=σ) (t:=t) hrx hry h;exact Af R v _ (by simp[execOp,ho,hex,hey,Gs,r1]) r3 (.one (.st r2))
 ·exact h.elim
theorem VV{neg:Bool}{t t' e:TypeId}{x:Operand}{x':Opd}(ho:o.op=.binOp (if neg then .neq else .eql) t x (.const (.pointer none)) t')(hx:AR C.n x=some x')(ht:P.underlying t=some (.pointer e))
  (R:Ac C σ ι s a w) (h:Kd.go P d s K (.eqP neg x')):BQ P C o a w K:=by
 have rx:=R.ev hx;have hey:a.eval (.const (.pointer none))=.pointer none:=rfl;have he:∀p:Option Addr,(Op.equal t (.pointer p) (.pointer none)).run P w=.ok p.isNone w:=fun p=>by
  show(Op.equalIn (_+1) t (.pointer p) (.pointer none)).run P w=_
  rw[Op.equalIn];cases p <;> simp only[Sem.run_bind,run_underlying ht,Result.andThen_ok,Sem.run_pure,Option.isNone]
 have key:∀(p:Option Addr) (K1:(AV→AS→Prop)),a.eval x=.pointer p→K (.one (.st (.bool (if neg then !p.isNone else p.isNone)))) s→BQ P C o a w K:=fun p _ hex hK=>by
  refine Af R (.bool (if neg then !p.isNone else p.isNone)) _ ?_ hK (.one (.st .bool));cases neg with
  | true =>
   simp only[if_true]at ho;simp only[execOp,ho,hex,hey,binOp,Sem.run_bind,Gk,he,Result.andThen_ok,Sem.run_pure];try rfl
  | false =>
   simp only[Bool.false_eq_true,if_false]at ho;simp only[execOp,ho,hex,hey,binOp,Sem.run_bind,Gk,he,Result.andThen_ok,Sem.run_pure];try rfl
 simp only[Kd.go]at h;split at h
 ·rename_i e1;rw[e1]at rx;have hv:=SH (CU (Ad rx));refine key none K hv ?_;cases neg <;> exact h
 ·rename_i cs e1;rw[e1]at rx;obtain⟨b,oo,hex,_⟩:=D0 (JZ (Ad rx));refine key (some ⟨b,oo,none⟩) K hex ?_;cases neg <;> exact h
 ·exact h.elim
theorem U8{neg:Bool}{t t':TypeId}{ms:Array (String×TypeId)}{x:Operand}{x':Opd}(ho:o.op=.binOp (if neg then .neq else .eql) t x (.const .nilIface) t')(hx:AR C.n x=some x')(ht:P.underlying t=some (.interface ms))
  (R:Ac C σ ι s a w) (h:Kd.go P d s K (.eqE neg x')):BQ P C o a w K:=by
 have rx:=R.ev hx;have hey:a.eval (.const .nilIface)=.nilIface:=rfl;have ht':=RX ht;simp only[Kd.go]at h;split at h
 ·rename_i e1;rw[e1]at rx;obtain⟨u,y,hex⟩:=Yr (CU (Ad rx));refine Af R (.bool neg) _ ?_ h (.one (.st .bool));cases neg with
  | true =>
   simp only[if_true]at ho;simp only[execOp,ho,hex,hey,Sem.run_bind,eqGuard_at_iface,run_neq_held_nil w t u y ht',Result.andThen_ok,Sem.run_pure]
  | false =>
   simp only[Bool.false_eq_true,if_false]at ho;simp only[execOp,ho,hex,hey,Sem.run_bind,eqGuard_at_iface,run_eql_held_nil w t u y ht',Result.andThen_ok,Sem.run_pure]
 ·rename_i e1;rw[e1]at rx;have hex:=SH (CU (Ad rx));refine Af R (.bool !neg) _ ?_ h (.one (.st .bool));cases neg with
  | true =>
   simp only[if_true]at ho;simp only[execOp,ho,hex,hey,Sem.run_bind,eqGuard_nil_constR,run_neq_nil_nil w t ht',Result.andThen_ok,Sem.run_pure,Bool.not_true]
  | false =>
   simp only[Bool.false_eq_true,if_false]at ho;simp only[execOp,ho,hex,hey,Sem.run_bind,eqGuard_nil_constR,run_eql_nil_nil w t ht',Result.andThen_ok,Sem.run_pure,Bool.not_false]
 ·exact h.elim
theorem Ld:∀{ys:List (List SV)} {ns:List Int},JY ys=some ns→ns.length=ys.length∧∀(i:Nat),i<ns.length→ys[i]?=some [.int .u8 (ns.getD i 0)]
 | [],ns,h=>by
  cases h;exact⟨rfl,fun i hi=>by simp at hi⟩
 | y::r,ns,h=>by
  unfold JY at h;split at h
  ·rename_i e;cases e
  ·rename_i n r' e;cases e;rw[Option.map_eq_some_iff]at h;obtain⟨ms,h1,rfl⟩:=h;obtain⟨a1,a2⟩:=Ld h1;refine⟨by simp[a1],fun i hi=>?_⟩;cases i with
   | zero=>rfl
   | succ i =>
    have:=a2 i (by simpa using hi);simpa using this
  ·cases h
theorem WD{src dst e:TypeId}{x:Operand}{x':Opd}(ho:o.op=.convert src dst x)(hx:AR C.n x=some x')(hs:P.underlying src=some (.slice e))(he:P.underlying e=some (.int .u8))(hd:P.underlying dst=some .string)
  (R:Ac C σ ι s a w) (h:Kd.go P d s K (.strOf false x')):BQ P C o a w K:=by
 have rx:=R.ev hx;simp only[Kd.go]at h;split at h
 ·rename_i ys e1;rw[e1]at rx;split at h
  ·rename_i ns e2;obtain⟨⟨h0,h1⟩,hK⟩:=h;obtain⟨b1,b2⟩:=Ld e2;have rs:=D4 (Ad rx);generalize hv:a.eval x=v at rs;cases rs with
   | @list p len cap b o' w' _ c q1 q2 q3 q4 q5 q6 qh q7 q8 =>
    have hp:=q5 (by omega);subst hp;have hw1:w'=1:=by
     have:=q6 _ (List.mem_of_getElem? (b2 0 h0));simpa using this.symm
    subst hw1;refine Af R (.string (strOfNums ns)) _ ?_ hK (.one (.st (.str (by rw[strOfNums_size];exact h1))));have hc:=run_convert_bytes_arg (P:=P) w src e hs he b o' len cap ns (by omega) (fun i hi=>by
     have hy:=b2 i (by omega);have k1:=q7 i _ 0 _ hy rfl;have k2:=q8 i _ 0 _ hy rfl;have k3:=R.fit _ _ k1;rw[(BL (S:=s.S) (ι:=ι) (.one (.st k2))).1]at k3;rw[Ej rfl]at k3;simpa using k3) dst hd
    simp only[execOp,ho,hv,Sem.run_bind,hc,Result.andThen_ok,Sem.run_pure]
  ·exact h.elim
 ·rename_i hq _;cases hq
 ·exact h.elim
theorem XU(n:Int):(Utf8.encode n).size≤4:=by
 unfold Utf8.encode;dsimp only
 repeat' split
 all_goals simp[ByteArray.size]
theorem ZZ{src dst:TypeId}{k:IntKind}{x:Operand}{x':Opd}(ho:o.op=.convert src dst x)(hx:AR C.n x=some x')(hs:P.underlying src=some (.int k))(hd:P.underlying dst=some .string)
  (R:Ac C σ ι s a w) (h:Kd.go P d s K (.strOf true x')):BQ P C o a w K:=by
 have rx:=R.ev hx;simp only[Kd.go]at h;split at h
 ·rename_i hq _;cases hq
 ·rename_i k n e0 e1;rw[e1]at rx;obtain⟨hex,-⟩:=BL rx;refine Af R (.string (Utf8.encode n)) _ ?_ h (.one (.st (.str (Nat.le_trans (XU n) (by decide)))));simp[execOp,ho,hex,convert,run_underlying hs,run_underlying hd,Conv.intToString]
 ·exact h.elim
theorem ABg{op:UnOp}{t:TypeId}{x:Operand}{x':Opd}(ho:o.op=.unOp op t x)(hx:AR C.n x=some x')(R:Ac C σ ι s a w)(h:Kd.go P d s K (.un op x')):BQ P C o a w K:=by
 have rx:=R.ev hx;simp only[Kd.go]at h;split at h
 ·rename_i b e1;rw[e1]at rx;have hex:=D9 rx;exact Af R _ _ (by simp[execOp,ho,hex,Op.unary]) h (.one (.st .bool))
 ·rename_i k n e1;rw[e1]at rx;obtain⟨hex,-⟩:=BL rx;obtain⟨h1,hK⟩:=h;refine Af R _ _ ?_ hK (.one (.st (.int h1)));have:=Dr h1;simp only[execOp,ho,hex,Op.unary,Op.intArith,this];rfl
 ·exact h.elim
theorem YL{src dst:TypeId}{k:IntKind}{x:Operand}{x':Opd}(ho:o.op=.convert src dst x)(hx:AR C.n x=some x')(hs:(P.underlying src).isSome)(hd:P.underlying dst=some (.int k))(R:Ac C σ ι s a w)(h:Kd.go P d s K (.conv k x')):BQ P C o a w K:=by
 have rx:=R.ev hx;simp only[Kd.go]at h;split at h
 ·rename_i k' n e1;rw[e1]at rx;obtain⟨hex,-⟩:=BL rx;obtain⟨h1,hK⟩:=h;obtain⟨ds,hds⟩:=Option.isSome_iff_exists.1 hs;refine Af R _ _ ?_ hK (.one (.st (.int h1)));have e2:=Dr h1;simp[execOp,ho,hex,convert,run_underlying hds,run_underlying hd,Conv.intToInt,e2]
 ·exact h.elim
theorem V5{t:TypeId}{k0:IntKind}{x:Operand}{x':Opd}(ho:o.op=.makeInterface t x)(hx:AR C.n x=some x')(ht:P.underlying t=some (.int k0))(R:Ac C σ ι s a w)(h:Kd.go P d s K (.iface t x')):BQ P C o a w K:=by
 have rx:=R.ev hx;simp only[Kd.go]at h;split at h
 ·rename_i k n e1;rw[e1]at rx;obtain⟨hex,-⟩:=BL rx;refine Af R (.iface t (.int k n)) _ ?_ h (.one (.st (.lit rfl)));simp[execOp,ho,hex,Instr.makeInterface,run_underlying ht]
 ·exact h.elim
theorem TN{i:Nat}{x:Operand}{x':Opd}(ho:o.op=.extract x i)(hx:AR C.n x=some x')(R:Ac C σ ι s a w)(h:Kd.go P d s K (.extract i x')):BQ P C o a w K:=by
 have rx:=R.ev hx;simp only[Kd.go]at h;split at h
 ·rename_i vs e1;rw[e1]at rx;split at h
  ·rename_i v hv;generalize hex:a.eval x=y at rx;cases rx with
   | tup c h1 h2 h3 =>
    exact Af R _ _ (by simp[execOp,ho,hex,Instr.extract,h2 _ _ hv]) h (h3 _ _ hv)
  ·exact h.elim
 ·exact h.elim
theorem L8{n:Nat}(hn:n≤maxLen):inR .i64 (n:Int):=by
 simp[maxLen]at hn;constructor <;> simp[IntKind.min,IntKind.max,IntKind.signed,IntKind.bits] <;> omega
theorem Cj{v:Value}{xs:List (List SV)}(h:A8 σ v (.list xs)):∃p cap,v=.slice p xs.length cap∧xs.length≤maxLen:=by
 cases h with
 | list c h1 h2 h3=>exact⟨_,_,by rw[h1],by omega⟩
theorem VX{t:TypeId}{str:Bool}{x:Operand}{x':Opd}(ho:o.op=.call { callee:=.builtin .len,args:=#[x],argTypes:=#[t] })(hx:AR C.n x=some x')(ht:if str then P.underlying t=some .string else ∃e,P.underlying t=some (.slice e))(R:Ac C σ ι s a w)(h:Kd.go P d s K (.len str x')):BQ P C o a w K:=by
 have rx:=R.ev hx;simp only[Kd.go]at h;split at h
 ·rename_i c e1;rw[e1]at rx;replace rx:=Ad rx;split at h
  ·rename_i n hn;have sl:∀(p:Option Addr) (n cap:Nat),str=false→a.eval x=.slice p n cap→n≤maxLen→K (.one (.st (.int .i64 n))) s→BQ P C o a w K:=fun p n cap hs he hm hK=>by
    subst hs;obtain⟨e,hte⟩:=ht;exact Af R _ _ (by simp[execOp,ho,resolve,invoke,builtin,Builtin.len_,run_underlying hte,he,goInt]) hK (.one (.st (.int (L8 hm))))
   have arow:∀(id n:Nat) (b:AJ),str=false→At σ s.S ι (a.eval x) (.row id n)→s.S id=some b→n=b.len→n≤maxLen→K (.one (.st (.int .i64 n))) s→BQ P C o a w K:=fun id n b hs hr hS hn hm hK=>by
    obtain⟨b',k1,k2,k3⟩:=C9 hr;rw[hS]at k1;cases k1;exact sl _ _ _ hs (k3 hn) hm hK
   unfold FS at hn;split at hn
   ·rename_i xs;split at hn
    ·cases hn
    ·rename_i hs;cases hn;obtain⟨p,cap,k1,k2⟩:=Cj (CU rx);exact sl _ _ _ (by simpa using hs) k1 k2 h
   ·rename_i b;split at hn
    ·rename_i hs;cases hn;subst hs;obtain⟨hex,hb⟩:=E2 (.one rx);simp only[if_true]at ht;exact Af R _ _ (by simp[execOp,ho,resolve,invoke,builtin,Builtin.len_,run_underlying ht,hex,goInt]) h (.one (.st (.int (L8 hb))))
    ·cases hn
   ·rename_i xs;split at hn
    ·cases hn
    ·rename_i hs;cases hn;obtain⟨p,cap,k1,k2⟩:=Cj (D4 rx);exact sl _ _ _ (by simpa using hs) k1 k2 h
   ·rename_i id m;split at hn
    ·rename_i e w' xs hS;split at hn
     ·rename_i hs;cases hn;have hb:=R.blk _ _ hS;refine arow id m _ hs.1 rx hS hs.2 ?_ h;rw[hs.2];cases hb with
      | afull _ _ _ h4=>exact(Cj h4).choose_spec.choose_spec.2
      | arow=>omega
     ·cases hn
    ·rename_i e w' xs hS;split at hn
     ·rename_i hs;cases hn;have hb:=R.blk _ _ hS;refine arow id m _ hs.1 rx hS hs.2 ?_ h;rw[hs.2];cases hb with
      | mnil=>simp[maxLen]
      | mrow=>omega
     ·cases hn
    ·cases hn
   ·rename_i id k m;split at hn
    ·rename_i e w' xs hS;split at hn
     ·rename_i hs;cases hn;obtain⟨b',k1,k2,k3⟩:=Hl rx;rw[hS]at k1;cases k1;obtain⟨q1,q2⟩:=k3 hs.2;refine sl _ _ _ hs.1 q2 ?_ h;have hb:=R.blk _ _ hS;cases hb with
      | mnil=>simp[hs.2]at q1;simp[q1]
      | mrow=>omega
     ·cases hn
    ·cases hn
   ·cases hn
  ·exact h.elim
 ·exact h.elim
end

section
variable {P:Program} {C:Ctx} {o:Oper} {a:Act} {w:World} {K:AV→AS→Prop} {σ:Sto} {ι:A6} {s:AS} {d:Nat} {S:AA}
def CZ(n:Nat):Option Operand→Option (Option Opd)
 | none=>some none
 | some x=>(AR n x).map some
theorem Ac.optI(R:Ac C σ ι s a w){x:Option Operand}{x':Option Opd}(h:CZ C.n x=some x'){dd l:Int}(hl:optI s dd x'=some l):(x.map a.eval=none∧l=dd)∨∃k,x.map a.eval=some (.int k l):=by
 cases x with
 | none =>
  simp only[CZ,Option.some.injEq]at h;subst h;simp only[Go.Proofs.YtbhnmjkmieiadaaGreatDoor.optI,Option.some.injEq]at hl;exact .inl ⟨rfl,hl.symm⟩
 | some x =>
  simp only[CZ,Option.map_eq_some_iff]at h;obtain⟨y,hy,rfl⟩:=h;have ry:=R.ev hy;simp only[Go.Proofs.YtbhnmjkmieiadaaGreatDoor.optI]at hl;split at hl
  ·rename_i k n e1;cases hl;rw[e1]at ry;exact .inr ⟨k,by rw[Option.map_some,(BL ry).1]⟩
  ·cases hl
theorem E0{isS:Bool}{len cap:Nat}{lo hi:Option Value}{l h:Int}(hl:(lo=none∧l=0)∨∃k,lo=some (.int k l))(hh:(hi=none∧h=len)∨∃k,hi=some (.int k h))(h0:0≤l)(h1:l≤h)(h2:h≤len)(h3:len≤cap) :
  (Instr.sliceBounds isS len cap lo hi none).run P w=.ok (l.toNat,h.toNat,cap) w:=by
 have hb:∀(k:IntKind) (i:Int) (y:Nat) (c:BoundsCode),0≤i→i≤y→(Instr.sliceBound (.int k i) y c).run P w=.ok i.toNat w:=fun k i y c a1 a2=>by
  simp[Instr.sliceBound,asIntOf,a1,a2]
 have hh':h≤(cap:Int):=by omega
 have h4:l≤(h.toNat:Int):=by omega
 have h5:0≤h:=by omega
 rcases hl with⟨rfl,rfl⟩|⟨k,rfl⟩ <;> rcases hh with⟨rfl,rfl⟩|⟨k',rfl⟩
 ·simp[Instr.sliceBounds]
 ·simp[Instr.sliceBounds,hb k' h cap _ h5 hh']
 ·simp[Instr.sliceBounds,hb k l len _ h0 (by omega)]
 ·simp[Instr.sliceBounds,hb k' h cap _ h5 hh',hb k l h.toNat _ h0 h4]
theorem Ud{t:TypeId}{x:Operand}{lo hi:Option Operand}{x':Opd}{lo' hi':Option Opd}(ho:o.op=.slice t x lo hi none)(hx:AR C.n x=some x')(hlo:CZ C.n lo=some lo')(hhi:CZ C.n hi=some hi')(ht:P.underlying t=some .string)
  (R:Ac C σ ι s a w) (h:Kd.go P d s K (.sliceS x' lo' hi')):BQ P C o a w K:=by
 have rx:=R.ev hx;simp only[Kd.go]at h;split at h
 ·rename_i b e1;rw[e1]at rx;obtain⟨hex,hb⟩:=E2 rx;split at h
  ·rename_i l hh e2 e3;obtain⟨⟨h0,h1,h2⟩,hK⟩:=h;have rb:=E0 (P:=P) (w:=w) (isS:=false) (R.optI hlo e2) (R.optI hhi e3) h0 h1 h2 (Nat.le_refl _);refine Af R _ _ ?_ hK (.one (.st (.str ?_)))
   ·simp[execOp,ho,hex,Instr.sliceAt,Instr.slice,run_underlying ht,rb]
   ·simp only[ByteArray.size_extract];omega
  ·exact h.elim
 ·exact h.elim
theorem KZ{v:Value}{xs:List (List SV)}(h:A8 σ v (.list xs)){wd:Nat}(hw:∀x∈xs,x.length=wd){l hh:Nat}(h1:l≤hh)(h2:hh≤xs.length) :
  ∃p cap,v=.slice p xs.length cap∧xs.length≤cap∧A8 σ (.slice (if cap=l then p else p.map (·.add (l*wd))) (hh-l) (cap-l)) (.list ((xs.take hh).drop l)):=by
 cases h with
 | @list p len cap b o w' _ c k1 k2 k3 k4 k5 k6 kh k7 k8 =>
 subst k1;refine⟨p,cap,rfl,k2,?_⟩;have hget:∀k x,((xs.take hh).drop l)[k]?=some x→xs[l+k]?=some x:=fun k x hx=>by
  rw[List.getElem?_drop,List.getElem?_take]at hx;split at hx
  ·exact hx
  ·cases hx
 refine .list (b:=b) (o:=o+l*wd) (w:=wd) (fun k j=>c (l+k) j) (by simp;omega) (by omega) (by omega) (fun hp=>?_) (fun hne=>?_) (fun x hx=>hw x (List.mem_of_mem_take (List.mem_of_mem_drop hx))) (fun q1 q2 q3=>?_) (fun k x j y hx hy=>?_) (fun k x j y hx hy=>k8 _ x j y (hget _ _ hx) hy)
 ·split at hp
  ·omega
  ·have:=k4 (by cases p <;> simp at hp ⊢);omega
 ·rw[if_neg (by omega),k5 (by omega),Option.map_some,B6]
 ·obtain⟨x,hx⟩:=List.exists_mem_of_ne_nil _ q3;have hm:=List.mem_of_mem_take (List.mem_of_mem_drop hx);exact kh q1 (by rw[←k6 x hm,hw x hm];exact q2) (List.ne_nil_of_mem hm)
 ·have hx':=hget _ _ hx;have hm:=List.mem_of_getElem? hx';have e:w'=wd:=(k6 x hm).symm.trans (hw x hm);have:=k7 _ x j y hx' hy;rw[e]at this;rw[←this];congr 2;rw[Nat.add_mul];omega
theorem Tn{t e:TypeId}{i:TypeInfo}{x:Operand}{lo hi:Option Operand}{x':Opd}{lo' hi':Option Opd}(ho:o.op=.slice t x lo hi none)(hx:AR C.n x=some x')(hlo:CZ C.n lo=some lo')(hhi:CZ C.n hi=some hi')(ht:P.underlying t=some (.slice e))(hi:P.info? e=some i)
  (R:Ac C σ ι s a w) (h:Kd.go P d s K (.sliceL i.size x' lo' hi')):BQ P C o a w K:=by
 have rx:=R.ev hx;simp only[Kd.go]at h;split at h
 ·rename_i c e1;rw[e1]at rx;split at h
  ·rename_i xs e0;have rs:=R.stC (Ad rx) e0;split at h
   ·rename_i l hh e2 e3;obtain⟨⟨h0,h1,h2⟩,hw,hK⟩:=h;obtain⟨p,cap,hex,hc,hr⟩:=KZ rs hw (l:=l.toNat) (hh:=hh.toNat) (by omega) (by omega);have rb:=E0 (P:=P) (w:=w) (isS:=true) (R.optI hlo e2) (R.optI hhi e3) h0 h1 h2 hc;refine Af R _ _ ?_ hK (.one (.st hr));simp[execOp,ho,hex,Instr.sliceAt,Instr.slice,run_underlying ht,rb,sizeOf,typeInfo,hi]
   ·exact h.elim
  ·exact h.elim
 ·exact h.elim
theorem Sj{isS:Bool}{len cap:Nat}{k k':IntKind}{h m:Int}(h0:0≤h)(h1:h≤m)(h2:m≤cap) :
  (Instr.sliceBounds isS len cap none (some (.int k h)) (some (.int k' m))).run P w=.ok (0,h.toNat,m.toNat) w:=by
 have hb:∀(k:IntKind) (i:Int) (y:Nat) (c:BoundsCode),0≤i→i≤y→(Instr.sliceBound (.int k i) y c).run P w=.ok i.toNat w:=fun k i y c a1 a2=>by
  simp[Instr.sliceBound,asIntOf,a1,a2]
 simp[Instr.sliceBounds,hb k' m cap _ (by omega) h2,hb k h m.toNat _ h0 (by omega)]
theorem Up{t e:TypeId}{i:TypeInfo}{x hi mx:Operand}{x' hi' mx':Opd}(ho:o.op=.slice t x none (some hi) (some mx))(hx:AR C.n x=some x')(hhi:AR C.n hi=some hi')(hmx:AR C.n mx=some mx')(ht:P.underlying t=some (.slice e))(hi:P.info? e=some i)
  (R:Ac C σ ι s a w) (h:Kd.go P d s K (.sliceM i.size x' hi' mx')):BQ P C o a w K:=by
 have rx:=R.ev hx;have rh:=R.ev hhi;have rm:=R.ev hmx;simp only[Kd.go]at h;split at h
 ·rename_i c e1;rw[e1]at rx;split at h
  ·rename_i xs e0;have rs:=R.stC (Ad rx) e0;split at h
   ·rename_i kh hh km m e2 e3;rw[e2]at rh;rw[e3]at rm;obtain⟨⟨h0,rfl,h2⟩,hw,hK⟩:=h;obtain⟨p,cap,hex,hc,hr⟩:=KZ rs hw (l:=0) (hh:=hh.toNat) (by omega) (by omega);have rb:=Sj (P:=P) (w:=w) (isS:=true) (len:=xs.length) (cap:=cap) (k:=kh) (k':=km) h0 (Int.le_refl _) (show hh≤(cap:Int) by omega);refine Af R (.slice (if hh.toNat=0 then p else p.map (·.add (0*i.size))) (hh.toNat-0) (hh.toNat-0)) _ ?_ hK (.one (.full ?_))
    ·simp[execOp,ho,hex,Instr.sliceAt,Instr.slice,run_underlying ht,rb,sizeOf,typeInfo,hi,(BL rh).1,(BL rm).1]
    ·rw[List.drop_zero]at hr;cases hr with
     | @list q len cap' b o w' _ c k1 k2 k3 k4 k5 k6 kq k7 k8 =>
     refine .list (b:=b) (o:=o) (w:=w') c k1 (Nat.le_refl _) (by omega) (fun hp=>?_) (fun hne=>?_) k6 kq k7 k8
     ·by_cases h9:hh.toNat=0
      ·omega
      ·have:=k4 (by rw[if_neg h9]at hp;rw[if_neg (by omega)];exact hp);omega
     ·have:=k5 hne;rw[if_neg (by omega)]at this ⊢;exact this
   ·exact h.elim
  ·exact h.elim
 ·exact h.elim
theorem Ze{t e:TypeId}{i:TypeInfo}{x:Operand}{lo hi:Option Operand}{x' h':Opd}(ho:o.op=.slice t x lo hi none)(hx:AR C.n x=some x')(hlo:CZ C.n lo=some none)(hhi:CZ C.n hi=some (some h'))(ht:P.underlying t=some (.slice e))(hi:P.info? e=some i)
  (R:Ac C σ ι s a w) (h:Kd.go P d s K (.cutP i.size x' h')):BQ P C o a w K:=by
 have rx:=R.ev hx;simp only[Kd.go]at h;split at h
 ·rename_i id k m kk n e1 e2;split at h
  ·rename_i e' w' xs hS;obtain⟨⟨hm,rfl⟩,⟨h0,hle⟩,hK⟩:=h;obtain⟨hb2,hb3⟩:m≤(AJ.mrow e' i.size xs).len∧(m=(AJ.mrow e' i.size xs).len→k≤m∧a.eval x=.slice (ι id).p k (ι id).cap):=by
    unfold Zt at e1;split at e1
    ·rename_i e0;cases e1;rw[e0]at rx;obtain⟨b,hb1,hb2,hb3⟩:=Hl (Ad rx);rw[hS]at hb1;cases hb1;exact⟨hb2,hb3⟩
    ·rename_i e0;cases e1;rw[e0]at rx;obtain⟨b,hb1,hb2,hb3⟩:=C9 (Ad rx);rw[hS]at hb1;cases hb1;exact⟨hb2,fun hl=>⟨Nat.le_refl _,hb3 hl⟩⟩
    ·cases e1
   obtain⟨hkm,hex⟩:=hb3 hm;have hb:=R.blk _ _ hS;have e3:optI s 0 (none:Option Opd)=some 0:=rfl;have e4:optI s k (some h')=some n:=by simp only[Go.Proofs.YtbhnmjkmieiadaaGreatDoor.optI,e2]
   have hmm:m=xs.length:=hm;have hcap:xs.length≤(ι id).cap:=by cases hb <;> first|exact Nat.zero_le _|assumption
   have hp:∀c:Nat,(if(ι id).cap=0 then(ι id).p else(ι id).p.map (·.add (0*c)))=(ι id).p:=fun c=>by
    split
    ·rfl
    ·rename_i hne;cases hb with
     | mnil q1 q2=>exact absurd q2 hne
     | mrow q1 q2=>rw[q2];simp[B6]
   have rb:=E0 (P:=P) (w:=w) (isS:=true) (len:=k) (cap:=(ι id).cap) (R.optI hlo e3) (R.optI hhi e4) (Int.le_refl _) h0 hle (by omega);refine Af R (.slice (ι id).p n.toNat (ι id).cap) _ ?_ hK (.one (.part hS hb2 rfl fun _=>⟨by omega,rfl⟩));have hp':=hp i.size;simp[execOp,ho,hex,Instr.sliceAt,Instr.slice,run_underlying ht,rb,sizeOf,typeInfo,hi];simpa using hp'
  ·exact h.elim
 ·exact h.elim
theorem WW{t e:TypeId}{i:TypeInfo}{x:Operand}{lo hi:Option Operand}{x' o':Opd}(ho:o.op=.slice t x lo hi none)(hx:AR C.n x=some x')(hlo:CZ C.n lo=some (some o'))(hhi:CZ C.n hi=some none)(ht:P.underlying t=some (.slice e))(hi:P.info? e=some i)
  (R:Ac C σ ι s a w) (h:Kd.go P d s K (.restP i.size x' o')):BQ P C o a w K:=by
 have rx:=R.ev hx;simp only[Kd.go]at h;split at h
 ·rename_i id m kk n e1 e2;rw[e1]at rx;replace rx:=Ad rx;split at h
  ·rename_i e' w' xs hS;obtain⟨⟨hm,rfl⟩,⟨h0,hle⟩,hK⟩:=h;obtain⟨b,hb1,hb2,hb3⟩:=C9 rx;rw[hS]at hb1;cases hb1;have hex:=hb3 hm;have hb:=R.blk _ _ hS;have e3:optI s 0 (some o')=some n:=by simp only[Go.Proofs.YtbhnmjkmieiadaaGreatDoor.optI,e2]
   have e4:optI s m (none:Option Opd)=some (m:Int):=rfl;have hmm:m=xs.length:=hm;have hcap:xs.length≤(ι id).cap:=by cases hb <;> first|exact Nat.zero_le _|assumption
   have rb:=E0 (P:=P) (w:=w) (isS:=true) (len:=m) (cap:=(ι id).cap) (R.optI hlo e3) (R.optI hhi e4) h0 hle (Int.le_refl _) (by omega);refine Af R (.slice (if(ι id).cap=n.toNat then(ι id).p else(ι id).p.map (·.add (n.toNat*i.size))) (m-n.toNat) ((ι id).cap-n.toNat)) _ ?_ hK (.one (.rest hS hb2 rfl fun _=>⟨by omega,rfl⟩));simp[execOp,ho,hex,Instr.sliceAt,Instr.slice,run_underlying ht,rb,sizeOf,typeInfo,hi]
  ·rename_i e' w' xs hS;obtain⟨⟨hm,rfl⟩,⟨h0,hle⟩,hK⟩:=h;obtain⟨b,hb1,hb2,hb3⟩:=C9 rx;rw[hS]at hb1;cases hb1;have hex:=hb3 hm;have hb:=R.blk _ _ hS;have e3:optI s 0 (some o')=some n:=by simp only[Go.Proofs.YtbhnmjkmieiadaaGreatDoor.optI,e2]
   have e4:optI s m (none:Option Opd)=some (m:Int):=rfl;have hmm:m=xs.length:=hm;have hcap:xs.length≤(ι id).cap:=by cases hb <;> first|exact Nat.zero_le _|assumption|omega
   have rb:=E0 (P:=P) (w:=w) (isS:=true) (len:=m) (cap:=(ι id).cap) (R.optI hlo e3) (R.optI hhi e4) h0 hle (Int.le_refl _) (by omega);refine Af R (.slice (if(ι id).cap=n.toNat then(ι id).p else(ι id).p.map (·.add (n.toNat*i.size))) (m-n.toNat) ((ι id).cap-n.toNat)) _ ?_ hK (.one (.rest hS hb2 rfl fun _=>⟨by omega,rfl⟩));simp[execOp,ho,hex,Instr.sliceAt,Instr.slice,run_underlying ht,rb,sizeOf,typeInfo,hi]
  ·exact h.elim
 ·exact h.elim
theorem Ac.newbox(R:Ac C σ ι s a w)(hid:s.S d=none){e:TypeId}{vs:Array Value}{cs:List AC}(h:An (At σ s.S ι) vs.toList cs) :
  ∃ι',Ac C σ ι' (s.set d (.box e cs)) a (w.alloc (.cells vs e))∧Ae σ (s.set d (.box e cs)).S ι' (.pointer (some ⟨w.heap.size,0,none⟩)) (.one (.ptr d 1 0 0)):=by
 obtain⟨hu,R'⟩:=R.fresh (w':=w.alloc (.cells vs e)) hid (.box e cs) ⟨some ⟨w.heap.size,0,none⟩,0,some w.heap.size⟩ (Ext.refl _ _) (R.fit.alloc _) (E1.alloc _ _) (by simp) (fun S' ι' hu=>.box rfl rfl (heap_alloc_new w _) (h.mono fun _ _ x=>x.mono (fun _ _ h=>h) hu) (fun p hp=>R.fit.no (by omega)));exact⟨_,R',.one (.ptr (b:=.box e cs) (by simp[AS.set,AG]) (Nat.le_refl _) rfl fun _=>⟨w.heap.size,by simp[AG],by simp[AJ.wid]⟩)⟩
theorem Xf{e:TypeId}{i:TypeInfo}{z:Value}{cs:List AC}(ho:o.op=.alloc e)(hi:P.info? e=some i)(hz:i.zero=some z)(hcs:De z.cells.toList=some cs)(R:Ac C σ ι s a w)(h:Kd.go P d s K (.alloc e cs)):BQ P C o a w K:=by
 simp only[Kd.go]at h;obtain⟨hid,hK⟩:=h;obtain⟨ι',R',hv⟩:=R.newbox (d:=d) hid (e:=e) (EM hcs);exact⟨_,_,_,σ,ι',_,.inl (by simp[execOp,ho,Instr.alloc,zeroValue,typeInfo,hi,hz,newVar,newRow]),hK,R',hv⟩
theorem Z3{e:TypeId}{x:Operand}{x':Opd}(ho:o.op=.box e x)(hx:AR C.n x=some x')(R:Ac C σ ι s a w)(h:Kd.go P d s K (.box e x')):BQ P C o a w K:=by
 have rx:=R.ev hx;simp only[Kd.go]at h;split at h
 ·rename_i cs e1;obtain⟨hid,hK⟩:=h;obtain⟨ι',R',hv⟩:=R.newbox (d:=d) hid (e:=e) (rx.cells e1);exact⟨_,_,_,σ,ι',_,.inl (by simp[execOp,ho,Instr.box,newVar,newRow]),hK,R',hv⟩
 ·exact h.elim
theorem OJ{α:Type}{L:List α}{k:Nat}{v:α}(h:k<L.length):(L.set k v).take (k+1)=L.take k++[v]:=by
 rw[List.take_add_one,List.getElem?_set_self h,List.take_set,List.set_eq_of_length_le (by simp;omega)];rfl
theorem OK{α:Type}{L:List α}{k m:Nat}{v:α}(h:k<m):(L.set k v).drop m=L.drop m:=by
 rw[List.drop_set_of_lt h]
theorem PE(off:Nat):∀(l:List Value) (n:Nat) (cells:Array Value),off+n+l.length≤cells.size →
  ((l.zipIdx n).foldl (fun cs (x:Value×Nat)=>cs.setIfInBounds (off+x.2) x.1) cells).toList=cells.toList.take (off+n)++l++cells.toList.drop (off+n+l.length)
 | [],n,cells,h=>by simp
 | v::l,n,cells,h=>by
  simp only[List.zipIdx_cons,List.foldl_cons];simp only[List.length_cons]at h;rw[PE off l (n+1) _ (by simp;omega)];have hlt:off+n<cells.toList.length:=by simp;omega
  simp only[Array.toList_setIfInBounds,List.length_cons];rw[show off+(n+1)=off+n+1 by omega,OJ hlt,OK (by omega),show off+n+1+l.length=off+n+(l.length+1) by omega];simp
theorem SU{place:Nat→Option (Nat×Nat)}{cells:Array Value}{i off size:Nat}{v:Value}{rest:List (Nat×Value)}(hp:place i=some (off,size))(hs:v.cells.size=size)(hle:off+size≤cells.size) :
  ∃cells':Array Value,Instr.fill place cells ((i,v)::rest)=Instr.fill place cells' rest∧cells'.toList=splice cells.toList off v.cells.toList:=by
 refine⟨_,?_,PE off v.cells.toList 0 cells (by simp;omega)⟩;rw[Instr.fill,hp];simp only;rw[if_neg (by simp;omega)];congr 1;rw[←Array.foldl_toList,Array.toList_zipIdx]
theorem An.splice{α β:Type}{R:α→β→Prop}{l l':List α}{m m':List β}(h:An R l m)(h':An R l' m')(off:Nat):An R (splice l off l') (splice m off m'):=by
 unfold Go.Proofs.YtbhnmjkmieiadaaGreatDoor.splice;rw[h'.len];exact((h.take off).append h').append (h.drop _)
def FO(n:Nat)(places:List (Nat×Nat)):List (Nat×Operand)→Option (List (Nat×Nat×Opd))
 | []=>some []
 | (i,x)::ps=>match places[i]?,AR n x,FO n places ps with
  | some (off,size),some x',some ps'=>some ((off,size,x')::ps')
  | _,_,_=>none
theorem HD(R:Ac C σ ι s a w){places:List (Nat×Nat)}:∀{ps:List (Nat×Operand)} {ps':List (Nat×Nat×Opd)} {cells:Array Value} {cs cs':List AC},FO C.n places ps=some ps'→An (At σ s.S ι) cells.toList cs→JA s cs ps'=some cs' →
  ∃cells',Instr.fill (fun i=>places[i]?) cells (ps.map fun x=>(x.1,a.eval x.2))=some cells'∧An (At σ s.S ι) cells'.toList cs'
 | [],ps',cells,cs,cs',h1,h2,h3=>by
  simp only[FO,Option.some.injEq]at h1;subst h1;simp only[JA,Option.some.injEq]at h3;subst h3;exact⟨cells,rfl,h2⟩
 | (i,x)::ps,ps',cells,cs,cs',h1,h2,h3=>by
  simp only[FO]at h1;split at h1
  ·rename_i off size x' ps1 e1 e2 e3;cases h1;simp only[JA]at h3;split at h3
   ·rename_i c e4;split at h3
    ·rename_i hc;have rx:=(R.ev e2).cells e4;have hl:=rx.len;have hl2:=h2.len;obtain⟨cells1,f1,f2⟩:=SU (place:=fun i=>places[i]?) (cells:=cells) (i:=i) (v:=a.eval x) (rest:=ps.map fun x=>(x.1,a.eval x.2)) (off:=off) (size:=size) e1 (by simp at hl;omega) (by simp at hl2;omega);obtain⟨cells2,g1,g2⟩:=HD R (cells:=cells1) e3 (by rw[f2];exact h2.splice rx off) h3;exact⟨cells2,by rw[List.map_cons,f1,g1],g2⟩
    ·cases h3
   ·cases h3
  ·cases h1
theorem V_{t:TypeId}{it:TypeInfo}{z:Value}{fs:Array Field}{places:List (Nat×Nat)}{ps:Array (Nat×Operand)}{ps':List (Nat×Nat×Opd)}{cs:List AC}(ho:o.op=.build t ps)(hit:P.info? t=some it)(hz:it.zero=some z)(hu:P.underlying t=some (.struct fs))
  (hpl:fs.toList.mapM (fun f=>(P.info? f.type).map fun i=>(f.offset,i.size))=some places) (hps:FO C.n places ps.toList=some ps') (hcs:De z.cells.toList=some cs) (R:Ac C σ ι s a w) (h:Kd.go P d s K (.build cs ps')):BQ P C o a w K:=by
 simp only[Kd.go]at h;split at h
 ·rename_i cs' e1;obtain⟨cells',f1,f2⟩:=HD R (cells:=z.cells) hps (EM hcs) e1;have hb:P.built t (ps.map fun x=>(x.1,a.eval x.2)).toList=some cells':=by
   unfold Program.built;simp only[hit,hu,hz,hpl];rw[←f1];simp
  exact Af R _ _ (by simp only[execOp,ho,Sem.run_bind,run_build w t _ _ hb,Result.andThen_ok];rfl) h (.agg f2)
 ·exact h.elim
theorem Oe{place place':Nat→Option (Nat×Nat)}(h:∀i q,place i=some q→place' i=some q):∀{ps:List (Nat×Value)} {cells c:Array Value},Instr.fill place cells ps=some c→Instr.fill place' cells ps=some c
 | [],_,_,e=>e
 | (i,v)::rest,cells,c,e=>by
  rw[Instr.fill]at e ⊢;cases hp:place i with
  | none=>rw[hp]at e;cases e
  | some q =>
   rw[hp]at e;rw[h i q hp];obtain⟨off,size⟩:=q;simp only at e ⊢;split at e
   ·cases e
   ·rename_i hc;rw[if_neg hc];exact Oe h e
theorem Sz{t e:TypeId}{len:Nat}{it ie:TypeInfo}{z:Value}{ps:Array (Nat×Operand)}{ps':List (Nat×Nat×Opd)}{cs:List AC}(ho:o.op=.build t ps)(hit:P.info? t=some it)(hz:it.zero=some z)(hu:P.underlying t=some (.array len e))(hie:P.info? e=some ie)
  (hps:FO C.n ((List.range len).map fun i=>(i*ie.size,ie.size)) ps.toList=some ps') (hcs:De z.cells.toList=some cs) (R:Ac C σ ι s a w) (h:Kd.go P d s K (.build cs ps')):BQ P C o a w K:=by
 simp only[Kd.go]at h;split at h
 ·rename_i cs' e1;obtain⟨cells',f1,f2⟩:=HD R (cells:=z.cells) hps (EM hcs) e1;have f3:=Oe (place':=fun i=>some (i*ie.size,ie.size)) (fun i q hq=>by
   rw[List.getElem?_map,Option.map_eq_some_iff]at hq;obtain⟨j,hj,rfl⟩:=hq;obtain⟨hj1,hj2⟩:=List.getElem?_eq_some_iff.1 hj;rw[List.getElem_range]at hj2;rw[hj2]) f1
  refine Af R (.agg cells') _ ?_ h (.agg f2);simp[execOp,ho,Instr.build,zeroValue,typeInfo,hit,hz,run_underlying hu,sizeOf,hie,Result.andThen,f3]
 ·exact h.elim
def BV(σ:Sto)(vs:List Value)(wd:Nat)(xs:List (List SV)):Prop:=(∀x∈xs,x.length=wd)∧∀k x j y,xs[k]?=some x→x[j]?=some y→∃v,vs[k*wd+j]?=some v∧A8 σ v y
theorem BV.nil{vs:List Value}{wd:Nat}:BV σ vs wd []:=⟨by simp,by simp⟩
theorem BV.append{vs vs':List Value}{wd:Nat}{xs ys:List (List SV)}(h:BV σ vs wd xs)(h':BV σ vs' wd ys)(hl:vs.length=xs.length*wd):BV σ (vs++vs') wd (xs++ys):=by
 refine⟨fun x hx=>?_,fun k x j y hx hy=>?_⟩
 ·rcases List.mem_append.1 hx with hx|hx
  ·exact h.1 x hx
  ·exact h'.1 x hx
 ·by_cases hlt:k<xs.length
  ·rw[List.getElem?_append_left hlt]at hx;obtain⟨v,v1,v2⟩:=h.2 k x j y hx hy;exact⟨v,by rw[List.getElem?_append_left (List.getElem?_eq_some_iff.1 v1).1];exact v1,v2⟩
  ·rw[List.getElem?_append_right (by omega)]at hx;obtain⟨v,v1,v2⟩:=h'.2 (k-xs.length) x j y hx hy;refine⟨v,?_,v2⟩;have e:k*wd=vs.length+(k-xs.length)*wd:=by
    rw[hl,←Nat.add_mul];congr 1;omega
   rw[List.getElem?_append_right (by omega),show k*wd+j-vs.length=(k-xs.length)*wd+j by omega];exact v1
theorem BV.more{vs:List Value}{wd:Nat}{xs:List (List SV)}(h:BV σ vs wd xs)(vs':List Value):BV σ (vs++vs') wd xs :=
 ⟨h.1,fun k x j y hx hy=>by
  obtain⟨v,v1,v2⟩:=h.2 k x j y hx hy;exact⟨v,by rw[List.getElem?_append_left (List.getElem?_eq_some_iff.1 v1).1];exact v1,v2⟩⟩
theorem BV.mono{σ':Sto}{vs:List Value}{wd:Nat}{xs:List (List SV)}(h:BV σ vs wd xs)(hs:∀p x,σ p=some x→σ' p=some x):BV σ' vs wd xs :=
 ⟨h.1,fun k x j y hx hy=>by
  obtain⟨v,v1,v2⟩:=h.2 k x j y hx hy;exact⟨v,v1,v2.mono hs⟩⟩
theorem BV.cons{vs vs':List Value}{wd:Nat}{x:List SV}{xs:List (List SV)}(h:An (A8 σ) vs x)(hx:x.length=wd)(h':BV σ vs' wd xs):BV σ (vs++vs') wd (x::xs):=by
 have h0:BV σ vs wd [x]:=by
  refine⟨by simpa using hx,fun k y j z hy hz=>?_⟩;cases k with
  | zero =>
   simp at hy;subst hy;simpa using h.get hz
  | succ k=>simp at hy
 exact h0.append h' (by rw[h.len,hx];simp)
theorem H6{v:Value}{xs:List (List SV)}(h:A8 σ v (.list xs)){wd:Nat}(hw:∀x∈xs,x.length=wd)(hpos:0<wd) :
  ∃p cap vs,v=.slice p xs.length cap∧xs.length≤cap∧cap≤maxLen∧(p=none→cap=0)∧vs.length=xs.length*wd∧BV σ vs wd xs∧(∀u∈vs,u.oneCell'=true) ∧
   ∃b o,(xs≠[]→p=some ⟨b,o,none⟩)∧∀j u,vs[j]?=some u→σ ⟨b,o+j,none⟩=some u:=by
 cases h with
 | @list p len cap b o w' _ c k1 k2 k3 k4 k5 k6 kh k7 k8 =>
 subst k1;have hall:∀i,i<xs.length*wd→∃x y,xs[i / wd]?=some x∧x[i % wd]?=some y:=fun i hi=>by
  have h1:i / wd<xs.length:=by rw[Nat.div_lt_iff_lt_mul hpos];exact hi
  have h2:xs[i / wd].length=wd:=hw _ (List.getElem_mem h1);exact⟨xs[i / wd],xs[i / wd][i % wd]'(by rw[h2];exact Nat.mod_lt _ hpos),List.getElem?_eq_getElem h1,List.getElem?_eq_getElem _⟩
 have hvs:∀i,i<xs.length*wd→((List.range (xs.length*wd)).map fun i=>c (i / wd) (i % wd))[i]?=some (c (i / wd) (i % wd)):=fun i hi=>by
  rw[List.getElem?_map,List.getElem?_range hi];rfl
 have hwb:∀k x,xs[k]?=some x→w'=wd:=fun k x hx=>(k6 x (List.mem_of_getElem? hx)).symm.trans (hw x (List.mem_of_getElem? hx));refine⟨p,cap,(List.range (xs.length*wd)).map (fun i=>c (i / wd) (i % wd)),rfl,k2,k3,k4,by simp,⟨hw,fun k x j y hx hy=>?_⟩,fun u hu=>?_,b,o,fun hne=>k5 (by simpa using hne),fun j u hu=>?_⟩
 ·have hk:=(List.getElem?_eq_some_iff.1 hx).1;have hj:j<wd:=by
   rw[←hw x (List.mem_of_getElem? hx)];exact(List.getElem?_eq_some_iff.1 hy).1
  have hlt:k*wd+j<xs.length*wd:=by
   have:(k+1)*wd≤xs.length*wd:=Nat.mul_le_mul_right _ hk
   rw[Nat.add_mul]at this;omega
  have e1:(k*wd+j) / wd=k:=by rw[Nat.mul_comm,Nat.mul_add_div hpos,Nat.div_eq_of_lt hj];omega
  have e2:(k*wd+j) % wd=j:=by rw[Nat.mul_comm,Nat.mul_add_mod,Nat.mod_eq_of_lt hj]
  refine⟨c k j,?_,k8 k x j y hx hy⟩;rw[hvs _ hlt,e1,e2]
 ·obtain⟨i,hi,rfl⟩:=List.mem_map.1 hu;obtain⟨x,y,hx,hy⟩:=hall i (by simpa using hi);exact(k8 _ x _ y hx hy).one
 ·have hj:j<xs.length*wd:=by
   have:=(List.getElem?_eq_some_iff.1 hu).1;simpa using this
  obtain⟨x,y,hx,hy⟩:=hall j hj;rw[hvs j hj]at hu;cases hu;have:=k7 _ x _ y hx hy;rw[hwb _ x hx]at this;rw[←this];congr 2;rw[Nat.add_assoc,Nat.mul_comm,Nat.div_add_mod]
def Es(σ:Sto)(w:World)(g k:Nat):Sto:=fun p=>if p.block=g∧(p.spot=none∨p.spot=some 1)∧p.off<k then Dq w p else σ p
theorem L7{g k j:Nat}(h:j<k):Es σ w g k ⟨g,j,none⟩=w.cell? ⟨g,j,none⟩:=by simp[Es,h,Ej]
theorem Hr{g k j:Nat}(h:j<k):Es σ w g k ⟨g,j,some 1⟩=Dq w ⟨g,j,some 1⟩:=by simp[Es,h]
theorem Fk{g k:Nat}{p:Addr}(h:p.block≠g):Es σ w g k p=σ p:=by simp[Es,h]
theorem Fz{w':World}{g k:Nat}(h:∀p x,p.block=g→σ p=some x→Dq w' p=some x):∀p x,σ p=some x→Es σ w' g k p=some x:=fun p x hp=>by
 unfold Es;split
 ·rename_i hh;exact h _ _ hh.1 hp
 ·exact hp
theorem Eo{w':World}{g k:Nat}(h:Fit σ w'):Fit (Es σ w' g k) w':=fun p x hp=>by
 unfold Es at hp;split at hp
 ·exact hp
 ·exact h _ _ hp
theorem Ext.lay{w w':World}{g k:Nat}(hf:Fit σ w)(hg:w.heap.size≤g):Ext w.heap.size σ (Es σ w' g k) :=
 ⟨Fz (fun p x e h=>by rw[hf.no (by rw[e];exact hg)]at h;cases h),fun p hp=>Fk (by omega)⟩
theorem YN{w':World}{g:Nat}{vs:Array Value}{e:TypeId}{n cap wd:Nat}{xs:List (List SV)}(hf:Fit σ w)(hg:w.heap.size≤g)(hw:w'.heap[g]?=some (.cells vs e (0,0)))(hl:BV σ vs.toList wd xs)(hn:n=xs.length)(hc:n≤cap)(hcm:cap≤maxLen) :
  A8 (Es σ w' g (n*wd)) (.slice (some ⟨g,0,none⟩) n cap) (.list xs):=by
 have key:∀k x j y,xs[k]?=some x→x[j]?=some y→∃v,vs[k*wd+j]?=some v∧A8 σ v y∧Es σ w' g (n*wd) ⟨g,k*wd+j,none⟩=some v:=fun k x j y hx hy=>by
  obtain⟨v,v1,v2⟩:=hl.2 k x j y hx hy;have hk:=(List.getElem?_eq_some_iff.1 hx).1;have hj:j<wd:=by
   rw[←hl.1 x (List.mem_of_getElem? hx)];exact(List.getElem?_eq_some_iff.1 hy).1
  have hlt:k*wd+j<n*wd:=by
   have:(k+1)*wd≤n*wd:=Nat.mul_le_mul_right _ (by omega)
   rw[Nat.add_mul]at this;omega
  refine⟨v,by simpa using v1,v2,?_⟩;rw[L7 hlt,cell_of_row w' g _ _ _ _ hw];simpa using v1
 refine .list (b:=g) (o:=0) (w:=wd) (fun k j=>(vs[k*wd+j]?).getD undef) hn hc hcm (by simp) (fun _=>rfl) hl.1 (fun _ q2 q3=>by rw[Hr (Nat.mul_pos (by rw[hn];exact List.length_pos_iff.2 q3) (by omega)),Fo hw]) (fun k x j y hx hy=>?_) (fun k x j y hx hy=>?_)
 ·obtain⟨v,v1,v2,v3⟩:=key k x j y hx hy;rw[Nat.zero_add,v3,v1];rfl
 ·obtain⟨v,v1,v2,v3⟩:=key k x j y hx hy;rw[v1];exact v2.mono (Ext.lay hf hg).keep
end

section
variable {P:Program} {C:Ctx} {o:Oper} {a:Act} {w:World} {K:AV→AS→Prop} {σ:Sto} {ι:A6} {s:AS} {d:Nat} {S:AA}
def O3(n:Nat):Nat→List (Nat×Operand)→Option (List Opd)
 | _,[]=>some []
 | k,(i,x)::ps=>if i=k then match AR n x,O3 n (k+1) ps with
  | some x',some xs'=>some (x'::xs')
  | _,_=>none
  else none
theorem Sm{α:Type}{L A:List α}{k:Nat}(hk:k≤L.length):(splice L k A).take (k+A.length)=L.take k++A:=by
 unfold splice;exact List.take_left' (by simp;omega)
theorem Ta{α:Type}{L A:List α}{k m:Nat}(hk:k≤L.length):(splice L k A).drop (k+A.length+m)=L.drop (k+A.length+m):=by
 unfold splice;have e:(L.take k++A).length=k+A.length:=by simp;omega
 rw[List.drop_append,e,List.drop_of_length_le (by omega),List.nil_append,List.drop_drop];congr 1;omega
theorem LC(R:Ac C σ ι s a w){wd:Nat}:∀{ps:List (Nat×Operand)} {k:Nat} {xs:List Opd} {es:List (List SV)} {cells:Array Value},O3 C.n k ps=some xs→Ed s wd xs=some es→k*wd+ps.length*wd≤cells.size →
  ∃cells' vs,Instr.fill (fun i=>some (i*wd,wd)) cells (ps.map fun x=>(x.1,a.eval x.2))=some cells'∧cells'.toList=cells.toList.take (k*wd)++vs++cells.toList.drop (k*wd+ps.length*wd)∧vs.length=ps.length*wd∧ps.length=es.length∧BV σ vs wd es
 | [],k,xs,es,cells,h1,h2,h3=>by
  simp only[O3,Option.some.injEq]at h1;subst h1;simp only[Ed,Option.some.injEq]at h2;subst h2;exact⟨cells,[],rfl,by simp,by simp,rfl,BV.nil⟩
 | (i,x)::ps,k,xs,es,cells,h1,h2,h3=>by
  simp only[O3]at h1;split at h1
  ·rename_i hik;subst hik;split at h1
   ·rename_i x' xs' e1 e2;cases h1;simp only[Ed]at h2;split at h2
    ·rename_i c e3;split at h2
     ·rename_i c' es' e4 e5;split at h2
      ·rename_i hw;cases h2;have rx:=R.stCs ((R.ev e1).cells e3) e4;have hl:=rx.len;simp only[List.length_cons,Nat.add_mul,Nat.one_mul]at h3;obtain⟨cells1,f1,f2⟩:=SU (place:=fun i=>some (i*wd,wd)) (cells:=cells) (i:=i) (v:=a.eval x) (rest:=ps.map fun x=>(x.1,a.eval x.2)) (off:=i*wd) (size:=wd) rfl (by simp at hl;omega) (by omega);have hsz:cells1.size=cells.size:=by
        have:=congrArg List.length f2;simp[splice]at this;simp at hl;omega
       obtain⟨cells2,vs,g1,g2,g3,g4,g5⟩:=LC R (cells:=cells1) e2 e5 (by rw[Nat.add_mul];omega);refine⟨cells2,(a.eval x).cells.toList++vs,by rw[List.map_cons,f1,g1],?_,by simp at hl ⊢;rw[g3,Nat.add_mul];omega,by simp[g4],BV.cons rx hw g5⟩;rw[g2,f2];have hlen:(a.eval x).cells.toList.length=wd:=by omega
       have e6:(i+1)*wd=i*wd+(a.eval x).cells.toList.length:=by rw[Nat.add_mul];omega
       rw[e6,Sm (by simp;omega),Ta (by simp;omega),hlen];simp only[List.length_cons,Nat.add_mul,Nat.one_mul];rw[show i*wd+wd+ps.length*wd=i*wd+(ps.length*wd+wd) by omega];simp
      ·cases h2
     ·cases h2
    ·cases h2
   ·cases h1
  ·cases h1
theorem LO:∀{xs:List Opd} {es:List (List SV)},Lm s xs=some es→Ed s 1 xs=some es
 | [],es,h=>h
 | x::xs,es,h=>by
  simp only[Lm]at h;split at h
  ·rename_i c es' e1 e2;cases h;simp only[Ed,e1,AV.cells,stCs,stC,LO e2,List.length_cons,List.length_nil,if_true]
  ·cases h
theorem AA1{xs:List Opd}{e:Nat}(h:Kd.go P d s K (.buildFlat xs)):Kd.go P d s K (.buildSlice false e 1 xs):=by
 simp only[Kd.go]at h ⊢;split at h
 ·rename_i es e1;rw[LO e1];exact h
 ·exact h.elim
theorem HL{t e:TypeId}{len:Nat}{ps:Array (Nat×Operand)}{ie:TypeInfo}{z:Value}{xs:List Opd}{mu:Bool}(ho:o.op=.buildSlice t len ps)(hu:P.underlying t=some (.slice e))(hie:P.info? e=some ie)(hz:ie.zero=some z)(hsmall:len*ie.size≤2^24)(hwp:0<ie.size)(hlen:ps.size=len)
  (hps:O3 C.n 0 ps.toList=some xs) (R:Ac C σ ι s a w) (h:Kd.go P d s K (.buildSlice mu e ie.size xs)):BQ P C o a w K:=by
 simp only[Kd.go]at h;split at h
 ·rename_i es e1;obtain⟨cells',vs,f1,f2,f3,f4,f5⟩:=LC R (cells:=(Array.range (len*ie.size)).map (z.cells[· % z.cells.size]!)) hps e1 (by simp[hlen]);have hpl:ps.toList.length=len:=by simpa using hlen
  have f2':cells'.toList=vs:=by
   rw[f2,hpl];rw[List.drop_of_length_le (by simp)];simp
  have hrun:(execOp a.eval o).run P w=.ok (.value (.slice (some ⟨w.heap.size,0,none⟩) len len)) (w.alloc (.cells cells' e)):=by
   by_cases h0:len=0
   ·subst h0;have hp0:ps=#[]:=Array.eq_empty_of_size_eq_zero hlen;subst hp0;have hc:cells'=#[]:=by
     apply Array.ext';rw[f2'];simpa using f3
    subst hc;have e0:Array.range 0=#[]:=rfl;simp[execOp,ho,Instr.buildSlice,run_underlying hu,sizeOf,typeInfo,hie,Instr.fill,newRow,e0]
   ·have hrb:=run_buildSlice (P:=P) w t e len (ps.map fun x=>(x.1,a.eval x.2)) cells' ie z hu hie hz (by omega) (by
     have:=Nat.mul_pos (show 0<len by omega) hwp;omega) (by simpa using f1)
    simp only[execOp,ho,Sem.run_bind,hrb,Result.andThen_ok];rfl
  have hle:len=es.length:=by rw[←hpl,f4]
  have hmax:len≤maxLen:=by
   have:len*1≤len*ie.size:=Nat.mul_le_mul_left _ hwp
   simp[maxLen];omega
  have f5':BV σ cells'.toList ie.size es:=by rw[f2'];exact f5
  cases mu with
  | false =>
   simp only[Bool.false_eq_true,if_false]at h;have hs:=YN (w:=w) (w':=w.alloc (.cells cells' e)) R.fit (Nat.le_refl _) (heap_alloc_new w _) f5' hle (Nat.le_refl _) hmax;exact⟨_,_,s,_,ι,_,.inl hrun,h,R.more (Ext.lay R.fit (Nat.le_refl _)) (Eo (R.fit.alloc _)) (E1.alloc _ _),.one (.full hs)⟩
  | true =>
   simp only[if_true]at h;obtain⟨hid,hK⟩:=h;obtain⟨hu',R'⟩:=R.fresh (w':=w.alloc (.cells cells' e)) hid (.mrow e ie.size es) ⟨some ⟨w.heap.size,0,none⟩,len,some w.heap.size⟩ (Ext.refl _ _) (R.fit.alloc _) (E1.alloc _ _) (by simp)
    (fun S' ι' hu=>.mrow rfl rfl (heap_alloc_new w _) (show es.length≤len by omega) hmax (by
     have:=congrArg List.length f2';simp at this;rw[this,f3,hpl]) f5'.1 (fun k x j y hx hy=>by simpa using f5'.2 k x j y hx hy) (fun p hp=>R.fit.no (by omega)))
   exact⟨_,_,_,σ,_,_,.inl hrun,hK,R',.one (.row (b:=.mrow e ie.size es) (by simp[AS.set,AG]) (Nat.le_refl _) rfl fun _=>by simp[AG,hle])⟩
 ·exact h.elim
theorem HE{t:TypeId}{i:TypeInfo}(hi:P.info? t=some i){g off:Nat}{v:Value}{cur:Array Value}{e:TypeId}(hg:w.heap[g]?=some (.cells cur e (0,0)))(hv:v.cells.size=i.size)(hle:off+i.size≤cur.size)(h1:∀u∈v.cells.toList,u.oneCell'=true) :
  (Instr.storeAt t (.pointer (some ⟨g,off,none⟩)) v).run P w=.ok () (w.setRow g (splice cur.toList off v.cells.toList).toArray):=by
 have hst:=run_storeCells_at P g off e v.cells.toList 0 cur w hg (by simp;omega) h1;have hst':(storeCells ⟨g,off,none⟩ v.cells.toList).run P w=.ok () (w.setRow g (splice cur.toList off v.cells.toList).toArray):=by
  have e1:(storeCells ⟨g,off,none⟩ v.cells.toList 0).run P w=_:=hst;rw[e1];simp[splice]
 simp[Instr.storeAt,Instr.sureAddr,storeVar,sizeOf,typeInfo,hi,hv,hst']
theorem CD(g:Nat)(cs:Array Value):(w.setRow g cs).os=w.os∧(w.setRow g cs).tape=w.tape∧(w.setRow g cs).output=w.output:=⟨rfl,rfl,rfl⟩
theorem An.oneA{vs:List Value}{cs:List AC}(h:An (At σ S ι) vs cs):∀u∈vs,u.oneCell'=true:=by
 intro u hu;obtain⟨i,hi,rfl⟩:=List.getElem_of_mem hu;obtain⟨b,_,hb⟩:=h.get' (List.getElem?_eq_getElem hi);exact hb.one
theorem Fit.row{w':World}(hf:Fit σ w){g:Nat}(hn:∀p:Addr,p.block=g→σ p=none)(hw:∀k,k≠g→w'.heap[k]?=w.heap[k]?):Fit σ w':=fun p x hp=>by
 have hne:p.block≠g:=fun e=>by rw[hn p e]at hp;cases hp
 exact(EG (hw _ hne)).trans (hf p x hp)
theorem XG{t:TypeId}{i:TypeInfo}{x v:Operand}{x' v':Opd}(ho:o.op=.store t x v)(hx:AR C.n x=some x')(hv:AR C.n v=some v')(hi:P.info? t=some i)(R:Ac C σ ι s a w)(h:Kd.go P d s K (.store i.size x' v')):BQ P C o a w K:=by
 have rx:=R.ev hx;have rv:=R.ev hv;simp only[Kd.go]at h;split at h
 ·rename_i id m k off c e1 e2;rw[e1]at rx;have rc:=rv.cells e2;have hlc:=rc.len;obtain⟨b,hb1,hb2,hb3⟩:=Fu (Ad rx);split at h
  ·rename_i e cs hS;obtain⟨⟨rfl,rfl⟩,hcn,hle,hK⟩:=h;rw[hS]at hb1;cases hb1;obtain⟨g,g1,g2⟩:=hb3 rfl;simp only[AJ.wid,Nat.zero_mul,Nat.zero_add]at g2;have hb:=R.blk _ _ hS;cases hb with
   | @box _ _ g' vs k1 k2 k3 k4 k5 =>
   rw[k1]at g1;cases g1;have hlv:=k4.len;have hrun:=HE (P:=P) (off:=off) (v:=a.eval v) hi k3 (by simp at hlc;omega) (by simp at hlv;omega) (An.oneA rc);obtain⟨hu,R'⟩:=R.turn (w':=w.setRow g (splice vs.toList off (a.eval v).cells.toList).toArray) hS (.box e (splice cs off c)) (ι id) (σ':=σ) (fun _ _ h=>h) (fun _ _ _=>rfl) (R.fit.row k5 fun k hk=>setRow_other _ _ _ _ hk) (Nat.le_refl _) (fun _=>⟨rfl,rfl⟩) (CD _ _) (by simp)
    (fun k hk hne=>setRow_other _ _ _ _ (fun e=>hne (by rw[e];exact k1))) (fun g h=>.inl h) (fun hu=>.box k1 k2 (setRow_heap w _ _ _ _ _ k3) (by simpa using(k4.splice rc off).mono fun _ _ x=>x.mono (fun _ _ h=>h) hu) k5)
   exact⟨undef,.any,_,σ,_,_,.inr ⟨rfl,by simp only[execOp,ho,g2,Sem.run_bind,hrun,Result.andThen_ok];rfl⟩,hK,R',.any⟩
  ·rename_i e cs hS;obtain⟨⟨hm,hn1,hc1⟩,rfl,hk,hK⟩:=h;rw[hS]at hb1;cases hb1;obtain⟨g,g1,g2⟩:=hb3 hm;simp only[AJ.wid,Nat.mul_one,Nat.add_zero]at g2;have hb:=R.blk _ _ hS;cases hb with
   | @crow _ _ g' vs k1 k2 k3 kc km k4 k5 =>
   rw[k1]at g1;cases g1;have hlv:=k4.len;have hsl:(splice cs k c).length=cs.length:=by
    simp[splice];omega
   have hrun:=HE (P:=P) (off:=k) (v:=a.eval v) hi k3 (by simp at hlc;omega) (by omega) (An.oneA rc);have htk:(splice vs.toList k (a.eval v).cells.toList).take cs.length=splice (vs.toList.take cs.length) k (a.eval v).cells.toList:=by
    unfold splice;have q1:(vs.toList.take k).length=k:=by simp;omega
    have q2:(a.eval v).cells.toList.length=1:=by omega
    rw[List.append_assoc,List.take_append,q1,List.take_append,q2,List.take_of_length_le (l:=vs.toList.take k) (by rw[q1];omega),List.take_of_length_le (l:=(a.eval v).cells.toList) (by rw[q2];omega),List.take_take,Nat.min_eq_left (by omega),List.drop_take,List.append_assoc];congr 3
   obtain⟨hu,R'⟩:=R.turn (w':=w.setRow g (splice vs.toList k (a.eval v).cells.toList).toArray) hS (.crow e (splice cs k c)) (ι id) (σ':=σ) (fun _ _ h=>h) (fun _ _ _=>rfl) (R.fit.row k5 fun k hk=>setRow_other _ _ _ _ hk) (by simp[AJ.len,hsl]) (fun _=>⟨rfl,rfl⟩) (CD _ _) (by simp)
    (fun k hk hne=>setRow_other _ _ _ _ (fun e=>hne (by rw[e];exact k1))) (fun g h=>.inl h) (fun hu=>.crow k1 k2 (setRow_heap w _ _ _ _ _ k3) (by rw[hsl];exact⟨kc.1,by simp[splice]at hlv ⊢;omega⟩) km (by rw[hsl];show An _ (List.take _ (splice vs.toList k (a.eval v).cells.toList)) _;rw[htk];exact(k4.splice rc k).mono fun _ _ x=>x.mono (fun _ _ h=>h) hu) k5)
   exact⟨undef,.any,_,σ,_,_,.inr ⟨rfl,by simp only[execOp,ho,g2,Sem.run_bind,hrun,Result.andThen_ok];rfl⟩,hK,R',.any⟩
  ·rename_i e wd xs hS;split at h
   ·rename_i c' x1 e3 e4;obtain⟨hm,hcn,hle,hK⟩:=h;rw[hS]at hb1;cases hb1;obtain⟨g,g1,g2⟩:=hb3 hm;simp only[AJ.wid]at g2;have rc':=R.stCs rc e3;have hlc':=rc'.len;have hb:=R.blk _ _ hS;cases hb with
    | mnil k1=>rw[k1]at g1;cases g1
    | @mrow _ _ _ g' vs k1 k2 k3 k4 k5 k6 k7 k8 k9 =>
    rw[k1]at g1;cases g1;have hx1m:=List.mem_of_getElem? e4;have hx1:=k7 x1 hx1m;have hk:=(List.getElem?_eq_some_iff.1 e4).1;have hkw:k*wd+wd≤xs.length*wd:=by
     have:(k+1)*wd≤xs.length*wd:=Nat.mul_le_mul_right _ hk
     rw[Nat.add_mul]at this;omega
    have hcap:xs.length*wd≤(ι id).cap*wd:=Nat.mul_le_mul_right _ k4;have hrun:=HE (P:=P) (off:=k*wd+off) (v:=a.eval v) hi k3 (by simp at hlc';omega) (by omega) (An.oneA rc);have hsl:(a.eval v).cells.toList.length=i.size:=by omega
    have hget:∀q,(splice vs.toList (k*wd+off) (a.eval v).cells.toList)[q]?=if k*wd+off≤q∧q<k*wd+off+i.size then(a.eval v).cells.toList[q-(k*wd+off)]? else vs.toList[q]?:=fun q=>by
     unfold splice;have ht:(vs.toList.take (k*wd+off)).length=k*wd+off:=by simp;omega
     by_cases h1:q<k*wd+off
     ·rw[if_neg (by omega),List.append_assoc,List.getElem?_append_left (by omega),List.getElem?_take,if_pos h1]
     ·by_cases h2:q<k*wd+off+i.size
      ·rw[if_pos ⟨by omega,h2⟩,List.append_assoc,List.getElem?_append_right (by omega),List.getElem?_append_left (by omega),ht]
      ·rw[if_neg (by omega),List.getElem?_append_right (by rw[List.length_append,ht,hsl];omega),List.getElem?_drop];congr 1;simp only[List.length_append,ht,hsl];omega
    obtain⟨hu,R'⟩:=R.turn (w':=w.setRow g (splice vs.toList (k*wd+off) (a.eval v).cells.toList).toArray) hS (.mrow e wd (xs.set k (splice x1 off c'))) (ι id) (σ':=σ) (fun _ _ h=>h) (fun _ _ _=>rfl) (R.fit.row k9 fun k hk=>setRow_other _ _ _ _ hk) (by simp[AJ.len]) (fun _=>⟨rfl,rfl⟩) (CD _ _) (by simp)
     (fun k hk hne=>setRow_other _ _ _ _ (fun e=>hne (by rw[e];exact k1))) (fun g h=>.inl h) (fun hu=>by
      have hspl:(splice x1 off c').length=wd:=by simp[splice];omega
      refine .mrow k1 k2 (setRow_heap w _ _ _ _ _ k3) (by simpa using k4) k5 (by rw[List.size_toArray,splice,List.length_append,List.length_append,List.length_drop,List.length_take,hsl,Array.length_toList];omega) (fun y hy=>?_) (fun k' y j z hy hz=>?_) k9
      ·rcases List.mem_or_eq_of_mem_set hy with hy|rfl
       ·exact k7 y hy
       ·exact hspl
      ·simp only[List.getElem?_toArray];rw[hget];by_cases hkk:k'=k
       ·subst hkk;rw[List.getElem?_set_self hk]at hy;cases hy;have hj:j<wd:=by rw[←hspl];exact(List.getElem?_eq_some_iff.1 hz).1
        unfold splice at hz;have ht:(x1.take off).length=off:=by simp;omega
        by_cases h1:j<off
        ·rw[if_neg (by omega)];rw[List.append_assoc,List.getElem?_append_left (by omega),List.getElem?_take,if_pos h1]at hz;simpa using k8 k' x1 j z e4 hz
        ·by_cases h2:j<off+i.size
         ·rw[if_pos ⟨by omega,by omega⟩];rw[List.append_assoc,List.getElem?_append_right (by omega),List.getElem?_append_left (by omega),ht]at hz;rw[show k'*wd+j-(k'*wd+off)=j-off by omega];exact rc'.get hz
         ·rw[if_neg (by omega)];rw[List.getElem?_append_right (by simp;omega),List.getElem?_drop]at hz;rw[show off+c'.length+(j-(List.take off x1++c').length)=j by simp;omega]at hz;simpa using k8 k' x1 j z e4 hz
       ·rw[List.getElem?_set_ne (fun e=>hkk e.symm)]at hy;have hk':=(List.getElem?_eq_some_iff.1 hy).1;have hj:j<wd:=by
         rw[←k7 y (List.mem_of_getElem? hy)];exact(List.getElem?_eq_some_iff.1 hz).1
        rw[if_neg]
        ·simpa using k8 k' y j z hy hz
        ·rintro⟨q1,q2⟩;rcases Nat.lt_or_gt_of_ne hkk with hl|hl
         ·have:(k'+1)*wd≤k*wd:=Nat.mul_le_mul_right _ hl
          rw[Nat.add_mul]at this;omega
         ·have:(k+1)*wd≤k'*wd:=Nat.mul_le_mul_right _ hl
          rw[Nat.add_mul]at this;omega)
    exact⟨undef,.any,_,σ,_,_,.inr ⟨rfl,by simp only[execOp,ho,g2,Sem.run_bind,hrun,Result.andThen_ok];rfl⟩,hK,R',.any⟩
   ·exact h.elim
  ·exact h.elim
 ·exact h.elim
end

section
variable {P:Program} {C:Ctx} {o:Oper} {a:Act} {w:World} {K:AV→AS→Prop} {σ:Sto} {ι:A6} {s:AS} {d:Nat} {S:AA}
theorem Ac.src(R:Ac C σ ι s a w){v:Value}{cy:AC}{ys:List (List SV)}{wd:Nat}(hv:At σ s.S ι v cy)(h:DQ s.S cy=some ys)(hw:∀y∈ys,y.length=wd)(hpos:0<wd) :
  ∃p cap news,v=.slice p ys.length cap∧news.length=ys.length*wd∧BV σ news wd ys∧(∀u∈news,u.oneCell'=true)∧(ys≠[]→∃b o,p=some ⟨b,o,none⟩∧∀j u,news[j]?=some u→w.cell? ⟨b,o+j,none⟩=some u):=by
 have stay:A8 σ v (.list ys)→∃p cap news,v=.slice p ys.length cap∧news.length=ys.length*wd∧BV σ news wd ys∧(∀u∈news,u.oneCell'=true)∧(ys≠[]→∃b o,p=some ⟨b,o,none⟩∧∀j u,news[j]?=some u→w.cell? ⟨b,o+j,none⟩=some u):=fun hr=>by
  obtain⟨p,cap,vs,h1,h2,h3,h4,h5,h6,h7,b,o,h8,h9⟩:=H6 hr hw hpos;exact⟨p,cap,vs,h1,h5,h6,h7,fun hne=>⟨b,o,h8 hne,fun j u hu=>R.fit _ _ (h9 j u hu)⟩⟩
 unfold DQ at h;split at h
 ·cases h;exact stay (CU hv)
 ·cases h;exact stay (D4 hv)
 ·rename_i id n;split at h
  ·rename_i e wd' xs hS;split at h
   ·rename_i hn;cases h;exact stay (R.row_srep hv hS hn)
   ·cases h
  ·rename_i e wd' xs hS;split at h
   ·rename_i hn;cases h;obtain⟨b,k1,k2,k3⟩:=C9 hv;rw[hS]at k1;cases k1;have hv':=k3 hn;have hb:=R.blk _ _ hS;cases hb with
    | mnil m1 m2=>exact⟨(ι id).p,(ι id).cap,[],by rw[hv',hn],by simp,BV.nil,by simp,fun h=>absurd rfl h⟩
    | @mrow _ _ _ g vs m1 m2 m3 m4 m5 m6 m7 m8 m9 =>
     by_cases h0:ys=[]
     ·subst h0;exact⟨(ι id).p,(ι id).cap,[],by rw[hv',hn],by simp,BV.nil,by simp,fun h=>absurd rfl h⟩
     ·have hwd:wd'=wd:=by
       obtain⟨y,hy⟩:=List.exists_mem_of_ne_nil _ h0;exact(m7 y hy).symm.trans (hw y hy)
      subst hwd;have hcap:ys.length*wd'≤(ι id).cap*wd':=Nat.mul_le_mul_right _ m4;refine⟨(ι id).p,(ι id).cap,vs.toList.take (ys.length*wd'),by rw[hv',hn],by simp;omega,⟨m7,fun k x j y hx hy=>?_⟩,fun u hu=>?_,fun _=>⟨g,0,m2,fun j u hu=>?_⟩⟩
      ·obtain⟨v,v1,v2⟩:=m8 k x j y hx hy;have hk:=(List.getElem?_eq_some_iff.1 hx).1;have hj:j<wd':=by
        rw[←m7 x (List.mem_of_getElem? hx)];exact(List.getElem?_eq_some_iff.1 hy).1
       have hlt:k*wd'+j<ys.length*wd':=by
        have:(k+1)*wd'≤ys.length*wd':=Nat.mul_le_mul_right _ hk
        rw[Nat.add_mul]at this;omega
       exact⟨v,by rw[List.getElem?_take,if_pos hlt];simpa using v1,v2⟩
      ·obtain⟨i,hi,rfl⟩:=List.getElem_of_mem hu;have hi':i<ys.length*wd':=by simp at hi;omega
       have hk:i / wd'<ys.length:=by rw[Nat.div_lt_iff_lt_mul hpos];exact hi'
       have hl:ys[i / wd'].length=wd':=m7 _ (List.getElem_mem hk);have hj:i % wd'<ys[i / wd'].length:=by rw[hl];exact Nat.mod_lt _ hpos
       obtain⟨v,v1,v2⟩:=m8 (i / wd') _ (i % wd') _ (List.getElem?_eq_getElem hk) (List.getElem?_eq_getElem hj);rw[Nat.mul_comm,Nat.div_add_mod]at v1;have e:(vs.toList.take (ys.length*wd'))[i]?=some v:=by rw[List.getElem?_take,if_pos hi'];simpa using v1
       rw[List.getElem?_eq_getElem hi]at e;cases e;exact v2.one
      ·rw[List.getElem?_take]at hu;split at hu
       ·rw[Nat.zero_add,cell_of_row w g _ _ _ _ m3];simpa using hu
       ·cases hu
   ·cases h
  ·cases h
 ·cases h
theorem Ps{t ty e:TypeId}{i:TypeInfo}{z:Value}(ht:P.underlying t=some (.slice e))(hi:P.info? e=some i)(hz:i.zero=some z)(hzs:z.cells.size=i.size){p:Option Addr}{n cap:Nat}{olds:List Value}(hlo:olds.length=n*i.size)(hpn:p=none→cap=0)(hnc:n≤cap)
  (hold:n≠0→∃b o,p=some ⟨b,o,none⟩∧∀j u,olds[j]?=some u→w.cell? ⟨b,o+j,none⟩=some u) {q:Option Addr} {m c:Nat} {news:List Value} (hl:news.length=m*i.size) (hm:0<m) (hq:∃b o,q=some ⟨b,o,none⟩∧∀j u,news[j]?=some u→w.cell? ⟨b,o+j,none⟩=some u)
  (hg:cap<n+m) (h63:n+m≤maxLen) (hbytes:(n+m)*i.bytes≤140737488355328) :
  ∃(c':Nat) (rest:Array Value),(Builtin.append_ #[t,t] ty #[.slice p n cap,.slice q m c]).run P w=.ok (.slice (some ⟨w.heap.size,0,none⟩) (n+m) c') (w.drew.alloc (.cells (olds.toArray++news.toArray++rest) e))∧n+m≤c'∧c'≤maxLen∧rest.size=(c'-(n+m))*i.size:=by
 have hsmall:n+m≤9223372036854775807:=by simp only[maxLen]at h63;omega
 obtain⟨b',o',rfl,hq⟩:=hq;refine⟨grownCap w (n+m) cap e,Builtin.zeroCells z.cells (grownCap w (n+m) cap e-(n+m)),?_,grownCap_ge _ _ _ _,grownCap_le_maxLen _ _ _ _ h63,by rw[size_zeroCells,hzs]⟩;cases p with
 | none =>
  have hc:=hpn rfl;subst hc;obtain rfl:n=0:=by omega
  have ho:olds=[]:=List.eq_nil_of_length_eq_zero (by simpa using hlo);subst ho;have hr:=run_append_nil (P:=P) w t ty e i z ht hi hz ⟨b',o',none⟩ m c news hl (fun j u hu=>by rw[B6];exact hq j u hu) hm (by omega) (by simp only[Nat.zero_add]at hbytes;omega);rw[hr];simp
 | some ad =>
  have hr:=run_append_grow (P:=P) w t ty e i z ht hi hz ad n cap olds hlo (fun j u hu=>by
   by_cases h0:n=0
   ·subst h0;have ho:olds=[]:=List.eq_nil_of_length_eq_zero (by simpa using hlo);subst ho;simp at hu
   ·obtain⟨b,o,hb,hc⟩:=hold h0;cases hb;rw[B6];exact hc j u hu) ⟨b',o',none⟩ m c news hl (fun j u hu=>by rw[B6];exact hq j u hu) hg (by omega) (growslice_fits hg hbytes)
  exact hr
theorem DN{t ty e:TypeId}{i:TypeInfo}(ht:P.underlying t=some (.slice e))(hi:P.info? e=some i){p:Option Addr}{n cap:Nat}(hnc:n≤cap)(q:Option Addr)(c:Nat) :
  (Builtin.append_ #[t,t] ty #[.slice p n cap,.slice q 0 c]).run P w=.ok (.slice p n cap) w:=by
 cases q <;> cases p <;> simp[Builtin.append_,run_underlying ht,sizeOf,typeInfo,hi,Builtin.lenOf,Builtin.firstCells,hnc,loadCells,loadCellsFrom,storeCells]
theorem DH{vs:List Value}{wd:Nat}{xs:List (List SV)}(h:BV σ vs wd xs){A:Array Value}(hA:∀(j:Nat) (v:Value),vs[j]?=some v→A[j]?=some v):∀k x j y,xs[k]?=some x→x[j]?=some y→∃v,A[k*wd+j]?=some v∧A8 σ v y:=fun k x j y hx hy=>by
 obtain⟨v,v1,v2⟩:=h.2 k x j y hx hy;exact⟨v,hA _ _ v1,v2⟩
theorem MN{S':AA}{ι':A6}{w':World}{g q cap wd:Nat}{e:TypeId}{vs:Array Value}{xs:List (List SV)}{p:Option Addr}(hp:p=some ⟨g,q,none⟩)(hw:w'.heap[g]?=some (.cells vs e (0,0)))(hn:xs.length≤cap)(hc:cap≤maxLen)(hsz:vs.size=q+cap*wd){σ1:Sto}
  (hl:BV σ1 (vs.toList.drop q) wd xs) (hs:∀p x,σ1 p=some x→Es σ w' g (q+xs.length*wd) p=some x) (hfree:∀p:Addr,p.block=g→σ p≠none→p.off<q+xs.length*wd):CA (Es σ w' g (q+xs.length*wd)) S' ι' w' ⟨p,cap,some g⟩ (.arow e wd xs):=by
 refine .arow rfl hp hw hn hc hsz hl.1 (fun k x j y hx hy=>?_) (fun p hp hne=>?_) (fun _ q2 q3=>by rw[Hr (by have:=Nat.mul_pos (List.length_pos_iff.2 q3) (show 0<wd by omega);omega),Fo hw])
 ·obtain⟨v,v1,v2⟩:=hl.2 k x j y hx hy;have hk:=(List.getElem?_eq_some_iff.1 hx).1;have hj:j<wd:=by
   rw[←hl.1 x (List.mem_of_getElem? hx)];exact(List.getElem?_eq_some_iff.1 hy).1
  have hlt:q+(k*wd+j)<q+xs.length*wd:=by
   have:(k+1)*wd≤xs.length*wd:=Nat.mul_le_mul_right _ hk
   rw[Nat.add_mul]at this;omega
  rw[List.getElem?_drop]at v1;refine⟨v,by simpa using v1,v2.mono hs,?_⟩;rw[L7 hlt,cell_of_row w' g _ _ _ _ hw];simpa using v1
 ·unfold Es at hne;split at hne
  ·rename_i h;exact h.2.2
  ·exact hfree p hp hne
theorem KP{S':AA}{ι':A6}{w':World}{g cap wd:Nat}{e:TypeId}{vs:Array Value}{xs:List (List SV)}{p:Option Addr}(hp:p=some ⟨g,0,none⟩)(hw:w'.heap[g]?=some (.cells vs e (0,0)))(hn:xs.length≤cap)(hc:cap≤maxLen)(hsz:vs.size=cap*wd){σ1:Sto}
  (hl:BV σ1 vs.toList wd xs) (hs:∀p x,σ1 p=some x→Es σ w' g (xs.length*wd) p=some x) (hfree:∀p:Addr,p.block=g→σ p≠none→p.off<xs.length*wd):CA (Es σ w' g (xs.length*wd)) S' ι' w' ⟨p,cap,some g⟩ (.arow e wd xs):=by
 have:=MN (S':=S') (ι':=ι') (q:=0) hp hw hn hc (by omega) (σ1:=σ1) hl (by simpa using hs) (by simpa using hfree);simpa using this
theorem Kj(t ty e:TypeId)(i:TypeInfo)(ht:P.underlying t=some (.slice e))(hi:P.info? e=some i)
  (g q sLen sCap:Nat) (cur:Array Value) (hg:w.heap[g]?=some (.cells cur e (0,0)))
  (a:Addr) (m c:Nat) (news:List Value) (hl:news.length=m*i.size) (hnews:∀j u,news[j]?=some u→w.cell? (a.add j)=some u) (h1:∀u∈news,u.oneCell'=true)
  (hroom:sLen+m≤sCap) (hfit:q+sLen*i.size+news.length≤cur.size) :
  (Builtin.append_ #[t,t] ty #[.slice (some ⟨g,q,none⟩) sLen sCap,.slice (some a) m c]).run P w =
   .ok (.slice (some ⟨g,q,none⟩) (sLen+m) sCap) (w.setRow g (cur.toList.take (q+sLen*i.size)++news++cur.toList.drop (q+sLen*i.size+news.length)).toArray):=by
 have hf:=run_firstCells_some (P:=P) w i.size m a m c news hl hnews;have hst:=run_storeCells_at P g (q+sLen*i.size) e news 0 cur w hg (by simpa using hfit) h1;simp only[Nat.add_zero]at hst;simp[Builtin.append_,run_underlying ht,sizeOf,typeInfo,hi,Builtin.lenOf,hroom,hf,Addr.add_lit,hst]
theorem Ty{t e:TypeId}{i:TypeInfo}{z:Value}{x y:Operand}{x' y':Opd}{mu:Bool}(ho:o.op=.call { callee:=.builtin .append,args:=#[x,y],argTypes:=#[t,t] })(hx:AR C.n x=some x')(hy:AR C.n y=some y')
  (ht:P.underlying t=some (.slice e)) (hi:P.info? e=some i) (hz:i.zero=some z) (hzs:z.cells.size=i.size) (hpos:0<i.size) (R:Ac C σ ι s a w) (h:Kd.go P d s K (.append mu e i.size i.bytes x' y')):BQ P C o a w K:=by
 have rx:=R.ev hx;have ry:=R.ev hy;have hex:∀v w',(Builtin.append_ #[t,t] o.type #[a.eval x,a.eval y]).run P w=.ok v w'→(execOp a.eval o).run P w=.ok (.value v) w':=fun v w' hr=>by
  simp only[execOp,ho,resolve,invoke,builtin,Sem.run_bind,Sem.run_pure,Result.andThen_ok,List.map_toArray,List.map_cons,List.map_nil,hr]
 simp only[Kd.go]at h;split at h
 ·rename_i cx cy e1 e2;rw[e1]at rx;rw[e2]at ry;replace rx:=Ad rx;replace ry:=Ad ry;split at h
  ·rename_i ys hys;obtain⟨hyw,h⟩:=h;obtain⟨q,c,news,hvy,hnl,hnlaid,hn1,hncell⟩:=R.src ry hys hyw hpos;have fresh:∀(p:Option Addr) (xs:List (List SV)) (cap:Nat) (olds:List Value),a.eval x=.slice p xs.length cap→olds.length=xs.length*i.size→(p=none→cap=0)→xs.length≤cap→(xs.length≠0→∃b o,p=some ⟨b,o,none⟩∧∀j u,olds[j]?=some u→w.cell? ⟨b,o+j,none⟩=some u)→BV σ olds i.size xs→ys≠[]→cap<xs.length+ys.length →
     xs.length+ys.length≤maxLen→(xs.length+ys.length)*i.bytes≤140737488355328 →
     ∃c' A,(execOp a.eval o).run P w=.ok (.value (.slice (some ⟨w.heap.size,0,none⟩) (xs++ys).length c')) (w.drew.alloc (.cells A e))∧(xs++ys).length≤c'∧c'≤maxLen∧A.size=c'*i.size∧BV σ A.toList i.size (xs++ys) :=
    fun p xs cap olds hv hol hpn hnc hold hlaid hne hg h63 hby=>by
     have hm:0<ys.length:=List.length_pos_iff.2 hne;obtain⟨b,oo,hq,hq2⟩:=hncell hne;obtain⟨c',rest,r1,r2,r3,r4⟩:=Ps (P:=P) (ty:=o.type) (w:=w) ht hi hz hzs hol hpn hnc hold (q:=q) (m:=ys.length) (c:=c) hnl hm ⟨b,oo,hq,hq2⟩ hg h63 hby
     refine⟨c',_,hex _ _ (by rw[hv,hvy,r1,List.length_append]),by simpa using r2,r3,?_,?_⟩
     ·simp only[Array.size_append,List.size_toArray,hol,hnl,r4,←Nat.add_mul];congr 1;omega
     ·have:=(hlaid.append hnlaid hol).more rest.toList;simpa using this
   split at h
   ·-- nothing owned yet
    rename_i xs;obtain⟨hid,hnil,hxw,h63,hby,hK⟩:=h;have hr:=D4 rx;obtain⟨p,cap,olds,k1,k2,k3,k4,k5,k6,k7,b,oo,k8,k9⟩:=H6 hr hxw hpos;have hcap:cap=xs.length:=by
     generalize a.eval x=v at rx k1;subst k1;cases rx with|full _=>rfl
    by_cases hne:ys=[]
    ·subst hne;subst hcap;have hrun:=hex _ _ (by rw[k1,hvy];exact DN (P:=P) (w:=w) (ty:=o.type) ht hi (p:=p) (n:=xs.length) (cap:=xs.length) (Nat.le_refl _) q c);cases mu with
     | true =>
      have hxs:=hnil rfl rfl;subst hxs;simp only[if_true]at hK;obtain⟨hu,R'⟩:=R.fresh (w':=w) hid (.mrow e i.size ([]++[])) ⟨p,0,none⟩ (Ext.refl _ _) R.fit (Below.refl _ _) (by simp) (fun S' ι' hu=>.mnil rfl rfl);exact⟨_,_,_,σ,_,w,.inl hrun,hK,R',.one (.row (b:=.mrow e i.size ([]++[])) (by simp[AS.set,AG]) (Nat.le_refl _) rfl fun _=>by simp[AG])⟩
     | false =>
      simp only[Bool.false_eq_true,if_false,List.append_nil]at hK;rw[k1]at hr;obtain⟨hu,R'⟩:=R.fresh (w':=w) hid (.arow e i.size xs) ⟨p,xs.length,none⟩ (Ext.refl _ _) R.fit (Below.refl _ _) (by simp) (fun S' ι' hu=>.afull rfl rfl hxw hr);exact⟨_,_,_,σ,_,w,.inl hrun,hK,R',.one (.row (b:=.arow e i.size xs) (by simp[AS.set,AG]) (Nat.le_refl _) rfl fun _=>by simp[AG])⟩
    ·have hm:0<ys.length:=List.length_pos_iff.2 hne;obtain⟨c',A,r1,r2,r3,r4,r5⟩:=fresh p xs cap olds k1 k5 k4 k2 (fun h0=>⟨b,oo,k8 (by intro e;subst e;simp at h0),fun j u hu=>R.fit _ _ (k9 j u hu)⟩) k6 hne (by omega) h63 hby
     have hheap:(w.drew.alloc (.cells A e)).heap[w.heap.size]?=some (.cells A e (0,0)):=heap_alloc_new w.drew _;have hmore:E1 w (w.drew.alloc (.cells A e)):=(Below.refl _ _).drew.alloc (Nat.le_refl _) _;cases mu with
     | true =>
      simp only[if_true]at hK;obtain⟨hu,R'⟩:=R.fresh (w':=w.drew.alloc (.cells A e)) hid (.mrow e i.size (xs++ys)) ⟨some ⟨w.heap.size,0,none⟩,c',some w.heap.size⟩ (Ext.refl _ _) (R.fit.below hmore) hmore (by simp) (fun S' ι' hu=>.mrow rfl rfl hheap r2 r3 r4 r5.1 (DH r5 fun j v hv=>by simpa using hv) (fun p hp=>R.fit.no (by omega)));exact⟨_,_,_,σ,_,_,.inl r1,hK,R',.one (.row (b:=.mrow e i.size (xs++ys)) (by simp[AS.set,AG]) (Nat.le_refl _) rfl fun _=>by simp[AG])⟩
     | false =>
      simp only[Bool.false_eq_true,if_false]at hK;obtain⟨hu,R'⟩:=R.fresh (w':=w.drew.alloc (.cells A e)) hid (.arow e i.size (xs++ys)) ⟨some ⟨w.heap.size,0,none⟩,c',some w.heap.size⟩ (Ext.lay (k:=(xs++ys).length*i.size) R.fit (Nat.le_refl _)) (Eo (R.fit.below hmore)) hmore (by simp)
       (fun S' ι' hu=>KP rfl hheap r2 r3 r4 r5 (Ext.lay R.fit (Nat.le_refl _)).keep (fun p hp hne=>absurd (R.fit.no (by omega)) hne))
      exact⟨_,_,_,_,_,_,.inl r1,hK,R',.one (.row (b:=.arow e i.size (xs++ys)) (by simp[AS.set,AG]) (Nat.le_refl _) rfl fun _=>by simp[AG])⟩
   ·rename_i id m;obtain⟨b,hb1,hb2,hb3⟩:=C9 rx;split at h
    ·-- a row that only grows
     rename_i e' wd' xs hS;obtain⟨⟨rfl,rfl,rfl⟩,h63,hby,hK⟩:=h;rw[hS]at hb1;cases hb1;have hv:=hb3 rfl;have hb:=R.blk _ _ hS;by_cases hne:ys=[]
     ·subst hne;have hnc:xs.length≤(ι id).cap:=by cases hb <;> first|exact Nat.zero_le _|assumption|omega
      have hrun:=hex _ _ (by rw[hv,hvy];exact DN (P:=P) (w:=w) (ty:=o.type) ht hi (p:=(ι id).p) hnc q c);have hset:s.set id (.arow e' i.size (xs++[]))=s:=by
       rw[List.append_nil];obtain⟨env,S⟩:=s;simp only[AS.set,AS.mk.injEq,true_and];funext k;unfold AI;split
       ·rename_i hk;subst hk;exact hS.symm
       ·rfl
      rw[hset]at hK;refine⟨_,_,s,σ,ι,w,.inl hrun,hK,R,?_⟩;rw[List.append_nil];exact .one (.row hS (Nat.le_refl _) rfl fun _=>rfl)
     ·have hm:0<ys.length:=List.length_pos_iff.2 hne;have grow:∀(olds:List Value),olds.length=xs.length*i.size→((ι id).p=none→(ι id).cap=0)→xs.length≤(ι id).cap→(xs.length≠0→∃b o,(ι id).p=some ⟨b,o,none⟩∧∀j u,olds[j]?=some u→w.cell? ⟨b,o+j,none⟩=some u)→BV σ olds i.size xs→(ι id).cap<xs.length+ys.length→BQ P C o a w K:=fun olds ho1 ho2 ho3 ho4 ho5 ho6=>by
       obtain⟨c',A,r1,r2,r3,r4,r5⟩:=fresh _ xs _ olds hv ho1 ho2 ho3 ho4 ho5 hne ho6 h63 hby
       have hheap:(w.drew.alloc (.cells A e')).heap[w.heap.size]?=some (.cells A e' (0,0)):=heap_alloc_new w.drew _;have hmore:E1 w (w.drew.alloc (.cells A e')):=(Below.refl _ _).drew.alloc (Nat.le_refl _) _;obtain⟨hu,R'⟩:=R.turn (w':=w.drew.alloc (.cells A e')) hS (.arow e' i.size (xs++ys)) ⟨some ⟨w.heap.size,0,none⟩,c',some w.heap.size⟩ (σ':=Es σ (w.drew.alloc (.cells A e')) w.heap.size ((xs++ys).length*i.size)) (Ext.lay R.fit (Nat.le_refl _)).keep
        (fun p hp hlt=>Fk (by omega)) (Eo (R.fit.below hmore)) (by simp[AJ.len]) (fun he=>absurd (by simpa[AJ.len]using he) hne) ⟨rfl,rfl,rfl⟩ hmore.size (fun g hg _=>hmore.block g hg) (fun g hg=>.inr (by simp at hg;omega))
        (fun hu=>KP rfl hheap r2 r3 r4 r5 (Ext.lay R.fit (Nat.le_refl _)).keep (fun p hp hne=>absurd (R.fit.no (by omega)) hne))
       exact⟨_,_,_,_,_,_,.inl r1,hK,R',.one (.row (b:=.arow e' i.size (xs++ys)) (by simp[AS.set,AG]) (Nat.le_refl _) rfl fun _=>by simp[AG])⟩
      cases hb with
      | afull k1 k2 k3 k4 =>
       obtain⟨p,cap,olds,j1,j2,j3,j4,j5,j6,j7,b,oo,j8,j9⟩:=H6 k4 k3 hpos;simp only[Value.slice.injEq]at j1;obtain⟨rfl,-,rfl⟩:=j1;exact grow olds j5 j4 j2 (fun h0=>⟨b,oo,j8 (by intro e;subst e;simp at h0),fun j u hu=>R.fit _ _ (j9 j u hu)⟩) j6 (by omega)
      | @arow _ _ _ g vs q0 k1 k2 k3 k4 k5 k6 k7 k8 k9 kh =>
       have hlaid:BV σ ((vs.toList.drop q0).take (xs.length*i.size)) i.size xs:=⟨k7,fun k x j y hx hy=>by
        obtain⟨v,v1,v2,v3⟩:=k8 k x j y hx hy;have hlt:=k9 _ rfl (by rw[v3];simp);exact⟨v,by rw[List.getElem?_take,if_pos (by simp only at hlt;omega),List.getElem?_drop];simpa using v1,v2⟩⟩
       have hcapw:xs.length*i.size≤(ι id).cap*i.size:=Nat.mul_le_mul_right _ k4;have htl:((vs.toList.drop q0).take (xs.length*i.size)).length=xs.length*i.size:=by simp;omega
       have htl2:(vs.toList.take (q0+xs.length*i.size)).length=q0+xs.length*i.size:=by simp;omega
       by_cases hroom:xs.length+ys.length≤(ι id).cap
       ·have hcapw2:(xs.length+ys.length)*i.size≤(ι id).cap*i.size:=Nat.mul_le_mul_right _ hroom;rw[Nat.add_mul]at hcapw2;obtain⟨bq,oq,hq,hq2⟩:=hncell hne;have hr:=Kj (P:=P) (w:=w) t o.type e' i ht hi g q0 xs.length (ι id).cap vs k3 ⟨bq,oq,none⟩ ys.length c news hnl (fun j u hu=>by rw[B6];exact hq2 j u hu) hn1 hroom (by omega);have hrun:=hex _ _ (by rw[hv,hvy,k2,hq];exact hr);generalize hA:(vs.toList.take (q0+xs.length*i.size)++news++vs.toList.drop (q0+xs.length*i.size+news.length)).toArray=A at hrun;have hAl:A.toList=vs.toList.take (q0+xs.length*i.size)++news++vs.toList.drop (q0+xs.length*i.size+news.length):=by rw[←hA]
        have hAs:A.size=q0+(ι id).cap*i.size:=by
         rw[←hA];simp only[List.size_toArray,List.length_append,htl2,List.length_drop,Array.length_toList];omega
        have hheap:(w.setRow g A).heap[g]?=some (.cells A e' (0,0)):=setRow_heap w _ _ _ _ _ k3;have hl:BV σ (A.toList.drop q0) i.size (xs++ys):=by
         rw[hAl,List.append_assoc,List.drop_append_of_le_length (by omega),List.drop_take,Nat.add_sub_cancel_left,←List.append_assoc];exact(hlaid.append hnlaid htl).more _
        have hkeepc:∀j u,σ ⟨g,j,none⟩=some u→(w.setRow g A).cell? ⟨g,j,none⟩=some u:=fun j u hu=>by
         have hlt:=k9 ⟨g,j,none⟩ rfl (by rw[hu];simp);have h1:=R.fit _ _ hu;rw[Ej rfl]at h1;rw[cell_of_row w g _ _ _ _ k3]at h1;rw[cell_of_row _ g _ _ _ _ hheap];have:A.toList[j]?=some u:=by
          rw[hAl,List.append_assoc,List.getElem?_append_left (by rw[htl2];exact hlt),List.getElem?_take,if_pos hlt];simpa using h1
         simpa using this
        have hkeepg:∀(p:Addr) (u:Value),p.block=g→σ p=some u→Dq (w.setRow g A) p=some u:=fun p u hb hp=>by
         obtain⟨pb,po,ps⟩:=p;have hb':pb=g:=hb;clear hb;rw[hb']at hp ⊢;match ps,hp with
         | none,hp=>rw[Ej rfl];exact hkeepc _ _ hp
         | some 0,hp =>
          exfalso;have h1:=R.fit _ _ hp;have h2:=k9 ⟨g,po,some 0⟩ rfl (by rw[hp];simp);unfold Dq at h1;simp only[k3]at h1;split at h1
          ·have h3:xs.length*i.size≤(ι id).cap*i.size:=Nat.mul_le_mul_right _ (by assumption);have h4:vs.size=q0+(ι id).cap*i.size:=by assumption
           simp only at h2;omega
          ·cases h1
         | some (n+1),hp =>
          obtain⟨_,_,_,rfl⟩:=LT (R.fit _ _ hp);exact Fo hheap
        have hfit0:Fit σ (w.setRow g A):=fun p u hp=>by
         by_cases hb:p.block=g
         ·exact hkeepg p u hb hp
         ·exact(EG (setRow_other _ _ _ _ hb)).trans (R.fit _ _ hp)
        have hkeep:=Fz (w':=w.setRow g A) (g:=g) (k:=q0+(xs++ys).length*i.size) hkeepg;obtain⟨hu,R'⟩:=R.turn (w':=w.setRow g A) hS (.arow e' i.size (xs++ys)) ⟨(ι id).p,(ι id).cap,some g⟩ (σ':=Es σ (w.setRow g A) g (q0+(xs++ys).length*i.size)) hkeep
         (fun p hp _=>Fk (fun e=>hp (by rw[e];exact k1))) (Eo hfit0) (by simp[AJ.len]) (fun he=>absurd (by simpa[AJ.len]using he) hne) (CD _ _) (by simp) (fun k hk hne=>setRow_other _ _ _ _ (fun e=>hne (by rw[e];exact k1))) (fun g' hg'=>.inl (by simp at hg';subst hg';exact k1))
         (fun hu=>MN k2 hheap (by simpa using hroom) k5 hAs hl hkeep (fun p hp hne=>by have:=k9 p hp hne;simp[Nat.add_mul];omega))
        exact⟨_,_,_,_,_,_,.inl hrun,hK,R',.one (.row (b:=.arow e' i.size (xs++ys)) (by simp[AS.set,AG]) (Nat.le_refl _) rfl fun _=>by simp[AG,k2])⟩
       ·exact grow _ htl (by rw[k2];simp) k4 (fun _=>⟨g,q0,k2,fun j u hu=>by
         rw[List.getElem?_take]at hu;split at hu
         ·rw[List.getElem?_drop]at hu;rw[cell_of_row w g _ _ _ _ k3];simpa using hu
         ·cases hu⟩) hlaid (by omega)
    ·-- a row that is written
     rename_i e' wd' xs hS;obtain⟨⟨rfl,rfl,rfl⟩,h63,hby,hK⟩:=h;rw[hS]at hb1;cases hb1;have hv:=hb3 rfl;have hb:=R.blk _ _ hS;by_cases hne:ys=[]
     ·subst hne;have hnc:xs.length≤(ι id).cap:=by cases hb <;> first|exact Nat.zero_le _|assumption|omega
      have hrun:=hex _ _ (by rw[hv,hvy];exact DN (P:=P) (w:=w) (ty:=o.type) ht hi (p:=(ι id).p) hnc q c);have hset:s.set id (.mrow e' i.size (xs++[]))=s:=by
       rw[List.append_nil];obtain⟨env,S⟩:=s;simp only[AS.set,AS.mk.injEq,true_and];funext k;unfold AI;split
       ·rename_i hk;subst hk;exact hS.symm
       ·rfl
      rw[hset]at hK;refine⟨_,_,s,σ,ι,w,.inl hrun,hK,R,?_⟩;rw[List.append_nil];exact .one (.row hS (Nat.le_refl _) rfl fun _=>rfl)
     ·have hm:0<ys.length:=List.length_pos_iff.2 hne;have grow:∀(olds:List Value),olds.length=xs.length*i.size→((ι id).p=none→(ι id).cap=0)→xs.length≤(ι id).cap→(xs.length≠0→∃b o,(ι id).p=some ⟨b,o,none⟩∧∀j u,olds[j]?=some u→w.cell? ⟨b,o+j,none⟩=some u)→BV σ olds i.size xs→(ι id).cap<xs.length+ys.length→BQ P C o a w K:=fun olds ho1 ho2 ho3 ho4 ho5 ho6=>by
       obtain⟨c',A,r1,r2,r3,r4,r5⟩:=fresh _ xs _ olds hv ho1 ho2 ho3 ho4 ho5 hne ho6 h63 hby
       have hheap:(w.drew.alloc (.cells A e')).heap[w.heap.size]?=some (.cells A e' (0,0)):=heap_alloc_new w.drew _;have hmore:E1 w (w.drew.alloc (.cells A e')):=(Below.refl _ _).drew.alloc (Nat.le_refl _) _;obtain⟨hu,R'⟩:=R.turn (w':=w.drew.alloc (.cells A e')) hS (.mrow e' i.size (xs++ys)) ⟨some ⟨w.heap.size,0,none⟩,c',some w.heap.size⟩ (σ':=σ) (fun _ _ h=>h)
        (fun _ _ _=>rfl) (R.fit.below hmore) (by simp[AJ.len]) (fun he=>absurd (by simpa[AJ.len]using he) hne) ⟨rfl,rfl,rfl⟩ hmore.size (fun g hg _=>hmore.block g hg) (fun g hg=>.inr (by simp at hg;omega))
        (fun hu=>.mrow rfl rfl hheap r2 r3 r4 r5.1 (DH r5 fun j v hv=>by simpa using hv) (fun p hp=>R.fit.no (by omega)))
       exact⟨_,_,_,_,_,_,.inl r1,hK,R',.one (.row (b:=.mrow e' i.size (xs++ys)) (by simp[AS.set,AG]) (Nat.le_refl _) rfl fun _=>by simp[AG])⟩
      cases hb with
      | mnil k1 k2=>exact grow [] (by simp) (fun _=>k2) (Nat.zero_le _) (by simp) BV.nil (by rw[k2];simpa using hm)
      | @mrow _ _ _ g vs k1 k2 k3 k4 k5 k6 k7 k8 k9 =>
       have hlaid:BV σ (vs.toList.take (xs.length*i.size)) i.size xs:=⟨k7,fun k x j y hx hy=>by
        obtain⟨v,v1,v2⟩:=k8 k x j y hx hy;have hk:=(List.getElem?_eq_some_iff.1 hx).1;have hj:j<i.size:=by
         rw[←k7 x (List.mem_of_getElem? hx)];exact(List.getElem?_eq_some_iff.1 hy).1
        have hlt:k*i.size+j<xs.length*i.size:=by
         have:(k+1)*i.size≤xs.length*i.size:=Nat.mul_le_mul_right _ hk
         rw[Nat.add_mul]at this;omega
        exact⟨v,by rw[List.getElem?_take,if_pos hlt];simpa using v1,v2⟩⟩
       have hcapw:xs.length*i.size≤(ι id).cap*i.size:=Nat.mul_le_mul_right _ k4;have htl:(vs.toList.take (xs.length*i.size)).length=xs.length*i.size:=by simp;omega
       by_cases hroom:xs.length+ys.length≤(ι id).cap
       ·have hcapw2:(xs.length+ys.length)*i.size≤(ι id).cap*i.size:=Nat.mul_le_mul_right _ hroom;rw[Nat.add_mul]at hcapw2;obtain⟨bq,oq,hq,hq2⟩:=hncell hne;have hr:=run_append_room (P:=P) w t o.type e' i ht hi g xs.length (ι id).cap vs k3 ⟨bq,oq,none⟩ ys.length c news hnl (fun j u hu=>by rw[B6];exact hq2 j u hu) hn1 hroom (by omega);have hrun:=hex _ _ (by rw[hv,hvy,k2,hq];exact hr);generalize hA:(vs.toList.take (xs.length*i.size)++news++vs.toList.drop (xs.length*i.size+news.length)).toArray=A at hrun;have hAl:A.toList=vs.toList.take (xs.length*i.size)++news++vs.toList.drop (xs.length*i.size+news.length):=by rw[←hA]
        have hAs:A.size=(ι id).cap*i.size:=by
         rw[←hA];simp only[List.size_toArray,List.length_append,htl,List.length_drop,Array.length_toList];omega
        have hheap:(w.setRow g A).heap[g]?=some (.cells A e' (0,0)):=setRow_heap w _ _ _ _ _ k3;have hl:BV σ A.toList i.size (xs++ys):=by
         rw[hAl];exact(hlaid.append hnlaid htl).more _
        obtain⟨hu,R'⟩:=R.turn (w':=w.setRow g A) hS (.mrow e' i.size (xs++ys)) ⟨(ι id).p,(ι id).cap,some g⟩ (σ':=σ) (fun _ _ h=>h)
         (fun _ _ _=>rfl) (R.fit.row k9 fun k hk=>setRow_other _ _ _ _ hk) (by simp[AJ.len]) (fun he=>absurd (by simpa[AJ.len]using he) hne) (CD _ _) (by simp) (fun k hk hne=>setRow_other _ _ _ _ (fun e=>hne (by rw[e];exact k1))) (fun g' hg'=>.inl (by simp at hg';subst hg';exact k1))
         (fun hu=>.mrow rfl k2 hheap (by simpa using hroom) k5 hAs hl.1 (DH hl fun j v hv=>by simpa using hv) k9)
        exact⟨_,_,_,_,_,_,.inl hrun,hK,R',.one (.row (b:=.mrow e' i.size (xs++ys)) (by simp[AS.set,AG]) (Nat.le_refl _) rfl fun _=>by simp[AG,k2])⟩
       ·exact grow _ htl (by rw[k2];simp) k4 (fun _=>⟨g,0,k2,fun j u hu=>by
         rw[List.getElem?_take]at hu;split at hu
         ·rw[Nat.zero_add,cell_of_row w g _ _ _ _ k3];simpa using hu
         ·cases hu⟩) hlaid (by omega)
    ·exact h.elim
   ·exact h.elim
  ·exact h.elim
 ·exact h.elim
theorem Hp{vs:List Value}{wd:Nat}{xs:List (List SV)}(h:BV σ vs wd xs)(k:Nat):BV σ (vs.take (k*wd)) wd (xs.take k):=by
 refine⟨fun x hx=>h.1 x (List.mem_of_mem_take hx),fun kk x j y hx hy=>?_⟩;rw[List.getElem?_take]at hx;split at hx
 ·rename_i hlt;obtain⟨v,v1,v2⟩:=h.2 kk x j y hx hy;have hj:j<wd:=by
   rw[←h.1 x (List.mem_of_getElem? hx)];exact(List.getElem?_eq_some_iff.1 hy).1
  have hlt2:kk*wd+j<k*wd:=by
   have:(kk+1)*wd≤k*wd:=Nat.mul_le_mul_right _ hlt
   rw[Nat.add_mul]at this;omega
  exact⟨v,by rw[List.getElem?_take,if_pos hlt2];exact v1,v2⟩
 ·cases hx
theorem KN{vs:List Value}{wd:Nat}{xs:List (List SV)}(h:BV σ vs wd xs)(k:Nat):BV σ (vs.drop (k*wd)) wd (xs.drop k):=by
 refine⟨fun x hx=>h.1 x (List.mem_of_mem_drop hx),fun kk x j y hx hy=>?_⟩;rw[List.getElem?_drop]at hx;obtain⟨v,v1,v2⟩:=h.2 _ x j y hx hy;refine⟨v,?_,v2⟩;rw[List.getElem?_drop,←v1];congr 1;rw[Nat.add_mul];omega
theorem N4(b:ByteArray):BV σ (Lib.strCells b) 1 (BT b):=by
 refine⟨fun x hx=>?_,fun k x j y hx hy=>?_⟩
 ·unfold BT at hx;obtain⟨c,_,rfl⟩:=List.mem_map.1 hx;rfl
 ·unfold BT at hx;rw[List.getElem?_map,Option.map_eq_some_iff]at hx;obtain⟨c,hc,rfl⟩:=hx;cases j with
  | succ j=>simp at hy
  | zero =>
   simp only[List.getElem?_cons_zero,Option.some.injEq]at hy;subst hy;refine⟨.int .u8 (c.toNat:Int),?_,.int ?_⟩
   ·unfold Lib.strCells;rw[Nat.mul_one,Nat.add_zero,List.getElem?_map,hc];rfl
   ·have:=c.toNat_lt;simp only[inR,IntKind.min,IntKind.max,IntKind.signed,IntKind.bits];constructor <;> simp <;> omega
theorem IL{t u ty e:TypeId}{i:TypeInfo}(ht:P.underlying t=some (.slice e))(hu:P.underlying u=some .string)(hi:P.info? e=some i){p:Option Addr}{n cap:Nat}(hnc:n≤cap){b:ByteArray}(hb:b.size=0) :
  (Builtin.append_ #[t,u] ty #[.slice p n cap,.string b]).run P w=.ok (.slice p n cap) w:=by
 have hbd:b.data=#[]:=Array.eq_empty_of_size_eq_zero hb;cases p <;> simp[Builtin.append_,run_underlying ht,run_underlying hu,sizeOf,typeInfo,hi,Builtin.lenOf,Builtin.firstCells,hnc,storeCells,hb,hbd]
theorem Mv{t u ty e:TypeId}{i:TypeInfo}(ht:P.underlying t=some (.slice e))(hu:P.underlying u=some .string)(hi:P.info? e=some i)(hz:i.zero=some (.int .u8 0))(hs1:i.size=1)(hb1:i.bytes=1){p:Option Addr}{n cap:Nat}{olds:List Value}(hlo:olds.length=n*1)(hpn:p=none→cap=0)(hnc:n≤cap)
  (hold:n≠0→∃b o,p=some ⟨b,o,none⟩∧∀j u,olds[j]?=some u→w.cell? ⟨b,o+j,none⟩=some u) {b:ByteArray} (hm:0<b.size)
  (hg:cap<n+b.size) (h63:n+b.size≤140737488355328) :
  ∃(c':Nat) (rest:Array Value),(Builtin.append_ #[t,u] ty #[.slice p n cap,.string b]).run P w=.ok (.slice (some ⟨w.heap.size,0,none⟩) (n+b.size) c') (w.drew.alloc (.cells (olds.toArray++(Lib.strCells b).toArray++rest) e))∧n+b.size≤c'∧c'≤maxLen∧rest.size=c'-(n+b.size):=by
 have h63':n+b.size≤maxLen:=by simp only[maxLen];omega
 refine⟨grownCap w (n+b.size) cap e,Builtin.zeroCells #[.int .u8 0] (grownCap w (n+b.size) cap e-(n+b.size)),?_,grownCap_ge _ _ _ _,grownCap_le_maxLen _ _ _ _ h63',by rw[size_zeroCells];simp⟩;have hzc:(Value.int .u8 0).cells=#[.int .u8 0]:=rfl;cases p with
 | none =>
  have hc:=hpn rfl;subst hc;obtain rfl:n=0:=by omega
  have ho:olds=[]:=List.eq_nil_of_length_eq_zero (by simpa using hlo);subst ho;have hr:=run_append_nil_string (P:=P) w t u ty e i _ ht hu hi hz b hm (by omega) (by rw[hb1];omega);rw[hr,hzc];simp only[Nat.zero_add,List.toArray,Array.append_assoc,Result.ok.injEq,true_and];congr 2;apply Array.ext';simp[Lib.strCells]
 | some ad =>
  have hr:=Lib.run_append_grow_string (P:=P) w t u ty e i _ ht hu hi hz ad n cap olds (by rw[hs1];exact hlo) (fun j u hu=>by
   by_cases h0:n=0
   ·subst h0;have ho:olds=[]:=List.eq_nil_of_length_eq_zero (by simpa using hlo);subst ho;simp at hu
   ·obtain⟨b,o,hb,hc⟩:=hold h0;cases hb;rw[B6];exact hc j u hu) b hg (by omega) (growslice_fits hg (by rw[hb1];omega))
  rw[hr,hzc]
theorem X0{t u e:TypeId}{i:TypeInfo}{x y:Operand}{x' y':Opd}(ho:o.op=.call { callee:=.builtin .append,args:=#[x,y],argTypes:=#[t,u] })(hx:AR C.n x=some x')(hy:AR C.n y=some y')
  (ht:P.underlying t=some (.slice e)) (hu:P.underlying u=some .string) (hi:P.info? e=some i) (hz:i.zero=some (.int .u8 0)) (hs1:i.size=1) (hb1:i.bytes=1) (R:Ac C σ ι s a w) (h:Kd.go P d s K (.appS e x' y')):BQ P C o a w K:=by
 have rx:=R.ev hx;have ry:=R.ev hy;have hex:∀v w',(Builtin.append_ #[t,u] o.type #[a.eval x,a.eval y]).run P w=.ok v w'→(execOp a.eval o).run P w=.ok (.value v) w':=fun v w' hr=>by
  simp only[execOp,ho,resolve,invoke,builtin,Sem.run_bind,Sem.run_pure,Result.andThen_ok,List.map_toArray,List.map_cons,List.map_nil,hr]
 simp only[Kd.go]at h;split at h
 ·rename_i cx bs e1 e2;rw[e1]at rx;rw[e2]at ry;replace rx:=Ad rx;have hvy:a.eval y=.string bs:=by
   have:=CU (Ad ry);generalize a.eval y=v at this;cases this with
   | str _=>rfl
  have hnlaid:BV σ (Lib.strCells bs) 1 (BT bs):=N4 bs;have hbl:=ST bs;have hnl:(Lib.strCells bs).length=bs.size:=Lib.strCells_length bs;have hnil:bs.size=0→BT bs=[]:=fun h0=>List.eq_nil_of_length_eq_zero (by rw[hbl,h0]);have fresh:∀(p:Option Addr) (xs:List (List SV)) (cap:Nat) (olds:List Value),a.eval x=.slice p xs.length cap→olds.length=xs.length*1→(p=none→cap=0)→xs.length≤cap→(xs.length≠0→∃b o,p=some ⟨b,o,none⟩∧∀j u,olds[j]?=some u→w.cell? ⟨b,o+j,none⟩=some u)→BV σ olds 1 xs→0<bs.size→cap<xs.length+bs.size →
    xs.length+bs.size≤140737488355328 →
    ∃c' A,(execOp a.eval o).run P w=.ok (.value (.slice (some ⟨w.heap.size,0,none⟩) (xs++BT bs).length c')) (w.drew.alloc (.cells A e))∧(xs++BT bs).length≤c'∧c'≤maxLen∧A.size=c'*1∧BV σ A.toList 1 (xs++BT bs) :=
   fun p xs cap olds hv hol hpn hnc hold hlaid hm hg h63=>by
    obtain⟨c',rest,r1,r2,r3,r4⟩:=Mv (P:=P) (ty:=o.type) (w:=w) ht hu hi hz hs1 hb1 hol hpn hnc hold hm hg h63;refine⟨c',_,hex _ _ (by rw[hv,hvy,r1,List.length_append,hbl]),by rw[List.length_append,hbl];exact r2,r3,?_,?_⟩
    ·simp only[Array.size_append,List.size_toArray,hol,hnl,r4];omega
    ·have:=(hlaid.append hnlaid hol).more rest.toList;simpa using this
  split at h
  ·-- nothing owned yet
   rename_i xs;obtain⟨⟨hid,rfl⟩,h63,hK⟩:=h;have hr:=D4 rx;obtain⟨p,cap,olds,k1,k2,k3,k4,k5,k6,k7,b,oo,k8,k9⟩:=H6 (wd:=1) hr (by simp) (by decide);have hcap:cap=0:=by
    generalize a.eval x=v at rx k1;subst k1;cases rx with|full _=>rfl
   subst hcap;by_cases hne:bs.size=0
   ·have hrun:=hex _ _ (by rw[k1,hvy];exact IL (P:=P) (w:=w) (ty:=o.type) ht hu hi (p:=p) (n:=0) (cap:=0) (Nat.le_refl _) hne);rw[hnil hne,hne]at hK;obtain⟨hu',R'⟩:=R.fresh (w':=w) hid (.mrow e 1 []) ⟨p,0,none⟩ (Ext.refl _ _) R.fit (Below.refl _ _) (by simp) (fun S' ι' hu=>.mnil rfl rfl);exact⟨_,_,_,σ,_,w,.inl hrun,hK,R',.one (.row (b:=.mrow e 1 []) (by simp[AS.set,AG]) (Nat.le_refl _) rfl fun _=>by simp[AG])⟩
   ·have hm:0<bs.size:=by omega
    obtain⟨c',A,r1,r2,r3,r4,r5⟩:=fresh p [] 0 olds k1 k5 (fun _=>rfl) (Nat.le_refl _) (by simp) k6 hm (by simpa using hm) (by simpa using h63);have hheap:(w.drew.alloc (.cells A e)).heap[w.heap.size]?=some (.cells A e (0,0)):=heap_alloc_new w.drew _;have hmore:E1 w (w.drew.alloc (.cells A e)):=(Below.refl _ _).drew.alloc (Nat.le_refl _) _;rw[List.nil_append]at r1 r2 r5;rw[←hbl]at hK;obtain⟨hu',R'⟩:=R.fresh (w':=w.drew.alloc (.cells A e)) hid (.mrow e 1 (BT bs)) ⟨some ⟨w.heap.size,0,none⟩,c',some w.heap.size⟩ (Ext.refl _ _) (R.fit.below hmore) hmore (by simp)
     (fun S' ι' hu=>.mrow rfl rfl hheap r2 r3 r4 r5.1 (DH r5 fun j v hv=>by simpa using hv) (fun p hp=>R.fit.no (by omega)))
    exact⟨_,_,_,σ,_,_,.inl r1,hK,R',.one (.row (b:=.mrow e 1 (BT bs)) (by simp[AS.set,AG]) (Nat.le_refl _) rfl fun _=>by simp[AG])⟩
  ·rename_i id m;obtain⟨b,hb1',hb2,hb3⟩:=C9 rx;split at h
   ·rename_i e' wd' xs hS;obtain⟨⟨rfl,rfl,rfl⟩,h63,hK⟩:=h;rw[hS]at hb1';cases hb1';have hv:=hb3 rfl;have hb:=R.blk _ _ hS;by_cases hne:bs.size=0
    ·have hnc:xs.length≤(ι id).cap:=by cases hb <;> first|exact Nat.zero_le _|assumption|omega
     have hrun:=hex _ _ (by rw[hv,hvy];exact IL (P:=P) (w:=w) (ty:=o.type) ht hu hi (p:=(ι id).p) hnc hne);have hset:s.set id (.mrow e' 1 (xs++BT bs))=s:=by
      rw[hnil hne,List.append_nil];obtain⟨env,S⟩:=s;simp only[AS.set,AS.mk.injEq,true_and];funext k;unfold AI;split
      ·rename_i hk;subst hk;exact hS.symm
      ·rfl
     rw[hset,hne,Nat.add_zero]at hK;exact⟨_,_,s,σ,ι,w,.inl hrun,hK,R,.one (.row hS (Nat.le_refl _) rfl fun _=>rfl)⟩
    ·have hm:0<bs.size:=by omega
     have hne':BT bs≠[]:=fun h0=>by rw[h0]at hbl;simp at hbl;omega
     rw[show xs.length+bs.size=(xs++BT bs).length by rw[List.length_append,hbl]]at hK;have grow:∀(olds:List Value),olds.length=xs.length*1→((ι id).p=none→(ι id).cap=0)→xs.length≤(ι id).cap→(xs.length≠0→∃b o,(ι id).p=some ⟨b,o,none⟩∧∀j u,olds[j]?=some u→w.cell? ⟨b,o+j,none⟩=some u)→BV σ olds 1 xs→(ι id).cap<xs.length+bs.size→BQ P C o a w K:=fun olds ho1 ho2 ho3 ho4 ho5 ho6=>by
      obtain⟨c',A,r1,r2,r3,r4,r5⟩:=fresh _ xs _ olds hv ho1 ho2 ho3 ho4 ho5 hm ho6 h63;have hheap:(w.drew.alloc (.cells A e')).heap[w.heap.size]?=some (.cells A e' (0,0)):=heap_alloc_new w.drew _;have hmore:E1 w (w.drew.alloc (.cells A e')):=(Below.refl _ _).drew.alloc (Nat.le_refl _) _;obtain⟨hu',R'⟩:=R.turn (w':=w.drew.alloc (.cells A e')) hS (.mrow e' 1 (xs++BT bs)) ⟨some ⟨w.heap.size,0,none⟩,c',some w.heap.size⟩ (σ':=σ) (fun _ _ h=>h)
       (fun _ _ _=>rfl) (R.fit.below hmore) (by simp[AJ.len]) (fun he=>absurd (by simpa[AJ.len]using he) hne') ⟨rfl,rfl,rfl⟩ hmore.size (fun g hg _=>hmore.block g hg) (fun g hg=>.inr (by simp at hg;omega))
       (fun hu=>.mrow rfl rfl hheap r2 r3 r4 r5.1 (DH r5 fun j v hv=>by simpa using hv) (fun p hp=>R.fit.no (by omega)))
      exact⟨_,_,_,_,_,_,.inl r1,hK,R',.one (.row (b:=.mrow e' 1 (xs++BT bs)) (by simp[AS.set,AG]) (Nat.le_refl _) rfl fun _=>by simp[AG])⟩
     cases hb with
     | mnil k1 k2=>exact grow [] (by simp) (fun _=>k2) (Nat.zero_le _) (by simp) BV.nil (by rw[k2];simpa using hm)
     | @mrow _ _ _ g vs k1 k2 k3 k4 k5 k6 k7 k8 k9 =>
      have hlaid:BV σ (vs.toList.take (xs.length*1)) 1 xs:=⟨k7,fun k x j y hx hy=>by
       obtain⟨v,v1,v2⟩:=k8 k x j y hx hy;have hk:=(List.getElem?_eq_some_iff.1 hx).1;have hj:j<1:=by
        rw[←k7 x (List.mem_of_getElem? hx)];exact(List.getElem?_eq_some_iff.1 hy).1
       exact⟨v,by rw[List.getElem?_take,if_pos (by omega)];simpa using v1,v2⟩⟩
      have htl:(vs.toList.take (xs.length*1)).length=xs.length*1:=by simp;omega
      by_cases hroom:xs.length+bs.size≤(ι id).cap
      ·have hr:=Lib.run_append_room_string (P:=P) w t u o.type e' i ht hu hi hs1 g xs.length (ι id).cap vs k3 bs hroom (by omega);have hrun:=hex _ _ (by rw[hv,hvy,k2];exact hr);rw[show xs.length+bs.size=(xs++BT bs).length by rw[List.length_append,hbl]]at hrun;generalize hA:(vs.toList.take xs.length++Lib.strCells bs++vs.toList.drop (xs++BT bs).length).toArray=A at hrun;have hAl:A.toList=vs.toList.take (xs.length*1)++Lib.strCells bs++vs.toList.drop (xs++BT bs).length:=by rw[←hA,Nat.mul_one]
       have hAs:A.size=(ι id).cap*1:=by
        rw[←hA];simp only[List.size_toArray,List.length_append,List.length_take,List.length_drop,Array.length_toList,hnl,hbl];omega
       have hheap:(w.setRow g A).heap[g]?=some (.cells A e' (0,0)):=setRow_heap w _ _ _ _ _ k3;have hl:BV σ A.toList 1 (xs++BT bs):=by
        rw[hAl];exact(hlaid.append hnlaid htl).more _
       obtain⟨hu',R'⟩:=R.turn (w':=w.setRow g A) hS (.mrow e' 1 (xs++BT bs)) ⟨(ι id).p,(ι id).cap,some g⟩ (σ':=σ) (fun _ _ h=>h)
        (fun _ _ _=>rfl) (R.fit.row k9 fun k hk=>setRow_other _ _ _ _ hk) (by simp[AJ.len]) (fun he=>absurd (by simpa[AJ.len]using he) hne') (CD _ _) (by simp) (fun k hk hne=>setRow_other _ _ _ _ (fun e=>hne (by rw[e];exact k1))) (fun g' hg'=>.inl (by simp at hg';subst hg';exact k1))
        (fun hu=>.mrow rfl k2 hheap (by rw[List.length_append,hbl];exact hroom) k5 hAs hl.1 (DH hl fun j v hv=>by simpa using hv) k9)
       exact⟨_,_,_,_,_,_,.inl hrun,hK,R',.one (.row (b:=.mrow e' 1 (xs++BT bs)) (by simp[AS.set,AG]) (Nat.le_refl _) rfl fun _=>by simp[AG,k2])⟩
      ·exact grow _ htl (by rw[k2];simp) k4 (fun _=>⟨g,0,k2,fun j u hu=>by
        rw[List.getElem?_take]at hu;split at hu
        ·rw[Nat.zero_add,cell_of_row w g _ _ _ _ k3];simpa using hu
        ·cases hu⟩) hlaid (by omega)
   ·exact h.elim
  ·exact h.elim
 ·exact h.elim
theorem Yh{t e:TypeId}{i:TypeInfo}{z:Value}{x y:Operand}{x' y':Opd}(ho:o.op=.call { callee:=.builtin .append,args:=#[x,y],argTypes:=#[t,t] })(hx:AR C.n x=some x')(hy:AR C.n y=some y')
  (ht:P.underlying t=some (.slice e)) (hi:P.info? e=some i) (hz:i.zero=some z) (hzs:z.cells.size=i.size) (hpos:0<i.size) (R:Ac C σ ι s a w) (h:Kd.go P d s K (.appP e i.size i.bytes x' y')):BQ P C o a w K:=by
 have rx:=R.ev hx;have ry:=R.ev hy;have hex:∀v w',(Builtin.append_ #[t,t] o.type #[a.eval x,a.eval y]).run P w=.ok v w'→(execOp a.eval o).run P w=.ok (.value v) w':=fun v w' hr=>by
  simp only[execOp,ho,resolve,invoke,builtin,Sem.run_bind,Sem.run_pure,Result.andThen_ok,List.map_toArray,List.map_cons,List.map_nil,hr]
 simp only[Kd.go]at h;split at h
 ·rename_i id k m cy e1 e2;rw[e1]at rx;rw[e2]at ry;replace rx:=Ad rx;replace ry:=Ad ry;split at h
  ·rename_i e' wd' xs ys hS hys;obtain⟨⟨hm,rfl,rfl⟩,hyw,h63,hby,hK⟩:=h;subst hm;obtain⟨q,c,news,hvy,hnl,hnlaid,hn1,hncell⟩:=R.src ry hys hyw hpos;obtain⟨b,hb1,hb2,hb3⟩:=Hl rx;rw[hS]at hb1;cases hb1;obtain⟨hkm,hv⟩:=hb3 rfl;have hb:=R.blk _ _ hS;have hnlen:(xs.take k++ys++xs.drop (k+ys.length)).length=if xs.length≤k+ys.length then k+ys.length else xs.length:=by
    simp only[List.length_append,List.length_take,List.length_drop];split <;> omega
   by_cases hne:ys=[]
   ·subst hne;have hnc:xs.length≤(ι id).cap:=by cases hb <;> first|exact Nat.zero_le _|assumption
    have hrun:=hex _ _ (by rw[hv,hvy];exact DN (P:=P) (w:=w) (ty:=o.type) ht hi (p:=(ι id).p) (n:=k) (cap:=(ι id).cap) (by omega) q c);have hset:s.set id (.mrow e' i.size (xs.take k++[]++xs.drop (k+([]:List (List SV)).length)))=s:=by
     rw[List.append_nil,List.length_nil,Nat.add_zero,List.take_append_drop];obtain⟨env,S⟩:=s;simp only[AS.set,AS.mk.injEq,true_and];funext k;unfold AI;split
     ·rename_i hk;subst hk;exact hS.symm
     ·rfl
    have hlen:(if xs.length≤k+([]:List (List SV)).length then k+([]:List (List SV)).length else xs.length)=xs.length:=by
     simp only[List.length_nil,Nat.add_zero];split <;> omega
    rw[hset,hlen]at hK;refine⟨_,_,s,σ,ι,w,.inl hrun,hK,R,?_⟩;exact .one (.part hS (Nat.le_refl _) rfl fun _=>⟨by simpa using hkm,by simp⟩)
   ·have hm:0<ys.length:=List.length_pos_iff.2 hne;have grow:∀(olds:List Value),olds.length=k*i.size→((ι id).p=none→(ι id).cap=0)→xs.length≤(ι id).cap→(k≠0→∃b o,(ι id).p=some ⟨b,o,none⟩∧∀j u,olds[j]?=some u→w.cell? ⟨b,o+j,none⟩=some u)→BV σ olds i.size (xs.take k)→(ι id).cap<k+ys.length→BQ P C o a w K:=fun olds ho1 ho2 ho3 ho4 ho5 ho6=>by
     obtain⟨bq,oo,hq,hq2⟩:=hncell hne;obtain⟨c',rest,r1,r2,r3,r4⟩:=Ps (P:=P) (ty:=o.type) (w:=w) ht hi hz hzs ho1 ho2 (n:=k) (by omega) ho4 (q:=q) (m:=ys.length) (c:=c) hnl hm ⟨bq,oo,hq,hq2⟩ ho6 h63 hby
     have hrun:=hex _ _ (by rw[hv,hvy];exact r1);have hdrop:xs.drop (k+ys.length)=[]:=List.drop_eq_nil_of_le (by omega);have hge:xs.length≤k+ys.length:=by omega
     rw[hdrop,List.append_nil,if_pos hge]at hK;rw[hdrop,List.append_nil,if_pos hge]at hnlen;have hl:BV σ (olds.toArray++news.toArray++rest).toList i.size (xs.take k++ys):=by
      have:=(ho5.append hnlaid (by rw[ho1,List.length_take,Nat.min_eq_left hkm])).more rest.toList;simpa using this
     have hsz:(olds.toArray++news.toArray++rest).size=c'*i.size:=by
      simp only[Array.size_append,List.size_toArray,ho1,hnl,r4,←Nat.add_mul];congr 1;omega
     generalize hA:olds.toArray++news.toArray++rest=A at hrun hl hsz;have hheap:(w.drew.alloc (.cells A e')).heap[w.heap.size]?=some (.cells A e' (0,0)):=heap_alloc_new w.drew _;have hmore:E1 w (w.drew.alloc (.cells A e')):=(Below.refl _ _).drew.alloc (Nat.le_refl _) _;obtain⟨hu,R'⟩:=R.turn (w':=w.drew.alloc (.cells A e')) hS (.mrow e' i.size (xs.take k++ys)) ⟨some ⟨w.heap.size,0,none⟩,c',some w.heap.size⟩ (σ':=σ) (fun _ _ h=>h)
      (fun _ _ _=>rfl) (R.fit.below hmore) (by simp only[AJ.len];omega) (fun he=>absurd he (by simp only[AJ.len];omega)) ⟨rfl,rfl,rfl⟩ hmore.size (fun g hg _=>hmore.block g hg) (fun g hg=>.inr (by simp at hg;omega))
      (fun hu=>.mrow rfl rfl hheap (by rw[hnlen];exact r2) r3 hsz hl.1 (DH hl fun j v hv=>by simpa using hv) (fun p hp=>R.fit.no (by omega)))
     exact⟨_,_,_,_,_,_,.inl hrun,hK,R',.one (.part (b:=.mrow e' i.size (xs.take k++ys)) (by simp[AS.set,AG]) (by simp only[AJ.len];omega) rfl fun _=>⟨Nat.le_refl _,by simp[AG]⟩)⟩
    cases hb with
    | mnil k1 k2 =>
     obtain rfl:k=0:=by simpa using hkm
     exact grow [] (by simp) (fun _=>k2) (Nat.zero_le _) (by simp) (by simpa using BV.nil) (by omega)
    | @mrow _ _ _ g vs k1 k2 k3 k4 k5 k6 k7 k8 k9 =>
     have hcapw:xs.length*i.size≤(ι id).cap*i.size:=Nat.mul_le_mul_right _ k4;have hlaidAll:BV σ vs.toList i.size xs:=⟨k7,fun kk x j y hx hy=>by
      obtain⟨v,v1,v2⟩:=k8 kk x j y hx hy;exact⟨v,by simpa using v1,v2⟩⟩
     have hlaid:=Hp hlaidAll k;have hkw:k*i.size≤xs.length*i.size:=Nat.mul_le_mul_right _ hkm;have htl:(vs.toList.take (k*i.size)).length=k*i.size:=by simp;omega
     by_cases hroom:k+ys.length≤(ι id).cap
     ·have hcapw2:(k+ys.length)*i.size≤(ι id).cap*i.size:=Nat.mul_le_mul_right _ hroom;rw[Nat.add_mul]at hcapw2;obtain⟨bq,oq,hq,hq2⟩:=hncell hne;have hr:=run_append_room (P:=P) w t o.type e' i ht hi g k (ι id).cap vs k3 ⟨bq,oq,none⟩ ys.length c news hnl (fun j u hu=>by rw[B6];exact hq2 j u hu) hn1 hroom (by omega);have hrun:=hex _ _ (by rw[hv,hvy,k2,hq];exact hr);generalize hA:(vs.toList.take (k*i.size)++news++vs.toList.drop (k*i.size+news.length)).toArray=A at hrun;have hAl:A.toList=vs.toList.take (k*i.size)++news++vs.toList.drop (k*i.size+news.length):=by rw[←hA]
      have hAs:A.size=(ι id).cap*i.size:=by
       rw[←hA];simp only[List.size_toArray,List.length_append,htl,List.length_drop,Array.length_toList];omega
      have hheap:(w.setRow g A).heap[g]?=some (.cells A e' (0,0)):=setRow_heap w _ _ _ _ _ k3;have hl:BV σ A.toList i.size (xs.take k++ys++xs.drop (k+ys.length)):=by
       rw[hAl];have h1:=hlaid.append hnlaid (by rw[htl,List.length_take,Nat.min_eq_left hkm]);have h2:=KN hlaidAll (k+ys.length);have h3:=h1.append h2 (by simp only[List.length_append,htl,hnl,List.length_take,Nat.min_eq_left hkm,Nat.add_mul]);rw[Nat.add_mul,←hnl]at h3;exact h3
      have hlen2:(xs.take k++ys++xs.drop (k+ys.length)).length≤(ι id).cap:=by rw[hnlen];split <;> omega
      obtain⟨hu,R'⟩:=R.turn (w':=w.setRow g A) hS (.mrow e' i.size (xs.take k++ys++xs.drop (k+ys.length))) ⟨(ι id).p,(ι id).cap,some g⟩ (σ':=σ) (fun _ _ h=>h)
       (fun _ _ _=>rfl) (R.fit.row k9 fun k hk=>setRow_other _ _ _ _ hk) (by simp only[AJ.len,hnlen];split <;> omega) (fun he=>⟨rfl,by rw[←k1]⟩) (CD _ _) (by simp) (fun k hk hne=>setRow_other _ _ _ _ (fun e=>hne (by rw[e];exact k1))) (fun g' hg'=>.inl (by simp at hg';subst hg';exact k1))
       (fun hu=>.mrow rfl k2 hheap hlen2 k5 hAs hl.1 (DH hl fun j v hv=>by simpa using hv) k9)
      exact⟨_,_,_,_,_,_,.inl hrun,hK,R',.one (.part (b:=.mrow e' i.size (xs.take k++ys++xs.drop (k+ys.length))) (by simp[AS.set,AG]) (by simp only[AJ.len,hnlen];exact Nat.le_refl _) rfl fun _=>⟨by split <;> omega,by simp[AG,k2]⟩)⟩
     ·exact grow _ htl (by rw[k2];simp) k4 (fun _=>⟨g,0,k2,fun j u hu=>by
       rw[List.getElem?_take]at hu;split at hu
       ·rw[Nat.zero_add,cell_of_row w g _ _ _ _ k3];simpa using hu
       ·cases hu⟩) hlaid (by omega)
  ·exact h.elim
 ·exact h.elim
end

end Go.Proofs.YtbhnmjkmieiadaaGreatDoor
