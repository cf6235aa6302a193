/-
  Part 12 of the texts. Conditions: none.
-/
import Derived.Test.YtbhnmjkmieiadaaGreatDoord111
namespace Go.Proofs.YtbhnmjkmieiadaaGreatDoor
open Go Go.RowKit
set_option linter.unusedVariables false
set_option linter.unusedSimpArgs false
set_option maxHeartbeats 1000000
theorem IWP.cut {P:Program} {C:Ctx} {mu:List Nat} {Q:AX→AS→Prop} {s:AS} {x:IR} (id:Nat) (M:AS→Prop) (h1:IWP P C mu x (fun e s=>e=.exit id∧M s) s) (h2:∀ s,M s→Q (.exit id) s):IWP P C mu x Q s :=
 h1.mono fun e s h=>by
  obtain ⟨rfl,hm⟩:=h
  exact h2 s hm
abbrev Sz:AL:=.box 37 [.st (.str ⟨#[]⟩),.full []]
def rdV (r:Rd):AV:=.tup [aTm r.t,AO r.i,AO r.k,AO r.e]
theorem ZR {s:ByteArray} {f i k:Nat} (h0:Ae s i=i):rd s (f + 1) i k=⟨.mk ⟨#[]⟩ [],i,k,if i=s.size then 13 else 12⟩:=by rw [rd,if_pos h0]
theorem Yl {s:ByteArray} {f i k:Nat} (h0:¬ Ae s i=i) (h1:¬ Ay (s.extract i (Ae s i))=true):rd s (f + 1) i k=⟨.mk (s.extract i (Ae s i)) [],Ae s i,k,1⟩:=by rw [rd,if_neg h0,if_neg h1]
theorem X8 {s:ByteArray} {f i k:Nat} (h0:¬ Ae s i=i) (h1:Ay (s.extract i (Ae s i))=true) (h2:200 < k + 1):rd s (f + 1) i k=⟨.mk (s.extract i (Ae s i)) [],Ae s i,k + 1,3⟩:=by rw [rd,if_neg h0,if_pos h1,if_pos h2]
theorem UE {s:ByteArray} {f i k:Nat} (h0:¬ Ae s i=i) (h1:Ay (s.extract i (Ae s i))=true) (h2:¬ 200 < k + 1) (h3:Ae s i=s.size ∨ Aj s (Ae s i) ≠ 40):rd s (f + 1) i k=⟨.mk (s.extract i (Ae s i)) [],Ae s i,k + 1,0⟩:=by rw [rd,if_neg h0,if_pos h1,if_neg h2,if_pos h3]
theorem ZC {s:ByteArray} {f i k:Nat} (h0:¬ Ae s i=i) (h1:Ay (s.extract i (Ae s i))=true) (h2:¬ 200 < k + 1) (h3:¬ (Ae s i=s.size ∨ Aj s (Ae s i) ≠ 40)) (h4:AJ (s.extract i (Ae s i))=true):rd s (f + 1) i k=⟨.mk (s.extract i (Ae s i)) [],Ae s i,k + 1,2⟩:=by rw [rd,if_neg h0,if_pos h1,if_neg h2,if_neg h3,if_pos h4]
theorem Yy {s:ByteArray} {f i k:Nat} (h0:¬ Ae s i=i) (h1:Ay (s.extract i (Ae s i))=true) (h2:¬ 200 < k + 1) (h3:¬ (Ae s i=s.size ∨ Aj s (Ae s i) ≠ 40)) (h4:¬ AJ (s.extract i (Ae s i))=true):rd s (f + 1) i k=rdA s f (s.extract i (Ae s i)) [] (Ae s i) (k + 1):=by rw [rd,if_neg h0,if_pos h1,if_neg h2,if_neg h3,if_neg h4]
theorem ZE {s:ByteArray} {f:Nat} {n:ByteArray} {acc:List Tm} {i k:Nat} (h:¬ (rd s f (i + 1) k).e=0):rdA s (f + 1) n acc i k=⟨.mk n acc,(rd s f (i + 1) k).i,(rd s f (i + 1) k).k,(rd s f (i + 1) k).e⟩:=by rw [rdA,if_neg h]
theorem VX {s:ByteArray} {f:Nat} {n:ByteArray} {acc:List Tm} {i k:Nat} (h:(rd s f (i + 1) k).e=0) (h1:(rd s f (i + 1) k).i=s.size):rdA s (f + 1) n acc i k=⟨.mk n (acc ++ [(rd s f (i + 1) k).t]),(rd s f (i + 1) k).i,(rd s f (i + 1) k).k,13⟩:=by rw [rdA,if_pos h,if_pos h1]
theorem Vg {s:ByteArray} {f:Nat} {n:ByteArray} {acc:List Tm} {i k:Nat} (h:(rd s f (i + 1) k).e=0) (h1:¬ (rd s f (i + 1) k).i=s.size) (h2:Aj s (rd s f (i + 1) k).i=41):rdA s (f + 1) n acc i k=⟨.mk n (acc ++ [(rd s f (i + 1) k).t]),(rd s f (i + 1) k).i + 1,(rd s f (i + 1) k).k,0⟩:=by rw [rdA,if_pos h,if_neg h1,if_pos h2]
theorem Z6 {s:ByteArray} {f:Nat} {n:ByteArray} {acc:List Tm} {i k:Nat} (h:(rd s f (i + 1) k).e=0) (h1:¬ (rd s f (i + 1) k).i=s.size) (h2:¬ Aj s (rd s f (i + 1) k).i=41) (h3:Aj s (rd s f (i + 1) k).i=44):rdA s (f + 1) n acc i k=rdA s f n (acc ++ [(rd s f (i + 1) k).t]) (rd s f (i + 1) k).i (rd s f (i + 1) k).k:=by rw [rdA,if_pos h,if_neg h1,if_neg h2,if_pos h3]
theorem X6 {s:ByteArray} {f:Nat} {n:ByteArray} {acc:List Tm} {i k:Nat} (h:(rd s f (i + 1) k).e=0) (h1:¬ (rd s f (i + 1) k).i=s.size) (h2:¬ Aj s (rd s f (i + 1) k).i=41) (h3:¬ Aj s (rd s f (i + 1) k).i=44):rdA s (f + 1) n acc i k=⟨.mk n (acc ++ [(rd s f (i + 1) k).t]),(rd s f (i + 1) k).i,(rd s f (i + 1) k).k,12⟩:=by rw [rdA,if_pos h,if_neg h1,if_neg h2,if_neg h3]
theorem Hj (acc:List Tm) (a:Tm):(acc ++ [a]).map Ap=acc.map Ap ++ [[.str a.name,.list (a.args.map Ap)]]:=by
 rw [List.map_append,List.map_cons,List.map_nil,Af a]
theorem Z1 (s:ByteArray) (hs:s.size≤100000):∀ f i k:Nat,i≤s.size→k≤200→2 * (s.size - i) < f→AU Tryz.prog 65 [Bt s,AO i,AO k] (rdV (rd s f i k)):=by
 intro f
 induction f using Nat.strongRecOn with
 | _ f ih =>
 intro i k hi hk hf
 obtain ⟨f,rfl⟩:∃ g,f=g + 1:=⟨f - 1,by omega⟩
 obtain ⟨l1,l2⟩:=Rt hi
 refine Ug.ac fun C hC=>?_
 unfold N6
 repeat' with_reducible first | refine W ?_ | refine Z0 ?_ | ((first | refine Wo fun K hK=>?_ | refine Wp ?_ | refine Wq ?_ | refine Wr ?_);(try simp only [go_sem,fN,seval,eT,iR,dT,dF,nL]);(repeat refine Ai ?_);(try (refine hK _ ?_;clear hK K));try refine iC ?_)
 refine IWP.cut 0 (fun x=>x.env 0=Bt s∧x.env 1=AO (Ae s i)∧x.env 2=AO k∧x.env 10=AO i∧x.env 6=.one (.ptr 6 1 0 0)∧x.S 6=some Sz∧x.S 11=none∧x.S 12=none∧x.S 900=none) ?_ ?_
 ·refine IWP.loop (fun m x=>∃ j,i≤j∧j≤s.size∧m=s.size - j∧Ae s i=Ae s j∧x.env 0=Bt s∧x.env 1=AO j∧x.env 2=AO k∧x.env 10=AO i∧x.env 6=.one (.ptr 6 1 0 0)∧x.S 6=some Sz∧x.S 11=none∧x.S 12=none∧x.S 900=none) (s.size - i) ⟨i,Nat.le_refl _,hi,rfl,rfl,rfl,rfl,rfl,rfl,rfl,rfl,rfl,rfl,rfl⟩ ?_
  rintro m ⟨env,S⟩ ⟨j,hij,hj,rfl,hl,e0,e1,e2,e10,e6,s6,s11,s12,s900⟩
  simp only at e0 e1 e2 e10 e6 s6 s11 s12 s900
  by_cases hlt:(j:Int) < s.size
  ·have hb:=GJ s j
   by_cases hlet:BE (GY s j)=true
   ·repeat' (first | (with_reducible first | refine W ?_ | refine Z0 ?_ | ((first | refine Wo fun K hK=>?_ | refine Wp ?_ | refine Wq ?_ | refine Wr ?_);(try simp only [go_sem,fN,seval,eT,iR,e0,e1,e2,e10,e6,s6,hlt,hlet,dT,dF,nL]);(repeat refine Ai ?_);(try (refine hK _ ?_;clear hK K));try refine iC ?_)) | refine Cg _ (Ih (GY s j) hb.1) ?_)
    refine AI ⟨s.size - (j + 1),by omega,j + 1,by omega,by omega,rfl,?_,?_⟩
    ·rw [hl]
     exact WM (by omega) hlet
    ·simp only [go_sem,fN,seval,eT,iR,e0,e1,e2,e10,e6,s6,s11,s12,s900]
     congr 3
   ·have hst:Ae s j=j:=Su (by omega) hlet
    repeat' (first | (with_reducible first | refine W ?_ | refine Z0 ?_ | ((first | refine Wo fun K hK=>?_ | refine Wp ?_ | refine Wq ?_ | refine Wr ?_);(try simp only [go_sem,fN,seval,eT,iR,e0,e1,e2,e10,e6,s6,hlt,hlet,dT,dF,nL]);(repeat refine Ai ?_);(try (refine hK _ ?_;clear hK K));try refine iC ?_)) | refine Cg _ (Ih (GY s j) hb.1) ?_)
    refine ⟨rfl,?_⟩
    simp only [go_sem,fN,seval,eT,iR,e0,e1,e2,e10,e6,s6,s11,s12,s900]
    rw [hl,hst]
  ·have hst:Ae s j=j:=Vy (by omega)
   repeat' with_reducible first | refine W ?_ | refine Z0 ?_ | ((first | refine Wo fun K hK=>?_ | refine Wp ?_ | refine Wq ?_ | refine Wr ?_);(try simp only [go_sem,fN,seval,eT,iR,e0,e1,e2,e10,e6,s6,hlt,dT,dF,nL]);(repeat refine Ai ?_);(try (refine hK _ ?_;clear hK K));try refine iC ?_)
   refine ⟨rfl,?_⟩
   simp only [go_sem,fN,seval,eT,iR,e0,e1,e2,e10,e6,s6,s11,s12,s900]
   rw [hl,hst]
 rintro ⟨env,S⟩ ⟨e0,e1,e2,e10,e6,s6,s11,s12,s900⟩
 simp only at e0 e1 e2 e10 e6 s6 s11 s12 s900
 by_cases h0:Ae s i=i
 ·rw [ZR h0]
  rw [h0] at e1
  unfold rdV
  by_cases hsz:i=s.size
  ·have hszi:(i:Int)=s.size:=by omega
   rw [if_pos hsz]
   repeat' with_reducible first | refine W ?_ | refine Z0 ?_ | ((first | refine Wo fun K hK=>?_ | refine Wp ?_ | refine Wq ?_ | refine Wr ?_);(try simp only [go_sem,fN,seval,eT,iR,e0,e1,e2,e10,e6,s6,hszi,dT,dF,nL]);(repeat refine Ai ?_);(try (refine hK _ ?_;clear hK K));try refine iC ?_)
   simp only [go_sem,fN,seval,AN,AS.result,AB,AD,AK,e6,s6]
   rfl
  ·have hszi:¬ (i:Int)=s.size:=by omega
   rw [if_neg hsz]
   repeat' with_reducible first | refine W ?_ | refine Z0 ?_ | ((first | refine Wo fun K hK=>?_ | refine Wp ?_ | refine Wq ?_ | refine Wr ?_);(try simp only [go_sem,fN,seval,eT,iR,e0,e1,e2,e10,e6,s6,hszi,dT,dF,nL]);(repeat refine Ai ?_);(try (refine hK _ ?_;clear hK K));try refine iC ?_)
   simp only [go_sem,fN,seval,AN,AS.result,AB,AD,AK,e6,s6]
   rfl
 have h0i:¬ ((Ae s i:Nat):Int)=i:=by omega
 by_cases h1:Ay (s.extract i (Ae s i))=true
 case neg =>
  rw [Yl h0 h1]
  unfold rdV
  repeat' (first | (with_reducible first | refine W ?_ | refine Z0 ?_ | ((first | refine Wo fun K hK=>?_ | refine Wp ?_ | refine Wq ?_ | refine Wr ?_);(try simp only [go_sem,fN,seval,eT,iR,e0,e1,e2,e10,e6,s6,s11,h0i,h1,dT,dF,nL]);(repeat refine Ai ?_);(try (refine hK _ ?_;clear hK K));try refine iC ?_)) | refine Cg _ (Fm (s.extract i (Ae s i))) ?_)
  simp only [go_sem,fN,seval,AN,AS.result,AB,AD,AK,e6,s6]
  rfl
 case pos =>
 by_cases h2:200 < k + 1
 ·have h2i:(200:Int) < k + 1:=by omega
  rw [X8 h0 h1 h2]
  unfold rdV
  repeat' (first | (with_reducible first | refine W ?_ | refine Z0 ?_ | ((first | refine Wo fun K hK=>?_ | refine Wp ?_ | refine Wq ?_ | refine Wr ?_);(try simp only [go_sem,fN,seval,eT,iR,e0,e1,e2,e10,e6,s6,s11,h0i,h1,h2i,dT,dF,nL]);(repeat refine Ai ?_);(try (refine hK _ ?_;clear hK K));try refine iC ?_)) | refine Cg _ (Fm (s.extract i (Ae s i))) ?_)
  simp only [go_sem,fN,seval,AN,AS.result,AB,AD,AK,e6,s6]
  rfl
 have h2i:¬ (200:Int) < k + 1:=by omega
 by_cases h3:Ae s i=s.size
 ·have h3i:((Ae s i:Nat):Int)=s.size:=by omega
  have h0s:¬ (s.size:Int)=i:=by omega
  rw [UE h0 h1 h2 (.inl h3)]
  unfold rdV
  rw [h3] at h1 e1
  rw [h3]
  repeat' (first | (with_reducible first | refine W ?_ | refine Z0 ?_ | ((first | refine Wo fun K hK=>?_ | refine Wp ?_ | refine Wq ?_ | refine Wr ?_);(try simp only [go_sem,fN,seval,eT,iR,e0,e1,e2,e10,e6,s6,s11,h0s,h1,h2i,dT,dF,nL]);(repeat refine Ai ?_);(try (refine hK _ ?_;clear hK K));try refine iC ?_)) | refine Cg _ (Fm (s.extract i s.size)) ?_)
  simp only [go_sem,fN,seval,AN,AS.result,AB,AD,AK,e6,s6]
  rfl
 have h3i:¬ ((Ae s i:Nat):Int)=s.size:=by omega
 by_cases h3':GY s (Ae s i)=40
 case neg =>
  rw [UE h0 h1 h2 (.inr h3')]
  unfold rdV
  repeat' (first | (with_reducible first | refine W ?_ | refine Z0 ?_ | ((first | refine Wo fun K hK=>?_ | refine Wp ?_ | refine Wq ?_ | refine Wr ?_);(try simp only [go_sem,fN,seval,eT,iR,e0,e1,e2,e10,e6,s6,s11,h0i,h1,h2i,h3i,h3',dT,dF,nL]);(repeat refine Ai ?_);(try (refine hK _ ?_;clear hK K));try refine iC ?_)) | refine Cg _ (Fm (s.extract i (Ae s i))) ?_)
  simp only [go_sem,fN,seval,AN,AS.result,AB,AD,AK,e6,s6]
  rfl
 case pos =>
 have h3n:¬ (Ae s i=s.size ∨ Aj s (Ae s i) ≠ 40):=fun h=>h.elim h3 (fun h=>h h3')
 by_cases h4:AJ (s.extract i (Ae s i))=true
 ·rw [ZC h0 h1 h2 h3n h4]
  unfold rdV
  repeat' (first | (with_reducible first | refine W ?_ | refine Z0 ?_ | ((first | refine Wo fun K hK=>?_ | refine Wp ?_ | refine Wq ?_ | refine Wr ?_);(try simp only [go_sem,fN,seval,eT,iR,e0,e1,e2,e10,e6,s6,s11,h0i,h1,h2i,h3i,h3',h4,dT,dF,nL]);(repeat refine Ai ?_);(try (refine hK _ ?_;clear hK K));try refine iC ?_)) | refine Cg _ (Fm (s.extract i (Ae s i))) ?_ | refine Cg _ (UI (s.extract i (Ae s i))) ?_)
  simp only [go_sem,fN,seval,AN,AS.result,AB,AD,AK,e6,s6]
  rfl
 rw [Yy h0 h1 h2 h3n h4]
 have hlt0:Ae s i < s.size:=by omega
 have hf0:2 * (s.size - Ae s i)≤f:=by omega
 clear h0
 obtain ⟨n,hn⟩:∃ n,s.extract i (Ae s i)=n:=⟨_,rfl⟩
 rw [hn] at h1 h4 ⊢
 generalize Ae s i=to at *
 repeat' (first | (with_reducible first | refine W ?_ | refine Z0 ?_ | ((first | refine Wo fun K hK=>?_ | refine Wp ?_ | refine Wq ?_ | refine Wr ?_);(try simp only [go_sem,fN,seval,eT,iR,e0,e1,e2,e10,e6,s6,s11,h0i,h1,h2i,h3i,h3',h4,hn,dT,dF,nL]);(repeat refine Ai ?_);(try (refine hK _ ?_;clear hK K));try refine iC ?_)) | refine Cg _ (Fm n) ?_ | refine Cg _ (UI n) ?_)
 refine IWP.ghost (Ac.ownC 11 1 900 37 2 (xs:=([]:List Tm).map Ap) rfl rfl (by simp only [go_sem,fN,seval,eT,iR,s900,s11]) EP) ?_
 refine IWP.loopD [12] (fun m x=>∃ (g:Nat) (acc:List Tm) (j c:Nat),rdA s f n [] to (k + 1)=rdA s g n acc j c∧m=s.size - j∧2 * (s.size - j)≤g∧g≤f∧j < s.size∧c≤200∧acc.length≤c∧x.env 0=Bt s∧x.env 1=AO j∧x.env 2=AO c∧x.env 6=.one (.ptr 6 1 0 0)∧x.env 11=.one (.ptr 11 1 0 0)∧x.S 6=some Sz∧x.S 11=some (.box 37 [.st (.str n),.row 900 acc.length])∧x.S 900=some (.arow 37 2 (acc.map Ap))∧x.S 12=none)
  (s.size - to) ⟨f,[],to,k + 1,rfl,rfl,hf0,Nat.le_refl _,hlt0,by omega,by simp,?_⟩ ?_
 ·simp only [go_sem,fN,seval,eT,iR,e0,e1,e2,e10,e6,s6,s11,s12,s900]
  exact ⟨by congr 3,rfl⟩
 rintro m ⟨env,S⟩ ⟨g,acc,j,c,hrd,rfl,hg,hgf,hj,hc,hac,e0,e1,e2,e6,e11,s6,s11,s900,s12⟩
 simp only at e0 e1 e2 e6 e11 s6 s11 s900 s12
 rw [hrd]
 obtain ⟨g,rfl⟩:∃ g',g=g' + 1:=⟨g - 1,by omega⟩
 have hcall:=ih g (by omega) (j + 1) c (by omega) hc (by omega)
 have hok:=Zr s g (j + 1) c (by omega) hc (by omega)
 rw [show ((j + 1:Nat):Int)=(j:Int) + 1 by omega] at hcall
 have hle:=hok.le
 have hin:=hok.in_
 have hal:(acc.map Ap).length=acc.length:=List.length_map _
 by_cases q0:(rd s g (j + 1) c).e=0
 case neg =>
  rw [ZE q0]
  unfold rdV at hcall ⊢
  repeat' (first | (with_reducible first | refine W ?_ | refine Z0 ?_ | ((first | refine Wo fun K hK=>?_ | refine Wp ?_ | refine Wq ?_ | refine Wr ?_);(try simp only [go_sem,fN,seval,eT,iR,e0,e1,e2,e6,e11,s6,s11,s900,s12,q0,dT,dF,nL]);(repeat refine Ai ?_);(try (refine hK _ ?_;clear hK K));try refine iC ?_)) | refine Cg _ (hcall) ?_)
  simp only [go_sem,fN,seval,AN,AS.result,AB,AD,AK,e6,s6,s11,s900]
  rfl
 case pos =>
 obtain ⟨o1,o2,o3,o4⟩:=hok.ok q0
 by_cases q1:(rd s g (j + 1) c).i=s.size
 ·have q1i:(((rd s g (j + 1) c).i:Nat):Int)=s.size:=by omega
  rw [VX q0 q1]
  unfold rdV at hcall ⊢
  repeat' (first | (with_reducible first | refine W ?_ | refine Z0 ?_ | ((first | refine Wo fun K hK=>?_ | refine Wp ?_ | refine Wq ?_ | refine Wr ?_);(try simp only [go_sem,fN,seval,eT,iR,e0,e1,e2,e6,e11,s6,s11,s900,s12,q0,q1i,dT,dF,nL]);(repeat refine Ai ?_);(try (refine hK _ ?_;clear hK K));try refine iC ?_)) | refine Cg _ (hcall) ?_)
  simp only [go_sem,fN,seval,AN,AS.result,AB,AD,AK,e6,s6,s11,s900]
  rw [← Hj]
  rfl
 have q1i:¬ (((rd s g (j + 1) c).i:Nat):Int)=s.size:=by omega
 by_cases q2:GY s (rd s g (j + 1) c).i=41
 ·rw [Vg q0 q1 q2]
  unfold rdV at hcall ⊢
  repeat' (first | (with_reducible first | refine W ?_ | refine Z0 ?_ | ((first | refine Wo fun K hK=>?_ | refine Wp ?_ | refine Wq ?_ | refine Wr ?_);(try simp only [go_sem,fN,seval,eT,iR,e0,e1,e2,e6,e11,s6,s11,s900,s12,q0,q1i,q2,dT,dF,nL]);(repeat refine Ai ?_);(try (refine hK _ ?_;clear hK K));try refine iC ?_)) | refine Cg _ (hcall) ?_)
  simp only [go_sem,fN,seval,AN,AS.result,AB,AD,AK,e6,s6,s11,s900]
  rw [← Hj]
  rfl
 by_cases q3:GY s (rd s g (j + 1) c).i=44
 ·rw [Z6 q0 q1 q2 q3]
  unfold rdV at hcall
  repeat' (first | (with_reducible first | refine W ?_ | refine Z0 ?_ | ((first | refine Wo fun K hK=>?_ | refine Wp ?_ | refine Wq ?_ | refine Wr ?_);(try simp only [go_sem,fN,seval,eT,iR,e0,e1,e2,e6,e11,s6,s11,s900,s12,q0,q1i,q2,q3,dT,dF,nL]);(repeat refine Ai ?_);(try (refine hK _ ?_;clear hK K));try refine iC ?_)) | refine Cg _ (hcall) ?_)
  refine AI ⟨s.size - (rd s g (j + 1) c).i,by omega,g,acc ++ [(rd s g (j + 1) c).t],(rd s g (j + 1) c).i,(rd s g (j + 1) c).k,rfl,rfl,by omega,by omega,by omega,o2,by simp;omega,?_⟩
  simp only [go_sem,fN,seval,AS.drop,Ao,AC.clears,AC.clear,AC.highs,AC.high,Bool.not_false,Bool.true_and,Bool.and_self,AV.purge,AV.purges,AC.purge,AL.purge,List.contains_cons,List.contains_nil,Nat.reduceBEq,Bool.or_self,Bool.or_false,Bool.false_or,Bool.or_true,eT,iR,e0,e1,e2,e6,e11,s6,s11,s900,s12]
  rw [Hj]
 ·rw [X6 q0 q1 q2 q3]
  unfold rdV at hcall ⊢
  repeat' (first | (with_reducible first | refine W ?_ | refine Z0 ?_ | ((first | refine Wo fun K hK=>?_ | refine Wp ?_ | refine Wq ?_ | refine Wr ?_);(try simp only [go_sem,fN,seval,eT,iR,e0,e1,e2,e6,e11,s6,s11,s900,s12,q0,q1i,q2,q3,dT,dF,nL]);(repeat refine Ai ?_);(try (refine hK _ ?_;clear hK K));try refine iC ?_)) | refine Cg _ (hcall) ?_)
  simp only [go_sem,fN,seval,AN,AS.result,AB,AD,AK,e6,s6,s11,s900]
  rw [← Hj]
  rfl
def Nc (r:Tm × Int):AV:=.tup [aTm r.1,AO r.2]
theorem UH (s:ByteArray):AU Tryz.prog 30 [Bt s] (Nc (Gn s)):=by
 have hro:Gn s=if 4000 < s.size then (.mk ⟨#[]⟩ [],3) else if (rdS s).e=0 then (if (rdS s).i < s.size then (.mk ⟨#[]⟩ [],12) else ((rdS s).t,0)) else (.mk ⟨#[]⟩ [],(rdS s).e):=rfl
 refine Vu.ac fun C hC=>?_
 unfold Om
 by_cases h0:(4000:Int) < s.size
 ·rw [hro,if_pos (by omega)]
  unfold Nc
  repeat' with_reducible first | refine W ?_ | refine Z0 ?_ | ((first | refine Wo fun K hK=>?_ | refine Wp ?_ | refine Wq ?_ | refine Wr ?_);(try simp only [go_sem,fN,seval,eT,iR,h0,dT,dF,nL]);(repeat refine Ai ?_);(try (refine hK _ ?_;clear hK K));try refine iC ?_)
  simp only [go_sem,fN,seval,AN,AS.result,AB,AD,AK]
  rfl
 rw [hro,if_neg (by omega)]
 have hcall:=Z1 s (by omega) (2 * s.size + 1) 0 0 (by omega) (by omega) (by omega)
 have hr:rd s (2 * s.size + 1) 0 0=rdS s:=rfl
 rw [hr] at hcall
 unfold rdV at hcall
 by_cases h1:(rdS s).e=0
 ·rw [if_pos h1]
  by_cases h2:(rdS s).i < s.size
  ·have h2i:((rdS s).i:Int) < s.size:=by omega
   rw [if_pos h2]
   unfold Nc
   repeat' (first | (with_reducible first | refine W ?_ | refine Z0 ?_ | ((first | refine Wo fun K hK=>?_ | refine Wp ?_ | refine Wq ?_ | refine Wr ?_);(try simp only [go_sem,fN,seval,eT,iR,h0,h1,h2i,dT,dF,nL]);(repeat refine Ai ?_);(try (refine hK _ ?_;clear hK K));try refine iC ?_)) | refine Cg _ (hcall) ?_)
   simp only [go_sem,fN,seval,AN,AS.result,AB,AD,AK]
   rfl
  ·have h2i:¬ ((rdS s).i:Int) < s.size:=by omega
   rw [if_neg h2]
   unfold Nc
   repeat' (first | (with_reducible first | refine W ?_ | refine Z0 ?_ | ((first | refine Wo fun K hK=>?_ | refine Wp ?_ | refine Wq ?_ | refine Wr ?_);(try simp only [go_sem,fN,seval,eT,iR,h0,h1,h2i,dT,dF,nL]);(repeat refine Ai ?_);(try (refine hK _ ?_;clear hK K));try refine iC ?_)) | refine Cg _ (hcall) ?_)
   simp only [go_sem,fN,seval,AN,AS.result,AB,AD,AK]
 ·rw [if_neg h1]
  unfold Nc
  repeat' (first | (with_reducible first | refine W ?_ | refine Z0 ?_ | ((first | refine Wo fun K hK=>?_ | refine Wp ?_ | refine Wq ?_ | refine Wr ?_);(try simp only [go_sem,fN,seval,eT,iR,h0,h1,dT,dF,nL]);(repeat refine Ai ?_);(try (refine hK _ ?_;clear hK K));try refine iC ?_)) | refine Cg _ (hcall) ?_)
  simp only [go_sem,fN,seval,AN,AS.result,AB,AD,AK]
  rfl

set_option maxRecDepth 100000
def Gu:IR :=
 (.seq (.ops [.i 2 (.mov (.c (.one (.full []))))]) (.seq (.ops [.i 11 (.buildFlat [.c (.one (.st (.str (ByteArray.mk (#[102,40,97,44,88,41]))))),.c (.one (.st (.str (ByteArray.mk (#[88]))))),.c (.one (.st (.str (ByteArray.mk (#[102,40,104,40,88,41,44,89,41]))))),.c (.one (.st (.str (ByteArray.mk (#[104,40,102,40,88,44,89,41,41])))))]),.i 12 (.buildFlat [.c (.one (.st (.str (ByteArray.mk (#[102,40,88,44,97,41]))))),.c (.one (.st (.str (ByteArray.mk (#[88]))))),.c (.one (.st (.str (ByteArray.mk (#[102,40,88,44,104,40,89,41,41]))))),.c (.one (.st (.str (ByteArray.mk (#[104,40,102,40,88,44,89,41,41]))))),.c (.one (.st (.str (ByteArray.mk (#[102,40,97,44,88,41]))))),.c (.one (.st (.str (ByteArray.mk (#[88])))))]),.i 13 (.buildFlat [.c (.one (.st (.str (ByteArray.mk (#[102,40,102,40,88,44,89,41,44,90,41]))))),.c (.one (.st (.str (ByteArray.mk (#[102,40,88,44,102,40,89,44,90,41,41])))))]),.i 14 (.buildFlat [.c (.one (.st (.str (ByteArray.mk (#[107,40,107,40,88,41,41]))))),.c (.one (.st (.str (ByteArray.mk (#[88]))))),.c (.one (.st (.str (ByteArray.mk (#[107,40,97,41]))))),.c (.one (.st (.str (ByteArray.mk (#[97]))))),.c (.one (.st (.str (ByteArray.mk (#[107,40,102,40,88,44,89,41,41]))))),.c (.one (.st (.str (ByteArray.mk (#[102,40,107,40,89,41,44,107,40,88,41,41])))))]),.i 15 (.buildFlat [.c (.one (.st (.str (ByteArray.mk (#[102,40,88,44,88,41]))))),.c (.one (.st (.str (ByteArray.mk (#[88])))))]),.i 16 (.buildFlat [.c (.one (.st (.str (ByteArray.mk (#[104,40,107,40,88,41,41]))))),.c (.one (.st (.str (ByteArray.mk (#[107,40,104,40,88,41,41]))))),.c (.one (.st (.str (ByteArray.mk (#[104,40,104,40,88,41,41]))))),.c (.one (.st (.str (ByteArray.mk (#[104,40,88,41])))))]),.i 17 (.buildFlat [.c (.one (.st (.str (ByteArray.mk (#[102,40,97,44,98,41]))))),.c (.one (.st (.str (ByteArray.mk (#[99]))))),.c (.one (.st (.str (ByteArray.mk (#[97]))))),.c (.one (.st (.str (ByteArray.mk (#[98])))))]),.i 18 (.buildFlat [.c (.one (.st (.str (ByteArray.mk (#[103,40,88,44,89,41]))))),.c (.one (.st (.str (ByteArray.mk (#[102,40,89,44,88,41])))))]),.i 19 (.buildFlat [.c (.one (.st (.str (ByteArray.mk (#[104,40,97,41]))))),.c (.one (.st (.str (ByteArray.mk (#[98]))))),.c (.one (.st (.str (ByteArray.mk (#[104,40,97,41]))))),.c (.one (.st (.str (ByteArray.mk (#[99])))))]),.i 20 (.buildFlat [.c (.one (.st (.str (ByteArray.mk (#[102,40,88,44,103,40,89,44,90,41,41]))))),.c (.one (.st (.str (ByteArray.mk (#[103,40,102,40,88,44,89,41,44,102,40,88,44,90,41,41])))))]),.i 21 (.buildSlice false 26 1 [.t 11,.t 12,.t 13,.t 14,.t 15,.t 16,.t 17,.t 18,.t 19,.t 20]),.m 3 21]) (.seq (.ops [.m 22 3,.m 23 0,.m 24 3,.i 25 (.len false (.t 24)),.i 26 (.call 9 [.t 23,.t 25]),.i 27 (.indexAddr 1 (.t 22) (.t 26)),.l 28 27,.m 4 28]) (.seq (.ops [.i 5 (.mov (.c (.one (.full []))))]) (.seq (.seq (.ops [.i 6 (.mov (.n 0))]) (.block 0 (.loop (.seq (.seq (.ops [.m 29 6,.i 30 (.bin .add (.t 29) (.n 1)),.m 31 4,.i 32 (.len false (.t 31)),.i 33 (.bin .lss (.t 30) (.t 32))]) (.cond (.t 33) .skip (.exit 0))) (.seq (.block 1 (.seq (.ops [.m 37 4,.m 38 6,.i 39 (.indexAddr 1 (.t 37) (.t 38)),.l 40 39,.i 41 (.call 30 [.t 40]),.m 36 41,.i 42 (.extract 0 (.t 36)),.i 43 (.extract 1 (.t 36)),.i 7 (.alloc 37 [.st (.str (ByteArray.mk (#[]))),.full []]),.s 2 7 42,.m 8 43]) (.seq (.ops [.m 45 4,.m 46 6,.i 47 (.bin .add (.t 46) (.n 1)),.i 48 (.indexAddr 1 (.t 45) (.t 47)),.l 49 48,.i 50 (.call 30 [.t 49]),.m 44 50,.i 51 (.extract 0 (.t 44)),.i 52 (.extract 1 (.t 44)),.i 9 (.alloc 37 [.st (.str (ByteArray.mk (#[]))),.full []]),.s 2 9 51,.m 10 52]) (.ops [.m 53 5,.L 54 2 7,.L 55 2 9,.i 56 (.build [.st (.str (ByteArray.mk (#[]))),.full [],.st (.str (ByteArray.mk (#[]))),.full []] [(0,2,.t 54),(2,2,.t 55)]),.i 57 (.buildSlice false 40 4 [.t 56]),.i 58 (.append false 40 4 80 (.t 53) (.t 57)),.m 5 58])))) (.ops [.m 34 6,.i 35 (.bin .add (.t 34) (.n 2)),.m 6 35])))))) (.seq (.ops [.m 59 5,.m 2 59]) .ret))))))
theorem MB:OkF Tryz.prog 12 60 [] Gu [.t 2]:=.of Tryz.func12 rfl rfl (by kernel_rfl) rfl

def Nd:IR :=
 (.seq (.ops [.i 4 (.mov (.n 0))]) (.seq (.seq (.ops [.m 5 0,.i 6 (.bin .lss (.t 5) (.n 0))]) (.cond (.t 6) (.ops [.m 7 0,.i 8 (.bin .add (.t 7) (.n 1)),.i 9 (.un .neg (.t 8)),.m 0 9]) .skip)) (.seq (.ops [.m 10 0,.m 11 1,.i 12 (.bin .rem (.t 10) (.t 11)),.m 4 12]) .ret)))
theorem VN:OkF Tryz.prog 9 13 [] Nd [.t 4]:=.of Tryz.func9 rfl rfl (by kernel_rfl) rfl
def QT:IR :=
 (.seq (.ops [.i 4 (.mov (.n 0))]) (.seq (.seq (.ops [.m 5 0,.i 6 (.len false (.t 5)),.i 7 (.bin .eql (.t 6) (.n 0))]) (.cond (.t 7) (.seq (.ops [.m 8 1,.i 9 (.bin .mul (.t 8) (.n 31)),.m 4 9]) .ret) .skip)) (.seq (.ops [.m 10 0,.m 11 1,.m 12 0,.i 13 (.len false (.t 12)),.i 14 (.bin .rem (.t 11) (.t 13)),.i 15 (.indexAddr 1 (.t 10) (.t 14)),.l 16 15,.i 17 (.call 9 [.t 16,.n 1000003]),.m 18 1,.m 19 0,.i 20 (.len false (.t 19)),.i 21 (.bin .quo (.t 18) (.t 20)),.i 22 (.bin .mul (.t 21) (.n 7919)),.i 23 (.bin .add (.t 17) (.t 22)),.m 4 23]) .ret)))
theorem XQ:OkF Tryz.prog 76 24 [] QT [.t 4]:=.of Tryz.func76 rfl rfl (by kernel_rfl) rfl
def N4:IR :=
 (.seq (.ops [.i 2 (.alloc 37 [.st (.str (ByteArray.mk (#[]))),.full []])]) (.seq (.ops [.m 3 0,.i 4 (.build [.st (.str (ByteArray.mk (#[]))),.full []] [(0,1,.t 3)]),.s 2 2 4]) .ret))
theorem Ui:OkF Tryz.prog 14 5 [] N4 [.cell 2 true 2]:=.of Tryz.func14 rfl rfl (by kernel_rfl) rfl
def EM:IR :=
 (.seq (.ops [.i 8 (.alloc 37 [.st (.str (ByteArray.mk (#[]))),.full []]),.i 9 (.mov (.n 0))]) (.seq (.ops [.m 18 0,.m 19 1,.i 20 (.call 76 [.t 18,.t 19]),.m 10 20]) (.seq (.ops [.m 21 1,.i 22 (.bin .add (.t 21) (.n 1)),.m 1 22]) (.seq (.seq (.ops [.m 23 2,.i 24 (.bin .lss (.t 23) (.n 3)),.m 25 24,.mk (some 26) (some (25,false)) (.mov (.t 10)) .no,.mk (some 27) (some (25,false)) (.call 9 [.t 26,.n 5]) .no,.mk (some 28) (some (25,false)) (.bin .lss (.t 27) (.n 2)) .no,.i 29 (.pick (.t 25) (.c (.one (.st (.bool true)))) (.t 28))]) (.cond (.t 29) (.seq (.seq (.ops [.m 30 3,.i 31 (.bin .gtr (.t 30) (.n 0)),.m 32 31,.mk (some 33) (some (32,true)) (.mov (.t 10)) .no,.mk (some 34) (some (32,true)) (.bin .quo (.t 33) (.n 5)) .no,.mk (some 35) (some (32,true)) (.call 9 [.t 34,.n 3]) .no,.mk (some 36) (some (32,true)) (.bin .gtr (.t 35) (.n 0)) .no,.i 37 (.pick (.t 32) (.t 36) (.c (.one (.st (.bool false)))))]) (.cond (.t 37) (.seq (.ops [.i 38 (.buildFlat [.c (.one (.st (.str (ByteArray.mk (#[88]))))),.c (.one (.st (.str (ByteArray.mk (#[89]))))),.c (.one (.st (.str (ByteArray.mk (#[90]))))),.c (.one (.st (.str (ByteArray.mk (#[85])))))]),.m 39 10,.i 40 (.bin .quo (.t 39) (.n 15)),.m 41 3,.i 42 (.call 9 [.t 40,.t 41]),.i 43 (.indexAddr 1 (.t 38) (.t 42)),.l 44 43,.i 45 (.call 14 [.t 44]),.m 46 1,.s 2 8 45,.m 9 46]) .ret) .skip)) (.seq (.ops [.i 47 (.buildFlat [.c (.one (.st (.str (ByteArray.mk (#[97]))))),.c (.one (.st (.str (ByteArray.mk (#[98]))))),.c (.one (.st (.str (ByteArray.mk (#[99])))))]),.m 48 10,.i 49 (.bin .quo (.t 48) (.n 15)),.i 50 (.call 9 [.t 49,.n 3]),.i 51 (.indexAddr 1 (.t 47) (.t 50)),.l 52 51,.i 53 (.call 14 [.t 52]),.m 54 1,.s 2 8 53,.m 9 54]) .ret)) .skip)) (.seq (.seq (.ops [.m 55 10,.i 56 (.bin .quo (.t 55) (.n 5)),.i 57 (.call 9 [.t 56,.n 4])]) (.block 0 (.seq (.ops [.i 59 (.bin .eql (.t 57) (.n 0)),.m 58 59]) (.cond (.t 58) (.seq (.ops [.m 61 0,.m 62 1,.m 63 2,.i 64 (.bin .sub (.t 63) (.n 1)),.m 65 3,.i 66 (.call 38 [.t 61,.t 62,.t 64,.t 65]),.m 60 66,.i 67 (.extract 0 (.t 60)),.i 68 (.extract 1 (.t 60)),.i 11 (.alloc 37 [.st (.str (ByteArray.mk (#[]))),.full []]),.s 2 11 67,.m 12 68]) (.seq (.ops [.L 69 2 11,.i 70 (.buildSlice false 37 2 [.t 69]),.i 71 (.build [.st (.str (ByteArray.mk (#[]))),.full []] [(0,1,.c (.one (.st (.str (ByteArray.mk (#[104])))))),(1,1,.t 70)]),.m 72 12,.s 2 8 71,.m 9 72]) .ret)) (.seq (.ops [.i 74 (.bin .eql (.t 57) (.n 1)),.m 73 74]) (.cond (.t 73) (.seq (.ops [.m 76 0,.m 77 1,.m 78 2,.i 79 (.bin .sub (.t 78) (.n 1)),.m 80 3,.i 81 (.call 38 [.t 76,.t 77,.t 79,.t 80]),.m 75 81,.i 82 (.extract 0 (.t 75)),.i 83 (.extract 1 (.t 75)),.i 13 (.alloc 37 [.st (.str (ByteArray.mk (#[]))),.full []]),.s 2 13 82,.m 14 83]) (.seq (.ops [.L 84 2 13,.i 85 (.buildSlice false 37 2 [.t 84]),.i 86 (.build [.st (.str (ByteArray.mk (#[]))),.full []] [(0,1,.c (.one (.st (.str (ByteArray.mk (#[107])))))),(1,1,.t 85)]),.m 87 14,.s 2 8 86,.m 9 87]) .ret)) .skip)))))) (.seq (.ops [.m 89 0,.m 90 1,.m 91 2,.i 92 (.bin .quo (.t 91) (.n 2)),.m 93 3,.i 94 (.call 38 [.t 89,.t 90,.t 92,.t 93]),.m 88 94,.i 95 (.extract 0 (.t 88)),.i 96 (.extract 1 (.t 88)),.i 15 (.alloc 37 [.st (.str (ByteArray.mk (#[]))),.full []]),.s 2 15 95,.m 16 96]) (.seq (.ops [.m 98 0,.m 99 16,.m 100 2,.i 101 (.bin .quo (.t 100) (.n 2)),.m 102 3,.i 103 (.call 38 [.t 98,.t 99,.t 101,.t 102]),.m 97 103,.i 104 (.extract 0 (.t 97)),.i 105 (.extract 1 (.t 97)),.i 17 (.alloc 37 [.st (.str (ByteArray.mk (#[]))),.full []]),.s 2 17 104,.m 16 105]) (.seq (.ops [.i 106 (.buildFlat [.c (.one (.st (.str (ByteArray.mk (#[102]))))),.c (.one (.st (.str (ByteArray.mk (#[103])))))]),.m 107 10,.i 108 (.bin .quo (.t 107) (.n 5)),.i 109 (.call 9 [.t 108,.n 4]),.i 110 (.bin .sub (.t 109) (.n 2)),.i 111 (.indexAddr 1 (.t 106) (.t 110)),.l 112 111,.L 113 2 15,.L 114 2 17,.i 115 (.buildSlice false 37 2 [.t 113,.t 114]),.i 116 (.build [.st (.str (ByteArray.mk (#[]))),.full []] [(0,1,.t 112),(1,1,.t 115)]),.m 117 16,.s 2 8 116,.m 9 117]) .ret))))))))
theorem Fq:OkF Tryz.prog 38 118 [] EM [.cell 8 true 2,.t 9]:=.of Tryz.func38 rfl rfl (by kernel_rfl) rfl
def Kj:IR :=
 (.seq (.ops [.i 8 (.alloc 37 [.st (.str (ByteArray.mk (#[]))),.full []])]) (.seq (.ops [.m 12 0,.m 13 1,.m 14 2,.m 15 3,.i 16 (.call 38 [.t 12,.t 13,.t 14,.t 15]),.m 11 16,.i 17 (.extract 0 (.t 11)),.i 18 (.extract 1 (.t 11)),.i 9 (.alloc 37 [.st (.str (ByteArray.mk (#[]))),.full []]),.s 2 9 17,.m 10 18]) (.seq (.ops [.L 19 2 9,.s 2 8 19]) .ret)))
theorem P_:OkF Tryz.prog 16 20 [] Kj [.cell 8 true 2]:=.of Tryz.func16 rfl rfl (by kernel_rfl) rfl

def DL (c n:Int):Int:=(if c < 0 then -(c + 1) else c) % n
theorem Bn (c n:Int) (hn:1≤n):0≤DL c n∧DL c n < n:=⟨Int.emod_nonneg _ (by omega),Int.emod_lt_of_pos _ (by omega)⟩
theorem IL {x n:Int} (hx:0≤x) (hn:1≤n):x.tmod n=x % n∧0≤x % n∧x % n < n∧x % n≤x:=by
 rw [Int.tmod_eq_emod_of_nonneg hx]
 refine ⟨rfl,Int.emod_nonneg _ (by omega),Int.emod_lt_of_pos _ (by omega),?_⟩
 by_cases h:x < n
 ·rw [Int.emod_eq_of_lt hx h];exact Int.le_refl _
 ·have:=Int.emod_lt_of_pos x (show 0 < n by omega);omega
theorem Fw {x n:Int} (hx:0≤x) (hn:1≤n):x.tdiv n=x / n∧0≤x / n∧x / n≤x:=by
 rw [Int.tdiv_eq_ediv_of_nonneg hx]
 exact ⟨rfl,Int.ediv_nonneg hx (by omega),Int.ediv_le_self _ hx⟩
theorem E7 (c n:Int) (hc:inR .i64 c) (hn:1≤n):AU Tryz.prog 9 [AO c,AO n] (AO (DL c n)):=by
 rw [Dt] at hc
 refine VN.ac fun C hC=>?_
 unfold Nd
 repeat' with_reducible first | refine W ?_ | refine Z0 ?_ | ((first | refine Wo fun K hK=>?_ | refine Wq ?_ | refine Wr ?_);(try simp only [go_sem,fN,seval,eT,iR]);(repeat refine Ai ?_);(try (refine hK _ ?_;clear hK K)))
 with_reducible refine Wp ?_
 simp only [go_sem,fN,seval,true_implies,false_implies,implies_true,dT,dF,nL]
 (try with_reducible refine iC ?_)
 refine ⟨fun h0=>?_,fun h0=>?_⟩
 ·have h1:=IL (x:=0 - (c + 1)) (n:=n) (by omega) hn
  repeat' with_reducible first | refine W ?_ | refine Z0 ?_ | ((first | refine Wo fun K hK=>?_ | refine Wq ?_ | refine Wr ?_);(try simp only [go_sem,fN,seval,eT,iR,h1.1]);(repeat refine Ai ?_);(try (refine hK _ ?_;clear hK K)))
  simp only [go_sem,fN,seval,AN,AS.result,AB,AD,AK]
  unfold DL
  rw [if_pos h0]
  congr 5
  omega
 ·have h1:=IL (x:=c) (n:=n) (by omega) hn
  repeat' with_reducible first | refine W ?_ | refine Z0 ?_ | ((first | refine Wo fun K hK=>?_ | refine Wq ?_ | refine Wr ?_);(try simp only [go_sem,fN,seval,eT,iR,h1.1]);(repeat refine Ai ?_);(try (refine hK _ ?_;clear hK K)))
  simp only [go_sem,fN,seval,AN,AS.result,AB,AD,AK]
  unfold DL
  rw [if_neg h0]
def Sc (l:List Int) (i:Nat):Int:=if l.length=0 then i * 31 else DL (l.getD (i % l.length) 0) 1000003 + ((i / l.length:Nat):Int) * 7919
theorem TK (l:List Int) (i:Nat):0≤Sc l i∧Sc l i≤1000003 + i * 7919:=by
 unfold Sc
 split
 ·omega
 ·have:=Bn (l.getD (i % l.length) 0) 1000003 (by omega)
  have h2:i / l.length≤i:=Nat.div_le_self _ _
  generalize i / l.length=q at *
  omega
theorem AAY (l:List Int) (i:Nat) (hi:i≤1000000) (hl:∀ n ∈ l,inR .i64 n) (hm:l.length≤maxLen):AU Tryz.prog 76 [Hx l,AO i] (AO (Sc l i)):=by
 rw [Fr] at hm
 refine XQ.ac fun C hC=>?_
 unfold QT
 repeat' with_reducible first | refine W ?_ | refine Z0 ?_ | ((first | refine Wo fun K hK=>?_ | refine Wq ?_ | refine Wr ?_);(try simp only [go_sem,fN,seval,eT,iR]);(repeat refine Ai ?_);(try (refine hK _ ?_;clear hK K)))
 with_reducible refine Wp ?_
 simp only [go_sem,fN,seval,true_implies,false_implies,implies_true,dT,dF,nL]
 (try with_reducible refine iC ?_)
 refine ⟨fun h0=>?_,fun h0=>?_⟩
 ·repeat' with_reducible first | refine W ?_ | refine Z0 ?_ | ((first | refine Wo fun K hK=>?_ | refine Wq ?_ | refine Wr ?_);(try simp only [go_sem,fN,seval,eT,iR]);(repeat refine Ai ?_);(try (refine hK _ ?_;clear hK K)))
  simp only [go_sem,fN,seval,AN,AS.result,AB,AD,AK]
  unfold Sc
  rw [if_pos (by omega)]
 ·have h1:=IL (x:=(i:Int)) (n:=(l.length:Int)) (by omega) (by omega)
  have h2:=Fw (x:=(i:Int)) (n:=(l.length:Int)) (by omega) (by omega)
  have hlt:i % l.length < l.length:=Nat.mod_lt _ (by omega)
  obtain ⟨a,ha⟩:=Ag hlt
  have e1:((i:Int) % (l.length:Int))=((i % l.length:Nat):Int):=by omega
  have e2:((i:Int) / (l.length:Int))=((i / l.length:Nat):Int):=by omega
  have h3:i / l.length≤i:=Nat.div_le_self _ _
  repeat' with_reducible first | refine W ?_ | refine Z0 ?_ | ((first | refine Wo fun K hK=>?_ | refine Wq ?_ | refine Wr ?_);(try simp only [go_sem,fN,seval,eT,iR,h1.1,h2.1,e1,e2,ha]);(repeat refine Ai ?_);(try (refine hK _ ?_;clear hK K)))
  refine ⟨_,E7 a 1000003 (hl a (AQ ha)) (by omega),?_⟩
  have hp:=Bn a 1000003 (by omega)
  repeat' with_reducible first | refine W ?_ | refine Z0 ?_ | ((first | refine Wo fun K hK=>?_ | refine Wq ?_ | refine Wr ?_);(try simp only [go_sem,fN,seval,eT,iR,h1.1,h2.1,e1,e2]);(repeat refine Ai ?_);(try (refine hK _ ?_;clear hK K)))
  simp only [go_sem,fN,seval,AN,AS.result,AB,AD,AK]
  unfold Sc
  rw [if_neg (by omega),List.getD_eq_getElem?_getD,ha]
  rfl
theorem J1 (s:ByteArray):AU Tryz.prog 14 [Bt s] (aTm (.mk s [])):=by
 refine Ui.ac fun C hC=>?_
 unfold N4
 repeat' with_reducible first | refine W ?_ | refine Z0 ?_ | ((first | refine Wo fun K hK=>?_ | refine Wq ?_ | refine Wr ?_);(try simp only [go_sem,fN,seval,eT,iR]);(repeat refine Ai ?_);(try (refine hK _ ?_;clear hK K)))
 simp only [go_sem,fN,seval,AN,AS.result,AB,AD,AK]
 rfl
theorem Mh {n:ByteArray} {xs:List Tm} (h1:Ay n=true) (h2:AJ n=false) (hx:∀ x ∈ xs,x.chk=0):(Tm.mk n xs).chk=0:=by
 have h0:Bl (Tm.mk n xs)=0:=by
  unfold Bl
  rw [Tm.name_mk,if_pos h1,if_neg (by rw [h2];simp)]
 rw [Tm.chk_eq,if_pos h0,Tm.args_mk]
 induction xs with
 | nil=>rfl
 | cons x xs ih =>
  simp only [Tm.chkL]
  rw [if_pos (hx x (by simp))]
  refine ih (fun y hy=>hx y (by simp [hy])) ?_
  unfold Bl
  rw [Tm.name_mk,if_pos h1,if_neg (by rw [h2];simp)]
def EX (l:List Int) (at_:Nat) (most vars:Int) (t:Tm):Prop :=
 AU Tryz.prog 38 [Hx l,AO at_,AO most,AO vars] (.tup [aTm t,AO ((at_ + t.size:Nat):Int)])
abbrev C9:List ByteArray:=[⟨#[88]⟩,⟨#[89]⟩,⟨#[90]⟩,⟨#[85]⟩,⟨#[97]⟩,⟨#[98]⟩,⟨#[99]⟩,⟨#[102]⟩,⟨#[103]⟩,⟨#[104]⟩,⟨#[107]⟩]
def LS (vars:Int) (t:Tm):Prop:=∀ k ∈ t.knots,k.name ∈ C9∧(vars=1→AJ k.name=true→k.name=⟨#[88]⟩)
theorem O2 {k:Tm}:∀ {xs:List Tm},k ∈ Tm.knotsL xs→∃ x ∈ xs,k ∈ x.knots
 | [],h=>by cases h
 | x :: xs,h=>by
  rw [Tm.knotsL,List.mem_append] at h
  rcases h with h | h
  ·exact ⟨x,by simp,h⟩
  ·obtain ⟨y,hy,hk⟩:=O2 h
   exact ⟨y,by simp [hy],hk⟩
theorem Ef {vars:Int} {n:ByteArray} {xs:List Tm} (hn:n ∈ C9) (hv:AJ n=true→vars=1→n=⟨#[88]⟩) (hx:∀ x ∈ xs,LS vars x):LS vars (.mk n xs):=by
 intro k hk
 rw [Tm.knots] at hk
 rcases List.mem_cons.1 hk with rfl | hk
 ·exact ⟨hn,fun h1 h2=>hv h2 h1⟩
 ·obtain ⟨x,hx',hk⟩:=O2 hk
  exact hx x hx' k hk
mutual
def Tm.lvs:Tm→Nat
 | .mk _ xs=>(if xs.isEmpty then 1 else 0) + Tm.lvsL xs
def Tm.lvsL:List Tm→Nat
 | []=>0
 | t :: ts=>t.lvs + Tm.lvsL ts
end
def H_ (m:Nat):Nat:=if m < 3 then 1 else if m < 6 then 2 else if m < 10 then 4 else m
theorem OI (m:Nat):1≤H_ m:=by unfold H_;split <;> (try split) <;> (try split) <;> omega
theorem NT {m:Nat} (h:3≤m):H_ (m - 1)≤H_ m:=by unfold H_;(repeat' split) <;> omega
theorem Vf {m:Nat} (h:3≤m):H_ (m / 2) + H_ (m / 2)≤H_ m:=by unfold H_;(repeat' split) <;> omega
def NoU (t:Tm):Prop:=∀ k ∈ t.knots,k.name ≠ ⟨#[85]⟩
theorem MZ {n:ByteArray} {xs:List Tm} (hn:n ≠ ⟨#[85]⟩) (hx:∀ x ∈ xs,NoU x):NoU (.mk n xs):=by
 intro k hk
 rw [Tm.knots] at hk
 rcases List.mem_cons.1 hk with rfl | hk
 ·exact hn
 ·obtain ⟨x,hx',hk⟩:=O2 hk
  exact hx x hx' k hk
theorem Zy (l:List Int) (hl:∀ n ∈ l,inR .i64 n) (hm:l.length≤maxLen) (vars:Int) (hv:1≤vars∧vars≤4):∀ (most:Nat) (at_:Nat),most≤1000→at_ + 2 * most≤900000→∃ t:Tm,EX l at_ most vars t∧t.size + 1≤max 2 (2 * most)∧t.chk=0∧LS vars t∧(t.lvs≤H_ most∧(vars=3→NoU t)):=by
 intro most
 induction most using Nat.strongRecOn with
 | _ most ih =>
 intro at_ h1000 hat
 have hraw:=AAY l at_ (by omega) hl hm
 have hr:=TK l at_
 generalize Sc l at_=c at hraw hr
 have d5:=Fw (x:=c) (n:=5) (by omega) (by omega)
 have d15:=Fw (x:=c) (n:=15) (by omega) (by omega)
 have p5:=E7 c 5 (by rw [Dt];omega) (by omega)
 have q5:=Bn c 5 (by omega)
 have p53:=E7 (c / 5) 3 (by rw [Dt];omega) (by omega)
 have q53:=Bn (c / 5) 3 (by omega)
 have p54:=E7 (c / 5) 4 (by rw [Dt];omega) (by omega)
 have q54:=Bn (c / 5) 4 (by omega)
 have p15:=E7 (c / 15) vars (by rw [Dt];omega) (by omega)
 have q15:=Bn (c / 15) vars (by omega)
 have p153:=E7 (c / 15) 3 (by rw [Dt];omega) (by omega)
 have q153:=Bn (c / 15) 3 (by omega)
 generalize DL c 5=x5 at p5 q5
 generalize DL (c / 5) 3=x53 at p53 q53
 generalize DL (c / 5) 4=x54 at p54 q54
 generalize DL (c / 15) vars=x15 at p15 q15
 generalize DL (c / 15) 3=x153 at p153 q153
 have hv0:vars > 0:=by omega
 by_cases hleaf:(most:Int) < 3 ∨ x5 < 2
 ·by_cases hvar:0 < x53
  ·obtain ⟨nm,hnm,hch,hX0,hX,hXU⟩:∃ nm,[([.str ⟨#[88]⟩]:List SV),[.str ⟨#[89]⟩],[.str ⟨#[90]⟩],[.str ⟨#[85]⟩]][x15.toNat]?=some [.str nm]∧(Tm.mk nm []).chk=0∧nm ∈ C9∧(vars=1→nm=⟨#[88]⟩)∧(vars=3→nm ≠ ⟨#[85]⟩):=by
    have:x15.toNat=0 ∨ x15.toNat=1 ∨ x15.toNat=2 ∨ x15.toNat=3:=by omega
    rcases this with h | h | h | h <;> rw [h] <;> first | exact ⟨_,rfl,by decide,by simp [C9],fun _=>rfl,fun _=>by decide⟩ | exact ⟨_,rfl,by decide,by simp [C9],fun h1=>by omega,fun _=>by decide⟩ | exact ⟨_,rfl,by decide,by simp [C9],fun h1=>by omega,fun h1=>by omega⟩
   refine ⟨.mk nm [],?_,by simp only [Tm.size,Tm.sizes];omega,hch,Ef hX0 (fun _ h1=>hX h1) (by simp),(by have:=OI most;simp [Tm.lvs,Tm.lvsL];omega),fun h3=>MZ (hXU h3) (by simp)⟩
   unfold EX
   refine Fq.ac fun C hC=>?_
   unfold EM
   repeat' with_reducible first | refine W ?_ | refine Z0 ?_ | ((first | refine Wo fun K hK=>?_ | refine Wq ?_ | refine Wr ?_);(try simp only [go_sem,fN,seval,eT,iR]);(repeat refine Ai ?_);(try (refine hK _ ?_;clear hK K)))
   refine ⟨_,hraw,?_⟩
   by_cases hm3:(most:Int) < 3
   ·repeat' with_reducible first | refine W ?_ | refine Z0 ?_ | ((first | refine Wo fun K hK=>?_ | refine Wq ?_ | refine Wr ?_);(try simp only [go_sem,fN,seval,eT,iR,hm3]);(repeat refine Ai ?_);(try (refine hK _ ?_;clear hK K)))
    with_reducible refine Wp ?_
    simp only [go_sem,fN,seval,true_implies,false_implies,implies_true,dT,dF,nL]
    (try with_reducible refine iC ?_)
    repeat' with_reducible first | refine W ?_ | refine Z0 ?_ | ((first | refine Wo fun K hK=>?_ | refine Wq ?_ | refine Wr ?_);(try simp only [go_sem,fN,seval,eT,iR,hv0,d5.1]);(repeat refine Ai ?_);(try (refine hK _ ?_;clear hK K)))
    refine ⟨_,p53,?_⟩
    repeat' with_reducible first | refine W ?_ | refine Z0 ?_ | ((first | refine Wo fun K hK=>?_ | refine Wq ?_ | refine Wr ?_);(try simp only [go_sem,fN,seval,eT,iR,hv0,d5.1,hvar]);(repeat refine Ai ?_);(try (refine hK _ ?_;clear hK K)))
    with_reducible refine Wp ?_
    simp only [go_sem,fN,seval,true_implies,false_implies,implies_true,dT,dF,nL]
    (try with_reducible refine iC ?_)
    repeat' with_reducible first | refine W ?_ | refine Z0 ?_ | ((first | refine Wo fun K hK=>?_ | refine Wq ?_ | refine Wr ?_);(try simp only [go_sem,fN,seval,eT,iR,d15.1]);(repeat refine Ai ?_);(try (refine hK _ ?_;clear hK K)))
    refine ⟨_,p15,?_⟩
    repeat' with_reducible first | refine W ?_ | refine Z0 ?_ | ((first | refine Wo fun K hK=>?_ | refine Wq ?_ | refine Wr ?_);(try simp only [go_sem,fN,seval,eT,iR,hnm,q15.1]);(repeat refine Ai ?_);(try (refine hK _ ?_;clear hK K)))
    refine ⟨_,J1 nm,?_⟩
    repeat' with_reducible first | refine W ?_ | refine Z0 ?_ | ((first | refine Wo fun K hK=>?_ | refine Wq ?_ | refine Wr ?_);(try simp only [go_sem,fN,seval,eT,iR]);(repeat refine Ai ?_);(try (refine hK _ ?_;clear hK K)))
    simp only [go_sem,fN,seval,AN,AS.result,AB,AD,AK]
    simp only [AV.tup.injEq,AV.agg.injEq,AV.one.injEq,AC.st.injEq,SV.int.injEq,SV.str.injEq,SV.bool.injEq,SV.list.injEq,List.cons.injEq,Option.some.injEq,true_and,and_true,eq_self,Af,Tm.args_mk,Tm.name_mk,List.map_cons,List.map_nil,List.map_append,Tm.size,Tm.sizes]
    omega
   ·have h5:x5 < 2:=by omega
    repeat' (first | (with_reducible first | refine W ?_ | refine Z0 ?_ | ((first | refine Wo fun K hK=>?_ | refine Wq ?_ | refine Wr ?_);(try simp only [go_sem,fN,seval,eT,iR,hm3,h5]);(repeat refine Ai ?_);(try (refine hK _ ?_;clear hK K)))) | refine Cg _ (p5) ?_)
    with_reducible refine Wp ?_
    simp only [go_sem,fN,seval,true_implies,false_implies,implies_true,dT,dF,nL]
    (try with_reducible refine iC ?_)
    repeat' with_reducible first | refine W ?_ | refine Z0 ?_ | ((first | refine Wo fun K hK=>?_ | refine Wq ?_ | refine Wr ?_);(try simp only [go_sem,fN,seval,eT,iR,hv0,d5.1]);(repeat refine Ai ?_);(try (refine hK _ ?_;clear hK K)))
    refine ⟨_,p53,?_⟩
    repeat' with_reducible first | refine W ?_ | refine Z0 ?_ | ((first | refine Wo fun K hK=>?_ | refine Wq ?_ | refine Wr ?_);(try simp only [go_sem,fN,seval,eT,iR,hv0,d5.1,hvar]);(repeat refine Ai ?_);(try (refine hK _ ?_;clear hK K)))
    with_reducible refine Wp ?_
    simp only [go_sem,fN,seval,true_implies,false_implies,implies_true,dT,dF,nL]
    (try with_reducible refine iC ?_)
    repeat' with_reducible first | refine W ?_ | refine Z0 ?_ | ((first | refine Wo fun K hK=>?_ | refine Wq ?_ | refine Wr ?_);(try simp only [go_sem,fN,seval,eT,iR,d15.1]);(repeat refine Ai ?_);(try (refine hK _ ?_;clear hK K)))
    refine ⟨_,p15,?_⟩
    repeat' with_reducible first | refine W ?_ | refine Z0 ?_ | ((first | refine Wo fun K hK=>?_ | refine Wq ?_ | refine Wr ?_);(try simp only [go_sem,fN,seval,eT,iR,hnm,q15.1]);(repeat refine Ai ?_);(try (refine hK _ ?_;clear hK K)))
    refine ⟨_,J1 nm,?_⟩
    repeat' with_reducible first | refine W ?_ | refine Z0 ?_ | ((first | refine Wo fun K hK=>?_ | refine Wq ?_ | refine Wr ?_);(try simp only [go_sem,fN,seval,eT,iR]);(repeat refine Ai ?_);(try (refine hK _ ?_;clear hK K)))
    simp only [go_sem,fN,seval,AN,AS.result,AB,AD,AK]
    simp only [AV.tup.injEq,AV.agg.injEq,AV.one.injEq,AC.st.injEq,SV.int.injEq,SV.str.injEq,SV.bool.injEq,SV.list.injEq,List.cons.injEq,Option.some.injEq,true_and,and_true,eq_self,Af,Tm.args_mk,Tm.name_mk,List.map_cons,List.map_nil,List.map_append,Tm.size,Tm.sizes]
    omega
  ·obtain ⟨nm,hnm,hch,hX0,hX⟩:∃ nm,[([.str ⟨#[97]⟩]:List SV),[.str ⟨#[98]⟩],[.str ⟨#[99]⟩]][x153.toNat]?=some [.str nm]∧(Tm.mk nm []).chk=0∧nm ∈ C9∧AJ nm=false:=by
    have:x153.toNat=0 ∨ x153.toNat=1 ∨ x153.toNat=2:=by omega
    rcases this with h | h | h <;> rw [h] <;> exact ⟨_,rfl,by decide,by simp [C9],by decide⟩
   refine ⟨.mk nm [],?_,by simp only [Tm.size,Tm.sizes];omega,hch,Ef hX0 (fun h=>by rw [hX] at h;cases h) (by simp),(by have:=OI most;simp [Tm.lvs,Tm.lvsL];omega),fun h3=>MZ (fun e=>by rw [e] at hX;exact absurd hX (by decide)) (by simp)⟩
   unfold EX
   refine Fq.ac fun C hC=>?_
   unfold EM
   repeat' with_reducible first | refine W ?_ | refine Z0 ?_ | ((first | refine Wo fun K hK=>?_ | refine Wq ?_ | refine Wr ?_);(try simp only [go_sem,fN,seval,eT,iR]);(repeat refine Ai ?_);(try (refine hK _ ?_;clear hK K)))
   refine ⟨_,hraw,?_⟩
   by_cases hm3:(most:Int) < 3
   ·repeat' with_reducible first | refine W ?_ | refine Z0 ?_ | ((first | refine Wo fun K hK=>?_ | refine Wq ?_ | refine Wr ?_);(try simp only [go_sem,fN,seval,eT,iR,hm3]);(repeat refine Ai ?_);(try (refine hK _ ?_;clear hK K)))
    with_reducible refine Wp ?_
    simp only [go_sem,fN,seval,true_implies,false_implies,implies_true,dT,dF,nL]
    (try with_reducible refine iC ?_)
    repeat' with_reducible first | refine W ?_ | refine Z0 ?_ | ((first | refine Wo fun K hK=>?_ | refine Wq ?_ | refine Wr ?_);(try simp only [go_sem,fN,seval,eT,iR,hv0,d5.1]);(repeat refine Ai ?_);(try (refine hK _ ?_;clear hK K)))
    refine ⟨_,p53,?_⟩
    repeat' with_reducible first | refine W ?_ | refine Z0 ?_ | ((first | refine Wo fun K hK=>?_ | refine Wq ?_ | refine Wr ?_);(try simp only [go_sem,fN,seval,eT,iR,hv0,d5.1,hvar]);(repeat refine Ai ?_);(try (refine hK _ ?_;clear hK K)))
    with_reducible refine Wp ?_
    simp only [go_sem,fN,seval,true_implies,false_implies,implies_true,dT,dF,nL]
    (try with_reducible refine iC ?_)
    repeat' with_reducible first | refine W ?_ | refine Z0 ?_ | ((first | refine Wo fun K hK=>?_ | refine Wq ?_ | refine Wr ?_);(try simp only [go_sem,fN,seval,eT,iR,d15.1]);(repeat refine Ai ?_);(try (refine hK _ ?_;clear hK K)))
    refine ⟨_,p153,?_⟩
    repeat' with_reducible first | refine W ?_ | refine Z0 ?_ | ((first | refine Wo fun K hK=>?_ | refine Wq ?_ | refine Wr ?_);(try simp only [go_sem,fN,seval,eT,iR,hnm,q153.1]);(repeat refine Ai ?_);(try (refine hK _ ?_;clear hK K)))
    refine ⟨_,J1 nm,?_⟩
    repeat' with_reducible first | refine W ?_ | refine Z0 ?_ | ((first | refine Wo fun K hK=>?_ | refine Wq ?_ | refine Wr ?_);(try simp only [go_sem,fN,seval,eT,iR]);(repeat refine Ai ?_);(try (refine hK _ ?_;clear hK K)))
    simp only [go_sem,fN,seval,AN,AS.result,AB,AD,AK]
    simp only [AV.tup.injEq,AV.agg.injEq,AV.one.injEq,AC.st.injEq,SV.int.injEq,SV.str.injEq,SV.bool.injEq,SV.list.injEq,List.cons.injEq,Option.some.injEq,true_and,and_true,eq_self,Af,Tm.args_mk,Tm.name_mk,List.map_cons,List.map_nil,List.map_append,Tm.size,Tm.sizes]
    omega
   ·have h5:x5 < 2:=by omega
    repeat' (first | (with_reducible first | refine W ?_ | refine Z0 ?_ | ((first | refine Wo fun K hK=>?_ | refine Wq ?_ | refine Wr ?_);(try simp only [go_sem,fN,seval,eT,iR,hm3,h5]);(repeat refine Ai ?_);(try (refine hK _ ?_;clear hK K)))) | refine Cg _ (p5) ?_)
    with_reducible refine Wp ?_
    simp only [go_sem,fN,seval,true_implies,false_implies,implies_true,dT,dF,nL]
    (try with_reducible refine iC ?_)
    repeat' with_reducible first | refine W ?_ | refine Z0 ?_ | ((first | refine Wo fun K hK=>?_ | refine Wq ?_ | refine Wr ?_);(try simp only [go_sem,fN,seval,eT,iR,hv0,d5.1]);(repeat refine Ai ?_);(try (refine hK _ ?_;clear hK K)))
    refine ⟨_,p53,?_⟩
    repeat' with_reducible first | refine W ?_ | refine Z0 ?_ | ((first | refine Wo fun K hK=>?_ | refine Wq ?_ | refine Wr ?_);(try simp only [go_sem,fN,seval,eT,iR,hv0,d5.1,hvar]);(repeat refine Ai ?_);(try (refine hK _ ?_;clear hK K)))
    with_reducible refine Wp ?_
    simp only [go_sem,fN,seval,true_implies,false_implies,implies_true,dT,dF,nL]
    (try with_reducible refine iC ?_)
    repeat' with_reducible first | refine W ?_ | refine Z0 ?_ | ((first | refine Wo fun K hK=>?_ | refine Wq ?_ | refine Wr ?_);(try simp only [go_sem,fN,seval,eT,iR,d15.1]);(repeat refine Ai ?_);(try (refine hK _ ?_;clear hK K)))
    refine ⟨_,p153,?_⟩
    repeat' with_reducible first | refine W ?_ | refine Z0 ?_ | ((first | refine Wo fun K hK=>?_ | refine Wq ?_ | refine Wr ?_);(try simp only [go_sem,fN,seval,eT,iR,hnm,q153.1]);(repeat refine Ai ?_);(try (refine hK _ ?_;clear hK K)))
    refine ⟨_,J1 nm,?_⟩
    repeat' with_reducible first | refine W ?_ | refine Z0 ?_ | ((first | refine Wo fun K hK=>?_ | refine Wq ?_ | refine Wr ?_);(try simp only [go_sem,fN,seval,eT,iR]);(repeat refine Ai ?_);(try (refine hK _ ?_;clear hK K)))
    simp only [go_sem,fN,seval,AN,AS.result,AB,AD,AK]
    simp only [AV.tup.injEq,AV.agg.injEq,AV.one.injEq,AC.st.injEq,SV.int.injEq,SV.str.injEq,SV.bool.injEq,SV.list.injEq,List.cons.injEq,Option.some.injEq,true_and,and_true,eq_self,Af,Tm.args_mk,Tm.name_mk,List.map_cons,List.map_nil,List.map_append,Tm.size,Tm.sizes]
    omega
 ·have hm3:¬ (most:Int) < 3:=by omega
  have h5:¬ x5 < 2:=by omega
  by_cases h0:x54=0
  ·obtain ⟨t,ht,hs,hc1,hX1,hL1,hU1⟩:=ih (most - 1) (by omega) (at_ + 1) (by omega) (by omega)
   unfold EX at ht
   rw [show (((at_ + 1:Nat):Int))=(at_:Int) + 1 by omega,show (((most - 1:Nat):Int))=(most:Int) - 1 by omega] at ht
   refine ⟨.mk ⟨#[104]⟩ [t],?_,by simp only [Tm.size,Tm.sizes];omega,Mh (by decide) (by decide) (by simp [hc1]),Ef (by simp [C9]) (fun h=>absurd h (by decide)) (by simp [hX1]),(by have:=NT (m:=most) (by omega);simp [Tm.lvs,Tm.lvsL];omega),fun h3=>MZ (by decide) (by simp [hU1 h3])⟩
   unfold EX
   subst h0
   refine Fq.ac fun C hC=>?_
   unfold EM
   repeat' with_reducible first | refine W ?_ | refine Z0 ?_ | ((first | refine Wo fun K hK=>?_ | refine Wq ?_ | refine Wr ?_);(try simp only [go_sem,fN,seval,eT,iR]);(repeat refine Ai ?_);(try (refine hK _ ?_;clear hK K)))
   refine ⟨_,hraw,?_⟩
   repeat' with_reducible first | refine W ?_ | refine Z0 ?_ | ((first | refine Wo fun K hK=>?_ | refine Wq ?_ | refine Wr ?_);(try simp only [go_sem,fN,seval,eT,iR,hm3]);(repeat refine Ai ?_);(try (refine hK _ ?_;clear hK K)))
   refine ⟨_,p5,?_⟩
   repeat' with_reducible first | refine W ?_ | refine Z0 ?_ | ((first | refine Wo fun K hK=>?_ | refine Wq ?_ | refine Wr ?_);(try simp only [go_sem,fN,seval,eT,iR,h5]);(repeat refine Ai ?_);(try (refine hK _ ?_;clear hK K)))
   with_reducible refine Wp ?_
   simp only [go_sem,fN,seval,true_implies,false_implies,implies_true,dT,dF,nL]
   (try with_reducible refine iC ?_)
   repeat' with_reducible first | refine W ?_ | refine Z0 ?_ | ((first | refine Wo fun K hK=>?_ | refine Wq ?_ | refine Wr ?_);(try simp only [go_sem,fN,seval,eT,iR,d5.1]);(repeat refine Ai ?_);(try (refine hK _ ?_;clear hK K)))
   refine ⟨_,p54,?_⟩
   repeat' with_reducible first | refine W ?_ | refine Z0 ?_ | ((first | refine Wo fun K hK=>?_ | refine Wq ?_ | refine Wr ?_);(try simp only [go_sem,fN,seval,eT,iR]);(repeat refine Ai ?_);(try (refine hK _ ?_;clear hK K)))
   with_reducible refine Wp ?_
   simp only [go_sem,fN,seval,true_implies,false_implies,implies_true,dT,dF,nL]
   (try with_reducible refine iC ?_)
   repeat' with_reducible first | refine W ?_ | refine Z0 ?_ | ((first | refine Wo fun K hK=>?_ | refine Wq ?_ | refine Wr ?_);(try simp only [go_sem,fN,seval,eT,iR]);(repeat refine Ai ?_);(try (refine hK _ ?_;clear hK K)))
   refine ⟨_,ht,?_⟩
   repeat' with_reducible first | refine W ?_ | refine Z0 ?_ | ((first | refine Wo fun K hK=>?_ | refine Wq ?_ | refine Wr ?_);(try simp only [go_sem,fN,seval,eT,iR]);(repeat refine Ai ?_);(try (refine hK _ ?_;clear hK K)))
   simp only [go_sem,fN,seval,AN,AS.result,AB,AD,AK]
   simp only [AV.tup.injEq,AV.agg.injEq,AV.one.injEq,AC.st.injEq,SV.int.injEq,SV.str.injEq,SV.bool.injEq,SV.list.injEq,List.cons.injEq,Option.some.injEq,true_and,and_true,eq_self,Af,Tm.args_mk,Tm.name_mk,List.map_cons,List.map_nil,List.map_append,Tm.size,Tm.sizes]
   omega
  by_cases h1:x54=1
  ·obtain ⟨t,ht,hs,hc1,hX1,hL1,hU1⟩:=ih (most - 1) (by omega) (at_ + 1) (by omega) (by omega)
   unfold EX at ht
   rw [show (((at_ + 1:Nat):Int))=(at_:Int) + 1 by omega,show (((most - 1:Nat):Int))=(most:Int) - 1 by omega] at ht
   refine ⟨.mk ⟨#[107]⟩ [t],?_,by simp only [Tm.size,Tm.sizes];omega,Mh (by decide) (by decide) (by simp [hc1]),Ef (by simp [C9]) (fun h=>absurd h (by decide)) (by simp [hX1]),(by have:=NT (m:=most) (by omega);simp [Tm.lvs,Tm.lvsL];omega),fun h3=>MZ (by decide) (by simp [hU1 h3])⟩
   unfold EX
   subst h1
   refine Fq.ac fun C hC=>?_
   unfold EM
   repeat' with_reducible first | refine W ?_ | refine Z0 ?_ | ((first | refine Wo fun K hK=>?_ | refine Wq ?_ | refine Wr ?_);(try simp only [go_sem,fN,seval,eT,iR]);(repeat refine Ai ?_);(try (refine hK _ ?_;clear hK K)))
   refine ⟨_,hraw,?_⟩
   repeat' with_reducible first | refine W ?_ | refine Z0 ?_ | ((first | refine Wo fun K hK=>?_ | refine Wq ?_ | refine Wr ?_);(try simp only [go_sem,fN,seval,eT,iR,hm3]);(repeat refine Ai ?_);(try (refine hK _ ?_;clear hK K)))
   refine ⟨_,p5,?_⟩
   repeat' with_reducible first | refine W ?_ | refine Z0 ?_ | ((first | refine Wo fun K hK=>?_ | refine Wq ?_ | refine Wr ?_);(try simp only [go_sem,fN,seval,eT,iR,h5]);(repeat refine Ai ?_);(try (refine hK _ ?_;clear hK K)))
   with_reducible refine Wp ?_
   simp only [go_sem,fN,seval,true_implies,false_implies,implies_true,dT,dF,nL]
   (try with_reducible refine iC ?_)
   repeat' with_reducible first | refine W ?_ | refine Z0 ?_ | ((first | refine Wo fun K hK=>?_ | refine Wq ?_ | refine Wr ?_);(try simp only [go_sem,fN,seval,eT,iR,d5.1]);(repeat refine Ai ?_);(try (refine hK _ ?_;clear hK K)))
   refine ⟨_,p54,?_⟩
   repeat' with_reducible first | refine W ?_ | refine Z0 ?_ | ((first | refine Wo fun K hK=>?_ | refine Wq ?_ | refine Wr ?_);(try simp only [go_sem,fN,seval,eT,iR]);(repeat refine Ai ?_);(try (refine hK _ ?_;clear hK K)))
   with_reducible refine Wp ?_
   simp only [go_sem,fN,seval,true_implies,false_implies,implies_true,dT,dF,nL]
   (try with_reducible refine iC ?_)
   repeat' with_reducible first | refine W ?_ | refine Z0 ?_ | ((first | refine Wo fun K hK=>?_ | refine Wq ?_ | refine Wr ?_);(try simp only [go_sem,fN,seval,eT,iR]);(repeat refine Ai ?_);(try (refine hK _ ?_;clear hK K)))
   with_reducible refine Wp ?_
   simp only [go_sem,fN,seval,true_implies,false_implies,implies_true,dT,dF,nL]
   (try with_reducible refine iC ?_)
   repeat' (first | (with_reducible first | refine W ?_ | refine Z0 ?_ | ((first | refine Wo fun K hK=>?_ | refine Wq ?_ | refine Wr ?_);(try simp only [go_sem,fN,seval,eT,iR]);(repeat refine Ai ?_);(try (refine hK _ ?_;clear hK K)))) | refine Cg _ (ht) ?_)
   simp only [go_sem,fN,seval,AN,AS.result,AB,AD,AK]
   simp only [AV.tup.injEq,AV.agg.injEq,AV.one.injEq,AC.st.injEq,SV.int.injEq,SV.str.injEq,SV.bool.injEq,SV.list.injEq,List.cons.injEq,Option.some.injEq,true_and,and_true,eq_self,Af,Tm.args_mk,Tm.name_mk,List.map_cons,List.map_nil,List.map_append,Tm.size,Tm.sizes]
   omega
  have d2:=Fw (x:=(most:Int)) (n:=2) (by omega) (by omega)
  have e2:(most:Int) / 2=((most / 2:Nat):Int):=by omega
  obtain ⟨t,ht,hs,hc1,hX1,hL1,hU1⟩:=ih (most / 2) (by omega) (at_ + 1) (by omega) (by omega)
  obtain ⟨u,hu,hs',hc2,hX2,hL2,hU2⟩:=ih (most / 2) (by omega) (at_ + 1 + t.size) (by omega) (by omega)
  obtain ⟨nm,hnm,hok,hnv,hin⟩:∃ nm,[([.str ⟨#[102]⟩]:List SV),[.str ⟨#[103]⟩]][(x54 - 2).toNat]?=some [.str nm]∧Ay nm=true∧AJ nm=false∧nm ∈ C9:=by
   have:(x54 - 2).toNat=0 ∨ (x54 - 2).toNat=1:=by omega
   rcases this with h | h <;> rw [h] <;> exact ⟨_,rfl,by decide,by decide,by simp [C9]⟩
  refine ⟨.mk nm [t,u],?_,by simp only [Tm.size,Tm.sizes];omega,Mh hok hnv (by simp [hc1,hc2]),Ef hin (fun h=>by rw [hnv] at h;cases h) (by simp [hX1,hX2]),(by have:=Vf (m:=most) (by omega);simp [Tm.lvs,Tm.lvsL];omega),fun h3=>MZ (fun e=>by rw [e] at hnv;exact absurd hnv (by decide)) (by simp [hU1 h3,hU2 h3])⟩
  unfold EX at ht hu ⊢
  rw [show (((at_ + 1:Nat):Int))=(at_:Int) + 1 by omega] at ht
  refine Fq.ac fun C hC=>?_
  unfold EM
  repeat' with_reducible first | refine W ?_ | refine Z0 ?_ | ((first | refine Wo fun K hK=>?_ | refine Wq ?_ | refine Wr ?_);(try simp only [go_sem,fN,seval,eT,iR]);(repeat refine Ai ?_);(try (refine hK _ ?_;clear hK K)))
  refine ⟨_,hraw,?_⟩
  repeat' with_reducible first | refine W ?_ | refine Z0 ?_ | ((first | refine Wo fun K hK=>?_ | refine Wq ?_ | refine Wr ?_);(try simp only [go_sem,fN,seval,eT,iR,hm3]);(repeat refine Ai ?_);(try (refine hK _ ?_;clear hK K)))
  refine ⟨_,p5,?_⟩
  repeat' with_reducible first | refine W ?_ | refine Z0 ?_ | ((first | refine Wo fun K hK=>?_ | refine Wq ?_ | refine Wr ?_);(try simp only [go_sem,fN,seval,eT,iR,h5]);(repeat refine Ai ?_);(try (refine hK _ ?_;clear hK K)))
  with_reducible refine Wp ?_
  simp only [go_sem,fN,seval,true_implies,false_implies,implies_true,dT,dF,nL]
  (try with_reducible refine iC ?_)
  repeat' with_reducible first | refine W ?_ | refine Z0 ?_ | ((first | refine Wo fun K hK=>?_ | refine Wq ?_ | refine Wr ?_);(try simp only [go_sem,fN,seval,eT,iR,d5.1]);(repeat refine Ai ?_);(try (refine hK _ ?_;clear hK K)))
  refine ⟨_,p54,?_⟩
  repeat' with_reducible first | refine W ?_ | refine Z0 ?_ | ((first | refine Wo fun K hK=>?_ | refine Wq ?_ | refine Wr ?_);(try simp only [go_sem,fN,seval,eT,iR]);(repeat refine Ai ?_);(try (refine hK _ ?_;clear hK K)))
  with_reducible refine Wp ?_
  simp only [go_sem,fN,seval,true_implies,false_implies,implies_true,dT,dF,nL,h0]
  (try with_reducible refine iC ?_)
  repeat' with_reducible first | refine W ?_ | refine Z0 ?_ | ((first | refine Wo fun K hK=>?_ | refine Wq ?_ | refine Wr ?_);(try simp only [go_sem,fN,seval,eT,iR]);(repeat refine Ai ?_);(try (refine hK _ ?_;clear hK K)))
  with_reducible refine Wp ?_
  simp only [go_sem,fN,seval,true_implies,false_implies,implies_true,dT,dF,nL,h1]
  (try with_reducible refine iC ?_)
  repeat' (first | (with_reducible first | refine W ?_ | refine Z0 ?_ | ((first | refine Wo fun K hK=>?_ | refine Wq ?_ | refine Wr ?_);(try simp only [go_sem,fN,seval,eT,iR,d2.1,e2,d5.1,hnm]);(repeat refine Ai ?_);(try (refine hK _ ?_;clear hK K)))) | refine Cg _ (ht) ?_ | refine Cg _ (hu) ?_ | refine Cg _ (p54) ?_)
  simp only [go_sem,fN,seval,AN,AS.result,AB,AD,AK]
  simp only [AV.tup.injEq,AV.agg.injEq,AV.one.injEq,AC.st.injEq,SV.int.injEq,SV.str.injEq,SV.bool.injEq,SV.list.injEq,List.cons.injEq,Option.some.injEq,true_and,and_true,eq_self,Af,Tm.args_mk,Tm.name_mk,List.map_cons,List.map_nil,List.map_append,Tm.size,Tm.sizes]
  omega
theorem AAL (l:List Int) (hl:∀ n ∈ l,inR .i64 n) (hm:l.length≤maxLen) (vars:Int) (hv:1≤vars∧vars≤4) (most at_:Nat) (h1:most≤1000) (h2:at_ + 2 * most≤900000):∃ t:Tm,EX l at_ most vars t∧t.size + 1≤max 2 (2 * most)∧t.chk=0∧LS vars t:=by
 obtain ⟨t,a,b,c,d,_⟩:=Zy l hl hm vars hv most at_ h1 h2
 exact ⟨t,a,b,c,d⟩
theorem Z9 (l:List Int) (hl:∀ n ∈ l,inR .i64 n) (hm:l.length≤maxLen) (vars:Int) (hv:1≤vars∧vars≤4) (most at_:Nat) (h1:most≤1000) (h2:at_ + 2 * most≤900000):∃ t:Tm,EX l at_ most vars t∧t.size + 1≤max 2 (2 * most)∧t.chk=0:=by
 obtain ⟨t,a,b,c,_⟩:=AAL l hl hm vars hv most at_ h1 h2
 exact ⟨t,a,b,c⟩
theorem X_ (l:List Int) (hl:∀ n ∈ l,inR .i64 n) (hm:l.length≤maxLen) (vars:Int) (hv:1≤vars∧vars≤4) (most at_:Nat) (h1:most≤1000) (h2:at_ + 2 * most≤900000) :
  ∃ t:Tm,AU Tryz.prog 16 [Hx l,AO at_,AO most,AO vars] (aTm t)∧t.size + 1≤max 2 (2 * most)∧t.chk=0:=by
 obtain ⟨t,ht,hs,hc⟩:=Z9 l hl hm vars hv most at_ h1 h2
 refine ⟨t,?_,hs,hc⟩
 unfold EX at ht
 refine P_.ac fun C hC=>?_
 unfold Kj
 repeat' (first | (with_reducible first | refine W ?_ | refine Z0 ?_ | ((first | refine Wo fun K hK=>?_ | refine Wq ?_ | refine Wr ?_);(try simp only [go_sem,fN,seval,eT,iR]);(repeat refine Ai ?_);(try (refine hK _ ?_;clear hK K)))) | refine Cg _ (ht) ?_)
 simp only [go_sem,fN,seval,AN,AS.result,AB,AD,AK]

set_option maxHeartbeats 1600000
def Cr:List (List ByteArray):=[[⟨#[102,40,97,44,88,41]⟩,⟨#[88]⟩,⟨#[102,40,104,40,88,41,44,89,41]⟩,⟨#[104,40,102,40,88,44,89,41,41]⟩],
 [⟨#[102,40,88,44,97,41]⟩,⟨#[88]⟩,⟨#[102,40,88,44,104,40,89,41,41]⟩,⟨#[104,40,102,40,88,44,89,41,41]⟩,⟨#[102,40,97,44,88,41]⟩,⟨#[88]⟩],
 [⟨#[102,40,102,40,88,44,89,41,44,90,41]⟩,⟨#[102,40,88,44,102,40,89,44,90,41,41]⟩],
 [⟨#[107,40,107,40,88,41,41]⟩,⟨#[88]⟩,⟨#[107,40,97,41]⟩,⟨#[97]⟩,⟨#[107,40,102,40,88,44,89,41,41]⟩,⟨#[102,40,107,40,89,41,44,107,40,88,41,41]⟩],
 [⟨#[102,40,88,44,88,41]⟩,⟨#[88]⟩],
 [⟨#[104,40,107,40,88,41,41]⟩,⟨#[107,40,104,40,88,41,41]⟩,⟨#[104,40,104,40,88,41,41]⟩,⟨#[104,40,88,41]⟩],
 [⟨#[102,40,97,44,98,41]⟩,⟨#[99]⟩,⟨#[97]⟩,⟨#[98]⟩],
 [⟨#[103,40,88,44,89,41]⟩,⟨#[102,40,89,44,88,41]⟩],
 [⟨#[104,40,97,41]⟩,⟨#[98]⟩,⟨#[104,40,97,41]⟩,⟨#[99]⟩],
 [⟨#[102,40,88,44,103,40,89,44,90,41,41]⟩,⟨#[103,40,102,40,88,44,89,41,44,102,40,88,44,90,41,41]⟩]]
noncomputable def FL:List ByteArray→List Pr
 | a :: b :: l=>((Gn a).1,(Gn b).1) :: FL l
 | _=>[]
noncomputable def Bs (k:Nat):List Pr:=FL (Cr.getD k [])
theorem VA {L:List ByteArray} {i:Nat} {a b:ByteArray} (ha:L[i]?=some a) (hb:L[i + 1]?=some b):FL (L.drop i)=((Gn a).1,(Gn b).1) :: FL (L.drop (i + 2)):=by
 rw [Bi ha,Bi hb,FL]
theorem Uc {L:List ByteArray} {i:Nat} (h:L.length≤i + 1):FL (L.drop i)=[]:=by
 have hl:(L.drop i).length≤1:=by rw [List.length_drop];omega
 match hd:L.drop i,hl with
 | [],_=>rfl
 | [x],_=>rfl
 | x :: y :: l,hl=>exact absurd hl (by simp)
theorem N8:∀ L:List ByteArray,2 * (FL L).length≤L.length
 | []=>by simp [FL]
 | [x]=>by simp [FL]
 | a :: b :: l=>by
  have:=N8 l
  simp only [FL,List.length_cons]
  omega
theorem Lr (k:Nat) (hk:k < 10):(Bs k).length≤3:=by
 have h1:=N8 (Cr.getD k [])
 have h2:∀ k,k < 10→(Cr.getD k []).length≤6:=by decide
 have h3:=h2 k hk
 unfold Bs
 omega
theorem Ki (m:Int) (hm:inR .i64 m):∃ k:Nat,k < 10∧DL m 10=(k:Int)∧GA Tryz.prog 12 [AO m] 40 4 ((Bs k).map Bf):=by
 have r1:=Bn m 10 (by omega)
 have p1:=E7 m 10 hm (by omega)
 obtain ⟨k,e1⟩:∃ k:Nat,DL m 10=k:=⟨(DL m 10).toNat,by omega⟩
 rw [e1] at p1 r1
 refine ⟨k,by omega,e1,?_⟩
 have key:∀ L:List ByteArray,L.length≤6→([[.list [[.str ⟨#[102,40,97,44,88,41]⟩],[.str ⟨#[88]⟩],[.str ⟨#[102,40,104,40,88,41,44,89,41]⟩],[.str ⟨#[104,40,102,40,88,44,89,41,41]⟩]]],[.list [[.str ⟨#[102,40,88,44,97,41]⟩],[.str ⟨#[88]⟩],[.str ⟨#[102,40,88,44,104,40,89,41,41]⟩],[.str ⟨#[104,40,102,40,88,44,89,41,41]⟩],[.str ⟨#[102,40,97,44,88,41]⟩],[.str ⟨#[88]⟩]]],[.list [[.str ⟨#[102,40,102,40,88,44,89,41,44,90,41]⟩],[.str ⟨#[102,40,88,44,102,40,89,44,90,41,41]⟩]]],[.list [[.str ⟨#[107,40,107,40,88,41,41]⟩],[.str ⟨#[88]⟩],[.str ⟨#[107,40,97,41]⟩],[.str ⟨#[97]⟩],[.str ⟨#[107,40,102,40,88,44,89,41,41]⟩],[.str ⟨#[102,40,107,40,89,41,44,107,40,88,41,41]⟩]]],[.list [[.str ⟨#[102,40,88,44,88,41]⟩],[.str ⟨#[88]⟩]]],[.list [[.str ⟨#[104,40,107,40,88,41,41]⟩],[.str ⟨#[107,40,104,40,88,41,41]⟩],[.str ⟨#[104,40,104,40,88,41,41]⟩],[.str ⟨#[104,40,88,41]⟩]]],[.list [[.str ⟨#[102,40,97,44,98,41]⟩],[.str ⟨#[99]⟩],[.str ⟨#[97]⟩],[.str ⟨#[98]⟩]]],[.list [[.str ⟨#[103,40,88,44,89,41]⟩],[.str ⟨#[102,40,89,44,88,41]⟩]]],[.list [[.str ⟨#[104,40,97,41]⟩],[.str ⟨#[98]⟩],[.str ⟨#[104,40,97,41]⟩],[.str ⟨#[99]⟩]]],[.list [[.str ⟨#[102,40,88,44,103,40,89,44,90,41,41]⟩],[.str ⟨#[103,40,102,40,88,44,89,41,44,102,40,88,44,90,41,41]⟩]]]]:List (List SV))[k]?=some [.list (L.map EC)]→GA Tryz.prog 12 [AO m] 40 4 ((FL L).map Bf):=fun L hL hrow=>by
  unfold GA
  rw [List.length_map]
  refine MB.acS fun hS C hC=>?_
  unfold Gu
  repeat' (first | (with_reducible first | refine W ?_ | refine Z0 ?_ | ((first | refine Wo fun K hK=>?_ | refine Wp ?_ | refine Wq ?_ | refine Wr ?_);(try simp only [go_sem,fN,seval,eT,iR,hrow,dT,dF,nL]);(repeat refine Ai ?_);(try (refine hK _ ?_;clear hK K));try refine iC ?_)) | refine Cg _ (p1) ?_)
  refine IWP.ghost (Ac.own 5 500 40 4 (xs:=([]:List Pr).map Bf) (by rfl) (by rfl) KC (by rw [hC];decide)) ?_
  refine IWP.loopD [7,9] (fun z s=>∃ i acc,i≤L.length + 1∧z=L.length + 1 - i∧acc.length≤i∧FL L=acc ++ FL (L.drop i)∧s.env 4=CR L∧s.env 5=.one (.row 500 acc.length)∧s.env 6=AO i∧s.S 7=none∧s.S 9=none∧s.S 500=some (.arow 40 4 (acc.map Bf))∧∀ j,1000≤j→s.S j=none) (L.length + 1) ⟨0,[],Nat.zero_le _,rfl,Nat.le_refl _,rfl,rfl,rfl,rfl,rfl,rfl,rfl,?_⟩ ?_
  ·intro j hj
   show AG _ _ _ _=_
   rw [AH _ (by omega)]
   rfl
  rintro z ⟨env,S⟩ ⟨i,acc,hi,rfl,hal,htot,e4,e5,e6,s7,s9,s500,sh⟩
  simp only at e4 e5 e6 s7 s9 s500 sh
  have hl:(acc.map Bf).length=acc.length:=by simp
  by_cases hlt:i + 1 < L.length
  ·have hlt':((i:Int) + 1 < L.length):=by omega
   obtain ⟨a,ha⟩:=Ag (show i < L.length by omega)
   obtain ⟨b,hb⟩:=Ag hlt
   have hi0:((i:Int) + 1).toNat=i + 1:=by omega
   have hra:=UH a
   have hrb:=UH b
   unfold Nc at hra hrb
   repeat' (first | (with_reducible first | refine W ?_ | refine Z0 ?_ | ((first | refine Wo fun K hK=>?_ | refine Wp ?_ | refine Wq ?_ | refine Wr ?_);(try simp only [go_sem,fN,seval,eT,iR,e4,e5,e6,s7,s9,s500,hlt',ha,hb,hi0,Bf,hl,dT,dF,nL]);(repeat refine Ai ?_);(try (refine hK _ ?_;clear hK K));try refine iC ?_)) | refine Cg _ (hra) ?_ | refine Cg _ (hrb) ?_)
   refine AI ⟨L.length + 1 - (i + 2),by omega,i + 2,acc ++ [((Gn a).1,(Gn b).1)],by omega,rfl,by simp;omega,?_,?_⟩
   ·rw [htot,VA ha hb,List.append_assoc]
    rfl
   ·simp only [go_sem,fN,seval,AS.drop,Ao,AC.clears,AC.clear,AC.highs,AC.high,Bool.not_false,Bool.true_and,Bool.and_self,AV.purge,AV.purges,AC.purge,AL.purge,List.contains_cons,List.contains_nil,Nat.reduceBEq,Bool.or_self,Bool.or_false,Bool.false_or,Bool.or_true,eT,iR,e4,e5,e6,s7,s9,s500]
    refine ⟨by congr 3,?_,fun j hj=>?_⟩
    ·rw [List.map_append]
     rfl
    ·have n7:(j=7)=False:=eq_false (by omega)
     have n9:(j=9)=False:=eq_false (by omega)
     have n500:(j=500)=False:=eq_false (by omega)
     simp [n7,n9,n500,sh j hj]
  ·have hlt':¬ ((i:Int) + 1 < L.length):=by omega
   rw [Uc (by omega),List.append_nil] at htot
   rw [htot]
   repeat' with_reducible first | refine W ?_ | refine Z0 ?_ | ((first | refine Wo fun K hK=>?_ | refine Wp ?_ | refine Wq ?_ | refine Wr ?_);(try simp only [go_sem,fN,seval,eT,iR,e4,e5,e6,s500,hlt',hl,dT,dF,nL]);(repeat refine Ai ?_);(try (refine hK _ ?_;clear hK K));try refine iC ?_)
   exact AAf (mu:=false) trivial 500 (by decide) s500 sh (by simp [AB,AD,AK,AG])
 match k,(show k < 10 by omega) with
 | 0,_=>exact key (Cr.getD 0 []) (by decide) rfl
 | 1,_=>exact key (Cr.getD 1 []) (by decide) rfl
 | 2,_=>exact key (Cr.getD 2 []) (by decide) rfl
 | 3,_=>exact key (Cr.getD 3 []) (by decide) rfl
 | 4,_=>exact key (Cr.getD 4 []) (by decide) rfl
 | 5,_=>exact key (Cr.getD 5 []) (by decide) rfl
 | 6,_=>exact key (Cr.getD 6 []) (by decide) rfl
 | 7,_=>exact key (Cr.getD 7 []) (by decide) rfl
 | 8,_=>exact key (Cr.getD 8 []) (by decide) rfl
 | 9,_=>exact key (Cr.getD 9 []) (by decide) rfl


theorem T7 {t:Tm} (hc:t.chk=0) (hz:t.size≤200):t.may=0:=by
 unfold Tm.may
 rw [if_neg (by omega)]
 exact hc

def Zj (P:Program) (f:FuncId) (caps:List AV) (Need:AA→Prop) {α:Type} (encs:α→List AV) (all:List α):Prop :=
 ∀ (y:Nat) (Inv:List α→AA→Prop) (Jx:AA→Prop) (T:AA),1000≤y→(∀ pre T,Inv pre T→Need T) →
  (∀ pre v,(pre ++ [v]) <+: all→∀ T,Inv pre T→JT P (.one (.yld y)) (encs v) T fun r T'=>(r=.one (.st (.bool true))∧Inv (pre ++ [v]) T') ∨ (r=.one (.st (.bool false))∧Jx T')) →
  Inv [] T→HX P f (.one (.yld y) :: caps) T fun _ T'=>Inv all T' ∨ Jx T'
def OX (env:Nat→AV):List Nat→List AV→Nat→AV
 | p :: ps,v :: vs=>OX (AG env p v) ps vs
 | _,_=>env
section
variable {σ:Sto} {S:AA} {ι:Az}
theorem OK {n:Nat}:∀ {ps:List Nat} {vs:List Value} {xs:List AV} {tmps:Array Value} {env:Nat→AV},Ad (AT σ S ι) vs xs→n≤tmps.size→(∀ i,i < n→AT σ S ι (tmps.getD i undef) (env i)) →
  n≤((ps.zip vs).foldl (fun t (p,v)=>t.setIfInBounds p v) tmps).size∧∀ i,i < n→AT σ S ι (((ps.zip vs).foldl (fun t (p,v)=>t.setIfInBounds p v) tmps).getD i undef) (OX env ps xs i)
 | [],vs,xs,tmps,env,h,hs,he=>⟨hs,he⟩
 | p :: ps,[],[],tmps,env,h,hs,he=>⟨hs,he⟩
 | p :: ps,v :: vs,x :: xs,tmps,env,h,hs,he=>by
  cases h with
  | cons h1 h2 =>
   refine OK (ps:=ps) h2 (by simpa using hs) fun i hi=>?_
   unfold AG
   by_cases e:i=p
   ·subst e
    rw [if_pos rfl,Array.getD_eq_getD_getElem?,Array.getElem?_setIfInBounds_self_of_lt (by omega)]
    exact h1
   ·rw [if_neg e,Array.getD_eq_getD_getElem?,Array.getElem?_setIfInBounds_ne (fun h=>e h.symm),← Array.getD_eq_getD_getElem?]
    exact he i hi
end
section
variable {P:Program} {C:Ctx} {mu:List Nat} {Q:AX→AS→Prop} {s:AS} {x y:IR} {σ:Sto} {ι:Az} {a:Act} {w:World}
theorem AR.upped (R:AR C σ ι s a w):∃ ι1:Az,(∀ i,ι1 (up1 i)=ι i)∧Fo σ (upS s.S) ι1 w∧(∀ v c,AT σ s.S ι v c→AT σ (upS s.S) ι1 v (c.ren up1)) ∧
  ∀ {Post:AV→AA→Prop} {e:Ending} {w':World},SO σ (upS s.S) ι1 w Post e w'→∃ v r S' σ' ι2,e=.returned v∧Post r S'∧Ax S'∧Upd s.S ι (dnS S') ι2∧AR C σ' ι2 ⟨s.env,dnS S'⟩ a w':=by
 have hup:∀ i,dn1 (up1 i)=i:=Lk
 have hS:∀ i b,s.S i=some b→upS s.S (up1 i)=some (b.ren up1):=fun i b hb=>D0 hb
 obtain ⟨ι1,hι1⟩:∃ ι1:Az,∀ i,ι1 i=ι (dn1 i):=⟨fun i=>ι (dn1 i),fun _=>rfl⟩
 have hι:∀ i b,s.S i=some b→ι1 (up1 i)=ι i:=fun i b _=>by rw [hι1,hup]
 have hown:Fo σ (upS s.S) ι1 w:=by
  refine ⟨fun id b hb=>?_,fun id id' b b' g h1 h2 g1 g2=>?_⟩
  ·obtain ⟨hle,b',h1,rfl⟩:=Ep hb
   have:=B7.ren (S2:=upS s.S) (ι2:=ι1) (ρ:=up1) hS hι (R.blk _ _ h1)
   rw [hι1]
   exact this
  ·obtain ⟨l1,c1,k1,_⟩:=Ep h1
   obtain ⟨l2,c2,k2,_⟩:=Ep h2
   rw [hι1] at g1 g2
   have:=R.inj _ _ _ _ g k1 k2 g1 g2
   rw [← L9 l1,← L9 l2,this]
 refine ⟨ι1,fun i=>by rw [hι1,hup],hown,fun v c hv=>AT.ren (S2:=upS s.S) (ι2:=ι1) (ρ:=up1) hS hι hv,fun {Post e w'} he=>?_⟩
 obtain ⟨v,r,S',σ',ι',rfl,hP,hclean,hupd,hown',hv,hf',hkeep,hold,hos,hsz,hsame,hbase⟩:=he
 have hSd:∀ i b,S' i=some b→dnS S' (dn1 i)=some (b.ren dn1):=fun i b hb=>HP (hclean i b hb).1 hb
 obtain ⟨ι2,hι2⟩:∃ ι2:Az,∀ i,ι2 i=ι' (up1 i):=⟨fun i=>ι' (up1 i),fun _=>rfl⟩
 have hιd:∀ i b,S' i=some b→ι2 (dn1 i)=ι' i:=fun i b hb=>by
  rw [hι2,L9 (hclean i b hb).1]
 have hu:Upd s.S ι (dnS S') ι2:=fun id b hb=>by
  obtain ⟨b',h1,h2,h3⟩:=hupd _ _ (hS id b hb)
  have h4:=hSd _ _ h1
  rw [hup] at h4
  refine ⟨_,h4,by rw [Bu] at h2 ⊢;exact h2,fun hl=>?_⟩
  rw [Bu] at hl
  obtain ⟨q1,q2⟩:=h3 (by rw [Bu];exact hl)
  refine ⟨by rw [LR] at q1 ⊢;exact q1,?_⟩
  rw [hι2,q2,hι1,hup]
 have hnot:∀ g,g < C.N→¬ C.G g→Ce (upS s.S) ι1 g:=fun g h1 h2 id b hb hg=>by
  obtain ⟨_,b',k1,_⟩:=Ep hb
  rw [hι1] at hg
  rcases R.base _ _ g k1 hg with h | h
  ·omega
  ·exact h2 h
 refine ⟨v,r,S',σ',ι2,rfl,hP,hclean,hu,?_⟩
 refine ⟨R.size,fun i hi=>(R.env i hi).mono hkeep hu,R.nod.mono (fun D h=>(hsame D (Array.getElem?_eq_some_iff.1 h).1 (GI hown.1 h)).trans h),hf',fun id b hb=>?_,fun id id' b b' g h1 h2 g1 g2=>?_,fun id b g hb hg=>?_,fun p x hx=>hkeep _ _ (R.ext p x hx),fun p h1 h2=>?_,⟨hos.1.trans R.os.1,hos.2.1.trans R.os.2.1,hos.2.2.trans R.os.2.2⟩,⟨Nat.le_trans R.grown.1 hsz,Nat.le_trans R.grown.2 hsz⟩,fun g h1 h2=>?_,R.upd.trans hu⟩
 ·obtain ⟨b',h1,rfl⟩:=E1 hb
  have:=B7.ren (S2:=dnS S') (ι2:=ι2) (ρ:=dn1) hSd hιd (hown'.1 _ _ h1)
  rw [hι2]
  exact this
 ·obtain ⟨c1,k1,_⟩:=E1 h1
  obtain ⟨c2,k2,_⟩:=E1 h2
  rw [hι2] at g1 g2
  have:=congrArg dn1 (hown'.2 _ _ _ _ g k1 k2 g1 g2)
  rw [hup,hup] at this
  exact this
 ·obtain ⟨b',h1,_⟩:=E1 hb
  rw [hι2] at hg
  rcases hbase _ _ g h1 hg with h2 | h2
  ·exact .inl (by have:=R.grown.1;omega)
  ·by_cases hN:g < C.N
   ·by_cases hG:C.G g
    ·exact .inr hG
    ·exact absurd (hnot g hN hG) h2
   ·exact .inl (by omega)
 ·exact (hold p (by have:=R.grown.1;omega) (hnot _ h1 h2)).trans (R.old p h1 h2)
 ·exact (hsame g (by have:=R.grown.1;omega) (hnot g h1 h2)).trans (R.same g h1 h2)
theorem AR.setLoop (R:AR C σ ι s a w) {id l:Nat} {env:List AV} {r:Loop} (r':Loop) (hS:s.S id=some (.loop env r)) (hl:(ι id).g=some l) (hr:r'.tmps=r.tmps):w.heap[l]?=some (.loop r)∧∃ ι',AR C σ ι' (s.set id (.loop env r')) a (w.putObj l (.loop r'))∧Upd s.S ι (s.set id (.loop env r')).S ι':=by
 have hb:=R.blk id _ hS
 cases hb with
 | loop h1 h2 h3 h4 h5 =>
  rw [hl] at h1
  cases h1
  exact ⟨h2,R.setBlk (o':=.loop r') hS hl h2 h5 rfl rfl fun S' ι' hu=>.loop hl (DT h2).1 (by rw [hr];exact h3) (fun j a ha=>by rw [hr];exact (h4 j a ha).mono (fun _ _ h=>h) hu) h5⟩
def P2 (C:Ctx) (y:Nat) (b:AL) (N:AA→Prop) (Jx:AX→AA→Prop) (e:AX) (s:AS):Prop:=∃ s2 U,Ac C s s2∧s2.S=AG U y (some b)∧Ax s2.S∧U y=none∧match e with
 | .normal=>N U
 | .ret=>Jx .ret U
 | .exit i=>Jx (.exit i) U
 | .pan _=>False
theorem Fz {C:Ctx} {σ0:Sto} {T:AA} {ι0:Az} {w0:World} (hC:C.N=w0.heap.size) (hw:C.w0=w0) (hσ:C.σ0=σ0) (hG:∀ g,C.G g ↔ ¬ Ce T ι0 g) (hS0:C.S0=T) (hι0:C.ι0=ι0) (R:AR C σ ι s a w) (hc:Ax s.S) {Post:AV→AA→Prop} {b:Bool} (hP:Post (.one (.st (.bool b))) s.S):SO σ0 T ι0 w0 Post (.returned (.bool b)) w:=by
 have hupd:=R.upd
 rw [hS0,hι0] at hupd
 subst hσ hw
 exact ⟨.bool b,_,s.S,σ,ι,rfl,hP,hc,hupd,⟨R.blk,R.inj⟩,.one (.st .bool),R.fit,R.ext,fun p h1 h2=>R.old p (by rw [hC];exact h1) (fun h=>(hG _).1 h h2),R.os,R.grown.2,fun g h1 h2=>R.same g (by rw [hC];exact h1) (fun h=>(hG _).1 h h2),fun id b g h1 h2=>(R.base id b g h1 h2).imp (fun h=>by rw [← hC];exact h) fun h=>(hG _).1 h⟩
theorem Ov {S:AA} {i:Nat} {b c:Option AL}:AG (AG S i b) i c=AG S i c:=by
 funext j
 unfold AG
 split <;> rfl
inductive Yh:Code→AX→Prop
 | ret:Yh .ret .ret
 | exit (i:Nat):Yh (.exit i) (.exit i)
theorem XR {fn:FuncId} {ps:Array Tmp} {ca cb:Code} {D:Nat} {n:Nat} {env:List AV} {tmps:Array Value} (hx:BK P n mu ca=some x) (hy:BK P n mu cb=some y) (hn:env.length=n) {yb:Nat} (hyb:1000≤yb) {rec:LoopState→Option Code→Loop} (hrec:rec=fun st pe=>{ state:=st,pending:=pe,fn,tmps,params:=ps,assign:=ca,body:=cb,defers:=D }) {vs:List AV} (hps:vs.length=ps.size)
  {U:AA} (hU:U yb=none) {N:AA→Prop} {Jx:AX→AA→Prop}
  (h:Ax (AG U yb (some (.loop env (rec .ready none))))→∀ C':Ctx,C'.n=n→IWP P C' mu x (AX.then (fun s1=>s1.S yb=some (.loop env (rec .ready none))∧IWP P C' mu y (P2 C' yb (.loop env (rec .busy none)) N Jx) (s1.set yb (.loop env (rec .busy none)))) fun _ _=>False) ⟨OX (fun i=>(env[i]?).getD .any) ps.toList vs,AG U yb (some (.loop env (rec .ready none)))⟩) :
  JT P (.one (.yld yb)) vs (AG U yb (some (.loop env (rec .ready none)))) fun r T'=>(r=.one (.st (.bool true))∧∃ U',T'=AG U' yb (some (.loop env (rec .ready none)))∧U' yb=none∧N U') ∨
   (r=.one (.st (.bool false))∧∃ U' c e,T'=AG U' yb (some (.loop env (rec .done (some c))))∧U' yb=none∧Yh c e∧Jx e U'):=by
 intro hclean σ w vy xs ι hglob hfit hown hvy hxs
 obtain ⟨T,hT⟩:∃ T,AG U yb (some (.loop env (rec .ready none)))=T:=⟨_,rfl⟩
 have hTy:T yb=some (.loop env (rec .ready none)):=by rw [← hT];exact AE _ _ _
 rw [hT] at hclean hown hvy hxs h ⊢
 have hhigh:=(hclean _ _ hTy).2
 have hb:=hown.1 _ _ hTy
 obtain ⟨l,hl,rfl⟩:∃ l,(ι yb).g=some l∧vy=.func (.yield l) #[] #[]:=by
  cases hvy with
  | one hv =>
   cases hv with
   | yld k1 k2 k3 k4 =>
    rw [hTy] at k1
    cases k1
    exact k4 rfl
 have hlen:=hxs.len
 cases hb with
 | loop k1 k2 k3 k4 k5 =>
 rw [hl] at k1
 cases k1
 have htm:(rec .ready none).tmps=tmps:=by rw [hrec]
 refine ⟨l,rfl,fun ro=>⟨fn,_,ca,cb,by
  have:=run_yield (P:=P) (args:=xs.toArray) k2 (by rw [hrec];simp;omega)
  rw [hrec] at this
  exact this,?_⟩⟩
 let C':Ctx:=⟨n,w.heap.size,fun g=>¬ Ce T ι g,σ,w,T,ι,hclean,hglob,[],some l,false⟩
 have hset:=OK (σ:=σ) (S:=T) (ι:=ι) (n:=n) (ps:=ps.toList) (env:=fun i=>(env[i]?).getD .any) (tmps:=tmps) hxs (by rw [htm] at k3;omega) fun i hi=>by
  have hi':i < env.length:=by omega
  have:=k4 i _ (List.getElem?_eq_getElem hi')
  rw [htm] at this
  simpa [hi'] using this
 have hfold:(ps.zip xs.toArray).foldl (fun t (p,v)=>t.setIfInBounds p v) tmps=(ps.toList.zip xs).foldl (fun t (p,v)=>t.setIfInBounds p v) tmps:=by
  rw [← Array.foldl_toList,Array.toList_zip]
 have R0:AR C' σ ι ⟨OX (fun i=>(env[i]?).getD .any) ps.toList vs,T⟩ { tmps:=(ps.zip xs.toArray).foldl (fun t (p,v)=>t.setIfInBounds p v) tmps,defers:=[] } w:=by
  refine ⟨?_,fun i hi=>?_,Hf,hfit,hown.1,hown.2,fun id b g h hg=>.inr (fun hno=>hno id b h hg),fun _ _ h=>h,fun _ _ _=>rfl,⟨rfl,rfl,rfl⟩,⟨Nat.le_refl _,Nat.le_refl _⟩,fun _ _ _=>rfl,Upd.refl _ _⟩
  ·dsimp only
   rw [hfold]
   exact hset.1
  ·dsimp only
   rw [hfold]
   exact hset.2 i hi
 refine roundIn_of_wpIn (F:=fen ro) (n:=0) trivial (wpIn_mono (h hclean C' rfl ca hx _ w ⟨σ,ι,R0⟩) fun e a1 w1 he=>?_)
 have same:∀ {σ1:Sto} {ι1:Az} {s1:AS} {a1:Act} {w1:World} {b:AL},AR C' σ1 ι1 s1 a1 w1→s1.S yb=some b→b.len=1→(ι1 yb).g=some l:=fun R1 hs hl1=>by
  obtain ⟨b',h1,h2,h3⟩:=R1.upd yb _ hTy
  rw [hs] at h1
  cases h1
  rw [(h3 hl1).2]
  exact hl
 cases e with
 | normal =>
  obtain ⟨s1,⟨h1,h2⟩,σ1,ι1,R1⟩:=he
  obtain ⟨q1,ι2,R2,_⟩:=R1.setLoop (rec .busy none) h1 (same R1 h1 rfl) (by rw [hrec])
  refine ⟨_,by
   have:=run_beginRound (P:=P) q1 (by rw [hrec])
   rw [hrec] at this
   exact this,?_⟩
  have e1:(w1.putObj l (.loop (rec .busy none)))=w1.putObj l (.loop { state:=.busy,pending:=none,fn,tmps,params:=ps,assign:=ca,body:=cb,defers:=D }):=by rw [hrec]
  rw [← e1]
  refine wpIn_mono (h2 cb hy _ _ ⟨σ1,ι2,R2⟩) fun e3 a3 w3 he3=>?_
  have fin:∀ (jump:Option Code) (s3 s4:AS) (U2:AA),Ac C' s3 s4→s4.S=AG U2 yb (some (.loop env (rec .busy none)))→Ax s4.S→BM C' s3 a3 w3 →
    ∃ σ5 ι5 s5,(Instr.endRound l jump).run P w3=.ok (.bool jump.isNone) (w3.putObj l (.loop (rec (if jump.isNone then .ready else .done) jump)))∧s5.S=AG U2 yb (some (.loop env (rec (if jump.isNone then .ready else .done) jump)))∧Ax s5.S∧AR C' σ5 ι5 s5 a3 (w3.putObj l (.loop (rec (if jump.isNone then .ready else .done) jump))):=fun jump s3 s4 U2 hg hS hc hH=>by
   obtain ⟨σ4,ι4,R4⟩:=hg _ _ hH
   have h4:s4.S yb=some (.loop env (rec .busy none)):=by rw [hS];exact AE _ _ _
   obtain ⟨q2,ι5,R5,_⟩:=R4.setLoop (rec (if jump.isNone then .ready else .done) jump) h4 (same R4 h4 rfl) (by rw [hrec])
   refine ⟨σ4,ι5,_,?_,?_,?_,R5⟩
   ·have:=run_endRound (P:=P) jump q2
    rw [hrec] at this ⊢
    exact this
   ·show AG s4.S yb _=_
    rw [hS,Ov]
   ·exact B0 hc hyb hhigh
  cases e3 with
  | normal =>
   obtain ⟨s3,⟨s4,U2,g1,g2,g3,g4,g5⟩,hH⟩:=he3
   obtain ⟨σ5,ι5,s5,f1,f2,f3,R5⟩:=fin none s3 s4 U2 g1 g2 g3 hH
   exact ⟨_,_,f1,Fz (C:=C') rfl rfl rfl (fun g=>Iff.rfl) rfl rfl R5 f3 (.inl ⟨rfl,U2,f2,g4,g5⟩)⟩
  | ret =>
   obtain ⟨s3,⟨s4,U2,g1,g2,g3,g4,g5⟩,hH⟩:=he3
   obtain ⟨σ5,ι5,s5,f1,f2,f3,R5⟩:=fin (some .ret) s3 s4 U2 g1 g2 g3 hH
   exact ⟨_,_,f1,Fz (C:=C') rfl rfl rfl (fun g=>Iff.rfl) rfl rfl R5 f3 (.inr ⟨rfl,U2,_,_,f2,g4,.ret,g5⟩)⟩
  | exit i =>
   obtain ⟨s3,⟨s4,U2,g1,g2,g3,g4,g5⟩,hH⟩:=he3
   obtain ⟨σ5,ι5,s5,f1,f2,f3,R5⟩:=fin (some (.exit i)) s3 s4 U2 g1 g2 g3 hH
   exact ⟨_,_,f1,Fz (C:=C') rfl rfl rfl (fun g=>Iff.rfl) rfl rfl R5 f3 (.inr ⟨rfl,U2,_,_,f2,g4,.exit i,g5⟩)⟩
  | panic ch=>obtain ⟨s3,v,⟨⟨s4,U2,g1,g2,g3,g4,g5⟩,_⟩,_⟩:=he3;exact g5.elim
  | _=>exact he3.elim
 | panic ch=>obtain ⟨s1,v,h1,h2⟩:=he;exact h1.1.elim
 | ret=>obtain ⟨s1,h1,h2⟩:=he;exact h1.elim
 | exit i=>obtain ⟨s1,h1,h2⟩:=he;exact h1.elim
 | _=>exact he.elim
def DO (n:Nat) (env:Nat→AV):List AV:=(List.range n).map env
theorem OM {n:Nat} {env:Nat→AV}:(DO n env).length=n:=by simp [DO]
theorem Xs {n i:Nat} {env:Nat→AV} {a:AV} (h:(DO n env)[i]?=some a):i < n∧a=env i:=by
 unfold DO at h
 rw [List.getElem?_map,Option.map_eq_some_iff] at h
 obtain ⟨j,h1,h2⟩:=h
 obtain ⟨h3,h4⟩:=List.getElem?_eq_some_iff.1 h1
 simp at h3 h4
 subst h4
 exact ⟨h3,h2.symm⟩
theorem M1 {n:Nat} {c:Code} {g:Opd} {ps:List Nat} (h:BK P n mu c=some (.rangeF g ps x y)):∃ g' ps' ca cb,c=.rangeFunc g' ps' ca cb∧AM n g'=some g∧ps'.toList=ps∧BK P n mu ca=some x∧BK P n mu cb=some y:=by
 cases c <;> simp only [BK] at h
 case rangeFunc g' ps' ca cb =>
  split at h
  ·rename_i e1 e2 e3
   split at h
   ·cases h
    exact ⟨_,_,_,_,rfl,e1,rfl,e2,e3⟩
   ·cases h
  ·cases h
 all_goals (exfalso;revert h;(repeat' split) <;> simp)
theorem ZD {U:AA} {id:Nat} {b c:Option AL}:AG (dnS (AG U (up1 id) b)) id c=AG (dnS U) id c:=by
 funext j
 unfold AG
 by_cases e:j=id
 ·rw [if_pos e,if_pos e]
 ·rw [if_neg e,if_neg e]
  show (if j + 1000=up1 id then b else U (j + 1000)).map (AL.ren dn1)=(U (j + 1000)).map (AL.ren dn1)
  rw [if_neg (show ¬ j + 1000=up1 id by unfold up1;omega)]
theorem VU {U:AA} {i:Nat} {b:AL} (h:Ax (AG U i (some b))) (hU:U i=none):Ax U:=fun j c hc=>h j c (by
 rw [AH _ (fun e=>by rw [e,hU] at hc;cases hc)]
 exact hc)
def FC (n:Nat) (env:Nat→AV):Nat→AV:=fun i=>if i < n then (env i).ren up1 else .any
theorem YY {n:Nat} {env:Nat→AV}:(fun i=>((AV.rens up1 (DO n env))[i]?).getD .any)=FC n env:=by
 funext i
 unfold FC DO
 rw [AV.rens_eq,List.map_map,List.getElem?_map]
 by_cases h:i < n
 ·rw [if_pos h,List.getElem?_range h]
  rfl
 ·rw [if_neg h,List.getElem?_eq_none (by simp;omega)]
  rfl
theorem IWP.rangeF {g:Opd} {ps:List Nat} (htop:C.Top) (id:Nat) (hid:id < 1000) (hfree:s.S id=none) {f:Nat} {caps:List AC} (hg:s.ev g=.one (.fn f caps)) (hpl:CC P f=true) {α:Type} {encs:α→List AV} {all:List α} {Need:AA→Prop} (hit:Zj P f (AV.rens up1 (caps.map .one)) Need encs all)
  (hlen:∀ v,(encs v).length=ps.length) (Inv:List α→AA→Prop) (Jx:AX→AA→Prop) (h0:Inv [] (upS s.S)) (hneed:∀ pre U b,Inv pre U→U (up1 id)=none→Need (AG U (up1 id) (some b)))
  (hbody:∀ (C':Ctx) (b0 b1:AL) (pre:List α) (v:α) (U:AA),C'.n=C.n→(pre ++ [v]) <+: all→Inv pre U→U (up1 id)=none→Ax U→b1.high=true →
   IWP P C' mu x (AX.then (fun s1=>s1.S (up1 id)=some b0∧IWP P C' mu y (P2 C' (up1 id) b1 (Inv (pre ++ [v])) Jx) (s1.set (up1 id) b1)) fun _ _=>False) ⟨OX (FC C.n s.env) ps (encs v),AG U (up1 id) (some b0)⟩)
  (hdone:∀ U,Inv all U→Q .normal ⟨s.env,AG (dnS U) id (some (.dead 1 0))⟩) (hjump:∀ e U,Jx e U→Q e ⟨s.env,AG (dnS U) id (some (.dead 1 0))⟩):IWP P C mu (.rangeF g ps x y) Q s:=fun c hc a w hH=>by
 obtain ⟨g',ps',ca,cb,rfl,hg',rfl,hx,hy⟩:=M1 hc
 obtain ⟨σ,ι,R⟩:=hH
 have rg:=R.ev hg'
 rw [hg] at rg
 replace rg:=AY rg
 generalize hev:a.eval g'=fv at rg
 cases rg with
 | @fn _ vc _ cc g1 g2 g3 =>
 refine wpIn_rangeFunc fun fn hfn=>?_
 obtain ⟨rec,hrec⟩:∃ rec:LoopState→Option Code→Loop,rec=fun st pe=>{ state:=st,pending:=pe,fn,tmps:=a.tmps,params:=ps',assign:=ca,body:=cb,defers:=w.heap.size }:=⟨_,rfl⟩
 obtain ⟨w1,hw1⟩:∃ w1,(w.alloc (.deferred (some []))).alloc (.loop (rec .ready none))=w1:=⟨_,rfl⟩
 have hsz:(w.alloc (.deferred (some []))).heap.size=w.heap.size + 1:=World.size_alloc _ _
 have R1:AR C σ ι s { a with defers:=SF w.heap.size :: a.defers } (w.alloc (.deferred (some []))):=by
  have R':=R.more (w':=w.alloc (.deferred (some []))) (Ext.refl _ _) (R.fit.alloc _) (Ed.alloc _ _)
  refine { R' with nod:=?_ }
  obtain ⟨l,h1,h2,h3,_⟩:=R.nod
  refine ⟨w.heap.size :: l,by show _ :: a.defers=_;rw [h1];rfl,List.nodup_cons.2 ⟨fun hm=>?_,h2⟩,fun D hD=>?_,fun hm=>by rw [htop.2] at hm;cases hm⟩
  ·have:=(Array.getElem?_eq_some_iff.1 (h3 _ hm).2).1
   omega
  ·rcases List.mem_cons.1 hD with rfl | hD
   ·exact ⟨R.grown.1,World.alloc_heap_new w _⟩
   ·exact ⟨(h3 D hD).1,(Below.heap_alloc _ _ _ (Array.getElem?_eq_some_iff.1 (h3 D hD).2).1).trans (h3 D hD).2⟩
 have hsize:=R.size
 obtain ⟨hu2,R2⟩:=R1.fresh (w':=w1) hfree (.loop (DO C.n s.env) (rec .ready none)) ⟨none,0,some (w.heap.size + 1)⟩ (Ext.refl _ _) (by rw [← hw1];exact R1.fit.alloc _) (by rw [← hw1];exact Ed.alloc _ _) (fun g hg=>by cases hg;omega) (fun S' ι' hu=>.loop (g:=w.heap.size + 1) rfl (by rw [← hw1,← hsz];exact World.alloc_heap_new _ _) (by rw [OM,hrec];exact hsize) (fun j b hb=>by
   obtain ⟨hj,rfl⟩:=Xs hb
   rw [hrec]
   exact (R.env j hj).mono (fun _ _ h=>h) hu) (fun p hp=>R1.fit.no (by rw [hsz];omega)))
 have hl2:(AG ι id (⟨none,0,some (w.heap.size + 1)⟩:Hnd) id).g=some (w.heap.size + 1):=by rw [AE]
 generalize AG ι id (⟨none,0,some (w.heap.size + 1)⟩:Hnd)=ι2 at R2 hl2 hu2
 obtain ⟨ι3,hι3,hown,hren,hend⟩:=R2.upped
 have hargs:Ad (AT σ (upS (s.set id (.loop (DO C.n s.env) (rec .ready none))).S) ι3) (.func (.yield (w.heap.size + 1)) #[] #[] :: vc.toList) (.one (.yld (up1 id)) :: AV.rens up1 (caps.map .one)):=by
  have hS2:(s.set id (.loop (DO C.n s.env) (rec .ready none))).S id=some (.loop (DO C.n s.env) (rec .ready none)):=AE _ _ _
  refine .cons (hren _ _ (.one (.yld hS2 (Nat.le_refl _) rfl fun _=>⟨_,hl2,rfl⟩))) ?_
  rw [AV.rens_eq]
  refine (Ad.mono (fun v c h=>hren v c h) ?_).map_right
  refine (Ad.of_get (R:=fun v c=>AT σ (s.set id (.loop (DO C.n s.env) (rec .ready none))).S ι2 v (.one c)) (by simpa using g1) fun j v b hv hb=>?_).map_right
  have e:=g2 j b hb
  have e2:vc.toList[j]?=some (cc j):=by simpa using e
  rw [hv] at e2
  cases e2
  exact .one ((g3 j b hb).mono (fun _ _ h=>h) hu2)
 have hcl:=KP (s.set id (.loop (DO C.n s.env) (rec .ready none))).S
 have hTeq:upS (s.set id (.loop (DO C.n s.env) (rec .ready none))).S=AG (upS s.S) (up1 id) (some (.loop (AV.rens up1 (DO C.n s.env)) (rec .ready none))):=Yi _ _ _
 have hcall:=hit (up1 id) (fun pre T=>∃ U,T=AG U (up1 id) (some (.loop (AV.rens up1 (DO C.n s.env)) (rec .ready none)))∧U (up1 id)=none∧Inv pre U)
  (fun T=>∃ U c e,T=AG U (up1 id) (some (.loop (AV.rens up1 (DO C.n s.env)) (rec .done (some c))))∧U (up1 id)=none∧Yh c e∧Jx e U)
  _ (At id) (fun pre T hT=>by
   obtain ⟨U,rfl,hU,hI⟩:=hT
   exact hneed pre U _ hI hU) (fun pre v hpre T hT=>by
   obtain ⟨U,rfl,hU,hI⟩:=hT
   exact XR hx hy (by rw [AV.rens_eq,List.length_map,OM]) (At id) hrec (by rw [hlen];simp) hU fun hc C' hC'=>by
    rw [YY]
    exact hbody C' _ (.loop (AV.rens up1 (DO C.n s.env)) (rec .busy none)) pre v U hC' hpre hI hU (VU hc hU) (AV.rens_high _))
  ⟨_,hTeq,by rw [A0,hfree];rfl,h0⟩ hcl σ w1 _ ι3 (C.glob.mono R.ext) R2.fit hown hargs
 refine ⟨w.heap.size + 1,[SF w.heap.size],w1,{ target:=.fn (.func f) vc,args:=#[.func (.yield (w.heap.size + 1)) #[] #[]] },w1,f,#[.func (.yield (w.heap.size + 1)) #[] #[]] ++ vc,w1,?_,?_,fun _ _=>trivial,?_,fun h=>by simp [fen,Fence.wide] at h,?_⟩
 ·have hr:(fen C.ro).round=none:=htop.1
  rw [hr,← hw1,hrec]
  exact run_enterLoop_outer _ _ _ _ _
 ·simp only [resolve,hev]
  simp [go_sem]
 ·have:=EQ (P:=P) (w:=w1) (args:=#[.func (.yield (w.heap.size + 1)) #[] #[]] ++ vc) hpl
  simp [invoke,go_sem,this]
 ·have he0:(Value.func (.yield (w.heap.size + 1)) #[] #[] :: vc.toList).toArray=#[.func (.yield (w.heap.size + 1)) #[] #[]] ++ vc:=by
   apply Array.ext'
   simp
  rw [he0] at hcall
  refine Ks (hcall.mono fun e w2 he=>?_)
  obtain ⟨v,r,S',σ',ι4,rfl,hP,hS',hu4,R4⟩:=hend he
  have hl4:∀ {b:AL},dnS S' id=some b→b.len=1→(ι4 id).g=some (w.heap.size + 1):=fun hb hb1=>by
   obtain ⟨b',h1,h2,h3⟩:=hu4 id _ (show (s.set id (.loop (DO C.n s.env) (rec .ready none))).S id=some _ from AE _ _ _)
   rw [hb] at h1
   cases h1
   rw [(h3 hb1).2]
   exact hl2
  have fin:∀ (U:AA) (env:List AV) (st:LoopState) (pe:Option Code),st ≠ .busy→S'=AG U (up1 id) (some (.loop env (rec st pe)))→∃ w3,(Instr.endLoop (w.heap.size + 1)).run P w2=.ok pe w3∧BM C ⟨s.env,AG (dnS U) id (some (.dead 1 0))⟩ { a with defers:=SF w.heap.size :: a.defers } w3:=fun U env st pe hst hS=>by
   have hb:dnS S' id=some (.loop (AV.rens dn1 env) (rec st pe)):=by
    have:=HP (At id) (show S' (up1 id)=some (.loop env (rec st pe)) by rw [hS];exact AE _ _ _)
    rw [Lk] at this
    exact this
   have hg4:=hl4 hb rfl
   cases hbr:R4.blk id _ hb with
   | loop k1 k2 k3 k4 k5 =>
    rw [hg4] at k1
    cases k1
    obtain ⟨ι5,R5,_⟩:=R4.setBlk (b':=.dead 1 0) (o':=.loop { rec st pe with state:=.exhausted }) hb hg4 k2 k5 rfl rfl fun S'' ι'' hu=>.dead fun g' hg'=>by
     rw [hg4] at hg'
     cases hg'
     exact ⟨_,(DT k2).1,rfl⟩
    refine ⟨w2.putObj (w.heap.size + 1) (.loop { rec st pe with state:=.exhausted }),?_,σ',ι5,?_⟩
    ·have:=run_endLoop (P:=P) k2 (by rw [hrec];exact hst)
     rw [hrec] at this ⊢
     exact this
    ·have e5:(AS.set ⟨(s.set id (.loop (DO C.n s.env) (rec .ready none))).env,dnS S'⟩ id (.dead 1 0))=⟨s.env,AG (dnS U) id (some (.dead 1 0))⟩:=by
      show AS.mk s.env (AG (dnS S') id _)=_
      rw [hS,ZD]
     rw [← e5]
     exact R5
  rcases hP with ⟨U,h1,h2,h3⟩ | ⟨U,c,e,h1,h2,h3,h4⟩
  ·obtain ⟨w3,f1,f2⟩:=fin U _ .ready none (by simp) h1
   exact ⟨none,w3,f1,_,hdone U h3,f2⟩
  ·obtain ⟨w3,f1,f2⟩:=fin U _ .done (some c) (by simp) h1
   refine ⟨some c,w3,f1,?_⟩
   cases h3 with
   | ret=>exact wpIn_ret ⟨_,hjump _ U h4,f2⟩
   | exit i=>exact wpIn_exit ⟨_,hjump _ U h4,f2⟩
end

def DZ:IR :=
 (.seq (.ops [.i 4 (.mov (.c (.one (.st (.bool false)))))]) (.seq (.seq (.ops [.i 5 (.mov (.n 0))]) (.block 0 (.loop (.seq (.seq (.ops [.m 8 5,.m 9 1,.i 10 (.len false (.t 9)),.i 11 (.bin .lss (.t 8) (.t 10))]) (.cond (.t 11) .skip (.exit 0))) (.seq (.block 1 (.seq (.ops [.m 15 0,.m 16 1,.m 17 5,.i 18 (.indexAddr 4 (.t 16) (.t 17)),.f 19 0 18,.L 20 2 19,.m 21 1,.m 22 5,.i 23 (.indexAddr 4 (.t 21) (.t 22)),.f 24 2 23,.L 25 2 24,.i 26 (.call 37 [.t 15,.t 20,.t 25]),.m 14 26,.i 27 (.extract 0 (.t 14)),.i 28 (.extract 1 (.t 14)),.m 6 27,.m 7 28]) (.seq (.ops [.m 29 7,.i 30 (.bin .neq (.t 29) (.n 0)),.m 31 30,.mk (some 32) (some (31,false)) (.mov (.t 6)) .no,.mk (some 33) (some (31,false)) (.un .not (.t 32)) .no,.i 34 (.pick (.t 31) (.c (.one (.st (.bool true)))) (.t 33))]) (.cond (.t 34) (.seq (.ops [.i 4 (.mov (.c (.one (.st (.bool false)))))]) .ret) .skip)))) (.ops [.m 12 5,.i 13 (.bin .add (.t 12) (.n 1)),.m 5 13])))))) (.seq (.ops [.i 4 (.mov (.c (.one (.st (.bool true)))))]) .ret)))
theorem Gg:OkF Tryz.prog 15 35 [] DZ [.t 4]:=.of Tryz.func15 rfl rfl (by kernel_rfl) rfl

set_option maxHeartbeats 2000000
set_option maxRecDepth 100000 in
theorem KZ:∀ k,k < 10→BF (Bs k)=0∧(Bs k).all (fun r=>decide (r.2.size≤7))=true
 | 0,_=>⟨by kernel_rfl,by kernel_rfl⟩
 | 1,_=>⟨by kernel_rfl,by kernel_rfl⟩
 | 2,_=>⟨by kernel_rfl,by kernel_rfl⟩
 | 3,_=>⟨by kernel_rfl,by kernel_rfl⟩
 | 4,_=>⟨by kernel_rfl,by kernel_rfl⟩
 | 5,_=>⟨by kernel_rfl,by kernel_rfl⟩
 | 6,_=>⟨by kernel_rfl,by kernel_rfl⟩
 | 7,_=>⟨by kernel_rfl,by kernel_rfl⟩
 | 8,_=>⟨by kernel_rfl,by kernel_rfl⟩
 | 9,_=>⟨by kernel_rfl,by kernel_rfl⟩
 | k + 10,h=>by omega
theorem Zd {row:List ByteArray} (hrm:EA row=0) {t u:Tm} (k1:t.chk=0) (q1:t.size≤200) (k2:u.chk=0) (q2:u.size≤200):AU Tryz.prog 37 [CR row,aTm t,aTm u] (.tup [Aa (paB row t u),AO 0]):=by
 have e:EK row t u=0:=by
  unfold EK CY
  rw [if_pos hrm,if_pos (T7 k1 q1)]
  exact T7 k2 q2
 have:=Qs row t u
 unfold SI at this
 rw [if_pos e,e] at this
 exact this
theorem ZZ {row:List ByteArray} (hrm:EA row=0) {R:List Pr} (hR:AZ R):AU Tryz.prog 15 [CR row,CH R] (Aa (R.all fun r=>paB row r.1 r.2)):=by
 have h40:=hR.len
 refine Gg.ac fun C hC=>?_
 unfold DZ
 repeat' with_reducible first | refine W ?_ | refine Z0 ?_ | ((first | refine Wo fun K hK=>?_ | refine Wp ?_ | refine Wq ?_ | refine Wr ?_);(try simp only [go_sem,fN,seval,eT,iR,dT,dF,nL]);(repeat refine Ai ?_);(try (refine hK _ ?_;clear hK K));try refine iC ?_)
 refine IWP.loop (fun m s=>∃ k,k≤R.length∧m=R.length - k∧(R.take k).all (fun r=>paB row r.1 r.2)=true∧s.env 0=CR row∧s.env 1=CH R∧s.env 5=AO k) R.length ⟨0,Nat.zero_le _,rfl,rfl,rfl,rfl,rfl⟩ ?_
 rintro m ⟨env,S⟩ ⟨k,hk,rfl,hall,e0,e1,e5⟩
 simp only at e0 e1 e5
 by_cases hkl:k < R.length
 case neg =>
  have hkl':¬ (k:Int) < R.length:=by omega
  rw [List.take_of_length_le (by omega)] at hall
  repeat' with_reducible first | refine W ?_ | refine Z0 ?_ | ((first | refine Wo fun K hK=>?_ | refine Wp ?_ | refine Wq ?_ | refine Wr ?_);(try simp only [go_sem,fN,seval,eT,iR,e0,e1,e5,hkl',dT,dF,nL]);(repeat refine Ai ?_);(try (refine hK _ ?_;clear hK K));try refine iC ?_)
  simp only [go_sem,fN,seval,AN,AS.result,AB,AD,AK,hall]
 have hkl':(k:Int) < R.length:=by omega
 obtain ⟨q,hq⟩:=Ag hkl
 have mq:=AQ hq
 have a1:=Tm.may_chk (hR.left q mq)
 have a2:=Tm.may_chk (hR.right q mq)
 have cp:=Zd hrm a1.1 a1.2 a2.1 a2.2
 cases hb:paB row q.1 q.2 with
 | true =>
  rw [hb] at cp
  repeat' (first | (with_reducible first | refine W ?_ | refine Z0 ?_ | ((first | refine Wo fun K hK=>?_ | refine Wp ?_ | refine Wq ?_ | refine Wr ?_);(try simp only [go_sem,fN,seval,eT,iR,e0,e1,e5,hkl',hq,Bf,dT,dF,nL]);(repeat refine Ai ?_);(try (refine hK _ ?_;clear hK K));try refine iC ?_)) | refine Cg _ (cp) ?_)
  refine AI ⟨R.length - (k + 1),by omega,k + 1,by omega,rfl,?_,?_⟩
  ·rw [Al hq,List.all_append,hall]
   simp [hb]
  ·simp only [go_sem,fN,seval,eT,iR,e0,e1,e5]
   congr 3
 | false =>
  rw [hb] at cp
  have hno:(R.all fun r=>paB row r.1 r.2)=false:=by
   rw [List.all_eq_false]
   exact ⟨q,mq,by simp [hb]⟩
  repeat' (first | (with_reducible first | refine W ?_ | refine Z0 ?_ | ((first | refine Wo fun K hK=>?_ | refine Wp ?_ | refine Wq ?_ | refine Wr ?_);(try simp only [go_sem,fN,seval,eT,iR,e0,e1,e5,hkl',hq,Bf,dT,dF,nL]);(repeat refine Ai ?_);(try (refine hK _ ?_;clear hK K));try refine iC ?_)) | refine Cg _ (cp) ?_)
  simp only [go_sem,fN,seval,AN,AS.result,AB,AD,AK,hno]

def GW:IR :=
 (.seq (.ops [.i 2 (.box 22 (.t 0)),.i 3 (.box 37 (.t 1)),.i 4 (.alloc 35 [.full []]),.i 5 (.alloc 23 [.st (.int .i64 0)])]) (.seq (.ops [.i 6 (.alloc 35 [.full []])]) (.seq (.ops [.i 7 (.alloc 23 [.st (.int .i64 0)])]) (.seq (.seq (.ops [.L 14 2 3,.i 15 (.call 80 [.t 14,.c (.one (.fn 81 []))])]) (.block 0 (.rangeF (.t 15) [16,17] (.seq (.ops [.i 8 (.alloc 37 [.st (.str (ByteArray.mk (#[]))),.full []]),.s 2 8 16]) (.ops [.m 9 17])) (.block 1 (.seq (.seq (.ops [.i 10 (.mov (.n 0))]) (.block 2 (.loop (.block 3 (.seq (.ops [.l 19 2,.L 20 2 8,.m 21 10,.i 22 (.call 78 [.t 19,.t 20,.t 21]),.m 18 22,.i 23 (.extract 0 (.t 18)),.i 24 (.extract 1 (.t 18)),.i 25 (.extract 2 (.t 18)),.i 11 (.alloc 37 [.st (.str (ByteArray.mk (#[]))),.full []]),.s 2 11 23,.m 12 24,.m 13 25]) (.seq (.seq (.ops [.m 26 12,.i 27 (.bin .lss (.t 26) (.n 0))]) (.cond (.t 27) (.exit 2) .skip)) (.seq (.seq (.ops [.m 28 13,.i 29 (.bin .eql (.t 28) (.n 0))]) (.cond (.t 29) (.seq (.ops [.m 30 9,.L 31 2 11,.i 32 (.callV (.t 30) [.t 31]),.s 2 11 32]) (.seq (.ops [.L 33 2 11,.i 34 (.call 44 [.t 33]),.i 35 (.bin .gtr (.t 34) (.n 2000))]) (.cond (.t 35) (.ops [.i 13 (.mov (.n 8))]) .skip))) .skip)) (.seq (.seq (.ops [.m 36 13,.i 37 (.bin .neq (.t 36) (.n 0))]) (.cond (.t 37) (.seq (.ops [.m 38 13,.s 1 7 38]) (.exit 2)) .skip)) (.seq (.ops [.l 39 6,.L 40 2 11,.i 41 (.call 42 [.t 40]),.i 42 (.len false (.t 39)),.i 43 (.buildSlice false 37 2 [.c (.agg [.st (.str (ByteArray.mk (#[]))),.full []])]),.i 44 (.append true 37 2 40 (.t 39) (.t 43)),.i 45 (.indexAddr 2 (.t 44) (.t 42)),.mk none none (.store 2 (.t 45) (.t 41)) (.onb 1500),.mk none none (.store 1 (.t 6) (.t 44)) (.onb 1006)]) (.ops [.m 46 12,.i 47 (.bin .add (.t 46) (.n 1)),.m 10 47])))))))))) (.seq (.ops [.l 48 7,.i 49 (.bin .neq (.t 48) (.n 0))]) (.cond (.t 49) (.seq (.ops [.mk (some 50) none (.load false 1 (.t 7)) (.onb 1007),.mk none none (.store 1 (.t 4) (.c (.one (.full [])))) (.onb 1004),.s 1 5 50]) .ret) .skip))))))) (.seq (.ops [.l 51 6,.s 1 4 51,.mk none none (.store 1 (.t 5) (.n 0)) .no]) .ret)))))
theorem K5:OkF Tryz.prog 45 52 [44,10451500,10061006,10071007,10041004] GW [.cell 4 false 1,.cell 5 false 1]:=.of Tryz.func45 rfl rfl (by kernel_rfl) rfl
def FH:IR :=
 (.seq (.ops [.i 3 (.box 37 (.t 1)),.i 4 (.mov (.c (.one (.full [])))),.i 5 (.mov (.n 0))]) (.seq (.seq (.ops [.m 7 0,.L 8 2 3,.i 9 (.call 39 [.t 7,.t 8]),.m 6 9]) (.seq (.ops [.m 10 6,.i 11 (.bin .neq (.t 10) (.n 0))]) (.cond (.t 11) (.seq (.ops [.m 12 6,.i 4 (.mov (.c (.one (.full [])))),.m 5 12]) .ret) .skip))) (.seq (.ops [.m 13 0,.L 14 2 3,.i 15 (.call 45 [.t 13,.t 14]),.i 16 (.extract 0 (.t 15)),.i 17 (.extract 1 (.t 15)),.m 4 16,.m 5 17]) .ret)))
theorem Jr:OkF Tryz.prog 20 18 [] FH [.t 4,.t 5]:=.of Tryz.func20 rfl rfl (by kernel_rfl) rfl

def GQ:IR :=
 (.seq (.ops [.i 2 (.box 37 (.t 0)),.i 3 (.box 73 (.t 1)),.i 4 (.mov (.c (.one (.st (.lit .nilFunc)))))]) (.seq (.ops [.i 5 (.makeFunc 113 [.t 2,.t 3]),.m 4 5]) .ret))
theorem K_:OkF Tryz.prog 80 6 [] GQ [.t 4]:=.of Tryz.func80 rfl rfl (by kernel_rfl) rfl
def Eo:IR :=
 (.ops [.L 4 2 1,.l 5 2,.m 6 0,.i 7 (.callX 114 [.t 4,.t 5,.t 6])])
theorem Jc:OkF Tryz.prog 113 8 [80000007] Eo []:=.of Tryz.func113 rfl rfl (by kernel_rfl) rfl
def FR:IR :=
 (.seq (.ops [.i 3 (.box 37 (.t 0)),.i 4 (.box 73 (.t 1)),.i 6 (.mov (.c (.one (.st (.bool false)))))]) (.seq (.seq (.ops [.m 9 2,.L 10 2 3,.l 11 4,.i 12 (.callY (.t 9) [.t 10,.t 11]),.i 13 (.un .not (.t 12))]) (.cond (.t 13) (.seq (.ops [.i 6 (.mov (.c (.one (.st (.bool false)))))]) .ret) .skip)) (.seq (.seq (.ops [.f 14 1 3,.l 15 14,.i 16 (.len false (.t 15)),.i 17 (.mov (.n 0))]) (.block 0 (.loop (.seq (.ops [.i 18 (.bin .lss (.t 17) (.t 16))]) (.seq (.cond (.t 18) .skip (.exit 0)) (.seq (.block 1 (.seq (.ops [.m 19 17,.i 7 (.alloc 3 [.st (.int .i64 0)]),.s 1 7 19]) (.seq (.ops [.i 20 (.makeFunc 128 [.t 3,.t 7,.t 4]),.m 8 20]) (.seq (.ops [.f 21 1 3,.l 22 21,.l 23 7,.i 24 (.indexAddr 2 (.t 22) (.t 23)),.L 25 2 24,.m 26 8,.m 27 2,.i 28 (.callX 114 [.t 25,.t 26,.t 27]),.i 29 (.un .not (.t 28))]) (.cond (.t 29) (.seq (.ops [.i 6 (.mov (.c (.one (.st (.bool false)))))]) .ret) .skip))))) (.ops [.i 30 (.bin .add (.t 17) (.n 1)),.m 17 30]))))))) (.seq (.ops [.i 6 (.mov (.c (.one (.st (.bool true)))))]) .ret))))
theorem Ju:OkF Tryz.prog 114 31 [70000012,80000028] FR [.t 6]:=.of Tryz.func114 rfl rfl (by kernel_rfl) rfl
def Ej:IR :=
 (.seq (.ops [.i 4 (.box 37 (.t 0)),.i 5 (.alloc 37 [.st (.str (ByteArray.mk (#[]))),.full []])]) (.seq (.ops [.f 7 0 1,.l 8 7,.f 9 1 1,.l 10 9,.i 11 (.callN 79 [.t 10]),.i 12 (.build [.st (.str (ByteArray.mk (#[]))),.full []] [(0,1,.t 8),(1,1,.t 11)]),.i 6 (.alloc 37 [.st (.str (ByteArray.mk (#[]))),.full []]),.s 2 6 12]) (.seq (.ops [.f 13 1 6,.l 14 13,.l 15 2,.L 16 2 4,.i 17 (.indexAddr 2 (.t 14) (.t 15)),.s 2 17 16]) (.seq (.ops [.l 18 3,.L 19 2 6,.i 20 (.callV (.t 18) [.t 19]),.s 2 5 20]) .ret))))
theorem IC:OkF Tryz.prog 128 21 [20000011] Ej [.cell 5 true 2]:=.of Tryz.func128 rfl rfl (by kernel_rfl) rfl
def E5:IR :=
 (.seq (.ops [.i 1 (.box 37 (.t 0)),.i 2 (.alloc 37 [.st (.str (ByteArray.mk (#[]))),.full []])]) (.seq (.ops [.L 3 2 1,.s 2 2 3]) .ret))
theorem JP:OkF Tryz.prog 81 4 [] E5 [.cell 2 true 2]:=.of Tryz.func81 rfl rfl (by kernel_rfl) rfl



section
variable {C:Ctx} {s:AS}
theorem Ac.ice (t:Nat) {id:Nat} {e:TypeId} {cs:List AC} {xs:List SV} (hS:s.S id=some (.box e cs)) (hc:stCs s.S cs=some xs) (ht:s.env t=.one (.ptr id 1 0 0)) (hn:t < C.n):Ac C s ⟨AG s.env t (.one (.eptr xs)),AG s.S id (some (.dead 1 0))⟩:=fun a w ⟨σ,ι,R⟩=>by
 have hb:=R.blk _ _ hS
 cases hb with
 | @box _ _ g vs h1 h2 h3 h4 h5 =>
  have hsc:=R.stCs h4 hc
  have hkeep:=Fi (σ:=σ) (w':=w) (g:=g) (k:=vs.size) (fun p x ep hx=>by rw [h5 _ ep] at hx;cases hx)
  obtain ⟨hu,R'⟩:=R.turn (w':=w) hS (.dead 1 0) (ι id) (σ':=Eg σ w g vs.size) hkeep (fun p hp _=>Fb (fun e=>hp (by rw [e];exact h1))) (Ee R.fit) (Nat.le_refl _) (fun _=>⟨rfl,rfl⟩) ⟨rfl,rfl,rfl⟩ (Nat.le_refl _) (fun _ _ _=>rfl) (fun g h=>.inl h) (fun hu=>.dead fun g' hg'=>⟨_,(by rw [h1] at hg';cases hg';exact h3),rfl⟩)
  refine ⟨_,_,{ R' with env:=fun i hi=>?_ }⟩
  show AT _ _ _ _ (AG s.env t _ i)
  unfold AG
  split
  ·rename_i hit
   subst hit
   have:=R.env i hi
   rw [ht] at this
   have hv:=AY this
   generalize a.tmps.getD i undef=v at hv
   cases hv with
   | ptr k1 k2 k3 k4 =>
    rw [hS] at k1
    cases k1
    obtain ⟨g',q1,q2⟩:=k4 rfl
    rw [h1] at q1
    cases q1
    rw [q2]
    have key:∀ j x,xs[j]?=some x→∃ v,vs[j]?=some v∧Au σ v x:=fun j x hx=>by
     obtain ⟨v,v1,v2⟩:=hsc.get hx
     exact ⟨v,by simpa using v1,v2⟩
    have hlen:vs.size=xs.length:=by simpa using hsc.len
    refine .one (.eptr (o:=0) (fun j=>(vs[j]?).getD undef) (fun j x hx=>?_) (fun j x hx=>?_) (fun _ q=>?_))
    ·obtain ⟨v,v1,v2⟩:=key j x hx
     have hj:j < vs.size:=(Array.getElem?_eq_some_iff.1 v1).1
     rw [Nat.zero_add,LT hj,cell_of_row w g _ _ _ _ h3]
     simp [v1]
    ·obtain ⟨v,v1,v2⟩:=key j x hx
     rw [v1]
     exact v2.mono hkeep
    ·have:=Nz q
     rw [Hb (by omega),FZ h3]
  ·exact R'.env i hi
theorem Ac.calm {id:Nat} {e:TypeId} {cs:List AC} {xs:List SV} (hS:s.S id=some (.box e cs)) (hc:stCs s.S cs=some xs):Ac C s (s.set id (.box e (xs.map .st))):=fun a w ⟨σ,ι,R⟩=>by
 have hb:=R.blk _ _ hS
 cases hb with
 | @box _ _ g vs h1 h2 h3 h4 h5 =>
  have hsc:=R.stCs h4 hc
  obtain ⟨hu,R'⟩:=R.turn (w':=w) hS (.box e (xs.map .st)) (ι id) (σ':=σ) (fun _ _ h=>h) (fun _ _ _=>rfl) R.fit (Nat.le_refl _) (fun _=>⟨rfl,rfl⟩) ⟨rfl,rfl,rfl⟩ (Nat.le_refl _) (fun _ _ _=>rfl) (fun g h=>.inl h) (fun hu=>.box h1 h2 h3 ((hsc.mono fun _ _ x=>An.st x).map_right) h5)
  exact ⟨_,_,R'⟩
end

abbrev Dq (t:Tm):List SV:=[.str t.name,.list (t.args.map Ap)]
def svW:List (Tm × Nat)→SV
 | []=>.lit (.func (.func 81) #[] #[])
 | (t,i) :: V=>.clo 128 [Dq t,[.int .i64 i],[svW V]]
def acW:List (Tm × Nat)→AC
 | []=>.fn 81 []
 | (t,i) :: V=>.fn 128 [.eptr (Dq t),.eptr [.int .i64 i],.eptr [svW V]]
theorem Yo (S:AA):∀ V,stC S (acW V)=some (svW V)
 | []=>rfl
 | (t,i) :: V=>rfl
def ON:List (Tm × Nat)→List AC
 | []=>[]
 | (t,i) :: V=>[.eptr (Dq t),.eptr [.int .i64 i],.eptr [svW V]]
def fnW:List (Tm × Nat)→Nat
 | []=>81
 | (t,i) :: V=>128
theorem Mq:∀ V,(AV.one (.st (svW V))).fnOf=some (fnW V,ON V)
 | []=>rfl
 | (t,i) :: V=>rfl
theorem KS:∀ V,CC Tryz.prog (fnW V)=true
 | []=>by kernel_rfl
 | (t,i) :: V=>by kernel_rfl
theorem Ii (ρ:Nat→Nat):∀ V,AV.rens ρ ((ON V).map .one)=(ON V).map .one
 | []=>rfl
 | (t,i) :: V=>rfl
theorem TB (V:List (Tm × Nat)) (x:Tm):outVs noS (aTm x :: (ON V).map .one)=some (aTm x :: (ON V).map .one):=by
 cases V <;> rfl
theorem Ym (x:Tm):AU Tryz.prog 81 [aTm x] (aTm x):=by
 refine JP.ac fun C hC=>?_
 unfold E5
 repeat' with_reducible first | refine W ?_ | refine Z0 ?_ | ((first | refine Wo fun K hK=>?_ | refine Wp ?_ | refine Wq ?_ | refine Wr ?_);(try simp only [go_sem,fN,seval,eT,iR,dT,dF,nL]);(repeat refine Ai ?_);(try (refine hK _ ?_;clear hK K));try refine iC ?_)
 simp only [go_sem,fN,seval,AN,AS.result,AB,AD,AK]
theorem Xn:∀ (V:List (Tm × Nat)) (x:Tm),N5 V→AU Tryz.prog (fnW V) (aTm x :: (ON V).map .one) (aTm (Bw V x))
 | [],x,_=>Ym x
 | (t,i) :: V,x,hV=>by
  obtain ⟨h1,h2,h3⟩:=hV
  have ih:=Xn V (.mk t.name (t.args.set i x)) h3
  show AU Tryz.prog 128 [aTm x,.one (.eptr (Dq t)),.one (.eptr [.int .i64 i]),.one (.eptr [svW V])] (aTm (Bw V (.mk t.name (t.args.set i x))))
  refine IC.ac fun C hC=>?_
  unfold Ej
  repeat' with_reducible first | refine W ?_ | refine Z0 ?_ | ((first | refine Wo fun K hK=>?_ | refine Wp ?_ | refine Wq ?_ | refine Wr ?_);(try simp only [go_sem,fN,seval,eT,iR,dT,dF,nL]);(repeat refine Ai ?_);(try (refine hK _ ?_;clear hK K));try refine iC ?_)
  refine ⟨_,_,_,_,LZ t.args (by omega) h2,by simp [AG,noS],?_⟩
  refine Wr ?_
  simp only [go_sem,fN,seval,eT,iR]
  refine hK _ ?_
  clear hK K
  refine Wb ?_
  refine IWP.mid (fun x'=>x'.env 3=.one (.eptr [svW V])∧x'.env 5=.one (.ptr 5 1 0 0)∧x'.env 6=.one (.ptr 6 1 0 0)∧x'.S 5=some (.box 37 [.st (.str ⟨#[]⟩),.full []])∧x'.S 6=some (.box 37 [.st (.str t.name),.row 11 t.args.length])∧x'.S 11=some (.mrow 37 2 ((t.args.set i x).map Ap))) ?_ ?_
  ·have hlt:(i:Int) < t.args.length:=by omega
   obtain ⟨a,ha⟩:=Ag h1
   repeat' with_reducible first | refine W ?_ | refine Z0 ?_ | ((first | refine Wo fun K hK=>?_ | refine Wp ?_ | refine Wq ?_ | refine Wr ?_);(try simp only [go_sem,fN,seval,eT,iR,hlt,ha,dT,dF,nL]);(repeat refine Ai ?_);(try (refine hK _ ?_;clear hK K));try refine iC ?_)
   refine ⟨rfl,?_⟩
   simp only [go_sem,fN,seval,eT,iR,hlt,ha]
   rw [List.map_set,Af]
  rintro ⟨env,S⟩ ⟨e3,e5,e6,s5,s6,s11⟩
  simp only at e3 e5 e6 s5 s6 s11
  have hl1:(t.args.set i x).length=t.args.length:=by simp
  refine IWP.ghost (Ac.share (id:=11) s11) ?_
  refine IWP.ghost (Ac.calm (id:=6) (e:=37) (cs:=[.st (.str t.name),.row 11 t.args.length]) (xs:=Dq (.mk t.name (t.args.set i x))) (by simp only [go_sem,fN,seval,eT,iR,s6]) (by simp only [go_sem,fN,seval,eT,iR,hl1,stCs,stC,Tm.name_mk,Tm.args_mk,Dq])) ?_
  repeat' with_reducible first | refine W ?_ | refine Z0 ?_ | ((first | refine Wo fun K hK=>?_ | refine Wp ?_ | refine Wq ?_ | refine Wr ?_);(try simp only [go_sem,fN,seval,eT,iR,e3,e5,e6,s5,s6,Mq,dT,dF,nL]);(repeat refine Ai ?_);(try (refine hK _ ?_;clear hK K));try refine iC ?_)
  rw [Ii]
  refine ⟨KS V,_,_,ih.toS (TB V _),?_⟩
  repeat' with_reducible first | refine W ?_ | refine Z0 ?_ | ((first | refine Wo fun K hK=>?_ | refine Wp ?_ | refine Wq ?_ | refine Wr ?_);(try simp only [go_sem,fN,seval,eT,iR,e3,e5,e6,s5,s6,dT,dF,nL]);(repeat refine Ai ?_);(try (refine hK _ ?_;clear hK K));try refine iC ?_)
  simp only [go_sem,fN,seval,AN,AS.result,AB,AD,AK,e5,s5]
theorem Z2 (t:Tm):AU Tryz.prog 80 [aTm t,.one (acW [])] (.one (.fn 113 [.eptr (Dq t),.eptr [svW []]])):=by
 refine K_.ac fun C hC=>?_
 unfold GQ
 refine IWP.mid (fun x=>x.env 2=.one (.ptr 2 1 0 0)∧x.env 3=.one (.ptr 3 1 0 0)∧(∃ e,x.S 2=some (.box e [.st (.str t.name),.st (.list (t.args.map Ap))]))∧∃ e,x.S 3=some (.box e [acW []])) ?_ ?_
 ·repeat' with_reducible first | refine W ?_ | refine Z0 ?_ | ((first | refine Wo fun K hK=>?_ | refine Wp ?_ | refine Wq ?_ | refine Wr ?_);(try simp only [go_sem,fN,seval,eT,iR,dT,dF,nL]);(repeat refine Ai ?_);(try (refine hK _ ?_;clear hK K));try refine iC ?_)
  exact ⟨rfl,rfl,rfl,⟨_,rfl⟩,⟨_,rfl⟩⟩
 rintro ⟨env,S⟩ ⟨e2,e3,⟨ty,s2⟩,ty',s3⟩
 simp only at e2 e3 s2 s3
 refine IWP.ghost (Ac.ice 2 (id:=2) s2 (xs:=Dq t) rfl e2 (by omega)) ?_
 refine IWP.ghost (Ac.ice 3 (id:=3) (e:=ty') (cs:=[acW []]) (xs:=[svW []]) (by simp only [go_sem,fN,seval,eT,iR,s3]) rfl (by simp only [go_sem,fN,seval,eT,iR,e3]) (by omega)) ?_
 repeat' with_reducible first | refine W ?_ | refine Z0 ?_ | ((first | refine Wo fun K hK=>?_ | refine Wp ?_ | refine Wq ?_ | refine Wr ?_);(try simp only [go_sem,fN,seval,eT,iR,AS.caps,dT,dF,nL]);(repeat refine Ai ?_);(try (refine hK _ ?_;clear hK K));try refine iC ?_)
 simp only [go_sem,fN,seval,AN,AS.result,AB,AD,AK]
 rfl
theorem L8 {s:AS} {ds:List Nat} (hds:∀ d ∈ ds,d < 1000) {T:AA} (hT:Ax T) (h:∀ i,1000≤i→s.S i=T i):∀ i,1000≤i→(s.drop ds).S i=T i:=fun i hi=>by
 show Ao ds s.S i=T i
 unfold Ao
 rw [DK hds hi,h i hi]
 cases hb:T i with
 | none=>rfl
 | some b=>simp [AL.purge_high hds (hT i b hb).2]
def Y5 (q:List (Tm × Nat) × Tm):List AV:=[aTm q.2,.one (.st (svW q.1))]
theorem Yq {y:Nat} (hy:1000≤y) {all:List (List (Tm × Nat) × Tm)} {Inv:List (List (Tm × Nat) × Tm)→AA→Prop} {Jx:AA→Prop}
  (hround:∀ pre v,(pre ++ [v]) <+: all→∀ T,Inv pre T→JT Tryz.prog (.one (.yld y)) (Y5 v) T fun r T'=>(r=.one (.st (.bool true))∧Inv (pre ++ [v]) T') ∨ (r=.one (.st (.bool false))∧Jx T')) :
  ∀ (t:Tm) (V:List (Tm × Nat)) (c:AC) (pre:List (List (Tm × Nat) × Tm)) (T:AA),(∀ S,stC S c=some (svW V))→c.stay=true ∨ c=acW V→t.size≤1000000→(pre ++ t.visits V) <+: all→Inv pre T →
   HX Tryz.prog 114 [aTm t,.one c,.one (.yld y)] T fun r T'=>(r=Aa true∧Inv (pre ++ t.visits V) T') ∨ (r=Aa false∧Jx T'):=by
 intro t
 induction h:SizeOf.sizeOf t using Nat.strongRecOn generalizing t with
 | _ N ih =>
 subst h
 intro V c pre T0 hc hc2 hz hpre hI
 have hs:=Tm.size_eq t
 have hln:=Tm.length_le t.args
 refine Ju.acR fun hclean C hC htop=>?_
 unfold FR
 have n3:=AP hclean (show 3 < 1000 by omega)
 have n4:=AP hclean (show 4 < 1000 by omega)
 have n7:=AP hclean (show 7 < 1000 by omega)
 refine IWP.mid (fun x=>x.env 2=.one (.yld y)∧x.env 3=.one (.ptr 3 1 0 0)∧x.env 4=.one (.ptr 4 1 0 0)∧(∃ e,x.S 3=some (.box e [.st (.str t.name),.st (.list (t.args.map Ap))]))∧(∃ e,x.S 4=some (.box e [c]))∧x.S 7=none∧∀ i,1000≤i→x.S i=T0 i) ?_ ?_
 ·repeat' with_reducible first | refine W ?_ | refine Z0 ?_ | ((first | refine Wo fun K hK=>?_ | refine Wp ?_ | refine Wq ?_ | refine Wr ?_);(try simp only [go_sem,fN,seval,eT,iR,AS.startS,n3,n4,dT,dF,nL]);(repeat refine Ai ?_);(try (refine hK _ ?_;clear hK K));try refine iC ?_)
  refine ⟨rfl,rfl,rfl,rfl,⟨_,rfl⟩,⟨_,rfl⟩,?_,fun i hi=>?_⟩
  ·simp only [go_sem,fN,seval,eT,iR,n7]
  ·show AG (AG _ 3 _) 4 _ i=_
   rw [AH _ (by omega),AH _ (by omega)]
 rintro ⟨env,S⟩ ⟨e2,e3,e4,⟨ty,s3⟩,⟨ty',s4⟩,s7,hST⟩
 simp only at e2 e3 e4 s3 s4 s7 hST
 refine IWP.ghost (Ac.ice 3 (id:=3) s3 (xs:=Dq t) rfl e3 (by omega)) ?_
 refine IWP.ghost (Ac.ice 4 (id:=4) (e:=ty') (cs:=[c]) (xs:=[svW V]) (by simp only [go_sem,fN,seval,eT,iR,s4]) (by simp [stCs,hc]) (by simp only [go_sem,fN,seval,eT,iR,e4]) (by omega)) ?_
 have hy':=hround pre (V,t) (by
  rw [Tm.visits_eq] at hpre
  exact List.IsPrefix.trans ⟨Tm.visitsL V t 0 t.args,by simp⟩ hpre) T0 hI
 unfold Y5 at hy'
 repeat' with_reducible first | refine W ?_ | refine Z0 ?_ | ((first | refine Wo fun K hK=>?_ | refine Wp ?_ | refine Wq ?_ | refine Wr ?_);(try simp only [go_sem,fN,seval,eT,iR,e2,dT,dF,nL]);(repeat refine Ai ?_);(try (refine hK _ ?_;clear hK K));try refine iC ?_)
 refine L_.mk T0 _ hclean (fun i hi=>by
   show AG (AG S 3 _) 4 _ i=_
   rw [AH _ (by omega),AH _ (by omega)]
   exact hST i hi) (by
   show ((AC.yld y).high && true)=true
   rw [Ir hy]
   rfl) hy' ?_
 have hj:∀ {S S':AA} (i:Nat),1000≤i→Ek S S' i=S' i:=fun i hi=>BP hi
 rintro r S' hS' (⟨rfl,hI'⟩ | ⟨rfl,hJ⟩)
 case inr =>
  repeat' with_reducible first | refine W ?_ | refine Z0 ?_ | ((first | refine Wo fun K hK=>?_ | refine Wp ?_ | refine Wq ?_ | refine Wr ?_);(try simp only [go_sem,fN,seval,eT,iR,e2,dT,dF,nL]);(repeat refine Ai ?_);(try (refine hK _ ?_;clear hK K));try refine iC ?_)
  exact ⟨Aa false,S',.inr ⟨rfl,hJ⟩,Av (Aa false) hS' trivial rfl rfl fun i hi=>BP hi⟩
 repeat' with_reducible first | refine W ?_ | refine Z0 ?_ | ((first | refine Wo fun K hK=>?_ | refine Wp ?_ | refine Wq ?_ | refine Wr ?_);(try simp only [go_sem,fN,seval,eT,iR,e2,dT,dF,nL]);(repeat refine Ai ?_);(try (refine hK _ ?_;clear hK K));try refine iC ?_)
 refine IWP.loopD [7] (fun m s=>∃ k T pre',k≤t.args.length∧m=t.args.length - k∧pre' ++ Tm.visitsL V t k (t.args.drop k)=pre ++ t.visits V∧s.env 2=.one (.yld y)∧s.env 3=.one (.eptr (Dq t))∧s.env 4=.one (.eptr [svW V])∧s.env 16=AO t.args.length∧s.env 17=AO k∧s.S 7=none∧(∀ i,1000≤i→s.S i=T i)∧Ax T∧Inv pre' T) t.args.length ⟨0,S',pre ++ [(V,t)],Nat.zero_le _,rfl,?_,?_,?_,?_,?_,?_,?_,fun i hi=>BP hi,hS',hI'⟩ ?_
 ·rw [Tm.visits_eq]
  simp
 ·simp only [go_sem,fN,seval,eT,iR,e2]
 ·simp only [go_sem,fN,seval,eT,iR]
 ·simp only [go_sem,fN,seval,eT,iR]
 ·simp only [go_sem,fN,seval,eT,iR]
 ·simp only [go_sem,fN,seval,eT,iR]
 ·show Ek (AG (AG S 3 (some (.dead 1 0))) 4 (some (.dead 1 0))) S' 7=none
  rw [Dr (by decide),AH _ (by decide),AH _ (by decide)]
  exact s7
 rintro m ⟨env,S⟩ ⟨k,T,pre',hk,rfl,hall,e2,e3,e4,e16,e17,s7,hST,hT,hI⟩
 simp only at e2 e3 e4 e16 e17 s7 hST
 by_cases hlt:k < t.args.length
 case neg =>
  rw [List.drop_of_length_le (by omega)] at hall
  simp only [Tm.visitsL,List.append_nil] at hall
  subst hall
  have hlt':¬ (k:Int) < t.args.length:=by omega
  repeat' with_reducible first | refine W ?_ | refine Z0 ?_ | ((first | refine Wo fun K hK=>?_ | refine Wp ?_ | refine Wq ?_ | refine Wr ?_);(try simp only [go_sem,fN,seval,eT,iR,e2,e3,e4,e16,e17,hlt',dT,dF,nL]);(repeat refine Ai ?_);(try (refine hK _ ?_;clear hK K));try refine iC ?_)
  exact ⟨Aa true,T,.inl ⟨rfl,hI⟩,Av (Aa true) hT trivial rfl rfl hST⟩
 obtain ⟨a,ha⟩:=Ag hlt
 have hmem:=AQ ha
 have hlt':(k:Int) < t.args.length:=by omega
 rw [O6 ha,← List.append_assoc] at hall
 repeat' with_reducible first | refine W ?_ | refine Z0 ?_ | ((first | refine Wo fun K hK=>?_ | refine Wq ?_ | refine Wr ?_);(try simp only [go_sem,fN,seval,eT,iR,e16,e17,hlt']);(repeat refine Ai ?_);(try (refine hK _ ?_;clear hK K)))
 with_reducible refine Wp ?_
 simp only [go_sem,fN,seval,true_implies,false_implies,implies_true,dT,dF,nL,hlt']
 (try with_reducible refine iC ?_)
 repeat' (with_reducible first | refine Wb ?_ | refine Wc ?_ | refine Wd ?_ | refine We ?_ | refine Wg ?_ | refine Wh ?_ | refine Wi ?_ | refine Wj ?_ | refine Wk (by decide) ?_ | refine Wl ?_ | refine Wm ?_ | refine Wn ?_)
 refine Wb ?_
 refine Wa ?_
 refine Wc ?_
 refine IWP.mid (fun x=>x.env 2=.one (.yld y)∧x.env 3=.one (.eptr (Dq t))∧x.env 4=.one (.eptr [svW V])∧x.env 16=AO t.args.length∧x.env 17=AO k∧x.env 7=.one (.ptr 7 1 0 0)∧(∃ e,x.S 7=some (.box e [.st (.int .i64 k)]))∧(∀ i,1000≤i→x.S i=T i)) ?_ ?_
 ·repeat' with_reducible first | refine W ?_ | refine Z0 ?_ | ((first | refine Wo fun K hK=>?_ | refine Wp ?_ | refine Wq ?_ | refine Wr ?_);(try simp only [go_sem,fN,seval,eT,iR,e2,e3,e4,e16,e17,s7,dT,dF,nL]);(repeat refine Ai ?_);(try (refine hK _ ?_;clear hK K));try refine iC ?_)
  refine ⟨rfl,e2,e3,e4,e16,e17,rfl,⟨_,rfl⟩,fun i hi=>?_⟩
  show AG (AG S 7 _) 7 _ i=_
  rw [AH _ (by omega),AH _ (by omega)]
  exact hST i hi
 clear e2 e3 e4 e16 e17 s7 hST
 rintro ⟨env,S⟩ ⟨e2,e3,e4,e16,e17,e7,⟨ty7,s7⟩,hST⟩
 simp only at e2 e3 e4 e16 e17 e7 s7 hST
 refine IWP.ghost (Ac.ice 7 (id:=7) s7 (xs:=[.int .i64 k]) rfl e7 (by omega)) ?_
 have hst:(AG S 7 (some (.dead 1 0)):AA) 7=some (.dead 1 0):=rfl
 have hcon:=ih _ (Tm.lt_of_arg hmem) a rfl ((t,k) :: V) (acW ((t,k) :: V)) pre' T (fun S=>Yo S _) (.inr rfl) (by have:=Tm.size_mem hmem;omega) (List.IsPrefix.trans ⟨Tm.visitsL V t (k + 1) (List.drop (k + 1) t.args),hall⟩ hpre) hI
 repeat' with_reducible first | refine W ?_ | refine Z0 ?_ | ((first | refine Wo fun K hK=>?_ | refine Wp ?_ | refine Wq ?_ | refine Wr ?_);(try simp only [go_sem,fN,seval,eT,iR,e2,e3,e4,e16,e17,AS.caps,ha,dT,dF,nL]);(repeat refine Ai ?_);(try (refine hK _ ?_;clear hK K));try refine iC ?_)
 refine L_.mk T _ hT (fun i hi=>by
  rw [AH _ (by omega)]
  exact hST i hi) (by
   show (true && (true && ((AC.yld y).high && true)))=true
   rw [Ir hy]
   rfl) hcon ?_
 rintro r S' hS' (⟨rfl,hI'⟩ | ⟨rfl,hJ⟩)
 case inr =>
  repeat' with_reducible first | refine W ?_ | refine Z0 ?_ | ((first | refine Wo fun K hK=>?_ | refine Wp ?_ | refine Wq ?_ | refine Wr ?_);(try simp only [go_sem,fN,seval,eT,iR,e2,e3,e4,e16,e17,dT,dF,nL]);(repeat refine Ai ?_);(try (refine hK _ ?_;clear hK K));try refine iC ?_)
  exact ⟨Aa false,S',.inr ⟨rfl,hJ⟩,Av (Aa false) hS' trivial rfl rfl fun i hi=>BP hi⟩
 repeat' with_reducible first | refine W ?_ | refine Z0 ?_ | ((first | refine Wo fun K hK=>?_ | refine Wp ?_ | refine Wq ?_ | refine Wr ?_);(try simp only [go_sem,fN,seval,eT,iR,e2,e3,e4,e16,e17,dT,dF,nL]);(repeat refine Ai ?_);(try (refine hK _ ?_;clear hK K));try refine iC ?_)
 refine ⟨t.args.length - (k + 1),by omega,k + 1,S',_,by omega,rfl,hall,?_,?_,?_,?_,?_,rfl,L8 (by decide) hS' (fun i hi=>BP hi),hS',hI'⟩
 ·have hy7:(y == 7)=false:=by
   rw [beq_eq_false_iff_ne]
   omega
  simp only [go_sem,fN,seval,AS.drop,Ao,AC.clears,AC.clear,AC.highs,AC.high,Bool.not_false,Bool.true_and,Bool.and_self,AV.purge,AV.purges,AC.purge,AL.purge,List.contains_cons,List.contains_nil,Nat.reduceBEq,Bool.or_self,Bool.or_false,Bool.false_or,Bool.or_true,eT,iR,e2,hy7]
 ·simp only [go_sem,fN,seval,AS.drop,Ao,AC.clears,AC.clear,AC.highs,AC.high,Bool.not_false,Bool.true_and,Bool.and_self,AV.purge,AV.purges,AC.purge,AL.purge,List.contains_cons,List.contains_nil,Nat.reduceBEq,Bool.or_self,Bool.or_false,Bool.false_or,Bool.or_true,eT,iR,e3]
 ·simp only [go_sem,fN,seval,AS.drop,Ao,AC.clears,AC.clear,AC.highs,AC.high,Bool.not_false,Bool.true_and,Bool.and_self,AV.purge,AV.purges,AC.purge,AL.purge,List.contains_cons,List.contains_nil,Nat.reduceBEq,Bool.or_self,Bool.or_false,Bool.false_or,Bool.or_true,eT,iR,e4]
 ·simp only [go_sem,fN,seval,AS.drop,Ao,AC.clears,AC.clear,AC.highs,AC.high,Bool.not_false,Bool.true_and,Bool.and_self,AV.purge,AV.purges,AC.purge,AL.purge,List.contains_cons,List.contains_nil,Nat.reduceBEq,Bool.or_self,Bool.or_false,Bool.false_or,Bool.or_true,eT,iR,e16]
 ·simp only [go_sem,fN,seval,AS.drop,Ao,AC.clears,AC.clear,AC.highs,AC.high,Bool.not_false,Bool.true_and,Bool.and_self,AV.purge,AV.purges,AC.purge,AL.purge,List.contains_cons,List.contains_nil,Nat.reduceBEq,Bool.or_self,Bool.or_false,Bool.false_or,Bool.or_true,eT,iR,e17]
  congr 3
theorem TC (t:Tm) (hz:t.size≤1000000):Zj Tryz.prog 113 [.one (.eptr (Dq t)),.one (.eptr [svW []])] (fun _=>True) Y5 (t.visits []):=by
 intro y Inv Jx T0 hy _ hround h0
 refine Jc.acR fun hclean C hC htop=>?_
 unfold Eo
 have hcon:=Yq hy hround t [] (.st (svW [])) [] T0 (fun _=>rfl) (.inl rfl) hz (List.prefix_refl _) h0
 repeat' with_reducible first | refine W ?_ | refine Z0 ?_ | ((first | refine Wo fun K hK=>?_ | refine Wp ?_ | refine Wq ?_ | refine Wr ?_);(try simp only [go_sem,fN,seval,eT,iR,AS.startS,dT,dF,nL]);(repeat refine Ai ?_);(try (refine hK _ ?_;clear hK K));try refine iC ?_)
 refine L_.mk T0 _ hclean (fun i hi=>rfl) (by
   show (true && (true && ((AC.yld y).high && true)))=true
   rw [Ir hy]
   rfl) hcon ?_
 rintro r S' hS' (⟨rfl,hI'⟩ | ⟨rfl,hJ⟩)
 ·repeat' with_reducible first | refine W ?_ | refine Z0 ?_ | ((first | refine Wo fun K hK=>?_ | refine Wp ?_ | refine Wq ?_ | refine Wr ?_);(try simp only [go_sem,fN,seval,eT,iR,dT,dF,nL]);(repeat refine Ai ?_);(try (refine hK _ ?_;clear hK K));try refine iC ?_)
  exact ⟨.tup [],S',.inl hI',Av (.tup []) hS' trivial rfl rfl fun i hi=>BP hi⟩
 ·repeat' with_reducible first | refine W ?_ | refine Z0 ?_ | ((first | refine Wo fun K hK=>?_ | refine Wp ?_ | refine Wq ?_ | refine Wr ?_);(try simp only [go_sem,fN,seval,eT,iR,dT,dF,nL]);(repeat refine Ai ?_);(try (refine hK _ ?_;clear hK K));try refine iC ?_)
  exact ⟨.tup [],S',.inr hJ,Av (.tup []) hS' trivial rfl rfl fun i hi=>BP hi⟩

theorem IWP.at_ {P:Program} {C:Ctx} {mu:List Nat} {x:IR} {Q:AX→AS→Prop} {env0:Nat→AV} {S0:AA} (M:(Nat→AV)→AA→Prop) (hM:M env0 S0) (h:∀ env S,M env S→IWP P C mu x Q ⟨env,S⟩):IWP P C mu x Q ⟨env0,S0⟩:=h _ _ hM
section
variable {C:Ctx} {s:AS}
theorem Ac.ownCM (id j nid:Nat) (e:TypeId) (wd:Nat) {ty:TypeId} {cs:List AC} (hb:s.S id=some (.box ty cs)) (hc:cs[j]?=some (.full [])) (hn:s.S nid=none) :
  Ac C s ((s.set nid (.mrow e wd [])).set id (.box ty (cs.set j (.row nid 0)))):=fun a w ⟨σ,ι,R⟩=>by
 have hbk:=R.blk id _ hb
 have hne:id ≠ nid:=fun e=>by subst e;rw [hb] at hn;cases hn
 cases hbk with
 | @box _ _ g vs h1 h2 h3 h4 h5 =>
  obtain ⟨v,hv,hr⟩:=h4.get hc
  cases hr with
  | @full p len _ hs =>
   have hl:len=0:=by
    obtain ⟨p',cap',e1,_⟩:=CM hs
    cases e1
    rfl
   subst hl
   obtain ⟨hu,R'⟩:=R.fresh (w':=w) hn (.mrow e wd []) ⟨p,0,none⟩ (Ext.refl _ _) R.fit (Below.refl _ _) (by simp) (fun S' ι' hu=>.mnil rfl rfl)
   have hb':(s.set nid (.mrow e wd [])).S id=some (.box ty cs):=by simp [AS.set,AH _ hne,hb]
   have hι:AG ι nid ⟨p,0,none⟩ id=ι id:=AH _ hne _
   obtain ⟨hu2,R2⟩:=R'.turn (w':=w) hb' (.box ty (cs.set j (.row nid 0))) (AG ι nid ⟨p,0,none⟩ id) (σ':=σ) (fun _ _ h=>h) (fun _ _ _=>rfl) R.fit (Nat.le_refl _) (fun _=>⟨by simp [AL.wid],rfl⟩) ⟨rfl,rfl,rfl⟩ (Nat.le_refl _) (fun _ _ _=>rfl) (fun g h=>.inl h) (fun hu2=>by
    refine .box (by rw [hι];exact h1) (by rw [hι];exact h2) h3 (Ad.of_get (by rw [List.length_set];exact h4.len) fun k u c hu' hck=>?_) h5
    by_cases hk:k=j
    ·subst hk
     rw [hv] at hu'
     cases hu'
     have hlt:k < cs.length:=(List.getElem?_eq_some_iff.1 hc).1
     rw [List.getElem?_set_self hlt] at hck
     cases hck
     exact .row (b:=.mrow e wd []) (by simp [AS.set,AG,hne.symm]) (Nat.le_refl _) rfl fun _=>by simp [AG,hne.symm]
    ·rw [List.getElem?_set_ne (fun e=>hk e.symm)] at hck
     obtain ⟨u',q1,q2⟩:=h4.get hck
     rw [hu'] at q1
     cases q1
     exact (q2.mono (fun _ _ h=>h) hu).mono (fun _ _ h=>h) hu2)
   exact ⟨_,_,R2⟩
end
theorem Qi {S U:AA} (hU:Ax U) (h:∀ i,1000≤i→S i=U i):B6 S=U:=by
 funext i
 show (if i < 1000 then none else S i)=U i
 by_cases hi:i < 1000
 ·rw [if_pos hi,AP hU hi]
 ·rw [if_neg hi,h i (by omega)]
theorem VG {S:AA} (h:∀ i b,1000≤i→S i=some b→b.high=true):Ax (B6 S):=fun i b hb=>by
 have hb:(if i < 1000 then none else S i)=some b:=hb
 by_cases hi:i < 1000
 ·rw [if_pos hi] at hb
  cases hb
 ·rw [if_neg hi] at hb
  exact ⟨by omega,h i b (by omega) hb⟩
theorem OR {S:AA} (h:∀ i b,1000≤i→S i=some b→b.high=true) {j:Nat} {b:AL} (hb:b.high=true):∀ i b',1000≤i→AG S j (some b) i=some b'→b'.high=true:=fun i b' hi he=>by
 by_cases e:i=j
 ·subst e
  rw [AE] at he
  cases he
  exact hb
 ·rw [AH _ e] at he
  exact h i b' hi he
theorem Ot {S:AA} (h:∀ i b,1000≤i→S i=some b→b.high=true) {j:Nat} (hj:j < 1000) {c:Option AL}:∀ i b',1000≤i→AG S j c i=some b'→b'.high=true:=fun i b' hi he=>by
 rw [AH _ (by omega)] at he
 exact h i b' hi he
theorem Ve {C:Ctx} {y:Nat} {b:AL} {N:AA→Prop} {Jx:AX→AA→Prop} {env:Nat→AV} {S:AA} (U:AA) (hU:Ax (AG U y (some b))) (hy:U y=none) (hS:∀ i,1000≤i→S i=AG U y (some b) i) (hN:N U):P2 C y b N Jx .normal ⟨env,S⟩ :=
 ⟨⟨fun i=>(env i).low,B6 S⟩,U,Ac.low (s:=⟨env,S⟩) (fun i b' hi h=>by
  have h:S i=some b':=h
  rw [hS i hi] at h
  exact (hU i b' h).2),Qi hU hS,by
  show Ax (B6 S)
  rw [Qi hU hS]
  exact hU,hy,hN⟩
theorem Of {C:Ctx} {y:Nat} {b:AL} {N:AA→Prop} {Jx:AX→AA→Prop} {env:Nat→AV} {S:AA} (h:∀ i b,1000≤i→S i=some b→b.high=true) (hy:1000≤y) (hSy:S y=some b) (hJ:Jx .ret (AG (B6 S) y none)):P2 C y b N Jx .ret ⟨env,S⟩ :=
 ⟨⟨fun i=>(env i).low,B6 S⟩,AG (B6 S) y none,Ac.low (s:=⟨env,S⟩) h,by
  show B6 S=_
  rw [Ov]
  funext i
  unfold AG
  split
  ·rename_i e
   rw [e]
   show (if y < 1000 then none else S y)=some b
   rw [if_neg (by omega),hSy]
  ·rfl,VG h,AE _ _ _,hJ⟩
theorem PS {S:AA} {i y:Nat} {c:Option AL} (h:1000≤i) (hne:i ≠ y):AG (B6 S) y c i=S i:=by
 rw [AH _ hne]
 show (if i < 1000 then none else S i)=S i
 rw [if_neg (by omega)]

end Go.Proofs.YtbhnmjkmieiadaaGreatDoor
