/-
  Lifted functions, and facts about them.
-/
import Derived.Test.YtampckbjinodgaaGreatDoorRows
import Derived.Test.YtampckbjinodgaaGreatDoorAmC
import Derived.Test.YtampckbjinodgaaGreatDoorC21
import Derived.Test.YtampckbjinodgaaGreatDoorC01
namespace Go.Proofs.YtampckbjinodgaaGreatDoor
open Go Go.Am
set_option linter.unusedVariables false
theorem sym_9 (k F:Nat) (dn:Bool) (P A B Q:List FoundT) (hF:1002<=F) (hA:A.Pairwise (LtF dn)) (hB:B.Pairwise (LtF dn)) (hid:IdsF (P++(A++(B++Q)))) (hl:P.length+(A.length+(B.length+Q.length))<=1000)
 (a2:2<=A.length) (b2:2<=B.length) (hk:A.length+B.length<=2 * 2 ^ k) (lo hi mid:Nat) (hm:mid=(P.length+(P.length+A.length+B.length)) / 2)
 (hlh:(mid < P.length+A.length/\lo=mid - B.length/\hi=mid)\/(P.length+A.length<=mid/\lo=P.length/\hi=P.length+A.length)):
 BsymG_9 k F (P.length:Int) ((P.length+A.length:Nat):Int) ((P.length+A.length+B.length:Nat):Int) (ordD dn) (mid:Int) ((mid:Int)+((P.length+A.length:Nat):Int)) (lo:Int) (hi:Int) (P++(A++(B++Q)))=outF (P++(msort dn (A++B)++Q)):=by
 have el:(P++(A++(B++Q))).length=P.length+(A.length+(B.length+Q.length)):=by simp
 have tp:∀ c:Nat,(((mid:Int)+((P.length+A.length:Nat):Int)) - (1:Int) - (c:Int)).toNat=mid+(P.length+A.length) - 1 - c:=fun c=>by omega
 rw [BsymG_9_eq]
 refine need_mk (by unfold i64ok; omega) ?_
 obtain ⟨s,s1,s2,s3,s4,s5⟩:=bsearchF (fun f i j=>BsymG_10 k F f (P.length:Int) ((P.length+A.length:Nat):Int) ((P.length+A.length+B.length:Nat):Int) (ordD dn) (mid:Int) ((mid:Int)+((P.length+A.length:Nat):Int)) i j (((mid:Int)+((P.length+A.length:Nat):Int)) - (1:Int)) (P++(A++(B++Q))))
  (fun s=>need (i64ok (((mid:Int)+((P.length+A.length:Nat):Int)) - s)) (cond ((decide (s < ((P.length+A.length:Nat):Int)))&&(decide (((P.length+A.length:Nat):Int) < (((mid:Int)+((P.length+A.length:Nat):Int)) - s))))
   (need (rotok s ((P.length+A.length:Nat):Int) (((mid:Int)+((P.length+A.length:Nat):Int)) - s) (P++(A++(B++Q)))) (BsymG_12 k F (P.length:Int) ((P.length+A.length+B.length:Nat):Int) (ordD dn) (mid:Int) s (((mid:Int)+((P.length+A.length:Nat):Int)) - s) (rotR s ((P.length+A.length:Nat):Int) (((mid:Int)+((P.length+A.length:Nat):Int)) - s) (P++(A++(B++Q))))))
   (BsymG_12 k F (P.length:Int) ((P.length+A.length+B.length:Nat):Int) (ordD dn) (mid:Int) s (((mid:Int)+((P.length+A.length:Nat):Int)) - s) (P++(A++(B++Q))))))
  (fun c=>!decide (cmpD dn ((P++(A++(B++Q))).getD (mid+(P.length+A.length) - 1 - c) dF) ((P++(A++(B++Q))).getD c dF) < 0)) lo hi
  (fun f i j h1 h2 h3=>by
   show BsymG_10 k F (f+1) _ _ _ _ _ _ _ _ _ _=_
   rw [BsymG_10_eq,half_eq2 i j (by omega),Int.toNat_natCast,tp]
   simp only [Prod.eta]
   refine cond_t (decide_eq_true (by omega)) (need_mk (by unfold i64ok; omega) (need_mk (by unfold i64ok; omega) (need_mk (by rw [el]; omega) (need_mk (by rw [el]; omega) (need_mk (by rw [el]; omega) (need_mk (by rw [el]; omega) (need_mk ⟨dn,rfl⟩ ?_)))))))
   rw [BsymG_11_eq,cmpO_dec]
   cases decide (cmpD dn ((P++(A++(B++Q))).getD (mid+(P.length+A.length) - 1 - (i+j) / 2) dF) ((P++(A++(B++Q))).getD ((i+j) / 2) dF) < 0) with
   | false=>exact need_mk (by unfold i64ok; omega) rfl
   | true=>rfl)
  (fun f i h1 h2=>by
   show BsymG_10 k F (f+1) _ _ _ _ _ _ _ _ _ _=_
   rw [BsymG_10_eq]
   exact cond_f (decide_eq_false (by omega)) rfl)
  (fun u v h1 h2 h3 hv=>by
   rw [Bool.not_eq_true',decide_eq_false_iff_not,cmpD_lt] at hv ⊢
   by_cases he:u=v
   .rw [he]; exact hv
   .intro q
    refine hv (LtF.trans ?_ (q.trans (srt_idx hA (by omega) (by omega) (by omega) dF)))
    rw [<-List.append_assoc P A]
    exact srt_idx hB (by simp; omega) (by omega) (by simp; omega) dF) (hi - lo) F lo hi (by omega) (by omega) (by omega) (by omega) (by omega) (fun h q1 q2=>by omega) (fun h q1 q2=>by omega)
 refine Eq.trans s3 ?_
 show need _ _=_
 refine need_mk (by unfold i64ok; omega) ?_
 rw [show ((mid:Int)+((P.length+A.length:Nat):Int)) - (s:Int)=((mid+(P.length+A.length) - s:Nat):Int) by omega]
 refine symG_gen k F dn P A B Q (by omega) hA hB hid hl a2 b2 hk s lo hi s1 s2 mid hm hlh (fun c q1 q2=>?_) (fun c q1 q2=>?_)
 .have:=s4 c q1 q2
  rw [Bool.not_eq_true',decide_eq_false_iff_not,cmpD_lt] at this
  exact this
 .have:=s5 c q1 q2
  rw [Bool.not_eq_false',decide_eq_true_eq,cmpD_lt] at this
  exact this
theorem symG_eq (k:Nat) (dn:Bool) (a m b:Int) (l:List FoundT) (h:symok (k+1) (ordD dn) a m b l):FsymG k 1002 a m b (ordD dn) l=outF (sortR (ordD dn) a b l):=by
 obtain ⟨_,h0,h1,h2,h3,h4,h5,h6,h7,h8⟩:=h
 obtain ⟨P,A,B,Q,rfl,ha,hm,hb⟩:=rot_split l a m b ⟨h0,h1,h2,h3,h4⟩
 have hA:=(srtd_app dn P A (B++Q) a m ha hm).1 h7
 have hB:B.Pairwise (LtF dn):=(srtd_app dn (P++A) B Q m b (by simp; omega) (by simp; omega)).1 (by rw [List.append_assoc]; exact h8)
 have hi1:=(List.pairwise_append.1 h6).2.1
 have hi2:IdsF (A++B):=(List.pairwise_append.1 (List.append_assoc A B Q ▸ hi1)).1
 simp only [List.length_append] at h3 h4
 have sR:sortR (ordD dn) a b (P++(A++(B++Q)))=P++(msort dn (A++B)++Q):=by
  rw [<-List.append_assoc A]; exact sortR_app dn P (A++B) Q a b ha (by rw [hb,List.length_append]; omega)
 rw [FsymG_eq,sR]
 refine need_mk (by unfold i64ok; omega) ?_
 by_cases c1:A.length=1
 .obtain ⟨x,rfl⟩:=List.length_eq_one_iff.1 c1
  refine cond_t (by rw [beq_iff_eq]; omega) ?_
  rw [ha,hm,hb]
  exact sym_1 k 1002 dn P B Q x (by omega) hB hi2 (by simp at h4; omega)
 refine cond_f (by rw [beq_eq_false_iff_ne]; omega) (need_mk (by unfold i64ok; omega) ?_)
 by_cases c2:B.length=1
 .obtain ⟨x,rfl⟩:=List.length_eq_one_iff.1 c2
  refine cond_t (by rw [beq_iff_eq]; omega) ?_
  rw [ha,hm]
  exact sym_5 k 1002 dn P A Q x (by omega) hA (fun z hz=>(List.pairwise_append.1 hi2).2.2 z hz x (by simp)) (by simp at h4; omega)
 have hk:A.length+B.length<=2 * 2 ^ k:=by rw [Nat.pow_succ] at h5; omega
 rw [ha,hb,half_eq2 P.length _ (by omega),hm]
 refine cond_f (by rw [beq_eq_false_iff_ne]; omega) (need_mk (by unfold i64ok; omega) (need_mk (by unfold i64ok; omega) ?_))
 by_cases c3:(P.length+(P.length+A.length+B.length)) / 2 < P.length+A.length
 .refine cond_t (decide_eq_true (by omega)) (need_mk (by unfold i64ok; omega) ?_)
  have:=sym_9 k 1002 dn P A B Q (by omega) hA hB h6 (by omega) (by omega) (by omega) hk ((P.length+(P.length+A.length+B.length)) / 2 - B.length) _ _ rfl (.inl ⟨c3,rfl,rfl⟩)
  rw [show (((P.length+(P.length+A.length+B.length)) / 2:Nat):Int)+((P.length+A.length:Nat):Int) - ((P.length+A.length+B.length:Nat):Int)=(((P.length+(P.length+A.length+B.length)) / 2 - B.length:Nat):Int) by omega]
  exact this
 .refine cond_f (decide_eq_false (by omega)) ?_
  exact sym_9 k 1002 dn P A B Q (by omega) hA hB h6 (by omega) (by omega) (by omega) hk _ _ _ rfl (.inr ⟨by omega,rfl,rfl⟩)
theorem ok_symG:∀ k,SpecROk Tryz.prog 83 (sp_symG k)
 | 0=>by
  intro args ib kept r outs ok he hok
  simp only [sp_symG] at he
  split at he
  .rename_i x y n ol R
   split at he
   .cases he
    obtain ⟨_,h0,h1,h2,_,_,h5,_⟩:=hok
    exact absurd h5 (by simp; omega)
   .cases he
  .cases he
 | k+1=>by
  intro args ib kept r outs ok he hok
  simp only [sp_symG] at he
  split at he
  .rename_i x y n ol R
   split at he
   .rename_i o l ho hl
    cases he
    obtain ⟨rfl,_⟩:=pList_row hl
    obtain ⟨⟨dn,rfl⟩,_⟩:=id hok
    exact ⟨by kernel_rfl,FnR.lq (ys:=[.arr 70000,.p (.int .i64 x),.p (.int .i64 y),.p (.int .i64 n),.clo (.func 30) [.p (.list 3 (.dat ordC (ordD dn)))] []]) ⟨LqG.refl _,LqG.refl _,LqG.refl _,LqG.refl _,ord_lq ho,trivial⟩
     (fn_symG k (ok_symG k) 1002 x y n (ordD dn) l _ _ fun _=>symG_eq k dn x y n l hok)⟩
   .cases he
  .cases he
abbrev staok (o:List (Elt ordC)) (n:Int) (l:List FoundT):Prop:=cmpok o/\n=l.length/\l.length<=30/\IdsF l
abbrev sstok (o:List (Elt ordC)) (l:List FoundT):Prop:=cmpok o/\l.length<=30/\IdsF l
theorem sortR_all (dn:Bool) (l:List FoundT) (b:Int) (hb:b=l.length):sortR (ordD dn) 0 b l=msort dn l:=by
 have:=sortR_app dn [] l [] 0 b rfl (by rw [hb]; simp)
 simpa using this
noncomputable def cstaG:Code:=bodyOf Tryz.f50
noncomputable def GstaG:Cfg:=⟨Tryz.prog,mkEnv [],mkEnvR [(82,sp_insG),(83,sp_symG 5)],63,[70000],[([0,0,1,1],⟨[0,1,2,6,7,8],[⟨.fix 70000,70000,.cells []⟩]⟩),([0,1,1,1,1],⟨[0,1,2,6],[⟨.fix 70000,70000,.cells []⟩]⟩),([0,0,1,0,1,0,0,1,1,1,1],⟨[0,1,2,6,7,8],[⟨.fix 70000,70000,.cells []⟩]⟩),([1,1,1,0,1,0,0,1,1,1,1],⟨[0,1,2,6],[⟨.fix 70000,70000,.cells []⟩]⟩)],[([0,0,1,0,0,0,1,1],[4]),([0,1,1,1],[4]),([0,0,1,0,0,0,1,0,1,0,0,1,1,1,1],[7]),([0,1,1,0,1,1,0,1,0,0,1,1,1,1],[5])]⟩
noncomputable def BstaG_1 (F f1:Nat) (n:Int) (vl1:List (Int×List UInt8×Bool)) (vi2 vi3:Int) (vl4:List FoundT):Option Ans:=runR GstaG cstaG (kR Tryz.prog [70000] ⟨[],[⟨.fix 70000,70000,.cells []⟩]⟩ [70000] Tryz.f50.results.toList) F [] [1,1,0,0] f1 [(0,.arr 70000),(1,.p (.int .i64 n)),(2,.clo (.func 30) [.p (.list 3 (.dat (.pair (.int .i64) (.pair .str .bool)) vl1))] []),(6,.p (.int .i64 (20:Int))),(7,.p (.int .i64 vi2)),(8,.p (.int .i64 vi3))] [(70000,.larr 64 true 3 (.dat foundC vl4))]
noncomputable def BstaG_2 (F f2:Nat) (n:Int) (vl1:List (Int×List UInt8×Bool)) (vi5:Int) (vl6:List FoundT):Option Ans:=runR GstaG cstaG (kR Tryz.prog [70000] ⟨[],[⟨.fix 70000,70000,.cells []⟩]⟩ [70000] Tryz.f50.results.toList) F [] [1,1,1,1,0] f2 [(0,.arr 70000),(1,.p (.int .i64 n)),(2,.clo (.func 30) [.p (.list 3 (.dat (.pair (.int .i64) (.pair .str .bool)) vl1))] []),(6,.p (.int .i64 vi5))] [(70000,.larr 64 true 3 (.dat foundC vl6))]
noncomputable def BstaG_3 (F f2 f3:Nat) (n:Int) (vl1:List (Int×List UInt8×Bool)) (vi5 vi7 vi8:Int) (vl9:List FoundT):Option Ans:=runR GstaG cstaG (kR Tryz.prog [70000] ⟨[],[⟨.fix 70000,70000,.cells []⟩]⟩ [70000] Tryz.f50.results.toList) F [f2] [1,1,1,1,0,0,1,0,1,0,0] f3 [(0,.arr 70000),(1,.p (.int .i64 n)),(2,.clo (.func 30) [.p (.list 3 (.dat (.pair (.int .i64) (.pair .str .bool)) vl1))] []),(6,.p (.int .i64 vi5)),(7,.p (.int .i64 vi7)),(8,.p (.int .i64 vi8))] [(70000,.larr 64 true 3 (.dat foundC vl9))]
noncomputable def BstaG_4 (F f2:Nat) (n:Int) (vl1:List (Int×List UInt8×Bool)) (vi5:Int) (vl10:List FoundT):Option Ans:=runB GstaG cstaG (kR Tryz.prog [70000] ⟨[],[⟨.fix 70000,70000,.cells []⟩]⟩ [70000] Tryz.f50.results.toList) F [f2] [1,1,1,1,0,0,1,0,1,1,1] [(0,.arr 70000),(1,.p (.int .i64 n)),(2,.clo (.func 30) [.p (.list 3 (.dat (.pair (.int .i64) (.pair .str .bool)) vl1))] []),(6,.p (.int .i64 vi5))] [(70000,.larr 64 true 3 (.dat foundC vl10))]
noncomputable def FstaG (F:Nat) (n:Int) (o:List (Elt ordC)) (l:List FoundT):Option Ans:=runFR GstaG Tryz.f50 ⟨[],[⟨.fix 70000,70000,.cells []⟩]⟩ [70000] F [.arr 70000,.p (.int .i64 n),.clo (.func 30) [.p (.list 3 (.dat (.pair (.int .i64) (.pair .str .bool)) o))] []] [(70000,.larr 64 true 3 (.dat foundC l))]
theorem BstaG_1_eq (F f1:Nat) (n:Int) (vl1:List (Int×List UInt8×Bool)) (vi2 vi3:Int) (vl4:List FoundT):BstaG_1 F (f1+1) n vl1 vi2 vi3 vl4=cond (decide (vi3<=n)) (need (insok vl1 vi2 vi3 vl4) (need (i64ok (vi3+(20:Int))) (BstaG_1 F f1 n vl1 vi3 (vi3+(20:Int)) (sortR vl1 vi2 vi3 vl4)))) (need (insok vl1 vi2 n vl4) (BstaG_2 F F n vl1 (20:Int) (sortR vl1 vi2 n vl4))):=by kernel_rfl
theorem BstaG_2_eq (F f2:Nat) (n:Int) (vl1:List (Int×List UInt8×Bool)) (vi5:Int) (vl6:List FoundT):BstaG_2 F (f2+1) n vl1 vi5 vl6=cond (decide (vi5 < n)) (need (i64ok ((2:Int) * vi5)) (BstaG_3 F f2 f2 n vl1 vi5 (0:Int) ((2:Int) * vi5) vl6)) (some (.tup [],[(70000,.larr 64 true 3 (.dat foundC vl6))])):=by kernel_rfl
theorem BstaG_3_eq (F f2 f3:Nat) (n:Int) (vl1:List (Int×List UInt8×Bool)) (vi5 vi7 vi8:Int) (vl9:List FoundT):BstaG_3 F f2 (f3+1) n vl1 vi5 vi7 vi8 vl9=cond (decide (vi8<=n)) (need (i64ok (vi7+vi5)) (need (symok 5 vl1 vi7 (vi7+vi5) vi8 vl9) (need (i64ok ((2:Int) * vi5)) (need (i64ok (vi8+((2:Int) * vi5))) (BstaG_3 F f2 f3 n vl1 vi5 vi8 (vi8+((2:Int) * vi5)) (sortR vl1 vi7 vi8 vl9)))))) (need (i64ok (vi7+vi5)) (cond (decide ((vi7+vi5) < n)) (need (symok 5 vl1 vi7 (vi7+vi5) n vl9) (BstaG_4 F f2 n vl1 vi5 (sortR vl1 vi7 n vl9))) (BstaG_4 F f2 n vl1 vi5 vl9))):=by kernel_rfl
theorem BstaG_4_eq (F f2:Nat) (n:Int) (vl1:List (Int×List UInt8×Bool)) (vi5:Int) (vl10:List FoundT):BstaG_4 F f2 n vl1 vi5 vl10=need (i64ok (vi5 * (2:Int))) (BstaG_2 F f2 n vl1 (vi5 * (2:Int)) vl10):=by kernel_rfl
theorem FstaG_eq (F:Nat) (n:Int) (o:List (Elt ordC)) (l:List FoundT):FstaG F n o l=BstaG_1 F F n o (0:Int) (20:Int) l:=by kernel_rfl
theorem fn_staG (F:Nat) (n:Int) (o:List (Elt ordC)) (l:List FoundT) (r:AV) (os:List (Nat×AObj)) (h:(∃ γ M w vs,ARels γ M [.arr 70000,.p (.int .i64 n),.clo (.func 30) [.p (.list 3 (.dat (.pair (.int .i64) (.pair .str .bool)) o))] []] vs/\Objs γ M w (fun i=>lookO i [(70000,.larr 64 true 3 (.dat foundC l))]) (fun b=>b < w.heap.size))->FstaG F n o l=some (r,os)):FnR Tryz.prog 50 [.arr 70000,.p (.int .i64 n),.clo (.func 30) [.p (.list 3 (.dat (.pair (.int .i64) (.pair .str .bool)) o))] []] [(70000,.larr 64 true 3 (.dat foundC l))] [70000] r os:=
 FnR_run GstaG ⟨[],[⟨.fix 70000,70000,.cells []⟩]⟩ [70000] F rfl (EnvOk_mk (l:=[]) trivial) (EnvROk_mk (l:=[(82,sp_insG),(83,sp_symG 5)]) ⟨ok_insG,ok_symG 5,trivial⟩) (Checked.mixed Tryz.checked) (fn:=Tryz.f50) (by kernel_rfl) (by kernel_rfl) rfl h
theorem staG_eq (dn:Bool) (n:Int) (l:List FoundT) (h:staok (ordD dn) n l):FstaG 3 n (ordD dn) l=outF (sortR (ordD dn) 0 l.length l):=by
 obtain ⟨_,hn,h1,h2⟩:=h
 subst hn
 rw [FstaG_eq,sortR_all dn l _ rfl]
 have hend:∀ (f:Nat) (v:Int) (l':List FoundT),v=40\/(l.length:Int)<=v->BstaG_2 3 (f+1) (l.length:Int) (ordD dn) v l'=outF l':=fun f v l' hv=>by
  rw [BstaG_2_eq]; exact cond_f (decide_eq_false (by omega)) rfl
 rw [show (3:Nat)=2+1 from rfl,BstaG_1_eq]
 by_cases c:l.length < 20
 .refine cond_f (decide_eq_false (by omega)) (need_mk ⟨⟨dn,rfl⟩,by omega,by omega,by omega,by omega,h2⟩ ?_)
  rw [sortR_all dn l _ rfl]
  exact hend 2 _ _ (.inr (by omega))
 .obtain ⟨A,B,rfl,hA⟩:∃ A B,l=A++B/\A.length=20:=⟨l.take 20,l.drop 20,by simp,by rw [List.length_take]; omega⟩
  have ll:(A++B).length=20+B.length:=by rw [List.length_append]; omega
  have e1:sortR (ordD dn) 0 20 (A++B)=msort dn A++B:=sortR_app dn [] A B 0 20 rfl (by rw [hA]; rfl)
  have mA:(msort dn A).length=20:=by rw [(msort_perm dn A).length_eq,hA]
  have mB:(msort dn B).length=B.length:=(msort_perm dn B).length_eq
  have p1:(A++B).Perm (msort dn A++B):=List.Perm.append_right B (msort_perm dn A).symm
  have p2:(A++B).Perm (msort dn A++msort dn B):=List.Perm.append (msort_perm dn A).symm (msort_perm dn B).symm
  have l1:(msort dn A++B).length=20+B.length:=by rw [List.length_append,mA]
  have l2:(msort dn A++msort dn B).length=20+B.length:=by rw [List.length_append,mA,mB]
  obtain ⟨iA,iB,_⟩:=List.pairwise_append.1 h2
  refine cond_t (decide_eq_true (by omega)) (need_mk ⟨⟨dn,rfl⟩,by omega,by omega,by omega,by omega,h2⟩ (need_mk (by decide) ?_))
  rw [e1,show (2:Nat)=1+1 from rfl,BstaG_1_eq]
  have e2:sortR (ordD dn) 20 ((A++B).length:Int) (msort dn A++B)=msort dn A++msort dn B:=by
   have:=sortR_app dn (msort dn A) B [] 20 ((A++B).length:Int) (by rw [mA]; rfl) (by rw [ll,mA])
   simpa using this
  refine cond_f (decide_eq_false (by omega)) (need_mk ⟨⟨dn,rfl⟩,by omega,by omega,by rw [l1]; omega,by rw [l1]; omega,h2.perm p1⟩ ?_)
  rw [e2]
  by_cases hB:B=[]
  .subst hB
   rw [hend 2 20 _ (.inr (by rw [ll]; decide)),List.append_nil,show msort dn ([]:List FoundT)=[] by unfold msort; simp,List.append_nil]
  .have hB1:0 < B.length:=List.length_pos_iff.2 hB
   show BstaG_2 3 (2+1) _ _ _ _=_
   rw [BstaG_2_eq]
   refine cond_t (decide_eq_true (by omega)) (need_mk (by decide) ?_)
   rw [show (2:Nat)=1+1 from rfl,BstaG_3_eq]
   refine cond_f (decide_eq_false (by omega)) (need_mk (by decide) (cond_t (decide_eq_true (by omega)) (need_mk ⟨⟨dn,rfl⟩,by omega,by omega,by omega,by rw [l2]; omega,by rw [l2]; omega,by omega,h2.perm p2,?_,?_⟩ ?_)))
   .have:=(srtd_app dn [] (msort dn A) (msort dn B) 0 20 rfl (by rw [mA]; rfl)).2 (msort_lt iA)
    exact this
   .have:=(srtd_app dn (msort dn A) (msort dn B) [] 20 ((A++B).length:Int) (by rw [mA]; rfl) (by rw [ll,mA,mB])).2 (msort_lt iB)
    rw [List.append_nil] at this
    exact this
   .rw [BstaG_4_eq]
    refine need_mk (by decide) ?_
    rw [show (1+1:Nat)=1+1 from rfl,hend 1 _ _ (.inl (by decide)),sortR_all dn _ _ (by rw [ll,l2])]
    exact congrArg outF (msort_of ((msort_perm dn _).trans p2) (msort_lt h2))
def sp_staG:RSpec:=⟨[false,true,true],fun args ib=>match args,ib with
 | [.arr 70000,.p (.int .i64 n),.clo (.func 30) [.p ol] []],[(70000,.larr 64 true 3 R)]=>match pList ordC ol,pList foundC (.list 3 R) with
  | some o,some l=>some (([70000],.tup []),([(70000,.larr 64 true 3 (.dat foundC (sortR o 0 l.length l)))],some (staok o n l)))
  | _,_=>none
 | _,_=>none⟩
theorem ok_staG:SpecROk Tryz.prog 50 sp_staG:=by
 intro args ib kept r outs ok he hok
 simp only [sp_staG] at he
 split at he
 .rename_i n ol R
  split at he
  .rename_i o l ho hl
   cases he
   obtain ⟨rfl,_⟩:=pList_row hl
   obtain ⟨⟨dn,rfl⟩,_⟩:=id hok
   exact ⟨by kernel_rfl,FnR.lq (ys:=[.arr 70000,.p (.int .i64 n),.clo (.func 30) [.p (.list 3 (.dat ordC (ordD dn)))] []]) ⟨LqG.refl _,LqG.refl _,ord_lq ho,trivial⟩
    (fn_staG 3 n (ordD dn) l _ _ fun _=>staG_eq dn n l hok)⟩
  .cases he
 .cases he
noncomputable def GsstG:Cfg:=⟨Tryz.prog,mkEnv [],mkEnvR [(50,sp_staG)],9,[70000],[],[([],[4])]⟩
noncomputable def FsstG (F:Nat) (o:List (Elt ordC)) (l:List FoundT):Option Ans:=runFR GsstG Tryz.f29 ⟨[],[⟨.fix 70000,70000,.cells []⟩]⟩ [70000] F [.arr 70000,.clo (.func 30) [.p (.list 3 (.dat (.pair (.int .i64) (.pair .str .bool)) o))] []] [(70000,.larr 64 true 3 (.dat foundC l))]
theorem FsstG_eq (F:Nat) (o:List (Elt ordC)) (l:List FoundT):FsstG F o l=need (staok o (l.length:Int) l) (some (.tup [],[(70000,.larr 64 true 3 (.dat foundC (sortR o 0 l.length l)))])):=by kernel_rfl
theorem fn_sstG (F:Nat) (o:List (Elt ordC)) (l:List FoundT) (r:AV) (os:List (Nat×AObj)) (h:(∃ γ M w vs,ARels γ M [.arr 70000,.clo (.func 30) [.p (.list 3 (.dat (.pair (.int .i64) (.pair .str .bool)) o))] []] vs/\Objs γ M w (fun i=>lookO i [(70000,.larr 64 true 3 (.dat foundC l))]) (fun b=>b < w.heap.size))->FsstG F o l=some (r,os)):FnR Tryz.prog 29 [.arr 70000,.clo (.func 30) [.p (.list 3 (.dat (.pair (.int .i64) (.pair .str .bool)) o))] []] [(70000,.larr 64 true 3 (.dat foundC l))] [70000] r os:=
 FnR_run GsstG ⟨[],[⟨.fix 70000,70000,.cells []⟩]⟩ [70000] F rfl (EnvOk_mk (l:=[]) trivial) (EnvROk_mk (l:=[(50,sp_staG)]) ⟨ok_staG,trivial⟩) (Checked.mixed Tryz.checked) (fn:=Tryz.f29) (by kernel_rfl) (by kernel_rfl) rfl h
def sp_sstG:RSpec:=⟨[false,true],fun args ib=>match args,ib with
 | [.arr 70000,.clo (.func 30) [.p ol] []],[(70000,.larr 64 true 3 R)]=>match pList ordC ol,pList foundC (.list 3 R) with
  | some o,some l=>some (([70000],.tup []),([(70000,.larr 64 true 3 (.dat foundC (sortR o 0 l.length l)))],some (sstok o l)))
  | _,_=>none
 | _,_=>none⟩
theorem ok_sstG:SpecROk Tryz.prog 29 sp_sstG:=by
 intro args ib kept r outs ok he hok
 simp only [sp_sstG] at he
 split at he
 .rename_i ol R
  split at he
  .rename_i o l ho hl
   cases he
   obtain ⟨rfl,_⟩:=pList_row hl
   obtain ⟨hc,h1,h2⟩:=id hok
   exact ⟨by kernel_rfl,FnR.lq (ys:=[.arr 70000,.clo (.func 30) [.p (.list 3 (.dat ordC o))] []]) ⟨LqG.refl _,ord_lq ho,trivial⟩
    (fn_sstG 0 o l _ _ fun _=>by rw [FsstG_eq]; exact need_mk ⟨hc,rfl,h1,h2⟩ rfl)⟩
  .cases he
 .cases he
end Go.Proofs.YtampckbjinodgaaGreatDoor
namespace Go.Proofs.YtampckbjinodgaaGreatDoor
open Go Go.Am
set_option linter.unusedVariables false
def foundL (l:List MailT) (f:List TermT):List FoundT:=(l.filter (holdF f)).map q0el
def queryGS (l:List MailT) (f:List TermT) (o:List (Elt ordC)):List Int:=if rightP f then (sortR o 0 (foundL l f).length (foundL l f)).map idF else []
abbrev qGok (l:List MailT) (f:List TermT) (o:List (Elt ordC)):Prop:=cmpok o/\rightok f/\l.length<=30/\(l.Pairwise fun x y=>x.1≠y.1)/\∀ m ∈ l,(openP m).2.1=[]/\m.2.2.1.length<=50000/\(subjS m.2.2.1).length<=1000000/\holdok f m
theorem found_ids (l:List MailT) (f:List TermT) (h:l.Pairwise fun x y=>x.1≠y.1):IdsF (foundL l f):=
 List.pairwise_map.2 ((h.filter (holdF f)).imp fun {x y} q=>q)
noncomputable def cqueryG:Code:=bodyOf Tryz.f16
noncomputable def GqueryG:Cfg:=⟨Tryz.prog,mkEnv [(21,sp_right),(22,sp_opened),(23,sp_hG 41),(26,sp_from0),(27,sp_Fold),(28,sp_subject)],mkEnvR [(29,sp_sstG)],74,[],[([0,1,0,1,1,1],⟨[1,2,7,17,18,19],[⟨.slot 7,7,(.larr 64 true 3 (.dat foundC ([]:List FoundT)))⟩]⟩),([1,0,0,1,1,0,0,1,0,1,1,1],⟨[1,2,7,9,17,18,19],[⟨.slot 7,7,(.larr 64 true 3 (.dat foundC ([]:List FoundT)))⟩,⟨.slot 9,9,.cells []⟩]⟩),([1,0,1,1,0,0,1,1,0,0,1,0,1,1,1],⟨[1,2,7,9,10,17,18,19,38],[⟨.slot 7,7,(.larr 64 true 3 (.dat foundC ([]:List FoundT)))⟩,⟨.slot 9,9,.cells []⟩,⟨.slot 10,10,.cells []⟩]⟩),([1,1,1,0,0,1,0,1,1,1],⟨[1,2,7,17,18,19],[⟨.slot 7,7,(.larr 64 true 3 (.dat foundC ([]:List FoundT)))⟩]⟩),([0,1,0,1,1,1,1,1,1],⟨[11,57,58,59],[⟨.slot 11,11,(.larr 3 false 1 (.dat (.int .i64) ([]:List Int)))⟩,⟨.slot 57,57,.cells []⟩]⟩),([1,0,0,1,1,0,0,1,0,1,1,1,1,1,1],⟨[11,13,57,58,59],[⟨.slot 11,11,(.larr 3 false 1 (.dat (.int .i64) ([]:List Int)))⟩,⟨.slot 13,13,.cells []⟩,⟨.slot 57,57,.cells []⟩]⟩)],[([0,1,1,1,1],[3])]⟩
noncomputable def BqueryG_1 (F f1:Nat) (f:List TermT) (o:List (Int×List UInt8×Bool)) (l:List MailT) (vi1 vi2:Int) (vl3:List FoundT):Option Ans:=runR GqueryG cqueryG (kP Tryz.prog Tryz.f16.results.toList) F [] [1,1,1,0,1,0] f1 [(1,.p (.list 6 (.dat termC f))),(2,.p (.list 3 (.dat (.pair (.int .i64) (.pair .str .bool)) o))),(7,.arr 7),(17,.p (.list 8 (.dat mailC l))),(18,.p (.int .i64 vi1)),(19,.p (.int .i64 vi2))] [(7,.larr 64 true 3 (.dat foundC vl3))]
noncomputable def BqueryG_2 (F f1:Nat) (f:List TermT) (o:List (Int×List UInt8×Bool)) (l:List MailT) (vi1 vi2:Int) (vl3:List FoundT) (vi4 vi5:Int) (vs6:List UInt8) (vi7:Int) (vl8:List (List UInt8)) (vl9:List (Int×Int)) (vi10 vi11:Int):Option Ans:=runB GqueryG cqueryG (kP Tryz.prog Tryz.f16.results.toList) F [f1] [1,1,1,0,1,0,0,1,1,0,0,1] [(1,.p (.list 6 (.dat termC f))),(2,.p (.list 3 (.dat (.pair (.int .i64) (.pair .str .bool)) o))),(7,.arr 7),(9,.ref 9 0),(17,.p (.list 8 (.dat mailC l))),(18,.p (.int .i64 vi1)),(19,.p (.int .i64 vi2))] [(7,.larr 64 true 3 (.dat foundC vl3)),(9,.cells [.p (.int .i64 vi4),.p (.int .i64 vi5),.p (.str vs6),.p (.int .i64 vi7),.p (.list 1 (.dat .str vl8)),.p (.list 2 (.dat (.pair (.int .i64) (.int .i64)) vl9)),.p (.int .i64 vi10),.p (.int .i64 vi11)])]
noncomputable def BqueryG_3 (F f1:Nat) (f:List TermT) (o:List (Int×List UInt8×Bool)) (l:List MailT) (vi1 vi2:Int) (vc12:Bool) (vl3:List FoundT) (vi4 vi5:Int) (vs6:List UInt8) (vi7:Int) (vl8:List (List UInt8)) (vl9:List (Int×Int)) (vi10 vi11:Int) (vp13:OpenT):Option Ans:=runB GqueryG cqueryG (kP Tryz.prog Tryz.f16.results.toList) F [f1] [1,1,1,0,1,0,0,1,1,0,0,1,1,0,1] [(1,.p (.list 6 (.dat termC f))),(2,.p (.list 3 (.dat (.pair (.int .i64) (.pair .str .bool)) o))),(7,.arr 7),(9,.ref 9 0),(10,.ref 10 0),(17,.p (.list 8 (.dat mailC l))),(18,.p (.int .i64 vi1)),(19,.p (.int .i64 vi2)),(38,.p (.bool vc12))] [(7,.larr 64 true 3 (.dat foundC vl3)),(9,.cells [.p (.int .i64 vi4),.p (.int .i64 vi5),.p (.str vs6),.p (.int .i64 vi7),.p (.list 1 (.dat .str vl8)),.p (.list 2 (.dat (.pair (.int .i64) (.int .i64)) vl9)),.p (.int .i64 vi10),.p (.int .i64 vi11)]),(10,.cells [.p (.box 10 (cell openC vp13)),.p (.str ([]:List UInt8)),.p (.str ([]:List UInt8))])]
noncomputable def BqueryG_4 (F f1:Nat) (f:List TermT) (o:List (Int×List UInt8×Bool)) (l:List MailT) (vi1 vi2:Int) (vl14:List FoundT):Option Ans:=runB GqueryG cqueryG (kP Tryz.prog Tryz.f16.results.toList) F [f1] [1,1,1,0,1,0,0,1,1,1] [(1,.p (.list 6 (.dat termC f))),(2,.p (.list 3 (.dat (.pair (.int .i64) (.pair .str .bool)) o))),(7,.arr 7),(17,.p (.list 8 (.dat mailC l))),(18,.p (.int .i64 vi1)),(19,.p (.int .i64 vi2))] [(7,.larr 64 true 3 (.dat foundC vl14))]
noncomputable def BqueryG_5 (F f2:Nat) (vi15 vi16:Int) (vl17:List Int) (vl18:List FoundT):Option Ans:=runR GqueryG cqueryG (kP Tryz.prog Tryz.f16.results.toList) F [] [1,1,1,1,1,1,0,1,0] f2 [(11,.arr 11),(57,.arr 57),(58,.p (.int .i64 vi15)),(59,.p (.int .i64 vi16))] [(11,.larr 3 false 1 (.dat (.int .i64) vl17)),(57,.larr 64 true 3 (.dat foundC vl18))]
noncomputable def BqueryG_6 (F f2:Nat) (vi15 vi16:Int) (vl17:List Int) (vp19:OpenT) (vs20 vs21:List UInt8) (vl18:List FoundT):Option Ans:=runB GqueryG cqueryG (kP Tryz.prog Tryz.f16.results.toList) F [f2] [1,1,1,1,1,1,0,1,0,0,1,1,0,0,1] [(11,.arr 11),(13,.ref 13 0),(57,.arr 57),(58,.p (.int .i64 vi15)),(59,.p (.int .i64 vi16))] [(11,.larr 3 false 1 (.dat (.int .i64) vl17)),(13,.cells [.p (.box 10 (cell openC vp19)),.p (.str vs20),.p (.str vs21)]),(57,.larr 64 true 3 (.dat foundC vl18))]
noncomputable def FqueryG (F:Nat) (l:List MailT) (f:List TermT) (o:List (Int×List UInt8×Bool)):Option Ans:=runF GqueryG Tryz.f16 F [.p (.list 8 (.dat mailC l)),.p (.list 6 (.dat termC f)),.p (.list 3 (.dat (.pair (.int .i64) (.pair .str .bool)) o))]
theorem BqueryG_1_eq (F f1:Nat) (f:List TermT) (o:List (Int×List UInt8×Bool)) (l:List MailT) (vi1 vi2:Int) (vl3:List FoundT):BqueryG_1 F (f1+1) f o l vi1 vi2 vl3=cond (decide (vi2 < vi1)) (need (0<=vi2/\vi2 < (l.length:Int)) (BqueryG_2 F f1 f o l vi1 vi2 vl3 ((l.getD (vi2).toNat ((0:Int),((0:Int),([],((0:Int),([],([],((0:Int),(0:Int))))))))).1) (((l.getD (vi2).toNat ((0:Int),((0:Int),([],((0:Int),([],([],((0:Int),(0:Int))))))))).2).1) ((((l.getD (vi2).toNat ((0:Int),((0:Int),([],((0:Int),([],([],((0:Int),(0:Int))))))))).2).2).1) (((((l.getD (vi2).toNat ((0:Int),((0:Int),([],((0:Int),([],([],((0:Int),(0:Int))))))))).2).2).2).1) ((((((l.getD (vi2).toNat ((0:Int),((0:Int),([],((0:Int),([],([],((0:Int),(0:Int))))))))).2).2).2).2).1) (((((((l.getD (vi2).toNat ((0:Int),((0:Int),([],((0:Int),([],([],((0:Int),(0:Int))))))))).2).2).2).2).2).1) ((((((((l.getD (vi2).toNat ((0:Int),((0:Int),([],((0:Int),([],([],((0:Int),(0:Int))))))))).2).2).2).2).2).2).1) ((((((((l.getD (vi2).toNat ((0:Int),((0:Int),([],((0:Int),([],([],((0:Int),(0:Int))))))))).2).2).2).2).2).2).2))) (need (sstok o vl3) (BqueryG_5 F F ((sortR o 0 vl3.length vl3).length:Int) (0:Int) ([]:List Int) (sortR o 0 vl3.length vl3))):=by kernel_rfl
theorem BqueryG_2_eq (F f1:Nat) (f:List TermT) (o:List (Int×List UInt8×Bool)) (l:List MailT) (vi1 vi2:Int) (vl3:List FoundT) (vi4 vi5:Int) (vs6:List UInt8) (vi7:Int) (vl8:List (List UInt8)) (vl9:List (Int×Int)) (vi10 vi11:Int):BqueryG_2 F f1 f o l vi1 vi2 vl3 vi4 vi5 vs6 vi7 vl8 vl9 vi10 vi11=need (vs6.length<=1000000) (need ((decide ((f.length:Int) > (0:Int)))=true->i64ok ((f.length:Int) - (1:Int))) (need ((decide ((f.length:Int) > (0:Int)))=true->hGok 41 (openP (vi4,vi5,vs6,vi7,vl8,vl9,vi10,vi11)) f ((f.length:Int) - (1:Int))) (BqueryG_3 F f1 f o l vi1 vi2 ((decide ((f.length:Int) > (0:Int)))&&(!(hGF 41 (openP (vi4,vi5,vs6,vi7,vl8,vl9,vi10,vi11)) f ((f.length:Int) - (1:Int))))) vl3 vi4 vi5 vs6 vi7 vl8 vl9 vi10 vi11 (openP (vi4,vi5,vs6,vi7,vl8,vl9,vi10,vi11))))):=
 Eq.trans (show BqueryG_2 F f1 f o l vi1 vi2 vl3 vi4 vi5 vs6 vi7 vl8 vl9 vi10 vi11=need (vs6.length<=1000000) (need ((decide ((f.length:Int) > (0:Int)))=true->(decide ((f.length:Int) > (0:Int)))=true) (need ((decide ((f.length:Int) > (0:Int)))=true->(decide ((f.length:Int) > (0:Int)))=true) (need ((decide ((f.length:Int) > (0:Int)))=true->(decide ((f.length:Int) > (0:Int)))=true) (need ((decide ((f.length:Int) > (0:Int)))=true->i64ok ((f.length:Int) - (1:Int))) (need ((decide ((f.length:Int) > (0:Int)))=true->(decide ((f.length:Int) > (0:Int)))=true) (need ((decide ((f.length:Int) > (0:Int)))=true->(decide ((f.length:Int) > (0:Int)))=true) (need ((decide ((f.length:Int) > (0:Int)))=true->(decide ((f.length:Int) > (0:Int)))=true) (need ((decide ((f.length:Int) > (0:Int)))=true->hGok 41 (openP (vi4,vi5,vs6,vi7,vl8,vl9,vi10,vi11)) f ((f.length:Int) - (1:Int))) (need ((decide ((f.length:Int) > (0:Int)))=true->(decide ((f.length:Int) > (0:Int)))=true) (need ((decide ((f.length:Int) > (0:Int)))=true->(decide ((f.length:Int) > (0:Int)))=true) (BqueryG_3 F f1 f o l vi1 vi2 ((decide ((f.length:Int) > (0:Int)))&&(!(hGF 41 (openP (vi4,vi5,vs6,vi7,vl8,vl9,vi10,vi11)) f ((f.length:Int) - (1:Int))))) vl3 vi4 vi5 vs6 vi7 vl8 vl9 vi10 vi11 (openP (vi4,vi5,vs6,vi7,vl8,vl9,vi10,vi11))))))))))))) by kernel_rfl) (need_congr (need_strike (show (decide ((f.length:Int) > (0:Int)))=true->(decide ((f.length:Int) > (0:Int)))=true from (fun q0=>q0)) (need_strike (show (decide ((f.length:Int) > (0:Int)))=true->(decide ((f.length:Int) > (0:Int)))=true from (fun q0=>q0)) (need_strike (show (decide ((f.length:Int) > (0:Int)))=true->(decide ((f.length:Int) > (0:Int)))=true from (fun q0=>q0)) (need_congr (need_strike (show (decide ((f.length:Int) > (0:Int)))=true->(decide ((f.length:Int) > (0:Int)))=true from (fun q0=>q0)) (need_strike (show (decide ((f.length:Int) > (0:Int)))=true->(decide ((f.length:Int) > (0:Int)))=true from (fun q0=>q0)) (need_strike (show (decide ((f.length:Int) > (0:Int)))=true->(decide ((f.length:Int) > (0:Int)))=true from (fun q0=>q0)) (need_congr (need_strike (show (decide ((f.length:Int) > (0:Int)))=true->(decide ((f.length:Int) > (0:Int)))=true from (fun q0=>q0)) (need_strike (show (decide ((f.length:Int) > (0:Int)))=true->(decide ((f.length:Int) > (0:Int)))=true from (fun q0=>q0)) (rfl))))))))))))
theorem BqueryG_3_eq (F f1:Nat) (f:List TermT) (o:List (Int×List UInt8×Bool)) (l:List MailT) (vi1 vi2:Int) (vc12:Bool) (vl3:List FoundT) (vi4 vi5:Int) (vs6:List UInt8) (vi7:Int) (vl8:List (List UInt8)) (vl9:List (Int×Int)) (vi10 vi11:Int) (vp13:OpenT):BqueryG_3 F f1 f o l vi1 vi2 vc12 vl3 vi4 vi5 vs6 vi7 vl8 vl9 vi10 vi11 vp13=cond (vc12) (BqueryG_4 F f1 f o l vi1 vi2 vl3) (need (vp13.2.1=[]) (need (vs6.length<=50000) (need ((subjS vs6).length<=140737488355328) (need ((vl3.length+[(vp13,(([]:List UInt8),foldS (subjS vs6)))].length) * 40<=140737488355328) (BqueryG_4 F f1 f o l vi1 vi2 (vl3++[(vp13,(([]:List UInt8),foldS (subjS vs6)))])))))):=by kernel_rfl
theorem BqueryG_4_eq (F f1:Nat) (f:List TermT) (o:List (Int×List UInt8×Bool)) (l:List MailT) (vi1 vi2:Int) (vl14:List FoundT):BqueryG_4 F f1 f o l vi1 vi2 vl14=need (i64ok (vi2+(1:Int))) (BqueryG_1 F f1 f o l vi1 (vi2+(1:Int)) vl14):=by kernel_rfl
theorem BqueryG_5_eq (F f2:Nat) (vi15 vi16:Int) (vl17:List Int) (vl18:List FoundT):BqueryG_5 F (f2+1) vi15 vi16 vl17 vl18=cond (decide (vi16 < vi15)) (need (0<=vi16/\vi16 < (vl18.length:Int)) (need ((vi16).toNat < vl18.length) (BqueryG_6 F f2 vi15 vi16 vl17 ((vl18.getD ((vi16).toNat) ((((0:Int),((0:Int),([],((0:Int),([],([],((0:Int),(0:Int)))))))),([],[])),([],[]))).1) (((vl18.getD ((vi16).toNat) ((((0:Int),((0:Int),([],((0:Int),([],([],((0:Int),(0:Int)))))))),([],[])),([],[]))).2).1) (((vl18.getD ((vi16).toNat) ((((0:Int),((0:Int),([],((0:Int),([],([],((0:Int),(0:Int)))))))),([],[])),([],[]))).2).2) vl18))) (some (.p (.list 1 (.dat (.int .i64) vl17)),[])):=by kernel_rfl
theorem BqueryG_6_eq (F f2:Nat) (vi15 vi16:Int) (vl17:List Int) (vp19:OpenT) (vs20 vs21:List UInt8) (vl18:List FoundT):BqueryG_6 F f2 vi15 vi16 vl17 vp19 vs20 vs21 vl18=need ((vl17.length+[vp19.1.1].length) * 8<=140737488355328) (need (i64ok (vi16+(1:Int))) (BqueryG_5 F f2 vi15 (vi16+(1:Int)) (vl17++[vp19.1.1]) vl18)):=by kernel_rfl
theorem FqueryG_eq (F:Nat) (l:List MailT) (f:List TermT) (o:List (Int×List UInt8×Bool)):FqueryG F l f o=need (rightok f) (cond (!(rightP f)) (some (.p .nil,[])) (BqueryG_1 F F f o l (l.length:Int) (0:Int) ([]:List FoundT))):=by kernel_rfl
theorem fn_queryG (F:Nat) (l:List MailT) (f:List TermT) (o:List (Int×List UInt8×Bool)) (r:AV) (h:(∃ M vs,ARels γ0 M [.p (.list 8 (.dat mailC l)),.p (.list 6 (.dat termC f)),.p (.list 3 (.dat (.pair (.int .i64) (.pair .str .bool)) o))] vs)->FqueryG F l f o=some (r,[])):FnP Tryz.prog 16 [.p (.list 8 (.dat mailC l)),.p (.list 6 (.dat termC f)),.p (.list 3 (.dat (.pair (.int .i64) (.pair .str .bool)) o))] r:=
 FnP_run GqueryG F rfl (EnvOk_mk (l:=[(21,sp_right),(22,sp_opened),(23,sp_hG 41),(26,sp_from0),(27,sp_Fold),(28,sp_subject)]) ⟨ok_right.any,ok_opened.any,(ok_hG 41).any,ok_from0.any,ok_Fold.any,ok_subject.any,trivial⟩) (EnvROk_mk (l:=[(29,sp_sstG)]) ⟨ok_sstG,trivial⟩) (Checked.mixed Tryz.checked) (fn:=Tryz.f16) (by kernel_rfl) (by kernel_rfl) rfl h
theorem qG_5 (F:Nat) (l:List FoundT) (hl:l.length<=30):∀ (r:List FoundT) (f2 i:Nat) (acc:List Int),l.drop i=r->i+r.length=l.length->r.length < f2->acc.length=i->
 BqueryG_5 F f2 (l.length:Int) (i:Int) acc l=some (.p (.list 1 (.dat (.int .i64) (acc++r.map idF))),[])
 | [],f2,i,acc,hd,hi,hf,ha=>by
  obtain ⟨f2,rfl⟩:∃ k,f2=k+1:=⟨f2 - 1,by omega⟩
  have hi:i=l.length:=by simpa using hi
  rw [BqueryG_5_eq]
  exact cond_f (decide_eq_false (by omega)) (by simp)
 | x::r,f2,i,acc,hd,hi,hf,ha=>by
  obtain ⟨f2,rfl⟩:∃ k,f2=k+1:=⟨f2 - 1,by omega⟩
  obtain ⟨hg,hd2,hlt⟩:=dropG hd dF
  rw [List.length_cons] at hi hf
  rw [BqueryG_5_eq,Int.toNat_natCast,hg]
  refine cond_t (decide_eq_true (by omega)) (need_mk ⟨by omega,by omega⟩ (need_mk hlt ?_))
  rw [BqueryG_6_eq]
  refine need_mk (by simp; omega) (need_mk (by unfold i64ok; omega) ?_)
  rw [show ((i:Int)+1)=((i+1:Nat):Int) by omega,qG_5 F l hl r f2 (i+1) _ hd2 (by omega) (by omega) (by simp; omega),List.map_cons,List.append_assoc]
  rfl
theorem qG_1 (F:Nat) (l:List MailT) (f:List TermT) (o:List (Elt ordC)) (hF:40<=F) (h:qGok l f o) (hr:rightP f=true):∀ (r:List MailT) (f1 i:Nat) (acc:List FoundT),l.drop i=r->i+r.length=l.length->r.length < f1->acc.length<=i->acc++foundL r f=foundL l f->
 BqueryG_1 F f1 f o l (l.length:Int) (i:Int) acc=some (.p (.list 1 (.dat (.int .i64) ((sortR o 0 (foundL l f).length (foundL l f)).map idF))),[])
 | [],f1,i,acc,hd,hi,hf,ha,he=>by
  obtain ⟨f1,rfl⟩:∃ k,f1=k+1:=⟨f1 - 1,by omega⟩
  have hi:i=l.length:=by simpa using hi
  have he:acc=foundL l f:=by rw [<-he]; simp [foundL]
  subst he
  obtain ⟨⟨dn,rfl⟩,h2,h3,h4,_⟩:=h
  have hls:(sortR (ordD dn) 0 (foundL l f).length (foundL l f)).length=(foundL l f).length:=by rw [sortR_all dn _ _ rfl]; exact (msort_perm dn _).length_eq
  rw [BqueryG_1_eq]
  refine cond_f (decide_eq_false (by omega)) (need_mk ⟨⟨dn,rfl⟩,by omega,found_ids l f h4⟩ ?_)
  exact qG_5 F _ (by omega) _ F 0 [] rfl (by simp) (by omega) rfl
 | m::r,f1,i,acc,hd,hi,hf,ha,he=>by
  obtain ⟨f1,rfl⟩:∃ k,f1=k+1:=⟨f1 - 1,by omega⟩
  obtain ⟨hg,hd2,hlt⟩:=dropG hd ((0:Int),((0:Int),(([]:List UInt8),((0:Int),(([]:List (List UInt8)),(([]:List (Int×Int)),((0:Int),(0:Int))))))))
  have hm:m ∈ l:=by rw [<-hg]; exact getD_mem hlt _
  rw [List.length_cons] at hi hf
  obtain ⟨h1,h2,h3,h4,h5⟩:=id h
  obtain ⟨m1,m2,m3,m4⟩:=h5 m hm
  have hsm:=h2.1
  rw [BqueryG_1_eq,Int.toNat_natCast,hg]
  refine cond_t (decide_eq_true (by omega)) (need_mk ⟨by omega,by omega⟩ ?_)
  rw [BqueryG_2_eq]
  refine need_mk m4.2.1 (need_mk (fun _=>by unfold i64ok; omega) (need_mk (fun q=>m4.2.2 hr (by rw [decide_eq_true_eq] at q; omega)) ?_))
  show BqueryG_3 F f1 f o l _ _ (decide ((f.length:Int) > (0:Int))&&(!(hGF 41 (openP m) f ((f.length:Int) - (1:Int))))) acc _ _ _ _ _ _ _ _ (openP m)=_
  have hh:holdF f m=!(decide ((f.length:Int) > (0:Int))&&(!(hGF 41 (openP m) f ((f.length:Int) - (1:Int))))):=by
   rw [holdF,hr,Bool.true_and,Bool.not_and,Bool.not_not]
   congr 1
   by_cases h0:f.length=0
   .rw [h0]; rfl
   .rw [decide_eq_true (show (f.length:Int) > 0 by omega),beq_eq_false_iff_ne.2 (show (f.length:Int)≠0 by omega)]; rfl
  rw [BqueryG_3_eq]
  cases hc:(decide ((f.length:Int) > (0:Int))&&(!(hGF 41 (openP m) f ((f.length:Int) - (1:Int))))) with
  | true=>
   rw [hc] at hh
   refine cond_t rfl ?_
   rw [BqueryG_4_eq]
   refine need_mk (by unfold i64ok; omega) ?_
   rw [show ((i:Int)+1)=((i+1:Nat):Int) by omega]
   exact qG_1 F l f o hF h hr r f1 (i+1) acc hd2 (by omega) (by omega) (by omega) (by rw [<-he]; simp [foundL,hh])
  | false=>
   rw [hc] at hh
   refine cond_f rfl (need_mk m1 (need_mk m2 (need_mk (by omega) (need_mk (by simp; omega) ?_))))
   rw [BqueryG_4_eq]
   refine need_mk (by unfold i64ok; omega) ?_
   rw [show ((i:Int)+1)=((i+1:Nat):Int) by omega]
   exact qG_1 F l f o hF h hr r f1 (i+1) _ hd2 (by omega) (by omega) (by simp; omega) (by rw [<-he]; simp [foundL,hh,q0el])
def sp_queryG:List AV->Option (AV×Option Prop)
 | [.p l,.p f,.p o]=>match pList mailC l,pList termC f,pList ordC o with
  | some l,some f,some o=>some (.p (.list 1 (.dat (.int .i64) (queryGS l f o))),some (qGok l f o))
  | _,_,_=>none
 | _=>none
theorem ok_queryG:SpecOk Tryz.prog 16 sp_queryG:=by
 intro zs r ok he hok
 unfold sp_queryG at he
 split at he
 .rename_i l' f' o'
  split at he
  .rename_i l f o hl hf ho
   cases he
   have hok:qGok l f o:=hok
   refine ⟨by kernel_rfl,FnP.lq (ys:=[.p (.list 8 (.dat mailC l)),.p (.list 6 (.dat termC f)),.p (.list 3 (.dat ordC o))]) ⟨Lq.list (a:=mailC) hl,Lq.list (a:=termC) hf,Lq.list (a:=ordC) ho,trivial⟩ ?_⟩
   rw [queryGS]
   cases hr:rightP f with
   | true=>
    exact fn_queryG 41 l f o _ fun _=>by
     rw [FqueryG_eq,hr]
     exact need_mk hok.2.1 (cond_f rfl (qG_1 41 l f o (by omega) hok hr l 41 0 [] rfl (by simp) (by have:=hok.2.2.1; omega) (by simp) (by simp)))
   | false=>
    refine FnP.weak (r:=.p .nil) (fn_queryG 41 l f o _ fun _=>?_) fun M v h=>ARel.nil_list rfl h
    rw [FqueryG_eq,hr]
    exact need_mk hok.2.1 (cond_t rfl rfl)
  .cases he
 .cases he
end Go.Proofs.YtampckbjinodgaaGreatDoor
namespace Go.Proofs.YtampckbjinodgaaGreatDoor
open Go Go.Am
set_option linter.unusedVariables false
def thrL:List MailT->List (Int×Int)->List (Int×Int)
 | [],acc=>acc
 | m::r,acc=>if mpHas (e:=.int .i64) acc m.1 then thrL r acc else thrL r (acc++[(m.1,m.2.1)])
def colL (thr:List (Int×Int)):List Int->List (Int×Bool)->List Int
 | [],_=>[]
 | i::r,told=>if mpHas (e:=.int .i64) thr i&&mpGet (e:=.bool) told (mpGet (e:=.int .i64) thr i) then colL thr r told
  else i::colL thr r (if mpHas (e:=.int .i64) thr i then told++[(mpGet (e:=.int .i64) thr i,true)] else told)
def collapseS (l:List MailT) (ids:List Int):List Int:=colL (thrL l []) ids []
abbrev colok (l:List MailT) (ids:List Int):Prop:=l.length<=1000/\ids.length<=1000
theorem told_has:∀ {told:List (Int×Bool)},(∀ p ∈ told,p.2=true)->∀ k,mpGet (e:=.bool) told k=mpHas (e:=.bool) told k
 | [],_,k=>rfl
 | p::r,h,k=>by
  have ih:=told_has (told:=r) (fun q hq=>h q (by simp [hq])) k
  rw [mpGet,mpHas,List.any_cons]
  cases hk:k==p.1 with
  | true=>exact h p (by simp)
  | false=>rw [Bool.false_or]; exact ih
noncomputable def ccollapse:Code:=bodyOf Tryz.f19
noncomputable def Gcollapse:Cfg:=⟨Tryz.prog,mkEnv [],mkEnvR [],66,[],[([0,1,0,1,1],⟨[1,5,17,18,19],[⟨.slot 5,5,.cells []⟩]⟩),([1,0,0,1,1,0,0,1,0,1,1],⟨[1,5,7,17,18,19],[⟨.slot 5,5,.cells []⟩,⟨.slot 7,7,.cells []⟩]⟩),([1,1,1,0,0,1,0,1,1],⟨[1,5,17,18,19],[⟨.slot 5,5,.cells []⟩]⟩),([0,1,0,1,1,1,1,1],⟨[5,10,11,39,40,41],[⟨.slot 5,5,.cells []⟩,⟨.slot 10,10,.cells []⟩,⟨.slot 11,11,(.larr 3 false 1 (.dat (.int .i64) ([]:List Int)))⟩]⟩),([1,0,1,1,0,0,1,1,0,0,1,0,1,1,1,1,1],⟨[5,10,11,13,14,15,39,40,41,56],[⟨.slot 5,5,.cells []⟩,⟨.slot 10,10,.cells []⟩,⟨.slot 11,11,(.larr 3 false 1 (.dat (.int .i64) ([]:List Int)))⟩]⟩),([1,1,1,1,0,0,1,1,0,0,1,0,1,1,1,1,1],⟨[5,10,11,13,39,40,41],[⟨.slot 5,5,.cells []⟩,⟨.slot 10,10,.cells []⟩,⟨.slot 11,11,(.larr 3 false 1 (.dat (.int .i64) ([]:List Int)))⟩]⟩),([1,1,1,0,0,1,0,1,1,1,1,1],⟨[5,10,11,39,40,41],[⟨.slot 5,5,.cells []⟩,⟨.slot 10,10,.cells []⟩,⟨.slot 11,11,(.larr 3 false 1 (.dat (.int .i64) ([]:List Int)))⟩]⟩)],[]⟩
noncomputable def Bcollapse_1 (F f1:Nat) (ids:List Int) (l:List MailT) (vi1 vi2:Int) (vm3:List (Int×Int)):Option Ans:=runR Gcollapse ccollapse (kP Tryz.prog Tryz.f19.results.toList) F [] [1,1,0,1,0] f1 [(1,.p (.list 1 (.dat (.int .i64) ids))),(5,.mref 5),(17,.p (.list 8 (.dat mailC l))),(18,.p (.int .i64 vi1)),(19,.p (.int .i64 vi2))] [(5,.mp (.int .i64) vm3)]
noncomputable def Bcollapse_2 (F f1:Nat) (ids:List Int) (l:List MailT) (vi1 vi2:Int) (vm3:List (Int×Int)) (vi4 vi5:Int) (vs6:List UInt8) (vi7:Int) (vl8:List (List UInt8)) (vl9:List (Int×Int)) (vi10 vi11:Int):Option Ans:=runB Gcollapse ccollapse (kP Tryz.prog Tryz.f19.results.toList) F [f1] [1,1,0,1,0,0,1,1,0,0,1] [(1,.p (.list 1 (.dat (.int .i64) ids))),(5,.mref 5),(7,.ref 7 0),(17,.p (.list 8 (.dat mailC l))),(18,.p (.int .i64 vi1)),(19,.p (.int .i64 vi2))] [(5,.mp (.int .i64) vm3),(7,.cells [.p (.int .i64 vi4),.p (.int .i64 vi5),.p (.str vs6),.p (.int .i64 vi7),.p (.list 1 (.dat .str vl8)),.p (.list 2 (.dat (.pair (.int .i64) (.int .i64)) vl9)),.p (.int .i64 vi10),.p (.int .i64 vi11)])]
noncomputable def Bcollapse_3 (F f1:Nat) (ids:List Int) (l:List MailT) (vi1 vi2:Int) (vm12:List (Int×Int)):Option Ans:=runB Gcollapse ccollapse (kP Tryz.prog Tryz.f19.results.toList) F [f1] [1,1,0,1,0,0,1,1,1] [(1,.p (.list 1 (.dat (.int .i64) ids))),(5,.mref 5),(17,.p (.list 8 (.dat mailC l))),(18,.p (.int .i64 vi1)),(19,.p (.int .i64 vi2))] [(5,.mp (.int .i64) vm12)]
noncomputable def Bcollapse_4 (F f2:Nat) (ids:List Int) (vi13 vi14:Int) (vm15:List (Int×Int)) (vm16:List (Int×Bool)) (vl17:List Int):Option Ans:=runR Gcollapse ccollapse (kP Tryz.prog Tryz.f19.results.toList) F [] [1,1,1,1,1,0,1,0] f2 [(5,.mref 5),(10,.mref 10),(11,.arr 11),(39,.p (.list 1 (.dat (.int .i64) ids))),(40,.p (.int .i64 vi13)),(41,.p (.int .i64 vi14))] [(5,.mp (.int .i64) vm15),(10,.mp .bool vm16),(11,.larr 3 false 1 (.dat (.int .i64) vl17))]
noncomputable def Bcollapse_5 (F f2:Nat) (vi18 vi19:Int) (vc20:Bool) (ids:List Int) (vi13 vi14:Int) (vc21:Bool) (vm15:List (Int×Int)) (vm16:List (Int×Bool)) (vl17:List Int):Option Ans:=runB Gcollapse ccollapse (kP Tryz.prog Tryz.f19.results.toList) F [f2] [1,1,1,1,1,0,1,0,0,1,1,0,0,1,1,0,1] [(5,.mref 5),(10,.mref 10),(11,.arr 11),(13,.p (.int .i64 vi18)),(14,.p (.int .i64 vi19)),(15,.p (.bool vc20)),(39,.p (.list 1 (.dat (.int .i64) ids))),(40,.p (.int .i64 vi13)),(41,.p (.int .i64 vi14)),(56,.p (.bool vc21))] [(5,.mp (.int .i64) vm15),(10,.mp .bool vm16),(11,.larr 3 false 1 (.dat (.int .i64) vl17))]
noncomputable def Bcollapse_6 (F f2:Nat) (ids:List Int) (vi13 vi14:Int) (vm22:List (Int×Int)) (vm23:List (Int×Bool)) (vl24:List Int):Option Ans:=runB Gcollapse ccollapse (kP Tryz.prog Tryz.f19.results.toList) F [f2] [1,1,1,1,1,0,1,0,0,1,1,1] [(5,.mref 5),(10,.mref 10),(11,.arr 11),(39,.p (.list 1 (.dat (.int .i64) ids))),(40,.p (.int .i64 vi13)),(41,.p (.int .i64 vi14))] [(5,.mp (.int .i64) vm22),(10,.mp .bool vm23),(11,.larr 3 false 1 (.dat (.int .i64) vl24))]
noncomputable def Bcollapse_7 (F f2:Nat) (vi18:Int) (ids:List Int) (vi13 vi14:Int) (vm25:List (Int×Int)) (vm26:List (Int×Bool)) (vl27:List Int):Option Ans:=runB Gcollapse ccollapse (kP Tryz.prog Tryz.f19.results.toList) F [f2] [1,1,1,1,1,0,1,0,0,1,1,0,0,1,1,1,1] [(5,.mref 5),(10,.mref 10),(11,.arr 11),(13,.p (.int .i64 vi18)),(39,.p (.list 1 (.dat (.int .i64) ids))),(40,.p (.int .i64 vi13)),(41,.p (.int .i64 vi14))] [(5,.mp (.int .i64) vm25),(10,.mp .bool vm26),(11,.larr 3 false 1 (.dat (.int .i64) vl27))]
noncomputable def Fcollapse (F:Nat) (l:List MailT) (ids:List Int):Option Ans:=runF Gcollapse Tryz.f19 F [.p (.list 8 (.dat mailC l)),.p (.list 1 (.dat (.int .i64) ids))]
theorem Bcollapse_1_eq (F f1:Nat) (ids:List Int) (l:List MailT) (vi1 vi2:Int) (vm3:List (Int×Int)):Bcollapse_1 F (f1+1) ids l vi1 vi2 vm3=cond (decide (vi2 < vi1)) (need (0<=vi2/\vi2 < (l.length:Int)) (Bcollapse_2 F f1 ids l vi1 vi2 vm3 ((l.getD (vi2).toNat ((0:Int),((0:Int),([],((0:Int),([],([],((0:Int),(0:Int))))))))).1) (((l.getD (vi2).toNat ((0:Int),((0:Int),([],((0:Int),([],([],((0:Int),(0:Int))))))))).2).1) ((((l.getD (vi2).toNat ((0:Int),((0:Int),([],((0:Int),([],([],((0:Int),(0:Int))))))))).2).2).1) (((((l.getD (vi2).toNat ((0:Int),((0:Int),([],((0:Int),([],([],((0:Int),(0:Int))))))))).2).2).2).1) ((((((l.getD (vi2).toNat ((0:Int),((0:Int),([],((0:Int),([],([],((0:Int),(0:Int))))))))).2).2).2).2).1) (((((((l.getD (vi2).toNat ((0:Int),((0:Int),([],((0:Int),([],([],((0:Int),(0:Int))))))))).2).2).2).2).2).1) ((((((((l.getD (vi2).toNat ((0:Int),((0:Int),([],((0:Int),([],([],((0:Int),(0:Int))))))))).2).2).2).2).2).2).1) ((((((((l.getD (vi2).toNat ((0:Int),((0:Int),([],((0:Int),([],([],((0:Int),(0:Int))))))))).2).2).2).2).2).2).2))) (Bcollapse_4 F F ids (ids.length:Int) (0:Int) vm3 ([]:List (Int×Bool)) ([]:List Int)):=by kernel_rfl
theorem Bcollapse_2_eq (F f1:Nat) (ids:List Int) (l:List MailT) (vi1 vi2:Int) (vm3:List (Int×Int)) (vi4 vi5:Int) (vs6:List UInt8) (vi7:Int) (vl8:List (List UInt8)) (vl9:List (Int×Int)) (vi10 vi11:Int):Bcollapse_2 F f1 ids l vi1 vi2 vm3 vi4 vi5 vs6 vi7 vl8 vl9 vi10 vi11=cond (!(mpHas (e:=.int .i64) vm3 vi4)) (need ((mpHas (e:=.int .i64) vm3 vi4)=false) (Bcollapse_3 F f1 ids l vi1 vi2 (vm3++[(vi4,vi5)]))) (Bcollapse_3 F f1 ids l vi1 vi2 vm3):=by kernel_rfl
theorem Bcollapse_3_eq (F f1:Nat) (ids:List Int) (l:List MailT) (vi1 vi2:Int) (vm12:List (Int×Int)):Bcollapse_3 F f1 ids l vi1 vi2 vm12=need (i64ok (vi2+(1:Int))) (Bcollapse_1 F f1 ids l vi1 (vi2+(1:Int)) vm12):=by kernel_rfl
theorem Bcollapse_4_eq (F f2:Nat) (ids:List Int) (vi13 vi14:Int) (vm15:List (Int×Int)) (vm16:List (Int×Bool)) (vl17:List Int):Bcollapse_4 F (f2+1) ids vi13 vi14 vm15 vm16 vl17=cond (decide (vi14 < vi13)) (need (0<=vi14/\vi14 < (ids.length:Int)) ((((Bcollapse_5 F f2 (ids.getD (vi14).toNat (0:Int)) (mpGet (e:=.int .i64) vm15 (ids.getD (vi14).toNat (0:Int))) (mpHas (e:=.int .i64) vm15 (ids.getD (vi14).toNat (0:Int))) ids vi13 vi14 ((mpHas (e:=.int .i64) vm15 (ids.getD (vi14).toNat (0:Int)))&&(mpGet (e:=.bool) vm16 (mpGet (e:=.int .i64) vm15 (ids.getD (vi14).toNat (0:Int))))) vm15 vm16 vl17))))) (some (.p (.list 1 (.dat (.int .i64) vl17)),[])):=by
 have h:Bcollapse_4 F (f2+1) ids vi13 vi14 vm15 vm16 vl17=cond (decide (vi14 < vi13)) (need (0<=vi14/\vi14 < (ids.length:Int)) (need ((mpHas (e:=.int .i64) vm15 (ids.getD (vi14).toNat (0:Int)))=true->(mpHas (e:=.int .i64) vm15 (ids.getD (vi14).toNat (0:Int)))=true) (need ((mpHas (e:=.int .i64) vm15 (ids.getD (vi14).toNat (0:Int)))=true->(mpHas (e:=.int .i64) vm15 (ids.getD (vi14).toNat (0:Int)))=true) (need ((mpHas (e:=.int .i64) vm15 (ids.getD (vi14).toNat (0:Int)))=true->(mpHas (e:=.int .i64) vm15 (ids.getD (vi14).toNat (0:Int)))=true) (Bcollapse_5 F f2 (ids.getD (vi14).toNat (0:Int)) (mpGet (e:=.int .i64) vm15 (ids.getD (vi14).toNat (0:Int))) (mpHas (e:=.int .i64) vm15 (ids.getD (vi14).toNat (0:Int))) ids vi13 vi14 ((mpHas (e:=.int .i64) vm15 (ids.getD (vi14).toNat (0:Int)))&&(mpGet (e:=.bool) vm16 (mpGet (e:=.int .i64) vm15 (ids.getD (vi14).toNat (0:Int))))) vm15 vm16 vl17))))) (some (.p (.list 1 (.dat (.int .i64) vl17)),[])):=by kernel_rfl
 rw [h,need_pos (show (mpHas (e:=.int .i64) vm15 (ids.getD (vi14).toNat (0:Int)))=true->(mpHas (e:=.int .i64) vm15 (ids.getD (vi14).toNat (0:Int)))=true from (fun q0=>q0)),need_pos (show (mpHas (e:=.int .i64) vm15 (ids.getD (vi14).toNat (0:Int)))=true->(mpHas (e:=.int .i64) vm15 (ids.getD (vi14).toNat (0:Int)))=true from (fun q0=>q0)),need_pos (show (mpHas (e:=.int .i64) vm15 (ids.getD (vi14).toNat (0:Int)))=true->(mpHas (e:=.int .i64) vm15 (ids.getD (vi14).toNat (0:Int)))=true from (fun q0=>q0))]
theorem Bcollapse_5_eq (F f2:Nat) (vi18 vi19:Int) (vc20:Bool) (ids:List Int) (vi13 vi14:Int) (vc21:Bool) (vm15:List (Int×Int)) (vm16:List (Int×Bool)) (vl17:List Int):Bcollapse_5 F f2 vi18 vi19 vc20 ids vi13 vi14 vc21 vm15 vm16 vl17=cond (vc21) (Bcollapse_6 F f2 ids vi13 vi14 vm15 vm16 vl17) (cond (vc20) (need ((mpHas (e:=.bool) vm16 vi19)=false) (Bcollapse_7 F f2 vi18 ids vi13 vi14 vm15 (vm16++[(vi19,true)]) vl17)) (Bcollapse_7 F f2 vi18 ids vi13 vi14 vm15 vm16 vl17)):=by kernel_rfl
theorem Bcollapse_6_eq (F f2:Nat) (ids:List Int) (vi13 vi14:Int) (vm22:List (Int×Int)) (vm23:List (Int×Bool)) (vl24:List Int):Bcollapse_6 F f2 ids vi13 vi14 vm22 vm23 vl24=need (i64ok (vi14+(1:Int))) (Bcollapse_4 F f2 ids vi13 (vi14+(1:Int)) vm22 vm23 vl24):=by kernel_rfl
theorem Bcollapse_7_eq (F f2:Nat) (vi18:Int) (ids:List Int) (vi13 vi14:Int) (vm25:List (Int×Int)) (vm26:List (Int×Bool)) (vl27:List Int):Bcollapse_7 F f2 vi18 ids vi13 vi14 vm25 vm26 vl27=need ((vl27.length+[vi18].length) * 8<=140737488355328) (Bcollapse_6 F f2 ids vi13 vi14 vm25 vm26 (vl27++[vi18])):=by kernel_rfl
theorem Fcollapse_eq (F:Nat) (l:List MailT) (ids:List Int):Fcollapse F l ids=Bcollapse_1 F F ids l (l.length:Int) (0:Int) ([]:List (Int×Int)):=by kernel_rfl
theorem fn_collapse (F:Nat) (l:List MailT) (ids:List Int) (r:AV) (h:(∃ M vs,ARels γ0 M [.p (.list 8 (.dat mailC l)),.p (.list 1 (.dat (.int .i64) ids))] vs)->Fcollapse F l ids=some (r,[])):FnP Tryz.prog 19 [.p (.list 8 (.dat mailC l)),.p (.list 1 (.dat (.int .i64) ids))] r:=
 FnP_run Gcollapse F rfl (EnvOk_mk (l:=[]) trivial) (EnvROk_mk (l:=[]) trivial) (Checked.mixed Tryz.checked) (fn:=Tryz.f19) (by kernel_rfl) (by kernel_rfl) rfl h
theorem col_4 (F:Nat) (ids:List Int) (thr:List (Int×Int)) (hl:ids.length<=1000):∀ (r:List Int) (f2 i:Nat) (told:List (Int×Bool)) (acc:List Int),ids.drop i=r->i+r.length=ids.length->r.length < f2->acc.length<=i->(∀ p ∈ told,p.2=true)->
 Bcollapse_4 F f2 ids (ids.length:Int) (i:Int) thr told acc=some (.p (.list 1 (.dat (.int .i64) (acc++colL thr r told))),[])
 | [],f2,i,told,acc,hd,hi,hf,ha,ht=>by
  obtain ⟨f2,rfl⟩:∃ k,f2=k+1:=⟨f2 - 1,by omega⟩
  have hi:i=ids.length:=by simpa using hi
  rw [Bcollapse_4_eq,colL,List.append_nil]
  exact cond_f (decide_eq_false (by omega)) rfl
 | x::r,f2,i,told,acc,hd,hi,hf,ha,ht=>by
  obtain ⟨f2,rfl⟩:∃ k,f2=k+1:=⟨f2 - 1,by omega⟩
  obtain ⟨hg,hd2,hlt⟩:=dropG hd (0:Int)
  rw [List.length_cons] at hi hf
  rw [Bcollapse_4_eq,Int.toNat_natCast,hg,colL]
  refine cond_t (decide_eq_true (by omega)) (need_mk ⟨by omega,by omega⟩ ?_)
  rw [Bcollapse_5_eq]
  cases hc:(mpHas (e:=.int .i64) thr x&&mpGet (e:=.bool) told (mpGet (e:=.int .i64) thr x)) with
  | true=>
   rw [if_pos rfl]
   refine cond_t rfl ?_
   rw [Bcollapse_6_eq]
   refine need_mk (by unfold i64ok; omega) ?_
   rw [show ((i:Int)+1)=((i+1:Nat):Int) by omega]
   exact col_4 F ids thr hl r f2 (i+1) told acc hd2 (by omega) (by omega) (by omega) ht
  | false=>
   rw [if_neg (by simp)]
   refine cond_f rfl ?_
   have hend:∀ told':List (Int×Bool),(∀ p ∈ told',p.2=true)->Bcollapse_7 F f2 x ids (ids.length:Int) (i:Int) thr told' acc=some (.p (.list 1 (.dat (.int .i64) (acc++x::colL thr r told'))),[]):=fun told' ht'=>by
    rw [Bcollapse_7_eq]
    refine need_mk (by simp; omega) ?_
    rw [Bcollapse_6_eq]
    refine need_mk (by unfold i64ok; omega) ?_
    rw [show ((i:Int)+1)=((i+1:Nat):Int) by omega,col_4 F ids thr hl r f2 (i+1) told' _ hd2 (by omega) (by omega) (by simp; omega) ht',List.append_assoc]
    rfl
   cases hh:mpHas (e:=.int .i64) thr x with
   | true=>
    rw [hh,Bool.true_and,told_has ht] at hc
    rw [if_pos rfl]
    exact cond_t rfl (need_mk hc (hend _ fun p hp=>by
     rcases List.mem_append.1 hp with hp | hp
     .exact ht p hp
     .rw [List.mem_singleton.1 hp]))
   | false=>
    rw [if_neg (by simp)]
    exact cond_f rfl (hend _ ht)
theorem col_1 (F:Nat) (l:List MailT) (ids:List Int) (hF:1000 < F) (h:colok l ids):∀ (r:List MailT) (f1 i:Nat) (acc:List (Int×Int)),l.drop i=r->i+r.length=l.length->r.length < f1->
 Bcollapse_1 F f1 ids l (l.length:Int) (i:Int) acc=some (.p (.list 1 (.dat (.int .i64) (colL (thrL r acc) ids []))),[])
 | [],f1,i,acc,hd,hi,hf=>by
  obtain ⟨f1,rfl⟩:∃ k,f1=k+1:=⟨f1 - 1,by omega⟩
  have hi:i=l.length:=by simpa using hi
  rw [Bcollapse_1_eq]
  exact cond_f (decide_eq_false (by omega)) (col_4 F ids acc h.2 ids F 0 [] [] rfl (by simp) (by have:=h.2; omega) (by simp) (by simp))
 | m::r,f1,i,acc,hd,hi,hf=>by
  obtain ⟨f1,rfl⟩:∃ k,f1=k+1:=⟨f1 - 1,by omega⟩
  obtain ⟨hg,hd2,hlt⟩:=dropG hd ((0:Int),((0:Int),(([]:List UInt8),((0:Int),(([]:List (List UInt8)),(([]:List (Int×Int)),((0:Int),(0:Int))))))))
  rw [List.length_cons] at hi hf
  have h1:=h.1
  rw [Bcollapse_1_eq,Int.toNat_natCast,hg,thrL]
  refine cond_t (decide_eq_true (by omega)) (need_mk ⟨by omega,by omega⟩ ?_)
  rw [Bcollapse_2_eq]
  cases hh:mpHas (e:=.int .i64) acc m.1 with
  | true=>
   rw [if_pos rfl]
   refine cond_f rfl ?_
   rw [Bcollapse_3_eq]
   refine need_mk (by unfold i64ok; omega) ?_
   rw [show ((i:Int)+1)=((i+1:Nat):Int) by omega]
   exact col_1 F l ids hF h r f1 (i+1) _ hd2 (by omega) (by omega)
  | false=>
   rw [if_neg (by simp)]
   refine cond_t rfl (need_mk rfl ?_)
   rw [Bcollapse_3_eq]
   refine need_mk (by unfold i64ok; omega) ?_
   rw [show ((i:Int)+1)=((i+1:Nat):Int) by omega]
   exact col_1 F l ids hF h r f1 (i+1) _ hd2 (by omega) (by omega)
theorem collapse_eq (l:List MailT) (ids:List Int) (h:colok l ids):Fcollapse 1001 l ids=some (.p (.list 1 (.dat (.int .i64) (collapseS l ids))),[]):=by
 rw [Fcollapse_eq]
 exact col_1 1001 l ids (by omega) h l 1001 0 [] rfl (by simp) (by have:=h.1; omega)
def sp_collapse:List AV->Option (AV×Option Prop)
 | [.p l,.p i]=>match pList mailC l,pList (.int .i64) i with
  | some l,some i=>some (.p (.list 1 (.dat (.int .i64) (collapseS l i))),some (colok l i))
  | _,_=>none
 | _=>none
theorem ok_collapse:SpecOk Tryz.prog 19 sp_collapse:=by
 intro zs r ok he hok
 unfold sp_collapse at he
 split at he
 .rename_i l' i'
  split at he
  .rename_i l i hl hi
   cases he
   exact ⟨by kernel_rfl,FnP.lq (ys:=[.p (.list 8 (.dat mailC l)),.p (.list 1 (.dat (.int .i64) i))]) ⟨Lq.list (a:=mailC) hl,Lq.list (a:=.int .i64) hi,trivial⟩ (fn_collapse 1001 l i _ fun _=>collapse_eq l i hok)⟩
  .cases he
 .cases he
end Go.Proofs.YtampckbjinodgaaGreatDoor
