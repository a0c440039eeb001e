/-
  Lifted functions, and facts about them.
-/
import Derived.Test.YtampckbjinodgaaGreatDoorRows
import Derived.Test.YtampckbjinodgaaGreatDoorAmC
import Derived.Test.YtampckbjinodgaaGreatDoorC01
import Derived.Test.YtampckbjinodgaaGreatDoorC15
namespace Go.Proofs.YtampckbjinodgaaGreatDoor
open Go Go.Am
set_option linter.unusedVariables false
theorem subj_nil:subjS []=[]:=by
 have hv:subjV []=[]:=by kernel_rfl
 have hw:wordS []=[]:=List.eq_nil_of_length_eq_zero (by have:=wordS_len []; simpa using this)
 have hs:shownS []=[]:=by kernel_rfl
 unfold subjS
 rw [hv,hw,hs]
def q0el (m:MailT):FoundT:=(openP m,([],foldS (subjS m.2.2.1)))
theorem q0id (m:MailT):(q0el m).1.1.1=m.1:=rfl
def queryS (l:List MailT):List Int:=(sort2 (l.map q0el)).map fun x=>x.1.1.1
abbrev q0ok (l:List MailT):Prop:=l.length=2/\∀ m ∈ l,m.2.2.1=[]
def sp_holdsN:List AV->Option (AV×Option Prop)
 | [.p (.box 10 _),.p .nil,.p (.int .i64 _)]=>some (.p (.bool false),some False)
 | _=>none
theorem ok_holdsN:SpecOk Tryz.prog 23 sp_holdsN:=by
 intro zs r ok he hok
 unfold sp_holdsN at he
 split at he
 .cases he; exact absurd hok (fun h=>h)
 .cases he
noncomputable def cquery0:Code:=bodyOf Tryz.f16
noncomputable def Gquery0:Cfg:=⟨Tryz.prog,mkEnv [(21,sp_right),(22,sp_opened),(23,sp_holdsN),(26,sp_from0),(27,sp_Fold),(28,sp_subject)],mkEnvR [(29,sp_sst0)],74,[],[([0,1,0,1,1,1],⟨[1,2,7,17,18,19],[⟨.slot 7,7,(.larr 64 true 3 (.dat foundC ([]:List FoundT)))⟩]⟩),([1,0,0,1,1,0,0,1,0,1,1,1],⟨[1,2,7,9,17,18,19],[⟨.slot 7,7,(.larr 64 true 3 (.dat foundC ([]:List FoundT)))⟩,⟨.slot 9,9,.cells []⟩]⟩),([1,1,1,0,0,1,0,1,1,1],⟨[1,2,7,17,18,19],[⟨.slot 7,7,(.larr 64 true 3 (.dat foundC ([]:List FoundT)))⟩]⟩),([0,1,0,1,1,1,1,1,1],⟨[11,57,58,59],[⟨.slot 11,11,(.larr 3 false 1 (.dat (.int .i64) ([]:List Int)))⟩,⟨.slot 57,57,.cells []⟩]⟩),([1,0,0,1,1,0,0,1,0,1,1,1,1,1,1],⟨[11,13,57,58,59],[⟨.slot 11,11,(.larr 3 false 1 (.dat (.int .i64) ([]:List Int)))⟩,⟨.slot 13,13,.cells []⟩,⟨.slot 57,57,.cells []⟩]⟩)],[([0,1,1,1,1],[3])]⟩
noncomputable def Bquery0_1 (F f1:Nat) (l:List MailT) (vi1 vi2:Int) (vl3:List FoundT):Option Ans:=runR Gquery0 cquery0 (kP Tryz.prog Tryz.f16.results.toList) F [] [1,1,1,0,1,0] f1 [(1,.p .nil),(2,.p .nil),(7,.arr 7),(17,.p (.list 8 (.dat mailC l))),(18,.p (.int .i64 vi1)),(19,.p (.int .i64 vi2))] [(7,.larr 64 true 3 (.dat foundC vl3))]
noncomputable def Bquery0_2 (F f1:Nat) (l:List MailT) (vi1 vi2:Int) (vl3:List FoundT) (vi4 vi5:Int) (vs6:List UInt8) (vi7:Int) (vl8:List (List UInt8)) (vl9:List (Int×Int)) (vi10 vi11:Int):Option Ans:=runB Gquery0 cquery0 (kP Tryz.prog Tryz.f16.results.toList) F [f1] [1,1,1,0,1,0,0,1,1,0,0,1] [(1,.p .nil),(2,.p .nil),(7,.arr 7),(9,.ref 9 0),(17,.p (.list 8 (.dat mailC l))),(18,.p (.int .i64 vi1)),(19,.p (.int .i64 vi2))] [(7,.larr 64 true 3 (.dat foundC vl3)),(9,.cells [.p (.int .i64 vi4),.p (.int .i64 vi5),.p (.str vs6),.p (.int .i64 vi7),.p (.list 1 (.dat .str vl8)),.p (.list 2 (.dat (.pair (.int .i64) (.int .i64)) vl9)),.p (.int .i64 vi10),.p (.int .i64 vi11)])]
noncomputable def Bquery0_3 (F f1:Nat) (l:List MailT) (vi1 vi2:Int) (vl12:List FoundT):Option Ans:=runB Gquery0 cquery0 (kP Tryz.prog Tryz.f16.results.toList) F [f1] [1,1,1,0,1,0,0,1,1,1] [(1,.p .nil),(2,.p .nil),(7,.arr 7),(17,.p (.list 8 (.dat mailC l))),(18,.p (.int .i64 vi1)),(19,.p (.int .i64 vi2))] [(7,.larr 64 true 3 (.dat foundC vl12))]
noncomputable def Bquery0_4 (F f2:Nat) (vi13 vi14:Int) (vl15:List Int) (vl16:List FoundT):Option Ans:=runR Gquery0 cquery0 (kP Tryz.prog Tryz.f16.results.toList) F [] [1,1,1,1,1,1,0,1,0] f2 [(11,.arr 11),(57,.arr 57),(58,.p (.int .i64 vi13)),(59,.p (.int .i64 vi14))] [(11,.larr 3 false 1 (.dat (.int .i64) vl15)),(57,.larr 64 true 3 (.dat foundC vl16))]
noncomputable def Bquery0_5 (F f2:Nat) (vi13 vi14:Int) (vl15:List Int) (vp17:OpenT) (vs18 vs19:List UInt8) (vl16:List FoundT):Option Ans:=runB Gquery0 cquery0 (kP Tryz.prog Tryz.f16.results.toList) F [f2] [1,1,1,1,1,1,0,1,0,0,1,1,0,0,1] [(11,.arr 11),(13,.ref 13 0),(57,.arr 57),(58,.p (.int .i64 vi13)),(59,.p (.int .i64 vi14))] [(11,.larr 3 false 1 (.dat (.int .i64) vl15)),(13,.cells [.p (.box 10 (cell openC vp17)),.p (.str vs18),.p (.str vs19)]),(57,.larr 64 true 3 (.dat foundC vl16))]
noncomputable def Fquery0 (F:Nat) (l:List MailT):Option Ans:=runF Gquery0 Tryz.f16 F [.p (.list 8 (.dat mailC l)),.p .nil,.p .nil]
theorem Bquery0_1_eq (F f1:Nat) (l:List MailT) (vi1 vi2:Int) (vl3:List FoundT):Bquery0_1 F (f1+1) l vi1 vi2 vl3=cond (decide (vi2 < vi1)) (need (0<=vi2/\vi2 < (l.length:Int)) (Bquery0_2 F f1 l vi1 vi2 vl3 ((l.getD (vi2).toNat ((0:Int),((0:Int),([],((0:Int),([],([],((0:Int),(0:Int))))))))).1) (((l.getD (vi2).toNat ((0:Int),((0:Int),([],((0:Int),([],([],((0:Int),(0:Int))))))))).2).1) ((((l.getD (vi2).toNat ((0:Int),((0:Int),([],((0:Int),([],([],((0:Int),(0:Int))))))))).2).2).1) (((((l.getD (vi2).toNat ((0:Int),((0:Int),([],((0:Int),([],([],((0:Int),(0:Int))))))))).2).2).2).1) ((((((l.getD (vi2).toNat ((0:Int),((0:Int),([],((0:Int),([],([],((0:Int),(0:Int))))))))).2).2).2).2).1) (((((((l.getD (vi2).toNat ((0:Int),((0:Int),([],((0:Int),([],([],((0:Int),(0:Int))))))))).2).2).2).2).2).1) ((((((((l.getD (vi2).toNat ((0:Int),((0:Int),([],((0:Int),([],([],((0:Int),(0:Int))))))))).2).2).2).2).2).2).1) ((((((((l.getD (vi2).toNat ((0:Int),((0:Int),([],((0:Int),([],([],((0:Int),(0:Int))))))))).2).2).2).2).2).2).2))) (need (vl3.length=2) (Bquery0_4 F F ((sort2 vl3).length:Int) (0:Int) ([]:List Int) (sort2 vl3))):=by kernel_rfl
theorem Bquery0_2_eq (F f1:Nat) (l:List MailT) (vi1 vi2:Int) (vl3:List FoundT) (vi4 vi5:Int) (vs6:List UInt8) (vi7:Int) (vl8:List (List UInt8)) (vl9:List (Int×Int)) (vi10 vi11:Int):Bquery0_2 F f1 l vi1 vi2 vl3 vi4 vi5 vs6 vi7 vl8 vl9 vi10 vi11=need (vs6.length<=1000000) (need (false=true->i64ok ((0:Int) - (1:Int))) (need (false=true->False) (need ((openP (vi4,vi5,vs6,vi7,vl8,vl9,vi10,vi11)).2.1=[]) (need (vs6.length<=50000) (need ((subjS vs6).length<=140737488355328) (need ((vl3.length+[(openP (vi4,vi5,vs6,vi7,vl8,vl9,vi10,vi11),(([]:List UInt8),foldS (subjS vs6)))].length) * 40<=140737488355328) (Bquery0_3 F f1 l vi1 vi2 (vl3++[(openP (vi4,vi5,vs6,vi7,vl8,vl9,vi10,vi11),(([]:List UInt8),foldS (subjS vs6)))])))))))):=
 Eq.trans (show Bquery0_2 F f1 l vi1 vi2 vl3 vi4 vi5 vs6 vi7 vl8 vl9 vi10 vi11=need (vs6.length<=1000000) (need (false=true->false=true) (need (false=true->false=true) (need (false=true->false=true) (need (false=true->i64ok ((0:Int) - (1:Int))) (need (false=true->false=true) (need (false=true->false=true) (need (false=true->false=true) (need (false=true->False) (need (false=true->false=true) (need (false=true->false=true) (need ((openP (vi4,vi5,vs6,vi7,vl8,vl9,vi10,vi11)).2.1=[]) (need (vs6.length<=50000) (need ((subjS vs6).length<=140737488355328) (need ((vl3.length+[(openP (vi4,vi5,vs6,vi7,vl8,vl9,vi10,vi11),(([]:List UInt8),foldS (subjS vs6)))].length) * 40<=140737488355328) (Bquery0_3 F f1 l vi1 vi2 (vl3++[(openP (vi4,vi5,vs6,vi7,vl8,vl9,vi10,vi11),(([]:List UInt8),foldS (subjS vs6)))])))))))))))))))) by kernel_rfl) (need_congr (need_strike (show false=true->false=true from (fun q0=>q0)) (need_strike (show false=true->false=true from (fun q0=>q0)) (need_strike (show false=true->false=true from (fun q0=>q0)) (need_congr (need_strike (show false=true->false=true from (fun q0=>q0)) (need_strike (show false=true->false=true from (fun q0=>q0)) (need_strike (show false=true->false=true from (fun q0=>q0)) (need_congr (need_strike (show false=true->false=true from (fun q0=>q0)) (need_strike (show false=true->false=true from (fun q0=>q0)) (rfl))))))))))))
theorem Bquery0_3_eq (F f1:Nat) (l:List MailT) (vi1 vi2:Int) (vl12:List FoundT):Bquery0_3 F f1 l vi1 vi2 vl12=need (i64ok (vi2+(1:Int))) (Bquery0_1 F f1 l vi1 (vi2+(1:Int)) vl12):=by kernel_rfl
theorem Bquery0_4_eq (F f2:Nat) (vi13 vi14:Int) (vl15:List Int) (vl16:List FoundT):Bquery0_4 F (f2+1) vi13 vi14 vl15 vl16=cond (decide (vi14 < vi13)) (need (0<=vi14/\vi14 < (vl16.length:Int)) (need ((vi14).toNat < vl16.length) (Bquery0_5 F f2 vi13 vi14 vl15 ((vl16.getD ((vi14).toNat) ((((0:Int),((0:Int),([],((0:Int),([],([],((0:Int),(0:Int)))))))),([],[])),([],[]))).1) (((vl16.getD ((vi14).toNat) ((((0:Int),((0:Int),([],((0:Int),([],([],((0:Int),(0:Int)))))))),([],[])),([],[]))).2).1) (((vl16.getD ((vi14).toNat) ((((0:Int),((0:Int),([],((0:Int),([],([],((0:Int),(0:Int)))))))),([],[])),([],[]))).2).2) vl16))) (some (.p (.list 1 (.dat (.int .i64) vl15)),[])):=by kernel_rfl
theorem Bquery0_5_eq (F f2:Nat) (vi13 vi14:Int) (vl15:List Int) (vp17:OpenT) (vs18 vs19:List UInt8) (vl16:List FoundT):Bquery0_5 F f2 vi13 vi14 vl15 vp17 vs18 vs19 vl16=need ((vl15.length+[vp17.1.1].length) * 8<=140737488355328) (need (i64ok (vi14+(1:Int))) (Bquery0_4 F f2 vi13 (vi14+(1:Int)) (vl15++[vp17.1.1]) vl16)):=by kernel_rfl
theorem Fquery0_eq (F:Nat) (l:List MailT):Fquery0 F l=Bquery0_1 F F l (l.length:Int) (0:Int) ([]:List FoundT):=by kernel_rfl
theorem fn_query0 (F:Nat) (l:List MailT) (r:AV) (h:(∃ M vs,ARels γ0 M [.p (.list 8 (.dat mailC l)),.p .nil,.p .nil] vs)->Fquery0 F l=some (r,[])):FnP Tryz.prog 16 [.p (.list 8 (.dat mailC l)),.p .nil,.p .nil] r:=
 FnP_run Gquery0 F rfl (EnvOk_mk (l:=[(21,sp_right),(22,sp_opened),(23,sp_holdsN),(26,sp_from0),(27,sp_Fold),(28,sp_subject)]) ⟨ok_right.any,ok_opened.any,ok_holdsN.any,ok_from0.any,ok_Fold.any,ok_subject.any,trivial⟩) (EnvROk_mk (l:=[(29,sp_sst0)]) ⟨ok_sst0,trivial⟩) (Checked.mixed Tryz.checked) (fn:=Tryz.f16) (by kernel_rfl) (by kernel_rfl) rfl h
theorem q0_step (F f:Nat) (l:List MailT) (n i:Int) (acc:List FoundT) (m:MailT) (hi:i < n) (h0:0<=i) (hl:i < l.length) (hn:i<=5) (hg:∀ d,l.getD i.toNat d=m) (ht:m.2.2.1=[]) (ha:acc.length<=5):
 Bquery0_1 F (f+1) l n i acc=Bquery0_1 F f l n (i+1) (acc++[q0el m]):=by
 rw [Bquery0_1_eq]
 refine cond_t (by simpa using hi) (need_mk ⟨h0,hl⟩ ?_)
 simp only [hg]
 obtain ⟨id,th,tx,at_,ke,me,mo,bo⟩:=m
 have ht:tx=[]:=ht
 subst ht
 show Bquery0_2 F f l n i acc id th [] at_ ke me mo bo=_
 rw [Bquery0_2_eq]
 refine need_mk (by decide) (need_mk (fun h=>absurd h (by decide)) (need_mk (fun h=>absurd h (by decide)) (need_mk ?_ (need_mk (by decide) (need_mk (by rw [subj_nil]; decide) (need_mk (by simp; omega) ?_))))))
 .show (splitS [] 0 _).1=[]
  kernel_rfl
 rw [Bquery0_3_eq]
 exact need_mk ⟨by omega,by omega⟩ rfl
theorem q0_step2 (F f:Nat) (n i:Int) (acc:List Int) (l:List FoundT) (hi:i < n) (h0:0<=i) (hl:i < l.length) (hn:i<=5) (m:FoundT) (hg:∀ d,l.getD i.toNat d=m) (ha:acc.length<=5):
 Bquery0_4 F (f+1) n i acc l=Bquery0_4 F f n (i+1) (acc++[m.1.1.1]) l:=by
 rw [Bquery0_4_eq]
 refine cond_t (by simpa using hi) (need_mk ⟨h0,hl⟩ (need_mk (by omega) ?_))
 simp only [hg]
 rw [Bquery0_5_eq]
 exact need_mk (by simp; omega) (need_mk ⟨by omega,by omega⟩ rfl)
theorem sort2_map2 (l:List FoundT) (h:l.length=2) (F:Nat):Bquery0_4 F 3 (2:Int) 0 [] l=some (.p (.list 1 (.dat (.int .i64) (l.map fun x=>x.1.1.1))),[]):=by
 obtain ⟨a,b,rfl⟩:=two_of h
 rw [show (3:Nat)=2+1 from rfl,q0_step2 F 2 2 0 [] [a,b] (by decide) (by decide) (by simp) (by decide) a (fun _=>rfl) (by simp),
  show (2:Nat)=1+1 from rfl,q0_step2 F 1 2 (0+1) _ [a,b] (by decide) (by decide) (by simp) (by decide) b (fun _=>rfl) (by simp)]
 show Bquery0_4 F (0+1) 2 2 _ _=_
 rw [Bquery0_4_eq]
 exact cond_f (by decide) rfl
theorem query0_eq (l:List MailT) (h:q0ok l):Fquery0 3 l=some (.p (.list 1 (.dat (.int .i64) (queryS l))),[]):=by
 obtain ⟨h2,ht⟩:=h
 obtain ⟨a,b,rfl⟩:=two_of h2
 rw [Fquery0_eq]
 show Bquery0_1 3 (2+1) [a,b] (2:Int) 0 []=_
 rw [q0_step 3 2 [a,b] 2 0 [] a (by decide) (by decide) (by simp) (by decide) (fun _=>rfl) (ht a (by simp)) (by simp),
  show (2:Nat)=1+1 from rfl,q0_step 3 1 [a,b] 2 (0+1) _ b (by decide) (by decide) (by simp) (by decide) (fun _=>rfl) (ht b (by simp)) (by simp)]
 show Bquery0_1 3 (0+1) [a,b] 2 2 [q0el a,q0el b]=_
 rw [Bquery0_1_eq]
 refine cond_f (by decide) (need_mk rfl ?_)
 rw [show (((sort2 [q0el a,q0el b]).length:Nat):Int)=2 by rw [sort2_len _ rfl]; rfl]
 exact sort2_map2 _ (sort2_len _ rfl) 3
def sp_query0:List AV->Option (AV×Option Prop)
 | [.p (.list 8 R),.p .nil,.p .nil]=>match pList mailC (.list 8 R) with
  | some l=>some (.p (.list 1 (.dat (.int .i64) (queryS l))),some (q0ok l))
  | none=>none
 | _=>none
theorem ok_query0:SpecOk Tryz.prog 16 sp_query0:=by
 intro zs r ok he hok
 unfold sp_query0 at he
 split at he
 .rename_i R
  split at he
  .rename_i l hl
   cases he
   obtain ⟨rfl,_⟩:=pList_row hl
   exact ⟨by kernel_rfl,fn_query0 3 l _ fun _=>query0_eq l hok⟩
  .cases he
 .cases he
noncomputable def cawake:Code:=bodyOf Tryz.f11
noncomputable def Gawake:Cfg:=⟨Tryz.prog,mkEnv [(16,sp_query0)],mkEnvR [],21,[],[([1,1],⟨[1],[]⟩)],[]⟩
noncomputable def Bawake_1 (F:Nat) (vl1:List Int):Option Ans:=runB Gawake cawake (kP Tryz.prog Tryz.f11.results.toList) F [] [1,1] [(1,.p (.list 1 (.dat (.int .i64) vl1)))] []
noncomputable def Fawake (F:Nat) :Option Ans:=runF Gawake Tryz.f11 F []
theorem Bawake_1_eq (F:Nat) (vl1:List Int):Bawake_1 F vl1=need (((vl1.length:Int)==(2:Int))=true->0<=(0:Int)/\(0:Int) < (vl1.length:Int)) (need ((((vl1.length:Int)==(2:Int))&&((vl1.getD ((0:Int)).toNat (0:Int))==(1:Int)))=true->0<=(1:Int)/\(1:Int) < (vl1.length:Int)) (some (.p (.bool ((((vl1.length:Int)==(2:Int))&&((vl1.getD ((0:Int)).toNat (0:Int))==(1:Int)))&&((vl1.getD ((1:Int)).toNat (0:Int))==(2:Int)))),[]))):=
 Eq.trans (show Bawake_1 F vl1=need (((vl1.length:Int)==(2:Int))=true->((vl1.length:Int)==(2:Int))=true) (need (((vl1.length:Int)==(2:Int))=true->0<=(0:Int)/\(0:Int) < (vl1.length:Int)) (need (((vl1.length:Int)==(2:Int))=true->((vl1.length:Int)==(2:Int))=true) (need (((vl1.length:Int)==(2:Int))=true->((vl1.length:Int)==(2:Int))=true) (need (((vl1.length:Int)==(2:Int))=true->((vl1.length:Int)==(2:Int))=true) (need ((((vl1.length:Int)==(2:Int))&&((vl1.getD ((0:Int)).toNat (0:Int))==(1:Int)))=true->(((vl1.length:Int)==(2:Int))&&((vl1.getD ((0:Int)).toNat (0:Int))==(1:Int)))=true) (need ((((vl1.length:Int)==(2:Int))&&((vl1.getD ((0:Int)).toNat (0:Int))==(1:Int)))=true->0<=(1:Int)/\(1:Int) < (vl1.length:Int)) (need ((((vl1.length:Int)==(2:Int))&&((vl1.getD ((0:Int)).toNat (0:Int))==(1:Int)))=true->(((vl1.length:Int)==(2:Int))&&((vl1.getD ((0:Int)).toNat (0:Int))==(1:Int)))=true) (need ((((vl1.length:Int)==(2:Int))&&((vl1.getD ((0:Int)).toNat (0:Int))==(1:Int)))=true->(((vl1.length:Int)==(2:Int))&&((vl1.getD ((0:Int)).toNat (0:Int))==(1:Int)))=true) (need ((((vl1.length:Int)==(2:Int))&&((vl1.getD ((0:Int)).toNat (0:Int))==(1:Int)))=true->(((vl1.length:Int)==(2:Int))&&((vl1.getD ((0:Int)).toNat (0:Int))==(1:Int)))=true) (some (.p (.bool ((((vl1.length:Int)==(2:Int))&&((vl1.getD ((0:Int)).toNat (0:Int))==(1:Int)))&&((vl1.getD ((1:Int)).toNat (0:Int))==(2:Int)))),[]))))))))))) by kernel_rfl) (need_strike (show ((vl1.length:Int)==(2:Int))=true->((vl1.length:Int)==(2:Int))=true from (fun q0=>q0)) (need_congr (need_strike (show ((vl1.length:Int)==(2:Int))=true->((vl1.length:Int)==(2:Int))=true from (fun q0=>q0)) (need_strike (show ((vl1.length:Int)==(2:Int))=true->((vl1.length:Int)==(2:Int))=true from (fun q0=>q0)) (need_strike (show ((vl1.length:Int)==(2:Int))=true->((vl1.length:Int)==(2:Int))=true from (fun q0=>q0)) (need_strike (show (((vl1.length:Int)==(2:Int))&&((vl1.getD ((0:Int)).toNat (0:Int))==(1:Int)))=true->(((vl1.length:Int)==(2:Int))&&((vl1.getD ((0:Int)).toNat (0:Int))==(1:Int)))=true from (fun q0=>q0)) (need_congr (need_strike (show (((vl1.length:Int)==(2:Int))&&((vl1.getD ((0:Int)).toNat (0:Int))==(1:Int)))=true->(((vl1.length:Int)==(2:Int))&&((vl1.getD ((0:Int)).toNat (0:Int))==(1:Int)))=true from (fun q0=>q0)) (need_strike (show (((vl1.length:Int)==(2:Int))&&((vl1.getD ((0:Int)).toNat (0:Int))==(1:Int)))=true->(((vl1.length:Int)==(2:Int))&&((vl1.getD ((0:Int)).toNat (0:Int))==(1:Int)))=true from (fun q0=>q0)) (need_strike (show (((vl1.length:Int)==(2:Int))&&((vl1.getD ((0:Int)).toNat (0:Int))==(1:Int)))=true->(((vl1.length:Int)==(2:Int))&&((vl1.getD ((0:Int)).toNat (0:Int))==(1:Int)))=true from (fun q0=>q0)) (rfl)))))))))))
theorem Fawake_eq (F:Nat) :Fawake F =need (q0ok ([((2:Int),((0:Int),(([]:List UInt8),((0:Int),([],([],((0:Int),(0:Int)))))))),((1:Int),((0:Int),(([]:List UInt8),((0:Int),([],([],((0:Int),(0:Int))))))))]:List MailT)) (Bawake_1 F (queryS ([((2:Int),((0:Int),(([]:List UInt8),((0:Int),([],([],((0:Int),(0:Int)))))))),((1:Int),((0:Int),(([]:List UInt8),((0:Int),([],([],((0:Int),(0:Int))))))))]:List MailT))):=by kernel_rfl
theorem fn_awake (F:Nat)  (r:AV) (h:(∃ M vs,ARels γ0 M [] vs)->Fawake F =some (r,[])):FnP Tryz.prog 11 [] r:=
 FnP_run Gawake F rfl (EnvOk_mk (l:=[(16,sp_query0)]) ⟨ok_query0.any,trivial⟩) (EnvROk_mk (l:=[]) trivial) (Checked.mixed Tryz.checked) (fn:=Tryz.f11) (by kernel_rfl) (by kernel_rfl) rfl h
theorem awake_eq:Fawake 0=some (.p (.bool true),[]):=by
 rw [Fawake_eq]
 refine need_mk ⟨rfl,?_⟩ ?_
 .intro m hm
  simp only [List.mem_cons,List.not_mem_nil,or_false] at hm
  rcases hm with rfl | rfl <;> rfl
 .have hq:queryS [((2:Int),((0:Int),(([]:List UInt8),((0:Int),([],([],((0:Int),(0:Int)))))))),((1:Int),((0:Int),(([]:List UInt8),((0:Int),([],([],((0:Int),(0:Int))))))))]=[1,2]:=by
   unfold queryS
   rw [List.map_cons,List.map_cons,List.map_nil,sort2,q0id,q0id,if_pos (by decide),List.map_cons,List.map_cons,List.map_nil,q0id,q0id]
  rw [hq,Bawake_1_eq]
  exact need_mk (fun _=>by decide) (need_mk (fun _=>by decide) rfl)
def sp_awake:List AV->Option (AV×Option Prop)
 | []=>some (.p (.bool true),none)
 | _=>none
theorem ok_awake:SpecOk Tryz.prog 11 sp_awake:=by
 intro zs r ok he hok
 unfold sp_awake at he
 split at he
 .cases he; exact ⟨by kernel_rfl,fn_awake 0  _ fun hx=>awake_eq ⟩
 .cases he
end Go.Proofs.YtampckbjinodgaaGreatDoor
namespace Go.Proofs.YtampckbjinodgaaGreatDoor
open Go Go.Am
set_option linter.unusedVariables false
def Lq (x y:AV):Prop:=∀ (M:Mem) (v:Value),ARel γ0 M x v->ARel γ0 M y v
def Lqs:List AV->List AV->Prop
 | [],[]=>True
 | x::xs,y::ys=>Lq x y/\Lqs xs ys
 | _,_=>False
theorem Lq.refl (x:AV):Lq x x:=fun _ _ h=>h
theorem Lqs.get:∀ {xs ys:List AV},Lqs xs ys->xs.length=ys.length/\∀ i,i < xs.length->Lq (xs.getD i .any) (ys.getD i .any)
 | [],[],_=>⟨rfl,fun i hi=>absurd hi (by simp)⟩
 | x :: xs, y :: ys, h => ⟨by simp [h.2.get.1], fun i hi => by
     cases i with
     | zero=>exact h.1
     | succ i=>exact h.2.get.2 i (by simpa using hi)⟩
theorem Lqs.args {M:Mem}:∀ {xs ys:List AV} {vs:List Value},Lqs xs ys->ARels γ0 M xs vs->ARels γ0 M ys vs
 | [],[],_,_,h=>h
 | x::xs,y::ys,_,q,h=>by
  cases h with | cons h1 h2=>exact .cons (q.1 _ _ h1) (q.2.args h2)
theorem FnP.lq {P:Program} {f:FuncId} {xs ys:List AV} {r:AV} (h:Lqs xs ys) (k:FnP P f ys r):FnP P f xs r:=FnP_args (fun _ _ hv=>h.args hv) k
theorem Lq.agg {xs ys:List AV} (h:Lqs xs ys):Lq (.agg xs) (.agg ys):=by
 intro M v hv
 obtain ⟨vs,rfl,hs,ht⟩:=hv.agg_inv
 obtain ⟨hl,hg⟩:=h.get
 exact .agg _ _ (by rw [hs,hl]) fun i hi=>hg i (by rw [hl]; exact hi) _ _ (ht i (by rw [hl]; exact hi))
theorem Lq.clo {fn:Fn} {xs ys:List AV} (h:Lqs xs ys):Lq (.clo fn [] xs) (.clo fn [] ys):=by
 intro M v hv
 cases hv with | clo _ _ _ vf vc hf hc h1 h2=>
 obtain ⟨hl,hg⟩:=h.get
 exact .clo _ _ _ _ _ hf (by rw [hc,hl]) h1 fun i hi=>hg i (by rw [hl]; exact hi) _ _ (h2 i (by rw [hl]; exact hi))
theorem Lq.box {c:Ec} {f:Nat->PV} {x:Elt c} (h:toDat c (rangeL f (wid c) 0)=some x):Lq (.p (.box (wid c) f)) (.p (.box (wid c) (cell c x))):=fun _ _ hv=>box_arg h hv
theorem Lq.list {a:Ec} {x:PV} {l:List (Elt a)} (h:pList a x=some l):Lq (.p x) (.p (.list (wid a) (.dat a l))):=by
 intro M v hv
 cases x with
 | nil=>cases h; exact ARel.nil_list (R:=.dat a []) rfl hv
 | list k R=>obtain ⟨rfl,rfl⟩:=pList_row h; exact hv
 | _=>cases h
abbrev mbC:Ec:=.pair (.int .i64) (.int .i64)
def idxP {α:Type} (p:α->Bool):List α->Int
 | []=>-1
 | x::r=>if p x=true then 0 else if idxP p r=-1 then -1 else idxP p r+1
theorem idxP_ge {α:Type} (p:α->Bool):∀ l:List α,-1<=idxP p l
 | []=>by simp [idxP]
 | x::r=>by
  have:=idxP_ge p r
  rw [idxP]; split
  .decide
  .split <;> omega
theorem idxP_any {α:Type} (p:α->Bool):∀ l:List α,decide (idxP p l>=(0:Int))=l.any p
 | []=>by simp [idxP]
 | x::r=>by
  have h:=idxP_any p r
  have hg:=idxP_ge p r
  rw [idxP,List.any_cons,<-h]
  by_cases hx:p x=true
  .rw [if_pos hx,hx]; simp
  .rw [if_neg hx]
   have hx:p x=false:=by simpa using hx
   rw [hx,Bool.false_or]
   split
   .rename_i h2; rw [h2]
   .congr 1; simp only [ge_iff_le,eq_iff_iff]; omega
theorem idx_loop {α:Type} (d:α) (l:List α) (p:α->Bool) (B:Nat->Int->Option Ans)
 (h1:∀ (f i:Nat),i < l.length->B (f+1) i=cond (p (l.getD i d)) (some (.p (.int .i64 i),[])) (B f ((i:Int)+1)))
 (h0:∀ f:Nat,B (f+1) l.length=some (.p (.int .i64 (-1)),[])):
 ∀ (r:List α) (i:Nat),l.drop i=r->i+r.length=l.length->B (r.length+1) i=some (.p (.int .i64 (if idxP p r=-1 then -1 else i+idxP p r)),[])
 | [],i,_,hl=>by
  have:i=l.length:=by simpa using hl
  subst this
  rw [h0]; rfl
 | x::r,i,hd,hl=>by
  have hi:i < l.length:=by simp at hl; omega
  have hx:l.getD i d=x:=by
   rw [List.getD_eq_getElem?_getD,<-List.head?_drop,hd]; rfl
  rw [List.length_cons,h1 _ _ hi,hx,idxP]
  by_cases hp:p x=true
  .rw [hp,if_pos rfl]; simp
  .have hp:p x=false:=by simpa using hp
   rw [hp]
   have hr:=idx_loop d l p B h1 h0 r (i+1) (by rw [<-List.tail_drop,hd]; rfl) (by simp at hl; omega)
   have hg:=idxP_ge p r
   show B (r.length+1) ((i:Int)+1)=_
   rw [show ((i:Int)+1)=((i+1:Nat):Int) by omega,hr]
   simp only [Bool.false_eq_true,if_false]
   by_cases hm:idxP p r=-1
   .rw [if_pos hm,if_pos hm,if_pos rfl]
   .rw [if_neg hm,if_neg hm,if_neg (by omega)]
    congr 4; omega
theorem idx_all {α:Type} (d:α) (l:List α) (p:α->Bool) (B:Nat->Int->Option Ans)
 (h1:∀ (f i:Nat),i < l.length->B (f+1) i=cond (p (l.getD i d)) (some (.p (.int .i64 i),[])) (B f ((i:Int)+1)))
 (h0:∀ f:Nat,B (f+1) l.length=some (.p (.int .i64 (-1)),[])) (hl:l.length<=1000000):B (l.length+1) 0=some (.p (.int .i64 (idxP p l)),[]):=by
 have h:=idx_loop d l p B h1 h0 l 0 rfl (by simp)
 have e:(if idxP p l=-1 then (-1:Int) else ((0:Nat):Int)+idxP p l)=idxP p l:=by split <;> omega
 rw [e] at h
 exact h
def inP (b:Int) (o:Bool) (x:Int×Int):Bool:=(x.1==b) != o
def uP (x r:Int×Int):Bool:=decide (x.2>=r.1)&&decide (x.2<=r.2)
def wiP (b:Int) (st:List (Int×Int)) (x:Int×Int):Bool:=(x.1==b)&&st.any (uP x)
noncomputable def Ginside1:Cfg:=⟨Tryz.prog,mkEnv [],mkEnvR [],11,[],[],[]⟩
noncomputable def Finside1 (F:Nat) (x:Int×Int) (b:Int) (o:Bool):Option Ans:=runF Ginside1 Tryz.f60 F [.agg [.p (.int .i64 x.1),.p (.int .i64 x.2)],.p (.box 1 (cell (.int .i64) b)),.p (.box 1 (cell .bool o))]
theorem Finside1_eq (F:Nat) (x:Int×Int) (b:Int) (o:Bool):Finside1 F x b o=some (.p (.bool ((x.1==b) != o)),[]):=by kernel_rfl
theorem fn_inside1 (F:Nat) (x:Int×Int) (b:Int) (o:Bool) (r:AV) (h:(∃ M vs,ARels γ0 M [.agg [.p (.int .i64 x.1),.p (.int .i64 x.2)],.p (.box 1 (cell (.int .i64) b)),.p (.box 1 (cell .bool o))] vs)->Finside1 F x b o=some (r,[])):FnP Tryz.prog 60 [.agg [.p (.int .i64 x.1),.p (.int .i64 x.2)],.p (.box 1 (cell (.int .i64) b)),.p (.box 1 (cell .bool o))] r:=
 FnP_run Ginside1 F rfl (EnvOk_mk (l:=[]) trivial) (EnvROk_mk (l:=[]) trivial) (Checked.mixed Tryz.checked) (fn:=Tryz.f60) (by kernel_rfl) (by kernel_rfl) rfl h
def sp_inside1:List AV->Option (AV×Option Prop)
 | [.agg [.p (.int .i64 a),.p (.int .i64 c)],.p (.box 1 f),.p (.box 1 g)]=>match toDat (.int .i64) (rangeL f 1 0),toDat .bool (rangeL g 1 0) with
  | some b,some o=>some (.p (.bool (inP b o (a,c))),none)
  | _,_=>none
 | _=>none
theorem ok_inside1:SpecOk Tryz.prog 60 sp_inside1:=by
 intro zs r ok he hok
 unfold sp_inside1 at he
 split at he
 .rename_i a c f g
  split at he
  .rename_i b o hb ho
   cases he
   exact ⟨by kernel_rfl,FnP.lq (ys:=[.agg [.p (.int .i64 a),.p (.int .i64 c)],.p (.box 1 (cell (.int .i64) b)),.p (.box 1 (cell .bool o))]) ⟨Lq.refl _,Lq.box (c:=.int .i64) hb,Lq.box (c:=.bool) ho,trivial⟩
    (fn_inside1 0 (a,c) b o _ fun _=>by rw [Finside1_eq]; rfl)⟩
  .cases he
 .cases he
noncomputable def Gwithin11:Cfg:=⟨Tryz.prog,mkEnv [],mkEnvR [],16,[],[],[]⟩
noncomputable def Fwithin11 (F:Nat) (rg:Int×Int) (x:Int×Int):Option Ans:=runF Gwithin11 Tryz.f66 F [.agg [.p (.int .i64 rg.1),.p (.int .i64 rg.2)],.p (.box 2 (cell (.pair (.int .i64) (.int .i64)) x))]
theorem Fwithin11_eq (F:Nat) (rg:Int×Int) (x:Int×Int):Fwithin11 F rg x=(((((some (.p (.bool ((decide (x.2>=rg.1))&&(decide (x.2<=rg.2)))),[])))))):=by
 have h:Fwithin11 F rg x=need ((decide (x.2>=rg.1))=true->(decide (x.2>=rg.1))=true) (need ((decide (x.2>=rg.1))=true->(decide (x.2>=rg.1))=true) (need ((decide (x.2>=rg.1))=true->(decide (x.2>=rg.1))=true) (need ((decide (x.2>=rg.1))=true->(decide (x.2>=rg.1))=true) (need ((decide (x.2>=rg.1))=true->(decide (x.2>=rg.1))=true) (some (.p (.bool ((decide (x.2>=rg.1))&&(decide (x.2<=rg.2)))),[])))))):=by kernel_rfl
 rw [h,need_pos (show (decide (x.2>=rg.1))=true->(decide (x.2>=rg.1))=true from (fun q0=>q0)),need_pos (show (decide (x.2>=rg.1))=true->(decide (x.2>=rg.1))=true from (fun q0=>q0)),need_pos (show (decide (x.2>=rg.1))=true->(decide (x.2>=rg.1))=true from (fun q0=>q0)),need_pos (show (decide (x.2>=rg.1))=true->(decide (x.2>=rg.1))=true from (fun q0=>q0)),need_pos (show (decide (x.2>=rg.1))=true->(decide (x.2>=rg.1))=true from (fun q0=>q0))]
theorem fn_within11 (F:Nat) (rg:Int×Int) (x:Int×Int) (r:AV) (h:(∃ M vs,ARels γ0 M [.agg [.p (.int .i64 rg.1),.p (.int .i64 rg.2)],.p (.box 2 (cell (.pair (.int .i64) (.int .i64)) x))] vs)->Fwithin11 F rg x=some (r,[])):FnP Tryz.prog 66 [.agg [.p (.int .i64 rg.1),.p (.int .i64 rg.2)],.p (.box 2 (cell (.pair (.int .i64) (.int .i64)) x))] r:=
 FnP_run Gwithin11 F rfl (EnvOk_mk (l:=[]) trivial) (EnvROk_mk (l:=[]) trivial) (Checked.mixed Tryz.checked) (fn:=Tryz.f66) (by kernel_rfl) (by kernel_rfl) rfl h
def sp_within11:List AV->Option (AV×Option Prop)
 | [.agg [.p (.int .i64 a),.p (.int .i64 c)],.p (.box 2 f)]=>match toDat mbC (rangeL f 2 0) with
  | some x=>some (.p (.bool (uP x (a,c))),none)
  | none=>none
 | _=>none
theorem ok_within11:SpecOk Tryz.prog 66 sp_within11:=by
 intro zs r ok he hok
 unfold sp_within11 at he
 split at he
 .rename_i a c f
  split at he
  .rename_i x hx
   cases he
   exact ⟨by kernel_rfl,FnP.lq (ys:=[.agg [.p (.int .i64 a),.p (.int .i64 c)],.p (.box 2 (cell mbC x))]) ⟨Lq.refl _,Lq.box (c:=mbC) hx,trivial⟩
    (fn_within11 0 (a,c) x _ fun _=>by rw [Fwithin11_eq]; rfl)⟩
  .cases he
 .cases he
noncomputable def cidxR:Code:=bodyOf Tryz.f102
noncomputable def GidxR:Cfg:=⟨Tryz.prog,mkEnv [(66,sp_within11)],mkEnvR [],19,[],[([0,1,0,1],⟨[0,1,7,8],[]⟩),([1,1,0,0,1,1,0,0,1,0,1],⟨[0,1,5,7,8,16],[]⟩)],[]⟩
noncomputable def BidxR_1 (F f1:Nat) (l:List (Int×Int)) (x:Int×Int) (vi1 vi2:Int):Option Ans:=runR GidxR cidxR (kP Tryz.prog Tryz.f102.results.toList) F [] [1,0,1,0] f1 [(0,.p (.list 2 (.dat (.pair (.int .i64) (.int .i64)) l))),(1,.clo (.func 66) [] [.p (.box 2 (cell (.pair (.int .i64) (.int .i64)) x))]),(7,.p (.int .i64 vi1)),(8,.p (.int .i64 vi2))] []
noncomputable def BidxR_2 (F f1:Nat) (l:List (Int×Int)) (x:Int×Int) (vi2 vi1:Int) (vc3:Bool):Option Ans:=runB GidxR cidxR (kP Tryz.prog Tryz.f102.results.toList) F [f1] [1,0,1,0,0,1,1,0,0,1,1] [(0,.p (.list 2 (.dat (.pair (.int .i64) (.int .i64)) l))),(1,.clo (.func 66) [] [.p (.box 2 (cell (.pair (.int .i64) (.int .i64)) x))]),(5,.p (.int .i64 vi2)),(7,.p (.int .i64 vi1)),(8,.p (.int .i64 vi2)),(16,.p (.bool vc3))] []
noncomputable def FidxR (F:Nat) (l:List (Int×Int)) (x:Int×Int):Option Ans:=runF GidxR Tryz.f102 F [.p (.list 2 (.dat (.pair (.int .i64) (.int .i64)) l)),.clo (.func 66) [] [.p (.box 2 (cell (.pair (.int .i64) (.int .i64)) x))]]
theorem BidxR_1_eq (F f1:Nat) (l:List (Int×Int)) (x:Int×Int) (vi1 vi2:Int):BidxR_1 F (f1+1) l x vi1 vi2=cond (decide (vi2 < vi1)) (need (0<=vi2/\vi2 < (l.length:Int)) (BidxR_2 F f1 l x vi2 vi1 (uP x (((l.getD (vi2).toNat ((0:Int),(0:Int))).1),((l.getD (vi2).toNat ((0:Int),(0:Int))).2))))) (some (.p (.int .i64 (-1:Int)),[])):=by kernel_rfl
theorem BidxR_2_eq (F f1:Nat) (l:List (Int×Int)) (x:Int×Int) (vi2 vi1:Int) (vc3:Bool):BidxR_2 F f1 l x vi2 vi1 vc3=cond (vc3) (some (.p (.int .i64 vi2),[])) (need (i64ok (vi2+(1:Int))) (BidxR_1 F f1 l x vi1 (vi2+(1:Int)))):=by kernel_rfl
theorem FidxR_eq (F:Nat) (l:List (Int×Int)) (x:Int×Int):FidxR F l x=BidxR_1 F F l x (l.length:Int) (0:Int):=by kernel_rfl
theorem fn_idxR (F:Nat) (l:List (Int×Int)) (x:Int×Int) (r:AV) (h:(∃ M vs,ARels γ0 M [.p (.list 2 (.dat (.pair (.int .i64) (.int .i64)) l)),.clo (.func 66) [] [.p (.box 2 (cell (.pair (.int .i64) (.int .i64)) x))]] vs)->FidxR F l x=some (r,[])):FnP Tryz.prog 102 [.p (.list 2 (.dat (.pair (.int .i64) (.int .i64)) l)),.clo (.func 66) [] [.p (.box 2 (cell (.pair (.int .i64) (.int .i64)) x))]] r:=
 FnP_run GidxR F rfl (EnvOk_mk (l:=[(66,sp_within11)]) ⟨ok_within11.any,trivial⟩) (EnvROk_mk (l:=[]) trivial) (Checked.mixed Tryz.checked) (fn:=Tryz.f102) (by kernel_rfl) (by kernel_rfl) rfl h
theorem idxR_eq (l:List (Int×Int)) (x:Int×Int) (hl:l.length<=1000000):FidxR (l.length+1) l x=some (.p (.int .i64 (idxP (uP x) l)),[]):=by
 rw [FidxR_eq]
 refine idx_all ((0:Int),(0:Int)) l (uP x) (fun f i=>BidxR_1 (l.length+1) f l x (l.length:Int) i) (fun f i hi=>?_) (fun f=>?_) hl
 .show BidxR_1 (l.length+1) (f+1) l x (l.length:Int) (i:Int)=_
  rw [BidxR_1_eq]
  refine cond_t (by simpa using hi) (need_mk ⟨by omega,by simpa using hi⟩ ?_)
  rw [BidxR_2_eq]
  show cond (uP x (l.getD i ((0:Int),(0:Int)))) _ _=_
  cases uP x (l.getD i ((0:Int),(0:Int))) with
  | true=>rfl
  | false=>exact need_mk ⟨by omega,by omega⟩ rfl
 .show BidxR_1 (l.length+1) (f+1) l x (l.length:Int) (l.length:Int)=_
  rw [BidxR_1_eq]
  exact cond_f (by simp) rfl
def sp_idxRange:List AV->Option (AV×Option Prop)
 | [.p l,.clo (.func 66) [] [.p (.box 2 f)]]=>match pList mbC l,toDat mbC (rangeL f 2 0) with
  | some l,some x=>some (.p (.int .i64 (idxP (uP x) l)),some (l.length<=1000000))
  | _,_=>none
 | _=>none
theorem ok_idxRange:SpecOk Tryz.prog 102 sp_idxRange:=by
 intro zs r ok he hok
 unfold sp_idxRange at he
 split at he
 .rename_i l' f
  split at he
  .rename_i l x hl hx
   cases he
   have hok:l.length<=1000000:=hok
   exact ⟨by kernel_rfl,FnP.lq (ys:=[.p (.list 2 (.dat mbC l)),.clo (.func 66) [] [.p (.box 2 (cell mbC x))]]) ⟨Lq.list (a:=mbC) hl,Lq.clo ⟨Lq.box (c:=mbC) hx,trivial⟩,trivial⟩
    (fn_idxR (l.length+1) l x _ fun _=>idxR_eq l x hok)⟩
  .cases he
 .cases he
noncomputable def GctnR:Cfg:=⟨Tryz.prog,mkEnv [(102,sp_idxRange)],mkEnvR [],9,[],[],[]⟩
noncomputable def FctnR (F:Nat) (l:List (Int×Int)) (x:Int×Int):Option Ans:=runF GctnR Tryz.f65 F [.p (.list 2 (.dat (.pair (.int .i64) (.int .i64)) l)),.clo (.func 66) [] [.p (.box 2 (cell (.pair (.int .i64) (.int .i64)) x))]]
theorem FctnR_eq (F:Nat) (l:List (Int×Int)) (x:Int×Int):FctnR F l x=need (l.length<=1000000) (some (.p (.bool (decide ((idxP (uP x) l)>=(0:Int)))),[])):=by kernel_rfl
theorem fn_ctnR (F:Nat) (l:List (Int×Int)) (x:Int×Int) (r:AV) (h:(∃ M vs,ARels γ0 M [.p (.list 2 (.dat (.pair (.int .i64) (.int .i64)) l)),.clo (.func 66) [] [.p (.box 2 (cell (.pair (.int .i64) (.int .i64)) x))]] vs)->FctnR F l x=some (r,[])):FnP Tryz.prog 65 [.p (.list 2 (.dat (.pair (.int .i64) (.int .i64)) l)),.clo (.func 66) [] [.p (.box 2 (cell (.pair (.int .i64) (.int .i64)) x))]] r:=
 FnP_run GctnR F rfl (EnvOk_mk (l:=[(102,sp_idxRange)]) ⟨ok_idxRange.any,trivial⟩) (EnvROk_mk (l:=[]) trivial) (Checked.mixed Tryz.checked) (fn:=Tryz.f65) (by kernel_rfl) (by kernel_rfl) rfl h
theorem ctnR_eq (l:List (Int×Int)) (x:Int×Int) (hl:l.length<=1000000):FctnR 0 l x=some (.p (.bool (l.any (uP x))),[]):=by
 rw [FctnR_eq,<-idxP_any]
 exact need_mk hl rfl
def sp_ctnRange:List AV->Option (AV×Option Prop)
 | [.p l,.clo (.func 66) [] [.p (.box 2 f)]]=>match pList mbC l,toDat mbC (rangeL f 2 0) with
  | some l,some x=>some (.p (.bool (l.any (uP x))),some (l.length<=1000000))
  | _,_=>none
 | _=>none
theorem ok_ctnRange:SpecOk Tryz.prog 65 sp_ctnRange:=by
 intro zs r ok he hok
 unfold sp_ctnRange at he
 split at he
 .rename_i l' f
  split at he
  .rename_i l x hl hx
   cases he
   have hok:l.length<=1000000:=hok
   exact ⟨by kernel_rfl,FnP.lq (ys:=[.p (.list 2 (.dat mbC l)),.clo (.func 66) [] [.p (.box 2 (cell mbC x))]]) ⟨Lq.list (a:=mbC) hl,Lq.clo ⟨Lq.box (c:=mbC) hx,trivial⟩,trivial⟩
    (fn_ctnR 0 l x _ fun _=>ctnR_eq l x hok)⟩
  .cases he
 .cases he
noncomputable def Gwithin1:Cfg:=⟨Tryz.prog,mkEnv [(65,sp_ctnRange)],mkEnvR [],14,[],[],[([888888,1],[3,46])]⟩
noncomputable def Fwithin1 (F:Nat) (x:Int×Int) (b:Int) (st:List (Int×Int)):Option Ans:=runF Gwithin1 Tryz.f64 F [.agg [.p (.int .i64 x.1),.p (.int .i64 x.2)],.p (.box 1 (cell (.int .i64) b)),.p (.box 1 (cell (.list (.pair (.int .i64) (.int .i64))) st))]
theorem Fwithin1_eq (F:Nat) (x:Int×Int) (b:Int) (st:List (Int×Int)):Fwithin1 F x b st=((need ((x.1==b)=true->st.length<=1000000) ((some (.p (.bool ((x.1==b)&&(st.any (uP (x.1,x.2))))),[]))))):=by
 have h:Fwithin1 F x b st=need ((x.1==b)=true->(x.1==b)=true) (need ((x.1==b)=true->(x.1==b)=true) (need ((x.1==b)=true->st.length<=1000000) (need ((x.1==b)=true->(x.1==b)=true) (some (.p (.bool ((x.1==b)&&(st.any (uP (x.1,x.2))))),[]))))):=by kernel_rfl
 rw [h,need_pos (show (x.1==b)=true->(x.1==b)=true from (fun q0=>q0)),need_pos (show (x.1==b)=true->(x.1==b)=true from (fun q0=>q0)),need_pos (show (x.1==b)=true->(x.1==b)=true from (fun q0=>q0))]
theorem fn_within1 (F:Nat) (x:Int×Int) (b:Int) (st:List (Int×Int)) (r:AV) (h:(∃ M vs,ARels γ0 M [.agg [.p (.int .i64 x.1),.p (.int .i64 x.2)],.p (.box 1 (cell (.int .i64) b)),.p (.box 1 (cell (.list (.pair (.int .i64) (.int .i64))) st))] vs)->Fwithin1 F x b st=some (r,[])):FnP Tryz.prog 64 [.agg [.p (.int .i64 x.1),.p (.int .i64 x.2)],.p (.box 1 (cell (.int .i64) b)),.p (.box 1 (cell (.list (.pair (.int .i64) (.int .i64))) st))] r:=
 FnP_run Gwithin1 F rfl (EnvOk_mk (l:=[(65,sp_ctnRange)]) ⟨ok_ctnRange.any,trivial⟩) (EnvROk_mk (l:=[]) trivial) (Checked.mixed Tryz.checked) (fn:=Tryz.f64) (by kernel_rfl) (by kernel_rfl) rfl h
def sp_within1:List AV->Option (AV×Option Prop)
 | [.agg [.p (.int .i64 a),.p (.int .i64 c)],.p (.box 1 f),.p (.box 1 g)]=>match toDat (.int .i64) (rangeL f 1 0),toDat (.list mbC) (rangeL g 1 0) with
  | some b,some st=>some (.p (.bool (wiP b st (a,c))),some (List.length (α:=Int×Int) st<=1000000))
  | _,_=>none
 | _=>none
theorem ok_within1:SpecOk Tryz.prog 64 sp_within1:=by
 intro zs r ok he hok
 unfold sp_within1 at he
 split at he
 .rename_i a c f g
  split at he
  .rename_i b st hb hs
   cases he
   exact ⟨by kernel_rfl,FnP.lq (ys:=[.agg [.p (.int .i64 a),.p (.int .i64 c)],.p (.box 1 (cell (.int .i64) b)),.p (.box 1 (cell (.list mbC) st))]) ⟨Lq.refl _,Lq.box (c:=.int .i64) hb,Lq.box (c:=.list mbC) hs,trivial⟩
    (fn_within1 0 (a,c) b st _ fun _=>by rw [Fwithin1_eq]; exact need_mk (fun _=>hok) rfl)⟩
  .cases he
 .cases he
noncomputable def cidxMi:Code:=bodyOf Tryz.f100
noncomputable def GidxMi:Cfg:=⟨Tryz.prog,mkEnv [(60,sp_inside1)],mkEnvR [],19,[],[([0,1,0,1],⟨[0,1,7,8],[]⟩),([1,1,0,0,1,1,0,0,1,0,1],⟨[0,1,5,7,8,16],[]⟩)],[]⟩
noncomputable def BidxMi_1 (F f1:Nat) (l:List (Int×Int)) (b:Int) (o:Bool) (vi1 vi2:Int):Option Ans:=runR GidxMi cidxMi (kP Tryz.prog Tryz.f100.results.toList) F [] [1,0,1,0] f1 [(0,.p (.list 2 (.dat (.pair (.int .i64) (.int .i64)) l))),(1,.clo (.func 60) [] [.p (.box 1 (cell (.int .i64) b)),.p (.box 1 (cell .bool o))]),(7,.p (.int .i64 vi1)),(8,.p (.int .i64 vi2))] []
noncomputable def BidxMi_2 (F f1:Nat) (l:List (Int×Int)) (b:Int) (o:Bool) (vi2 vi1:Int) (vc3:Bool):Option Ans:=runB GidxMi cidxMi (kP Tryz.prog Tryz.f100.results.toList) F [f1] [1,0,1,0,0,1,1,0,0,1,1] [(0,.p (.list 2 (.dat (.pair (.int .i64) (.int .i64)) l))),(1,.clo (.func 60) [] [.p (.box 1 (cell (.int .i64) b)),.p (.box 1 (cell .bool o))]),(5,.p (.int .i64 vi2)),(7,.p (.int .i64 vi1)),(8,.p (.int .i64 vi2)),(16,.p (.bool vc3))] []
noncomputable def FidxMi (F:Nat) (l:List (Int×Int)) (b:Int) (o:Bool):Option Ans:=runF GidxMi Tryz.f100 F [.p (.list 2 (.dat (.pair (.int .i64) (.int .i64)) l)),.clo (.func 60) [] [.p (.box 1 (cell (.int .i64) b)),.p (.box 1 (cell .bool o))]]
theorem BidxMi_1_eq (F f1:Nat) (l:List (Int×Int)) (b:Int) (o:Bool) (vi1 vi2:Int):BidxMi_1 F (f1+1) l b o vi1 vi2=cond (decide (vi2 < vi1)) (need (0<=vi2/\vi2 < (l.length:Int)) (BidxMi_2 F f1 l b o vi2 vi1 (inP b o (((l.getD (vi2).toNat ((0:Int),(0:Int))).1),((l.getD (vi2).toNat ((0:Int),(0:Int))).2))))) (some (.p (.int .i64 (-1:Int)),[])):=by kernel_rfl
theorem BidxMi_2_eq (F f1:Nat) (l:List (Int×Int)) (b:Int) (o:Bool) (vi2 vi1:Int) (vc3:Bool):BidxMi_2 F f1 l b o vi2 vi1 vc3=cond (vc3) (some (.p (.int .i64 vi2),[])) (need (i64ok (vi2+(1:Int))) (BidxMi_1 F f1 l b o vi1 (vi2+(1:Int)))):=by kernel_rfl
theorem FidxMi_eq (F:Nat) (l:List (Int×Int)) (b:Int) (o:Bool):FidxMi F l b o=BidxMi_1 F F l b o (l.length:Int) (0:Int):=by kernel_rfl
theorem fn_idxMi (F:Nat) (l:List (Int×Int)) (b:Int) (o:Bool) (r:AV) (h:(∃ M vs,ARels γ0 M [.p (.list 2 (.dat (.pair (.int .i64) (.int .i64)) l)),.clo (.func 60) [] [.p (.box 1 (cell (.int .i64) b)),.p (.box 1 (cell .bool o))]] vs)->FidxMi F l b o=some (r,[])):FnP Tryz.prog 100 [.p (.list 2 (.dat (.pair (.int .i64) (.int .i64)) l)),.clo (.func 60) [] [.p (.box 1 (cell (.int .i64) b)),.p (.box 1 (cell .bool o))]] r:=
 FnP_run GidxMi F rfl (EnvOk_mk (l:=[(60,sp_inside1)]) ⟨ok_inside1.any,trivial⟩) (EnvROk_mk (l:=[]) trivial) (Checked.mixed Tryz.checked) (fn:=Tryz.f100) (by kernel_rfl) (by kernel_rfl) rfl h
theorem idxMi_eq (l:List (Int×Int)) (b:Int) (o:Bool) (hl:l.length<=1000000):FidxMi (l.length+1) l b o=some (.p (.int .i64 (idxP (inP b o) l)),[]):=by
 rw [FidxMi_eq]
 refine idx_all ((0:Int),(0:Int)) l (inP b o) (fun f i=>BidxMi_1 (l.length+1) f l b o (l.length:Int) i) (fun f i hi=>?_) (fun f=>?_) hl
 .show BidxMi_1 (l.length+1) (f+1) l b o (l.length:Int) (i:Int)=_
  rw [BidxMi_1_eq]
  refine cond_t (by simpa using hi) (need_mk ⟨by omega,by simpa using hi⟩ ?_)
  rw [BidxMi_2_eq]
  show cond (inP b o (l.getD i ((0:Int),(0:Int)))) _ _=_
  cases inP b o (l.getD i ((0:Int),(0:Int))) with
  | true=>rfl
  | false=>exact need_mk ⟨by omega,by omega⟩ rfl
 .show BidxMi_1 (l.length+1) (f+1) l b o (l.length:Int) (l.length:Int)=_
  rw [BidxMi_1_eq]
  exact cond_f (by simp) rfl
noncomputable def cidxMw:Code:=bodyOf Tryz.f100
noncomputable def GidxMw:Cfg:=⟨Tryz.prog,mkEnv [(64,sp_within1)],mkEnvR [],19,[],[([0,1,0,1],⟨[0,1,7,8],[]⟩),([1,1,0,0,1,1,0,0,1,0,1],⟨[0,1,5,7,8,16],[]⟩)],[]⟩
noncomputable def BidxMw_1 (F f1:Nat) (l:List (Int×Int)) (b:Int) (st:List (Int×Int)) (vi1 vi2:Int):Option Ans:=runR GidxMw cidxMw (kP Tryz.prog Tryz.f100.results.toList) F [] [1,0,1,0] f1 [(0,.p (.list 2 (.dat (.pair (.int .i64) (.int .i64)) l))),(1,.clo (.func 64) [] [.p (.box 1 (cell (.int .i64) b)),.p (.box 1 (cell (.list (.pair (.int .i64) (.int .i64))) st))]),(7,.p (.int .i64 vi1)),(8,.p (.int .i64 vi2))] []
noncomputable def BidxMw_2 (F f1:Nat) (l:List (Int×Int)) (b:Int) (st:List (Int×Int)) (vi2 vi1:Int) (vc3:Bool):Option Ans:=runB GidxMw cidxMw (kP Tryz.prog Tryz.f100.results.toList) F [f1] [1,0,1,0,0,1,1,0,0,1,1] [(0,.p (.list 2 (.dat (.pair (.int .i64) (.int .i64)) l))),(1,.clo (.func 64) [] [.p (.box 1 (cell (.int .i64) b)),.p (.box 1 (cell (.list (.pair (.int .i64) (.int .i64))) st))]),(5,.p (.int .i64 vi2)),(7,.p (.int .i64 vi1)),(8,.p (.int .i64 vi2)),(16,.p (.bool vc3))] []
noncomputable def FidxMw (F:Nat) (l:List (Int×Int)) (b:Int) (st:List (Int×Int)):Option Ans:=runF GidxMw Tryz.f100 F [.p (.list 2 (.dat (.pair (.int .i64) (.int .i64)) l)),.clo (.func 64) [] [.p (.box 1 (cell (.int .i64) b)),.p (.box 1 (cell (.list (.pair (.int .i64) (.int .i64))) st))]]
theorem BidxMw_1_eq (F f1:Nat) (l:List (Int×Int)) (b:Int) (st:List (Int×Int)) (vi1 vi2:Int):BidxMw_1 F (f1+1) l b st vi1 vi2=cond (decide (vi2 < vi1)) (need (0<=vi2/\vi2 < (l.length:Int)) (need (st.length<=1000000) (BidxMw_2 F f1 l b st vi2 vi1 (wiP b st (((l.getD (vi2).toNat ((0:Int),(0:Int))).1),((l.getD (vi2).toNat ((0:Int),(0:Int))).2)))))) (some (.p (.int .i64 (-1:Int)),[])):=by kernel_rfl
theorem BidxMw_2_eq (F f1:Nat) (l:List (Int×Int)) (b:Int) (st:List (Int×Int)) (vi2 vi1:Int) (vc3:Bool):BidxMw_2 F f1 l b st vi2 vi1 vc3=cond (vc3) (some (.p (.int .i64 vi2),[])) (need (i64ok (vi2+(1:Int))) (BidxMw_1 F f1 l b st vi1 (vi2+(1:Int)))):=by kernel_rfl
theorem FidxMw_eq (F:Nat) (l:List (Int×Int)) (b:Int) (st:List (Int×Int)):FidxMw F l b st=BidxMw_1 F F l b st (l.length:Int) (0:Int):=by kernel_rfl
theorem fn_idxMw (F:Nat) (l:List (Int×Int)) (b:Int) (st:List (Int×Int)) (r:AV) (h:(∃ M vs,ARels γ0 M [.p (.list 2 (.dat (.pair (.int .i64) (.int .i64)) l)),.clo (.func 64) [] [.p (.box 1 (cell (.int .i64) b)),.p (.box 1 (cell (.list (.pair (.int .i64) (.int .i64))) st))]] vs)->FidxMw F l b st=some (r,[])):FnP Tryz.prog 100 [.p (.list 2 (.dat (.pair (.int .i64) (.int .i64)) l)),.clo (.func 64) [] [.p (.box 1 (cell (.int .i64) b)),.p (.box 1 (cell (.list (.pair (.int .i64) (.int .i64))) st))]] r:=
 FnP_run GidxMw F rfl (EnvOk_mk (l:=[(64,sp_within1)]) ⟨ok_within1.any,trivial⟩) (EnvROk_mk (l:=[]) trivial) (Checked.mixed Tryz.checked) (fn:=Tryz.f100) (by kernel_rfl) (by kernel_rfl) rfl h
theorem idxMw_eq (l:List (Int×Int)) (b:Int) (st:List (Int×Int)) (hl:l.length<=1000000) (hc:st.length<=1000000):FidxMw (l.length+1) l b st=some (.p (.int .i64 (idxP (wiP b st) l)),[]):=by
 rw [FidxMw_eq]
 refine idx_all ((0:Int),(0:Int)) l (wiP b st) (fun f i=>BidxMw_1 (l.length+1) f l b st (l.length:Int) i) (fun f i hi=>?_) (fun f=>?_) hl
 .show BidxMw_1 (l.length+1) (f+1) l b st (l.length:Int) (i:Int)=_
  rw [BidxMw_1_eq]
  refine cond_t (by simpa using hi) (need_mk ⟨by omega,by simpa using hi⟩ (need_mk hc ?_))
  rw [BidxMw_2_eq]
  show cond (wiP b st (l.getD i ((0:Int),(0:Int)))) _ _=_
  cases wiP b st (l.getD i ((0:Int),(0:Int))) with
  | true=>rfl
  | false=>exact need_mk ⟨by omega,by omega⟩ rfl
 .show BidxMw_1 (l.length+1) (f+1) l b st (l.length:Int) (l.length:Int)=_
  rw [BidxMw_1_eq]
  exact cond_f (by simp) rfl
def sp_idxMember:List AV->Option (AV×Option Prop)
 | [.p l,.clo (.func n) [] [.p (.box 1 f),.p (.box 1 g)]]=>
  match Nat.beq n 60,Nat.beq n 64 with
  | true,_=>match pList mbC l,toDat (.int .i64) (rangeL f 1 0),toDat .bool (rangeL g 1 0) with
   | some l,some b,some o=>some (.p (.int .i64 (idxP (inP b o) l)),some (l.length<=1000000))
   | _,_,_=>none
  | _,true=>match pList mbC l,toDat (.int .i64) (rangeL f 1 0),toDat (.list mbC) (rangeL g 1 0) with
   | some l,some b,some st=>some (.p (.int .i64 (idxP (wiP b st) l)),some (l.length<=1000000/\List.length (α:=Int×Int) st<=1000000))
   | _,_,_=>none
  | _,_=>none
 | _=>none
theorem ok_idxMember:SpecOk Tryz.prog 100 sp_idxMember:=by
 intro zs r ok he hok
 unfold sp_idxMember at he
 split at he
 .rename_i l' n f g
  split at he
  .rename_i hn
   obtain rfl:=Nat.eq_of_beq_eq_true hn
   split at he
   .rename_i l b o hl hb ho
    cases he
    have hok:l.length<=1000000:=hok
    exact ⟨by kernel_rfl,FnP.lq (ys:=[.p (.list 2 (.dat mbC l)),.clo (.func 60) [] [.p (.box 1 (cell (.int .i64) b)),.p (.box 1 (cell .bool o))]]) ⟨Lq.list (a:=mbC) hl,Lq.clo ⟨Lq.box (c:=.int .i64) hb,Lq.box (c:=.bool) ho,trivial⟩,trivial⟩
     (fn_idxMi (l.length+1) l b o _ fun _=>idxMi_eq l b o hok)⟩
   .cases he
  .rename_i hn _
   obtain rfl:=Nat.eq_of_beq_eq_true hn
   split at he
   .rename_i l b st hl hb hs
    cases he
    obtain ⟨hok,hst⟩:l.length<=1000000/\List.length (α:=Int×Int) st<=1000000:=hok
    exact ⟨by kernel_rfl,FnP.lq (ys:=[.p (.list 2 (.dat mbC l)),.clo (.func 64) [] [.p (.box 1 (cell (.int .i64) b)),.p (.box 1 (cell (.list mbC) st))]]) ⟨Lq.list (a:=mbC) hl,Lq.clo ⟨Lq.box (c:=.int .i64) hb,Lq.box (c:=.list mbC) hs,trivial⟩,trivial⟩
     (fn_idxMw (l.length+1) l b st _ fun _=>idxMw_eq l b st hok hst)⟩
   .cases he
  .cases he
 .cases he
noncomputable def GctnMi:Cfg:=⟨Tryz.prog,mkEnv [(100,sp_idxMember)],mkEnvR [],9,[],[],[]⟩
noncomputable def FctnMi (F:Nat) (l:List (Int×Int)) (b:Int) (o:Bool):Option Ans:=runF GctnMi Tryz.f59 F [.p (.list 2 (.dat (.pair (.int .i64) (.int .i64)) l)),.clo (.func 60) [] [.p (.box 1 (cell (.int .i64) b)),.p (.box 1 (cell .bool o))]]
theorem FctnMi_eq (F:Nat) (l:List (Int×Int)) (b:Int) (o:Bool):FctnMi F l b o=need (l.length<=1000000) (some (.p (.bool (decide ((idxP (inP b o) l)>=(0:Int)))),[])):=by kernel_rfl
theorem fn_ctnMi (F:Nat) (l:List (Int×Int)) (b:Int) (o:Bool) (r:AV) (h:(∃ M vs,ARels γ0 M [.p (.list 2 (.dat (.pair (.int .i64) (.int .i64)) l)),.clo (.func 60) [] [.p (.box 1 (cell (.int .i64) b)),.p (.box 1 (cell .bool o))]] vs)->FctnMi F l b o=some (r,[])):FnP Tryz.prog 59 [.p (.list 2 (.dat (.pair (.int .i64) (.int .i64)) l)),.clo (.func 60) [] [.p (.box 1 (cell (.int .i64) b)),.p (.box 1 (cell .bool o))]] r:=
 FnP_run GctnMi F rfl (EnvOk_mk (l:=[(100,sp_idxMember)]) ⟨ok_idxMember.any,trivial⟩) (EnvROk_mk (l:=[]) trivial) (Checked.mixed Tryz.checked) (fn:=Tryz.f59) (by kernel_rfl) (by kernel_rfl) rfl h
theorem ctnMi_eq (l:List (Int×Int)) (b:Int) (o:Bool) (hl:l.length<=1000000):FctnMi 0 l b o=some (.p (.bool (l.any (inP b o))),[]):=by
 rw [FctnMi_eq,<-idxP_any]
 exact need_mk hl rfl
noncomputable def GctnMw:Cfg:=⟨Tryz.prog,mkEnv [(100,sp_idxMember)],mkEnvR [],9,[],[],[]⟩
noncomputable def FctnMw (F:Nat) (l:List (Int×Int)) (b:Int) (st:List (Int×Int)):Option Ans:=runF GctnMw Tryz.f59 F [.p (.list 2 (.dat (.pair (.int .i64) (.int .i64)) l)),.clo (.func 64) [] [.p (.box 1 (cell (.int .i64) b)),.p (.box 1 (cell (.list (.pair (.int .i64) (.int .i64))) st))]]
theorem FctnMw_eq (F:Nat) (l:List (Int×Int)) (b:Int) (st:List (Int×Int)):FctnMw F l b st=need (l.length<=1000000/\st.length<=1000000) (some (.p (.bool (decide ((idxP (wiP b st) l)>=(0:Int)))),[])):=by kernel_rfl
theorem fn_ctnMw (F:Nat) (l:List (Int×Int)) (b:Int) (st:List (Int×Int)) (r:AV) (h:(∃ M vs,ARels γ0 M [.p (.list 2 (.dat (.pair (.int .i64) (.int .i64)) l)),.clo (.func 64) [] [.p (.box 1 (cell (.int .i64) b)),.p (.box 1 (cell (.list (.pair (.int .i64) (.int .i64))) st))]] vs)->FctnMw F l b st=some (r,[])):FnP Tryz.prog 59 [.p (.list 2 (.dat (.pair (.int .i64) (.int .i64)) l)),.clo (.func 64) [] [.p (.box 1 (cell (.int .i64) b)),.p (.box 1 (cell (.list (.pair (.int .i64) (.int .i64))) st))]] r:=
 FnP_run GctnMw F rfl (EnvOk_mk (l:=[(100,sp_idxMember)]) ⟨ok_idxMember.any,trivial⟩) (EnvROk_mk (l:=[]) trivial) (Checked.mixed Tryz.checked) (fn:=Tryz.f59) (by kernel_rfl) (by kernel_rfl) rfl h
theorem ctnMw_eq (l:List (Int×Int)) (b:Int) (st:List (Int×Int)) (hl:l.length<=1000000) (hc:st.length<=1000000):FctnMw 0 l b st=some (.p (.bool (l.any (wiP b st))),[]):=by
 rw [FctnMw_eq,<-idxP_any]
 exact need_mk ⟨hl,hc⟩ rfl
def sp_ctnMember:List AV->Option (AV×Option Prop)
 | [.p l,.clo (.func n) [] [.p (.box 1 f),.p (.box 1 g)]]=>
  match Nat.beq n 60,Nat.beq n 64 with
  | true,_=>match pList mbC l,toDat (.int .i64) (rangeL f 1 0),toDat .bool (rangeL g 1 0) with
   | some l,some b,some o=>some (.p (.bool (l.any (inP b o))),some (l.length<=1000000))
   | _,_,_=>none
  | _,true=>match pList mbC l,toDat (.int .i64) (rangeL f 1 0),toDat (.list mbC) (rangeL g 1 0) with
   | some l,some b,some st=>some (.p (.bool (l.any (wiP b st))),some (l.length<=1000000/\List.length (α:=Int×Int) st<=1000000))
   | _,_,_=>none
  | _,_=>none
 | _=>none
theorem ok_ctnMember:SpecOk Tryz.prog 59 sp_ctnMember:=by
 intro zs r ok he hok
 unfold sp_ctnMember at he
 split at he
 .rename_i l' n f g
  split at he
  .rename_i hn
   obtain rfl:=Nat.eq_of_beq_eq_true hn
   split at he
   .rename_i l b o hl hb ho
    cases he
    have hok:l.length<=1000000:=hok
    exact ⟨by kernel_rfl,FnP.lq (ys:=[.p (.list 2 (.dat mbC l)),.clo (.func 60) [] [.p (.box 1 (cell (.int .i64) b)),.p (.box 1 (cell .bool o))]]) ⟨Lq.list (a:=mbC) hl,Lq.clo ⟨Lq.box (c:=.int .i64) hb,Lq.box (c:=.bool) ho,trivial⟩,trivial⟩
     (fn_ctnMi 0 l b o _ fun _=>ctnMi_eq l b o hok)⟩
   .cases he
  .rename_i hn _
   obtain rfl:=Nat.eq_of_beq_eq_true hn
   split at he
   .rename_i l b st hl hb hs
    cases he
    obtain ⟨hok,hst⟩:l.length<=1000000/\List.length (α:=Int×Int) st<=1000000:=hok
    exact ⟨by kernel_rfl,FnP.lq (ys:=[.p (.list 2 (.dat mbC l)),.clo (.func 64) [] [.p (.box 1 (cell (.int .i64) b)),.p (.box 1 (cell (.list mbC) st))]]) ⟨Lq.list (a:=mbC) hl,Lq.clo ⟨Lq.box (c:=.int .i64) hb,Lq.box (c:=.list mbC) hs,trivial⟩,trivial⟩
     (fn_ctnMw 0 l b st _ fun _=>ctnMw_eq l b st hok hst)⟩
   .cases he
  .cases he
 .cases he
noncomputable def Ginside:Cfg:=⟨Tryz.prog,mkEnv [(59,sp_ctnMember)],mkEnvR [],14,[],[],[([888888,1],[4,4,5,5])]⟩
noncomputable def Finside (F:Nat) (p:OpenT) (b:Int) (o:Bool):Option Ans:=runF Ginside Tryz.f38 F [.p (.box 10 (cell openC p)),.p (.int .i64 b),.p (.bool o)]
theorem Finside_eq (F:Nat) (p:OpenT) (b:Int) (o:Bool):Finside F p b o=need (p.1.2.2.2.2.2.1.length<=1000000) (some (.p (.bool (p.1.2.2.2.2.2.1.any (inP b o))),[])):=by kernel_rfl
theorem fn_inside (F:Nat) (p:OpenT) (b:Int) (o:Bool) (r:AV) (h:(∃ M vs,ARels γ0 M [.p (.box 10 (cell openC p)),.p (.int .i64 b),.p (.bool o)] vs)->Finside F p b o=some (r,[])):FnP Tryz.prog 38 [.p (.box 10 (cell openC p)),.p (.int .i64 b),.p (.bool o)] r:=
 FnP_run Ginside F rfl (EnvOk_mk (l:=[(59,sp_ctnMember)]) ⟨ok_ctnMember.any,trivial⟩) (EnvROk_mk (l:=[]) trivial) (Checked.mixed Tryz.checked) (fn:=Tryz.f38) (by kernel_rfl) (by kernel_rfl) rfl h
noncomputable def Gwithin:Cfg:=⟨Tryz.prog,mkEnv [(59,sp_ctnMember)],mkEnvR [],14,[],[],[([888888,1],[4,4,5,37])]⟩
noncomputable def Fwithin (F:Nat) (p:OpenT) (b:Int) (st:List (Int×Int)):Option Ans:=runF Gwithin Tryz.f44 F [.p (.box 10 (cell openC p)),.p (.int .i64 b),.p (.list 2 (.dat (.pair (.int .i64) (.int .i64)) st))]
theorem Fwithin_eq (F:Nat) (p:OpenT) (b:Int) (st:List (Int×Int)):Fwithin F p b st=need (p.1.2.2.2.2.2.1.length<=1000000/\st.length<=1000000) (some (.p (.bool (p.1.2.2.2.2.2.1.any (wiP b st))),[])):=by kernel_rfl
theorem fn_within (F:Nat) (p:OpenT) (b:Int) (st:List (Int×Int)) (r:AV) (h:(∃ M vs,ARels γ0 M [.p (.box 10 (cell openC p)),.p (.int .i64 b),.p (.list 2 (.dat (.pair (.int .i64) (.int .i64)) st))] vs)->Fwithin F p b st=some (r,[])):FnP Tryz.prog 44 [.p (.box 10 (cell openC p)),.p (.int .i64 b),.p (.list 2 (.dat (.pair (.int .i64) (.int .i64)) st))] r:=
 FnP_run Gwithin F rfl (EnvOk_mk (l:=[(59,sp_ctnMember)]) ⟨ok_ctnMember.any,trivial⟩) (EnvROk_mk (l:=[]) trivial) (Checked.mixed Tryz.checked) (fn:=Tryz.f44) (by kernel_rfl) (by kernel_rfl) rfl h
def sp_inside:List AV->Option (AV×Option Prop)
 | [.p (.box 10 f),.p (.int .i64 b),.p (.bool o)]=>match toDat openC (rangeL f 10 0) with
  | some p=>some (.p (.bool (p.1.2.2.2.2.2.1.any (inP b o))),some (p.1.2.2.2.2.2.1.length<=1000000))
  | none=>none
 | _=>none
theorem ok_inside:SpecOk Tryz.prog 38 sp_inside:=by
 intro zs r ok he hok
 unfold sp_inside at he
 split at he
 .rename_i f b o
  split at he
  .rename_i p hp
   cases he
   exact ⟨by kernel_rfl,FnP.lq (ys:=[.p (.box 10 (cell openC p)),.p (.int .i64 b),.p (.bool o)]) ⟨Lq.box (c:=openC) hp,Lq.refl _,Lq.refl _,trivial⟩
    (fn_inside 0 p b o _ fun _=>by rw [Finside_eq]; exact need_mk hok rfl)⟩
  .cases he
 .cases he
def sp_within:List AV->Option (AV×Option Prop)
 | [.p (.box 10 f),.p (.int .i64 b),.p st]=>match toDat openC (rangeL f 10 0),pList mbC st with
  | some p,some st=>some (.p (.bool (p.1.2.2.2.2.2.1.any (wiP b st))),some (p.1.2.2.2.2.2.1.length<=1000000/\st.length<=1000000))
  | _,_=>none
 | _=>none
theorem ok_within:SpecOk Tryz.prog 44 sp_within:=by
 intro zs r ok he hok
 unfold sp_within at he
 split at he
 .rename_i f b st'
  split at he
  .rename_i p st hp hs
   cases he
   exact ⟨by kernel_rfl,FnP.lq (ys:=[.p (.box 10 (cell openC p)),.p (.int .i64 b),.p (.list 2 (.dat mbC st))]) ⟨Lq.box (c:=openC) hp,Lq.refl _,Lq.list (a:=mbC) hs,trivial⟩
    (fn_within 0 p b st _ fun _=>by rw [Fwithin_eq]; exact need_mk hok rfl)⟩
  .cases he
 .cases he
end Go.Proofs.YtampckbjinodgaaGreatDoor
