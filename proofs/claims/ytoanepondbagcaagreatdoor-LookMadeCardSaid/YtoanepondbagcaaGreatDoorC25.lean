/-
  Lifted functions, and facts about them.
-/
import Derived.Test.YtoanepondbagcaaGreatDoorRows
import Derived.Test.YtoanepondbagcaaGreatDoorAmC
import Derived.Test.YtoanepondbagcaaGreatDoorC24
import Derived.Test.YtoanepondbagcaaGreatDoorC01
import Derived.Deep.Slices
import Derived.Carry
import Derived.Handed
import Derived.Shelf.Vars
import Derived.WalkKit
import Derived.ProofKit
import Derived.OpenShut
namespace Go.Proofs.YtoanepondbagcaaGreatDoor
open Go Go.Am
set_option linter.unusedVariables false
theorem md_firsts (x y:UInt8):firstS (mdL x y) nFrom=(mdA x y,true)/\firstS (mdL x y) nTo=([y,64,104],true)/\firstS (mdL x y) nSubj=([x,32,y],true)/\firstS (mdL x y) nMsg=([60,x,62],true)
 /\firstS (mdL x y) nDate=([],false)/\firstS (mdL x y) nSend=([],false)/\firstS (mdL x y) nRepl=([],false)/\firstS (mdL x y) nCc=([],false)/\firstS (mdL x y) nBcc=([],false)/\firstS (mdL x y) nInR=([],false):=
 ⟨by kernel_rfl,by kernel_rfl,by kernel_rfl,by kernel_rfl,by kernel_rfl,by kernel_rfl,by kernel_rfl,by kernel_rfl,by kernel_rfl,by kernel_rfl⟩
abbrev MdOk (x y:UInt8):Prop:=(splitS (mdT x y) 0 ((mdT x y).length:Int)).1=mdL x y/\listA (mdA x y)=[([78,32,x],[y],[103])]/\listA [y,64,104]=[([],[y],[104])]
 /\tplainS [78,32,x]=true/\tplainS [y]=true/\tplainS [60,x,62]=true/\tplainS [x,32,y]=true/\escQ [78,32,x]=[78,32,x]/\escQ [y]=[y]/\escQ [60,x,62]=[60,x,62]/\escQ [x,32,y]=[x,32,y]/\shownS (wordS [x,32,y])=[x,32,y]
theorem md_ok {n m:Nat} (hn:n < 26) (hm:m < 26):MdOk (ltr n) (ltr m):=by
 have h1:=allB_get all_L hn hm
 have h2:=allB_get all_A hn hm
 simp only [chkL,chkA,Bool.and_eq_true,decide_eq_true_eq] at h1 h2
 obtain ⟨⟨⟨⟨⟨⟨⟨⟨⟨⟨a1,a2⟩,a3⟩,a4⟩,a5⟩,a6⟩,a7⟩,a8⟩,a9⟩,a10⟩,a11⟩:=h2
 exact ⟨h1,a1,a2,a3,a4,a5,a6,a7,a8,a9,a10,a11⟩
theorem tstr_q {s:List UInt8} (h:tplainS s=true) (he:escQ s=s):tstrS s=34::(s++[34]):=by rw [tstrS,if_pos h,he]
theorem md_envL {x y:UInt8} (h:MdOk x y):envL (mdL x y)=[[78,73,76],34::([x,32,y]++[34]),mdF x y,mdF x y,mdF x y,[40,40,78,73,76,32,78,73,76,32,34,y,34,32,34,104,34,41,41],[78,73,76],[78,73,76],[78,73,76],34::([60,x,62]++[34])]:=by
 obtain ⟨_,h2,h3,h4,h5,h6,h7,h8,h9,h10,h11,_⟩:=h
 obtain ⟨f1,f2,f3,f4,f5,f6,f7,f8,f9,f10⟩:=md_firsts x y
 have hg:tstrS [103]=[34,103,34]:=by kernel_rfl
 have hh:tstrS [104]=[34,104,34]:=by kernel_rfl
 have hnil:tellA (listA [])=[78,73,76]:=by kernel_rfl
 have hF:addrsS (mdL x y) nFrom=mdF x y:=by
  rw [addrsS,f1,h2,tellA,if_neg (by simp)]
  simp only [manyA,List.flatMap_cons,List.flatMap_nil,catS,oneA]
  rw [if_neg (by simp),tstr_q h4 h8,tstr_q h5 h9,hg]
  rfl
 have hT:addrsS (mdL x y) nTo=[40,40,78,73,76,32,78,73,76,32,34,y,34,32,34,104,34,41,41]:=by
  rw [addrsS,f2,h3,tellA,if_neg (by simp)]
  simp only [manyA,List.flatMap_cons,List.flatMap_nil,catS,oneA]
  rw [if_pos trivial,tstr_q h5 h9,hh]
  rfl
 have hS:orS (mdL x y) (mdF x y) nSend=mdF x y:=by rw [orS,addrsS,f6]; exact if_pos hnil
 have hR:orS (mdL x y) (mdF x y) nRepl=mdF x y:=by rw [orS,addrsS,f7]; exact if_pos hnil
 have hC:addrsS (mdL x y) nCc=[78,73,76]:=by rw [addrsS,f8]; exact hnil
 have hB:addrsS (mdL x y) nBcc=[78,73,76]:=by rw [addrsS,f9]; exact hnil
 have hD:nstrS (mdL x y) nDate=[78,73,76]:=by rw [nstrS,f5]; rfl
 have hI:nstrS (mdL x y) nInR=[78,73,76]:=by rw [nstrS,f10]; rfl
 have hJ:nstrS (mdL x y) nSubj=34::([x,32,y]++[34]):=by rw [nstrS,f3,if_pos rfl,tstr_q h7 h11]
 have hM:nstrS (mdL x y) nMsg=34::([60,x,62]++[34]):=by rw [nstrS,f4,if_pos rfl,tstr_q h6 h10]
 rw [envL,hF,hT,hS,hR,hC,hB,hD,hI,hJ,hM]
theorem md_len (x y:UInt8):(mdT x y).length=59:=by simp [mdT]
theorem md_envok {x y:UInt8} (h:MdOk x y):envok (mdT x y):=by
 have he:=md_envL h
 obtain ⟨h1,h2,h3,h4,h5,h6,h7,h8,h9,h10,h11,_⟩:=h
 obtain ⟨f1,f2,f3,f4,f5,f6,f7,f8,f9,f10⟩:=md_firsts x y
 have hl:(mdT x y).length<=1000000:=by rw [md_len]; omega
 have hnil:listA []=[]:=by kernel_rfl
 have hg:tok [103]:=⟨by simp,.inr (by simp)⟩
 have hh:tok [104]:=⟨by simp,.inr (by simp)⟩
 have none:∀ nm:List UInt8,nm.length<=100->firstS (mdL x y) nm=([],false)->addrsok (mdL x y) nm:=fun nm hm hf=>⟨by have:=splitAll_ok hl hm; rw [h1] at this; exact this,by rw [hf]; simp,by rw [hf,hnil]; simp⟩
 have fok:∀ nm:List UInt8,nm.length<=100->firstok (mdL x y) nm:=fun nm hm=>by have:=splitAll_ok hl hm; rw [h1] at this; exact this
 refine ⟨hl,?_,?_,?_⟩
 .rw [h1]
  intro nm hn
  simp only [List.mem_cons,List.not_mem_nil,or_false] at hn
  rcases hn with hn | hn | hn | hn | hn | hn <;> subst hn
  .exact ⟨fok _ (by simp [nFrom]),by rw [f1]; simp [mdA],by
    rw [f1,h2]
    intro a ha
    rw [List.mem_singleton.1 ha]
    exact ⟨fun _=>⟨by simp,.inl h4⟩,⟨by simp,.inl h5⟩,hg⟩⟩
  .exact none _ (by simp [nSend]) f6
  .exact none _ (by simp [nRepl]) f7
  .exact ⟨fok _ (by simp [nTo]),by rw [f2]; simp,by
    rw [f2,h3]
    intro a ha
    rw [List.mem_singleton.1 ha]
    exact ⟨fun q=>absurd rfl q,⟨by simp,.inl h5⟩,hh⟩⟩
  .exact none _ (by simp [nCc]) f8
  .exact none _ (by simp [nBcc]) f9
 .rw [h1]
  intro nm hn
  simp only [List.mem_cons,List.not_mem_nil,or_false] at hn
  rcases hn with hn | hn | hn | hn <;> subst hn
  .exact ⟨fok _ (by simp [nDate]),by rw [f5]; intro q; cases q⟩
  .exact ⟨fok _ (by simp [nSubj]),fun _=>by rw [f3]; exact ⟨by simp,.inl h7⟩⟩
  .exact ⟨fok _ (by simp [nInR]),by rw [f10]; intro q; cases q⟩
  .exact ⟨fok _ (by simp [nMsg]),fun _=>by rw [f4]; exact ⟨by simp,.inl h6⟩⟩
 .rw [h1,he]
  simp [totL,mdF]
theorem md_tree {n m:Nat} (hn:n < 26) (hm:m < 26):∃ at_ h,treeT (mdT (ltr n) (ltr m))=Part.mk tPlain [] t7bit at_ h 59 59 []:=by
 have hp:=allB_get all_P hn hm
 unfold chkP at hp
 revert hp
 generalize treeT (mdT (ltr n) (ltr m))=p
 obtain ⟨ty,ps,en,at_,h,f,t,ks⟩:=p
 intro hp
 simp only [Bool.and_eq_true,decide_eq_true_eq,List.isEmpty_iff,md_len] at hp
 obtain ⟨⟨⟨⟨⟨a1,a2⟩,a3⟩,a4⟩,a5⟩,a6⟩:=hp
 exact ⟨at_,h,by rw [a1,a2,a3,a4,a5,a6]; rfl⟩
theorem md_cut (x y:UInt8):cutP (mdT x y) 59 59=[]:=rfl
def stW:List UInt8:=[40,34,116,101,120,116,34,32,34,112,108,97,105,110,34,32,78,73,76,32,78,73,76,32,78,73,76,32,34,55,98,105,116,34,32,48,32,48,41]
theorem md_leaf (x y:UInt8):leafL (mdT x y) tPlain [] t7bit 59 59=[[34,116,101,120,116,34],[34,112,108,97,105,110,34],[78,73,76],[78,73,76],[78,73,76],[34,55,98,105,116,34],[48],[48]]:=by
 unfold leafL
 rw [md_cut]
 kernel_rfl
theorem md_strucok (x y:UInt8) (at_:Bool) (h:Int):strucok 7 (mdT x y) (Part.mk tPlain [] t7bit at_ h 59 59 []):=by
 rw [strucok]
 refine ⟨(by decide:tPlain.length<=1000000),⟨(by decide:(cutS tPlain 47).2.1.length<=1000000),.inr (by decide:(cutS tPlain 47).2.1.length < 100)⟩,by simp [Part.kids],by simp [Part.kids],fun q hq=>by simp [Part.kids] at hq,fun _=>?_⟩
 show leafok (mdT x y) tPlain [] t7bit 59 59
 refine ⟨⟨by decide,.inr (by decide)⟩,⟨by decide,.inr (by decide)⟩,fun x hx=>by simp at hx,by simp,⟨by simp,by simp,by simp [parmS],by simp [parmS,totL]⟩,⟨by omega,by omega,by rw [md_len]; omega⟩,by rw [md_len]; omega,by omega,by rw [md_cut]; decide,?_⟩
 rw [md_leaf]
 exact ⟨by simp,by simp,by simp,by simp [totL]⟩
theorem md_struc (x y:UInt8) (at_:Bool) (h:Int):strucS 7 (mdT x y) (Part.mk tPlain [] t7bit at_ h 59 59 [])=stW:=by
 rw [strucS,if_neg (by simp [Part.kids])]
 show (([40]:List UInt8)++joinS [32] (leafL (mdT x y) tPlain [] t7bit 59 59))++[41]=stW
 rw [md_leaf]; rfl
theorem md_subj {x y:UInt8} (h:MdOk x y):subjS (mdT x y)=[x,32,y]:=by
 have e:subjV (mdT x y)=[x,32,y]:=by
  rw [subjV,h.1]
  exact congrArg Prod.fst (md_firsts x y).2.2.1
 rw [subjS,e]; exact h.2.2.2.2.2.2.2.2.2.2.2
end Go.Proofs.YtoanepondbagcaaGreatDoor
namespace Go.Proofs.YtoanepondbagcaaGreatDoor
open Go Go.Am
set_option linter.unusedVariables false
theorem u8z {n:Int} (h:IntKind.u8.has n):0<=n/\n < 256:=by
 unfold IntKind.has at h
 simp [IntKind.min,IntKind.max,IntKind.bits,IntKind.signed] at h
 omega
theorem ltr_of (a:Int) (h:0<=a/\a < 256):∃ n,n < 26/\UInt8.ofNat (IntKind.u8.wrap ((97:Int)+(a.tmod (26:Int)))).toNat=ltr n:=by
 refine ⟨(a % 26).toNat,by omega,?_⟩
 rw [Int.tmod_eq_emod_of_nonneg h.1,u8_wrap,ltr]
 congr 1
 omega
noncomputable def clmade:Code:=bodyOf Tryz.f4
noncomputable def Glmade:Cfg:=⟨Tryz.prog,mkEnv [(10,sp_awake),(12,sp_envel),(13,sp_strucT),(14,sp_subject)],mkEnvR [],86,[],[([1,1,1],⟨[5,6,7],[]⟩),([1,1,1,1],⟨[5,6,7,8],[]⟩),([1,1,1,1,1],⟨[5,6,7,9],[]⟩)],[]⟩
noncomputable def Blmade_1 (F:Nat) (vs1 vs2 vs3:List UInt8):Option Ans:=runB Glmade clmade (kP Tryz.prog Tryz.f4.results.toList) F [] [1,1,1] [(5,.p (.str vs1)),(6,.p (.str vs2)),(7,.p (.str vs3))] []
noncomputable def Blmade_2 (F:Nat) (vs1 vs2 vs3 vs4:List UInt8):Option Ans:=runB Glmade clmade (kP Tryz.prog Tryz.f4.results.toList) F [] [1,1,1,1] [(5,.p (.str vs1)),(6,.p (.str vs2)),(7,.p (.str vs3)),(8,.p (.str vs4))] []
noncomputable def Blmade_3 (F:Nat) (vs1 vs2 vs3 vs5:List UInt8):Option Ans:=runB Glmade clmade (kP Tryz.prog Tryz.f4.results.toList) F [] [1,1,1,1,1] [(5,.p (.str vs1)),(6,.p (.str vs2)),(7,.p (.str vs3)),(9,.p (.str vs5))] []
noncomputable def Flmade (F:Nat) (a b:Int):Option Ans:=runF Glmade Tryz.f4 F [.p (.int .u8 a),.p (.int .u8 b)]
theorem Blmade_1_eq (F:Nat) (vs1 vs2 vs3:List UInt8):Blmade_1 F vs1 vs2 vs3=need (lenok (([40,40,34,78,32]:List UInt8).length+vs1.length)) (need (lenok ((([40,40,34,78,32]:List UInt8)++vs1).length+([34,32,78,73,76,32,34]:List UInt8).length)) (need (lenok (((([40,40,34,78,32]:List UInt8)++vs1)++([34,32,78,73,76,32,34]:List UInt8)).length+vs2.length)) (need (lenok ((((([40,40,34,78,32]:List UInt8)++vs1)++([34,32,78,73,76,32,34]:List UInt8))++vs2).length+([34,32,34,103,34,41,41]:List UInt8).length)) (Blmade_2 F vs1 vs2 vs3 ((((([40,40,34,78,32]:List UInt8)++vs1)++([34,32,78,73,76,32,34]:List UInt8))++vs2)++([34,32,34,103,34,41,41]:List UInt8)))))):=by kernel_rfl
theorem Blmade_2_eq (F:Nat) (vs1 vs2 vs3 vs4:List UInt8):Blmade_2 F vs1 vs2 vs3 vs4=need (lenok (([40,78,73,76,32,34]:List UInt8).length+vs1.length)) (need (lenok ((([40,78,73,76,32,34]:List UInt8)++vs1).length+([32]:List UInt8).length)) (need (lenok (((([40,78,73,76,32,34]:List UInt8)++vs1)++([32]:List UInt8)).length+vs2.length)) (need (lenok ((((([40,78,73,76,32,34]:List UInt8)++vs1)++([32]:List UInt8))++vs2).length+([34,32]:List UInt8).length)) (need (lenok (((((([40,78,73,76,32,34]:List UInt8)++vs1)++([32]:List UInt8))++vs2)++([34,32]:List UInt8)).length+vs4.length)) (need (lenok ((((((([40,78,73,76,32,34]:List UInt8)++vs1)++([32]:List UInt8))++vs2)++([34,32]:List UInt8))++vs4).length+([32]:List UInt8).length)) (need (lenok (((((((([40,78,73,76,32,34]:List UInt8)++vs1)++([32]:List UInt8))++vs2)++([34,32]:List UInt8))++vs4)++([32]:List UInt8)).length+vs4.length)) (need (lenok ((((((((([40,78,73,76,32,34]:List UInt8)++vs1)++([32]:List UInt8))++vs2)++([34,32]:List UInt8))++vs4)++([32]:List UInt8))++vs4).length+([32]:List UInt8).length)) (need (lenok (((((((((([40,78,73,76,32,34]:List UInt8)++vs1)++([32]:List UInt8))++vs2)++([34,32]:List UInt8))++vs4)++([32]:List UInt8))++vs4)++([32]:List UInt8)).length+vs4.length)) (need (lenok ((((((((((([40,78,73,76,32,34]:List UInt8)++vs1)++([32]:List UInt8))++vs2)++([34,32]:List UInt8))++vs4)++([32]:List UInt8))++vs4)++([32]:List UInt8))++vs4).length+([32,40,40,78,73,76,32,78,73,76,32,34]:List UInt8).length)) (need (lenok (((((((((((([40,78,73,76,32,34]:List UInt8)++vs1)++([32]:List UInt8))++vs2)++([34,32]:List UInt8))++vs4)++([32]:List UInt8))++vs4)++([32]:List UInt8))++vs4)++([32,40,40,78,73,76,32,78,73,76,32,34]:List UInt8)).length+vs2.length)) (need (lenok ((((((((((((([40,78,73,76,32,34]:List UInt8)++vs1)++([32]:List UInt8))++vs2)++([34,32]:List UInt8))++vs4)++([32]:List UInt8))++vs4)++([32]:List UInt8))++vs4)++([32,40,40,78,73,76,32,78,73,76,32,34]:List UInt8))++vs2).length+LB_32c53d88.length)) (need (lenok (((((((((((((([40,78,73,76,32,34]:List UInt8)++vs1)++([32]:List UInt8))++vs2)++([34,32]:List UInt8))++vs4)++([32]:List UInt8))++vs4)++([32]:List UInt8))++vs4)++([32,40,40,78,73,76,32,78,73,76,32,34]:List UInt8))++vs2)++LB_32c53d88).length+vs1.length)) (need (lenok ((((((((((((((([40,78,73,76,32,34]:List UInt8)++vs1)++([32]:List UInt8))++vs2)++([34,32]:List UInt8))++vs4)++([32]:List UInt8))++vs4)++([32]:List UInt8))++vs4)++([32,40,40,78,73,76,32,78,73,76,32,34]:List UInt8))++vs2)++LB_32c53d88)++vs1).length+([62,34,41]:List UInt8).length)) (Blmade_3 F vs1 vs2 vs3 ((((((((((((((([40,78,73,76,32,34]:List UInt8)++vs1)++([32]:List UInt8))++vs2)++([34,32]:List UInt8))++vs4)++([32]:List UInt8))++vs4)++([32]:List UInt8))++vs4)++([32,40,40,78,73,76,32,78,73,76,32,34]:List UInt8))++vs2)++LB_32c53d88)++vs1)++([62,34,41]:List UInt8)))))))))))))))):=by kernel_rfl
theorem Blmade_3_eq (F:Nat) (vs1 vs2 vs3 vs5:List UInt8):Blmade_3 F vs1 vs2 vs3 vs5=need (envok vs3) (need (((envS vs3)==vs5)=true->vs3.length<=1000000/\strucok 7 vs3 (treeT vs3)) (need ((((envS vs3)==vs5)&&((strucS 7 vs3 (treeT vs3))==LB_c19c6bac))=true->vs3.length<=50000) (need ((((envS vs3)==vs5)&&((strucS 7 vs3 (treeT vs3))==LB_c19c6bac))=true->lenok (vs1.length+([32]:List UInt8).length)) (need ((((envS vs3)==vs5)&&((strucS 7 vs3 (treeT vs3))==LB_c19c6bac))=true->lenok ((vs1++([32]:List UInt8)).length+vs2.length)) (some (.p (.bool (((((envS vs3)==vs5)&&((strucS 7 vs3 (treeT vs3))==LB_c19c6bac))&&((subjS vs3)==((vs1++([32]:List UInt8))++vs2)))&&true)),[])))))):=
 Eq.trans (show Blmade_3 F vs1 vs2 vs3 vs5=need (envok vs3) (need (((envS vs3)==vs5)=true->((envS vs3)==vs5)=true) (need (((envS vs3)==vs5)=true->vs3.length<=1000000/\strucok 7 vs3 (treeT vs3)) (need (((envS vs3)==vs5)=true->((envS vs3)==vs5)=true) (need (((envS vs3)==vs5)=true->((envS vs3)==vs5)=true) (need ((((envS vs3)==vs5)&&((strucS 7 vs3 (treeT vs3))==LB_c19c6bac))=true->(((envS vs3)==vs5)&&((strucS 7 vs3 (treeT vs3))==LB_c19c6bac))=true) (need ((((envS vs3)==vs5)&&((strucS 7 vs3 (treeT vs3))==LB_c19c6bac))=true->vs3.length<=50000) (need ((((envS vs3)==vs5)&&((strucS 7 vs3 (treeT vs3))==LB_c19c6bac))=true->(((envS vs3)==vs5)&&((strucS 7 vs3 (treeT vs3))==LB_c19c6bac))=true) (need ((((envS vs3)==vs5)&&((strucS 7 vs3 (treeT vs3))==LB_c19c6bac))=true->lenok (vs1.length+([32]:List UInt8).length)) (need ((((envS vs3)==vs5)&&((strucS 7 vs3 (treeT vs3))==LB_c19c6bac))=true->(((envS vs3)==vs5)&&((strucS 7 vs3 (treeT vs3))==LB_c19c6bac))=true) (need ((((envS vs3)==vs5)&&((strucS 7 vs3 (treeT vs3))==LB_c19c6bac))=true->(((envS vs3)==vs5)&&((strucS 7 vs3 (treeT vs3))==LB_c19c6bac))=true) (need ((((envS vs3)==vs5)&&((strucS 7 vs3 (treeT vs3))==LB_c19c6bac))=true->lenok ((vs1++([32]:List UInt8)).length+vs2.length)) (need ((((envS vs3)==vs5)&&((strucS 7 vs3 (treeT vs3))==LB_c19c6bac))=true->(((envS vs3)==vs5)&&((strucS 7 vs3 (treeT vs3))==LB_c19c6bac))=true) (need ((((envS vs3)==vs5)&&((strucS 7 vs3 (treeT vs3))==LB_c19c6bac))=true->(((envS vs3)==vs5)&&((strucS 7 vs3 (treeT vs3))==LB_c19c6bac))=true) (need ((((envS vs3)==vs5)&&((strucS 7 vs3 (treeT vs3))==LB_c19c6bac))=true->(((envS vs3)==vs5)&&((strucS 7 vs3 (treeT vs3))==LB_c19c6bac))=true) (need (((((envS vs3)==vs5)&&((strucS 7 vs3 (treeT vs3))==LB_c19c6bac))&&((subjS vs3)==((vs1++([32]:List UInt8))++vs2)))=true->((((envS vs3)==vs5)&&((strucS 7 vs3 (treeT vs3))==LB_c19c6bac))&&((subjS vs3)==((vs1++([32]:List UInt8))++vs2)))=true) (some (.p (.bool (((((envS vs3)==vs5)&&((strucS 7 vs3 (treeT vs3))==LB_c19c6bac))&&((subjS vs3)==((vs1++([32]:List UInt8))++vs2)))&&true)),[]))))))))))))))))) by kernel_rfl) (need_congr (need_strike (show ((envS vs3)==vs5)=true->((envS vs3)==vs5)=true from (fun q0=>q0)) (need_congr (need_strike (show ((envS vs3)==vs5)=true->((envS vs3)==vs5)=true from (fun q0=>q0)) (need_strike (show ((envS vs3)==vs5)=true->((envS vs3)==vs5)=true from (fun q0=>q0)) (need_strike (show (((envS vs3)==vs5)&&((strucS 7 vs3 (treeT vs3))==LB_c19c6bac))=true->(((envS vs3)==vs5)&&((strucS 7 vs3 (treeT vs3))==LB_c19c6bac))=true from (fun q0=>q0)) (need_congr (need_strike (show (((envS vs3)==vs5)&&((strucS 7 vs3 (treeT vs3))==LB_c19c6bac))=true->(((envS vs3)==vs5)&&((strucS 7 vs3 (treeT vs3))==LB_c19c6bac))=true from (fun q0=>q0)) (need_congr (need_strike (show (((envS vs3)==vs5)&&((strucS 7 vs3 (treeT vs3))==LB_c19c6bac))=true->(((envS vs3)==vs5)&&((strucS 7 vs3 (treeT vs3))==LB_c19c6bac))=true from (fun q0=>q0)) (need_strike (show (((envS vs3)==vs5)&&((strucS 7 vs3 (treeT vs3))==LB_c19c6bac))=true->(((envS vs3)==vs5)&&((strucS 7 vs3 (treeT vs3))==LB_c19c6bac))=true from (fun q0=>q0)) (need_congr (need_strike (show (((envS vs3)==vs5)&&((strucS 7 vs3 (treeT vs3))==LB_c19c6bac))=true->(((envS vs3)==vs5)&&((strucS 7 vs3 (treeT vs3))==LB_c19c6bac))=true from (fun q0=>q0)) (need_strike (show (((envS vs3)==vs5)&&((strucS 7 vs3 (treeT vs3))==LB_c19c6bac))=true->(((envS vs3)==vs5)&&((strucS 7 vs3 (treeT vs3))==LB_c19c6bac))=true from (fun q0=>q0)) (need_strike (show (((envS vs3)==vs5)&&((strucS 7 vs3 (treeT vs3))==LB_c19c6bac))=true->(((envS vs3)==vs5)&&((strucS 7 vs3 (treeT vs3))==LB_c19c6bac))=true from (fun q0=>q0)) (need_strike (show ((((envS vs3)==vs5)&&((strucS 7 vs3 (treeT vs3))==LB_c19c6bac))&&((subjS vs3)==((vs1++([32]:List UInt8))++vs2)))=true->((((envS vs3)==vs5)&&((strucS 7 vs3 (treeT vs3))==LB_c19c6bac))&&((subjS vs3)==((vs1++([32]:List UInt8))++vs2)))=true from (fun q0=>q0)) (rfl)))))))))))))))))
theorem Flmade_eq (F:Nat) (a b:Int):Flmade F a b=((need (lenok (([77,101,115,115,97,103,101,45,73,68,58,32,60]:List UInt8).length+[UInt8.ofNat (IntKind.u8.wrap ((97:Int)+(a.tmod (26:Int)))).toNat].length)) (need (lenok ((([77,101,115,115,97,103,101,45,73,68,58,32,60]:List UInt8)++[UInt8.ofNat (IntKind.u8.wrap ((97:Int)+(a.tmod (26:Int)))).toNat]).length+([62,13,10,84,111,58,32]:List UInt8).length)) (need (lenok (((([77,101,115,115,97,103,101,45,73,68,58,32,60]:List UInt8)++[UInt8.ofNat (IntKind.u8.wrap ((97:Int)+(a.tmod (26:Int)))).toNat])++([62,13,10,84,111,58,32]:List UInt8)).length+[UInt8.ofNat (IntKind.u8.wrap ((97:Int)+(b.tmod (26:Int)))).toNat].length)) (need (lenok ((((([77,101,115,115,97,103,101,45,73,68,58,32,60]:List UInt8)++[UInt8.ofNat (IntKind.u8.wrap ((97:Int)+(a.tmod (26:Int)))).toNat])++([62,13,10,84,111,58,32]:List UInt8))++[UInt8.ofNat (IntKind.u8.wrap ((97:Int)+(b.tmod (26:Int)))).toNat]).length+([64,104,13,10,83,117,98,106,101,99,116,58,32]:List UInt8).length)) (need (lenok (((((([77,101,115,115,97,103,101,45,73,68,58,32,60]:List UInt8)++[UInt8.ofNat (IntKind.u8.wrap ((97:Int)+(a.tmod (26:Int)))).toNat])++([62,13,10,84,111,58,32]:List UInt8))++[UInt8.ofNat (IntKind.u8.wrap ((97:Int)+(b.tmod (26:Int)))).toNat])++([64,104,13,10,83,117,98,106,101,99,116,58,32]:List UInt8)).length+[UInt8.ofNat (IntKind.u8.wrap ((97:Int)+(a.tmod (26:Int)))).toNat].length)) (need (lenok ((((((([77,101,115,115,97,103,101,45,73,68,58,32,60]:List UInt8)++[UInt8.ofNat (IntKind.u8.wrap ((97:Int)+(a.tmod (26:Int)))).toNat])++([62,13,10,84,111,58,32]:List UInt8))++[UInt8.ofNat (IntKind.u8.wrap ((97:Int)+(b.tmod (26:Int)))).toNat])++([64,104,13,10,83,117,98,106,101,99,116,58,32]:List UInt8))++[UInt8.ofNat (IntKind.u8.wrap ((97:Int)+(a.tmod (26:Int)))).toNat]).length+([32]:List UInt8).length)) (need (lenok (((((((([77,101,115,115,97,103,101,45,73,68,58,32,60]:List UInt8)++[UInt8.ofNat (IntKind.u8.wrap ((97:Int)+(a.tmod (26:Int)))).toNat])++([62,13,10,84,111,58,32]:List UInt8))++[UInt8.ofNat (IntKind.u8.wrap ((97:Int)+(b.tmod (26:Int)))).toNat])++([64,104,13,10,83,117,98,106,101,99,116,58,32]:List UInt8))++[UInt8.ofNat (IntKind.u8.wrap ((97:Int)+(a.tmod (26:Int)))).toNat])++([32]:List UInt8)).length+[UInt8.ofNat (IntKind.u8.wrap ((97:Int)+(b.tmod (26:Int)))).toNat].length)) (need (lenok ((((((((([77,101,115,115,97,103,101,45,73,68,58,32,60]:List UInt8)++[UInt8.ofNat (IntKind.u8.wrap ((97:Int)+(a.tmod (26:Int)))).toNat])++([62,13,10,84,111,58,32]:List UInt8))++[UInt8.ofNat (IntKind.u8.wrap ((97:Int)+(b.tmod (26:Int)))).toNat])++([64,104,13,10,83,117,98,106,101,99,116,58,32]:List UInt8))++[UInt8.ofNat (IntKind.u8.wrap ((97:Int)+(a.tmod (26:Int)))).toNat])++([32]:List UInt8))++[UInt8.ofNat (IntKind.u8.wrap ((97:Int)+(b.tmod (26:Int)))).toNat]).length+([13,10,70,114,111,109,58,32,78,32]:List UInt8).length)) (need (lenok (((((((((([77,101,115,115,97,103,101,45,73,68,58,32,60]:List UInt8)++[UInt8.ofNat (IntKind.u8.wrap ((97:Int)+(a.tmod (26:Int)))).toNat])++([62,13,10,84,111,58,32]:List UInt8))++[UInt8.ofNat (IntKind.u8.wrap ((97:Int)+(b.tmod (26:Int)))).toNat])++([64,104,13,10,83,117,98,106,101,99,116,58,32]:List UInt8))++[UInt8.ofNat (IntKind.u8.wrap ((97:Int)+(a.tmod (26:Int)))).toNat])++([32]:List UInt8))++[UInt8.ofNat (IntKind.u8.wrap ((97:Int)+(b.tmod (26:Int)))).toNat])++([13,10,70,114,111,109,58,32,78,32]:List UInt8)).length+[UInt8.ofNat (IntKind.u8.wrap ((97:Int)+(a.tmod (26:Int)))).toNat].length)) (need (lenok ((((((((((([77,101,115,115,97,103,101,45,73,68,58,32,60]:List UInt8)++[UInt8.ofNat (IntKind.u8.wrap ((97:Int)+(a.tmod (26:Int)))).toNat])++([62,13,10,84,111,58,32]:List UInt8))++[UInt8.ofNat (IntKind.u8.wrap ((97:Int)+(b.tmod (26:Int)))).toNat])++([64,104,13,10,83,117,98,106,101,99,116,58,32]:List UInt8))++[UInt8.ofNat (IntKind.u8.wrap ((97:Int)+(a.tmod (26:Int)))).toNat])++([32]:List UInt8))++[UInt8.ofNat (IntKind.u8.wrap ((97:Int)+(b.tmod (26:Int)))).toNat])++([13,10,70,114,111,109,58,32,78,32]:List UInt8))++[UInt8.ofNat (IntKind.u8.wrap ((97:Int)+(a.tmod (26:Int)))).toNat]).length+([32,60]:List UInt8).length)) (need (lenok (((((((((((([77,101,115,115,97,103,101,45,73,68,58,32,60]:List UInt8)++[UInt8.ofNat (IntKind.u8.wrap ((97:Int)+(a.tmod (26:Int)))).toNat])++([62,13,10,84,111,58,32]:List UInt8))++[UInt8.ofNat (IntKind.u8.wrap ((97:Int)+(b.tmod (26:Int)))).toNat])++([64,104,13,10,83,117,98,106,101,99,116,58,32]:List UInt8))++[UInt8.ofNat (IntKind.u8.wrap ((97:Int)+(a.tmod (26:Int)))).toNat])++([32]:List UInt8))++[UInt8.ofNat (IntKind.u8.wrap ((97:Int)+(b.tmod (26:Int)))).toNat])++([13,10,70,114,111,109,58,32,78,32]:List UInt8))++[UInt8.ofNat (IntKind.u8.wrap ((97:Int)+(a.tmod (26:Int)))).toNat])++([32,60]:List UInt8)).length+[UInt8.ofNat (IntKind.u8.wrap ((97:Int)+(b.tmod (26:Int)))).toNat].length)) (need (lenok ((((((((((((([77,101,115,115,97,103,101,45,73,68,58,32,60]:List UInt8)++[UInt8.ofNat (IntKind.u8.wrap ((97:Int)+(a.tmod (26:Int)))).toNat])++([62,13,10,84,111,58,32]:List UInt8))++[UInt8.ofNat (IntKind.u8.wrap ((97:Int)+(b.tmod (26:Int)))).toNat])++([64,104,13,10,83,117,98,106,101,99,116,58,32]:List UInt8))++[UInt8.ofNat (IntKind.u8.wrap ((97:Int)+(a.tmod (26:Int)))).toNat])++([32]:List UInt8))++[UInt8.ofNat (IntKind.u8.wrap ((97:Int)+(b.tmod (26:Int)))).toNat])++([13,10,70,114,111,109,58,32,78,32]:List UInt8))++[UInt8.ofNat (IntKind.u8.wrap ((97:Int)+(a.tmod (26:Int)))).toNat])++([32,60]:List UInt8))++[UInt8.ofNat (IntKind.u8.wrap ((97:Int)+(b.tmod (26:Int)))).toNat]).length+([64,103,62,13,10,13,10]:List UInt8).length)) (Blmade_1 F [UInt8.ofNat (IntKind.u8.wrap ((97:Int)+(a.tmod (26:Int)))).toNat] [UInt8.ofNat (IntKind.u8.wrap ((97:Int)+(b.tmod (26:Int)))).toNat] ((((((((((((([77,101,115,115,97,103,101,45,73,68,58,32,60]:List UInt8)++[UInt8.ofNat (IntKind.u8.wrap ((97:Int)+(a.tmod (26:Int)))).toNat])++([62,13,10,84,111,58,32]:List UInt8))++[UInt8.ofNat (IntKind.u8.wrap ((97:Int)+(b.tmod (26:Int)))).toNat])++([64,104,13,10,83,117,98,106,101,99,116,58,32]:List UInt8))++[UInt8.ofNat (IntKind.u8.wrap ((97:Int)+(a.tmod (26:Int)))).toNat])++([32]:List UInt8))++[UInt8.ofNat (IntKind.u8.wrap ((97:Int)+(b.tmod (26:Int)))).toNat])++([13,10,70,114,111,109,58,32,78,32]:List UInt8))++[UInt8.ofNat (IntKind.u8.wrap ((97:Int)+(a.tmod (26:Int)))).toNat])++([32,60]:List UInt8))++[UInt8.ofNat (IntKind.u8.wrap ((97:Int)+(b.tmod (26:Int)))).toNat])++([64,103,62,13,10,13,10]:List UInt8)))))))))))))))):=by
 have h:Flmade F a b=need ((26:Int)≠0) (need ((26:Int)≠0) (need (lenok (([77,101,115,115,97,103,101,45,73,68,58,32,60]:List UInt8).length+[UInt8.ofNat (IntKind.u8.wrap ((97:Int)+(a.tmod (26:Int)))).toNat].length)) (need (lenok ((([77,101,115,115,97,103,101,45,73,68,58,32,60]:List UInt8)++[UInt8.ofNat (IntKind.u8.wrap ((97:Int)+(a.tmod (26:Int)))).toNat]).length+([62,13,10,84,111,58,32]:List UInt8).length)) (need (lenok (((([77,101,115,115,97,103,101,45,73,68,58,32,60]:List UInt8)++[UInt8.ofNat (IntKind.u8.wrap ((97:Int)+(a.tmod (26:Int)))).toNat])++([62,13,10,84,111,58,32]:List UInt8)).length+[UInt8.ofNat (IntKind.u8.wrap ((97:Int)+(b.tmod (26:Int)))).toNat].length)) (need (lenok ((((([77,101,115,115,97,103,101,45,73,68,58,32,60]:List UInt8)++[UInt8.ofNat (IntKind.u8.wrap ((97:Int)+(a.tmod (26:Int)))).toNat])++([62,13,10,84,111,58,32]:List UInt8))++[UInt8.ofNat (IntKind.u8.wrap ((97:Int)+(b.tmod (26:Int)))).toNat]).length+([64,104,13,10,83,117,98,106,101,99,116,58,32]:List UInt8).length)) (need (lenok (((((([77,101,115,115,97,103,101,45,73,68,58,32,60]:List UInt8)++[UInt8.ofNat (IntKind.u8.wrap ((97:Int)+(a.tmod (26:Int)))).toNat])++([62,13,10,84,111,58,32]:List UInt8))++[UInt8.ofNat (IntKind.u8.wrap ((97:Int)+(b.tmod (26:Int)))).toNat])++([64,104,13,10,83,117,98,106,101,99,116,58,32]:List UInt8)).length+[UInt8.ofNat (IntKind.u8.wrap ((97:Int)+(a.tmod (26:Int)))).toNat].length)) (need (lenok ((((((([77,101,115,115,97,103,101,45,73,68,58,32,60]:List UInt8)++[UInt8.ofNat (IntKind.u8.wrap ((97:Int)+(a.tmod (26:Int)))).toNat])++([62,13,10,84,111,58,32]:List UInt8))++[UInt8.ofNat (IntKind.u8.wrap ((97:Int)+(b.tmod (26:Int)))).toNat])++([64,104,13,10,83,117,98,106,101,99,116,58,32]:List UInt8))++[UInt8.ofNat (IntKind.u8.wrap ((97:Int)+(a.tmod (26:Int)))).toNat]).length+([32]:List UInt8).length)) (need (lenok (((((((([77,101,115,115,97,103,101,45,73,68,58,32,60]:List UInt8)++[UInt8.ofNat (IntKind.u8.wrap ((97:Int)+(a.tmod (26:Int)))).toNat])++([62,13,10,84,111,58,32]:List UInt8))++[UInt8.ofNat (IntKind.u8.wrap ((97:Int)+(b.tmod (26:Int)))).toNat])++([64,104,13,10,83,117,98,106,101,99,116,58,32]:List UInt8))++[UInt8.ofNat (IntKind.u8.wrap ((97:Int)+(a.tmod (26:Int)))).toNat])++([32]:List UInt8)).length+[UInt8.ofNat (IntKind.u8.wrap ((97:Int)+(b.tmod (26:Int)))).toNat].length)) (need (lenok ((((((((([77,101,115,115,97,103,101,45,73,68,58,32,60]:List UInt8)++[UInt8.ofNat (IntKind.u8.wrap ((97:Int)+(a.tmod (26:Int)))).toNat])++([62,13,10,84,111,58,32]:List UInt8))++[UInt8.ofNat (IntKind.u8.wrap ((97:Int)+(b.tmod (26:Int)))).toNat])++([64,104,13,10,83,117,98,106,101,99,116,58,32]:List UInt8))++[UInt8.ofNat (IntKind.u8.wrap ((97:Int)+(a.tmod (26:Int)))).toNat])++([32]:List UInt8))++[UInt8.ofNat (IntKind.u8.wrap ((97:Int)+(b.tmod (26:Int)))).toNat]).length+([13,10,70,114,111,109,58,32,78,32]:List UInt8).length)) (need (lenok (((((((((([77,101,115,115,97,103,101,45,73,68,58,32,60]:List UInt8)++[UInt8.ofNat (IntKind.u8.wrap ((97:Int)+(a.tmod (26:Int)))).toNat])++([62,13,10,84,111,58,32]:List UInt8))++[UInt8.ofNat (IntKind.u8.wrap ((97:Int)+(b.tmod (26:Int)))).toNat])++([64,104,13,10,83,117,98,106,101,99,116,58,32]:List UInt8))++[UInt8.ofNat (IntKind.u8.wrap ((97:Int)+(a.tmod (26:Int)))).toNat])++([32]:List UInt8))++[UInt8.ofNat (IntKind.u8.wrap ((97:Int)+(b.tmod (26:Int)))).toNat])++([13,10,70,114,111,109,58,32,78,32]:List UInt8)).length+[UInt8.ofNat (IntKind.u8.wrap ((97:Int)+(a.tmod (26:Int)))).toNat].length)) (need (lenok ((((((((((([77,101,115,115,97,103,101,45,73,68,58,32,60]:List UInt8)++[UInt8.ofNat (IntKind.u8.wrap ((97:Int)+(a.tmod (26:Int)))).toNat])++([62,13,10,84,111,58,32]:List UInt8))++[UInt8.ofNat (IntKind.u8.wrap ((97:Int)+(b.tmod (26:Int)))).toNat])++([64,104,13,10,83,117,98,106,101,99,116,58,32]:List UInt8))++[UInt8.ofNat (IntKind.u8.wrap ((97:Int)+(a.tmod (26:Int)))).toNat])++([32]:List UInt8))++[UInt8.ofNat (IntKind.u8.wrap ((97:Int)+(b.tmod (26:Int)))).toNat])++([13,10,70,114,111,109,58,32,78,32]:List UInt8))++[UInt8.ofNat (IntKind.u8.wrap ((97:Int)+(a.tmod (26:Int)))).toNat]).length+([32,60]:List UInt8).length)) (need (lenok (((((((((((([77,101,115,115,97,103,101,45,73,68,58,32,60]:List UInt8)++[UInt8.ofNat (IntKind.u8.wrap ((97:Int)+(a.tmod (26:Int)))).toNat])++([62,13,10,84,111,58,32]:List UInt8))++[UInt8.ofNat (IntKind.u8.wrap ((97:Int)+(b.tmod (26:Int)))).toNat])++([64,104,13,10,83,117,98,106,101,99,116,58,32]:List UInt8))++[UInt8.ofNat (IntKind.u8.wrap ((97:Int)+(a.tmod (26:Int)))).toNat])++([32]:List UInt8))++[UInt8.ofNat (IntKind.u8.wrap ((97:Int)+(b.tmod (26:Int)))).toNat])++([13,10,70,114,111,109,58,32,78,32]:List UInt8))++[UInt8.ofNat (IntKind.u8.wrap ((97:Int)+(a.tmod (26:Int)))).toNat])++([32,60]:List UInt8)).length+[UInt8.ofNat (IntKind.u8.wrap ((97:Int)+(b.tmod (26:Int)))).toNat].length)) (need (lenok ((((((((((((([77,101,115,115,97,103,101,45,73,68,58,32,60]:List UInt8)++[UInt8.ofNat (IntKind.u8.wrap ((97:Int)+(a.tmod (26:Int)))).toNat])++([62,13,10,84,111,58,32]:List UInt8))++[UInt8.ofNat (IntKind.u8.wrap ((97:Int)+(b.tmod (26:Int)))).toNat])++([64,104,13,10,83,117,98,106,101,99,116,58,32]:List UInt8))++[UInt8.ofNat (IntKind.u8.wrap ((97:Int)+(a.tmod (26:Int)))).toNat])++([32]:List UInt8))++[UInt8.ofNat (IntKind.u8.wrap ((97:Int)+(b.tmod (26:Int)))).toNat])++([13,10,70,114,111,109,58,32,78,32]:List UInt8))++[UInt8.ofNat (IntKind.u8.wrap ((97:Int)+(a.tmod (26:Int)))).toNat])++([32,60]:List UInt8))++[UInt8.ofNat (IntKind.u8.wrap ((97:Int)+(b.tmod (26:Int)))).toNat]).length+([64,103,62,13,10,13,10]:List UInt8).length)) (Blmade_1 F [UInt8.ofNat (IntKind.u8.wrap ((97:Int)+(a.tmod (26:Int)))).toNat] [UInt8.ofNat (IntKind.u8.wrap ((97:Int)+(b.tmod (26:Int)))).toNat] ((((((((((((([77,101,115,115,97,103,101,45,73,68,58,32,60]:List UInt8)++[UInt8.ofNat (IntKind.u8.wrap ((97:Int)+(a.tmod (26:Int)))).toNat])++([62,13,10,84,111,58,32]:List UInt8))++[UInt8.ofNat (IntKind.u8.wrap ((97:Int)+(b.tmod (26:Int)))).toNat])++([64,104,13,10,83,117,98,106,101,99,116,58,32]:List UInt8))++[UInt8.ofNat (IntKind.u8.wrap ((97:Int)+(a.tmod (26:Int)))).toNat])++([32]:List UInt8))++[UInt8.ofNat (IntKind.u8.wrap ((97:Int)+(b.tmod (26:Int)))).toNat])++([13,10,70,114,111,109,58,32,78,32]:List UInt8))++[UInt8.ofNat (IntKind.u8.wrap ((97:Int)+(a.tmod (26:Int)))).toNat])++([32,60]:List UInt8))++[UInt8.ofNat (IntKind.u8.wrap ((97:Int)+(b.tmod (26:Int)))).toNat])++([64,103,62,13,10,13,10]:List UInt8)))))))))))))))):=by kernel_rfl
 rw [h,need_pos (show (26:Int)≠0 from (by decide)),need_pos (show (26:Int)≠0 from (by decide))]
theorem fn_lmade (F:Nat) (a b:Int) (r:AV) (h:(∃ M vs,ARels γ0 M [.p (.int .u8 a),.p (.int .u8 b)] vs)->Flmade F a b=some (r,[])):FnP Tryz.prog 4 [.p (.int .u8 a),.p (.int .u8 b)] r:=
 FnP_run Glmade F rfl (EnvOk_mk (l:=[(10,sp_awake),(12,sp_envel),(13,sp_strucT),(14,sp_subject)]) ⟨ok_awake.any,ok_envel.any,ok_strucT.any,ok_subject.any,trivial⟩) (EnvROk_mk (l:=[]) trivial) (Checked.mixed Tryz.checked) (fn:=Tryz.f4) (by kernel_rfl) (by kernel_rfl) rfl h
def mdW (x y:UInt8):List UInt8:=
 ((((((((((((((([40,78,73,76,32,34]:List UInt8)++[x])++([32]:List UInt8))++[y])++([34,32]:List UInt8))++mdF x y)++([32]:List UInt8))++mdF x y)++([32]:List UInt8))++mdF x y)++([32,40,40,78,73,76,32,78,73,76,32,34]:List UInt8))++[y])++LB_32c53d88)++[x])++([62,34,41]:List UInt8))
theorem md_env {x y:UInt8} (h:MdOk x y):envS (mdT x y)=mdW x y:=by
 rw [envS,h.1,md_envL h]; kernel_rfl
theorem md_3 (F:Nat) {n m:Nat} (hn:n < 26) (hm:m < 26):Blmade_3 F [ltr n] [ltr m] (mdT (ltr n) (ltr m)) (mdW (ltr n) (ltr m))=some (.p (.bool true),[]):=by
 have h:=md_ok hn hm
 obtain ⟨at_,hd,ht⟩:=md_tree hn hm
 have hl:=md_len (ltr n) (ltr m)
 rw [Blmade_3_eq,md_env h,ht,md_struc,md_subj h]
 refine need_mk (md_envok h) (need_mk (fun _=>⟨by omega,md_strucok _ _ _ _⟩) (need_mk (fun _=>by omega) (need_mk (fun _=>by unfold lenok; simp) (need_mk (fun _=>by unfold lenok; simp) ?_))))
 rw [show (mdW (ltr n) (ltr m)==mdW (ltr n) (ltr m))=true from by simp,show (stW==LB_c19c6bac)=true from by kernel_rfl,show (([ltr n,32,ltr m]:List UInt8)==([ltr n]++([32]:List UInt8))++[ltr m])=true from by simp]
 rfl
theorem lmade_eq (a b:Int) (ha:0<=a/\a < 256) (hb:0<=b/\b < 256):Flmade 0 a b=some (.p (.bool true),[]):=by
 obtain ⟨n,hn,ea⟩:=ltr_of a ha
 obtain ⟨m,hm,eb⟩:=ltr_of b hb
 rw [Flmade_eq,ea,eb]
 repeat (with_reducible refine need_mk ?_ ?_; · unfold lenok; simp)
 rw [Blmade_1_eq]
 repeat (with_reducible refine need_mk ?_ ?_; · unfold lenok; simp)
 rw [Blmade_2_eq]
 repeat (with_reducible refine need_mk ?_ ?_; · unfold lenok; simp [LB_32c53d88])
 exact md_3 0 hn hm
end Go.Proofs.YtoanepondbagcaaGreatDoor
namespace Go.Am
open Go Go.RowKit Go.ChangeShapes Go.WideShapes
def memOf (w:World):Mem:=fun b o=>w.cell? ⟨b,o,none⟩
theorem memOf_ok (w:World) (hg:GOk (memOf w)):MOk (memOf w) w:=⟨fun _ _ _ h=>h,hg⟩
section
variable {H:Type} {enc:TypeId×Value->H} {P:Program} {w:World} {spare:Nat->Bool} {held:Bool} {M:Mem}
end
theorem walk_of_FnP2 {P:Program} {f:FuncId} {args:List AV} (h:FnP P f args (.p (.bool true))) {vs:List Value} (w:World) (hg:GOk (memOf w)) (hv:ARels γ0 (memOf w) args vs):
 Calls P f vs.toArray w fun e w'=>e=.returned (.bool true)/\Below w.heap.size w w':=by
 refine (h (memOf w) w vs (memOf_ok w hg) hv).mono fun e w' ⟨v,M',he,_,_,_,hr,hb⟩=>?_
 rw [hr.bool_inv] at he
 exact ⟨he,hb⟩
theorem int_argM (M:Mem) {k:IntKind} {n:Int} (h:k.has n):ARel γ0 M (.p (.int k n)) (.int k n):=.p _ _ (.int k n h)
end Go.Am
set_option linter.unusedVariables false
namespace Go.Am
open Go Go.RowKit Go.ChangeShapes Go.WideShapes Go.ChangeAt
variable {H:Type} {enc:TypeId×Value->H}
theorem returns_shaped {a:Assume} {C:Checked} {os:Os} {f:FuncId} {fn:Func} {s:ChangeSpec} {conds:List PathCond} {apart fresh handsOn again:Bool} {X:World->Array Value->Prop}
 (own:ownKnob C.prog.godebug=none) (started:os.Started) (noInit:C.prog.inits.idxOf? f=none) (hfn:C.prog.funcs[f]?=some fn)
 (witness:∃ (w:World) (tape:Tape) (i:Input),w.os=os/\(w.forCall tape i).Shaped C.prog/\i.vars=[]/\Input.okWide C.prog (w.forCall tape i) .any w.heap.size f i/\
  ((s.pre enc C.prog fn conds apart (w.forCall tape i).memory i.args/\X (w.forCall tape i).memory i.args)/\sizedMet enc C.prog fn (OpenSpec.ofChange s) apart (w.forCall tape i).memory i.args)/\a.holds C.prog (lone (Frame.enter C.prog f i.args .normal) [] (w.forCall tape i)))
 (contract:∀ (W:World) (base:Nat) (args:Array Value) (ds gs:List (DataW H)) (before:List MemPlace),W.ShapedOpen C.prog->
  (∀ (j:Nat) t v,fn.params[j]?=some t->args[j]?=some v->Value.okWide C.prog W .any base t v)->
  DataW.Whole enc C.prog fn.params.toList s.vars apart W args.toList ds gs before->
  (DataW.weightsEach C.prog (fn.params.toList++s.plain.varTypes C.prog) (ds++gs)).all (·<=reachBytes)=true->
  Calls C.prog f args W fun e W'=>∃ v,e=.returned v/\s.post enc C.prog fn apart fresh handsOn again W args v W'):
 ReturnsInHanded a C os f .any (fun w args=>(s.pre enc C.prog fn conds apart w args/\X w args)/\sizedMet enc C.prog fn (OpenSpec.ofChange s) apart w args) (s.post enc C.prog fn apart fresh handsOn again):=by
 refine returnsInHanded_of_calls own started noInit witness ?_
 intro w tape i _ hsh _ hok hpre _
 obtain ⟨_,_,_,fn',hfn',_,_,_,_,hval⟩:=hok
 have e:fn'=fn:=Option.some.inj (hfn'.symm.trans hfn)
 subst e
 obtain ⟨⟨⟨ds,gs,before,hw,_⟩,_⟩,hz⟩:=hpre
 have hw':=DataW.Whole.of_heap (w':=w.forCall tape i) (by rfl) hw
 refine (contract (w.forCall tape i) w.heap.size i.args ds gs before hsh hval hw' (hz.weights hw)).mono fun e W' ⟨v,he,hp⟩=>?_
 subst he
 exact ChangeSpec.post_blind hp
end Go.Am
