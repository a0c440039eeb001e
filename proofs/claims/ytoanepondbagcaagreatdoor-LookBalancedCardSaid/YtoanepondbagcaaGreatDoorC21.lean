/-
  Lifted functions, and facts about them.
-/
import Derived.Test.YtoanepondbagcaaGreatDoorRows
import Derived.Test.YtoanepondbagcaaGreatDoorAmC
import Derived.Test.YtoanepondbagcaaGreatDoorC01
import Derived.Test.YtoanepondbagcaaGreatDoorC20
import Derived.Test.YtoanepondbagcaaGreatDoorC10
import Derived.Test.YtoanepondbagcaaGreatDoorC19
namespace Go.Proofs.YtoanepondbagcaaGreatDoor
open Go Go.Am
set_option linter.unusedVariables false
theorem dec_len (s:List UInt8):∀ (f i:Nat),(decF f s i).length<=12 * (s.length - i):=by
 intro f
 induction f with
 | zero=>intro i; simp [decF]
 | succ f ih=>
  intro i
  rw [decF]
  split
  .rename_i hi
   cases ho:okAt s i with
   | none=>have:=ih (i+1); simp only [List.length_cons]; omega
   | some p=>
    obtain ⟨t,n⟩:=p
    obtain ⟨_,h1,h2,_,_,h3⟩:=okAt_some ho
    have h4:=contN_le h2
    have:=ih (contN s n)
    simp only [List.length_append]; omega
  .simp
theorem wordS_len (s:List UInt8):(wordS s).length<=12 * s.length:=dec_len s _ 0
abbrev cSubj:List UInt8:=[115,117,98,106,101,99,116]
def subjV (s:List UInt8):List UInt8:=(firstS (splitS s 0 (s.length:Int)).1 cSubj).1
def subjS (s:List UInt8):List UInt8:=shownS (wordS (subjV s))
theorem splitAll_ok {s:List UInt8} (hs:s.length<=1000000) {n:List UInt8} (hn:n.length<=100):firstok (splitS s 0 (s.length:Int)).1 n:=by
 have h1:=splitS_len s 0 (s.length:Int)
 exact ⟨by omega,fun x hx=>by have:=(splitS_elem s 0 (s.length:Int) x hx).1; omega,by omega⟩
theorem subjV_len (s:List UInt8):(subjV s).length<=s.length:=firstS_len fun x hx=>(splitS_elem s 0 (s.length:Int) x hx).2
noncomputable def csubject:Code:=bodyOf Tryz.f14
noncomputable def Gsubject:Cfg:=⟨Tryz.prog,mkEnv [(24,sp_fields),(31,sp_first),(32,sp_shown),(33,sp_wdec)],mkEnvR [],20,[],[([1,1,1],⟨[5],[]⟩)],[]⟩
noncomputable def Bsubject_1 (F:Nat) (vs1:List UInt8):Option Ans:=runB Gsubject csubject (kP Tryz.prog Tryz.f14.results.toList) F [] [1,1,1] [(5,.p (.str vs1))] []
noncomputable def Fsubject (F:Nat) (s:List UInt8):Option Ans:=runF Gsubject Tryz.f14 F [.p (.str s)]
theorem Bsubject_1_eq (F:Nat) (vs1:List UInt8):Bsubject_1 F vs1=need (vs1.length<=100000) (need ((wordS vs1).length<=1000000) (some (.p (.str (shownS (wordS vs1))),[]))):=by kernel_rfl
theorem Fsubject_eq (F:Nat) (s:List UInt8):Fsubject F s=need (s.length<=1000000) (need (firstok ((splitS s 0 (s.length:Int)).1) ([115,117,98,106,101,99,116]:List UInt8)) (Bsubject_1 F ((firstS ((splitS s 0 (s.length:Int)).1) ([115,117,98,106,101,99,116]:List UInt8)).1))):=by kernel_rfl
theorem fn_subject (F:Nat) (s:List UInt8) (r:AV) (h:(∃ M vs,ARels γ0 M [.p (.str s)] vs)->Fsubject F s=some (r,[])):FnP Tryz.prog 14 [.p (.str s)] r:=
 FnP_run Gsubject F rfl (EnvOk_mk (l:=[(24,sp_fields),(31,sp_first),(32,sp_shown),(33,sp_wdec)]) ⟨ok_fields.any,ok_first.any,ok_shown.any,ok_wdec.any,trivial⟩) (EnvROk_mk (l:=[]) trivial) (Checked.mixed Tryz.checked) (fn:=Tryz.f14) (by kernel_rfl) (by kernel_rfl) rfl h
theorem subject_eq (s:List UInt8) (hs:s.length<=50000):Fsubject 0 s=some (.p (.str (subjS s)),[]):=by
 have h1:=subjV_len s
 have h2:=wordS_len (subjV s)
 rw [Fsubject_eq]
 refine need_mk (by omega) (need_mk (splitAll_ok (by omega) (by simp)) ?_)
 rw [Bsubject_1_eq]
 exact need_mk (by show (subjV s).length<=_; omega) (need_mk (by show (wordS (subjV s)).length<=_; omega) rfl)
def sp_subject:List AV->Option (AV×Option Prop)
 | [.p (.str s)]=>some (.p (.str (subjS s)),some (s.length<=50000))
 | _=>none
theorem ok_subject:SpecOk Tryz.prog 14 sp_subject:=by
 intro zs r ok he hok
 unfold sp_subject at he
 split at he
 .cases he; exact ⟨by kernel_rfl,fn_subject 0 _ _ fun hx=>subject_eq _ hok⟩
 .cases he
noncomputable def Gawake:Cfg:=⟨Tryz.prog,mkEnv [(12,sp_envelope0),(14,sp_subject)],mkEnvR [],7,[],[],[]⟩
noncomputable def Fawake (F:Nat) :Option Ans:=runF Gawake Tryz.f10 F []
theorem Fawake_eq (F:Nat) :Fawake F =need ((envE==LB_b9b80970)=true->LB_208aacab.length<=50000) (((some (.p (.bool ((envE==LB_b9b80970)&&((subjS LB_208aacab)==([97]:List UInt8)))),[])))):=by
 have h:Fawake F =need ((envE==LB_b9b80970)=true->LB_208aacab.length<=50000) (need ((envE==LB_b9b80970)=true->(envE==LB_b9b80970)=true) (need ((envE==LB_b9b80970)=true->(envE==LB_b9b80970)=true) (some (.p (.bool ((envE==LB_b9b80970)&&((subjS LB_208aacab)==([97]:List UInt8)))),[])))):=by kernel_rfl
 rw [h,need_pos (show (envE==LB_b9b80970)=true->(envE==LB_b9b80970)=true from (fun q0=>q0)),need_pos (show (envE==LB_b9b80970)=true->(envE==LB_b9b80970)=true from (fun q0=>q0))]
theorem fn_awake (F:Nat)  (r:AV) (h:(∃ M vs,ARels γ0 M [] vs)->Fawake F =some (r,[])):FnP Tryz.prog 10 [] r:=
 FnP_run Gawake F rfl (EnvOk_mk (l:=[(12,sp_envelope0),(14,sp_subject)]) ⟨ok_envelope0.any,ok_subject.any,trivial⟩) (EnvROk_mk (l:=[]) trivial) (Checked.mixed Tryz.checked) (fn:=Tryz.f10) (by kernel_rfl) (by kernel_rfl) rfl h
theorem subj_awake:subjS LB_208aacab=[97]:=by
 have hv:subjV LB_208aacab=[61,63,117,116,102,45,56,63,81,63,97,63,61]:=by kernel_rfl
 unfold subjS
 rw [hv]
 have hp:parse [61,63,117,116,102,45,56,63,81,63,97,63,61] 0=some (7,11):=by kernel_rfl
 have hq:qdec (repS [97] 95 32)=[97]:=by
  show qdec [97]=[97]
  rw [qdec_ne (by decide),qdec_nil]
 have hb:bodyS 81 [97]=some [97]:=by
  unfold bodyS
  rw [if_neg (by decide),if_pos (by decide),hq]
 have hy:saysS cUtf8 [97]=([97],true):=by kernel_rfl
 have ho:oneS [61,63,117,116,102,45,56,63,81,63,97,63,61] ((0:Nat):Int)=([97],13,true):=by
  unfold oneS
  rw [show ((0:Nat):Int).toNat=0 from rfl,hp]
  show (match bodyS 81 [97] with
   | none=>([],((0:Nat):Int),false)
   | some u=>((saysS cUtf8 u).1,((11+2:Nat):Int),(saysS cUtf8 u).2))=_
  rw [hb]
  show ((saysS cUtf8 [97]).1,((11+2:Nat):Int),(saysS cUtf8 [97]).2)=_
  rw [hy]; rfl
 have hk:okAt [61,63,117,116,102,45,56,63,81,63,97,63,61] 0=some ([97],13):=by
  unfold okAt
  rw [if_pos (by rw [ho]),ho]; rfl
 have hw:wordS [61,63,117,116,102,45,56,63,81,63,97,63,61]=[97]:=by
  show dec _ 0=_
  rw [dec_some (by decide) hk,dec_end (by decide)]; rfl
 rw [hw]
 show shownS [97]=[97]
 kernel_rfl
theorem awake_eq:Fawake 0=some (.p (.bool true),[]):=by
 rw [Fawake_eq]
 refine need_mk (fun _=>by simp [LB_208aacab]) ?_
 rw [subj_awake]; rfl
def sp_awake:List AV->Option (AV×Option Prop)
 | []=>some (.p (.bool true),none)
 | _=>none
theorem ok_awake:SpecOk Tryz.prog 10 sp_awake:=by
 intro zs r ok he hok
 unfold sp_awake at he
 split at he
 .cases he; exact ⟨by kernel_rfl,fn_awake 0  _ fun hx=>awake_eq ⟩
 .cases he
end Go.Proofs.YtoanepondbagcaaGreatDoor
namespace Go.Proofs.YtoanepondbagcaaGreatDoor
open Go Go.Am
set_option linter.unusedVariables false
theorem adF_len:∀ (f:Nat) (r:List UInt8) (ws:List (List UInt8)) (an:List UInt8) (hs:Bool) (out:List AddrT),(adF f r ws an hs out).length<=out.length+r.length+1
 | 0,r,ws,an,hs,out=>by have:=tellS_len ws an hs out; rw [adF]; omega
 | f+1,[],ws,an,hs,out=>by have:=tellS_len ws an hs out; rw [adF]; simp; omega
 | f+1,c::r,ws,an,hs,out=>by
  have h1:=adF_len f (r.drop (wiF r).2) (ws++[(wiF r).1]) an hs out
  have h2:=adF_len f (r.drop (rmF 1 r)) ws an hs out
  have h3:=adF_len f (r.drop ((cutS r 62).1.length+1)) ws (unbS (cutS r 62).1) true out
  have h4:=adF_len f r [] [] false out
  have h5:=adF_len f r [] [] false (tellS ws an hs out)
  have h6:=adF_len f r ws an hs out
  have h7:=adF_len f (r.dropWhile isAt) (ws++[c::r.takeWhile isAt]) an hs out
  have h8:=tellS_len ws an hs out
  have h9:=takeW_le isAt r
  rw [List.length_drop] at h1 h2 h3
  rw [adF,List.length_cons]
  split
  .omega
  .split
   .omega
   .split
    .omega
    .split
     .omega
     .split
      .omega
      .split <;> omega
theorem listA_len (s:List UInt8):(listA s).length<=s.length+1:=by
 have:=adF_len (s.length+1) s [] [] false []
 unfold listA
 simp at this ⊢
 omega
end Go.Proofs.YtoanepondbagcaaGreatDoor
namespace Go.Proofs.YtoanepondbagcaaGreatDoor
open Go Go.Am
set_option linter.unusedVariables false
def catS (l:List (List UInt8)):List UInt8:=l.flatten
abbrev aputok (b:List UInt8) (l:List (List UInt8)):Prop:=b.length+totL l<=140737488355328/\l.length<=1000000
noncomputable def caputr:Code:=bodyOf Tryz.f47
noncomputable def Gaputr:Cfg:=⟨Tryz.prog,mkEnv [],mkEnvR [(48,sp_wstr)],14,[70000],[([0,1],⟨[1,5,6,7],[⟨.fix 70000,70000,.cells []⟩,⟨.cell 70000 1,70001001,(.barr 5 false [])⟩]⟩)],[([1,0,0,1,1,0,0,1],[1])]⟩
noncomputable def Baputr_1 (F f1:Nat) (l:List (List UInt8)) (vi1 vi2:Int) (vb3:List UInt8):Option Ans:=runR Gaputr caputr (kR Tryz.prog [70000] ⟨[],[⟨.fix 70000,70000,.cells []⟩,⟨.cell 70000 1,70001001,(.barr 5 false [])⟩]⟩ [70000,70001001] Tryz.f47.results.toList) F [] [1,0] f1 [(1,.ref 70000 0),(5,.p (.list 1 (.dat .str l))),(6,.p (.int .i64 vi1)),(7,.p (.int .i64 vi2))] [(70000,.bldr 61 (.arr 70001001)),(70001001,.barr 5 false vb3)]
noncomputable def Faputr (F:Nat) (l:List (List UInt8)) (b:List UInt8):Option Ans:=runFR Gaputr Tryz.f47 ⟨[],[⟨.fix 70000,70000,.cells []⟩,⟨.cell 70000 1,70001001,(.barr 5 false [])⟩]⟩ [70000,70001001] F [.p (.list 1 (.dat .str l)),.ref 70000 0] [(70000,.bldr 61 (.arr 70001)),(70001,.barr 5 false b)]
theorem Baputr_1_eq (F f1:Nat) (l:List (List UInt8)) (vi1 vi2:Int) (vb3:List UInt8):Baputr_1 F (f1+1) l vi1 vi2 vb3=cond (decide (vi2 < vi1)) (need (0<=vi2/\vi2 < (l.length:Int)) (need (vb3.length+(l.getD (vi2).toNat []).length<=140737488355328) (need (i64ok (vi2+(1:Int))) (Baputr_1 F f1 l vi1 (vi2+(1:Int)) (vb3++(l.getD (vi2).toNat [])))))) (some (.tup [],[(70000,.bldr 61 (.arr 70001001)),(70001001,.barr 5 false vb3)])):=by kernel_rfl
theorem Faputr_eq (F:Nat) (l:List (List UInt8)) (b:List UInt8):Faputr F l b=Baputr_1 F F l (l.length:Int) (0:Int) b:=by kernel_rfl
theorem fn_aputr (F:Nat) (l:List (List UInt8)) (b:List UInt8) (r:AV) (os:List (Nat×AObj)) (h:(∃ γ M w vs,ARels γ M [.p (.list 1 (.dat .str l)),.ref 70000 0] vs/\Objs γ M w (fun i=>lookO i [(70000,.bldr 61 (.arr 70001)),(70001,.barr 5 false b)]) (fun b=>b < w.heap.size))->Faputr F l b=some (r,os)):FnR Tryz.prog 47 [.p (.list 1 (.dat .str l)),.ref 70000 0] [(70000,.bldr 61 (.arr 70001)),(70001,.barr 5 false b)] [70000] r os:=
 FnR_run Gaputr ⟨[],[⟨.fix 70000,70000,.cells []⟩,⟨.cell 70000 1,70001001,(.barr 5 false [])⟩]⟩ [70000,70001001] F rfl (EnvOk_mk (l:=[]) trivial) (EnvROk_mk (l:=[(48,sp_wstr)]) ⟨ok_wstr,trivial⟩) (Checked.mixed Tryz.checked) (fn:=Tryz.f47) (by kernel_rfl) (by kernel_rfl) rfl h
noncomputable def caputn:Code:=bodyOf Tryz.f47
noncomputable def Gaputn:Cfg:=⟨Tryz.prog,mkEnv [],mkEnvR [(48,sp_wstr)],14,[70000],[([0,1],⟨[1,5,6,7],[⟨.fix 70000,70000,.cells []⟩,⟨.cell 70000 1,70001001,(.barr 5 false [])⟩]⟩)],[([1,0,0,1,1,0,0,1],[1])]⟩
noncomputable def Baputn_1 (F f1:Nat) (l:List (List UInt8)) (vi1 vi2:Int) (vb3:List UInt8):Option Ans:=runR Gaputn caputn (kR Tryz.prog [70000] ⟨[],[⟨.fix 70000,70000,.cells []⟩,⟨.cell 70000 1,70001001,(.barr 5 false [])⟩]⟩ [70000,70001001] Tryz.f47.results.toList) F [] [1,0] f1 [(1,.ref 70000 0),(5,.p (.list 1 (.dat .str l))),(6,.p (.int .i64 vi1)),(7,.p (.int .i64 vi2))] [(70000,.bldr 61 (.arr 70001001)),(70001001,.barr 5 false vb3)]
noncomputable def Faputn (F:Nat) (l:List (List UInt8)):Option Ans:=runFR Gaputn Tryz.f47 ⟨[],[⟨.fix 70000,70000,.cells []⟩,⟨.cell 70000 1,70001001,(.barr 5 false [])⟩]⟩ [70000,70001001] F [.p (.list 1 (.dat .str l)),.ref 70000 0] [(70000,.bldr 61 (.p .nil))]
theorem Baputn_1_eq (F f1:Nat) (l:List (List UInt8)) (vi1 vi2:Int) (vb3:List UInt8):Baputn_1 F (f1+1) l vi1 vi2 vb3=cond (decide (vi2 < vi1)) (need (0<=vi2/\vi2 < (l.length:Int)) (need (vb3.length+(l.getD (vi2).toNat []).length<=140737488355328) (need (i64ok (vi2+(1:Int))) (Baputn_1 F f1 l vi1 (vi2+(1:Int)) (vb3++(l.getD (vi2).toNat [])))))) (some (.tup [],[(70000,.bldr 61 (.arr 70001001)),(70001001,.barr 5 false vb3)])):=by kernel_rfl
theorem Faputn_eq (F:Nat) (l:List (List UInt8)):Faputn F l=Baputn_1 F F l (l.length:Int) (0:Int) []:=by kernel_rfl
theorem fn_aputn (F:Nat) (l:List (List UInt8)) (r:AV) (os:List (Nat×AObj)) (h:(∃ γ M w vs,ARels γ M [.p (.list 1 (.dat .str l)),.ref 70000 0] vs/\Objs γ M w (fun i=>lookO i [(70000,.bldr 61 (.p .nil))]) (fun b=>b < w.heap.size))->Faputn F l=some (r,os)):FnR Tryz.prog 47 [.p (.list 1 (.dat .str l)),.ref 70000 0] [(70000,.bldr 61 (.p .nil))] [70000] r os:=
 FnR_run Gaputn ⟨[],[⟨.fix 70000,70000,.cells []⟩,⟨.cell 70000 1,70001001,(.barr 5 false [])⟩]⟩ [70000,70001001] F rfl (EnvOk_mk (l:=[]) trivial) (EnvROk_mk (l:=[(48,sp_wstr)]) ⟨ok_wstr,trivial⟩) (Checked.mixed Tryz.checked) (fn:=Tryz.f47) (by kernel_rfl) (by kernel_rfl) rfl h
theorem aputr_loop (F:Nat) (l:List (List UInt8)) (hl:l.length<=1000000):∀ (r:List (List UInt8)) (b:List UInt8) (i f:Nat),l.drop i=r->i+r.length=l.length->b.length+totL r<=140737488355328->r.length < f->
 Baputr_1 F f l (l.length:Int) (i:Int) b=some (.tup [],[(70000,.bldr 61 (.arr 70001001)),(70001001,.barr 5 false (b++catS r))])
 | [],b,i,f,hd,hi,hb,hf=>by
  obtain ⟨f,rfl⟩:∃ k,f=k+1:=⟨f - 1,by omega⟩
  have hi:i=l.length:=by simpa using hi
  rw [Baputr_1_eq]
  refine cond_f (decide_eq_false (by omega)) ?_
  simp [catS]
 | x::r,b,i,f,hd,hi,hb,hf=>by
  obtain ⟨f,rfl⟩:∃ k,f=k+1:=⟨f - 1,by omega⟩
  obtain ⟨hg,hd2,hi2⟩:=dropG hd []
  rw [List.length_cons] at hi hf
  rw [totL_cons] at hb
  rw [Baputr_1_eq,Int.toNat_natCast,hg,show ((i:Int)+1)=((i+1:Nat):Int) by omega]
  refine cond_t (decide_eq_true (by omega)) (need_mk ⟨by omega,by omega⟩ (need_mk (by omega) (need_mk (by unfold i64ok; omega) ?_)))
  rw [aputr_loop F l hl r _ (i+1) f hd2 (by omega) (by rw [List.length_append]; omega) (by omega)]
  simp [catS]
theorem aputn_loop (F:Nat) (l:List (List UInt8)) (hl:l.length<=1000000):∀ (r:List (List UInt8)) (b:List UInt8) (i f:Nat),l.drop i=r->i+r.length=l.length->b.length+totL r<=140737488355328->r.length < f->
 Baputn_1 F f l (l.length:Int) (i:Int) b=some (.tup [],[(70000,.bldr 61 (.arr 70001001)),(70001001,.barr 5 false (b++catS r))])
 | [],b,i,f,hd,hi,hb,hf=>by
  obtain ⟨f,rfl⟩:∃ k,f=k+1:=⟨f - 1,by omega⟩
  have hi:i=l.length:=by simpa using hi
  rw [Baputn_1_eq]
  refine cond_f (decide_eq_false (by omega)) ?_
  simp [catS]
 | x::r,b,i,f,hd,hi,hb,hf=>by
  obtain ⟨f,rfl⟩:∃ k,f=k+1:=⟨f - 1,by omega⟩
  obtain ⟨hg,hd2,hi2⟩:=dropG hd []
  rw [List.length_cons] at hi hf
  rw [totL_cons] at hb
  rw [Baputn_1_eq,Int.toNat_natCast,hg,show ((i:Int)+1)=((i+1:Nat):Int) by omega]
  refine cond_t (decide_eq_true (by omega)) (need_mk ⟨by omega,by omega⟩ (need_mk (by omega) (need_mk (by unfold i64ok; omega) ?_)))
  rw [aputn_loop F l hl r _ (i+1) f hd2 (by omega) (by rw [List.length_append]; omega) (by omega)]
  simp [catS]
def sp_aput:RSpec:=⟨[true,false],fun args ib=>match args,ib with
 | [.p (.list 1 (.dat .str l)),.ref 70000 0],[(70000,.bldr 61 (.arr 70001)),(70001,.barr 5 false b)]=>some (([70000],.tup []),([(70000,.bldr 61 (.arr 70001001)),(70001001,.barr 5 false (b++catS l))],some (aputok b l)))
 | [.p (.list 1 (.dat .str l)),.ref 70000 0],[(70000,.bldr 61 (.p .nil))]=>some (([70000],.tup []),([(70000,.bldr 61 (.arr 70001001)),(70001001,.barr 5 false (([]:List UInt8)++catS l))],some (aputok [] l)))
 | _,_=>none⟩
theorem ok_aput:SpecROk Tryz.prog 47 sp_aput:=by
 intro args ib kept r outs ok he hok
 simp only [sp_aput] at he
 split at he
 .rename_i l b
  cases he
  have hok:aputok b l:=hok
  exact ⟨by kernel_rfl,fn_aputr (l.length+1) _ _ _ _ fun _=>by rw [Faputr_eq]; exact aputr_loop _ l hok.2 l b 0 _ rfl (by simp) hok.1 (by omega)⟩
 .rename_i l
  cases he
  have hok:aputok [] l:=hok
  exact ⟨by kernel_rfl,fn_aputn (l.length+1) _ _ _ fun _=>by rw [Faputn_eq]; exact aputn_loop _ l hok.2 l [] 0 _ rfl (by simp) hok.1 (by omega)⟩
 .cases he
abbrev tok (s:List UInt8):Prop:=s.length<=1000000
def nstrS (l:List (List UInt8×List UInt8)) (n:List UInt8):List UInt8:=if (firstS l n).2=true then tstrS (firstS l n).1 else [78,73,76]
abbrev nstrok (l:List (List UInt8×List UInt8)) (n:List UInt8):Prop:=firstok l n/\((firstS l n).2=true->tok (firstS l n).1)
noncomputable def Gnstr:Cfg:=⟨Tryz.prog,mkEnv [(31,sp_first),(50,sp_tstr)],mkEnvR [],17,[],[],[]⟩
noncomputable def Fnstr (F:Nat) (l:List (List UInt8×List UInt8)) (n:List UInt8):Option Ans:=runF Gnstr Tryz.f28 F [.p (.list 2 (.dat (.pair .str .str) l)),.p (.str n)]
theorem Fnstr_eq (F:Nat) (l:List (List UInt8×List UInt8)) (n:List UInt8):Fnstr F l n=need (firstok l n) (cond (!((firstS l n).2)) (some (.p (.str ([78,73,76]:List UInt8)),[])) (need (((firstS l n).1).length<=1000000) (some (.p (.str (tstrS ((firstS l n).1))),[])))):=by kernel_rfl
theorem fn_nstr (F:Nat) (l:List (List UInt8×List UInt8)) (n:List UInt8) (r:AV) (h:(∃ M vs,ARels γ0 M [.p (.list 2 (.dat (.pair .str .str) l)),.p (.str n)] vs)->Fnstr F l n=some (r,[])):FnP Tryz.prog 28 [.p (.list 2 (.dat (.pair .str .str) l)),.p (.str n)] r:=
 FnP_run Gnstr F rfl (EnvOk_mk (l:=[(31,sp_first),(50,sp_tstr)]) ⟨ok_first.any,ok_tstr.any,trivial⟩) (EnvROk_mk (l:=[]) trivial) (Checked.mixed Tryz.checked) (fn:=Tryz.f28) (by kernel_rfl) (by kernel_rfl) rfl h
theorem nstr_eq (l:List (List UInt8×List UInt8)) (n:List UInt8) (h:nstrok l n):Fnstr 0 l n=some (.p (.str (nstrS l n)),[]):=by
 rw [Fnstr_eq,nstrS]
 refine need_mk h.1 ?_
 cases hf:(firstS l n).2 with
 | false=>rw [if_neg (by decide)]; exact cond_t rfl rfl
 | true=>rw [if_pos rfl]; exact cond_f rfl (need_mk (h.2 hf) rfl)
def sp_nstr:List AV->Option (AV×Option Prop)
 | [.p (.list 2 (.dat (.pair .str .str) l)),.p (.str n)]=>some (.p (.str (nstrS l n)),some (nstrok l n))
 | _=>none
theorem ok_nstr:SpecOk Tryz.prog 28 sp_nstr:=by
 intro zs r ok he hok
 unfold sp_nstr at he
 split at he
 .cases he; exact ⟨by kernel_rfl,fn_nstr 0 _ _ _ fun hx=>nstr_eq _ _ hok⟩
 .cases he
def oneA (a:AddrT):List (List UInt8):=[[40],if a.1=[] then [78,73,76] else tstrS a.1,[32],[78,73,76],[32],tstrS a.2.1,[32],tstrS a.2.2,[41]]
def manyA (l:List AddrT):List UInt8:=l.flatMap fun a=>catS (oneA a)
def tellA (l:List AddrT):List UInt8:=if l.length=0 then [78,73,76] else [40]++(manyA l++[41])
def addrsS (l:List (List UInt8×List UInt8)) (n:List UInt8):List UInt8:=tellA (listA (firstS l n).1)
abbrev tokA (a:AddrT):Prop:=(a.1≠[]->tok a.1)/\tok a.2.1/\tok a.2.2
abbrev addrsok (l:List (List UInt8×List UInt8)) (n:List UInt8):Prop:=firstok l n/\(firstS l n).1.length<=40000/\∀ a ∈ listA (firstS l n).1,tokA a
theorem esc_len:∀ s:List UInt8,(escQ s).length<=2 * s.length
 | []=>by simp [escQ]
 | c::r=>by
  have:=esc_len r
  rw [escQ]; split <;> simp <;> omega
theorem tstr_len (s:List UInt8):(tstrS s).length<=2 * s.length+8:=by
 have h1:=esc_len s
 have h2:(tdigS (s.length:Int)).length<=s.length+1:=by
  have:=itoa_len (s.length:Int)
  unfold tdigS
  rw [if_neg (by omega)]
  omega
 unfold tstrS
 split <;> simp <;> omega
noncomputable def caddrs:Code:=bodyOf Tryz.f25
noncomputable def Gaddrs:Cfg:=⟨Tryz.prog,mkEnv [(31,sp_first),(49,sp_alist),(50,sp_tstr)],mkEnvR [(47,sp_aput),(51,sp_bstr)],55,[],[([0,1,0,1,1,1,1,1,1,1],⟨[7,8,28,29,30],[⟨.slot 7,7,.cells []⟩,⟨.cell 7 1,8001,(.barr 5 false [])⟩]⟩),([1,1,1,0,0,1,1,0,0,1,0,1,1,1,1,1,1,1],⟨[7,8,11,12,28,29,30],[⟨.slot 7,7,.cells []⟩,⟨.slot 11,11,.cells []⟩,⟨.cell 7 1,8001,(.barr 5 false [])⟩]⟩),([1,1,1,0,0,1,0,1,1,1,1,1,1,1],⟨[7,8,28,29,30],[⟨.slot 7,7,.cells []⟩,⟨.cell 7 1,8001,(.barr 5 false [])⟩]⟩)],[([0,1,1,1,1,1,1],[2]),([1,1,1,0,0,1,1,0,0,1,0,1,1,1,1,1,1,1],[9]),([0,1,1,1,1,1,1,1,1],[2]),([0,1,1,1,1,1,1,1,1,1],[0])]⟩
noncomputable def Baddrs_1 (F f1:Nat) (vl1:List (List UInt8×List UInt8×List UInt8)) (vi2 vi3:Int) (vb4:List UInt8):Option Ans:=runR Gaddrs caddrs (kP Tryz.prog Tryz.f25.results.toList) F [] [1,1,1,1,1,1,1,0,1,0] f1 [(7,.ref 7 0),(8,.clo (.func 47) [] [.ref 7 0]),(28,.p (.list 3 (.dat (.pair .str (.pair .str .str)) vl1))),(29,.p (.int .i64 vi2)),(30,.p (.int .i64 vi3))] [(7,.bldr 61 (.arr 8001)),(8001,.barr 5 false vb4)]
noncomputable def Baddrs_2 (F f1:Nat) (vs5:List UInt8) (vl1:List (List UInt8×List UInt8×List UInt8)) (vi2 vi3:Int) (vs6 vs7 vs8 vb9:List UInt8):Option Ans:=runB Gaddrs caddrs (kP Tryz.prog Tryz.f25.results.toList) F [f1] [1,1,1,1,1,1,1,0,1,0,0,1,1,0,0,1,1,1] [(7,.ref 7 0),(8,.clo (.func 47) [] [.ref 7 0]),(11,.ref 11 0),(12,.p (.str vs5)),(28,.p (.list 3 (.dat (.pair .str (.pair .str .str)) vl1))),(29,.p (.int .i64 vi2)),(30,.p (.int .i64 vi3))] [(7,.bldr 61 (.arr 8001)),(11,.cells [.p (.str vs6),.p (.str vs7),.p (.str vs8)]),(8001,.barr 5 false vb9)]
noncomputable def Baddrs_3 (F f1:Nat) (vl1:List (List UInt8×List UInt8×List UInt8)) (vi2 vi3:Int) (vb10:List UInt8):Option Ans:=runB Gaddrs caddrs (kP Tryz.prog Tryz.f25.results.toList) F [f1] [1,1,1,1,1,1,1,0,1,0,0,1,1,1] [(7,.ref 7 0),(8,.clo (.func 47) [] [.ref 7 0]),(28,.p (.list 3 (.dat (.pair .str (.pair .str .str)) vl1))),(29,.p (.int .i64 vi2)),(30,.p (.int .i64 vi3))] [(7,.bldr 61 (.arr 8001)),(8001,.barr 5 false vb10)]
noncomputable def Faddrs (F:Nat) (l:List (List UInt8×List UInt8)) (n:List UInt8):Option Ans:=runF Gaddrs Tryz.f25 F [.p (.list 2 (.dat (.pair .str .str) l)),.p (.str n)]
theorem Baddrs_1_eq (F f1:Nat) (vl1:List (List UInt8×List UInt8×List UInt8)) (vi2 vi3:Int) (vb4:List UInt8):Baddrs_1 F (f1+1) vl1 vi2 vi3 vb4=cond (decide (vi3 < vi2)) (need (0<=vi3/\vi3 < (vl1.length:Int)) (cond (((vl1.getD (vi3).toNat ([],([],[]))).1) != ([]:List UInt8)) (need (((vl1.getD (vi3).toNat ([],([],[]))).1).length<=1000000) (Baddrs_2 F f1 (tstrS ((vl1.getD (vi3).toNat ([],([],[]))).1)) vl1 vi2 vi3 ((vl1.getD (vi3).toNat ([],([],[]))).1) (((vl1.getD (vi3).toNat ([],([],[]))).2).1) (((vl1.getD (vi3).toNat ([],([],[]))).2).2) vb4)) (Baddrs_2 F f1 ([78,73,76]:List UInt8) vl1 vi2 vi3 ((vl1.getD (vi3).toNat ([],([],[]))).1) (((vl1.getD (vi3).toNat ([],([],[]))).2).1) (((vl1.getD (vi3).toNat ([],([],[]))).2).2) vb4))) (need (aputok vb4 [([41]:List UInt8)]) (some (.p (.str (vb4++catS [([41]:List UInt8)])),[]))):=by kernel_rfl
theorem Baddrs_2_eq (F f1:Nat) (vs5:List UInt8) (vl1:List (List UInt8×List UInt8×List UInt8)) (vi2 vi3:Int) (vs6 vs7 vs8 vb9:List UInt8):Baddrs_2 F f1 vs5 vl1 vi2 vi3 vs6 vs7 vs8 vb9=need (vs7.length<=1000000) (need (vs8.length<=1000000) (need (aputok vb9 [([40]:List UInt8),vs5,([32]:List UInt8),([78,73,76]:List UInt8),([32]:List UInt8),tstrS vs7,([32]:List UInt8),tstrS vs8,([41]:List UInt8)]) (Baddrs_3 F f1 vl1 vi2 vi3 (vb9++catS [([40]:List UInt8),vs5,([32]:List UInt8),([78,73,76]:List UInt8),([32]:List UInt8),tstrS vs7,([32]:List UInt8),tstrS vs8,([41]:List UInt8)])))):=by kernel_rfl
theorem Baddrs_3_eq (F f1:Nat) (vl1:List (List UInt8×List UInt8×List UInt8)) (vi2 vi3:Int) (vb10:List UInt8):Baddrs_3 F f1 vl1 vi2 vi3 vb10=need (i64ok (vi3+(1:Int))) (Baddrs_1 F f1 vl1 vi2 (vi3+(1:Int)) vb10):=by kernel_rfl
theorem Faddrs_eq (F:Nat) (l:List (List UInt8×List UInt8)) (n:List UInt8):Faddrs F l n=need (firstok l n) (need (((firstS l n).1).length<=40000) (cond (((listA ((firstS l n).1)).length:Int)==(0:Int)) (some (.p (.str ([78,73,76]:List UInt8)),[])) (need (aputok ([]:List UInt8) [([40]:List UInt8)]) (Baddrs_1 F F (listA ((firstS l n).1)) ((listA ((firstS l n).1)).length:Int) (0:Int) (([]:List UInt8)++catS [([40]:List UInt8)]))))):=by kernel_rfl
theorem fn_addrs (F:Nat) (l:List (List UInt8×List UInt8)) (n:List UInt8) (r:AV) (h:(∃ M vs,ARels γ0 M [.p (.list 2 (.dat (.pair .str .str) l)),.p (.str n)] vs)->Faddrs F l n=some (r,[])):FnP Tryz.prog 25 [.p (.list 2 (.dat (.pair .str .str) l)),.p (.str n)] r:=
 FnP_run Gaddrs F rfl (EnvOk_mk (l:=[(31,sp_first),(49,sp_alist),(50,sp_tstr)]) ⟨ok_first.any,ok_alist.any,ok_tstr.any,trivial⟩) (EnvROk_mk (l:=[(47,sp_aput),(51,sp_bstr)]) ⟨ok_aput,ok_bstr,trivial⟩) (Checked.mixed Tryz.checked) (fn:=Tryz.f25) (by kernel_rfl) (by kernel_rfl) rfl h
theorem one_len (a:AddrT) (h:tokA a):totL (oneA a)<=8000000:=by
 have h1:=tstr_len a.1
 have h2:=tstr_len a.2.1
 have h3:=tstr_len a.2.2
 have k2:=h.2.1
 have k3:=h.2.2
 unfold oneA totL
 split
 .simp; omega
 .rename_i q
  have k1:=h.1 q
  simp; omega
theorem cat_len (l:List (List UInt8)):(catS l).length=totL l:=by simp [catS,totL]
theorem addrs_loop (F:Nat) (l:List AddrT) (hl:l.length<=1000000) (ha:∀ a ∈ l,tokA a):∀ (r:List AddrT) (b:List UInt8) (i f:Nat),l.drop i=r->i+r.length=l.length->b.length+8000000 * r.length<=140737488355000->r.length < f->
 Baddrs_1 F f l (l.length:Int) (i:Int) b=some (.p (.str (b++(manyA r++[41]))),[])
 | [],b,i,f,hd,hi,hb,hf=>by
  obtain ⟨f,rfl⟩:∃ k,f=k+1:=⟨f - 1,by omega⟩
  have hi:i=l.length:=by simpa using hi
  rw [Baddrs_1_eq]
  refine cond_f (decide_eq_false (by omega)) (need_mk ⟨by simp [totL]; simp at hb; omega,by simp⟩ ?_)
  simp [catS,manyA]
 | x::r,b,i,f,hd,hi,hb,hf=>by
  obtain ⟨f,rfl⟩:∃ k,f=k+1:=⟨f - 1,by omega⟩
  obtain ⟨hg,hd2,hi2⟩:=dropG hd ([],([],[]))
  have hx:tokA x:=ha x (by
   have:x ∈ l.drop i:=by rw [hd]; exact List.mem_cons_self ..
   exact List.mem_of_mem_drop this)
  have hlen:=one_len x hx
  rw [List.length_cons] at hi hf hb
  have key:∀ t:List UInt8,t=(if x.1=[] then [78,73,76] else tstrS x.1)->Baddrs_2 F f t l (l.length:Int) (i:Int) x.1 x.2.1 x.2.2 b=some (.p (.str (b++(manyA (x::r)++[41]))),[]):=by
   intro t ht
   rw [Baddrs_2_eq,Baddrs_3_eq]
   have e:[([40]:List UInt8),t,([32]:List UInt8),([78,73,76]:List UInt8),([32]:List UInt8),tstrS x.2.1,([32]:List UInt8),tstrS x.2.2,([41]:List UInt8)]=oneA x:=by rw [ht]; rfl
   rw [e,show ((i:Int)+1)=((i+1:Nat):Int) by omega]
   refine need_mk hx.2.1 (need_mk hx.2.2 (need_mk ⟨by omega,by unfold oneA; simp⟩ (need_mk (by unfold i64ok; omega) ?_)))
   rw [addrs_loop F l hl ha r _ (i+1) f hd2 (by omega) (by rw [List.length_append,cat_len]; omega) (by omega)]
   simp [manyA]
  rw [Baddrs_1_eq,Int.toNat_natCast,hg]
  refine cond_t (decide_eq_true (by omega)) (need_mk ⟨by omega,by omega⟩ ?_)
  by_cases hn:x.1=[]
  .refine cond_f (by rw [hn]; rfl) (key _ ?_)
   rw [if_pos hn]
  .refine cond_t (by simpa using hn) (need_mk (hx.1 hn) (key _ ?_))
   rw [if_neg hn]
theorem addrs_eq (l:List (List UInt8×List UInt8)) (n:List UInt8) (h:addrsok l n):Faddrs ((listA (firstS l n).1).length+1) l n=some (.p (.str (addrsS l n)),[]):=by
 have hlen:=listA_len (firstS l n).1
 have h40:=h.2.1
 rw [Faddrs_eq,addrsS,tellA]
 refine need_mk h.1 (need_mk h.2.1 ?_)
 by_cases h0:(listA (firstS l n).1).length=0
 .rw [if_pos h0]
  exact cond_t (by rw [h0]; rfl) rfl
 .rw [if_neg h0]
  refine cond_f (by rw [beq_eq_false_iff_ne]; omega) (need_mk ⟨by simp [totL],by simp⟩ ?_)
  exact addrs_loop _ _ (by omega) h.2.2 _ _ 0 _ rfl (by simp) (by simp [catS]; omega) (by omega)
def sp_addrs:List AV->Option (AV×Option Prop)
 | [.p (.list 2 (.dat (.pair .str .str) l)),.p (.str n)]=>some (.p (.str (addrsS l n)),some (addrsok l n))
 | _=>none
theorem ok_addrs:SpecOk Tryz.prog 25 sp_addrs:=by
 intro zs r ok he hok
 unfold sp_addrs at he
 split at he
 .cases he; exact ⟨by kernel_rfl,fn_addrs (_) _ _ _ fun hx=>addrs_eq _ _ hok⟩
 .cases he
def orS (l:List (List UInt8×List UInt8)) (fr n:List UInt8):List UInt8:=if addrsS l n=[78,73,76] then fr else addrsS l n
noncomputable def Genvor:Cfg:=⟨Tryz.prog,mkEnv [(25,sp_addrs)],mkEnvR [],13,[],[],[]⟩
noncomputable def Fenvor (F:Nat) (n:List UInt8) (l:List (List UInt8×List UInt8)) (fr:List UInt8):Option Ans:=runF Genvor Tryz.f26 F [.p (.str n),.p (.box 1 (fun _=>(.list 2 (.dat (.pair .str .str) l):PV))),.p (.box 1 (fun _=>(.str fr:PV)))]
theorem Fenvor_eq (F:Nat) (n:List UInt8) (l:List (List UInt8×List UInt8)) (fr:List UInt8):Fenvor F n l fr=need (addrsok l n) (cond ((addrsS l n) != ([78,73,76]:List UInt8)) (some (.p (.str (addrsS l n)),[])) (some (.p (.str fr),[]))):=by kernel_rfl
theorem fn_envor (F:Nat) (n:List UInt8) (l:List (List UInt8×List UInt8)) (fr:List UInt8) (r:AV) (h:(∃ M vs,ARels γ0 M [.p (.str n),.p (.box 1 (fun _=>(.list 2 (.dat (.pair .str .str) l):PV))),.p (.box 1 (fun _=>(.str fr:PV)))] vs)->Fenvor F n l fr=some (r,[])):FnP Tryz.prog 26 [.p (.str n),.p (.box 1 (fun _=>(.list 2 (.dat (.pair .str .str) l):PV))),.p (.box 1 (fun _=>(.str fr:PV)))] r:=
 FnP_run Genvor F rfl (EnvOk_mk (l:=[(25,sp_addrs)]) ⟨ok_addrs.any,trivial⟩) (EnvROk_mk (l:=[]) trivial) (Checked.mixed Tryz.checked) (fn:=Tryz.f26) (by kernel_rfl) (by kernel_rfl) rfl h
theorem envor_eq (n:List UInt8) (l:List (List UInt8×List UInt8)) (fr:List UInt8) (h:addrsok l n):Fenvor 0 n l fr=some (.p (.str (orS l fr n)),[]):=by
 rw [Fenvor_eq,orS]
 refine need_mk h ?_
 by_cases q:addrsS l n=[78,73,76]
 .rw [if_pos q]; exact cond_f (by rw [q]; rfl) rfl
 .rw [if_neg q]; exact cond_t (by simpa using q) rfl
end Go.Proofs.YtoanepondbagcaaGreatDoor
namespace Go.Proofs.YtoanepondbagcaaGreatDoor
open Go Go.Am
set_option linter.unusedVariables false
def sp_envor:List AV->Option (AV×Option Prop)
 | [.p (.str n),.p (.box 1 f),.p (.box 1 g)]=>match f 0,g 0 with
  | .list 2 (.dat (.pair .str .str) l),.str fr=>some (.p (.str (orS l fr n)),some (addrsok l n))
  | _,_=>none
 | _=>none
theorem ok_envor:SpecOk Tryz.prog 26 sp_envor:=by
 intro zs r ok he hok
 unfold sp_envor at he
 split at he
 .rename_i n f g
  split at he
  .rename_i l fr hf hg
   cases he
   refine ⟨by kernel_rfl,FnP_args (fun M vs h=>?_) (fn_envor 0 n l fr _ fun _=>envor_eq n l fr hok)⟩
   cases h with | cons h1 h=>
   cases h with | cons h2 h=>
   cases h with | cons h3 h=>
   cases h
   exact .cons h1 (.cons (box1_arel h2 hf) (.cons (box1_arel h3 hg) .nil))
  .cases he
 .cases he
def nDate:List UInt8:=[100,97,116,101]
def nSubj:List UInt8:=[115,117,98,106,101,99,116]
def nFrom:List UInt8:=[102,114,111,109]
def nSend:List UInt8:=[115,101,110,100,101,114]
def nRepl:List UInt8:=[114,101,112,108,121,45,116,111]
def nTo:List UInt8:=[116,111]
def nCc:List UInt8:=[99,99]
def nBcc:List UInt8:=[98,99,99]
def nInR:List UInt8:=[105,110,45,114,101,112,108,121,45,116,111]
def nMsg:List UInt8:=[109,101,115,115,97,103,101,45,105,100]
def envL (l:List (List UInt8×List UInt8)):List (List UInt8):=
 [nstrS l nDate,nstrS l nSubj,addrsS l nFrom,orS l (addrsS l nFrom) nSend,orS l (addrsS l nFrom) nRepl,addrsS l nTo,addrsS l nCc,addrsS l nBcc,nstrS l nInR,nstrS l nMsg]
def envS (s:List UInt8):List UInt8:=(([40]:List UInt8)++joinS [32] (envL (splitS s 0 (s.length:Int)).1))++[41]
abbrev envok (s:List UInt8):Prop:=s.length<=1000000/\(∀ n ∈ [nFrom,nSend,nRepl,nTo,nCc,nBcc],addrsok (splitS s 0 (s.length:Int)).1 n)/\(∀ n ∈ [nDate,nSubj,nInR,nMsg],nstrok (splitS s 0 (s.length:Int)).1 n)/\totL (envL (splitS s 0 (s.length:Int)).1)<=1000000000
noncomputable def Genvel:Cfg:=⟨Tryz.prog,mkEnv [(24,sp_fields),(25,sp_addrs),(26,sp_envor),(27,sp_joinl),(28,sp_nstr)],mkEnvR [],38,[],[],[([888888,1,1,1,1],[3,0,5,0])]⟩
noncomputable def Fenvel (F:Nat) (s:List UInt8):Option Ans:=runF Genvel Tryz.f12 F [.p (.str s)]
theorem Fenvel_eq (F:Nat) (s:List UInt8):Fenvel F s=need (s.length<=1000000) (need (addrsok ((splitS s 0 (s.length:Int)).1) ([102,114,111,109]:List UInt8)) (need (nstrok ((splitS s 0 (s.length:Int)).1) ([100,97,116,101]:List UInt8)) (need (nstrok ((splitS s 0 (s.length:Int)).1) ([115,117,98,106,101,99,116]:List UInt8)) (need (addrsok ((splitS s 0 (s.length:Int)).1) ([115,101,110,100,101,114]:List UInt8)) (need (addrsok ((splitS s 0 (s.length:Int)).1) ([114,101,112,108,121,45,116,111]:List UInt8)) (need (addrsok ((splitS s 0 (s.length:Int)).1) ([116,111]:List UInt8)) (need (addrsok ((splitS s 0 (s.length:Int)).1) ([99,99]:List UInt8)) (need (addrsok ((splitS s 0 (s.length:Int)).1) ([98,99,99]:List UInt8)) (need (nstrok ((splitS s 0 (s.length:Int)).1) ([105,110,45,114,101,112,108,121,45,116,111]:List UInt8)) (need (nstrok ((splitS s 0 (s.length:Int)).1) ([109,101,115,115,97,103,101,45,105,100]:List UInt8)) (need (joinok [nstrS ((splitS s 0 (s.length:Int)).1) ([100,97,116,101]:List UInt8),nstrS ((splitS s 0 (s.length:Int)).1) ([115,117,98,106,101,99,116]:List UInt8),addrsS ((splitS s 0 (s.length:Int)).1) ([102,114,111,109]:List UInt8),orS ((splitS s 0 (s.length:Int)).1) (addrsS ((splitS s 0 (s.length:Int)).1) ([102,114,111,109]:List UInt8)) ([115,101,110,100,101,114]:List UInt8),orS ((splitS s 0 (s.length:Int)).1) (addrsS ((splitS s 0 (s.length:Int)).1) ([102,114,111,109]:List UInt8)) ([114,101,112,108,121,45,116,111]:List UInt8),addrsS ((splitS s 0 (s.length:Int)).1) ([116,111]:List UInt8),addrsS ((splitS s 0 (s.length:Int)).1) ([99,99]:List UInt8),addrsS ((splitS s 0 (s.length:Int)).1) ([98,99,99]:List UInt8),nstrS ((splitS s 0 (s.length:Int)).1) ([105,110,45,114,101,112,108,121,45,116,111]:List UInt8),nstrS ((splitS s 0 (s.length:Int)).1) ([109,101,115,115,97,103,101,45,105,100]:List UInt8)] ([32]:List UInt8)) (need (lenok (([40]:List UInt8).length+(joinS ([32]:List UInt8) [nstrS ((splitS s 0 (s.length:Int)).1) ([100,97,116,101]:List UInt8),nstrS ((splitS s 0 (s.length:Int)).1) ([115,117,98,106,101,99,116]:List UInt8),addrsS ((splitS s 0 (s.length:Int)).1) ([102,114,111,109]:List UInt8),orS ((splitS s 0 (s.length:Int)).1) (addrsS ((splitS s 0 (s.length:Int)).1) ([102,114,111,109]:List UInt8)) ([115,101,110,100,101,114]:List UInt8),orS ((splitS s 0 (s.length:Int)).1) (addrsS ((splitS s 0 (s.length:Int)).1) ([102,114,111,109]:List UInt8)) ([114,101,112,108,121,45,116,111]:List UInt8),addrsS ((splitS s 0 (s.length:Int)).1) ([116,111]:List UInt8),addrsS ((splitS s 0 (s.length:Int)).1) ([99,99]:List UInt8),addrsS ((splitS s 0 (s.length:Int)).1) ([98,99,99]:List UInt8),nstrS ((splitS s 0 (s.length:Int)).1) ([105,110,45,114,101,112,108,121,45,116,111]:List UInt8),nstrS ((splitS s 0 (s.length:Int)).1) ([109,101,115,115,97,103,101,45,105,100]:List UInt8)]).length)) (need (lenok ((([40]:List UInt8)++(joinS ([32]:List UInt8) [nstrS ((splitS s 0 (s.length:Int)).1) ([100,97,116,101]:List UInt8),nstrS ((splitS s 0 (s.length:Int)).1) ([115,117,98,106,101,99,116]:List UInt8),addrsS ((splitS s 0 (s.length:Int)).1) ([102,114,111,109]:List UInt8),orS ((splitS s 0 (s.length:Int)).1) (addrsS ((splitS s 0 (s.length:Int)).1) ([102,114,111,109]:List UInt8)) ([115,101,110,100,101,114]:List UInt8),orS ((splitS s 0 (s.length:Int)).1) (addrsS ((splitS s 0 (s.length:Int)).1) ([102,114,111,109]:List UInt8)) ([114,101,112,108,121,45,116,111]:List UInt8),addrsS ((splitS s 0 (s.length:Int)).1) ([116,111]:List UInt8),addrsS ((splitS s 0 (s.length:Int)).1) ([99,99]:List UInt8),addrsS ((splitS s 0 (s.length:Int)).1) ([98,99,99]:List UInt8),nstrS ((splitS s 0 (s.length:Int)).1) ([105,110,45,114,101,112,108,121,45,116,111]:List UInt8),nstrS ((splitS s 0 (s.length:Int)).1) ([109,101,115,115,97,103,101,45,105,100]:List UInt8)])).length+([41]:List UInt8).length)) (some (.p (.str ((([40]:List UInt8)++(joinS ([32]:List UInt8) [nstrS ((splitS s 0 (s.length:Int)).1) ([100,97,116,101]:List UInt8),nstrS ((splitS s 0 (s.length:Int)).1) ([115,117,98,106,101,99,116]:List UInt8),addrsS ((splitS s 0 (s.length:Int)).1) ([102,114,111,109]:List UInt8),orS ((splitS s 0 (s.length:Int)).1) (addrsS ((splitS s 0 (s.length:Int)).1) ([102,114,111,109]:List UInt8)) ([115,101,110,100,101,114]:List UInt8),orS ((splitS s 0 (s.length:Int)).1) (addrsS ((splitS s 0 (s.length:Int)).1) ([102,114,111,109]:List UInt8)) ([114,101,112,108,121,45,116,111]:List UInt8),addrsS ((splitS s 0 (s.length:Int)).1) ([116,111]:List UInt8),addrsS ((splitS s 0 (s.length:Int)).1) ([99,99]:List UInt8),addrsS ((splitS s 0 (s.length:Int)).1) ([98,99,99]:List UInt8),nstrS ((splitS s 0 (s.length:Int)).1) ([105,110,45,114,101,112,108,121,45,116,111]:List UInt8),nstrS ((splitS s 0 (s.length:Int)).1) ([109,101,115,115,97,103,101,45,105,100]:List UInt8)]))++([41]:List UInt8))),[]))))))))))))))):=by kernel_rfl
theorem fn_envel (F:Nat) (s:List UInt8) (r:AV) (h:(∃ M vs,ARels γ0 M [.p (.str s)] vs)->Fenvel F s=some (r,[])):FnP Tryz.prog 12 [.p (.str s)] r:=
 FnP_run Genvel F rfl (EnvOk_mk (l:=[(24,sp_fields),(25,sp_addrs),(26,sp_envor),(27,sp_joinl),(28,sp_nstr)]) ⟨ok_fields.any,ok_addrs.any,ok_envor.any,ok_joinl.any,ok_nstr.any,trivial⟩) (EnvROk_mk (l:=[]) trivial) (Checked.mixed Tryz.checked) (fn:=Tryz.f12) (by kernel_rfl) (by kernel_rfl) rfl h
theorem envel_eq (s:List UInt8) (h:envok s):Fenvel 0 s=some (.p (.str (envS s)),[]):=by
 obtain ⟨h1,ha,hn,ht⟩:=h
 rw [Fenvel_eq,envS]
 have hj:joinok (envL (splitS s 0 (s.length:Int)).1) [32]:=⟨by decide,by decide,by unfold envL; simp,ht⟩
 have hl:(joinS [32] (envL (splitS s 0 (s.length:Int)).1)).length<=1000000010:=by
  have:=joinS_len [32] (envL (splitS s 0 (s.length:Int)).1)
  have e:(envL (splitS s 0 (s.length:Int)).1).length=10:=rfl
  rw [e] at this
  simp at this; omega
 refine need_mk h1 (need_mk (ha nFrom (by simp)) (need_mk (hn nDate (by simp)) (need_mk (hn nSubj (by simp)) (need_mk (ha nSend (by simp)) (need_mk (ha nRepl (by simp)) (need_mk (ha nTo (by simp)) (need_mk (ha nCc (by simp)) (need_mk (ha nBcc (by simp)) (need_mk (hn nInR (by simp)) (need_mk (hn nMsg (by simp)) (need_mk hj (need_mk ?_ (need_mk ?_ rfl)))))))))))))
 .show ([40]:List UInt8).length+(joinS [32] (envL (splitS s 0 (s.length:Int)).1)).length<=9223372036854775807
  simp; omega
 .show (([40]:List UInt8)++joinS [32] (envL (splitS s 0 (s.length:Int)).1)).length+([41]:List UInt8).length<=9223372036854775807
  simp; omega
def sp_envel:List AV->Option (AV×Option Prop)
 | [.p (.str s)]=>some (.p (.str (envS s)),some (envok s))
 | _=>none
theorem ok_envel:SpecOk Tryz.prog 12 sp_envel:=by
 intro zs r ok he hok
 unfold sp_envel at he
 split at he
 .cases he; exact ⟨by kernel_rfl,fn_envel 0 _ _ fun hx=>envel_eq _ hok⟩
 .cases he
end Go.Proofs.YtoanepondbagcaaGreatDoor
