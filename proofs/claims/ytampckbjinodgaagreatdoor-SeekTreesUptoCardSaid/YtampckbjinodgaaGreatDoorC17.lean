/-
  Lifted functions, and facts about them.
-/
import Derived.Test.YtampckbjinodgaaGreatDoorRows
import Derived.Test.YtampckbjinodgaaGreatDoorAmC
import Derived.Test.YtampckbjinodgaaGreatDoorC01
import Derived.Test.YtampckbjinodgaaGreatDoorC16
import Derived.Test.YtampckbjinodgaaGreatDoorC10
import Derived.Shelf.Strings.Search3
namespace Go.Proofs.YtampckbjinodgaaGreatDoor
open Go Go.Am
set_option linter.unusedVariables false
def hold1 (p:OpenT) (t:TermT):Bool:=
 if t.1=4 then p.1.2.2.2.2.2.1.any (inP t.2.1 false) else if t.1=5 then p.1.2.2.2.2.2.1.any (inP t.2.1 true) else if t.1=14 then p.1.2.2.2.2.2.1.any (wiP t.2.1 t.2.2.2.2.1) else
 if t.1=7 then decide (p.1.2.2.2.1 < t.2.1) else if t.1=8 then decide (p.1.2.2.2.1>=t.2.1) else if t.1=9 then decide ((p.1.2.2.1.length:Int)>=t.2.1) else
 if t.1=10 then decide ((p.1.2.2.1.length:Int) < t.2.1) else if t.1=15 then decide (p.1.2.2.2.2.2.2.1>=t.2.1) else false
end Go.Proofs.YtampckbjinodgaaGreatDoor
namespace Go.Proofs.YtampckbjinodgaaGreatDoor
open Go Go.Am
set_option linter.unusedVariables false
end Go.Proofs.YtampckbjinodgaaGreatDoor
namespace Go.Proofs.YtampckbjinodgaaGreatDoor
open Go.Shelf
def lays144_ren : Go.Shelf.Ren:=⟨fun |144=>62|143=>101|219=>134|217=>108|225=>160|224=>161|267=>162|266=>140|314=>180|n=>n, fun |9=>9|4=>4|3=>3|5=>5|46=>172|146=>219|51=>153|n=>n, fun |1=>0|n=>n⟩
theorem lays144 : Go.Proofs.Lays.n144 Tryz.prog lays144_ren:={
 mixed:=by kernel_rfl
 f143:=Tryz.func101.trans (congrArg some (by kernel_rfl))
 f144:=Tryz.func62.trans (congrArg some (by kernel_rfl))
 f217:=Tryz.func108.trans (congrArg some (by kernel_rfl))
 f219:=Tryz.func134.trans (congrArg some (by kernel_rfl))
 f224:=Tryz.func161.trans (congrArg some (by kernel_rfl))
 f225:=Tryz.func160.trans (congrArg some (by kernel_rfl))
 f266:=Tryz.func140.trans (congrArg some (by kernel_rfl))
 f267:=Tryz.func162.trans (congrArg some (by kernel_rfl))
 f314:=Tryz.func180.trans (congrArg some (by kernel_rfl))
 t3:=Tryz.underlying3
 a3:=Tryz.isAgg3
 z3:=Tryz.sizeOf3
 v3:=Tryz.zeroValue3
 t4:=Tryz.underlying4
 a4:=Tryz.isAgg4
 z4:=Tryz.sizeOf4
 v4:=Tryz.zeroValue4
 t5:=Tryz.underlying5
 a5:=Tryz.isAgg5
 z5:=Tryz.sizeOf5
 v5:=Tryz.zeroValue5
 t9:=Tryz.underlying9
 a9:=Tryz.isAgg9
 z9:=Tryz.sizeOf9
 v9:=Tryz.zeroValue9
 t46:=Tryz.underlying172
 a46:=Tryz.isAgg172
 z46:=Tryz.sizeOf172
 v46:=Tryz.zeroValue172
 t51:=Tryz.underlying153
 a51:=Tryz.isAgg153
 z51:=Tryz.sizeOf153
 v51:=Tryz.zeroValue153
 t146:=Tryz.underlying219
 a146:=Tryz.isAgg219
 z146:=Tryz.sizeOf219
 v146:=Tryz.zeroValue219
 g1:=by kernel_rfl }
end Go.Proofs.YtampckbjinodgaaGreatDoor
namespace Go.Proofs.YtampckbjinodgaaGreatDoor
open Go Go.Am Go.Shelf
abbrev fieldC:Ec:=.pair .str .str
def inS (s u:List UInt8):Bool:=Lib.contains (foldS s) (foldS u)
def sp_containsG:List AV->Option (AV×Option Prop)
 | [.p (.str s),.p (.str t)]=>some (.p (.bool (Lib.contains s t)),some (s.length<=1000000))
 | _=>none
theorem ok_containsG:SpecOk Tryz.prog 62 sp_containsG:=by
 intro zs r ok he hok
 unfold sp_containsG at he
 split at he
 .rename_i s t
  cases he
  refine ⟨by kernel_rfl,fun M w vs hM hvs=>?_⟩
  cases hvs with | cons h1 h2=>
  cases h2 with | cons h2 h3=>
  cases h3
  cases h1 with | p _ _ h1=>
  cases h2 with | p _ _ h2=>
  cases h1 with | str _ hs=>
  cases h2 with | str _ hc=>
  have hok:s.length<=1000000:=hok
  obtain ⟨m,hm⟩:=hM.good 0 (List.mem_singleton.2 rfl)
  have hm':w.cell? ⟨(lays144_ren.g 1),0,none⟩=some (.int .i64 m):=hM.cell 0 0 _ hm
  have hcon:=Any.strings_Contains lays144 ⟨s.toArray⟩ ⟨t.toArray⟩ m w (by show s.toArray.size < _; simp; omega) hm'
  refine Calls.mono hcon fun e w' ⟨he,hw⟩=>?_
  subst hw
  exact ⟨_,M,he,MLe.refl M,fun _ _=>rfl,hM,.p _ _ (.bool _),RowKit.Below.refl _ _⟩
 .cases he
noncomputable def Gtin:Cfg:=⟨Tryz.prog,mkEnv [(27,sp_Fold),(62,sp_containsG)],mkEnvR [],10,[],[],[]⟩
noncomputable def Ftin (F:Nat) (s u:List UInt8):Option Ans:=runF Gtin Tryz.f40 F [.p (.str s),.p (.str u)]
theorem Ftin_eq (F:Nat) (s u:List UInt8):Ftin F s u=need (s.length<=140737488355328) (need (u.length<=140737488355328) (need ((foldS s).length<=1000000) (some (.p (.bool (Lib.contains (foldS s) (foldS u))),[])))):=by kernel_rfl
theorem fn_tin (F:Nat) (s u:List UInt8) (r:AV) (h:(∃ M vs,ARels γ0 M [.p (.str s),.p (.str u)] vs)->Ftin F s u=some (r,[])):FnP Tryz.prog 40 [.p (.str s),.p (.str u)] r:=
 FnP_run Gtin F rfl (EnvOk_mk (l:=[(27,sp_Fold),(62,sp_containsG)]) ⟨ok_Fold.any,ok_containsG.any,trivial⟩) (EnvROk_mk (l:=[]) trivial) (Checked.mixed Tryz.checked) (fn:=Tryz.f40) (by kernel_rfl) (by kernel_rfl) rfl h
theorem tin_len (s:List UInt8):(foldS s).length=s.length:=by simp [foldS]
theorem tin_eq (s u:List UInt8) (h:s.length<=1000000/\u.length<=1000000):Ftin 0 s u=some (.p (.bool (inS s u)),[]):=by
 rw [Ftin_eq]
 exact need_mk (by omega) (need_mk (by omega) (need_mk (by rw [tin_len]; exact h.1) rfl))
def sp_tin:List AV->Option (AV×Option Prop)
 | [.p (.str s),.p (.str u)]=>some (.p (.bool (inS s u)),some (s.length<=1000000/\u.length<=1000000))
 | _=>none
theorem ok_tin:SpecOk Tryz.prog 40 sp_tin:=by
 intro zs r ok he hok
 unfold sp_tin at he
 split at he
 .cases he; exact ⟨by kernel_rfl,fn_tin 0 _ _ _ fun hx=>tin_eq _ _ hok⟩
 .cases he
abbrev fok (t:TermT) (g:List UInt8×List UInt8):Prop:=g.1.length<=1000000/\g.2.length<=1000000/\t.2.2.1.length<=1000000/\t.2.2.2.1.length<=1000000
def tP (t:TermT) (g:List UInt8×List UInt8):Bool:=inS g.2 t.2.2.2.1
def hP (t:TermT) (g:List UInt8×List UInt8):Bool:=(foldS g.1==foldS t.2.2.1)&&inS g.2 t.2.2.2.1
noncomputable def Ghold3:Cfg:=⟨Tryz.prog,mkEnv [(40,sp_tin)],mkEnvR [],9,[],[],[]⟩
noncomputable def Fhold3 (F:Nat) (g:List UInt8×List UInt8) (t:TermT):Option Ans:=runF Ghold3 Tryz.f42 F [.agg [.p (.str g.1),.p (.str g.2)],.p (.box 6 (cell termC t))]
theorem Fhold3_eq (F:Nat) (g:List UInt8×List UInt8) (t:TermT):Fhold3 F g t=need (g.2.length<=1000000/\t.2.2.2.1.length<=1000000) (some (.p (.bool (inS g.2 t.2.2.2.1)),[])):=by kernel_rfl
theorem fn_hold3 (F:Nat) (g:List UInt8×List UInt8) (t:TermT) (r:AV) (h:(∃ M vs,ARels γ0 M [.agg [.p (.str g.1),.p (.str g.2)],.p (.box 6 (cell termC t))] vs)->Fhold3 F g t=some (r,[])):FnP Tryz.prog 42 [.agg [.p (.str g.1),.p (.str g.2)],.p (.box 6 (cell termC t))] r:=
 FnP_run Ghold3 F rfl (EnvOk_mk (l:=[(40,sp_tin)]) ⟨ok_tin.any,trivial⟩) (EnvROk_mk (l:=[]) trivial) (Checked.mixed Tryz.checked) (fn:=Tryz.f42) (by kernel_rfl) (by kernel_rfl) rfl h
def sp_hold3:List AV->Option (AV×Option Prop)
 | [.agg [.p (.str a),.p (.str c)],.p (.box 6 f)]=>match toDat termC (rangeL f 6 0) with
  | some t=>some (.p (.bool (tP t (a,c))),some (fok t (a,c)))
  | none=>none
 | _=>none
theorem ok_hold3:SpecOk Tryz.prog 42 sp_hold3:=by
 intro zs r ok he hok
 unfold sp_hold3 at he
 split at he
 .rename_i a c f
  split at he
  .rename_i t ht
   cases he
   have hok:fok t (a,c):=hok
   exact ⟨by kernel_rfl,FnP.lq (ys:=[.agg [.p (.str a),.p (.str c)],.p (.box 6 (cell termC t))]) ⟨Lq.refl _,Lq.box (c:=termC) ht,trivial⟩
    (fn_hold3 0 (a,c) t _ fun _=>by rw [Fhold3_eq]; exact need_mk ⟨hok.2.1,hok.2.2.2⟩ rfl)⟩
  .cases he
 .cases he
noncomputable def Ghold4:Cfg:=⟨Tryz.prog,mkEnv [(27,sp_Fold),(40,sp_tin)],mkEnvR [],18,[],[],[]⟩
noncomputable def Fhold4 (F:Nat) (g:List UInt8×List UInt8) (t:TermT):Option Ans:=runF Ghold4 Tryz.f43 F [.agg [.p (.str g.1),.p (.str g.2)],.p (.box 6 (cell termC t))]
theorem Fhold4_eq (F:Nat) (g:List UInt8×List UInt8) (t:TermT):Fhold4 F g t=need (g.1.length<=140737488355328) (need (t.2.2.1.length<=140737488355328) (((((need (((foldS g.1)==(foldS t.2.2.1))=true->g.2.length<=1000000/\t.2.2.2.1.length<=1000000) ((some (.p (.bool (((foldS g.1)==(foldS t.2.2.1))&&(inS g.2 t.2.2.2.1))),[]))))))))):=by
 have h:Fhold4 F g t=need (g.1.length<=140737488355328) (need (t.2.2.1.length<=140737488355328) (need (((foldS g.1)==(foldS t.2.2.1))=true->((foldS g.1)==(foldS t.2.2.1))=true) (need (((foldS g.1)==(foldS t.2.2.1))=true->((foldS g.1)==(foldS t.2.2.1))=true) (need (((foldS g.1)==(foldS t.2.2.1))=true->((foldS g.1)==(foldS t.2.2.1))=true) (need (((foldS g.1)==(foldS t.2.2.1))=true->((foldS g.1)==(foldS t.2.2.1))=true) (need (((foldS g.1)==(foldS t.2.2.1))=true->g.2.length<=1000000/\t.2.2.2.1.length<=1000000) (need (((foldS g.1)==(foldS t.2.2.1))=true->((foldS g.1)==(foldS t.2.2.1))=true) (some (.p (.bool (((foldS g.1)==(foldS t.2.2.1))&&(inS g.2 t.2.2.2.1))),[]))))))))):=by kernel_rfl
 rw [h,need_pos (show ((foldS g.1)==(foldS t.2.2.1))=true->((foldS g.1)==(foldS t.2.2.1))=true from (fun q0=>q0)),need_pos (show ((foldS g.1)==(foldS t.2.2.1))=true->((foldS g.1)==(foldS t.2.2.1))=true from (fun q0=>q0)),need_pos (show ((foldS g.1)==(foldS t.2.2.1))=true->((foldS g.1)==(foldS t.2.2.1))=true from (fun q0=>q0)),need_pos (show ((foldS g.1)==(foldS t.2.2.1))=true->((foldS g.1)==(foldS t.2.2.1))=true from (fun q0=>q0)),need_pos (show ((foldS g.1)==(foldS t.2.2.1))=true->((foldS g.1)==(foldS t.2.2.1))=true from (fun q0=>q0))]
theorem fn_hold4 (F:Nat) (g:List UInt8×List UInt8) (t:TermT) (r:AV) (h:(∃ M vs,ARels γ0 M [.agg [.p (.str g.1),.p (.str g.2)],.p (.box 6 (cell termC t))] vs)->Fhold4 F g t=some (r,[])):FnP Tryz.prog 43 [.agg [.p (.str g.1),.p (.str g.2)],.p (.box 6 (cell termC t))] r:=
 FnP_run Ghold4 F rfl (EnvOk_mk (l:=[(27,sp_Fold),(40,sp_tin)]) ⟨ok_Fold.any,ok_tin.any,trivial⟩) (EnvROk_mk (l:=[]) trivial) (Checked.mixed Tryz.checked) (fn:=Tryz.f43) (by kernel_rfl) (by kernel_rfl) rfl h
def sp_hold4:List AV->Option (AV×Option Prop)
 | [.agg [.p (.str a),.p (.str c)],.p (.box 6 f)]=>match toDat termC (rangeL f 6 0) with
  | some t=>some (.p (.bool (hP t (a,c))),some (fok t (a,c)))
  | none=>none
 | _=>none
theorem ok_hold4:SpecOk Tryz.prog 43 sp_hold4:=by
 intro zs r ok he hok
 unfold sp_hold4 at he
 split at he
 .rename_i a c f
  split at he
  .rename_i t ht
   cases he
   have hok:fok t (a,c):=hok
   exact ⟨by kernel_rfl,FnP.lq (ys:=[.agg [.p (.str a),.p (.str c)],.p (.box 6 (cell termC t))]) ⟨Lq.refl _,Lq.box (c:=termC) ht,trivial⟩
    (fn_hold4 0 (a,c) t _ fun _=>by rw [Fhold4_eq]; exact need_mk (by have:=hok.1; omega) (need_mk (by have:=hok.2.2.1; omega) (need_mk (fun _=>⟨hok.2.1,hok.2.2.2⟩) rfl)))⟩
  .cases he
 .cases he
noncomputable def cidxF3:Code:=bodyOf Tryz.f63
noncomputable def GidxF3:Cfg:=⟨Tryz.prog,mkEnv [(42,sp_hold3)],mkEnvR [],19,[],[([0,1,0,1],⟨[0,1,7,8],[]⟩)],[]⟩
noncomputable def BidxF3_1 (F f1:Nat) (l:List (List UInt8×List UInt8)) (t:TermT) (vi1 vi2:Int):Option Ans:=runR GidxF3 cidxF3 (kP Tryz.prog Tryz.f63.results.toList) F [] [1,0,1,0] f1 [(0,.p (.list 2 (.dat (.pair .str .str) l))),(1,.clo (.func 42) [] [.p (.box 6 (cell termC t))]),(7,.p (.int .i64 vi1)),(8,.p (.int .i64 vi2))] []
noncomputable def FidxF3 (F:Nat) (l:List (List UInt8×List UInt8)) (t:TermT):Option Ans:=runF GidxF3 Tryz.f63 F [.p (.list 2 (.dat (.pair .str .str) l)),.clo (.func 42) [] [.p (.box 6 (cell termC t))]]
theorem BidxF3_1_eq (F f1:Nat) (l:List (List UInt8×List UInt8)) (t:TermT) (vi1 vi2:Int):BidxF3_1 F (f1+1) l t vi1 vi2=cond (decide (vi2 < vi1)) (need (0<=vi2/\vi2 < (l.length:Int)) (need (fok t (((l.getD (vi2).toNat ([],[])).1),((l.getD (vi2).toNat ([],[])).2))) (cond (tP t (((l.getD (vi2).toNat ([],[])).1),((l.getD (vi2).toNat ([],[])).2))) (some (.p (.int .i64 vi2),[])) (need (i64ok (vi2+(1:Int))) (BidxF3_1 F f1 l t vi1 (vi2+(1:Int))))))) (some (.p (.int .i64 (-1:Int)),[])):=by kernel_rfl
theorem FidxF3_eq (F:Nat) (l:List (List UInt8×List UInt8)) (t:TermT):FidxF3 F l t=BidxF3_1 F F l t (l.length:Int) (0:Int):=by kernel_rfl
theorem fn_idxF3 (F:Nat) (l:List (List UInt8×List UInt8)) (t:TermT) (r:AV) (h:(∃ M vs,ARels γ0 M [.p (.list 2 (.dat (.pair .str .str) l)),.clo (.func 42) [] [.p (.box 6 (cell termC t))]] vs)->FidxF3 F l t=some (r,[])):FnP Tryz.prog 63 [.p (.list 2 (.dat (.pair .str .str) l)),.clo (.func 42) [] [.p (.box 6 (cell termC t))]] r:=
 FnP_run GidxF3 F rfl (EnvOk_mk (l:=[(42,sp_hold3)]) ⟨ok_hold3.any,trivial⟩) (EnvROk_mk (l:=[]) trivial) (Checked.mixed Tryz.checked) (fn:=Tryz.f63) (by kernel_rfl) (by kernel_rfl) rfl h
theorem idxF3_eq (l:List (List UInt8×List UInt8)) (t:TermT) (hl:l.length<=1000000) (hc:∀ g ∈ l,fok t g):FidxF3 (l.length+1) l t=some (.p (.int .i64 (idxP (tP t) l)),[]):=by
 rw [FidxF3_eq]
 refine idx_all (([]:List UInt8),([]:List UInt8)) l (tP t) (fun f i=>BidxF3_1 (l.length+1) f l t (l.length:Int) i) (fun f i hi=>?_) (fun f=>?_) hl
 .show BidxF3_1 (l.length+1) (f+1) l t (l.length:Int) (i:Int)=_
  rw [BidxF3_1_eq]
  have hg:fok t (l.getD i ([],[])):=hc _ (by rw [List.getD_eq_getElem?_getD,List.getElem?_eq_getElem hi]; exact List.getElem_mem hi)
  refine cond_t (by simpa using hi) (need_mk ⟨by omega,by simpa using hi⟩ (need_mk hg ?_))
  show cond (tP t (l.getD i (([]:List UInt8),([]:List UInt8)))) _ _=_
  cases tP t (l.getD i (([]:List UInt8),([]:List UInt8))) with
  | true=>rfl
  | false=>refine cond_f rfl ?_; exact need_mk ⟨by omega,by omega⟩ rfl
 .show BidxF3_1 (l.length+1) (f+1) l t (l.length:Int) (l.length:Int)=_
  rw [BidxF3_1_eq]
  exact cond_f (by simp) rfl
noncomputable def cidxF4:Code:=bodyOf Tryz.f63
noncomputable def GidxF4:Cfg:=⟨Tryz.prog,mkEnv [(43,sp_hold4)],mkEnvR [],19,[],[([0,1,0,1],⟨[0,1,7,8],[]⟩)],[]⟩
noncomputable def BidxF4_1 (F f1:Nat) (l:List (List UInt8×List UInt8)) (t:TermT) (vi1 vi2:Int):Option Ans:=runR GidxF4 cidxF4 (kP Tryz.prog Tryz.f63.results.toList) F [] [1,0,1,0] f1 [(0,.p (.list 2 (.dat (.pair .str .str) l))),(1,.clo (.func 43) [] [.p (.box 6 (cell termC t))]),(7,.p (.int .i64 vi1)),(8,.p (.int .i64 vi2))] []
noncomputable def FidxF4 (F:Nat) (l:List (List UInt8×List UInt8)) (t:TermT):Option Ans:=runF GidxF4 Tryz.f63 F [.p (.list 2 (.dat (.pair .str .str) l)),.clo (.func 43) [] [.p (.box 6 (cell termC t))]]
theorem BidxF4_1_eq (F f1:Nat) (l:List (List UInt8×List UInt8)) (t:TermT) (vi1 vi2:Int):BidxF4_1 F (f1+1) l t vi1 vi2=cond (decide (vi2 < vi1)) (need (0<=vi2/\vi2 < (l.length:Int)) (need (fok t (((l.getD (vi2).toNat ([],[])).1),((l.getD (vi2).toNat ([],[])).2))) (cond (hP t (((l.getD (vi2).toNat ([],[])).1),((l.getD (vi2).toNat ([],[])).2))) (some (.p (.int .i64 vi2),[])) (need (i64ok (vi2+(1:Int))) (BidxF4_1 F f1 l t vi1 (vi2+(1:Int))))))) (some (.p (.int .i64 (-1:Int)),[])):=by kernel_rfl
theorem FidxF4_eq (F:Nat) (l:List (List UInt8×List UInt8)) (t:TermT):FidxF4 F l t=BidxF4_1 F F l t (l.length:Int) (0:Int):=by kernel_rfl
theorem fn_idxF4 (F:Nat) (l:List (List UInt8×List UInt8)) (t:TermT) (r:AV) (h:(∃ M vs,ARels γ0 M [.p (.list 2 (.dat (.pair .str .str) l)),.clo (.func 43) [] [.p (.box 6 (cell termC t))]] vs)->FidxF4 F l t=some (r,[])):FnP Tryz.prog 63 [.p (.list 2 (.dat (.pair .str .str) l)),.clo (.func 43) [] [.p (.box 6 (cell termC t))]] r:=
 FnP_run GidxF4 F rfl (EnvOk_mk (l:=[(43,sp_hold4)]) ⟨ok_hold4.any,trivial⟩) (EnvROk_mk (l:=[]) trivial) (Checked.mixed Tryz.checked) (fn:=Tryz.f63) (by kernel_rfl) (by kernel_rfl) rfl h
theorem idxF4_eq (l:List (List UInt8×List UInt8)) (t:TermT) (hl:l.length<=1000000) (hc:∀ g ∈ l,fok t g):FidxF4 (l.length+1) l t=some (.p (.int .i64 (idxP (hP t) l)),[]):=by
 rw [FidxF4_eq]
 refine idx_all (([]:List UInt8),([]:List UInt8)) l (hP t) (fun f i=>BidxF4_1 (l.length+1) f l t (l.length:Int) i) (fun f i hi=>?_) (fun f=>?_) hl
 .show BidxF4_1 (l.length+1) (f+1) l t (l.length:Int) (i:Int)=_
  rw [BidxF4_1_eq]
  have hg:fok t (l.getD i ([],[])):=hc _ (by rw [List.getD_eq_getElem?_getD,List.getElem?_eq_getElem hi]; exact List.getElem_mem hi)
  refine cond_t (by simpa using hi) (need_mk ⟨by omega,by simpa using hi⟩ (need_mk hg ?_))
  show cond (hP t (l.getD i (([]:List UInt8),([]:List UInt8)))) _ _=_
  cases hP t (l.getD i (([]:List UInt8),([]:List UInt8))) with
  | true=>rfl
  | false=>refine cond_f rfl ?_; exact need_mk ⟨by omega,by omega⟩ rfl
 .show BidxF4_1 (l.length+1) (f+1) l t (l.length:Int) (l.length:Int)=_
  rw [BidxF4_1_eq]
  exact cond_f (by simp) rfl
def sp_idxField:List AV->Option (AV×Option Prop)
 | [.p l,.clo (.func n) [] [.p (.box 6 f)]]=>
  match Nat.beq n 42,Nat.beq n 43 with
  | true,_=>match pList fieldC l,toDat termC (rangeL f 6 0) with
   | some l,some t=>some (.p (.int .i64 (idxP (tP t) l)),some (l.length<=1000000/\∀ g ∈ l,fok t g))
   | _,_=>none
  | _,true=>match pList fieldC l,toDat termC (rangeL f 6 0) with
   | some l,some t=>some (.p (.int .i64 (idxP (hP t) l)),some (l.length<=1000000/\∀ g ∈ l,fok t g))
   | _,_=>none
  | _,_=>none
 | _=>none
theorem ok_idxField:SpecOk Tryz.prog 63 sp_idxField:=by
 intro zs r ok he hok
 unfold sp_idxField at he
 split at he
 .rename_i l' n f
  split at he
  .rename_i hn
   obtain rfl:=Nat.eq_of_beq_eq_true hn
   split at he
   .rename_i l t hl ht
    cases he
    obtain ⟨hok,hg⟩:l.length<=1000000/\∀ g ∈ l,fok t g:=hok
    exact ⟨by kernel_rfl,FnP.lq (ys:=[.p (.list 2 (.dat fieldC l)),.clo (.func 42) [] [.p (.box 6 (cell termC t))]]) ⟨Lq.list (a:=fieldC) hl,Lq.clo ⟨Lq.box (c:=termC) ht,trivial⟩,trivial⟩
     (fn_idxF3 (l.length+1) l t _ fun _=>idxF3_eq l t hok hg)⟩
   .cases he
  .rename_i hn _
   obtain rfl:=Nat.eq_of_beq_eq_true hn
   split at he
   .rename_i l t hl ht
    cases he
    obtain ⟨hok,hg⟩:l.length<=1000000/\∀ g ∈ l,fok t g:=hok
    exact ⟨by kernel_rfl,FnP.lq (ys:=[.p (.list 2 (.dat fieldC l)),.clo (.func 43) [] [.p (.box 6 (cell termC t))]]) ⟨Lq.list (a:=fieldC) hl,Lq.clo ⟨Lq.box (c:=termC) ht,trivial⟩,trivial⟩
     (fn_idxF4 (l.length+1) l t _ fun _=>idxF4_eq l t hok hg)⟩
   .cases he
  .cases he
 .cases he
noncomputable def GctnF3:Cfg:=⟨Tryz.prog,mkEnv [(63,sp_idxField)],mkEnvR [],9,[],[],[]⟩
noncomputable def FctnF3 (F:Nat) (l:List (List UInt8×List UInt8)) (t:TermT):Option Ans:=runF GctnF3 Tryz.f41 F [.p (.list 2 (.dat (.pair .str .str) l)),.clo (.func 42) [] [.p (.box 6 (cell termC t))]]
theorem FctnF3_eq (F:Nat) (l:List (List UInt8×List UInt8)) (t:TermT):FctnF3 F l t=need (l.length<=1000000/\∀ g ∈ l,fok t g) (some (.p (.bool (decide ((idxP (tP t) l)>=(0:Int)))),[])):=by kernel_rfl
theorem fn_ctnF3 (F:Nat) (l:List (List UInt8×List UInt8)) (t:TermT) (r:AV) (h:(∃ M vs,ARels γ0 M [.p (.list 2 (.dat (.pair .str .str) l)),.clo (.func 42) [] [.p (.box 6 (cell termC t))]] vs)->FctnF3 F l t=some (r,[])):FnP Tryz.prog 41 [.p (.list 2 (.dat (.pair .str .str) l)),.clo (.func 42) [] [.p (.box 6 (cell termC t))]] r:=
 FnP_run GctnF3 F rfl (EnvOk_mk (l:=[(63,sp_idxField)]) ⟨ok_idxField.any,trivial⟩) (EnvROk_mk (l:=[]) trivial) (Checked.mixed Tryz.checked) (fn:=Tryz.f41) (by kernel_rfl) (by kernel_rfl) rfl h
theorem ctnF3_eq (l:List (List UInt8×List UInt8)) (t:TermT) (hl:l.length<=1000000) (hc:∀ g ∈ l,fok t g):FctnF3 0 l t=some (.p (.bool (l.any (tP t))),[]):=by
 rw [FctnF3_eq,<-idxP_any]
 exact need_mk ⟨hl,hc⟩ rfl
noncomputable def GctnF4:Cfg:=⟨Tryz.prog,mkEnv [(63,sp_idxField)],mkEnvR [],9,[],[],[]⟩
noncomputable def FctnF4 (F:Nat) (l:List (List UInt8×List UInt8)) (t:TermT):Option Ans:=runF GctnF4 Tryz.f41 F [.p (.list 2 (.dat (.pair .str .str) l)),.clo (.func 43) [] [.p (.box 6 (cell termC t))]]
theorem FctnF4_eq (F:Nat) (l:List (List UInt8×List UInt8)) (t:TermT):FctnF4 F l t=need (l.length<=1000000/\∀ g ∈ l,fok t g) (some (.p (.bool (decide ((idxP (hP t) l)>=(0:Int)))),[])):=by kernel_rfl
theorem fn_ctnF4 (F:Nat) (l:List (List UInt8×List UInt8)) (t:TermT) (r:AV) (h:(∃ M vs,ARels γ0 M [.p (.list 2 (.dat (.pair .str .str) l)),.clo (.func 43) [] [.p (.box 6 (cell termC t))]] vs)->FctnF4 F l t=some (r,[])):FnP Tryz.prog 41 [.p (.list 2 (.dat (.pair .str .str) l)),.clo (.func 43) [] [.p (.box 6 (cell termC t))]] r:=
 FnP_run GctnF4 F rfl (EnvOk_mk (l:=[(63,sp_idxField)]) ⟨ok_idxField.any,trivial⟩) (EnvROk_mk (l:=[]) trivial) (Checked.mixed Tryz.checked) (fn:=Tryz.f41) (by kernel_rfl) (by kernel_rfl) rfl h
theorem ctnF4_eq (l:List (List UInt8×List UInt8)) (t:TermT) (hl:l.length<=1000000) (hc:∀ g ∈ l,fok t g):FctnF4 0 l t=some (.p (.bool (l.any (hP t))),[]):=by
 rw [FctnF4_eq,<-idxP_any]
 exact need_mk ⟨hl,hc⟩ rfl
def sp_ctnField:List AV->Option (AV×Option Prop)
 | [.p l,.clo (.func n) [] [.p (.box 6 f)]]=>
  match Nat.beq n 42,Nat.beq n 43 with
  | true,_=>match pList fieldC l,toDat termC (rangeL f 6 0) with
   | some l,some t=>some (.p (.bool (l.any (tP t))),some (l.length<=1000000/\∀ g ∈ l,fok t g))
   | _,_=>none
  | _,true=>match pList fieldC l,toDat termC (rangeL f 6 0) with
   | some l,some t=>some (.p (.bool (l.any (hP t))),some (l.length<=1000000/\∀ g ∈ l,fok t g))
   | _,_=>none
  | _,_=>none
 | _=>none
theorem ok_ctnField:SpecOk Tryz.prog 41 sp_ctnField:=by
 intro zs r ok he hok
 unfold sp_ctnField at he
 split at he
 .rename_i l' n f
  split at he
  .rename_i hn
   obtain rfl:=Nat.eq_of_beq_eq_true hn
   split at he
   .rename_i l t hl ht
    cases he
    obtain ⟨hok,hg⟩:l.length<=1000000/\∀ g ∈ l,fok t g:=hok
    exact ⟨by kernel_rfl,FnP.lq (ys:=[.p (.list 2 (.dat fieldC l)),.clo (.func 42) [] [.p (.box 6 (cell termC t))]]) ⟨Lq.list (a:=fieldC) hl,Lq.clo ⟨Lq.box (c:=termC) ht,trivial⟩,trivial⟩
     (fn_ctnF3 0 l t _ fun _=>ctnF3_eq l t hok hg)⟩
   .cases he
  .rename_i hn _
   obtain rfl:=Nat.eq_of_beq_eq_true hn
   split at he
   .rename_i l t hl ht
    cases he
    obtain ⟨hok,hg⟩:l.length<=1000000/\∀ g ∈ l,fok t g:=hok
    exact ⟨by kernel_rfl,FnP.lq (ys:=[.p (.list 2 (.dat fieldC l)),.clo (.func 43) [] [.p (.box 6 (cell termC t))]]) ⟨Lq.list (a:=fieldC) hl,Lq.clo ⟨Lq.box (c:=termC) ht,trivial⟩,trivial⟩
     (fn_ctnF4 0 l t _ fun _=>ctnF4_eq l t hok hg)⟩
   .cases he
  .cases he
 .cases he
end Go.Proofs.YtampckbjinodgaaGreatDoor
namespace Go.Proofs.YtampckbjinodgaaGreatDoor
open Go Go.Am
set_option linter.unusedVariables false
def hold2 (p:OpenT) (t:TermT):Bool:=
 if t.1=11 then inS p.2.2 t.2.2.2.1||p.2.1.any (tP t) else if t.1=12 then p.2.1.any (hP t) else if t.1=13 then inS p.2.2 t.2.2.2.1 else hold1 p t
end Go.Proofs.YtampckbjinodgaaGreatDoor
