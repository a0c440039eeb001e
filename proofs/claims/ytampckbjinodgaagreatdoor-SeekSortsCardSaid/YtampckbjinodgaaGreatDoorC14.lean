/-
  Lifted functions, and facts about them.
-/
import Derived.Test.YtampckbjinodgaaGreatDoorRows
import Derived.Test.YtampckbjinodgaaGreatDoorAmC
import Derived.Test.YtampckbjinodgaaGreatDoorC01
import Derived.Test.YtampckbjinodgaaGreatDoorC13
import Derived.Test.YtampckbjinodgaaGreatDoorC10
namespace Go.Proofs.YtampckbjinodgaaGreatDoor
open Go Go.Am
set_option linter.unusedVariables false
def lnOk:Nat->Nat->List (Nat×List UInt8×Nat)->Prop
 | a,b,[]=>a<=b
 | a,b,(_,t,nx)::r=>a < nx/\nx<=b/\t.length<=nx - a/\lnOk nx b r
theorem linesN_ok {s:List UInt8} {b:Nat} (hb:b<=s.length):∀ (n i:Nat),b - i=n->i<=b->lnOk i b (linesN s i b)/\(linesN s i b).length<=b - i:=by
 intro n
 induction n using Nat.strongRecOn with
 | _ n ih=>
  intro i hn hi
  by_cases h:i < b
  .obtain ⟨h1,h2,h3,h4⟩:=nextL_spec h hb
   obtain ⟨k1,k2⟩:=ih (b - (nextL s i b).2) (by omega) _ rfl h3
   rw [h1]
   exact ⟨⟨h2,h3,h4,k1⟩,by simp; omega⟩
  .rw [linesN_nil (by omega)]; exact ⟨hi,by simp⟩
end Go.Proofs.YtampckbjinodgaaGreatDoor
namespace Go.Proofs.YtampckbjinodgaaGreatDoor
open Go Go.Am
set_option linter.unusedVariables false
def shownS (s:List UInt8):List UInt8:=if validS s=true then s else bytesS s
noncomputable def cshown:Code:=bodyOf Tryz.f48
noncomputable def Gshown:Cfg:=⟨Tryz.prog,mkEnv [(75,sp_uvalid),(77,sp_Put)],mkEnvR [(76,sp_wstr),(78,sp_bstr)],21,[],[([0,1,0,1,1,1],⟨[0,3,9,10],[⟨.slot 3,3,.cells []⟩,⟨.cell 3 1,4001,(.barr 5 false [])⟩]⟩)],[([1,0,0,1,1,0,0,1,0,1,1,1],[5]),([0,1,1,1,1],[0])]⟩
noncomputable def Bshown_1 (F f1:Nat) (s:List UInt8) (vi1 vi2:Int) (vb3:List UInt8):Option Ans:=runR Gshown cshown (kP Tryz.prog Tryz.f48.results.toList) F [] [1,1,1,0,1,0] f1 [(0,.p (.str s)),(3,.ref 3 0),(9,.p (.int .i64 vi1)),(10,.p (.int .i64 vi2))] [(3,.bldr 124 (.arr 4001)),(4001,.barr 5 false vb3)]
noncomputable def Fshown (F:Nat) (s:List UInt8):Option Ans:=runF Gshown Tryz.f48 F [.p (.str s)]
theorem Bshown_1_eq (F f1:Nat) (s:List UInt8) (vi1 vi2:Int) (vb3:List UInt8):Bshown_1 F (f1+1) s vi1 vi2 vb3=cond (decide (vi2 < vi1)) (need (0<=vi2/\vi2 < (s.length:Int)) (need (-1000000000000<=((s.getD (vi2).toNat 0).toNat:Int)/\((s.getD (vi2).toNat 0).toNat:Int)<=1000000000000) (need (vb3.length+(putS ((s.getD (vi2).toNat 0).toNat:Int)).length<=140737488355328) (need (i64ok (vi2+(1:Int))) (Bshown_1 F f1 s vi1 (vi2+(1:Int)) (vb3++(putS ((s.getD (vi2).toNat 0).toNat:Int)))))))) (some (.p (.str vb3),[])):=by kernel_rfl
theorem Fshown_eq (F:Nat) (s:List UInt8):Fshown F s=need (s.length<=1000000) (cond (validS s) (some (.p (.str s),[])) (Bshown_1 F F s (s.length:Int) (0:Int) [])):=by kernel_rfl
theorem fn_shown (F:Nat) (s:List UInt8) (r:AV) (h:(∃ M vs,ARels γ0 M [.p (.str s)] vs)->Fshown F s=some (r,[])):FnP Tryz.prog 48 [.p (.str s)] r:=
 FnP_run Gshown F rfl (EnvOk_mk (l:=[(75,sp_uvalid),(77,sp_Put)]) ⟨ok_uvalid.any,ok_Put.any,trivial⟩) (EnvROk_mk (l:=[(76,sp_wstr),(78,sp_bstr)]) ⟨ok_wstr,ok_bstr,trivial⟩) (Checked.mixed Tryz.checked) (fn:=Tryz.f48) (by kernel_rfl) (by kernel_rfl) rfl h
theorem Bshown_spec (F:Nat) (s:List UInt8) (hs:s.length<=1000000):∀ (r:List UInt8) (f i:Nat) (acc:List UInt8),s.drop i=r->acc.length<=4 * i->r.length < f->i<=s.length->
 Bshown_1 F f s (s.length:Int) (i:Int) acc=some (.p (.str (acc++bytesS r)),[]):=by
 intro r
 induction r with
 | nil=>
  intro f i acc hd ha hf hi
  have:i=s.length:=by have:=congrArg List.length hd; simp at this; omega
  cases f with
  | zero=>omega
  | succ f=>
   rw [Bshown_1_eq]
   refine cond_f (by first | omega | (unfold i64ok; omega) | (simp only [List.length_cons,List.length_nil]; omega) | (simp; omega) | simp) ?_
   simp [bytesS]
 | cons c r ih=>
  intro f i acc hd ha hf hi
  obtain ⟨h1,h2,h3⟩:=drop_cons hd
  cases f with
  | zero=>omega
  | succ f=>
   have hlt:=c.toNat_lt
   have hl:=putS_len (c.toNat:Int)
   rw [Bshown_1_eq]
   refine cond_t (by first | omega | (unfold i64ok; omega) | (simp only [List.length_cons,List.length_nil]; omega) | (simp; omega) | simp) ?_
   refine need_mk (by first | omega | (unfold i64ok; omega) | (simp only [List.length_cons,List.length_nil]; omega) | (simp; omega) | simp) ?_
   rw [Int.toNat_natCast,h1]
   refine need_mk (by first | omega | (unfold i64ok; omega) | (simp only [List.length_cons,List.length_nil]; omega) | (simp; omega) | simp) ?_
   refine need_mk (by omega) ?_
   refine need_mk (by first | omega | (unfold i64ok; omega) | (simp only [List.length_cons,List.length_nil]; omega) | (simp; omega) | simp) ?_
   have e:(i:Int)+1=((i+1:Nat):Int):=by omega
   rw [e,ih f (i+1) _ h2 (by simp; omega) (by simp at hf; omega) (by omega)]
   simp [bytesS]
theorem shown_eq (s:List UInt8) (hs:s.length<=1000000):Fshown (s.length+1) s=some (.p (.str (shownS s)),[]):=by
 rw [Fshown_eq,shownS]
 refine need_mk hs ?_
 cases hv:validS s with
 | true=>rfl
 | false=>exact Bshown_spec _ s hs s (s.length+1) 0 [] rfl (by simp) (by omega) (by omega)
def sp_shown:List AV->Option (AV×Option Prop)
 | [.p (.str s)]=>some (.p (.str (shownS s)),some (s.length<=1000000))
 | _=>none
theorem ok_shown:SpecOk Tryz.prog 48 sp_shown:=by
 intro zs r ok he hok
 unfold sp_shown at he
 split at he
 .cases he; exact ⟨by kernel_rfl,fn_shown (_) _ _ fun hx=>shown_eq _ hok⟩
 .cases he
noncomputable def Gfields:Cfg:=⟨Tryz.prog,mkEnv [(34,sp_split)],mkEnvR [],10,[],[],[]⟩
noncomputable def Ffields (F:Nat) (s:List UInt8):Option Ans:=runF Gfields Tryz.f47 F [.p (.str s)]
theorem Ffields_eq (F:Nat) (s:List UInt8):Ffields F s=need (s.length<=1000000) (some (.tup [.p (.list 2 (.dat (.pair .str .str) ((splitS s (0:Int) (s.length:Int)).1))),.p (.int .i64 ((splitS s (0:Int) (s.length:Int)).2))],[])):=by kernel_rfl
theorem fn_fields (F:Nat) (s:List UInt8) (r:AV) (h:(∃ M vs,ARels γ0 M [.p (.str s)] vs)->Ffields F s=some (r,[])):FnP Tryz.prog 47 [.p (.str s)] r:=
 FnP_run Gfields F rfl (EnvOk_mk (l:=[(34,sp_split)]) ⟨ok_split.any,trivial⟩) (EnvROk_mk (l:=[]) trivial) (Checked.mixed Tryz.checked) (fn:=Tryz.f47) (by kernel_rfl) (by kernel_rfl) rfl h
theorem fields_eq (s:List UInt8) (hs:s.length<=1000000):Ffields 0 s=some (.tup [.p (.list 2 (.dat (.pair .str .str) (splitS s 0 (s.length:Int)).1)),.p (.int .i64 (splitS s 0 (s.length:Int)).2)],[]):=by
 rw [Ffields_eq]; exact need_mk hs rfl
def sp_fields:List AV->Option (AV×Option Prop)
 | [.p (.str s)]=>some (.tup [.p (.list 2 (.dat (.pair .str .str) ((splitS s 0 (s.length:Int)).1))),.p (.int .i64 ((splitS s 0 (s.length:Int)).2))],some (s.length<=1000000))
 | _=>none
theorem ok_fields:SpecOk Tryz.prog 47 sp_fields:=by
 intro zs r ok he hok
 unfold sp_fields at he
 split at he
 .cases he; exact ⟨by kernel_rfl,fn_fields 0 _ _ fun hx=>fields_eq _ hok⟩
 .cases he
end Go.Proofs.YtampckbjinodgaaGreatDoor
namespace Go.Proofs.YtampckbjinodgaaGreatDoor
open Go Go.Am
set_option linter.unusedVariables false
theorem gath_len:∀ (L:List (Nat×List UInt8×Nat)) (body:Int) (g:List (List UInt8)),(gathS L body g).1.length<=g.length+L.length
 | [],body,g=>by rw [gathS]; simp
 | (i,t,nx)::r,body,g=>by
  rw [gathS]
  split
  .simp
  .split
   .have:=gath_len r body (g.set (g.length - 1) (g.getD (g.length - 1) []++t)); simp at this ⊢; omega
   .have:=gath_len r body (g++[t]); simp at this ⊢; omega
theorem splitS_len (s:List UInt8) (a b:Int):(splitS s a b).1.length<=s.length:=by
 unfold splitS
 split
 .simp
 .rename_i h
  have h1:=(linesN_ok (s:=s) (b:=b.toNat) (by omega) (b.toNat - a.toNat) a.toNat rfl (by omega)).2
  have h2:=gath_len (linesN s a.toNat b.toNat) b []
  have h3:∀ l:List (List UInt8),(fieldsS l).length<=l.length:=fun l=>by unfold fieldsS; exact List.length_filterMap_le _ _
  have h4:=h3 (gathS (linesN s a.toNat b.toNat) b []).1
  simp at h2
  show (fieldsS _).length<=_
  omega
theorem gath_le:∀ (L:List (Nat×List UInt8×Nat)) (x y:Nat) (body:Int) (g:List (List UInt8)),lnOk x y L->(∀ t ∈ g,t.length<=x)->∀ t ∈ (gathS L body g).1,t.length<=y
 | [],x,y,body,g,h,hg=>fun t ht=>Nat.le_trans (hg t ht) h
 | (i,t,nx)::r,x,y,body,g,h,hg=>by
  obtain ⟨l1,l2,l3,l4⟩:=h
  rw [gathS]
  split
  .exact fun u hu=>by have:=hg u hu; omega
  .split
   .rename_i h2
    have hgl:=List.length_pos_iff.2 h2.1
    have h1:=hg _ (getD_mem (show g.length - 1 < g.length by omega) [])
    refine gath_le r nx y body _ l4 fun u hu=>?_
    rcases List.mem_or_eq_of_mem_set hu with hu | hu
    .have:=hg u hu; omega
    .rw [hu,List.length_append]; omega
   .refine gath_le r nx y body _ l4 fun u hu=>?_
    rcases List.mem_append.1 hu with hu | hu
    .have:=hg u hu; omega
    .rw [List.mem_singleton.1 hu]; omega
theorem splitS_elem (s:List UInt8) (a b:Int):∀ x ∈ (splitS s a b).1,x.1.length<=s.length/\x.2.length<=s.length:=by
 unfold splitS
 split
 .intro x hx; cases hx
 .rename_i h
  have h1:=(linesN_ok (s:=s) (b:=b.toNat) (by omega) (b.toNat - a.toNat) a.toNat rfl (by omega)).1
  have h2:=gath_le _ _ _ b [] h1 (by simp)
  intro x hx
  unfold fieldsS at hx
  obtain ⟨t,ht,he⟩:=List.mem_filterMap.1 hx
  split at he
  .cases he
   have hl:=h2 t ht
   have hc:=cutS_len t 58
   have hb:=trimBl_len (cutS t 58).2.1
   unfold oneF
   dsimp only
   omega
  .cases he
theorem firstS_len {l:List (List UInt8×List UInt8)} {n:List UInt8} {k:Nat} (h:∀ x ∈ l,x.2.length<=k):(firstS l n).1.length<=k:=by
 induction l with
 | nil=>simp [firstS]
 | cons x r ih=>
  rw [firstS]
  split
  .exact h x (by simp)
  .exact ih fun y hy=>h y (List.mem_cons_of_mem _ hy)
theorem gath_body:∀ (L:List (Nat×List UInt8×Nat)) (x y:Nat) (g:List (List UInt8)),lnOk x y L->x<=y->(x:Int)<=(gathS L (y:Int) g).2/\(gathS L (y:Int) g).2<=y
 | [],x,y,g,h,h1=>by rw [gathS]; dsimp only; omega
 | (i,t,nx)::r,x,y,g,h,h1=>by
  obtain ⟨l1,l2,l3,l4⟩:=h
  rw [gathS]
  split
  .dsimp only; omega
  .split
   .have:=gath_body r nx y (g.set (g.length - 1) (g.getD (g.length - 1) []++t)) l4 l2; omega
   .have:=gath_body r nx y (g++[t]) l4 l2; omega
theorem body_all (s:List UInt8):0<=(splitS s 0 (s.length:Int)).2/\(splitS s 0 (s.length:Int)).2<=(s.length:Int):=by
 unfold splitS
 rw [if_neg (by omega),Int.toNat_natCast,show ((0:Int)).toNat=0 from rfl]
 exact gath_body _ 0 s.length [] (linesN_ok (s:=s) (b:=s.length) (by omega) (s.length - 0) 0 rfl (by omega)).1 (by omega)
end Go.Proofs.YtampckbjinodgaaGreatDoor
namespace Go.Proofs.YtampckbjinodgaaGreatDoor
open Go Go.Am
set_option linter.unusedVariables false
theorem dec_len (s:List UInt8):∀ (f i:Nat),(decF f s i).length<=12 * (s.length - i):=by
 intro f
 induction f with
 | zero=>intro i; simp [decF]
 | succ f ih=>
  intro i
  rw [decF]
  split
  .rename_i hi
   cases ho:okAt s i with
   | none=>have:=ih (i+1); simp only [List.length_cons]; omega
   | some p=>
    obtain ⟨t,n⟩:=p
    obtain ⟨_,h1,h2,_,_,h3⟩:=okAt_some ho
    have h4:=contN_le h2
    have:=ih (contN s n)
    simp only [List.length_append]; omega
  .simp
theorem wordS_len (s:List UInt8):(wordS s).length<=12 * s.length:=dec_len s _ 0
abbrev cSubj:List UInt8:=[115,117,98,106,101,99,116]
def subjV (s:List UInt8):List UInt8:=(firstS (splitS s 0 (s.length:Int)).1 cSubj).1
def subjS (s:List UInt8):List UInt8:=shownS (wordS (subjV s))
theorem splitAll_ok {s:List UInt8} (hs:s.length<=1000000) {n:List UInt8} (hn:n.length<=100):firstok (splitS s 0 (s.length:Int)).1 n:=by
 have h1:=splitS_len s 0 (s.length:Int)
 exact ⟨by omega,fun x hx=>by have:=(splitS_elem s 0 (s.length:Int) x hx).1; omega,by omega⟩
theorem subjV_len (s:List UInt8):(subjV s).length<=s.length:=firstS_len fun x hx=>(splitS_elem s 0 (s.length:Int) x hx).2
noncomputable def csubject:Code:=bodyOf Tryz.f28
noncomputable def Gsubject:Cfg:=⟨Tryz.prog,mkEnv [(45,sp_first),(47,sp_fields),(48,sp_shown),(49,sp_wdec)],mkEnvR [],20,[],[([1,1,1],⟨[5],[]⟩)],[]⟩
noncomputable def Bsubject_1 (F:Nat) (vs1:List UInt8):Option Ans:=runB Gsubject csubject (kP Tryz.prog Tryz.f28.results.toList) F [] [1,1,1] [(5,.p (.str vs1))] []
noncomputable def Fsubject (F:Nat) (s:List UInt8):Option Ans:=runF Gsubject Tryz.f28 F [.p (.str s)]
theorem Bsubject_1_eq (F:Nat) (vs1:List UInt8):Bsubject_1 F vs1=need (vs1.length<=100000) (need ((wordS vs1).length<=1000000) (some (.p (.str (shownS (wordS vs1))),[]))):=by kernel_rfl
theorem Fsubject_eq (F:Nat) (s:List UInt8):Fsubject F s=need (s.length<=1000000) (need (firstok ((splitS s 0 (s.length:Int)).1) ([115,117,98,106,101,99,116]:List UInt8)) (Bsubject_1 F ((firstS ((splitS s 0 (s.length:Int)).1) ([115,117,98,106,101,99,116]:List UInt8)).1))):=by kernel_rfl
theorem fn_subject (F:Nat) (s:List UInt8) (r:AV) (h:(∃ M vs,ARels γ0 M [.p (.str s)] vs)->Fsubject F s=some (r,[])):FnP Tryz.prog 28 [.p (.str s)] r:=
 FnP_run Gsubject F rfl (EnvOk_mk (l:=[(45,sp_first),(47,sp_fields),(48,sp_shown),(49,sp_wdec)]) ⟨ok_first.any,ok_fields.any,ok_shown.any,ok_wdec.any,trivial⟩) (EnvROk_mk (l:=[]) trivial) (Checked.mixed Tryz.checked) (fn:=Tryz.f28) (by kernel_rfl) (by kernel_rfl) rfl h
theorem subject_eq (s:List UInt8) (hs:s.length<=50000):Fsubject 0 s=some (.p (.str (subjS s)),[]):=by
 have h1:=subjV_len s
 have h2:=wordS_len (subjV s)
 rw [Fsubject_eq]
 refine need_mk (by omega) (need_mk (splitAll_ok (by omega) (by simp)) ?_)
 rw [Bsubject_1_eq]
 exact need_mk (by show (subjV s).length<=_; omega) (need_mk (by show (wordS (subjV s)).length<=_; omega) rfl)
def sp_subject:List AV->Option (AV×Option Prop)
 | [.p (.str s)]=>some (.p (.str (subjS s)),some (s.length<=50000))
 | _=>none
theorem ok_subject:SpecOk Tryz.prog 28 sp_subject:=by
 intro zs r ok he hok
 unfold sp_subject at he
 split at he
 .cases he; exact ⟨by kernel_rfl,fn_subject 0 _ _ fun hx=>subject_eq _ hok⟩
 .cases he
end Go.Proofs.YtampckbjinodgaaGreatDoor
