/-
  Lifted functions, and facts about them.
-/
import Derived.Test.YtampckbjinodgaaGreatDoorRows
import Derived.Test.YtampckbjinodgaaGreatDoorAmC
import Derived.Test.YtampckbjinodgaaGreatDoorC08
import Derived.Test.YtampckbjinodgaaGreatDoorC09
import Derived.Test.YtampckbjinodgaaGreatDoorC03
import Derived.Test.YtampckbjinodgaaGreatDoorC01
import Derived.Shelf.Strings.SlTrimAscii
import Derived.ShutString
import Derived.RangeFuncRecord
namespace Go.Proofs.YtampckbjinodgaaGreatDoor
open Go Go.Am
set_option linter.unusedVariables false
def okAt (s:List UInt8) (i:Nat):Option (List UInt8×Nat):=if (oneS s (i:Int)).2.2=true then some ((oneS s (i:Int)).1,(oneS s (i:Int)).2.1.toNat) else none
def contN (s:List UInt8) (n:Nat):Nat:=if blN s n < s.length/\(okAt s (blN s n)).isSome=true then blN s n else n
def decF:Nat->List UInt8->Nat->List UInt8
 | 0,_,_=>[]
 | f + 1, s, i => if i < s.length then
     match okAt s i with
     | none=>s.getD i 0::decF f s (i+1)
     | some (t,n)=>t++decF f s (contN s n)
  else []
def dec (s:List UInt8) (i:Nat):List UInt8:=decF (s.length - i+1) s i
def wordS (s:List UInt8):List UInt8:=dec s 0
theorem bytesS_len:∀ u:List UInt8,(bytesS u).length<=4 * u.length
 | []=>by simp [bytesS]
 | c::r=>by
  have:=bytesS_len r
  have h:=putS_len (c.toNat:Int)
  unfold bytesS at *
  rw [List.flatMap_cons,List.length_append,List.length_cons]; omega
theorem bodyS_len {k:UInt8} {t u:List UInt8} (h:bodyS k t=some u):u.length<=3 * t.length+2:=by
 unfold bodyS at h
 split at h
 .cases h; exact looseG_len t 0 0
 .split at h
  .cases h
   have:=qdec_len _ (repS t 95 32) (Nat.le_refl _)
   rw [rep_len] at this; omega
  .cases h
theorem saysS_len (c u:List UInt8):(saysS c u).1.length<=4 * u.length:=by
 unfold saysS
 split
 .simp; omega
 .split
  .exact bytesS_len u
  .simp
theorem parse_some {s:List UInt8} {i a b:Nat} (h:parse s i=some (a,b)):i+3<=a/\a+3<=b/\b+2<=s.length/\s.getD i 0=61:=by
 unfold parse at h
 split at h
 .cases h
 .rename_i c1
  split at h
  .cases h
  .rename_i c2
   split at h
   .cases h
   .rename_i c3
    cases h
    have c1':hasP (s.drop i) sOpen=true:=by simpa using c1
    have c3':hasP (s.drop (runN s (runN s (i+2)+3))) sShut=true:=by simpa using c3
    have h1:=hasP2 c1'
    have h3:=hasP2 c3'
    simp only [List.length_drop,List.length_cons,List.length_nil] at h1 h3
    have r1:=runN_le (s:=s) (i:=i+2) (by omega)
    have n1:runN s (i+2)≠i+2:=fun e=>c2 (.inl e)
    have n2:¬ s.length < runN s (i+2)+3:=fun e=>c2 (.inr (.inl e))
    have r2:=runN_le (s:=s) (i:=runN s (i+2)+3) (by omega)
    refine ⟨by omega,by omega,by omega,?_⟩
    unfold hasP at c1'
    rw [beq_iff_eq] at c1'
    have:=take_cons (s:=s) (j:=i) (m:=1) (by omega)
    rw [show sOpen.length=1+1 from rfl,this] at c1'
    exact (List.cons.inj c1').1
theorem okAt_some {s:List UInt8} {i:Nat} {t:List UInt8} {n:Nat} (h:okAt s i=some (t,n)):oneS s (i:Int)=(t,(n:Int),true)/\i+8<=n/\n<=s.length/\s.getD i 0=61/\t.length+8 * i<=12 * n+8 * i/\t.length<=12 * (n - i):=by
 unfold okAt at h
 split at h
 .rename_i hok
  cases h
  unfold oneS at *
  rw [show ((i:Int)).toNat=i from rfl] at *
  cases hp:parse s i with
  | none=>rw [hp] at hok; cases hok
  | some p=>
   obtain ⟨a,b⟩:=p
   obtain ⟨h1,h2,h3,h4⟩:=parse_some hp
   rw [hp] at hok
   dsimp only at hok ⊢
   cases hb:bodyS (s.getD (a+1) 0) ((s.take b).drop (a+3)) with
   | none=>rw [hb] at hok; cases hok
   | some u=>
    rw [hb] at hok
    dsimp only at hok ⊢
    have l1:=bodyS_len hb
    have l2:=saysS_len ((s.take a).drop (i+2)) u
    have l3:((s.take b).drop (a+3)).length<=b - (a+3):=by simp; omega
    rw [hok]
    refine ⟨rfl,?_,?_,h4,?_,?_⟩ <;> rw [show (((b+2:Nat):Int)).toNat=b+2 from rfl] <;> omega
 .cases h
theorem okAt_none {s:List UInt8} {i:Nat} (h:okAt s i=none):(oneS s (i:Int)).2.2=false:=by
 unfold okAt at h
 split at h
 .cases h
 .rename_i hok; simpa using hok
theorem contN_le {s:List UInt8} {n:Nat} (h:n<=s.length):n<=contN s n/\contN s n<=s.length:=by
 have:=blN_le h
 unfold contN
 split <;> omega
theorem decF_eq (s:List UInt8):∀ (f g i:Nat),s.length - i < f->s.length - i < g->decF f s i=decF g s i:=by
 intro f
 induction f with
 | zero=>intro g i h; omega
 | succ f ih=>
  intro g i hf hg
  cases g with
  | zero=>omega
  | succ g=>
   rw [decF,decF]
   by_cases hi:i < s.length
   .rw [if_pos hi,if_pos hi]
    cases ho:okAt s i with
    | none=>dsimp only; rw [ih g (i+1) (by omega) (by omega)]
    | some p=>
     obtain ⟨t,n⟩:=p
     obtain ⟨_,h1,h2,_⟩:=okAt_some ho
     have:=contN_le h2
     dsimp only
     rw [ih g (contN s n) (by omega) (by omega)]
   .rw [if_neg hi,if_neg hi]
theorem dec_end {s:List UInt8} {i:Nat} (h:s.length<=i):dec s i=[]:=by rw [dec,decF,if_neg (by omega)]
theorem dec_none {s:List UInt8} {i:Nat} (h:i < s.length) (ho:okAt s i=none):dec s i=s.getD i 0::dec s (i+1):=by
 rw [dec,decF,if_pos h,ho]
 dsimp only
 rw [dec,decF_eq s (s.length - i) (s.length - (i+1)+1) (i+1) (by omega) (by omega)]
theorem dec_some {s:List UInt8} {i n:Nat} {t:List UInt8} (h:i < s.length) (ho:okAt s i=some (t,n)):dec s i=t++dec s (contN s n):=by
 obtain ⟨_,h1,h2,_⟩:=okAt_some ho
 have:=contN_le h2
 rw [dec,decF,if_pos h,ho]
 dsimp only
 rw [dec,decF_eq s (s.length - i) (s.length - (contN s n)+1) (contN s n) (by omega) (by omega)]
noncomputable def cwdec:Code:=bodyOf Tryz.f49
noncomputable def Gwdec:Cfg:=⟨Tryz.prog,mkEnv [(79,sp_one),(81,sp_wbl)],mkEnvR [(76,sp_wstr),(78,sp_bstr),(80,sp_wbyte)],51,[],[([0,0,1,1,1,0,1],⟨[0,3,4],[⟨.slot 3,3,.cells []⟩,⟨.cell 3 1,4001,(.barr 5 false [])⟩]⟩)],[([0,0,1,0,1,0,1,0,0,0,1,1,1,0,1],[3]),([0,1,1,0,1,0,0,0,1,1,1,0,1],[1]),([0,1,1,1,1,0,1],[0])]⟩
noncomputable def Bwdec_1 (F f1:Nat) (s:List UInt8) (vi1:Int) (vb2:List UInt8):Option Ans:=runR Gwdec cwdec (kP Tryz.prog Tryz.f49.results.toList) F [] [1,0,1,1,1,0,0] f1 [(0,.p (.str s)),(3,.ref 3 0),(4,.p (.int .i64 vi1))] [(3,.bldr 124 (.arr 4001)),(4001,.barr 5 false vb2)]
noncomputable def Fwdec (F:Nat) (s:List UInt8):Option Ans:=runF Gwdec Tryz.f49 F [.p (.str s)]
theorem Bwdec_1_eq (F f1:Nat) (s:List UInt8) (vi1:Int) (vb2:List UInt8):Bwdec_1 F (f1+1) s vi1 vb2=cond (decide (vi1 < (s.length:Int))) (need (wposok s vi1) (cond (!((oneS s vi1).2.2)) (need (0<=vi1/\vi1 < (s.length:Int)) (need (vb2.length+1<=140737488355328) (need (i64ok (vi1+(1:Int))) (Bwdec_1 F f1 s (vi1+(1:Int)) (vb2++[UInt8.ofNat (((s.getD (vi1).toNat 0).toNat:Int)).toNat]))))) (need (vb2.length+((oneS s vi1).1).length<=140737488355328) (need (wposok s ((oneS s vi1).2.1)) (cond (decide ((blankS s ((oneS s vi1).2.1)) < (s.length:Int))) (need (wposok s (blankS s ((oneS s vi1).2.1))) (cond ((oneS s (blankS s ((oneS s vi1).2.1))).2.2) (Bwdec_1 F f1 s (blankS s ((oneS s vi1).2.1)) (vb2++((oneS s vi1).1))) (Bwdec_1 F f1 s ((oneS s vi1).2.1) (vb2++((oneS s vi1).1))))) (Bwdec_1 F f1 s ((oneS s vi1).2.1) (vb2++((oneS s vi1).1)))))))) (some (.p (.str vb2),[])):=by kernel_rfl
theorem Fwdec_eq (F:Nat) (s:List UInt8):Fwdec F s=Bwdec_1 F F s (0:Int) []:=by kernel_rfl
theorem fn_wdec (F:Nat) (s:List UInt8) (r:AV) (h:(∃ M vs,ARels γ0 M [.p (.str s)] vs)->Fwdec F s=some (r,[])):FnP Tryz.prog 49 [.p (.str s)] r:=
 FnP_run Gwdec F rfl (EnvOk_mk (l:=[(79,sp_one),(81,sp_wbl)]) ⟨ok_one.any,ok_wbl.any,trivial⟩) (EnvROk_mk (l:=[(76,sp_wstr),(78,sp_bstr),(80,sp_wbyte)]) ⟨ok_wstr,ok_bstr,ok_wbyte,trivial⟩) (Checked.mixed Tryz.checked) (fn:=Tryz.f49) (by kernel_rfl) (by kernel_rfl) rfl h
theorem u8self (c:UInt8):UInt8.ofNat ((c.toNat:Int)).toNat=c:=by simp
theorem Bwdec_spec (F:Nat) (s:List UInt8) (hs:s.length<=100000):∀ (f i:Nat) (acc:List UInt8),s.length - i < f->i<=s.length->acc.length<=12 * i->
 Bwdec_1 F f s (i:Int) acc=some (.p (.str (acc++dec s i)),[]):=by
 intro f
 induction f with
 | zero=>intro i acc h; omega
 | succ f ih=>
  intro i acc hf hi ha
  rw [Bwdec_1_eq]
  by_cases h:i < s.length
  .refine cond_t (by simpa using h) (need_mk ⟨by omega,by omega,hs⟩ ?_)
   rw [show ((i:Int)).toNat=i from rfl,u8self]
   cases ho:okAt s i with
   | none=>
    rw [okAt_none ho]
    refine cond_t rfl ?_
    refine need_mk (by first | omega | (unfold i64ok; omega) | (simp only [List.length_cons,List.length_nil]; omega) | (simp; omega) | simp) ?_
    refine need_mk (by first | omega | (unfold i64ok; omega) | (simp only [List.length_cons,List.length_nil]; omega) | (simp; omega) | simp) ?_
    refine need_mk (by first | omega | (unfold i64ok; omega) | (simp only [List.length_cons,List.length_nil]; omega) | (simp; omega) | simp) ?_
    have e:(i:Int)+1=((i+1:Nat):Int):=by omega
    rw [e,ih (i+1) _ (by omega) (by omega) (by simp; omega),dec_none h ho]
    simp
   | some p=>
    obtain ⟨t,n⟩:=p
    obtain ⟨h1,h2,h3,_,_,h4⟩:=okAt_some ho
    rw [h1]
    refine cond_f rfl (need_mk (by dsimp only; omega) (need_mk ⟨by dsimp only; omega,by dsimp only; omega,hs⟩ ?_))
    dsimp only
    rw [show blankS s (n:Int)=(blN s n:Int) from rfl,dec_some h ho]
    have hb:=blN_le h3
    have fin:∀ m,m=contN s n->Bwdec_1 F f s (m:Int) (acc++t)=some (.p (.str (acc++(t++dec s (contN s n)))),[]):=fun m hm=>by
     have:=contN_le h3
     rw [hm,ih (contN s n) (acc++t) (by omega) (by omega) (by simp; omega),List.append_assoc]
    by_cases c1:blN s n < s.length
    .refine cond_t (by simpa using c1) (need_mk ⟨by omega,by omega,hs⟩ ?_)
     cases ho2:okAt s (blN s n) with
     | none=>
      rw [okAt_none ho2]
      exact cond_f rfl (fin n (by unfold contN; rw [if_neg (by rw [ho2]; simp)]))
     | some q=>
      obtain ⟨t2,n2⟩:=q
      rw [(okAt_some ho2).1]
      exact cond_t rfl (fin (blN s n) (by unfold contN; rw [if_pos ⟨c1,by rw [ho2]; rfl⟩]))
    .exact cond_f (by simpa using c1) (fin n (by unfold contN; rw [if_neg (fun h=>c1 h.1)]))
  .refine cond_f (by simpa using h) ?_
   rw [dec_end (by omega)]; simp
theorem wdec_eq (s:List UInt8) (hs:s.length<=100000):Fwdec (s.length+1) s=some (.p (.str (wordS s)),[]):=by
 rw [Fwdec_eq]
 exact Bwdec_spec _ s hs (s.length+1) 0 [] (by omega) (by omega) (by simp)
def sp_wdec:List AV->Option (AV×Option Prop)
 | [.p (.str s)]=>some (.p (.str (wordS s)),some (s.length<=100000))
 | _=>none
theorem ok_wdec:SpecOk Tryz.prog 49 sp_wdec:=by
 intro zs r ok he hok
 unfold sp_wdec at he
 split at he
 .cases he; exact ⟨by kernel_rfl,fn_wdec (_) _ _ fun hx=>wdec_eq _ hok⟩
 .cases he
end Go.Proofs.YtampckbjinodgaaGreatDoor
namespace Go.Proofs.YtampckbjinodgaaGreatDoor
open Go Go.Am
set_option linter.unusedVariables false
def cutS (s:List UInt8) (c:UInt8):List UInt8×List UInt8×Bool:=
 if ixS s (c.toNat:Int)>=0 then (s.take (ixS s (c.toNat:Int)).toNat,s.drop ((ixS s (c.toNat:Int))+1).toNat,true) else (s,[],false)
noncomputable def Gcutl:Cfg:=⟨Tryz.prog,mkEnv [(134,sp_ixl)],mkEnvR [],23,[],[],[]⟩
noncomputable def Fcutl (F:Nat) (s:List UInt8) (c:UInt8):Option Ans:=runF Gcutl Tryz.f103 F [.p (.str s),.p (.str [c])]
theorem Fcutl_eq (F:Nat) (s:List UInt8) (c:UInt8):Fcutl F s c=cond (decide ((ixS s (c.toNat:Int))>=(0:Int))) (need (0<=(ixS s (c.toNat:Int))/\(ixS s (c.toNat:Int))<=(s.length:Int)) (need (i64ok ((ixS s (c.toNat:Int))+(1:Int))) (need (0<=((ixS s (c.toNat:Int))+(1:Int))/\((ixS s (c.toNat:Int))+(1:Int))<=(s.length:Int)) (some (.tup [.p (.str (s.take (ixS s (c.toNat:Int)).toNat)),.p (.str (s.drop ((ixS s (c.toNat:Int))+(1:Int)).toNat)),.p (.bool true)],[]))))) (some (.tup [.p (.str s),.p (.str ([]:List UInt8)),.p (.bool false)],[])):=by kernel_rfl
theorem fn_cutl (F:Nat) (s:List UInt8) (c:UInt8) (r:AV) (h:(∃ M vs,ARels γ0 M [.p (.str s),.p (.str [c])] vs)->Fcutl F s c=some (r,[])):FnP Tryz.prog 103 [.p (.str s),.p (.str [c])] r:=
 FnP_run Gcutl F rfl (EnvOk_mk (l:=[(134,sp_ixl)]) ⟨ok_ixl.any,trivial⟩) (EnvROk_mk (l:=[]) trivial) (Checked.mixed Tryz.checked) (fn:=Tryz.f103) (by kernel_rfl) (by kernel_rfl) rfl h
theorem ixS_lt (s:List UInt8) (c:Int):ixS s c < s.length\/ixS s c=-1:=indexByte_lt s c.toNat.toUInt8
theorem cutl_eq (s:List UInt8) (c:UInt8) (hs:s.length<=1000000):Fcutl 0 s c=some (.tup [.p (.str (cutS s c).1),.p (.str (cutS s c).2.1),.p (.bool (cutS s c).2.2)],[]):=by
 rw [Fcutl_eq,cutS]
 have h:=ixS_lt s (c.toNat:Int)
 by_cases hc:ixS s (c.toNat:Int)>=0
 .refine cond_t (by simpa using hc) ?_
  rw [if_pos hc]
  refine need_mk (by omega) (need_mk (by unfold i64ok; omega) (need_mk (by omega) rfl))
 .refine cond_f (by simpa using hc) ?_
  rw [if_neg hc]
def sp_cutl:List AV->Option (AV×Option Prop)
 | [.p (.str s),.p (.str [c])]=>some (.tup [.p (.str ((cutS s c).1)),.p (.str ((cutS s c).2.1)),.p (.bool ((cutS s c).2.2))],some (s.length<=1000000))
 | _=>none
theorem ok_cutl:SpecOk Tryz.prog 103 sp_cutl:=by
 intro zs r ok he hok
 unfold sp_cutl at he
 split at he
 .cases he; exact ⟨by kernel_rfl,fn_cutl 0 _ _ _ fun hx=>cutl_eq _ _ hok⟩
 .cases he
noncomputable def Gcut:Cfg:=⟨Tryz.prog,mkEnv [(103,sp_cutl)],mkEnvR [],13,[],[],[]⟩
noncomputable def Fcut (F:Nat) (s:List UInt8) (c:UInt8):Option Ans:=runF Gcut Tryz.f69 F [.p (.str s),.p (.str [c])]
theorem Fcut_eq (F:Nat) (s:List UInt8) (c:UInt8):Fcut F s c=need (s.length<=1000000) (some (.tup [.p (.str ((cutS s c).1)),.p (.str ((cutS s c).2.1)),.p (.bool ((cutS s c).2.2))],[])):=by kernel_rfl
theorem fn_cut (F:Nat) (s:List UInt8) (c:UInt8) (r:AV) (h:(∃ M vs,ARels γ0 M [.p (.str s),.p (.str [c])] vs)->Fcut F s c=some (r,[])):FnP Tryz.prog 69 [.p (.str s),.p (.str [c])] r:=
 FnP_run Gcut F rfl (EnvOk_mk (l:=[(103,sp_cutl)]) ⟨ok_cutl.any,trivial⟩) (EnvROk_mk (l:=[]) trivial) (Checked.mixed Tryz.checked) (fn:=Tryz.f69) (by kernel_rfl) (by kernel_rfl) rfl h
theorem cut_eq (s:List UInt8) (c:UInt8) (hs:s.length<=1000000):Fcut 0 s c=some (.tup [.p (.str (cutS s c).1),.p (.str (cutS s c).2.1),.p (.bool (cutS s c).2.2)],[]):=by
 rw [Fcut_eq]; exact need_pos hs
def sp_cut:List AV->Option (AV×Option Prop)
 | [.p (.str s),.p (.str [c])]=>some (.tup [.p (.str ((cutS s c).1)),.p (.str ((cutS s c).2.1)),.p (.bool ((cutS s c).2.2))],some (s.length<=1000000))
 | _=>none
theorem ok_cut:SpecOk Tryz.prog 69 sp_cut:=by
 intro zs r ok he hok
 unfold sp_cut at he
 split at he
 .cases he; exact ⟨by kernel_rfl,fn_cut 0 _ _ _ fun hx=>cut_eq _ _ hok⟩
 .cases he
end Go.Proofs.YtampckbjinodgaaGreatDoor
namespace Go.Proofs.YtampckbjinodgaaGreatDoor
open Go Go.Am
set_option linter.unusedVariables false
theorem ixb_split (c:UInt8):∀ (s:List UInt8),(∃ p q,s=p++c::q/\(∀ x ∈ p,x≠c)/\Lib.indexByte s c=(p.length:Int))\/((∀ x ∈ s,x≠c)/\Lib.indexByte s c=-1)
 | []=>.inr ⟨by simp,rfl⟩
 | b::l=>by
  by_cases h:b=c
  .subst h
   exact .inl ⟨[],l,rfl,by simp,by simp [Lib.indexByte]⟩
  .rcases ixb_split c l with ⟨p,q,e,hp,hi⟩ | ⟨hn,hi⟩
   .refine .inl ⟨b::p,q,by rw [e]; rfl,?_,?_⟩
    .intro x hx
     rcases List.mem_cons.1 hx with rfl | hx
     .exact h
     .exact hp x hx
    .unfold Lib.indexByte
     rw [if_neg (by simpa using h),hi,if_neg (by simp)]
     simp only [List.length_cons]; omega
   .refine .inr ⟨?_,?_⟩
    .intro x hx
     rcases List.mem_cons.1 hx with rfl | hx
     .exact h
     .exact hn x hx
    .simp [Lib.indexByte,hi,h]
theorem ixS_u8 (s:List UInt8) (c:UInt8):ixS s (c.toNat:Int)=Lib.indexByte s c:=by unfold ixS; rw [u8c]
theorem cut_split (c:UInt8) (s:List UInt8):(∃ p q,s=p++c::q/\(∀ x ∈ p,x≠c)/\cutS s c=(p,q,true))\/((∀ x ∈ s,x≠c)/\cutS s c=(s,[],false)):=by
 rcases ixb_split c s with ⟨p,q,e,hp,hi⟩ | ⟨hn,hi⟩
 .refine .inl ⟨p,q,e,hp,?_⟩
  rw [cutS,ixS_u8,hi,if_pos (by omega)]
  have e1:((p.length:Int)+1).toNat=p.length+1:=by omega
  rw [Int.toNat_natCast,e1,e]
  simp
 .refine .inr ⟨hn,?_⟩
  rw [cutS,ixS_u8,hi,if_neg (by decide)]
theorem cutS_len (s:List UInt8) (c:UInt8):(cutS s c).1.length+(cutS s c).2.1.length<=s.length:=by
 rcases cut_split c s with ⟨p,q,e,_,hc⟩ | ⟨_,hc⟩
 .rw [hc,e]; simp
 .rw [hc]; simp
end Go.Proofs.YtampckbjinodgaaGreatDoor
namespace Go.Proofs.YtampckbjinodgaaGreatDoor
open Go Go.Am
set_option linter.unusedVariables false
def hasSuf (s p:List UInt8):Bool:=decide ((s.length:Int)>=(p.length:Int))&&(s.drop (s.length - p.length)==p)
def trimSuf (s p:List UInt8):List UInt8:=if hasSuf s p=true then s.take (s.length - p.length) else s
noncomputable def Ghsl:Cfg:=⟨Tryz.prog,mkEnv [],mkEnvR [],21,[],[],[]⟩
noncomputable def Fhsl (F:Nat) (s p:List UInt8):Option Ans:=runF Ghsl Tryz.f155 F [.p (.str s),.p (.str p)]
theorem Fhsl_eq (F:Nat) (s p:List UInt8):Fhsl F s p=need ((decide ((s.length:Int)>=(p.length:Int)))=true->i64ok ((s.length:Int) - (p.length:Int))) (need ((decide ((s.length:Int)>=(p.length:Int)))=true->0<=((s.length:Int) - (p.length:Int))/\((s.length:Int) - (p.length:Int))<=(s.length:Int)) (some (.p (.bool ((decide ((s.length:Int)>=(p.length:Int)))&&((s.drop ((s.length:Int) - (p.length:Int)).toNat)==p))),[]))):=
 Eq.trans (show Fhsl F s p=need ((decide ((s.length:Int)>=(p.length:Int)))=true->(decide ((s.length:Int)>=(p.length:Int)))=true) (need ((decide ((s.length:Int)>=(p.length:Int)))=true->(decide ((s.length:Int)>=(p.length:Int)))=true) (need ((decide ((s.length:Int)>=(p.length:Int)))=true->(decide ((s.length:Int)>=(p.length:Int)))=true) (need ((decide ((s.length:Int)>=(p.length:Int)))=true->(decide ((s.length:Int)>=(p.length:Int)))=true) (need ((decide ((s.length:Int)>=(p.length:Int)))=true->i64ok ((s.length:Int) - (p.length:Int))) (need ((decide ((s.length:Int)>=(p.length:Int)))=true->(decide ((s.length:Int)>=(p.length:Int)))=true) (need ((decide ((s.length:Int)>=(p.length:Int)))=true->(decide ((s.length:Int)>=(p.length:Int)))=true) (need ((decide ((s.length:Int)>=(p.length:Int)))=true->0<=((s.length:Int) - (p.length:Int))/\((s.length:Int) - (p.length:Int))<=(s.length:Int)) (need ((decide ((s.length:Int)>=(p.length:Int)))=true->(decide ((s.length:Int)>=(p.length:Int)))=true) (need ((decide ((s.length:Int)>=(p.length:Int)))=true->(decide ((s.length:Int)>=(p.length:Int)))=true) (need ((decide ((s.length:Int)>=(p.length:Int)))=true->(decide ((s.length:Int)>=(p.length:Int)))=true) (some (.p (.bool ((decide ((s.length:Int)>=(p.length:Int)))&&((s.drop ((s.length:Int) - (p.length:Int)).toNat)==p))),[])))))))))))) by kernel_rfl) (need_strike (show (decide ((s.length:Int)>=(p.length:Int)))=true->(decide ((s.length:Int)>=(p.length:Int)))=true from (fun q0=>q0)) (need_strike (show (decide ((s.length:Int)>=(p.length:Int)))=true->(decide ((s.length:Int)>=(p.length:Int)))=true from (fun q0=>q0)) (need_strike (show (decide ((s.length:Int)>=(p.length:Int)))=true->(decide ((s.length:Int)>=(p.length:Int)))=true from (fun q0=>q0)) (need_strike (show (decide ((s.length:Int)>=(p.length:Int)))=true->(decide ((s.length:Int)>=(p.length:Int)))=true from (fun q0=>q0)) (need_congr (need_strike (show (decide ((s.length:Int)>=(p.length:Int)))=true->(decide ((s.length:Int)>=(p.length:Int)))=true from (fun q0=>q0)) (need_strike (show (decide ((s.length:Int)>=(p.length:Int)))=true->(decide ((s.length:Int)>=(p.length:Int)))=true from (fun q0=>q0)) (need_congr (need_strike (show (decide ((s.length:Int)>=(p.length:Int)))=true->(decide ((s.length:Int)>=(p.length:Int)))=true from (fun q0=>q0)) (need_strike (show (decide ((s.length:Int)>=(p.length:Int)))=true->(decide ((s.length:Int)>=(p.length:Int)))=true from (fun q0=>q0)) (need_strike (show (decide ((s.length:Int)>=(p.length:Int)))=true->(decide ((s.length:Int)>=(p.length:Int)))=true from (fun q0=>q0)) (rfl))))))))))))
theorem fn_hsl (F:Nat) (s p:List UInt8) (r:AV) (h:(∃ M vs,ARels γ0 M [.p (.str s),.p (.str p)] vs)->Fhsl F s p=some (r,[])):FnP Tryz.prog 155 [.p (.str s),.p (.str p)] r:=
 FnP_run Ghsl F rfl (EnvOk_mk (l:=[]) trivial) (EnvROk_mk (l:=[]) trivial) (Checked.mixed Tryz.checked) (fn:=Tryz.f155) (by kernel_rfl) (by kernel_rfl) rfl h
theorem hsl_eq (s p:List UInt8) (hs:s.length<=1000000):Fhsl 0 s p=some (.p (.bool (hasSuf s p)),[]):=by
 have e:((s.length:Int) - (p.length:Int)).toNat=s.length - p.length:=by omega
 rw [Fhsl_eq,e]
 exact need_mk (fun h=>by unfold i64ok; simp at h; omega) (need_mk (fun h=>by simp at h; omega) rfl)
def sp_hsl:List AV->Option (AV×Option Prop)
 | [.p (.str s),.p (.str p)]=>some (.p (.bool (hasSuf s p)),some (s.length<=1000000))
 | _=>none
theorem ok_hsl:SpecOk Tryz.prog 155 sp_hsl:=by
 intro zs r ok he hok
 unfold sp_hsl at he
 split at he
 .cases he; exact ⟨by kernel_rfl,fn_hsl 0 _ _ _ fun hx=>hsl_eq _ _ hok⟩
 .cases he
noncomputable def Gtsl:Cfg:=⟨Tryz.prog,mkEnv [(155,sp_hsl)],mkEnvR [],16,[],[],[]⟩
noncomputable def Ftsl (F:Nat) (s p:List UInt8):Option Ans:=runF Gtsl Tryz.f126 F [.p (.str s),.p (.str p)]
theorem Ftsl_eq (F:Nat) (s p:List UInt8):Ftsl F s p=need (s.length<=1000000) (cond (hasSuf s p) (need (i64ok ((s.length:Int) - (p.length:Int))) (need (0<=((s.length:Int) - (p.length:Int))/\((s.length:Int) - (p.length:Int))<=(s.length:Int)) (some (.p (.str (s.take ((s.length:Int) - (p.length:Int)).toNat)),[])))) (some (.p (.str s),[]))):=by kernel_rfl
theorem fn_tsl (F:Nat) (s p:List UInt8) (r:AV) (h:(∃ M vs,ARels γ0 M [.p (.str s),.p (.str p)] vs)->Ftsl F s p=some (r,[])):FnP Tryz.prog 126 [.p (.str s),.p (.str p)] r:=
 FnP_run Gtsl F rfl (EnvOk_mk (l:=[(155,sp_hsl)]) ⟨ok_hsl.any,trivial⟩) (EnvROk_mk (l:=[]) trivial) (Checked.mixed Tryz.checked) (fn:=Tryz.f126) (by kernel_rfl) (by kernel_rfl) rfl h
theorem tsl_eq (s p:List UInt8) (hs:s.length<=1000000):Ftsl 0 s p=some (.p (.str (trimSuf s p)),[]):=by
 have e:((s.length:Int) - (p.length:Int)).toNat=s.length - p.length:=by omega
 rw [Ftsl_eq,trimSuf,e]
 refine need_mk hs ?_
 by_cases h:hasSuf s p=true
 .have h2:=h
  unfold hasSuf at h2
  rw [Bool.and_eq_true] at h2
  have h3:=of_decide_eq_true h2.1
  refine cond_t h (need_mk (by unfold i64ok; omega) (need_mk (by omega) ?_))
  rw [if_pos h]
 .refine cond_f (by simpa using h) ?_
  rw [if_neg h]
def sp_tsl:List AV->Option (AV×Option Prop)
 | [.p (.str s),.p (.str p)]=>some (.p (.str (trimSuf s p)),some (s.length<=1000000))
 | _=>none
theorem ok_tsl:SpecOk Tryz.prog 126 sp_tsl:=by
 intro zs r ok he hok
 unfold sp_tsl at he
 split at he
 .cases he; exact ⟨by kernel_rfl,fn_tsl 0 _ _ _ fun hx=>tsl_eq _ _ hok⟩
 .cases he
noncomputable def Gts:Cfg:=⟨Tryz.prog,mkEnv [(126,sp_tsl)],mkEnvR [],8,[],[],[]⟩
noncomputable def Fts (F:Nat) (s p:List UInt8):Option Ans:=runF Gts Tryz.f98 F [.p (.str s),.p (.str p)]
theorem Fts_eq (F:Nat) (s p:List UInt8):Fts F s p=need (s.length<=1000000) (some (.p (.str (trimSuf s p)),[])):=by kernel_rfl
theorem fn_ts (F:Nat) (s p:List UInt8) (r:AV) (h:(∃ M vs,ARels γ0 M [.p (.str s),.p (.str p)] vs)->Fts F s p=some (r,[])):FnP Tryz.prog 98 [.p (.str s),.p (.str p)] r:=
 FnP_run Gts F rfl (EnvOk_mk (l:=[(126,sp_tsl)]) ⟨ok_tsl.any,trivial⟩) (EnvROk_mk (l:=[]) trivial) (Checked.mixed Tryz.checked) (fn:=Tryz.f98) (by kernel_rfl) (by kernel_rfl) rfl h
theorem ts_eq (s p:List UInt8) (hs:s.length<=1000000):Fts 0 s p=some (.p (.str (trimSuf s p)),[]):=by rw [Fts_eq]; exact need_mk hs rfl
def sp_ts:List AV->Option (AV×Option Prop)
 | [.p (.str s),.p (.str p)]=>some (.p (.str (trimSuf s p)),some (s.length<=1000000))
 | _=>none
theorem ok_ts:SpecOk Tryz.prog 98 sp_ts:=by
 intro zs r ok he hok
 unfold sp_ts at he
 split at he
 .cases he; exact ⟨by kernel_rfl,fn_ts 0 _ _ _ fun hx=>ts_eq _ _ hok⟩
 .cases he
end Go.Proofs.YtampckbjinodgaaGreatDoor
namespace Go.Proofs.YtampckbjinodgaaGreatDoor
open Go Go.Am
set_option linter.unusedVariables false
def isBl2 (c:UInt8):Bool:=[32,9].contains c
def trimBl (s:List UInt8):List UInt8:=(s.reverse.dropWhile isBl2).reverse.dropWhile isBl2
theorem trimBl_lib (s:List UInt8):Lib.trimS s [32,9]=trimBl s:=rfl
theorem dropWhile_le (p:UInt8->Bool):∀ l:List UInt8,(l.dropWhile p).length<=l.length
 | []=>by simp
 | c::r=>by rw [List.dropWhile_cons]; split <;> simp; exact Nat.le_succ_of_le (dropWhile_le p r)
theorem trimBl_len (s:List UInt8):(trimBl s).length<=s.length:=by
 unfold trimBl
 have h1:=dropWhile_le isBl2 (s.reverse.dropWhile isBl2).reverse
 have h2:=dropWhile_le isBl2 s.reverse
 simp at h1 h2; omega
end Go.Proofs.YtampckbjinodgaaGreatDoor
namespace Go.Proofs.YtampckbjinodgaaGreatDoor
open Go.Shelf
def lays160_ren : Go.Shelf.Ren:=⟨fun |160=>99|232=>128|231=>127|227=>129|234=>131|233=>130|236=>133|235=>132|228=>156|271=>159|151=>158|197=>157|120=>179|152=>178|260=>177|137=>74|119=>192|224=>161|225=>160|217=>108|266=>140|n=>n, fun |9=>9|4=>4|3=>3|5=>5|117=>181|116=>180|0=>0|124=>184|21=>21|105=>199|46=>172|119=>211|139=>239|138=>238|n=>n, fun |3=>1|4=>2|n=>n⟩
theorem lays160 : Go.Proofs.Lays.n160 Tryz.prog lays160_ren:={
 mixed:=by kernel_rfl
 f119:=Tryz.func192.trans (congrArg some (by kernel_rfl))
 f120:=Tryz.func179.trans (congrArg some (by kernel_rfl))
 f137:=Tryz.func74.trans (congrArg some (by kernel_rfl))
 f151:=Tryz.func158.trans (congrArg some (by kernel_rfl))
 f152:=Tryz.func178.trans (congrArg some (by kernel_rfl))
 f160:=Tryz.func99.trans (congrArg some (by kernel_rfl))
 f197:=Tryz.func157.trans (congrArg some (by kernel_rfl))
 f217:=Tryz.func108.trans (congrArg some (by kernel_rfl))
 f224:=Tryz.func161.trans (congrArg some (by kernel_rfl))
 f225:=Tryz.func160.trans (congrArg some (by kernel_rfl))
 f227:=Tryz.func129.trans (congrArg some (by kernel_rfl))
 f228:=Tryz.func156.trans (congrArg some (by kernel_rfl))
 f231:=Tryz.func127.trans (congrArg some (by kernel_rfl))
 f232:=Tryz.func128.trans (congrArg some (by kernel_rfl))
 f233:=Tryz.func130.trans (congrArg some (by kernel_rfl))
 f234:=Tryz.func131.trans (congrArg some (by kernel_rfl))
 f235:=Tryz.func132.trans (congrArg some (by kernel_rfl))
 f236:=Tryz.func133.trans (congrArg some (by kernel_rfl))
 f260:=Tryz.func177.trans (congrArg some (by kernel_rfl))
 f266:=Tryz.func140.trans (congrArg some (by kernel_rfl))
 f271:=Tryz.func159.trans (congrArg some (by kernel_rfl))
 t0:=Tryz.underlying0
 a0:=Tryz.isAgg0
 z0:=Tryz.sizeOf0
 v0:=Tryz.zeroValue0
 t3:=Tryz.underlying3
 a3:=Tryz.isAgg3
 z3:=Tryz.sizeOf3
 v3:=Tryz.zeroValue3
 t4:=Tryz.underlying4
 a4:=Tryz.isAgg4
 z4:=Tryz.sizeOf4
 v4:=Tryz.zeroValue4
 t5:=Tryz.underlying5
 a5:=Tryz.isAgg5
 z5:=Tryz.sizeOf5
 v5:=Tryz.zeroValue5
 t9:=Tryz.underlying9
 a9:=Tryz.isAgg9
 z9:=Tryz.sizeOf9
 v9:=Tryz.zeroValue9
 t21:=Tryz.underlying21
 a21:=Tryz.isAgg21
 z21:=Tryz.sizeOf21
 v21:=Tryz.zeroValue21
 t46:=Tryz.underlying172
 a46:=Tryz.isAgg172
 z46:=Tryz.sizeOf172
 v46:=Tryz.zeroValue172
 t105:=Tryz.underlying199
 a105:=Tryz.isAgg199
 z105:=Tryz.sizeOf199
 v105:=Tryz.zeroValue199
 t116:=Tryz.underlying180
 a116:=Tryz.isAgg180
 z116:=Tryz.sizeOf180
 t117:=Tryz.underlying181
 a117:=Tryz.isAgg181
 z117:=Tryz.sizeOf181
 v117:=Tryz.zeroValue181
 t119:=Tryz.underlying211
 a119:=Tryz.isAgg211
 z119:=Tryz.sizeOf211
 t124:=Tryz.underlying184
 a124:=Tryz.isAgg184
 z124:=Tryz.sizeOf184
 v124:=Tryz.zeroValue184
 t138:=Tryz.underlying238
 a138:=Tryz.isAgg238
 z138:=Tryz.sizeOf238
 v138:=Tryz.zeroValue238
 t139:=Tryz.underlying239
 a139:=Tryz.isAgg239
 z139:=Tryz.sizeOf239
 v139:=Tryz.zeroValue239
 g3:=by kernel_rfl
 g4:=by kernel_rfl }
end Go.Proofs.YtampckbjinodgaaGreatDoor
namespace Go.Proofs.YtampckbjinodgaaGreatDoor
open Go Go.Am Go.Shelf
def sp_trim2:List AV->Option (AV×Option Prop)
 | [.p (.str s),.p (.str [32,9])]=>some (.p (.str (trimBl s)),some (s.length<=1000000))
 | _=>none
theorem ok_trim2:SpecOk Tryz.prog 99 sp_trim2:=by
 intro zs r ok he hok
 unfold sp_trim2 at he
 split at he
 .rename_i s
  cases he
  refine ⟨by kernel_rfl,fun M w vs hM hvs=>?_⟩
  cases hvs with | cons h1 h2=>
  cases h2 with | cons h2 h3=>
  cases h3
  cases h1 with | p _ _ h1=>
  cases h2 with | p _ _ h2=>
  cases h1 with | str _ hs=>
  cases h2 with | str _ hc=>
  have hok:s.length<=1000000:=hok
  have hcon:=Any.strings_Trim_laid lays160 (by kernel_rfl) ⟨s.toArray⟩ ⟨#[32,9]⟩ w (by show s.toArray.size<=_; simp; omega) (by decide) (ascii_of_all (by decide))
  refine Calls.mono hcon fun e w' ⟨he,hB⟩=>?_
  refine ⟨_,M,he,MLe.refl M,fun _ _=>rfl,⟨fun b q v hv=>?_,hM.good⟩,.p _ _ (.str (trimBl s) ?_),hB⟩
  .have hc:=hM b q v hv
   have hb:b < w.heap.size:=World.block_lt_of_cell? w ⟨b,q,none⟩ hc
   rw [World.cell?_of_block (w:=w) (hB.block b hb)]; exact hc
  .have:=trimBl_len s
   unfold maxLen; omega
 .cases he
end Go.Proofs.YtampckbjinodgaaGreatDoor
namespace Go.Am
open Go Go.RowKit
variable {P:Program} {C C':Ctx} {s s':S} {a a':Act} {w w' w2:World} {γ γ':Nat->Option G} {M M':Mem}
theorem StG.reroot (h:StG C γ M s a w) (e0:C'.w0=w2) (eM:C'.M0=M) (hown:∀ id g b,s.ob id≠none->γ id=some g->g.blk=some b->C'.own b/\w2.heap[b]?=w.heap[b]?)
 (hsz:w.heap.size<=w2.heap.size) (hmem:MOk M w2) (ht:a'.tmps=a.tmps) (hd:a'.defers=C'.dl) (hnt:C'.nt=C.nt) (hg:GLe C'.g0 γ) (htab:TabC C'):StG C' γ M s a' w2:=by
 refine ⟨fun t=>by rw [ht]; exact h.sl t,fun id o ho=>(h.ob id o ho).keep (GLe.refl γ) (MLe.refl M) fun g b h1 h2=>⟨(hown id g b (by rw [ho]; simp) h1 h2).2,rfl⟩,h.us,h.sep,
  fun id g b h1 h2 h3=>⟨.inr (hown id g b h1 h2 h3).1,Nat.lt_of_lt_of_le (h.lo id g b h1 h2 h3).2 hsz⟩,hmem,by rw [eM]; exact MLe.refl M,fun _ _ _=>by rw [eM],
  ⟨by rw [e0],by rw [e0],by rw [e0],by rw [e0]; exact Nat.le_refl _,fun _ _ _=>by rw [e0],htab⟩,hd,by rw [ht,hnt]; exact h.nt,hg⟩
theorem MOk.none_of {b q:Nat} (h:MOk M w) (hb:w.cell? ⟨b,q,none⟩=none):M b q=none:=by
 cases hm:M b q with
 | none=>rfl
 | some v=>have:=h b q v hm; rw [hb] at this; cases this
theorem MOk.put {l:Nat} {o:Obj} (h:MOk M w) (hn:∀ q,M l q=none):MOk M (w.putObj l o):=by
 refine ⟨?_,h.good⟩
 intro b q v hv
 have hb:b≠l:=by rintro rfl; rw [hn] at hv; cases hv
 have h1:=h b q v hv
 unfold World.cell? at *
 rw [World.putObj_heap_other hb]; exact h1
theorem MOk.dfr {b q:Nat} {r:Option (List Deferred)} (h:MOk M w) (hb:w.heap[b]?=some (.deferred r)):M b q=none:=by
 refine h.none_of ?_
 unfold World.cell?
 rw [hb]
abbrev markOf (D:Nat):Deferred:={ target:=.collected D,args:=#[] }
theorem wpIn_rangeFunc_st {g:Operand} {ps:Array Tmp} {assign body:Code} {Q:Exit->Act->World->Prop} {gf:FuncId} {lb:Array Value} (hg:a.eval g=.func (.func gf) #[] lb) (eg:callable P gf=true)
 (h:∀ (fn:FuncId) (mkR:LoopState->Option Code->Loop),mkR=(fun st pe=>{ state:=st,pending:=pe,fn,tmps:=a.tmps,params:=ps,assign,body,defers:=w.heap.size })->
  Calls P gf (#[.func (.yield (w.heap.size+1)) #[] #[]]++lb) ((w.alloc (.deferred (some []))).alloc (.loop (mkR .ready none))) fun e W2=>(∃ v,e=.returned v)/\
   ((W2.heap[w.heap.size+1]?=some (.loop (mkR .ready none))/\Q .normal { a with defers:=markOf w.heap.size::a.defers } (W2.putObj (w.heap.size+1) (.loop (mkR .exhausted none))))\/
    (∃ c,W2.heap[w.heap.size+1]?=some (.loop (mkR .done (some c)))/\c.wpIn (FW none) 0 P Q { a with defers:=markOf w.heap.size::a.defers } (W2.putObj (w.heap.size+1) (.loop (mkR .exhausted (some c))))))):
 (Code.rangeFunc g ps assign body).wpIn (FW none) 0 P Q a w:=by
 refine wpIn_rangeFunc fun fn _=>?_
 obtain ⟨mkR,hR⟩:∃ mkR:LoopState->Option Code->Loop,mkR=fun st pe=>{ state:=st,pending:=pe,fn,tmps:=a.tmps,params:=ps,assign,body,defers:=w.heap.size }:=⟨_,rfl⟩
 obtain ⟨W1,hW1⟩:∃ W1,(w.alloc (.deferred (some []))).alloc (.loop (mkR .ready none))=W1:=⟨_,rfl⟩
 have hc:=h fn mkR hR
 rw [hW1] at hc
 refine ⟨w.heap.size+1,[markOf w.heap.size],W1,{ target:=.fn (.func gf) lb,args:=#[.func (.yield (w.heap.size+1)) #[] #[]] },W1,gf,
  #[.func (.yield (w.heap.size+1)) #[] #[]]++lb,W1,?_,?_,fun _ _=>trivial,?_,(fun h=>nomatch h),?_⟩
 .rw [<-hW1,hR]; exact run_enterLoop_outer _ _ _ _ _
 .simp only [resolve,hg]
  simp [go_sem]
 .simp [invoke,go_sem,run_callFunc eg]
 .refine callsIn_FW.2 (hc.mono ?_)
  rintro e W2 ⟨⟨v,rfl⟩,⟨hl,hq⟩ | ⟨c,hl,hq⟩⟩
  .refine ⟨none,_,?_,hq⟩
   have:=run_endLoop (P:=P) hl (by rw [hR]; simp)
   rw [hR] at this ⊢; exact this
  .refine ⟨some c,_,?_,hq⟩
   have:=run_endLoop (P:=P) hl (by rw [hR]; simp)
   rw [hR] at this ⊢; exact this
def rndPost (l:Nat) (r:Loop) (R:Option Code->World->Prop):Exit->Act->World->Prop
 | .normal,_,W=>W.heap[l]?=some (.loop { r with state:=.busy })/\R none W
 | .ret,_,W=>W.heap[l]?=some (.loop { r with state:=.busy })/\R (some .ret) W
 | .exit id,_,W=>W.heap[l]?=some (.loop { r with state:=.busy })/\R (some (.exit id)) W
 | _,_,_=>False
theorem round_st {l:Nat} {r:Loop} {tm:Array Value} {W:World} {R:Option Code->World->Prop} (hr:r.state=.ready)
 (h:r.assign.wpIn (FW (some l)) 0 P (Exit.then (fun a1 W1=>W1.heap[l]?=some (.loop r)/\r.body.wpIn (FW (some l)) 0 P (rndPost l r R) a1 (W1.putObj l (.loop { r with state:=.busy }))) (fun _ _ _=>False)) { tmps:=tm,defers:=[] } W):
 RoundIn (FW none) 0 P l r.fn tm r.assign r.body W fun e W'=>∃ (jump:Option Code) (W3:World),e=.returned (.bool jump.isNone)/\
  W'=W3.putObj l (.loop { r with state:=if jump.isNone then .ready else .done,pending:=jump })/\R jump W3:=by
 refine roundIn_of_wpIn (F:=FW none) trivial ?_
 refine wpIn_mono (F:=FW (some l)) h fun e a1 W1 he=>?_
 cases e with
 | normal=>
  obtain ⟨hl,hb⟩:=he
  refine ⟨_,run_beginRound hl hr,wpIn_mono (F:=FW (some l)) hb fun e2 a2 W2 h2=>?_⟩
  cases e2 with
  | normal=>exact ⟨_,_,run_endRound none h2.1,none,W2,rfl,rfl,h2.2⟩
  | ret=>exact ⟨_,_,run_endRound (some .ret) h2.1,some .ret,W2,rfl,rfl,h2.2⟩
  | exit id=>exact ⟨_,_,run_endRound (some (.exit id)) h2.1,some (.exit id),W2,rfl,rfl,h2.2⟩
  | goto t=>exact h2.elim
  | panic ch=>exact h2.elim
  | outgrown=>exact h2.elim
 | exit id=>exact he
 | goto l=>exact he
 | ret=>exact he
 | panic ch=>exact he
 | outgrown=>exact he
theorem wpIn_yield {dst:Option Tmp} {fop:Operand} {args:Array Operand} {ts:Array TypeId} {type:TypeId} {pos:String} {after:Array Edge} {guard:Option (Nat×Bool)} {l:Nat} {r:Loop} {next:Act->World->Prop} {Q:Exit->Act->World->Prop}
 (hf:a.eval fop=.func (.yield l) #[] #[]) (hl:w.heap[l]?=some (.loop r)) (hn:args.size=r.params.size)
 (h:RoundIn (FW none) 0 P l r.fn ((r.params.zip (args.map a.eval)).foldl (fun tmps (t,a)=>tmps.setIfInBounds t a) r.tmps) r.assign r.body w fun e W'=>∃ v,e=.returned v/\next (a.put dst v) W'):
 (⟨dst,.call ⟨.value fop,args,ts⟩,type,pos,after,guard⟩:Oper).wpIn (FW none) 0 P a w next Q:=by
 have hrun:(execOp a.eval ⟨dst,.call ⟨.value fop,args,ts⟩,type,pos,after,guard⟩).run P w=.ok (.round l r.fn ((r.params.zip (args.map a.eval)).foldl (fun tmps (t,a)=>tmps.setIfInBounds t a) r.tmps) r.assign r.body) w:=by
  simp only [execOp,resolve,hf,Deferred.ofValue,Sem.run_bind,Sem.run_pure,Result.andThen_ok,invoke]
  have:=run_yield (P:=P) (args:=args.map a.eval) hl (by simpa using hn)
  simpa using this
 refine wpIn_of hrun (fun _ e=>by cases e) ⟨fun h=>(by cases h),h.mono fun e W' ⟨v,he,hv⟩=>?_⟩
 subst he
 exact hv
end Go.Am
