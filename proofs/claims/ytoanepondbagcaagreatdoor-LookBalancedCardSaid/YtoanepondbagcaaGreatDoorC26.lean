/-
  Lifted functions, and facts about them.
-/
import Derived.Test.YtoanepondbagcaaGreatDoorRows
import Derived.Test.YtoanepondbagcaaGreatDoorAmC
import Derived.Test.YtoanepondbagcaaGreatDoorC25
import Derived.Test.YtoanepondbagcaaGreatDoorC22
import Derived.Test.YtoanepondbagcaaGreatDoorC08
import Derived.Deep.Slices
import Derived.Carry
import Derived.Handed
import Derived.Shelf.Vars
import Derived.WalkKit
import Derived.ProofKit
import Derived.OpenShut
import Derived.Lib.LaidTab
namespace Go.Proofs.YtoanepondbagcaaGreatDoor
open Go Go.Am
set_option linter.unusedVariables false
inductive Neu:List UInt8->Prop
 | nil:Neu []
 | chr (c:UInt8) (h:c≠40/\c≠41/\c≠34/\c≠123):Neu [c]
 | app (a b:List UInt8) (ha:Neu a) (hb:Neu b):Neu (a++b)
 | par (a:List UInt8) (ha:Neu a):Neu (40::(a++[41]))
 | quo (s:List UInt8):Neu (34::(escQ s++[34]))
 | lit (s:List UInt8) (h:1<=s.length/\s.length<=1000000):Neu (123::(itoaS (s.length:Int)++(125::13::10::s)))
abbrev BalOk (t:List UInt8):Prop:=t.length<=999999999/\∃ w,Neu w/\t=40::(w++[41])
theorem dec_digit:∀ (k u:Nat),u<=k->∀ c ∈ Lib.decDigits u,48<=c.toNat/\c.toNat<=57
 | 0,u,h,c,hc=>by
  rw [Lib.decDigits_one (by omega)] at hc
  rw [List.mem_singleton.1 hc,UInt8.toNat_ofNat']; omega
 | k+1,u,h,c,hc=>by
  by_cases h1:u < 10
  .rw [Lib.decDigits_one h1] at hc
   rw [List.mem_singleton.1 hc,UInt8.toNat_ofNat']; omega
  .rw [Lib.decDigits,dif_neg h1] at hc
   rcases List.mem_append.1 hc with hc | hc
   .exact dec_digit k (u / 10) (by omega) c hc
   .rw [List.mem_singleton.1 hc,UInt8.toNat_ofNat']; omega
theorem numL_app:∀ (a b:List UInt8) (n:Nat),numL (a++b) n=(numL a n).bind (numL b)
 | [],b,n=>rfl
 | c::a,b,n=>by
  rw [List.cons_append,numL,numL]
  split
  .rfl
  .exact numL_app a b _
theorem numL_one {d:Nat} (h:d < 10) (n:Nat):numL [UInt8.ofNat (48+d)] n=some (n * 10+d):=by
 have e:(UInt8.ofNat (48+d)).toNat=48+d:=by rw [UInt8.toNat_ofNat']; omega
 rw [numL,e,if_neg (by omega),numL]
 congr 1; omega
theorem numL_dec:∀ (k u:Nat),u<=k->numL (Lib.decDigits u) 0=some u
 | 0,u,h=>by rw [Lib.decDigits_one (by omega),numL_one (by omega)]; congr 1; omega
 | k+1,u,h=>by
  by_cases h1:u < 10
  .rw [Lib.decDigits_one h1,numL_one h1]; congr 1; omega
  .rw [Lib.decDigits,dif_neg h1,numL_app,numL_dec k (u / 10) (by omega),Option.bind_some,numL_one (by omega)]
   congr 1; omega
theorem dec_ne:∀ (k u:Nat),u<=k->Lib.decDigits u≠[]
 | _,u,_=>by
  intro h
  have h1:=Lib.decDigits_length u
  rw [h,Lib.nDigits] at h1
  split at h1 <;> simp at h1
theorem dec_head:∀ (k u:Nat),u<=k->1<=u->(Lib.decDigits u).getD 0 0≠48
 | 0,u,h,h1=>by omega
 | k+1,u,h,h1=>by
  by_cases h2:u < 10
  .rw [Lib.decDigits_one h2]
   show UInt8.ofNat (48+u)≠48
   intro e
   have e:=congrArg UInt8.toNat e
   rw [UInt8.toNat_ofNat'] at e
   have:(48:UInt8).toNat=48:=rfl
   omega
  .rw [Lib.decDigits,dif_neg h2]
   have ih:=dec_head k (u / 10) (by omega) (by omega)
   have hne:=dec_ne k (u / 10) (by omega)
   cases hd:Lib.decDigits (u / 10) with
   | nil=>exact absurd hd hne
   | cons c r=>rw [hd] at ih; exact ih
theorem numS_itoa {n:Nat} (h1:1<=n) (h2:n<=1000000):numS (itoaS (n:Int))=((n:Int),true):=by
 have hl:=nDig_max 9 n (by omega)
 rw [<-Lib.decDigits_length] at hl
 rw [<-itoa_dec,numS,if_neg,numL_dec n n (Nat.le_refl _),numE,if_neg (by omega)]
 rintro (h | h | h)
 .exact dec_ne n n (Nat.le_refl _) h
 .omega
 .exact dec_head n n (Nat.le_refl _) h1 h.1
theorem idx_skip (r:List UInt8):∀ (a:List UInt8) (i:Nat),(∀ c ∈ a,c≠125)->idx [125] (a++125::r) i=((i+a.length:Nat):Int)
 | [],i,_=>by rw [List.nil_append,idx,if_pos (by simp [List.isPrefixOf])]; simp
 | c::a,i,h=>by
  have hc:c≠125:=h c (by simp)
  rw [List.cons_append,idx,if_neg (by simp [List.isPrefixOf]; exact fun e=>hc e.symm),idx_skip r a (i+1) fun d hd=>h d (List.mem_cons_of_mem _ hd)]
  rw [List.length_cons,show i+1+a.length=i+(a.length+1) by omega]
theorem u8_bne {c:UInt8} {k:Nat} {q:Int} {d:UInt8} (hq:q=k) (hd:d.toNat=k) (h:c≠d):(((c.toNat:Nat):Int)==q)=false:=by
 rw [adr_u8 c k q d hq hd,decide_eq_false_iff_not]; exact h
theorem u8_beq {c:UInt8} {k:Nat} {q:Int} {d:UInt8} (hq:q=k) (hd:d.toNat=k) (h:c=d):(((c.toNat:Nat):Int)==q)=true:=by
 rw [adr_u8 c k q d hq hd,decide_eq_true_iff]; exact h
noncomputable def clbal:Code:=bodyOf Tryz.f11
noncomputable def Glbal:Cfg:=⟨Tryz.prog,mkEnv [(22,sp_Index),(23,sp_rnumber)],mkEnvR [],82,[],[([0,1,0,1,1],⟨[0,3,4],[]⟩),([0,1,0,1,1,1,1,1,0,1,0,0,0,1,0,0,1,0,1,1],⟨[0,3,4],[]⟩),([1,0,1,0,0,1,0,1,1,1,1,1,0,1,0,0,0,1,0,0,1,0,1,1],⟨[0,3,4],[]⟩),([1,0,1,1,1,0,1,1,1,1,1,1,1,0,1,0,0,0,1,0,0,1,0,1,1],⟨[0,3,5,6,64],[]⟩),([1,0,0,1,0,0,1,0,1,1],⟨[0,3,4],[]⟩)],[]⟩
noncomputable def Blbal_1 (F f1:Nat) (t:List UInt8) (vi1 vi2:Int):Option Ans:=runR Glbal clbal (kP Tryz.prog Tryz.f11.results.toList) F [] [1,1,0,1,0] f1 [(0,.p (.str t)),(3,.p (.int .i64 vi1)),(4,.p (.int .i64 vi2))] []
noncomputable def Blbal_2 (F f1:Nat) (t:List UInt8) (vi3 vi4:Int):Option Ans:=runB Glbal clbal (kP Tryz.prog Tryz.f11.results.toList) F [f1] [1,1,0,1,0,0,1,0,0,1] [(0,.p (.str t)),(3,.p (.int .i64 vi3)),(4,.p (.int .i64 vi4))] []
noncomputable def Blbal_3 (F f1 f2:Nat) (t:List UInt8) (vi1 vi5:Int):Option Ans:=runR Glbal clbal (kP Tryz.prog Tryz.f11.results.toList) F [f1] [1,1,0,1,0,0,1,0,0,0,1,0,1,1,1,1,1,0,1,0] f2 [(0,.p (.str t)),(3,.p (.int .i64 vi1)),(4,.p (.int .i64 vi5))] []
noncomputable def Blbal_4 (F f1 f2:Nat) (t:List UInt8) (vi1 vi6:Int):Option Ans:=runB Glbal clbal (kP Tryz.prog Tryz.f11.results.toList) F [f1,f2] [1,1,0,1,0,0,1,0,0,0,1,0,1,1,1,1,1,0,1,0,0,1,0,1] [(0,.p (.str t)),(3,.p (.int .i64 vi1)),(4,.p (.int .i64 vi6))] []
noncomputable def Blbal_5 (F f1:Nat) (t:List UInt8) (vi1 vi7 vi8:Int) (vc9:Bool):Option Ans:=runB Glbal clbal (kP Tryz.prog Tryz.f11.results.toList) F [f1] [1,1,0,1,0,0,1,0,0,0,1,0,1,1,1,1,1,1,1,0,1,1,1,0,1] [(0,.p (.str t)),(3,.p (.int .i64 vi1)),(5,.p (.int .i64 vi7)),(6,.p (.int .i64 vi8)),(64,.p (.bool vc9))] []
noncomputable def Flbal (F:Nat) (t:List UInt8):Option Ans:=runF Glbal Tryz.f11 F [.p (.str t)]
theorem Blbal_1_eq (F f1:Nat) (t:List UInt8) (vi1 vi2:Int):Blbal_1 F (f1+1) t vi1 vi2=cond (decide (vi2 < (t.length:Int))) (need (0<=vi2/\vi2 < (t.length:Int)) (cond (((t.getD (vi2).toNat 0).toNat:Int)==(40:Int)) (need (i64ok (vi1+(1:Int))) (Blbal_2 F f1 t (vi1+(1:Int)) vi2)) (cond (((t.getD (vi2).toNat 0).toNat:Int)==(41:Int)) (need (i64ok (vi1 - (1:Int))) (Blbal_2 F f1 t (vi1 - (1:Int)) vi2)) (cond (((t.getD (vi2).toNat 0).toNat:Int)==(34:Int)) (need (i64ok (vi2+(1:Int))) (Blbal_3 F f1 f1 t vi1 (vi2+(1:Int)))) (cond (((t.getD (vi2).toNat 0).toNat:Int)==(123:Int)) (need (indexok t ([125]:List UInt8) vi2) (cond (decide ((indexS t ([125]:List UInt8) vi2) < (0:Int))) (some (.p (.bool false),[])) (need (i64ok (vi2+(1:Int))) (need (0<=(vi2+(1:Int))/\(vi2+(1:Int))<=(indexS t ([125]:List UInt8) vi2)/\(indexS t ([125]:List UInt8) vi2)<=(t.length:Int)) (Blbal_5 F f1 t vi1 (indexS t ([125]:List UInt8) vi2) ((numS ((t.take (indexS t ([125]:List UInt8) vi2).toNat).drop (vi2+(1:Int)).toNat)).1) (!((numS ((t.take (indexS t ([125]:List UInt8) vi2).toNat).drop (vi2+(1:Int)).toNat)).2))))))) (Blbal_2 F f1 t vi1 vi2)))))) ((((need (((vi1==(0:Int))&&(t != ([]:List UInt8)))=true->0<=(0:Int)/\(0:Int) < (t.length:Int)) (((some (.p (.bool (((vi1==(0:Int))&&(t != ([]:List UInt8)))&&(((t.getD ((0:Int)).toNat 0).toNat:Int)==(40:Int)))),[])))))))):=by
 have h:Blbal_1 F (f1+1) t vi1 vi2=cond (decide (vi2 < (t.length:Int))) (need (0<=vi2/\vi2 < (t.length:Int)) (cond (((t.getD (vi2).toNat 0).toNat:Int)==(40:Int)) (need (i64ok (vi1+(1:Int))) (Blbal_2 F f1 t (vi1+(1:Int)) vi2)) (cond (((t.getD (vi2).toNat 0).toNat:Int)==(41:Int)) (need (i64ok (vi1 - (1:Int))) (Blbal_2 F f1 t (vi1 - (1:Int)) vi2)) (cond (((t.getD (vi2).toNat 0).toNat:Int)==(34:Int)) (need (i64ok (vi2+(1:Int))) (Blbal_3 F f1 f1 t vi1 (vi2+(1:Int)))) (cond (((t.getD (vi2).toNat 0).toNat:Int)==(123:Int)) (need (indexok t ([125]:List UInt8) vi2) (cond (decide ((indexS t ([125]:List UInt8) vi2) < (0:Int))) (some (.p (.bool false),[])) (need (i64ok (vi2+(1:Int))) (need (0<=(vi2+(1:Int))/\(vi2+(1:Int))<=(indexS t ([125]:List UInt8) vi2)/\(indexS t ([125]:List UInt8) vi2)<=(t.length:Int)) (Blbal_5 F f1 t vi1 (indexS t ([125]:List UInt8) vi2) ((numS ((t.take (indexS t ([125]:List UInt8) vi2).toNat).drop (vi2+(1:Int)).toNat)).1) (!((numS ((t.take (indexS t ([125]:List UInt8) vi2).toNat).drop (vi2+(1:Int)).toNat)).2))))))) (Blbal_2 F f1 t vi1 vi2)))))) (need ((vi1==(0:Int))=true->(vi1==(0:Int))=true) (need ((vi1==(0:Int))=true->(vi1==(0:Int))=true) (need (((vi1==(0:Int))&&(t != ([]:List UInt8)))=true->((vi1==(0:Int))&&(t != ([]:List UInt8)))=true) (need (((vi1==(0:Int))&&(t != ([]:List UInt8)))=true->0<=(0:Int)/\(0:Int) < (t.length:Int)) (need (((vi1==(0:Int))&&(t != ([]:List UInt8)))=true->((vi1==(0:Int))&&(t != ([]:List UInt8)))=true) (need (((vi1==(0:Int))&&(t != ([]:List UInt8)))=true->((vi1==(0:Int))&&(t != ([]:List UInt8)))=true) (some (.p (.bool (((vi1==(0:Int))&&(t != ([]:List UInt8)))&&(((t.getD ((0:Int)).toNat 0).toNat:Int)==(40:Int)))),[])))))))):=by kernel_rfl
 rw [h,need_pos (show ((vi1==(0:Int))&&(t != ([]:List UInt8)))=true->((vi1==(0:Int))&&(t != ([]:List UInt8)))=true from (fun q0=>q0)),need_pos (show ((vi1==(0:Int))&&(t != ([]:List UInt8)))=true->((vi1==(0:Int))&&(t != ([]:List UInt8)))=true from (fun q0=>q0)),need_pos (show ((vi1==(0:Int))&&(t != ([]:List UInt8)))=true->((vi1==(0:Int))&&(t != ([]:List UInt8)))=true from (fun q0=>q0)),need_pos (show (vi1==(0:Int))=true->(vi1==(0:Int))=true from (fun q0=>q0)),need_pos (show (vi1==(0:Int))=true->(vi1==(0:Int))=true from (fun q0=>q0))]
theorem Blbal_2_eq (F f1:Nat) (t:List UInt8) (vi3 vi4:Int):Blbal_2 F f1 t vi3 vi4=cond (decide (vi3 < (0:Int))) (some (.p (.bool false),[])) (need (i64ok (vi4+(1:Int))) (Blbal_1 F f1 t vi3 (vi4+(1:Int)))):=by kernel_rfl
theorem Blbal_3_eq (F f1 f2:Nat) (t:List UInt8) (vi1 vi5:Int):Blbal_3 F f1 (f2+1) t vi1 vi5=((need ((decide (vi5 < (t.length:Int)))=true->0<=vi5/\vi5 < (t.length:Int)) (((cond ((decide (vi5 < (t.length:Int)))&&(((t.getD (vi5).toNat 0).toNat:Int) != (34:Int))) (need (0<=vi5/\vi5 < (t.length:Int)) (cond (((t.getD (vi5).toNat 0).toNat:Int)==(92:Int)) (need (i64ok (vi5+(1:Int))) (Blbal_4 F f1 f2 t vi1 (vi5+(1:Int)))) (Blbal_4 F f1 f2 t vi1 vi5))) (Blbal_2 F f1 t vi1 vi5)))))):=by
 have h:Blbal_3 F f1 (f2+1) t vi1 vi5=need ((decide (vi5 < (t.length:Int)))=true->(decide (vi5 < (t.length:Int)))=true) (need ((decide (vi5 < (t.length:Int)))=true->(decide (vi5 < (t.length:Int)))=true) (need ((decide (vi5 < (t.length:Int)))=true->0<=vi5/\vi5 < (t.length:Int)) (need ((decide (vi5 < (t.length:Int)))=true->(decide (vi5 < (t.length:Int)))=true) (need ((decide (vi5 < (t.length:Int)))=true->(decide (vi5 < (t.length:Int)))=true) (cond ((decide (vi5 < (t.length:Int)))&&(((t.getD (vi5).toNat 0).toNat:Int) != (34:Int))) (need (0<=vi5/\vi5 < (t.length:Int)) (cond (((t.getD (vi5).toNat 0).toNat:Int)==(92:Int)) (need (i64ok (vi5+(1:Int))) (Blbal_4 F f1 f2 t vi1 (vi5+(1:Int)))) (Blbal_4 F f1 f2 t vi1 vi5))) (Blbal_2 F f1 t vi1 vi5)))))):=by kernel_rfl
 rw [h,need_pos (show (decide (vi5 < (t.length:Int)))=true->(decide (vi5 < (t.length:Int)))=true from (fun q0=>q0)),need_pos (show (decide (vi5 < (t.length:Int)))=true->(decide (vi5 < (t.length:Int)))=true from (fun q0=>q0)),need_pos (show (decide (vi5 < (t.length:Int)))=true->(decide (vi5 < (t.length:Int)))=true from (fun q0=>q0)),need_pos (show (decide (vi5 < (t.length:Int)))=true->(decide (vi5 < (t.length:Int)))=true from (fun q0=>q0))]
theorem Blbal_4_eq (F f1 f2:Nat) (t:List UInt8) (vi1 vi6:Int):Blbal_4 F f1 f2 t vi1 vi6=need (i64ok (vi6+(1:Int))) (Blbal_3 F f1 f2 t vi1 (vi6+(1:Int))):=by kernel_rfl
theorem Blbal_5_eq (F f1:Nat) (t:List UInt8) (vi1 vi7 vi8:Int) (vc9:Bool):Blbal_5 F f1 t vi1 vi7 vi8 vc9=cond (vc9) (some (.p (.bool false),[])) (need (i64ok (vi7+(2:Int))) (need (i64ok ((vi7+(2:Int))+vi8)) (Blbal_2 F f1 t vi1 ((vi7+(2:Int))+vi8)))):=by kernel_rfl
theorem Flbal_eq (F:Nat) (t:List UInt8):Flbal F t=Blbal_1 F F t (0:Int) (0:Int):=by kernel_rfl
theorem fn_lbal (F:Nat) (t:List UInt8) (r:AV) (h:(∃ M vs,ARels γ0 M [.p (.str t)] vs)->Flbal F t=some (r,[])):FnP Tryz.prog 11 [.p (.str t)] r:=
 FnP_run Glbal F rfl (EnvOk_mk (l:=[(22,sp_Index),(23,sp_rnumber)]) ⟨ok_Index.any,ok_rnumber.any,trivial⟩) (EnvROk_mk (l:=[]) trivial) (Checked.mixed Tryz.checked) (fn:=Tryz.f11) (by kernel_rfl) (by kernel_rfl) rfl h
theorem bal1_cong {F f:Nat} {t:List UInt8} {n:Int} {x y:Nat} (h:x=y):Blbal_1 F f t n ((x:Nat):Int)=Blbal_1 F f t n ((y:Nat):Int):=by rw [h]
theorem bal2_cong {F f:Nat} {t:List UInt8} {n:Int} {x y:Nat} (h:x=y):Blbal_2 F f t n ((x:Nat):Int)=Blbal_2 F f t n ((y:Nat):Int):=by rw [h]
theorem lbal_step (F f:Nat) (t:List UInt8) (n i:Nat) (ht:t.length<=999999999) (hi:i < t.length):Blbal_2 F f t (n:Int) (i:Int)=Blbal_1 F f t (n:Int) ((i+1:Nat):Int):=by
 rw [Blbal_2_eq]
 exact cond_f (decide_eq_false (by omega)) (need_mk (by unfold i64ok; omega) (by rw [show ((i:Int)+1)=((i+1:Nat):Int) by omega]))
theorem lbal_quo (F f1:Nat) (t r:List UInt8) (n:Nat) (ht:t.length<=999999999):∀ (s:List UInt8) (i f2:Nat),t.drop i=escQ s++34::r->(escQ s).length < f2->
 Blbal_3 F f1 f2 t (n:Int) (i:Int)=Blbal_2 F f1 t (n:Int) ((i+(escQ s).length:Nat):Int)
 | [],i,f2,hd,hf=>by
  obtain ⟨f2,rfl⟩:∃ k,f2=k+1:=⟨f2 - 1,by omega⟩
  obtain ⟨hg,hd2,hi⟩:=adr_drop (c:=34) (r:=r) (by simpa [escQ] using hd)
  rw [Blbal_3_eq,Int.toNat_natCast,hg]
  refine need_mk (fun _=>⟨by omega,by omega⟩) (cond_f (by rw [bne,u8_beq (k:=34) (q:=34) (d:=34) rfl rfl rfl,Bool.not_true,Bool.and_false]) rfl)
 | c::s,i,f2,hd,hf=>by
  rw [escQ] at hd hf ⊢
  by_cases h:c=34\/c=92
  .rw [if_pos h] at hd hf ⊢
   simp only [List.cons_append,List.length_cons] at hd hf ⊢
   obtain ⟨f2,rfl⟩:∃ k,f2=k+1:=⟨f2 - 1,by omega⟩
   obtain ⟨hg,hd2,hi⟩:=adr_drop hd
   obtain ⟨_,hd3,hi2⟩:=adr_drop hd2
   rw [Blbal_3_eq,Int.toNat_natCast,hg]
   refine need_mk (fun _=>⟨by omega,by omega⟩) (cond_t (by rw [bne,u8_bne (k:=34) (q:=34) (d:=34) rfl rfl (by decide),Bool.not_false,Bool.and_true]; exact decide_eq_true (by omega)) (need_mk ⟨by omega,by omega⟩ (cond_t (u8_beq (k:=92) (q:=92) (d:=92) rfl rfl rfl) (need_mk (by unfold i64ok; omega) ?_))))
   rw [Blbal_4_eq]
   refine need_mk (by unfold i64ok; omega) ?_
   rw [show ((i:Int)+1+1)=((i+1+1:Nat):Int) by omega,lbal_quo F f1 t r n ht s (i+1+1) f2 hd3 (by omega)]
   exact bal2_cong (by omega)
  .rw [if_neg h] at hd hf ⊢
   simp only [List.cons_append,List.length_cons] at hd hf ⊢
   obtain ⟨f2,rfl⟩:∃ k,f2=k+1:=⟨f2 - 1,by omega⟩
   obtain ⟨hg,hd2,hi⟩:=adr_drop hd
   rw [not_or] at h
   rw [Blbal_3_eq,Int.toNat_natCast,hg]
   refine need_mk (fun _=>⟨by omega,by omega⟩) (cond_t (by rw [bne,u8_bne (k:=34) (q:=34) (d:=34) rfl rfl h.1,Bool.not_false,Bool.and_true]; exact decide_eq_true (by omega)) (need_mk ⟨by omega,by omega⟩ (cond_f (u8_bne (k:=92) (q:=92) (d:=92) rfl rfl h.2) ?_)))
   rw [Blbal_4_eq]
   refine need_mk (by unfold i64ok; omega) ?_
   rw [show ((i:Int)+1)=((i+1:Nat):Int) by omega,lbal_quo F f1 t r n ht s (i+1) f2 hd2 (by omega)]
   exact bal2_cong (by omega)
theorem lbal_walk (F:Nat) (t:List UInt8) (ht:t.length<=999999999) {w:List UInt8} (hw:Neu w):∀ (r:List UInt8) (i n f:Nat),t.drop i=w++r->i+w.length+r.length=t.length->n<=i->w.length+r.length < f->
 ∃ f',r.length < f'/\Blbal_1 F f t (n:Int) (i:Int)=Blbal_1 F f' t (n:Int) ((i+w.length:Nat):Int):=by
 induction hw with
 | nil=>exact fun r i n f hd hl hn hf=>⟨f,by simpa using hf,rfl⟩
 | chr c h=>
  intro r i n f hd hl hn hf
  obtain ⟨h1,h2,h3,h4⟩:=h
  simp only [List.singleton_append,List.length_singleton] at hd hl hf ⊢
  obtain ⟨f,rfl⟩:∃ k,f=k+1:=⟨f - 1,by omega⟩
  obtain ⟨hg,hd2,hi⟩:=adr_drop hd
  refine ⟨f,by omega,?_⟩
  rw [Blbal_1_eq,Int.toNat_natCast,hg]
  exact cond_t (decide_eq_true (by omega)) (need_mk ⟨by omega,by omega⟩ (cond_f (u8_bne (k:=40) (q:=40) (d:=40) rfl rfl h1) (cond_f (u8_bne (k:=41) (q:=41) (d:=41) rfl rfl h2) (cond_f (u8_bne (k:=34) (q:=34) (d:=34) rfl rfl h3) (cond_f (u8_bne (k:=123) (q:=123) (d:=123) rfl rfl h4) (lbal_step F f t n i ht hi))))))
 | app a b _ _ iha ihb=>
  intro r i n f hd hl hn hf
  rw [List.append_assoc] at hd
  rw [List.length_append] at hl hf ⊢
  obtain ⟨f1,g1,e1⟩:=iha (b++r) i n f hd (by rw [List.length_append]; omega) hn (by rw [List.length_append]; omega)
  rw [List.length_append] at g1
  obtain ⟨f2,g2,e2⟩:=ihb r (i+a.length) n f1 (by rw [<-List.drop_drop,hd,List.drop_left]) (by omega) (by omega) g1
  exact ⟨f2,g2,by rw [e1,e2,Nat.add_assoc]⟩
 | par a _ iha=>
  intro r i n f hd hl hn hf
  simp only [List.cons_append,List.append_assoc,List.nil_append,List.length_cons,List.length_append,List.length_nil] at hd hl hf ⊢
  obtain ⟨f,rfl⟩:∃ k,f=k+1:=⟨f - 1,by omega⟩
  obtain ⟨hg,hd2,hi⟩:=adr_drop hd
  obtain ⟨f1,g1,e1⟩:=iha (41::r) (i+1) (n+1) f hd2 (by rw [List.length_cons]; omega) (by omega) (by rw [List.length_cons]; omega)
  rw [List.length_cons] at g1
  obtain ⟨f1,rfl⟩:∃ k,f1=k+1:=⟨f1 - 1,by omega⟩
  have hd3:t.drop (i+1+a.length)=41::r:=by rw [<-List.drop_drop,hd2,List.drop_left]
  obtain ⟨hg3,_,hi3⟩:=adr_drop hd3
  refine ⟨f1,by omega,?_⟩
  have step1:Blbal_1 F (f+1) t (n:Int) (i:Int)=Blbal_1 F f t ((n+1:Nat):Int) ((i+1:Nat):Int):=by
   rw [Blbal_1_eq,Int.toNat_natCast,hg]
   refine cond_t (decide_eq_true (by omega)) (need_mk ⟨by omega,by omega⟩ (cond_t (u8_beq (k:=40) (q:=40) (d:=40) rfl rfl rfl) (need_mk (by unfold i64ok; omega) ?_)))
   rw [show ((n:Int)+1)=((n+1:Nat):Int) by omega]
   exact lbal_step F f t (n+1) i ht hi
  have step2:Blbal_1 F (f1+1) t ((n+1:Nat):Int) ((i+1+a.length:Nat):Int)=Blbal_1 F f1 t (n:Int) ((i+1+a.length+1:Nat):Int):=by
   rw [Blbal_1_eq,Int.toNat_natCast,hg3]
   refine cond_t (decide_eq_true (by omega)) (need_mk ⟨by omega,by omega⟩ (cond_f (u8_bne (k:=40) (q:=40) (d:=40) rfl rfl (by decide)) (cond_t (u8_beq (k:=41) (q:=41) (d:=41) rfl rfl rfl) (need_mk (by unfold i64ok; omega) ?_))))
   rw [show (((n+1:Nat):Int) - 1)=((n:Nat):Int) by omega]
   exact lbal_step F f1 t n _ ht hi3
  rw [step1,e1,step2]
  exact bal1_cong (by omega)
 | quo s=>
  intro r i n f hd hl hn hf
  simp only [List.cons_append,List.append_assoc,List.nil_append,List.length_cons,List.length_append,List.length_nil] at hd hl hf ⊢
  obtain ⟨f,rfl⟩:∃ k,f=k+1:=⟨f - 1,by omega⟩
  obtain ⟨hg,hd2,hi⟩:=adr_drop hd
  have hd3:t.drop (i+1+(escQ s).length)=34::r:=by rw [<-List.drop_drop,hd2,List.drop_left]
  obtain ⟨_,_,hi3⟩:=adr_drop hd3
  refine ⟨f,by omega,?_⟩
  rw [Blbal_1_eq,Int.toNat_natCast,hg]
  refine cond_t (decide_eq_true (by omega)) (need_mk ⟨by omega,by omega⟩ (cond_f (u8_bne (k:=40) (q:=40) (d:=40) rfl rfl (by decide)) (cond_f (u8_bne (k:=41) (q:=41) (d:=41) rfl rfl (by decide)) (cond_t (u8_beq (k:=34) (q:=34) (d:=34) rfl rfl rfl) (need_mk (by unfold i64ok; omega) ?_)))))
  rw [show ((i:Int)+1)=((i+1:Nat):Int) by omega,lbal_quo F f t r n ht s (i+1) f hd2 (by omega),lbal_step F f t n _ ht hi3]
  exact bal1_cong (by omega)
 | lit s h=>
  intro r i n f hd hl hn hf
  simp only [List.cons_append,List.append_assoc,List.length_cons,List.length_append] at hd hl hf ⊢
  obtain ⟨f,rfl⟩:∃ k,f=k+1:=⟨f - 1,by omega⟩
  obtain ⟨hg,hd2,hi⟩:=adr_drop hd
  have hdig:∀ c ∈ itoaS (s.length:Int),c≠125:=fun c hc e=>by
   rw [<-itoa_dec] at hc
   have:=dec_digit _ _ (Nat.le_refl _) c hc
   rw [e] at this
   have h125:(125:UInt8).toNat=125:=rfl
   omega
  have hix:indexS t [125] (i:Int)=((i+1+(itoaS (s.length:Int)).length:Nat):Int):=by
   unfold indexS
   rw [Int.toNat_natCast,hd,idx,if_neg (by simp [List.isPrefixOf]),idx_skip _ _ _ hdig]
  have hcut:(t.take (i+1+(itoaS (s.length:Int)).length)).drop (i+1)=itoaS (s.length:Int):=by
   rw [List.drop_take,hd2,show i+1+(itoaS (s.length:Int)).length - (i+1)=(itoaS (s.length:Int)).length by omega,List.take_left]
  refine ⟨f,by omega,?_⟩
  rw [Blbal_1_eq,hix,Int.toNat_natCast,hg]
  refine cond_t (decide_eq_true (by omega)) (need_mk ⟨by omega,by omega⟩ (cond_f (u8_bne (k:=40) (q:=40) (d:=40) rfl rfl (by decide)) (cond_f (u8_bne (k:=41) (q:=41) (d:=41) rfl rfl (by decide)) (cond_f (u8_bne (k:=34) (q:=34) (d:=34) rfl rfl (by decide)) (cond_t (u8_beq (k:=123) (q:=123) (d:=123) rfl rfl rfl) (need_mk ⟨by omega,by omega,by simp; omega⟩ (cond_f (decide_eq_false (by omega)) (need_mk (by unfold i64ok; omega) (need_mk ⟨by omega,by omega,by omega⟩ ?_)))))))))
  rw [show ((i:Int)+1).toNat=i+1 by omega,Int.toNat_natCast,hcut,numS_itoa h.1 h.2,Blbal_5_eq]
  refine cond_f rfl (need_mk (by unfold i64ok; omega) (need_mk (by unfold i64ok; omega) ?_))
  rw [show (((i+1+(itoaS (s.length:Int)).length:Nat):Int)+2+(s.length:Int))=((i+(itoaS (s.length:Int)).length+3+s.length:Nat):Int) by omega,lbal_step F f t n _ ht (by omega)]
  exact bal1_cong (by omega)
theorem lbal_eq (t:List UInt8) (h:BalOk t):Flbal (t.length+2) t=some (.p (.bool true),[]):=by
 obtain ⟨ht,w,hw,e⟩:=h
 obtain ⟨f,hf,hq⟩:=lbal_walk (t.length+2) t ht (Neu.par w hw) [] 0 0 (t.length+2) (by rw [List.append_nil,List.drop_zero]; exact e) (by rw [<-e]; simp) (Nat.le_refl _) (by rw [<-e]; simp)
 obtain ⟨f,rfl⟩:∃ k,f=k+1:=⟨f - 1,by omega⟩
 rw [Flbal_eq]
 refine hq.trans ?_
 rw [<-e,Nat.zero_add,Blbal_1_eq]
 have hne:t≠[]:=by rw [e]; simp
 have h0:t.getD 0 0=40:=by rw [e]; rfl
 have hl:0 < t.length:=List.length_pos_iff.2 hne
 refine cond_f (decide_eq_false (by omega)) (need_mk (fun _=>⟨by omega,by omega⟩) ?_)
 rw [show ((0:Int)).toNat=0 from rfl,h0,show (t != ([]:List UInt8))=true from by simpa using hne]
 rfl
def sp_lbal:List AV->Option (AV×Option Prop)
 | [.p (.str t)]=>some (.p (.bool true),some (BalOk t))
 | _=>none
theorem ok_lbal:SpecOk Tryz.prog 11 sp_lbal:=by
 intro zs r ok he hok
 unfold sp_lbal at he
 split at he
 .cases he; exact ⟨by kernel_rfl,fn_lbal (_) _ _ fun hx=>lbal_eq _ hok⟩
 .cases he
theorem neu_all:∀ {w:List UInt8},(∀ c ∈ w,c≠40/\c≠41/\c≠34/\c≠123)->Neu w
 | [],_=>.nil
 | c::r,h=>.app [c] r (.chr c (h c (by simp))) (neu_all fun d hd=>h d (List.mem_cons_of_mem _ hd))
theorem neu_itoa (n:Int):Neu (itoaS n):=by
 refine neu_all fun c hc=>?_
 rw [itoa_nat] at hc
 have h:=dec_digit _ _ (Nat.le_refl _) c hc
 refine ⟨?_,?_,?_,?_⟩ <;> (rintro rfl; revert h; decide)
theorem neu_tdig (n:Int):Neu (tdigS n):=neu_itoa _
theorem neu_nil:Neu [78,73,76]:=neu_all (by decide)
theorem neu_sp:Neu [32]:=neu_all (by decide)
theorem neu_tstr {s:List UInt8} (h:s.length<=1000000):Neu (tstrS s):=by
 unfold tstrS
 split
 .exact .quo s
 .rename_i hp
  have h0:1<=s.length:=by
   cases s with
   | nil=>exact absurd rfl hp
   | cons c r=>simp
  have e:tdigS (s.length:Int)=itoaS (s.length:Int):=by unfold tdigS; rw [if_neg (by omega)]
  have:=Neu.lit s ⟨h0,h⟩
  rw [e]
  simpa using this
theorem neu_par {a:List UInt8} (ha:Neu a):Neu (([40]++a)++[41]):=by
 have:=Neu.par a ha
 simpa using this
theorem neu_flat {α:Type} {f:α->List UInt8}:∀ {l:List α},(∀ x ∈ l,Neu (f x))->Neu (l.flatMap f)
 | [],_=>.nil
 | x::r,h=>by
  rw [List.flatMap_cons]
  exact .app _ _ (h x (by simp)) (neu_flat fun y hy=>h y (List.mem_cons_of_mem _ hy))
theorem neu_join {l:List (List UInt8)} (h:∀ x ∈ l,Neu x):Neu (joinS [32] l):=by
 cases l with
 | nil=>exact .nil
 | cons x r=>
  rw [joinS]
  exact .app _ _ (h x (by simp)) (neu_flat fun y hy=>.app _ _ neu_sp (h y (List.mem_cons_of_mem _ hy)))
theorem neu_cat {l:List (List UInt8)} (h:∀ x ∈ l,Neu x):Neu (catS l):=by
 unfold catS
 induction l with
 | nil=>exact .nil
 | cons x r ih=>rw [List.flatten_cons]; exact .app _ _ (h x (by simp)) (ih fun y hy=>h y (List.mem_cons_of_mem _ hy))
theorem neu_one {a:AddrT} (h:tokA a):Neu (catS (oneA a)):=by
 have hn:Neu (if a.1=[] then [78,73,76] else tstrS a.1):=by
  split
  .exact neu_nil
  .rename_i hq; exact neu_tstr (h.1 hq)
 have hin:Neu (catS [if a.1=[] then [78,73,76] else tstrS a.1,[32],[78,73,76],[32],tstrS a.2.1,[32],tstrS a.2.2]):=by
  refine neu_cat fun x hx=>?_
  simp only [List.mem_cons,List.not_mem_nil,or_false] at hx
  rcases hx with rfl | rfl | rfl | rfl | rfl | rfl | rfl
  .exact hn
  .exact neu_sp
  .exact neu_nil
  .exact neu_sp
  .exact neu_tstr h.2.1
  .exact neu_sp
  .exact neu_tstr h.2.2
 have:=neu_par hin
 unfold oneA
 simpa [catS] using this
theorem neu_addrs {l:List (List UInt8×List UInt8)} {n:List UInt8} (h:addrsok l n):Neu (addrsS l n):=by
 unfold addrsS tellA
 split
 .exact neu_nil
 .have:=neu_par (neu_flat (f:=fun a=>catS (oneA a)) fun a ha=>neu_one (h.2.2 a ha))
  unfold manyA
  simpa using this
theorem neu_or {l:List (List UInt8×List UInt8)} {fr n:List UInt8} (hf:Neu fr) (h:addrsok l n):Neu (orS l fr n):=by
 unfold orS
 split
 .exact hf
 .exact neu_addrs h
theorem neu_nstr {l:List (List UInt8×List UInt8)} {n:List UInt8} (h:nstrok l n):Neu (nstrS l n):=by
 unfold nstrS
 split
 .rename_i q; exact neu_tstr (h.2 q)
 .exact neu_nil
theorem bal_env {s:List UInt8} (h:s.length<=3000):BalOk (envS s):=by
 obtain ⟨⟨_,ha,hn,_⟩,hl⟩:=env_all h
 refine ⟨by omega,joinS [32] (envL (splitS s 0 (s.length:Int)).1),neu_join fun x hx=>?_,by unfold envS; simp⟩
 unfold envL at hx
 simp only [List.mem_cons,List.not_mem_nil,or_false] at hx
 have hF:=neu_addrs (ha nFrom (by simp))
 rcases hx with rfl | rfl | rfl | rfl | rfl | rfl | rfl | rfl | rfl | rfl
 .exact neu_nstr (hn nDate (by simp))
 .exact neu_nstr (hn nSubj (by simp))
 .exact hF
 .exact neu_or hF (ha nSend (by simp))
 .exact neu_or hF (ha nRepl (by simp))
 .exact neu_addrs (ha nTo (by simp))
 .exact neu_addrs (ha nCc (by simp))
 .exact neu_addrs (ha nBcc (by simp))
 .exact neu_nstr (hn nInR (by simp))
 .exact neu_nstr (hn nMsg (by simp))
theorem neu_parmT {ps:List (List UInt8×List UInt8)} (h:∀ x ∈ ps,tok x.1/\tok x.2):Neu (parmT ps):=by
 unfold parmT
 split
 .refine neu_par (neu_join fun y hy=>?_)
  unfold parmS at hy
  obtain ⟨x,hx,hm⟩:=List.mem_flatMap.1 hy
  simp only [List.mem_cons,List.not_mem_nil,or_false] at hm
  rcases hm with rfl | rfl
  .exact neu_tstr (h x hx).1
  .exact neu_tstr (h x hx).2
 .exact neu_nil
theorem neu_leaf {s ty:List UInt8} {ps:List (List UInt8×List UInt8)} {en:List UInt8} {f t:Int} (hsub:tok (cutS ty 47).2.1) (h:leafok s ty ps en f t):∀ x ∈ leafL s ty ps en f t,Neu x:=by
 obtain ⟨k1,k2,k3,_⟩:=h
 intro x hx
 unfold leafL at hx
 rcases List.mem_append.1 hx with hx | hx
 .simp only [List.mem_cons,List.not_mem_nil,or_false] at hx
  rcases hx with rfl | rfl | rfl | rfl | rfl | rfl | rfl
  .exact neu_tstr k1
  .exact neu_tstr hsub
  .exact neu_parmT k3
  .exact neu_nil
  .exact neu_nil
  .exact neu_tstr k2
  .exact neu_tdig _
 .split at hx
  .rw [List.mem_singleton.1 hx]; exact neu_tdig _
  .cases hx
def strucI (k:Nat) (s:List UInt8) (p:Part):List UInt8:=
 if p.kids.length > 0 then (p.kids.flatMap (strucS k s)++[32])++tstrS (cutS p.type 47).2.1 else joinS [32] (leafL s p.type p.params p.enc p.frm p.til)
theorem strucI_eq (k:Nat) (s:List UInt8) (p:Part):strucS (k+1) s p=([40]++strucI k s p)++[41]:=by
 rw [strucS]; unfold strucI
 split <;> simp
theorem neu_struc {s:List UInt8}:∀ (k:Nat) (p:Part),strucok k s p->Neu (strucS k s p)/\∀ j,k=j+1->Neu (strucI j s p)
 | 0,p,h=>by rw [strucok] at h; exact h.elim
 | k+1,p,h=>by
  have hi:Neu (strucI k s p):=by
   rw [strucok] at h
   obtain ⟨h1,h2,h3,h4,h5,h6⟩:=h
   unfold strucI
   split
   .exact .app _ _ (.app _ _ (neu_flat fun q hq=>(neu_struc k q (h5 q hq)).1) neu_sp) (neu_tstr h2)
   .rename_i hz
    exact neu_join (neu_leaf h2 (h6 (by omega)))
  exact ⟨by rw [strucI_eq]; exact neu_par hi,fun j hj=>by cases hj; exact hi⟩
theorem bal_struc {s:List UInt8} (h:s.length<=3000):BalOk (strucS 7 s (treeT s)):=by
 obtain ⟨h1,h2⟩:=struc_all h
 exact ⟨by omega,strucI 6 s (treeT s),(neu_struc 7 _ h1).2 6 rfl,by rw [strucI_eq]; simp⟩
noncomputable def Glbalanced:Cfg:=⟨Tryz.prog,mkEnv [(10,sp_awake),(11,sp_lbal),(12,sp_envel),(13,sp_strucT)],mkEnvR [],18,[],[],[]⟩
noncomputable def Flbalanced (F:Nat) (s:List UInt8):Option Ans:=runF Glbalanced Tryz.f3 F [.p (.str s)]
theorem Flbalanced_eq (F:Nat) (s:List UInt8):Flbalanced F s=cond (decide ((s.length:Int) > (3000:Int))) (some (.p (.bool true),[])) (need (envok s) (need (BalOk (envS s)) ((need (true=true->s.length<=1000000/\strucok 7 s (treeT s)) ((need (true=true->BalOk (strucS 7 s (treeT s))) (((some (.p (.bool ((true&&true)&&true)),[])))))))))):=by
 have h:Flbalanced F s=cond (decide ((s.length:Int) > (3000:Int))) (some (.p (.bool true),[])) (need (envok s) (need (BalOk (envS s)) (need (true=true->true=true) (need (true=true->s.length<=1000000/\strucok 7 s (treeT s)) (need (true=true->true=true) (need (true=true->BalOk (strucS 7 s (treeT s))) (need (true=true->true=true) (need ((true&&true)=true->(true&&true)=true) (some (.p (.bool ((true&&true)&&true)),[])))))))))):=by kernel_rfl
 rw [h,need_pos (show (true&&true)=true->(true&&true)=true from (fun q0=>q0)),need_pos (show true=true->true=true from (fun q0=>q0)),need_pos (show true=true->true=true from (fun q0=>q0)),need_pos (show true=true->true=true from (fun q0=>q0))]
theorem fn_lbalanced (F:Nat) (s:List UInt8) (r:AV) (h:(∃ M vs,ARels γ0 M [.p (.str s)] vs)->Flbalanced F s=some (r,[])):FnP Tryz.prog 3 [.p (.str s)] r:=
 FnP_run Glbalanced F rfl (EnvOk_mk (l:=[(10,sp_awake),(11,sp_lbal),(12,sp_envel),(13,sp_strucT)]) ⟨ok_awake.any,ok_lbal.any,ok_envel.any,ok_strucT.any,trivial⟩) (EnvROk_mk (l:=[]) trivial) (Checked.mixed Tryz.checked) (fn:=Tryz.f3) (by kernel_rfl) (by kernel_rfl) rfl h
theorem lbalanced_eq (s:List UInt8):Flbalanced 0 s=some (.p (.bool true),[]):=by
 rw [Flbalanced_eq]
 by_cases h:s.length<=3000
 .refine cond_f (decide_eq_false (by omega)) (need_mk (env_all h).1 (need_mk (bal_env h) (need_mk (fun _=>⟨by omega,(struc_all h).1⟩) (need_mk (fun _=>bal_struc h) rfl))))
 .exact cond_t (decide_eq_true (by omega)) rfl
end Go.Proofs.YtoanepondbagcaaGreatDoor
namespace Go.Am
open Go Go.RowKit Go.ChangeShapes Go.WideShapes
def memOf (w:World):Mem:=fun b o=>w.cell? ⟨b,o,none⟩
theorem memOf_ok (w:World) (hg:GOk (memOf w)) (ht:TOk w):WOk (memOf w) w:=⟨⟨fun _ _ _ h=>h,hg⟩,ht⟩
section
variable {H:Type} {enc:TypeId×Value->H} {P:Program} {w:World} {spare:Nat->Bool} {held:Bool} {M:Mem}
end
theorem walk_of_FnP2 {P:Program} {f:FuncId} {args:List AV} (h:FnP P f args (.p (.bool true))) {vs:List Value} (w:World) (hg:GOk (memOf w)) (ht:TOk w) (hv:ARels γ0 (memOf w) args vs):
 Calls P f vs.toArray w fun e w'=>e=.returned (.bool true)/\Below w.heap.size w w':=by
 refine (h (memOf w) w vs (memOf_ok w hg ht) hv).mono fun e w' ⟨v,M',he,_,_,_,hr,hb⟩=>?_
 rw [hr.bool_inv] at he
 exact ⟨he,hb⟩
theorem str_argM (M:Mem) (a:ByteArray) (h:a.size<=maxLen):ARel γ0 M (.p (.str a.data.toList)) (.string a):=
 .p _ _ (.str a.data.toList (by rw [Array.length_toList]; exact h))
end Go.Am
set_option linter.unusedVariables false
namespace Go.Am
open Go Go.RowKit Go.ChangeShapes Go.WideShapes Go.ChangeAt
variable {H:Type} {enc:TypeId×Value->H}
theorem returns_shaped {a:Assume} {C:Checked} {os:Os} {f:FuncId} {fn:Func} {s:ChangeSpec} {conds:List PathCond} {apart fresh handsOn again:Bool} {X:World->Array Value->Prop}
 (own:ownKnob C.prog.godebug=none) (started:os.Started) (noInit:C.prog.inits.idxOf? f=none) (hfn:C.prog.funcs[f]?=some fn)
 (witness:∃ (w:World) (tape:Tape) (i:Input),w.os=os/\(w.forCall tape i).Shaped C.prog/\i.vars=[]/\Input.okWide C.prog (w.forCall tape i) .any w.heap.size f i/\
  ((s.pre enc C.prog fn conds apart (w.forCall tape i).memory i.args/\X (w.forCall tape i).memory i.args)/\sizedMet enc C.prog fn (OpenSpec.ofChange s) apart (w.forCall tape i).memory i.args)/\a.holds C.prog (lone (Frame.enter C.prog f i.args .normal) [] (w.forCall tape i)))
 (contract:∀ (W:World) (base:Nat) (args:Array Value) (ds gs:List (DataW H)) (before:List MemPlace),W.ShapedOpen C.prog->(∃ W0:World,W0.heap=W.heap/\X W0 args)->
  (∀ (j:Nat) t v,fn.params[j]?=some t->args[j]?=some v->Value.okWide C.prog W .any base t v)->
  DataW.Whole enc C.prog fn.params.toList s.vars apart W args.toList ds gs before->
  (DataW.weightsEach C.prog (fn.params.toList++s.plain.varTypes C.prog) (ds++gs)).all (·<=reachBytes)=true->
  Calls C.prog f args W fun e W'=>∃ v,e=.returned v/\s.post enc C.prog fn apart fresh handsOn again W args v W'):
 ReturnsInHanded a C os f .any (fun w args=>(s.pre enc C.prog fn conds apart w args/\X w args)/\sizedMet enc C.prog fn (OpenSpec.ofChange s) apart w args) (s.post enc C.prog fn apart fresh handsOn again):=by
 refine returnsInHanded_of_calls own started noInit witness ?_
 intro w tape i _ hsh _ hok hpre _
 obtain ⟨_,_,_,fn',hfn',_,_,_,_,hval⟩:=hok
 have e:fn'=fn:=Option.some.inj (hfn'.symm.trans hfn)
 subst e
 obtain ⟨⟨⟨ds,gs,before,hw,_⟩,hX⟩,hz⟩:=hpre
 have hw':=DataW.Whole.of_heap (w':=w.forCall tape i) (by rfl) hw
 refine (contract (w.forCall tape i) w.heap.size i.args ds gs before hsh ⟨(w.forCall tape i).memory,rfl,hX⟩ hval hw' (hz.weights hw)).mono fun e W' ⟨v,he,hp⟩=>?_
 subst he
 exact ChangeSpec.post_blind hp
theorem laidVars_at {P:Program} {w:World} {n:String} {d:DataW Unit}:∀ {l:List (String×DataW Unit)} {ps:List MemPlace},DataW.LaidVars P w l ps->(n,d) ∈ l->
 ∃ g t cs fuel p,P.globalNamed n=some g/\(P.globals[g]?).map (·.type)=some t/\w.var? P n=some cs/\DataW.trod (fun _=>()) P w 0 (fun _=>true) false fuel t cs.toList=some (d,p)
 | [],ps,_,h=>by cases h
 | (n',d')::r,ps,hl,h=>by
  obtain ⟨g,t,cs,fuel,p,q,h1,h2,h3,h4,h5,_⟩:=hl
  rcases List.mem_cons.1 h with e | h
  .cases e; exact ⟨g,t,cs,fuel,p,h1,h2,h3,h4⟩
  .exact laidVars_at h5 h
theorem tab_of_laid {P:Program} {W W0:World} {l:List (String×DataW Unit)} {name:String} {zs:List Int} {g:Nat} {t e:TypeId} {n:Nat} (hW:W0.heap=W.heap) (hp:laidMet P l W0) (hm:(name,Lib.tabData .u64 zs) ∈ l)
 (hg:P.globalNamed name=some g) (hty:(P.globals[g]?).map (·.type)=some t) (ht:P.underlying t=some (.array n e)) (he:P.underlying e=some (.int .u64)) (hce:P.cellsOf e=1) (hct:P.cellsOf t=n):
 ∃ e m,W.heap[g]?=some (.cells (zs.map fun z=>Value.int .u64 z).toArray e m):=by
 obtain ⟨ps,hl,_⟩:=hp
 obtain ⟨g',t',cs,fuel,p,h1,h2,h3,h4⟩:=laidVars_at hl hm
 obtain rfl:=Option.some.inj (hg.symm.trans h1)
 obtain rfl:=Option.some.inj (hty.symm.trans h2)
 have hc:=Lib.cells_of_tab ht he hce hct h4
 unfold World.var? at h3
 rw [hg,Option.bind_some,hW] at h3
 split at h3
 .rename_i c2 e2 m2 hh
  cases h3
  exact ⟨e2,m2,by rw [hh,<-hc]⟩
 .cases h3
end Go.Am
