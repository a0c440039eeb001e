/-
  Lifted functions, and facts about them.
-/
import Derived.Test.YtoanepondbagcaaGreatDoorRows
import Derived.Test.YtoanepondbagcaaGreatDoorAmC
import Derived.Test.YtoanepondbagcaaGreatDoorC01
import Derived.Test.YtoanepondbagcaaGreatDoorC17
import Derived.Test.YtoanepondbagcaaGreatDoorC04
import Derived.Test.YtoanepondbagcaaGreatDoorC05
import Derived.Test.YtoanepondbagcaaGreatDoorC07
import Derived.Test.YtoanepondbagcaaGreatDoorC03
import Derived.Test.YtoanepondbagcaaGreatDoorC09
namespace Go.Proofs.YtoanepondbagcaaGreatDoor
open Go Go.Am
set_option linter.unusedVariables false
end Go.Proofs.YtoanepondbagcaaGreatDoor
namespace Go.Proofs.YtoanepondbagcaaGreatDoor
open Go Go.Am
set_option linter.unusedVariables false
end Go.Proofs.YtoanepondbagcaaGreatDoor
namespace Go.Proofs.YtoanepondbagcaaGreatDoor
open Go Go.Am
set_option linter.unusedVariables false
end Go.Proofs.YtoanepondbagcaaGreatDoor
namespace Go.Proofs.YtoanepondbagcaaGreatDoor
open Go Go.Am
set_option linter.unusedVariables false
noncomputable def Gfields0:Cfg:=⟨Tryz.prog,mkEnv [(46,sp_split)],mkEnvR [],10,[],[],[]⟩
noncomputable def Ffields0 (F:Nat) :Option Ans:=runF Gfields0 Tryz.f24 F [.p (.str ([]:List UInt8))]
theorem Ffields0_eq (F:Nat) :Ffields0 F =need (([]:List UInt8).length<=1000000) (some (.tup [.p (.list 2 (.dat (.pair .str .str) ([]:List (List UInt8×List UInt8)))),.p (.int .i64 (0:Int))],[])):=by kernel_rfl
theorem fn_fields0 (F:Nat)  (r:AV) (h:(∃ M vs,ARels γ0 M [.p (.str ([]:List UInt8))] vs)->Ffields0 F =some (r,[])):FnP Tryz.prog 24 [.p (.str ([]:List UInt8))] r:=
 FnP_run Gfields0 F rfl (EnvOk_mk (l:=[(46,sp_split)]) ⟨ok_split.any,trivial⟩) (EnvROk_mk (l:=[]) trivial) (Checked.mixed Tryz.checked) (fn:=Tryz.f24) (by kernel_rfl) (by kernel_rfl) rfl h
def sp_fields0:List AV->Option (AV×Option Prop)
 | [.p (.str [])]=>some (.tup [.p (.list 2 (.dat (.pair .str .str) [])),.p (.int .i64 0)],none)
 | _=>none
theorem ok_fields0:SpecOk Tryz.prog 24 sp_fields0:=by
 intro zs r ok he hok
 unfold sp_fields0 at he
 split at he
 .cases he; exact ⟨by kernel_rfl,fn_fields0 0 _ fun _=>by rw [Ffields0_eq]; exact need_mk (by simp) rfl⟩
 .cases he
noncomputable def Gnstring0:Cfg:=⟨Tryz.prog,mkEnv [(31,sp_first)],mkEnvR [],17,[],[],[]⟩
noncomputable def Fnstring0 (F:Nat) (n:List UInt8):Option Ans:=runF Gnstring0 Tryz.f28 F [.p (.list 2 (.dat (.pair .str .str) ([]:List (List UInt8×List UInt8)))),.p (.str n)]
theorem Fnstring0_eq (F:Nat) (n:List UInt8):Fnstring0 F n=need (firstok ([]:List (List UInt8×List UInt8)) n) (some (.p (.str ([78,73,76]:List UInt8)),[])):=by kernel_rfl
theorem fn_nstring0 (F:Nat) (n:List UInt8) (r:AV) (h:(∃ M vs,ARels γ0 M [.p (.list 2 (.dat (.pair .str .str) ([]:List (List UInt8×List UInt8)))),.p (.str n)] vs)->Fnstring0 F n=some (r,[])):FnP Tryz.prog 28 [.p (.list 2 (.dat (.pair .str .str) ([]:List (List UInt8×List UInt8)))),.p (.str n)] r:=
 FnP_run Gnstring0 F rfl (EnvOk_mk (l:=[(31,sp_first)]) ⟨ok_first.any,trivial⟩) (EnvROk_mk (l:=[]) trivial) (Checked.mixed Tryz.checked) (fn:=Tryz.f28) (by kernel_rfl) (by kernel_rfl) rfl h
def sp_nstring0:List AV->Option (AV×Option Prop)
 | [.p (.list 2 (.dat (.pair .str .str) [])),.p (.str n)]=>some (.p (.str [78,73,76]),some (firstok [] n))
 | _=>none
theorem ok_nstring0:SpecOk Tryz.prog 28 sp_nstring0:=by
 intro zs r ok he hok
 unfold sp_nstring0 at he
 split at he
 .cases he; exact ⟨by kernel_rfl,fn_nstring0 0 _ _ fun _=>by rw [Fnstring0_eq]; exact need_mk hok rfl⟩
 .cases he
noncomputable def Gaddresses0:Cfg:=⟨Tryz.prog,mkEnv [(31,sp_first),(49,sp_alist0)],mkEnvR [],55,[],[],[]⟩
noncomputable def Faddresses0 (F:Nat) (n:List UInt8):Option Ans:=runF Gaddresses0 Tryz.f25 F [.p (.list 2 (.dat (.pair .str .str) ([]:List (List UInt8×List UInt8)))),.p (.str n)]
theorem Faddresses0_eq (F:Nat) (n:List UInt8):Faddresses0 (F+1) n=need (firstok ([]:List (List UInt8×List UInt8)) n) (some (.p (.str ([78,73,76]:List UInt8)),[])):=by kernel_rfl
theorem fn_addresses0 (F:Nat) (n:List UInt8) (r:AV) (h:(∃ M vs,ARels γ0 M [.p (.list 2 (.dat (.pair .str .str) ([]:List (List UInt8×List UInt8)))),.p (.str n)] vs)->Faddresses0 F n=some (r,[])):FnP Tryz.prog 25 [.p (.list 2 (.dat (.pair .str .str) ([]:List (List UInt8×List UInt8)))),.p (.str n)] r:=
 FnP_run Gaddresses0 F rfl (EnvOk_mk (l:=[(31,sp_first),(49,sp_alist0)]) ⟨ok_first.any,ok_alist0.any,trivial⟩) (EnvROk_mk (l:=[]) trivial) (Checked.mixed Tryz.checked) (fn:=Tryz.f25) (by kernel_rfl) (by kernel_rfl) rfl h
def sp_addresses0:List AV->Option (AV×Option Prop)
 | [.p (.list 2 (.dat (.pair .str .str) [])),.p (.str n)]=>some (.p (.str [78,73,76]),some (firstok [] n))
 | _=>none
theorem ok_addresses0:SpecOk Tryz.prog 25 sp_addresses0:=by
 intro zs r ok he hok
 unfold sp_addresses0 at he
 split at he
 .cases he; exact ⟨by kernel_rfl,fn_addresses0 1 _ _ fun _=>by rw [Faddresses0_eq]; exact need_mk hok rfl⟩
 .cases he
end Go.Proofs.YtoanepondbagcaaGreatDoor
namespace Go.Proofs.YtoanepondbagcaaGreatDoor
open Go Go.Am
set_option linter.unusedVariables false
def joinS (sep:List UInt8):List (List UInt8)->List UInt8
 | []=>[]
 | x::r=>x++r.flatMap (sep++·)
def totL (l:List (List UInt8)):Nat:=(l.map List.length).sum
abbrev joinok (l:List (List UInt8)) (sep:List UInt8):Prop:=sep≠[]/\sep.length<=1000/\l.length<=1000000/\totL l<=1000000000
theorem totL_cons (x:List UInt8) (r:List (List UInt8)):totL (x::r)=x.length+totL r:=by simp [totL]
theorem flatMap_len (sep:List UInt8):∀ r:List (List UInt8),(r.flatMap (sep++·)).length=r.length * sep.length+totL r
 | []=>by simp [totL]
 | x::r=>by rw [List.flatMap_cons,List.length_append,flatMap_len sep r,totL_cons,List.length_append,List.length_cons,Nat.add_mul]; omega
theorem joinS_len (sep:List UInt8) (l:List (List UInt8)):(joinS sep l).length<=l.length * sep.length+totL l:=by
 cases l with
 | nil=>simp [joinS]
 | cons x r=>rw [joinS,List.length_append,flatMap_len,totL_cons,List.length_cons,Nat.add_mul]; omega
noncomputable def cjoinl:Code:=bodyOf Tryz.f27
noncomputable def Gjoinl:Cfg:=⟨Tryz.prog,mkEnv [],mkEnvR [(48,sp_wstr),(51,sp_bstr),(52,sp_grow)],75,[],[([1,0,0,1,0,1,1,1],⟨[0,1,5,29],[]⟩),([1,0,1,0,1,1,1],⟨[0,1,5],[]⟩),([1,1,1,1],⟨[0,1,5],[]⟩),([0,1,0,1,1,1,1],⟨[0,1,5,39,40,41],[]⟩),([1,1,0,0,1,1,0,0,1,0,1,1,1,1],⟨[0,1,5,7,39,40,41],[]⟩),([0,1,0,1,1,1,1,1,1,1,1],⟨[1,8,63,64,65],[⟨.slot 8,8,.cells []⟩,⟨.cell 8 1,9001,(.barr 5 false [])⟩]⟩)],[([0,1,1,1,1,1,1],[1]),([0,1,1,1,1,1,1,1],[3]),([0,1,0,0,1,1,0,0,1,0,1,1,1,1,1,1,1,1],[1]),([1,1,0,0,1,1,0,0,1,0,1,1,1,1,1,1,1,1],[1]),([0,1,1,1,1,1,1,1,1,1],[0])]⟩
noncomputable def Bjoinl_1 (F:Nat) (l:List (List UInt8)) (sep:List UInt8) (vc1:Bool):Option Ans:=runB Gjoinl cjoinl (kP Tryz.prog Tryz.f27.results.toList) F [] [1,1,1,0,1,0,0,1] [(0,.p (.list 1 (.dat .str l))),(1,.p (.str sep)),(5,.p (.int .i64 (0:Int))),(29,.p (.bool vc1))] []
noncomputable def Bjoinl_2 (F:Nat) (l:List (List UInt8)) (sep:List UInt8):Option Ans:=runB Gjoinl cjoinl (kP Tryz.prog Tryz.f27.results.toList) F [] [1,1,1,0,1,0,1] [(0,.p (.list 1 (.dat .str l))),(1,.p (.str sep)),(5,.p (.int .i64 (0:Int)))] []
noncomputable def Bjoinl_3 (F:Nat) (l:List (List UInt8)) (sep:List UInt8) (vi2:Int):Option Ans:=runB Gjoinl cjoinl (kP Tryz.prog Tryz.f27.results.toList) F [] [1,1,1,1] [(0,.p (.list 1 (.dat .str l))),(1,.p (.str sep)),(5,.p (.int .i64 vi2))] []
noncomputable def Bjoinl_4 (F f1:Nat) (l:List (List UInt8)) (sep:List UInt8) (vi3 vi4 vi5:Int):Option Ans:=runR Gjoinl cjoinl (kP Tryz.prog Tryz.f27.results.toList) F [] [1,1,1,1,0,1,0] f1 [(0,.p (.list 1 (.dat .str l))),(1,.p (.str sep)),(5,.p (.int .i64 vi3)),(39,.p (.list 1 (.dat .str l))),(40,.p (.int .i64 vi4)),(41,.p (.int .i64 vi5))] []
noncomputable def Bjoinl_5 (F f1:Nat) (l:List (List UInt8)) (sep:List UInt8) (vi3:Int) (vs6:List UInt8) (vi4 vi5:Int):Option Ans:=runB Gjoinl cjoinl (kP Tryz.prog Tryz.f27.results.toList) F [f1] [1,1,1,1,0,1,0,0,1,1,0,0,1,1] [(0,.p (.list 1 (.dat .str l))),(1,.p (.str sep)),(5,.p (.int .i64 vi3)),(7,.p (.str vs6)),(39,.p (.list 1 (.dat .str l))),(40,.p (.int .i64 vi4)),(41,.p (.int .i64 vi5))] []
noncomputable def Bjoinl_6 (F f2:Nat) (sep:List UInt8) (vl7:List (List UInt8)) (vi8 vi9:Int) (vb10:List UInt8):Option Ans:=runR Gjoinl cjoinl (kP Tryz.prog Tryz.f27.results.toList) F [] [1,1,1,1,1,1,1,1,0,1,0] f2 [(1,.p (.str sep)),(8,.ref 8 0),(63,.p (.list 1 (.dat .str vl7))),(64,.p (.int .i64 vi8)),(65,.p (.int .i64 vi9))] [(8,.bldr 61 (.arr 9001)),(9001,.barr 5 false vb10)]
noncomputable def Fjoinl (F:Nat) (l:List (List UInt8)) (sep:List UInt8):Option Ans:=runF Gjoinl Tryz.f27 F [.p (.list 1 (.dat .str l)),.p (.str sep)]
theorem Bjoinl_1_eq (F:Nat) (l:List (List UInt8)) (sep:List UInt8) (vc1:Bool):Bjoinl_1 F l sep vc1=cond (vc1) (none) (Bjoinl_2 F l sep):=by kernel_rfl
theorem Bjoinl_2_eq (F:Nat) (l:List (List UInt8)) (sep:List UInt8):Bjoinl_2 F l sep=need (i64ok ((l.length:Int) - (1:Int))) (need (i64ok ((sep.length:Int) * ((l.length:Int) - (1:Int)))) (need (i64ok ((0:Int)+((sep.length:Int) * ((l.length:Int) - (1:Int))))) (Bjoinl_3 F l sep ((0:Int)+((sep.length:Int) * ((l.length:Int) - (1:Int))))))):=by kernel_rfl
theorem Bjoinl_3_eq (F:Nat) (l:List (List UInt8)) (sep:List UInt8) (vi2:Int):Bjoinl_3 F l sep vi2=Bjoinl_4 F F l sep vi2 (l.length:Int) (0:Int):=by kernel_rfl
theorem Bjoinl_4_eq (F f1:Nat) (l:List (List UInt8)) (sep:List UInt8) (vi3 vi4 vi5:Int):Bjoinl_4 F (f1+1) l sep vi3 vi4 vi5=cond (decide (vi5 < vi4)) (need (0<=vi5/\vi5 < (l.length:Int)) (need (i64ok ((9223372036854775807:Int) - vi3)) (cond (decide (((l.getD (vi5).toNat []).length:Int) > ((9223372036854775807:Int) - vi3))) (none) (Bjoinl_5 F f1 l sep vi3 (l.getD (vi5).toNat []) vi4 vi5)))) (need (1<=vi3/\vi3<=281474976710656) (need (0<=(0:Int)/\(0:Int) < (l.length:Int)) (need (([]:List UInt8).length+(l.getD ((0:Int)).toNat []).length<=140737488355328) (need (0<=(1:Int)/\(1:Int)<=(l.length:Int)) (Bjoinl_6 F F sep (l.drop ((1:Int)).toNat) ((l.drop ((1:Int)).toNat).length:Int) (0:Int) (([]:List UInt8)++(l.getD ((0:Int)).toNat []))))))):=by kernel_rfl
theorem Bjoinl_5_eq (F f1:Nat) (l:List (List UInt8)) (sep:List UInt8) (vi3:Int) (vs6:List UInt8) (vi4 vi5:Int):Bjoinl_5 F f1 l sep vi3 vs6 vi4 vi5=need (i64ok (vi3+(vs6.length:Int))) (need (i64ok (vi5+(1:Int))) (Bjoinl_4 F f1 l sep (vi3+(vs6.length:Int)) vi4 (vi5+(1:Int)))):=by kernel_rfl
theorem Bjoinl_6_eq (F f2:Nat) (sep:List UInt8) (vl7:List (List UInt8)) (vi8 vi9:Int) (vb10:List UInt8):Bjoinl_6 F (f2+1) sep vl7 vi8 vi9 vb10=cond (decide (vi9 < vi8)) (need (0<=vi9/\vi9 < (vl7.length:Int)) (need (vb10.length+sep.length<=140737488355328) (need ((vb10++sep).length+(vl7.getD (vi9).toNat []).length<=140737488355328) (need (i64ok (vi9+(1:Int))) (Bjoinl_6 F f2 sep vl7 vi8 (vi9+(1:Int)) ((vb10++sep)++(vl7.getD (vi9).toNat []))))))) (some (.p (.str vb10),[])):=by kernel_rfl
theorem Fjoinl_eq (F:Nat) (l:List (List UInt8)) (sep:List UInt8):Fjoinl F l sep=cond ((l.length:Int)==(0:Int)) (some (.p (.str ([]:List UInt8)),[])) (cond ((l.length:Int)==(1:Int)) (need (0<=(0:Int)/\(0:Int) < (l.length:Int)) (some (.p (.str (l.getD ((0:Int)).toNat [])),[]))) (cond (decide ((sep.length:Int) > (0:Int))) (need (i64ok ((l.length:Int) - (1:Int))) (need (((l.length:Int) - (1:Int))≠0/\i64ok ((9223372036854775807:Int).tdiv ((l.length:Int) - (1:Int)))) (Bjoinl_1 F l sep (decide ((sep.length:Int)>=((9223372036854775807:Int).tdiv ((l.length:Int) - (1:Int)))))))) (Bjoinl_3 F l sep (0:Int)))):=by kernel_rfl
theorem fn_joinl (F:Nat) (l:List (List UInt8)) (sep:List UInt8) (r:AV) (h:(∃ M vs,ARels γ0 M [.p (.list 1 (.dat .str l)),.p (.str sep)] vs)->Fjoinl F l sep=some (r,[])):FnP Tryz.prog 27 [.p (.list 1 (.dat .str l)),.p (.str sep)] r:=
 FnP_run Gjoinl F rfl (EnvOk_mk (l:=[]) trivial) (EnvROk_mk (l:=[(48,sp_wstr),(51,sp_bstr),(52,sp_grow)]) ⟨ok_wstr,ok_bstr,ok_grow,trivial⟩) (Checked.mixed Tryz.checked) (fn:=Tryz.f27) (by kernel_rfl) (by kernel_rfl) rfl h
theorem Bjoinl_end (F:Nat) (sep:List UInt8) (l:List (List UInt8)) (hs:sep.length<=1000) (hl:l.length<=1000000) (ht:totL l<=1000000000):∀ (r:List (List UInt8)) (f i:Nat) (b:List UInt8),l.drop i=r->r.length < f->i<=l.length->b.length+r.length * 1000+totL r<=100000000000->
 Bjoinl_6 F f sep l (l.length:Int) (i:Int) b=some (.p (.str (b++r.flatMap (sep++·))),[]):=by
 intro r
 induction r with
 | nil=>
  intro f i b hd hf hi hb
  have:i=l.length:=by have:=congrArg List.length hd; simp at this; omega
  cases f with
  | zero=>omega
  | succ f=>rw [Bjoinl_6_eq]; exact cond_f (by simp; omega) (by simp)
 | cons c r ih=>
  intro f i b hd hf hi hb
  obtain ⟨h1,h2,h3⟩:=dropG hd []
  rw [totL_cons,List.length_cons] at hb
  cases f with
  | zero=>omega
  | succ f=>
   rw [Bjoinl_6_eq,Int.toNat_natCast,h1]
   refine cond_t (by simp; omega) (need_mk ⟨by omega,by omega⟩ (need_mk (by omega) (need_mk (by rw [List.length_append]; omega) (need_mk (by unfold i64ok; omega) ?_))))
   rw [show (i:Int)+1=((i+1:Nat):Int) by omega]
   rw [ih f (i+1) _ h2 (by simp at hf; omega) (by omega) (by simp only [List.length_append]; omega)]
   simp
theorem Bjoinl_sum (F:Nat) (sep x:List UInt8) (q:List (List UInt8)) (hs:sep.length<=1000) (hl:(x::q).length<=1000000) (ht:totL (x::q)<=1000000000) (hF:(x::q).length < F):∀ (r:List (List UInt8)) (f i n:Nat),(x::q).drop i=r->r.length < f->i<=(x::q).length->1<=n->n+totL r<=100000000000->
 Bjoinl_4 F f (x::q) sep (n:Int) ((x::q).length:Int) (i:Int)=some (.p (.str (joinS sep (x::q))),[]):=by
 intro r
 induction r with
 | nil=>
  intro f i n hd hf hi hn hb
  have hi':i=(x::q).length:=by have:=congrArg List.length hd; simp at this; simp at hi ⊢; omega
  have hx:=totL_cons x q
  have hq:(x::q).length=q.length+1:=rfl
  cases f with
  | zero=>omega
  | succ f=>
   rw [Bjoinl_4_eq]
   refine cond_f (by simp only [decide_eq_false_iff_not]; omega) (need_mk (by omega) (need_mk (by simp) (need_mk (by simp; omega) (need_mk (by simp; omega) ?_))))
   show Bjoinl_6 F F sep q (q.length:Int) ((0:Nat):Int) ([]++x)=_
   rw [Bjoinl_end F sep q hs (by omega) (by omega) q F 0 _ rfl (by omega) (by omega) (by simp; omega)]
   rfl
 | cons c r ih=>
  intro f i n hd hf hi hn hb
  obtain ⟨h1,h2,h3⟩:=dropG hd []
  rw [totL_cons] at hb
  cases f with
  | zero=>omega
  | succ f=>
   rw [Bjoinl_4_eq,Int.toNat_natCast,h1]
   refine cond_t (by simp only [decide_eq_true_iff]; omega) (need_mk ⟨by omega,by omega⟩ (need_mk (by unfold i64ok; omega) (cond_f (by simp only [decide_eq_false_iff_not]; omega) ?_)))
   rw [Bjoinl_5_eq]
   refine need_mk (by unfold i64ok; omega) (need_mk (by unfold i64ok; omega) ?_)
   rw [show (i:Int)+1=((i+1:Nat):Int) by omega,show (n:Int)+(c.length:Int)=((n+c.length:Nat):Int) by omega]
   exact ih f (i+1) _ h2 (by simp at hf; omega) (by omega) (by omega) (by omega)
theorem joinl_eq (l:List (List UInt8)) (sep:List UInt8) (hk:joinok l sep):Fjoinl (l.length+1) l sep=some (.p (.str (joinS sep l)),[]):=by
 obtain ⟨hk0,hk1,hk2,hk3⟩:=hk
 rw [Fjoinl_eq]
 match l,hk2,hk3 with
 | [],_,_=>rfl
 | [x],_,_=>refine cond_f (by simp) (cond_t (by simp) (need_mk (by simp) (by simp [joinS])))
 | x::y::q,hk2,hk3=>
  have hs0:1<=sep.length:=by cases sep with | nil=>exact absurd rfl hk0 | cons _ _=>simp
  have hl:(x::y::q).length=q.length+2:=rfl
  refine cond_f (by simp; omega) (cond_f (by simp; omega) (cond_t (by simp; omega) (need_mk (by unfold i64ok; omega) ?_)))
  have hd:∀ k:Int,1<=k->k<=1000000->9000000000000<=(9223372036854775807:Int).tdiv k/\(9223372036854775807:Int).tdiv k<=9223372036854775807:=by
   intro k h1 h2
   rw [Int.tdiv_eq_ediv_of_nonneg (by omega)]
   refine ⟨?_,?_⟩
   .rw [Int.le_ediv_iff_mul_le (by omega)]
    have:9000000000000 * k<=9000000000000 * 1000000:=by omega
    omega
   .exact Int.ediv_le_self _ (by omega)
  have hd':=hd (((x::y::q).length:Int) - 1) (by omega) (by omega)
  refine need_mk ⟨by omega,by unfold i64ok; omega⟩ ?_
  rw [Bjoinl_1_eq]
  refine cond_f (by simp only [decide_eq_false_iff_not,ge_iff_le]; omega) ?_
  rw [Bjoinl_2_eq]
  have hm:(sep.length:Int) * (((x::y::q).length:Int) - 1)=((sep.length * (q.length+1):Nat):Int):=by
   rw [hl]; push_cast; congr 1; omega
  have hm1:sep.length * (q.length+1)<=1000 * (q.length+1):=Nat.mul_le_mul_right _ hk1
  have hm2:1 * (q.length+1)<=sep.length * (q.length+1):=Nat.mul_le_mul_right _ hs0
  rw [hm]
  refine need_mk (by unfold i64ok; omega) (need_mk (by unfold i64ok; omega) (need_mk (by unfold i64ok; omega) ?_))
  rw [Bjoinl_3_eq,show (0:Int)+((sep.length * (q.length+1):Nat):Int)=((sep.length * (q.length+1):Nat):Int) by omega]
  exact Bjoinl_sum _ sep x (y::q) hk1 hk2 hk3 (by omega) (x::y::q) _ 0 _ rfl (by omega) (by omega) (by omega) (by omega)
def sp_joinl:List AV->Option (AV×Option Prop)
 | [.p (.list 1 (.dat .str l)),.p (.str sep)]=>some (.p (.str (joinS sep l)),some (joinok l sep))
 | _=>none
theorem ok_joinl:SpecOk Tryz.prog 27 sp_joinl:=by
 intro zs r ok he hok
 unfold sp_joinl at he
 split at he
 .cases he; exact ⟨by kernel_rfl,fn_joinl (_) _ _ _ fun _=>joinl_eq _ _ hok⟩
 .cases he
end Go.Proofs.YtoanepondbagcaaGreatDoor
