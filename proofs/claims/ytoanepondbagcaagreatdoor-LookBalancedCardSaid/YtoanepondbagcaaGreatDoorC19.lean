/-
  Lifted functions, and facts about them.
-/
import Derived.Test.YtoanepondbagcaaGreatDoorRows
import Derived.Test.YtoanepondbagcaaGreatDoorAmC
import Derived.Test.YtoanepondbagcaaGreatDoorC18
import Derived.Test.YtoanepondbagcaaGreatDoorC03
import Derived.Test.YtoanepondbagcaaGreatDoorC07
import Derived.Test.YtoanepondbagcaaGreatDoorC08
namespace Go.Proofs.YtoanepondbagcaaGreatDoor
open Go Go.Am
set_option linter.unusedVariables false
section
open Go.RowKit Go.Lib
set_option maxHeartbeats 1000000 in
theorem bG_zero (b:Nat) (w w1:World)
 (hcc:Calls Tryz.prog 80 #[.pointer (some ⟨b,0,none⟩)] w fun e w'=>e=.returned (.tuple #[])/\w'=w1)
 (hbk1:w1.heap[b]?=some (.cells #[.pointer (some ⟨b,0,none⟩),.slice none 0 0] 61 (0,0))):
 Calls Tryz.prog 52 #[.pointer (some ⟨b,0,none⟩),.int .i64 0] w fun e w'=>e=.returned (.tuple #[])/\w'.heap=w1.heap/\w'.os=w1.os/\w'.tape=w1.tape/\w'.output=w1.output:=by
 have c1:w1.cell? ⟨b,1,none⟩=some (.slice none 0 0):=by rw [Lib.cell_of_heap hbk1]; rfl
 have mixed:=Checked.mixed Tryz.checked
 have c1':w1.drew.cell? ⟨b,1,none⟩=some (.slice none 0 0):=c1
 go_enter Tryz.func52,Tryz.ntmps52
 go_wp2_with (go_at_call 80; refine hcc.mono ?_; rintro e w' ⟨rfl,rfl⟩)
 go_region_o
 all_goals go_wp2
 all_goals first
  | (go_end0; exact ⟨rfl,rfl,rfl,rfl,rfl⟩)
  | (exfalso; simp_all; omega)
theorem FnR_grow0:
 FnR Tryz.prog 52 [.ref 70000 0,.p (.int .i64 0)] [(70000,.bldr 61 (.p .nil))] [70000] (.tup []) [(70000,.bldr 61 (.arr 70001001)),(70001001,.barr 5 false [])]:=by
 intro γ M w vs hO hnone hM hvs
 obtain ⟨b,v0,v1,hg,hh,h0,h1,h2,hm⟩:=bld_parts (id:=70000) hO rfl
 cases h1.p_inv
 cases hvs with
 | cons hx ht=>
  cases ht with
  | cons hy ht=>
  cases ht
  obtain ⟨b',hg',rfl⟩:=hx.ref_inv
  rw [hg] at hg'; cases hg'
  cases hy with | p _ _ hy=>
  cases hy with | int _ _ hi=>
  have hlt:b < w.heap.size:=hO.lo 70000 _ b (by simp [lookO]) hg rfl
  have hb:Go.Am.Handed γ [(70000,.bldr 61 (.p .nil))] b:=⟨70000,.cell b,by simp [lookO],hg,rfl⟩
  have hset:(w.setCell ⟨b,0,none⟩ (.pointer (some ⟨b,0,none⟩)))=w.setRow b #[.pointer (some ⟨b,0,none⟩),.slice none 0 0]:=by
   rw [setCell_eq_setRow w b 0 _ _ _ _ hh]; rfl
  obtain ⟨w1,hcc,hb1,hs1,ho1,hos,htp,hout⟩:∃ w1:World,(Calls Tryz.prog 80 #[.pointer (some ⟨b,0,none⟩)] w fun e w'=>e=.returned (.tuple #[])/\w'=w1)/\
   w1.heap[b]?=some (.cells #[.pointer (some ⟨b,0,none⟩),.slice none 0 0] 61 (0,0))/\w1.heap.size=w.heap.size/\(∀ c,c≠b->w1.heap[c]?=w.heap[c]?)/\w1.os=w.os/\w1.tape=w.tape/\w1.output=w.output:=by
   rcases h0 with rfl | rfl
   .refine ⟨_,cc_fresh b w (by rw [Lib.cell_of_heap hh]; rfl) (by simp [World.shape?,hh]) (Lib.frozen_of_heap hh 0),?_⟩
    rw [hset]
    exact ⟨setRow_heap w b _ _ _ _ hh,by simp,fun c hc=>setRow_other w b c _ hc,rfl,rfl,rfl⟩
   .exact ⟨w,cc_used b w (by rw [Lib.cell_of_heap hh]; rfl),hh,rfl,fun _ _=>rfl,rfl,rfl,rfl⟩
  refine (bG_zero b w w1 hcc hb1).mono fun e w' ⟨he,hheap,q1,q2,q3⟩=>?_
  have hoth:∀ c,c≠b->w'.heap[c]?=w.heap[c]?:=fun c hcb=>by rw [hheap]; exact ho1 c hcb
  have hsz:w'.heap.size=w.heap.size:=by rw [hheap]; exact hs1
  refine ⟨_,upd γ 70001001 (some (.arr none 1 0 0)),M,he,fun i hi g hgi=>?_,MLe.refl M,?_,.tup _ _ rfl (fun i hi=>absurd hi (Nat.not_lt_zero _)),⟨?_,?_,?_⟩,?_,by omega,q1.trans hos,q2.trans htp,q3.trans hout⟩
  .have:i=70000:=by simpa using hi
   subst this
   exact hgi
  .refine ⟨?_,hM.good⟩
   intro c o v hv
   have hc:c≠b:=fun e=>by subst e; rw [hm o] at hv; cases hv
   rw [World.cell?_of_block (w:=w) (hoth c hc)]; exact hM c o v hv
  .intro i o hi
   rcases two_look hi with ⟨rfl,rfl⟩ | ⟨rfl,rfl⟩
   .exact ⟨b,_,_,hg,by rw [hheap]; exact hb1,.inr rfl,.arr 70001001 none 1 0 0 rfl,rfl,hm⟩
   .exact ⟨none,0,rfl,⟨⟨rfl,.inl ⟨rfl,rfl⟩⟩,fun v hv=>(by cases hv),Nat.zero_le _,fun g hgg=>(by cases hgg)⟩⟩
  .intro i j g g' c hi hj hgi hgj hgc hgc'
   rcases two_none hi with rfl | rfl <;> rcases two_none hj with rfl | rfl
   .rfl
   .cases hgj; cases hgc'
   .cases hgi; cases hgc
   .rfl
  .intro i g c hi hgi hgc
   rcases two_none hi with rfl | rfl
   .rw [show upd γ 70001001 (some (.arr none 1 0 0)) 70000=γ 70000 from rfl,hg] at hgi
    cases hgi; cases hgc
    exact ⟨.inr hb,by omega⟩
   .cases hgi; cases hgc
  .intro c hc hno
   exact ⟨hoth c fun e=>hno (by rw [e]; exact hb),rfl⟩
def sp_growA:RSpec:=⟨[false,true],fun args ib=>match args,ib with
 | [.ref 70000 0,.p (.int .i64 n)],[(70000,.bldr 61 (.p .nil))]=>some (([70000],.tup []),([(70000,.bldr 61 (.arr 70001001)),(70001001,.barr 5 false [])],some (0<=n/\n<=281474976710656)))
 | _,_=>none⟩
theorem ok_growA:SpecROk Tryz.prog 52 sp_growA:=by
 intro args ib kept r outs ok he hok
 simp only [sp_growA] at he
 split at he
 .rename_i n
  cases he
  obtain ⟨h1,h2⟩:0<=n/\n<=281474976710656:=hok
  obtain ⟨n,rfl⟩:=Int.eq_ofNat_of_zero_le h1
  cases n with
  | zero=>exact ⟨by kernel_rfl,FnR_grow0⟩
  | succ n=>exact ⟨by kernel_rfl,FnR_grow (n+1) (by omega) (by omega)⟩
 .cases he
end
abbrev joinokA (l:List (List UInt8)) (sep:List UInt8):Prop:=sep.length<=1000/\l.length<=1000000/\totL l<=1000000000
theorem nil_or {l:PV} {q:List (Elt .str)} (h:pList .str l=some q) {M:Mem} {v:Value} (hv:ARel γ0 M (.p l) v):ARel γ0 M (.p (.list 1 (.dat .str q))) v:=by
 cases l with
 | nil=>cases h; exact ARel.nil_list (R:=.dat .str []) rfl hv
 | list k R=>obtain ⟨rfl,rfl⟩:=pList_rowA h; exact hv
 | _=>cases h
noncomputable def cjoina:Code:=bodyOf Tryz.f27
noncomputable def Gjoina:Cfg:=⟨Tryz.prog,mkEnv [],mkEnvR [(48,sp_wstr),(51,sp_bstr),(52,sp_growA)],75,[],[([1,0,0,1,0,1,1,1],⟨[0,1,5,29],[]⟩),([1,0,1,0,1,1,1],⟨[0,1,5],[]⟩),([1,1,1,1],⟨[0,1,5],[]⟩),([0,1,0,1,1,1,1],⟨[0,1,5,39,40,41],[]⟩),([1,1,0,0,1,1,0,0,1,0,1,1,1,1],⟨[0,1,5,7,39,40,41],[]⟩),([0,1,0,1,1,1,1,1,1,1,1],⟨[1,8,63,64,65],[⟨.slot 8,8,.cells []⟩,⟨.cell 8 1,9001,(.barr 5 false [])⟩]⟩)],[([0,1,1,1,1,1,1],[1]),([0,1,1,1,1,1,1,1],[3]),([0,1,0,0,1,1,0,0,1,0,1,1,1,1,1,1,1,1],[1]),([1,1,0,0,1,1,0,0,1,0,1,1,1,1,1,1,1,1],[1]),([0,1,1,1,1,1,1,1,1,1],[0])]⟩
noncomputable def Bjoina_1 (F:Nat) (l:List (List UInt8)) (sep:List UInt8) (vc1:Bool):Option Ans:=runB Gjoina cjoina (kP Tryz.prog Tryz.f27.results.toList) F [] [1,1,1,0,1,0,0,1] [(0,.p (.list 1 (.dat .str l))),(1,.p (.str sep)),(5,.p (.int .i64 (0:Int))),(29,.p (.bool vc1))] []
noncomputable def Bjoina_2 (F:Nat) (l:List (List UInt8)) (sep:List UInt8):Option Ans:=runB Gjoina cjoina (kP Tryz.prog Tryz.f27.results.toList) F [] [1,1,1,0,1,0,1] [(0,.p (.list 1 (.dat .str l))),(1,.p (.str sep)),(5,.p (.int .i64 (0:Int)))] []
noncomputable def Bjoina_3 (F:Nat) (l:List (List UInt8)) (sep:List UInt8) (vi2:Int):Option Ans:=runB Gjoina cjoina (kP Tryz.prog Tryz.f27.results.toList) F [] [1,1,1,1] [(0,.p (.list 1 (.dat .str l))),(1,.p (.str sep)),(5,.p (.int .i64 vi2))] []
noncomputable def Bjoina_4 (F f1:Nat) (l:List (List UInt8)) (sep:List UInt8) (vi3 vi4 vi5:Int):Option Ans:=runR Gjoina cjoina (kP Tryz.prog Tryz.f27.results.toList) F [] [1,1,1,1,0,1,0] f1 [(0,.p (.list 1 (.dat .str l))),(1,.p (.str sep)),(5,.p (.int .i64 vi3)),(39,.p (.list 1 (.dat .str l))),(40,.p (.int .i64 vi4)),(41,.p (.int .i64 vi5))] []
noncomputable def Bjoina_5 (F f1:Nat) (l:List (List UInt8)) (sep:List UInt8) (vi3:Int) (vs6:List UInt8) (vi4 vi5:Int):Option Ans:=runB Gjoina cjoina (kP Tryz.prog Tryz.f27.results.toList) F [f1] [1,1,1,1,0,1,0,0,1,1,0,0,1,1] [(0,.p (.list 1 (.dat .str l))),(1,.p (.str sep)),(5,.p (.int .i64 vi3)),(7,.p (.str vs6)),(39,.p (.list 1 (.dat .str l))),(40,.p (.int .i64 vi4)),(41,.p (.int .i64 vi5))] []
noncomputable def Bjoina_6 (F f2:Nat) (sep:List UInt8) (vl7:List (List UInt8)) (vi8 vi9:Int) (vb10:List UInt8):Option Ans:=runR Gjoina cjoina (kP Tryz.prog Tryz.f27.results.toList) F [] [1,1,1,1,1,1,1,1,0,1,0] f2 [(1,.p (.str sep)),(8,.ref 8 0),(63,.p (.list 1 (.dat .str vl7))),(64,.p (.int .i64 vi8)),(65,.p (.int .i64 vi9))] [(8,.bldr 61 (.arr 9001)),(9001,.barr 5 false vb10)]
noncomputable def Fjoina (F:Nat) (l:List (List UInt8)) (sep:List UInt8):Option Ans:=runF Gjoina Tryz.f27 F [.p (.list 1 (.dat .str l)),.p (.str sep)]
theorem Bjoina_1_eq (F:Nat) (l:List (List UInt8)) (sep:List UInt8) (vc1:Bool):Bjoina_1 F l sep vc1=cond (vc1) (none) (Bjoina_2 F l sep):=by kernel_rfl
theorem Bjoina_2_eq (F:Nat) (l:List (List UInt8)) (sep:List UInt8):Bjoina_2 F l sep=need (i64ok ((l.length:Int) - (1:Int))) (need (i64ok ((sep.length:Int) * ((l.length:Int) - (1:Int)))) (need (i64ok ((0:Int)+((sep.length:Int) * ((l.length:Int) - (1:Int))))) (Bjoina_3 F l sep ((0:Int)+((sep.length:Int) * ((l.length:Int) - (1:Int))))))):=by kernel_rfl
theorem Bjoina_3_eq (F:Nat) (l:List (List UInt8)) (sep:List UInt8) (vi2:Int):Bjoina_3 F l sep vi2=Bjoina_4 F F l sep vi2 (l.length:Int) (0:Int):=by kernel_rfl
theorem Bjoina_4_eq (F f1:Nat) (l:List (List UInt8)) (sep:List UInt8) (vi3 vi4 vi5:Int):Bjoina_4 F (f1+1) l sep vi3 vi4 vi5=cond (decide (vi5 < vi4)) (need (0<=vi5/\vi5 < (l.length:Int)) (need (i64ok ((9223372036854775807:Int) - vi3)) (cond (decide (((l.getD (vi5).toNat []).length:Int) > ((9223372036854775807:Int) - vi3))) (none) (Bjoina_5 F f1 l sep vi3 (l.getD (vi5).toNat []) vi4 vi5)))) (need (0<=vi3/\vi3<=281474976710656) (need (0<=(0:Int)/\(0:Int) < (l.length:Int)) (need (([]:List UInt8).length+(l.getD ((0:Int)).toNat []).length<=140737488355328) (need (0<=(1:Int)/\(1:Int)<=(l.length:Int)) (Bjoina_6 F F sep (l.drop ((1:Int)).toNat) ((l.drop ((1:Int)).toNat).length:Int) (0:Int) (([]:List UInt8)++(l.getD ((0:Int)).toNat []))))))):=by kernel_rfl
theorem Bjoina_5_eq (F f1:Nat) (l:List (List UInt8)) (sep:List UInt8) (vi3:Int) (vs6:List UInt8) (vi4 vi5:Int):Bjoina_5 F f1 l sep vi3 vs6 vi4 vi5=need (i64ok (vi3+(vs6.length:Int))) (need (i64ok (vi5+(1:Int))) (Bjoina_4 F f1 l sep (vi3+(vs6.length:Int)) vi4 (vi5+(1:Int)))):=by kernel_rfl
theorem Bjoina_6_eq (F f2:Nat) (sep:List UInt8) (vl7:List (List UInt8)) (vi8 vi9:Int) (vb10:List UInt8):Bjoina_6 F (f2+1) sep vl7 vi8 vi9 vb10=cond (decide (vi9 < vi8)) (need (0<=vi9/\vi9 < (vl7.length:Int)) (need (vb10.length+sep.length<=140737488355328) (need ((vb10++sep).length+(vl7.getD (vi9).toNat []).length<=140737488355328) (need (i64ok (vi9+(1:Int))) (Bjoina_6 F f2 sep vl7 vi8 (vi9+(1:Int)) ((vb10++sep)++(vl7.getD (vi9).toNat []))))))) (some (.p (.str vb10),[])):=by kernel_rfl
theorem Fjoina_eq (F:Nat) (l:List (List UInt8)) (sep:List UInt8):Fjoina F l sep=cond ((l.length:Int)==(0:Int)) (some (.p (.str ([]:List UInt8)),[])) (cond ((l.length:Int)==(1:Int)) (need (0<=(0:Int)/\(0:Int) < (l.length:Int)) (some (.p (.str (l.getD ((0:Int)).toNat [])),[]))) (cond (decide ((sep.length:Int) > (0:Int))) (need (i64ok ((l.length:Int) - (1:Int))) (need (((l.length:Int) - (1:Int))≠0/\i64ok ((9223372036854775807:Int).tdiv ((l.length:Int) - (1:Int)))) (Bjoina_1 F l sep (decide ((sep.length:Int)>=((9223372036854775807:Int).tdiv ((l.length:Int) - (1:Int)))))))) (Bjoina_3 F l sep (0:Int)))):=by kernel_rfl
theorem fn_joina (F:Nat) (l:List (List UInt8)) (sep:List UInt8) (r:AV) (h:(∃ M vs,ARels γ0 M [.p (.list 1 (.dat .str l)),.p (.str sep)] vs)->Fjoina F l sep=some (r,[])):FnP Tryz.prog 27 [.p (.list 1 (.dat .str l)),.p (.str sep)] r:=
 FnP_run Gjoina F rfl (EnvOk_mk (l:=[]) trivial) (EnvROk_mk (l:=[(48,sp_wstr),(51,sp_bstr),(52,sp_growA)]) ⟨ok_wstr,ok_bstr,ok_growA,trivial⟩) (Checked.mixed Tryz.checked) (fn:=Tryz.f27) (by kernel_rfl) (by kernel_rfl) rfl h
theorem Bjoina_end (F:Nat) (sep:List UInt8) (l:List (List UInt8)) (hs:sep.length<=1000) (hl:l.length<=1000000) (ht:totL l<=1000000000):∀ (r:List (List UInt8)) (f i:Nat) (b:List UInt8),l.drop i=r->r.length < f->i<=l.length->b.length+r.length * 1000+totL r<=100000000000->
 Bjoina_6 F f sep l (l.length:Int) (i:Int) b=some (.p (.str (b++r.flatMap (sep++·))),[]):=by
 intro r
 induction r with
 | nil=>
  intro f i b hd hf hi hb
  have:i=l.length:=by have:=congrArg List.length hd; simp at this; omega
  cases f with
  | zero=>omega
  | succ f=>rw [Bjoina_6_eq]; exact cond_f (by simp; omega) (by simp)
 | cons c r ih=>
  intro f i b hd hf hi hb
  obtain ⟨h1,h2,h3⟩:=dropG hd []
  rw [totL_cons,List.length_cons] at hb
  cases f with
  | zero=>omega
  | succ f=>
   rw [Bjoina_6_eq,Int.toNat_natCast,h1]
   refine cond_t (by simp; omega) (need_mk ⟨by omega,by omega⟩ (need_mk (by omega) (need_mk (by rw [List.length_append]; omega) (need_mk (by unfold i64ok; omega) ?_))))
   rw [show (i:Int)+1=((i+1:Nat):Int) by omega]
   rw [ih f (i+1) _ h2 (by simp at hf; omega) (by omega) (by simp only [List.length_append]; omega)]
   simp
theorem Bjoina_sum (F:Nat) (sep x:List UInt8) (q:List (List UInt8)) (hs:sep.length<=1000) (hl:(x::q).length<=1000000) (ht:totL (x::q)<=1000000000) (hF:(x::q).length < F):∀ (r:List (List UInt8)) (f i n:Nat),(x::q).drop i=r->r.length < f->i<=(x::q).length->0<=n->n+totL r<=100000000000->
 Bjoina_4 F f (x::q) sep (n:Int) ((x::q).length:Int) (i:Int)=some (.p (.str (joinS sep (x::q))),[]):=by
 intro r
 induction r with
 | nil=>
  intro f i n hd hf hi hn hb
  have hi':i=(x::q).length:=by have:=congrArg List.length hd; simp at this; simp at hi ⊢; omega
  have hx:=totL_cons x q
  have hq:(x::q).length=q.length+1:=rfl
  cases f with
  | zero=>omega
  | succ f=>
   rw [Bjoina_4_eq]
   refine cond_f (by simp only [decide_eq_false_iff_not]; omega) (need_mk (by omega) (need_mk (by simp) (need_mk (by simp; omega) (need_mk (by simp; omega) ?_))))
   show Bjoina_6 F F sep q (q.length:Int) ((0:Nat):Int) ([]++x)=_
   rw [Bjoina_end F sep q hs (by omega) (by omega) q F 0 _ rfl (by omega) (by omega) (by simp; omega)]
   rfl
 | cons c r ih=>
  intro f i n hd hf hi hn hb
  obtain ⟨h1,h2,h3⟩:=dropG hd []
  rw [totL_cons] at hb
  cases f with
  | zero=>omega
  | succ f=>
   rw [Bjoina_4_eq,Int.toNat_natCast,h1]
   refine cond_t (by simp only [decide_eq_true_iff]; omega) (need_mk ⟨by omega,by omega⟩ (need_mk (by unfold i64ok; omega) (cond_f (by simp only [decide_eq_false_iff_not]; omega) ?_)))
   rw [Bjoina_5_eq]
   refine need_mk (by unfold i64ok; omega) (need_mk (by unfold i64ok; omega) ?_)
   rw [show (i:Int)+1=((i+1:Nat):Int) by omega,show (n:Int)+(c.length:Int)=((n+c.length:Nat):Int) by omega]
   exact ih f (i+1) _ h2 (by simp at hf; omega) (by omega) (by omega) (by omega)
theorem joina_eq (l:List (List UInt8)) (sep:List UInt8) (hk:joinokA l sep):Fjoina (l.length+1) l sep=some (.p (.str (joinS sep l)),[]):=by
 obtain ⟨hk1,hk2,hk3⟩:=hk
 rw [Fjoina_eq]
 match l,hk2,hk3 with
 | [],_,_=>rfl
 | [x],_,_=>refine cond_f (by simp) (cond_t (by simp) (need_mk (by simp) (by simp [joinS])))
 | x::y::q,hk2,hk3=>
  by_cases hk0:sep=[]
  .subst hk0
   refine cond_f (by simp; omega) (cond_f (by simp; omega) (cond_f (by simp) ?_))
   rw [Bjoina_3_eq]
   exact Bjoina_sum _ [] x (y::q) hk1 hk2 hk3 (by omega) (x::y::q) _ 0 0 rfl (by omega) (by omega) (by omega) (by omega)
  have hs0:1<=sep.length:=by cases sep with | nil=>exact absurd rfl hk0 | cons _ _=>simp
  have hl:(x::y::q).length=q.length+2:=rfl
  refine cond_f (by simp; omega) (cond_f (by simp; omega) (cond_t (by simp; omega) (need_mk (by unfold i64ok; omega) ?_)))
  have hd:∀ k:Int,1<=k->k<=1000000->9000000000000<=(9223372036854775807:Int).tdiv k/\(9223372036854775807:Int).tdiv k<=9223372036854775807:=by
   intro k h1 h2
   rw [Int.tdiv_eq_ediv_of_nonneg (by omega)]
   refine ⟨?_,?_⟩
   .rw [Int.le_ediv_iff_mul_le (by omega)]
    have:9000000000000 * k<=9000000000000 * 1000000:=by omega
    omega
   .exact Int.ediv_le_self _ (by omega)
  have hd':=hd (((x::y::q).length:Int) - 1) (by omega) (by omega)
  refine need_mk ⟨by omega,by unfold i64ok; omega⟩ ?_
  rw [Bjoina_1_eq]
  refine cond_f (by simp only [decide_eq_false_iff_not,ge_iff_le]; omega) ?_
  rw [Bjoina_2_eq]
  have hm:(sep.length:Int) * (((x::y::q).length:Int) - 1)=((sep.length * (q.length+1):Nat):Int):=by
   rw [hl]; push_cast; congr 1; omega
  have hm1:sep.length * (q.length+1)<=1000 * (q.length+1):=Nat.mul_le_mul_right _ hk1
  have hm2:1 * (q.length+1)<=sep.length * (q.length+1):=Nat.mul_le_mul_right _ hs0
  rw [hm]
  refine need_mk (by unfold i64ok; omega) (need_mk (by unfold i64ok; omega) (need_mk (by unfold i64ok; omega) ?_))
  rw [Bjoina_3_eq,show (0:Int)+((sep.length * (q.length+1):Nat):Int)=((sep.length * (q.length+1):Nat):Int) by omega]
  exact Bjoina_sum _ sep x (y::q) hk1 hk2 hk3 (by omega) (x::y::q) _ 0 _ rfl (by omega) (by omega) (by omega) (by omega)
def sp_joina:List AV->Option (AV×Option Prop)
 | [.p l,.p (.str sep)]=>match pList .str l with
  | some l=>some (.p (.str (joinS sep l)),some (joinokA l sep))
  | none=>none
 | _=>none
theorem ok_joina:SpecOk Tryz.prog 27 sp_joina:=by
 intro zs r ok he hok
 unfold sp_joina at he
 split at he
 .split at he
  .rename_i l hl
   cases he
   exact ⟨by kernel_rfl,fun M w vs hM hvs=>fn_joina (l.length+1) l _ _ (fun _=>joina_eq _ _ hok) M w vs hM (by
    cases hvs with | cons h1 h2=>exact .cons (nil_or hl h1) h2)⟩
  .cases he
 .cases he
end Go.Proofs.YtoanepondbagcaaGreatDoor
namespace Go.Proofs.YtoanepondbagcaaGreatDoor
open Go Go.Am
set_option linter.unusedVariables false
theorem ok_repl:SpecROk Tryz.prog 84 sp_repl:=by
 intro args ib kept r outs ok h hok
 simp only [sp_repl] at h
 split at h
 .split at h
  .rename_i hl
   obtain ⟨rfl,_⟩:=pList_rowA hl
   cases h
   exact ⟨by kernel_rfl,FnR_repl _ hok⟩
  .cases h
 .cases h
noncomputable def Gnewrep:Cfg:=⟨Tryz.prog,mkEnv [],mkEnvR [],12,[],[],[]⟩
noncomputable def Fnewrep (F:Nat) :Option Ans:=runFR Gnewrep Tryz.f83 ⟨[2],[⟨.slot 2,2,.cells []⟩,⟨.cell 2 4,3004,(.larr 9 false 1 (.dat .str ([]:List (List UInt8))))⟩]⟩ [2,3004] F [.p (.list 1 (.dat .str [([32]:List UInt8),([]:List UInt8),([9]:List UInt8),([]:List UInt8)]))] []
theorem Fnewrep_eq (F:Nat) :Fnewrep F =(need ([([32]:List UInt8),([]:List UInt8),([9]:List UInt8),([]:List UInt8)].length * 16<=140737488355328) (some (.ref 2 0,[(2,.cells [.p (.int .u32 (0:Int)),.p (.int .i32 (0:Int)),.p (.int .u32 (0:Int)),.p (.plain .nilIface),.arr 3004]),(3004,.larr 9 false 1 (.dat .str [([32]:List UInt8),([]:List UInt8),([9]:List UInt8),([]:List UInt8)]))]))):=by
 have h:Fnewrep F =need ((2:Int)≠0) (need ([([32]:List UInt8),([]:List UInt8),([9]:List UInt8),([]:List UInt8)].length * 16<=140737488355328) (some (.ref 2 0,[(2,.cells [.p (.int .u32 (0:Int)),.p (.int .i32 (0:Int)),.p (.int .u32 (0:Int)),.p (.plain .nilIface),.arr 3004]),(3004,.larr 9 false 1 (.dat .str [([32]:List UInt8),([]:List UInt8),([9]:List UInt8),([]:List UInt8)]))]))):=by kernel_rfl
 rw [h,need_pos (show (2:Int)≠0 from (by decide))]
theorem fn_newrep (F:Nat)  (r:AV) (os:List (Nat×AObj)) (h:(∃ γ M w vs,ARels γ M [.p (.list 1 (.dat .str [([32]:List UInt8),([]:List UInt8),([9]:List UInt8),([]:List UInt8)]))] vs/\Objs γ M w (fun i=>lookO i []) (fun b=>b < w.heap.size))->Fnewrep F =some (r,os)):FnR Tryz.prog 83 [.p (.list 1 (.dat .str [([32]:List UInt8),([]:List UInt8),([9]:List UInt8),([]:List UInt8)]))] [] [] r os:=
 FnR_run Gnewrep ⟨[2],[⟨.slot 2,2,.cells []⟩,⟨.cell 2 4,3004,(.larr 9 false 1 (.dat .str ([]:List (List UInt8))))⟩]⟩ [2,3004] F rfl (EnvOk_mk (l:=[]) trivial) (EnvROk_mk (l:=[]) trivial) (Checked.mixed Tryz.checked) (fn:=Tryz.f83) (by kernel_rfl) (by kernel_rfl) rfl h
def sp_newrep:RSpec:=⟨[true],fun args ib=>match args,ib with
 | [.p (.list 1 R)],[]=>match pList .str (.list 1 R) with
  | some [[32],[],[9],[]]=>some (([],.ref 2 0),([(2,.cells [.p (.int .u32 0),.p (.int .i32 0),.p (.int .u32 0),.p (.plain .nilIface),.arr 3004]),(3004,.larr 9 false 1 (.dat .str oldnew))],none))
  | _=>none
 | _,_=>none⟩
theorem ok_newrep:SpecROk Tryz.prog 83 sp_newrep:=by
 intro args ib kept r outs ok h hok
 simp only [sp_newrep] at h
 split at h
 .split at h
  .rename_i hl
   obtain ⟨rfl,_⟩:=pList_rowA hl
   cases h
   exact ⟨by kernel_rfl,fn_newrep 0 _ _ fun _=>by rw [Fnewrep_eq]; exact need_mk (by simp) rfl⟩
  .cases h
 .cases h
def lastI (s:List UInt8) (c:Int):Nat->Int
 | 0=>-1
 | n+1=>if (((s.getD n 0).toNat:Nat):Int)=c then (n:Int) else lastI s c n
theorem lastI_lt (s:List UInt8) (c:Int):∀ n,-1<=lastI s c n/\lastI s c n < n
 | 0=>by simp [lastI]
 | n+1=>by
  have:=lastI_lt s c n
  rw [lastI]; split <;> omega
noncomputable def clibs:Code:=bodyOf Tryz.f163
noncomputable def Glibs:Cfg:=⟨Tryz.prog,mkEnv [],mkEnvR [],19,[],[([0,1,0,1],⟨[0,1,5],[]⟩)],[]⟩
noncomputable def Blibs_1 (F f1:Nat) (s:List UInt8) (c vi1:Int):Option Ans:=runR Glibs clibs (kP Tryz.prog Tryz.f163.results.toList) F [] [1,0,1,0] f1 [(0,.p (.str s)),(1,.p (.int .u8 c)),(5,.p (.int .i64 vi1))] []
noncomputable def Flibs (F:Nat) (s:List UInt8) (c:Int):Option Ans:=runF Glibs Tryz.f163 F [.p (.str s),.p (.int .u8 c)]
theorem Blibs_1_eq (F f1:Nat) (s:List UInt8) (c vi1:Int):Blibs_1 F (f1+1) s c vi1=cond (decide (vi1>=(0:Int))) (need (0<=vi1/\vi1 < (s.length:Int)) (cond (((s.getD (vi1).toNat 0).toNat:Int)==c) (some (.p (.int .i64 vi1),[])) (need (i64ok (vi1 - (1:Int))) (Blibs_1 F f1 s c (vi1 - (1:Int)))))) (some (.p (.int .i64 (-1:Int)),[])):=by kernel_rfl
theorem Flibs_eq (F:Nat) (s:List UInt8) (c:Int):Flibs F s c=need (i64ok ((s.length:Int) - (1:Int))) (Blibs_1 F F s c ((s.length:Int) - (1:Int))):=by kernel_rfl
theorem fn_libs (F:Nat) (s:List UInt8) (c:Int) (r:AV) (h:(∃ M vs,ARels γ0 M [.p (.str s),.p (.int .u8 c)] vs)->Flibs F s c=some (r,[])):FnP Tryz.prog 163 [.p (.str s),.p (.int .u8 c)] r:=
 FnP_run Glibs F rfl (EnvOk_mk (l:=[]) trivial) (EnvROk_mk (l:=[]) trivial) (Checked.mixed Tryz.checked) (fn:=Tryz.f163) (by kernel_rfl) (by kernel_rfl) rfl h
theorem libs_loop (F:Nat) (s:List UInt8) (c:Int) (hS:s.length<=1000000):∀ (n f:Nat),n<=s.length->n < f->Blibs_1 F f s c ((n:Int) - 1)=some (.p (.int .i64 (lastI s c n)),[])
 | 0,f,_,hf=>by
  obtain ⟨f,rfl⟩:∃ k,f=k+1:=⟨f - 1,by omega⟩
  rw [Blibs_1_eq]
  exact cond_f (by simp) rfl
 | n+1,f,hn,hf=>by
  obtain ⟨f,rfl⟩:∃ k,f=k+1:=⟨f - 1,by omega⟩
  have e:((n+1:Nat):Int) - 1=(n:Int):=by omega
  rw [Blibs_1_eq,e]
  refine cond_t (by simp) (need_mk ⟨by omega,by omega⟩ ?_)
  rw [Int.toNat_natCast,lastI]
  by_cases h:(((s.getD n 0).toNat:Nat):Int)=c
  .rw [if_pos h]; exact cond_t (by simpa using h) rfl
  .rw [if_neg h]
   refine cond_f (by simpa using h) (need_mk ⟨by omega,by omega⟩ ?_)
   exact libs_loop F s c hS n f (by omega) (by omega)
theorem libs_eq (s:List UInt8) (c:Int) (hS:s.length<=1000000):Flibs (s.length+1) s c=some (.p (.int .i64 (lastI s c s.length)),[]):=by
 rw [Flibs_eq]
 exact need_mk ⟨by omega,by omega⟩ (libs_loop _ s c hS s.length (s.length+1) (Nat.le_refl _) (by omega))
def sp_libs:List AV->Option (AV×Option Prop)
 | [.p (.str s),.p (.int .u8 c)]=>some (.p (.int .i64 (lastI s c s.length)),some (s.length<=1000000))
 | _=>none
theorem ok_libs:SpecOk Tryz.prog 163 sp_libs:=by
 intro zs r ok he hok
 unfold sp_libs at he
 split at he
 .cases he; exact ⟨by kernel_rfl,fn_libs _ _ _ _ fun _=>libs_eq _ _ hok⟩
 .cases he
noncomputable def Glib:Cfg:=⟨Tryz.prog,mkEnv [(163,sp_libs)],mkEnvR [],8,[],[],[]⟩
noncomputable def Flib (F:Nat) (s:List UInt8) (c:Int):Option Ans:=runF Glib Tryz.f144 F [.p (.str s),.p (.int .u8 c)]
theorem Flib_eq (F:Nat) (s:List UInt8) (c:Int):Flib F s c=need (s.length<=1000000) (some (.p (.int .i64 (lastI s c s.length)),[])):=by kernel_rfl
theorem fn_lib (F:Nat) (s:List UInt8) (c:Int) (r:AV) (h:(∃ M vs,ARels γ0 M [.p (.str s),.p (.int .u8 c)] vs)->Flib F s c=some (r,[])):FnP Tryz.prog 144 [.p (.str s),.p (.int .u8 c)] r:=
 FnP_run Glib F rfl (EnvOk_mk (l:=[(163,sp_libs)]) ⟨ok_libs.any,trivial⟩) (EnvROk_mk (l:=[]) trivial) (Checked.mixed Tryz.checked) (fn:=Tryz.f144) (by kernel_rfl) (by kernel_rfl) rfl h
def sp_lib:List AV->Option (AV×Option Prop)
 | [.p (.str s),.p (.int .u8 c)]=>some (.p (.int .i64 (lastI s c s.length)),some (s.length<=1000000))
 | _=>none
theorem ok_lib:SpecOk Tryz.prog 144 sp_lib:=by
 intro zs r ok he hok
 unfold sp_lib at he
 split at he
 .cases he; exact ⟨by kernel_rfl,fn_lib 0 _ _ _ fun _=>by rw [Flib_eq]; exact need_mk hok rfl⟩
 .cases he
def partS (s:List UInt8):List UInt8×List UInt8:=if lastI s 64 s.length < 0 then (s,[]) else (s.take (lastI s 64 s.length).toNat,s.drop (lastI s 64 s.length+1).toNat)
noncomputable def Gapart:Cfg:=⟨Tryz.prog,mkEnv [(144,sp_lib)],mkEnvR [],17,[],[],[]⟩
noncomputable def Fapart (F:Nat) (s:List UInt8):Option Ans:=runF Gapart Tryz.f123 F [.p (.str s)]
theorem Fapart_eq (F:Nat) (s:List UInt8):Fapart F s=need (s.length<=1000000) (cond (decide ((lastI s (64:Int) s.length) < (0:Int))) (some (.tup [.p (.str s),.p (.str ([]:List UInt8))],[])) (need (0<=(lastI s (64:Int) s.length)/\(lastI s (64:Int) s.length)<=(s.length:Int)) (need (i64ok ((lastI s (64:Int) s.length)+(1:Int))) (need (0<=((lastI s (64:Int) s.length)+(1:Int))/\((lastI s (64:Int) s.length)+(1:Int))<=(s.length:Int)) (some (.tup [.p (.str (s.take (lastI s (64:Int) s.length).toNat)),.p (.str (s.drop ((lastI s (64:Int) s.length)+(1:Int)).toNat))],[])))))):=by kernel_rfl
theorem fn_apart (F:Nat) (s:List UInt8) (r:AV) (h:(∃ M vs,ARels γ0 M [.p (.str s)] vs)->Fapart F s=some (r,[])):FnP Tryz.prog 123 [.p (.str s)] r:=
 FnP_run Gapart F rfl (EnvOk_mk (l:=[(144,sp_lib)]) ⟨ok_lib.any,trivial⟩) (EnvROk_mk (l:=[]) trivial) (Checked.mixed Tryz.checked) (fn:=Tryz.f123) (by kernel_rfl) (by kernel_rfl) rfl h
theorem apart_eq (s:List UInt8) (h:s.length<=1000000):Fapart 0 s=some (.tup [.p (.str (partS s).1),.p (.str (partS s).2)],[]):=by
 have hb:=lastI_lt s 64 s.length
 rw [Fapart_eq,partS]
 refine need_mk h ?_
 by_cases hn:lastI s 64 s.length < 0
 .rw [if_pos hn]; exact cond_t (by simpa using hn) rfl
 .rw [if_neg hn]
  exact cond_f (by simpa using hn) (need_mk ⟨by omega,by omega⟩ (need_mk ⟨by omega,by omega⟩ (need_mk ⟨by omega,by omega⟩ rfl)))
def sp_apart:List AV->Option (AV×Option Prop)
 | [.p (.str s)]=>some (.tup [.p (.str (partS s).1),.p (.str (partS s).2)],some (s.length<=1000000))
 | _=>none
theorem ok_apart:SpecOk Tryz.prog 123 sp_apart:=by
 intro zs r ok he hok
 unfold sp_apart at he
 split at he
 .cases he; exact ⟨by kernel_rfl,fn_apart 0 _ _ fun _=>apart_eq _ hok⟩
 .cases he
def told (ws:List (List UInt8)) (an:List UInt8) (hs:Bool):AddrT:=if hs=true then (wordS (joinS [32] ws),((partS an).1,(partS an).2)) else ([],((partS (joinS [] ws)).1,(partS (joinS [] ws)).2))
def tellS (ws:List (List UInt8)) (an:List UInt8) (hs:Bool) (out:List AddrT):List AddrT:=if (told ws an hs).2.1≠[]\/(told ws an hs).2.2≠[] then out++[told ws an hs] else out
abbrev tellok (ws:List (List UInt8)) (an:List UInt8) (out:List AddrT):Prop:=
 joinokA ws ([32]:List UInt8)/\joinokA ws ([]:List UInt8)/\(joinS [32] ws).length<=100000/\(joinS [] ws).length<=1000000/\an.length<=1000000/\out.length<=1000000
noncomputable def ctell:Code:=bodyOf Tryz.f86
noncomputable def Gtell:Cfg:=⟨Tryz.prog,mkEnv [(27,sp_joina),(33,sp_wdec),(123,sp_apart)],mkEnvR [(85,sp_drop)],55,[70000],[([1,1],⟨[0,2],[⟨.slot 2,2,.cells []⟩,⟨.fix 70000,70000,.cells []⟩,⟨.cell 70000 2,70001002,(.larr 9 false 1 (.dat .str ([]:List (List UInt8))))⟩,⟨.cell 70000 5,70001005,(.larr 70 false 3 (.dat (.pair .str (.pair .str .str)) ([]:List (List UInt8×List UInt8×List UInt8))))⟩]⟩),([1,1,1],⟨[0],[⟨.fix 70000,70000,.cells []⟩,⟨.cell 70000 2,70001002,(.larr 9 false 1 (.dat .str ([]:List (List UInt8))))⟩,⟨.cell 70000 5,70001005,(.larr 70 false 3 (.dat (.pair .str (.pair .str .str)) ([]:List (List UInt8×List UInt8×List UInt8))))⟩]⟩)],[([1,1,1],[1])]⟩
noncomputable def Btell_1 (F:Nat) (vs1 vs2 vs3 vs4:List UInt8) (vi5:Int) (vs6:List UInt8) (vc7:Bool) (vl8:List (List UInt8)) (vl9:List (List UInt8×List UInt8×List UInt8)):Option Ans:=runB Gtell ctell (kR Tryz.prog [70000] ⟨[],[⟨.fix 70000,70000,.cells []⟩,⟨.cell 70000 2,70001002,(.larr 9 false 1 (.dat .str ([]:List (List UInt8))))⟩,⟨.cell 70000 5,70001005,(.larr 70 false 3 (.dat (.pair .str (.pair .str .str)) ([]:List (List UInt8×List UInt8×List UInt8))))⟩]⟩ [70000,70001002,70001005] Tryz.f86.results.toList) F [] [1,1] [(0,.ref 70000 0),(2,.ref 2 0)] [(2,.cells [.p (.str vs1),.p (.str vs2),.p (.str vs3)]),(70000,.cells [.p (.str vs4),.p (.int .i64 vi5),.arr 70001002,.p (.str vs6),.p (.bool vc7),.arr 70001005]),(70001002,.larr 9 false 1 (.dat .str vl8)),(70001005,.larr 70 false 3 (.dat (.pair .str (.pair .str .str)) vl9))]
noncomputable def Btell_2 (F:Nat) (vs10:List UInt8) (vi11:Int) (vs12:List UInt8) (vc13:Bool) (vl14:List (List UInt8)) (vl15:List (List UInt8×List UInt8×List UInt8)):Option Ans:=runB Gtell ctell (kR Tryz.prog [70000] ⟨[],[⟨.fix 70000,70000,.cells []⟩,⟨.cell 70000 2,70001002,(.larr 9 false 1 (.dat .str ([]:List (List UInt8))))⟩,⟨.cell 70000 5,70001005,(.larr 70 false 3 (.dat (.pair .str (.pair .str .str)) ([]:List (List UInt8×List UInt8×List UInt8))))⟩]⟩ [70000,70001002,70001005] Tryz.f86.results.toList) F [] [1,1,1] [(0,.ref 70000 0)] [(70000,.cells [.p (.str vs10),.p (.int .i64 vi11),.arr 70001002,.p (.str vs12),.p (.bool vc13),.arr 70001005]),(70001002,.larr 9 false 1 (.dat .str vl14)),(70001005,.larr 70 false 3 (.dat (.pair .str (.pair .str .str)) vl15))]
noncomputable def Ftell (F:Nat) (s:List UInt8) (at_:Int) (ws:List (List UInt8)) (an:List UInt8) (hs:Bool) (out:List (List UInt8×List UInt8×List UInt8)):Option Ans:=runFR Gtell Tryz.f86 ⟨[],[⟨.fix 70000,70000,.cells []⟩,⟨.cell 70000 2,70001002,(.larr 9 false 1 (.dat .str ([]:List (List UInt8))))⟩,⟨.cell 70000 5,70001005,(.larr 70 false 3 (.dat (.pair .str (.pair .str .str)) ([]:List (List UInt8×List UInt8×List UInt8))))⟩]⟩ [70000,70001002,70001005] F [.ref 70000 0] [(70000,.cells [.p (.str s),.p (.int .i64 at_),.arr 70001,.p (.str an),.p (.bool hs),.arr 70002]),(70001,.larr 9 false 1 (.dat .str ws)),(70002,.larr 70 false 3 (.dat (.pair .str (.pair .str .str)) out))]
theorem Btell_1_eq (F:Nat) (vs1 vs2 vs3 vs4:List UInt8) (vi5:Int) (vs6:List UInt8) (vc7:Bool) (vl8:List (List UInt8)) (vl9:List (List UInt8×List UInt8×List UInt8)):Btell_1 F vs1 vs2 vs3 vs4 vi5 vs6 vc7 vl8 vl9=(((cond ((vs2 != ([]:List UInt8))||(vs3 != ([]:List UInt8))) (need ((vl9.length+[(vs1,(vs2,vs3))].length) * 48<=140737488355328) (Btell_2 F vs4 vi5 vs6 vc7 vl8 (vl9++[(vs1,(vs2,vs3))]))) (Btell_2 F vs4 vi5 vs6 vc7 vl8 vl9)))):=by
 have h:Btell_1 F vs1 vs2 vs3 vs4 vi5 vs6 vc7 vl8 vl9=need ((!(vs2 != ([]:List UInt8)))=true->(!(vs2 != ([]:List UInt8)))=true) (need ((!(vs2 != ([]:List UInt8)))=true->(!(vs2 != ([]:List UInt8)))=true) (need ((vs2 != ([]:List UInt8))=false->(!(vs2 != ([]:List UInt8)))=true) (cond ((vs2 != ([]:List UInt8))||(vs3 != ([]:List UInt8))) (need ((vl9.length+[(vs1,(vs2,vs3))].length) * 48<=140737488355328) (Btell_2 F vs4 vi5 vs6 vc7 vl8 (vl9++[(vs1,(vs2,vs3))]))) (Btell_2 F vs4 vi5 vs6 vc7 vl8 vl9)))):=by kernel_rfl
 rw [h,need_pos (show (vs2 != ([]:List UInt8))=false->(!(vs2 != ([]:List UInt8)))=true from (fun q0=>(not_mk q0))),need_pos (show (!(vs2 != ([]:List UInt8)))=true->(!(vs2 != ([]:List UInt8)))=true from (fun q0=>q0)),need_pos (show (!(vs2 != ([]:List UInt8)))=true->(!(vs2 != ([]:List UInt8)))=true from (fun q0=>q0))]
theorem Btell_2_eq (F:Nat) (vs10:List UInt8) (vi11:Int) (vs12:List UInt8) (vc13:Bool) (vl14:List (List UInt8)) (vl15:List (List UInt8×List UInt8×List UInt8)):Btell_2 F vs10 vi11 vs12 vc13 vl14 vl15=some (.tup [],[(70000,.cells [.p (.str vs10),.p (.int .i64 vi11),.arr 70001002,.p (.str ([]:List UInt8)),.p (.bool false),.arr 70001005]),(70001002,.larr 9 false 1 (.dat .str ([]:List (List UInt8)))),(70001005,.larr 70 false 3 (.dat (.pair .str (.pair .str .str)) vl15))]):=by kernel_rfl
theorem Ftell_eq (F:Nat) (s:List UInt8) (at_:Int) (ws:List (List UInt8)) (an:List UInt8) (hs:Bool) (out:List (List UInt8×List UInt8×List UInt8)):Ftell F s at_ ws an hs out=cond (hs) (need (joinokA ws ([32]:List UInt8)) (need ((joinS ([32]:List UInt8) ws).length<=100000) (need (an.length<=1000000) (Btell_1 F (wordS (joinS ([32]:List UInt8) ws)) ((partS an).1) ((partS an).2) s at_ an hs ws out)))) (need (joinokA ws ([]:List UInt8)) (need ((joinS ([]:List UInt8) ws).length<=1000000) (Btell_1 F ([]:List UInt8) ((partS (joinS ([]:List UInt8) ws)).1) ((partS (joinS ([]:List UInt8) ws)).2) s at_ an hs ws out))):=by kernel_rfl
theorem fn_tell (F:Nat) (s:List UInt8) (at_:Int) (ws:List (List UInt8)) (an:List UInt8) (hs:Bool) (out:List (List UInt8×List UInt8×List UInt8)) (r:AV) (os:List (Nat×AObj)) (h:(∃ γ M w vs,ARels γ M [.ref 70000 0] vs/\Objs γ M w (fun i=>lookO i [(70000,.cells [.p (.str s),.p (.int .i64 at_),.arr 70001,.p (.str an),.p (.bool hs),.arr 70002]),(70001,.larr 9 false 1 (.dat .str ws)),(70002,.larr 70 false 3 (.dat (.pair .str (.pair .str .str)) out))]) (fun b=>b < w.heap.size))->Ftell F s at_ ws an hs out=some (r,os)):FnR Tryz.prog 86 [.ref 70000 0] [(70000,.cells [.p (.str s),.p (.int .i64 at_),.arr 70001,.p (.str an),.p (.bool hs),.arr 70002]),(70001,.larr 9 false 1 (.dat .str ws)),(70002,.larr 70 false 3 (.dat (.pair .str (.pair .str .str)) out))] [70000] r os:=
 FnR_run Gtell ⟨[],[⟨.fix 70000,70000,.cells []⟩,⟨.cell 70000 2,70001002,(.larr 9 false 1 (.dat .str ([]:List (List UInt8))))⟩,⟨.cell 70000 5,70001005,(.larr 70 false 3 (.dat (.pair .str (.pair .str .str)) ([]:List (List UInt8×List UInt8×List UInt8))))⟩]⟩ [70000,70001002,70001005] F rfl (EnvOk_mk (l:=[(27,sp_joina),(33,sp_wdec),(123,sp_apart)]) ⟨ok_joina.any,ok_wdec.any,ok_apart.any,trivial⟩) (EnvROk_mk (l:=[(85,sp_drop)]) ⟨ok_drop,trivial⟩) (Checked.mixed Tryz.checked) (fn:=Tryz.f86) (by kernel_rfl) (by kernel_rfl) rfl h
theorem tell_1 (F:Nat) (q:AddrT) (s:List UInt8) (at_:Int) (an:List UInt8) (hs:Bool) (ws:List (List UInt8)) (out:List AddrT) (ho:out.length<=1000000):
 Btell_1 F q.1 q.2.1 q.2.2 s at_ an hs ws out=some (.tup [],rdN 70001002 70001005 s at_ [] [] false (if q.2.1≠[]\/q.2.2≠[] then out++[q] else out)):=by
 rw [Btell_1_eq,Btell_2_eq,Btell_2_eq]
 by_cases h:q.2.1≠[]\/q.2.2≠[]
 .rw [if_pos h]
  refine cond_t ?_ (need_mk (by simp; omega) rfl)
  rw [Bool.or_eq_true,bne_iff_ne,bne_iff_ne]; exact h
 .rw [if_neg h]
  refine cond_f ?_ rfl
  rw [<-Bool.not_eq_true,Bool.or_eq_true,bne_iff_ne,bne_iff_ne]; exact h
theorem tell_eq (s:List UInt8) (at_:Int) (ws:List (List UInt8)) (an:List UInt8) (hs:Bool) (out:List AddrT) (h:tellok ws an out):
 Ftell 0 s at_ ws an hs out=some (.tup [],rdN 70001002 70001005 s at_ [] [] false (tellS ws an hs out)):=by
 obtain ⟨h1,h2,h3,h4,h5,h6⟩:=h
 rw [Ftell_eq]
 cases hs with
 | true=>exact cond_t rfl (need_mk h1 (need_mk h3 (need_mk h5 (tell_1 0 (told ws an true) s at_ an true ws out h6))))
 | false=>exact cond_f rfl (need_mk h2 (need_mk h4 (tell_1 0 (told ws an false) s at_ an false ws out h6)))
def sp_tell:RSpec:=⟨[false],fun args ib=>match args,ib with
 | [.ref 70000 0],[(70000,.cells [.p (.str s),.p (.int .i64 at_),.arr 70001,.p (.str an),.p (.bool hs),.arr 70002]),(70001,.larr 9 false 1 R),(70002,.larr 70 false 3 Q)]=>
  match pList .str (.list 1 R),pList addrC (.list 3 Q) with
  | some ws,some out=>some (([70000],.tup []),(rdN 70001002 70001005 s at_ [] [] false (tellS ws an hs out),some (tellok ws an out)))
  | _,_=>none
 | _,_=>none⟩
theorem ok_tell:SpecROk Tryz.prog 86 sp_tell:=by
 intro args ib kept r outs ok h hok
 simp only [sp_tell] at h
 split at h
 .split at h
  .rename_i ws out hw ho
   obtain ⟨rfl,_⟩:=pList_rowA hw
   obtain ⟨rfl,_⟩:=pList_rowA ho
   cases h
   exact ⟨by kernel_rfl,fn_tell 0 _ _ _ _ _ _ _ _ fun _=>tell_eq _ _ _ _ _ _ hok⟩
  .cases h
 .cases h
end Go.Proofs.YtoanepondbagcaaGreatDoor
