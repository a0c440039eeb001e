/-
  Lifted functions, and facts about them.
-/
import Derived.Test.YtoanepondbagcaaGreatDoorRows
import Derived.Test.YtoanepondbagcaaGreatDoorAmC
import Derived.Test.YtoanepondbagcaaGreatDoorC01
import Derived.Test.YtoanepondbagcaaGreatDoorC13
import Derived.Test.YtoanepondbagcaaGreatDoorC14
namespace Go.Proofs.YtoanepondbagcaaGreatDoor
open Go Go.Am
set_option linter.unusedVariables false
def opI:Option Nat->Int
 | none=>-1
 | some o=>(o:Int)
theorem maxI (a b:Nat):(if (b:Int) > (a:Int) then (b:Int) else (a:Int))=((maxN a b:Nat):Int):=by unfold maxN; split <;> split <;> omega
theorem addS_len (s:List UInt8) (op:Option Nat) (i:Nat) (out:List (Nat×Nat)):(addS s op i out).length<=out.length+1:=by unfold addS; split <;> simp
noncomputable def cspans:Code:=bodyOf Tryz.f60
noncomputable def Gspans:Cfg:=⟨Tryz.prog,mkEnv [(87,sp_ixb),(99,sp_ts),(100,sp_trimr),(101,sp_ahead)],mkEnvR [],74,[],[([0,1,0,1,1,1],⟨[0,2,3,9,10,11],[⟨.slot 9,9,(.larr 84 false 2 (.dat (.pair (.int .i64) (.int .i64)) ([]:List (Int×Int))))⟩]⟩),([1,1,0,1,0,0,1,0,1,1,1],⟨[0,2,3,9,10,11,12,13],[⟨.slot 9,9,(.larr 84 false 2 (.dat (.pair (.int .i64) (.int .i64)) ([]:List (Int×Int))))⟩]⟩),([1,0,1,0,1,1,1,1,0,1,0,0,1,0,1,1,1],⟨[0,2,3,9,13,15],[⟨.slot 9,9,(.larr 84 false 2 (.dat (.pair (.int .i64) (.int .i64)) ([]:List (Int×Int))))⟩]⟩),([1,1,1,1,1,0,1,0,0,1,0,1,1,1],⟨[0,2,3,9,10,13],[⟨.slot 9,9,(.larr 84 false 2 (.dat (.pair (.int .i64) (.int .i64)) ([]:List (Int×Int))))⟩]⟩),([1,1,1,1,1],⟨[9],[⟨.slot 9,9,(.larr 84 false 2 (.dat (.pair (.int .i64) (.int .i64)) ([]:List (Int×Int))))⟩]⟩)],[]⟩
noncomputable def Bspans_1 (F f1:Nat) (s:List UInt8) (b:Int) (m:List UInt8) (vi1 vi2:Int) (vl3:List (Int×Int)):Option Ans:=runR Gspans cspans (kP Tryz.prog Tryz.f60.results.toList) F [] [1,1,1,0,1,0] f1 [(0,.p (.str s)),(2,.p (.int .i64 b)),(3,.p (.str m)),(9,.arr 9),(10,.p (.int .i64 vi1)),(11,.p (.int .i64 vi2))] [(9,.larr 84 false 2 (.dat (.pair (.int .i64) (.int .i64)) vl3))]
noncomputable def Bspans_2 (F f1:Nat) (s:List UInt8) (b:Int) (m:List UInt8) (vi1 vi2:Int) (vs4:List UInt8) (vi5:Int) (vl6:List (Int×Int)):Option Ans:=runB Gspans cspans (kP Tryz.prog Tryz.f60.results.toList) F [f1] [1,1,1,0,1,0,0,1,0,1,1] [(0,.p (.str s)),(2,.p (.int .i64 b)),(3,.p (.str m)),(9,.arr 9),(10,.p (.int .i64 vi1)),(11,.p (.int .i64 vi2)),(12,.p (.str vs4)),(13,.p (.int .i64 vi5))] [(9,.larr 84 false 2 (.dat (.pair (.int .i64) (.int .i64)) vl6))]
noncomputable def Bspans_3 (F f1:Nat) (s:List UInt8) (b:Int) (m:List UInt8) (vi5:Int) (vc7:Bool) (vl8:List (Int×Int)):Option Ans:=runB Gspans cspans (kP Tryz.prog Tryz.f60.results.toList) F [f1] [1,1,1,0,1,0,0,1,0,1,1,1,1,0,1,0,1] [(0,.p (.str s)),(2,.p (.int .i64 b)),(3,.p (.str m)),(9,.arr 9),(13,.p (.int .i64 vi5)),(15,.p (.bool vc7))] [(9,.larr 84 false 2 (.dat (.pair (.int .i64) (.int .i64)) vl8))]
noncomputable def Bspans_4 (F f1:Nat) (s:List UInt8) (b:Int) (m:List UInt8) (vi9 vi5:Int) (vl10:List (Int×Int)):Option Ans:=runB Gspans cspans (kP Tryz.prog Tryz.f60.results.toList) F [f1] [1,1,1,0,1,0,0,1,0,1,1,1,1,1] [(0,.p (.str s)),(2,.p (.int .i64 b)),(3,.p (.str m)),(9,.arr 9),(10,.p (.int .i64 vi9)),(13,.p (.int .i64 vi5))] [(9,.larr 84 false 2 (.dat (.pair (.int .i64) (.int .i64)) vl10))]
noncomputable def Bspans_5 (F:Nat) (vl11:List (Int×Int)):Option Ans:=runB Gspans cspans (kP Tryz.prog Tryz.f60.results.toList) F [] [1,1,1,1,1] [(9,.arr 9)] [(9,.larr 84 false 2 (.dat (.pair (.int .i64) (.int .i64)) vl11))]
noncomputable def Fspans (F:Nat) (s:List UInt8) (a b:Int) (m:List UInt8):Option Ans:=runF Gspans Tryz.f60 F [.p (.str s),.p (.int .i64 a),.p (.int .i64 b),.p (.str m)]
theorem Bspans_1_eq (F f1:Nat) (s:List UInt8) (b:Int) (m:List UInt8) (vi1 vi2:Int) (vl3:List (Int×Int)):Bspans_1 F (f1+1) s b m vi1 vi2 vl3=cond (decide (vi2 < b)) (need (0<=vi2/\vi2<=b/\b<=(s.length:Int)) (cond (decide ((ixS ((s.take (b).toNat).drop (vi2).toNat) (10:Int))>=(0:Int))) (need (0<=(ixS ((s.take (b).toNat).drop (vi2).toNat) (10:Int))/\(ixS ((s.take (b).toNat).drop (vi2).toNat) (10:Int))<=(((s.take (b).toNat).drop (vi2).toNat).length:Int)) (need ((((s.take (b).toNat).drop (vi2).toNat).take (ixS ((s.take (b).toNat).drop (vi2).toNat) (10:Int)).toNat).length<=1000000) (need (i64ok (vi2+(ixS ((s.take (b).toNat).drop (vi2).toNat) (10:Int)))) (need (i64ok ((vi2+(ixS ((s.take (b).toNat).drop (vi2).toNat) (10:Int)))+(1:Int))) (Bspans_2 F f1 s b m vi1 vi2 (trimSuf (((s.take (b).toNat).drop (vi2).toNat).take (ixS ((s.take (b).toNat).drop (vi2).toNat) (10:Int)).toNat) ([13]:List UInt8)) ((vi2+(ixS ((s.take (b).toNat).drop (vi2).toNat) (10:Int)))+(1:Int)) vl3))))) (Bspans_2 F f1 s b m vi1 vi2 ((s.take (b).toNat).drop (vi2).toNat) b vl3))) (cond (decide (vi1>=(0:Int))) (need ((vl3.length+[(vi1,b)].length) * 16<=140737488355328) (Bspans_5 F (vl3++[(vi1,b)]))) (Bspans_5 F vl3)):=by kernel_rfl
theorem Bspans_2_eq (F f1:Nat) (s:List UInt8) (b:Int) (m:List UInt8) (vi1 vi2:Int) (vs4:List UInt8) (vi5:Int) (vl6:List (Int×Int)):Bspans_2 F f1 s b m vi1 vi2 vs4 vi5 vl6=need (vs4.length<=1000000) (need (lenok (m.length+([45,45]:List UInt8).length)) ((((cond (((trimRB vs4)==(m++([45,45]:List UInt8)))||((trimRB vs4)==m)) (cond (decide (vi1>=(0:Int))) (need (0<=vi2/\vi2<=s.length/\s.length<=1000000) (need ((vl6.length+[(vi1,if ((aheadN s (vi2).toNat:Nat):Int) > vi1 then ((aheadN s (vi2).toNat:Nat):Int) else vi1)].length) * 16<=140737488355328) (Bspans_3 F f1 s b m vi5 ((trimRB vs4)==(m++([45,45]:List UInt8))) (vl6++[(vi1,if ((aheadN s (vi2).toNat:Nat):Int) > vi1 then ((aheadN s (vi2).toNat:Nat):Int) else vi1)])))) (Bspans_3 F f1 s b m vi5 ((trimRB vs4)==(m++([45,45]:List UInt8))) vl6)) (Bspans_4 F f1 s b m vi1 vi5 vl6)))))):=by
 have h:Bspans_2 F f1 s b m vi1 vi2 vs4 vi5 vl6=need (vs4.length<=1000000) (need (lenok (m.length+([45,45]:List UInt8).length)) (need ((!((trimRB vs4)==(m++([45,45]:List UInt8))))=true->(!((trimRB vs4)==(m++([45,45]:List UInt8))))=true) (need ((!((trimRB vs4)==(m++([45,45]:List UInt8))))=true->(!((trimRB vs4)==(m++([45,45]:List UInt8))))=true) (need (((trimRB vs4)==(m++([45,45]:List UInt8)))=false->(!((trimRB vs4)==(m++([45,45]:List UInt8))))=true) (cond (((trimRB vs4)==(m++([45,45]:List UInt8)))||((trimRB vs4)==m)) (cond (decide (vi1>=(0:Int))) (need (0<=vi2/\vi2<=s.length/\s.length<=1000000) (need ((vl6.length+[(vi1,if ((aheadN s (vi2).toNat:Nat):Int) > vi1 then ((aheadN s (vi2).toNat:Nat):Int) else vi1)].length) * 16<=140737488355328) (Bspans_3 F f1 s b m vi5 ((trimRB vs4)==(m++([45,45]:List UInt8))) (vl6++[(vi1,if ((aheadN s (vi2).toNat:Nat):Int) > vi1 then ((aheadN s (vi2).toNat:Nat):Int) else vi1)])))) (Bspans_3 F f1 s b m vi5 ((trimRB vs4)==(m++([45,45]:List UInt8))) vl6)) (Bspans_4 F f1 s b m vi1 vi5 vl6)))))):=by kernel_rfl
 rw [h,need_pos (show ((trimRB vs4)==(m++([45,45]:List UInt8)))=false->(!((trimRB vs4)==(m++([45,45]:List UInt8))))=true from (fun q0=>(not_mk q0))),need_pos (show (!((trimRB vs4)==(m++([45,45]:List UInt8))))=true->(!((trimRB vs4)==(m++([45,45]:List UInt8))))=true from (fun q0=>q0)),need_pos (show (!((trimRB vs4)==(m++([45,45]:List UInt8))))=true->(!((trimRB vs4)==(m++([45,45]:List UInt8))))=true from (fun q0=>q0))]
theorem Bspans_3_eq (F f1:Nat) (s:List UInt8) (b:Int) (m:List UInt8) (vi5:Int) (vc7:Bool) (vl8:List (Int×Int)):Bspans_3 F f1 s b m vi5 vc7 vl8=cond (vc7) (some (.p (.list 2 (.dat (.pair (.int .i64) (.int .i64)) vl8)),[])) (Bspans_4 F f1 s b m vi5 vi5 vl8):=by kernel_rfl
theorem Bspans_4_eq (F f1:Nat) (s:List UInt8) (b:Int) (m:List UInt8) (vi9 vi5:Int) (vl10:List (Int×Int)):Bspans_4 F f1 s b m vi9 vi5 vl10=Bspans_1 F f1 s b m vi9 vi5 vl10:=by kernel_rfl
theorem Bspans_5_eq (F:Nat) (vl11:List (Int×Int)):Bspans_5 F vl11=some (.p (.list 2 (.dat (.pair (.int .i64) (.int .i64)) vl11)),[]):=by kernel_rfl
theorem Fspans_eq (F:Nat) (s:List UInt8) (a b:Int) (m:List UInt8):Fspans F s a b m=Bspans_1 F F s b m (-1:Int) a ([]:List (Int×Int)):=by kernel_rfl
theorem fn_spans (F:Nat) (s:List UInt8) (a b:Int) (m:List UInt8) (r:AV) (h:(∃ M vs,ARels γ0 M [.p (.str s),.p (.int .i64 a),.p (.int .i64 b),.p (.str m)] vs)->Fspans F s a b m=some (r,[])):FnP Tryz.prog 60 [.p (.str s),.p (.int .i64 a),.p (.int .i64 b),.p (.str m)] r:=
 FnP_run Gspans F rfl (EnvOk_mk (l:=[(87,sp_ixb),(99,sp_ts),(100,sp_trimr),(101,sp_ahead)]) ⟨ok_ixb.any,ok_ts.any,ok_trimr.any,ok_ahead.any,trivial⟩) (EnvROk_mk (l:=[]) trivial) (Checked.mixed Tryz.checked) (fn:=Tryz.f60) (by kernel_rfl) (by kernel_rfl) rfl h
theorem Bspans_spec (F:Nat) {s m:List UInt8} {b:Nat} (hb:b<=s.length) (hs:s.length<=1000000) (hm:m.length<=2000000):∀ (n f i:Nat) (op:Option Nat) (out:List (Nat×Nat)),b - i=n->n < f->i<=b->out.length<=i->
 Bspans_1 F f s (b:Int) m (opI op) (i:Int) (out.map spanI)=some (.p (.list 2 (.dat (.pair (.int .i64) (.int .i64)) ((spF s m b (linesN s i b) op out).map spanI))),[]):=by
 intro n
 induction n using Nat.strongRecOn with
 | _ n ih=>
  intro f i op out hn hf hi ho
  cases f with
  | zero=>omega
  | succ f=>
   rw [Bspans_1_eq]
   by_cases hib:i < b
   .obtain ⟨z1,z2,z3,z4⟩:=nextL_spec hib hb
    have hlen:((s.take b).drop i).length=b - i:=by simp; omega
    have key:Bspans_2 F f s (b:Int) m (opI op) (i:Int) (nextL s i b).1 ((nextL s i b).2:Int) (out.map spanI)=some (.p (.list 2 (.dat (.pair (.int .i64) (.int .i64)) ((spF s m b (linesN s i b) op out).map spanI))),[]):=by
     rw [z1,spF,Bspans_2_eq]
     obtain ⟨t,ht⟩:∃ t,(nextL s i b).1=t:=⟨_,rfl⟩
     obtain ⟨nx,hx⟩:∃ nx,(nextL s i b).2=nx:=⟨_,rfl⟩
     rw [hx] at z2 z3
     rw [ht,hx] at z4 ⊢
     refine need_mk (by omega) (need_mk (by unfold lenok; simp; omega) ?_)
     have b4:∀ op' out',out'.length<=nx->Bspans_4 F f s (b:Int) m (opI op') (nx:Int) (out'.map spanI)=some (.p (.list 2 (.dat (.pair (.int .i64) (.int .i64)) ((spF s m b (linesN s nx b) op' out').map spanI))),[]):=by
      intro op' out' ho'
      rw [Bspans_4_eq]
      exact ih (b - nx) (by omega) f nx op' out' rfl (by omega) z3 ho'
     have mid:∀ last:Bool,last=(trimRB t==m++[45,45])->(trimRB t==m++[45,45])=true\/(trimRB t==m)=true->(cond (decide (opI op>=(0:Int))) (need (0<=(i:Int)/\(i:Int)<=s.length/\s.length<=1000000) (need (((out.map spanI).length+[(opI op,if ((aheadN s ((i:Int)).toNat:Nat):Int) > opI op then ((aheadN s ((i:Int)).toNat:Nat):Int) else opI op)].length) * 16<=140737488355328) (Bspans_3 F f s (b:Int) m (nx:Int) last ((out.map spanI)++[(opI op,if ((aheadN s ((i:Int)).toNat:Nat):Int) > opI op then ((aheadN s ((i:Int)).toNat:Nat):Int) else opI op)])))) (Bspans_3 F f s (b:Int) m (nx:Int) last (out.map spanI)))=
      some (.p (.list 2 (.dat (.pair (.int .i64) (.int .i64)) ((if trimRB t=m++[45,45] then addS s op i out else if trimRB t=m then spF s m b (linesN s nx b) (some nx) (addS s op i out) else spF s m b (linesN s nx b) op out).map spanI))),[]):=by
      intro last hlast hor
      have fin:Bspans_3 F f s (b:Int) m (nx:Int) last ((addS s op i out).map spanI)=some (.p (.list 2 (.dat (.pair (.int .i64) (.int .i64)) ((if trimRB t=m++[45,45] then addS s op i out else if trimRB t=m then spF s m b (linesN s nx b) (some nx) (addS s op i out) else spF s m b (linesN s nx b) op out).map spanI))),[]):=by
       rw [Bspans_3_eq]
       by_cases hl:trimRB t=m++[45,45]
       .rw [if_pos hl]
        exact cond_t (by rw [hlast,beq_iff_eq]; exact hl) rfl
       .rw [if_neg hl]
        have hm2:trimRB t=m:=by
         rcases hor with h | h
         .exact absurd (beq_iff_eq.1 h) hl
         .exact beq_iff_eq.1 h
        rw [if_pos hm2]
        have h2:=addS_len s op i out
        exact cond_f (by rw [hlast,beq_eq_false_iff_ne]; exact hl) (b4 (some nx) (addS s op i out) (by omega))
      cases op with
      | none=>exact cond_f rfl fin
      | some o=>
       refine cond_t (by simp [opI]) (need_mk ⟨by omega,by omega,hs⟩ (need_mk (by simp; omega) ?_))
       unfold addS at fin
       rw [List.map_append] at fin
       rw [Int.toNat_natCast]
       unfold opI
       rw [maxI]
       exact fin
     by_cases h1:trimRB t=m++[45,45]\/trimRB t=m
     .exact cond_t (by simp only [Bool.or_eq_true,beq_iff_eq]; exact h1) (mid _ rfl (by simp only [beq_iff_eq]; exact h1))
     .rw [if_neg (fun h=>h1 (.inl h)),if_neg (fun h=>h1 (.inr h))]
      refine cond_f ?_ (b4 op out (by omega))
      simp only [Bool.or_eq_false_iff,beq_eq_false_iff_ne]
      exact ⟨fun h=>h1 (.inl h),fun h=>h1 (.inr h)⟩
    refine cond_t (by simpa using hib) (need_mk ⟨by omega,by omega,by omega⟩ ?_)
    rw [Int.toNat_natCast,Int.toNat_natCast]
    unfold nextL at key
    have h:=ixS_lt ((s.take b).drop i) 10
    by_cases hc:ixS ((s.take b).drop i) 10>=0
    .rw [if_pos hc] at key
     have e:(i:Int)+ixS ((s.take b).drop i) 10+1=((i+(ixS ((s.take b).drop i) 10).toNat+1:Nat):Int):=by omega
     refine cond_t (by simpa using hc) (need_mk ⟨by omega,by omega⟩ (need_mk (by simp; omega) (need_mk (by unfold i64ok; omega) (need_mk (by unfold i64ok; omega) ?_))))
     rw [e]; exact key
    .rw [if_neg hc] at key
     exact cond_f (by simpa using hc) key
   .rw [linesN_nil (by omega)]
    refine cond_f (by simp; omega) ?_
    cases op with
    | none=>
     refine cond_f rfl ?_
     rw [Bspans_5_eq]; rfl
    | some o=>
     refine cond_t (by simp [opI]) (need_mk (by simp; omega) ?_)
     rw [Bspans_5_eq]
     show _=(some (AV.p (.list 2 (.dat (.pair (.int .i64) (.int .i64)) ((out++[(o,b)]).map spanI))),[]):Option Ans)
     rw [List.map_append]; rfl
theorem spans_eq (s:List UInt8) (a b:Int) (m:List UInt8) (h:spanok s a b m):Fspans (s.length+1) s a b m=some (.p (.list 2 (.dat (.pair (.int .i64) (.int .i64)) (spansI s a b m))),[]):=by
 obtain ⟨h1,h2,h3,h4,h5⟩:=h
 obtain ⟨na,rfl⟩:∃ n:Nat,a=n:=⟨a.toNat,by omega⟩
 obtain ⟨nb,rfl⟩:∃ n:Nat,b=n:=⟨b.toNat,by omega⟩
 rw [Fspans_eq]
 have:=Bspans_spec (s.length+1) (s:=s) (m:=m) (b:=nb) (by omega) h4 h5 (nb - na) (s.length+1) na none [] rfl (by omega) (by omega) (by simp)
 unfold spansI spansN
 rw [Int.toNat_natCast,Int.toNat_natCast]
 exact this
def sp_spans:List AV->Option (AV×Option Prop)
 | [.p (.str s),.p (.int .i64 a),.p (.int .i64 b),.p (.str m)]=>some (.p (.list 2 (.dat (.pair (.int .i64) (.int .i64)) (spansI s a b m))),some (spanok s a b m))
 | _=>none
theorem ok_spans:SpecOk Tryz.prog 60 sp_spans:=by
 intro zs r ok he hok
 unfold sp_spans at he
 split at he
 .cases he; exact ⟨by kernel_rfl,fn_spans (_) _ _ _ _ _ fun hx=>spans_eq _ _ _ _ hok⟩
 .cases he
theorem gath_len:∀ (L:List (Nat×List UInt8×Nat)) (body:Int) (g:List (List UInt8)),(gathS L body g).1.length<=g.length+L.length
 | [],body,g=>by rw [gathS]; simp
 | (i,t,nx)::r,body,g=>by
  rw [gathS]
  split
  .simp
  .split
   .have:=gath_len r body (g.set (g.length - 1) (g.getD (g.length - 1) []++t)); simp at this ⊢; omega
   .have:=gath_len r body (g++[t]); simp at this ⊢; omega
theorem splitS_len (s:List UInt8) (a b:Int):(splitS s a b).1.length<=s.length:=by
 unfold splitS
 split
 .simp
 .rename_i h
  have h1:=(linesN_ok (s:=s) (b:=b.toNat) (by omega) (b.toNat - a.toNat) a.toNat rfl (by omega)).2
  have h2:=gath_len (linesN s a.toNat b.toNat) b []
  have h3:∀ l:List (List UInt8),(fieldsS l).length<=l.length:=fun l=>by unfold fieldsS; exact List.length_filterMap_le _ _
  have h4:=h3 (gathS (linesN s a.toNat b.toNat) b []).1
  simp at h2
  show (fieldsS _).length<=_
  omega
theorem gath_le:∀ (L:List (Nat×List UInt8×Nat)) (x y:Nat) (body:Int) (g:List (List UInt8)),lnOk x y L->(∀ t ∈ g,t.length<=x)->∀ t ∈ (gathS L body g).1,t.length<=y
 | [],x,y,body,g,h,hg=>fun t ht=>Nat.le_trans (hg t ht) h
 | (i,t,nx)::r,x,y,body,g,h,hg=>by
  obtain ⟨l1,l2,l3,l4⟩:=h
  rw [gathS]
  split
  .exact fun u hu=>by have:=hg u hu; omega
  .split
   .rename_i h2
    have hgl:=List.length_pos_iff.2 h2.1
    have h1:=hg _ (getD_mem (show g.length - 1 < g.length by omega) [])
    refine gath_le r nx y body _ l4 fun u hu=>?_
    rcases List.mem_or_eq_of_mem_set hu with hu | hu
    .have:=hg u hu; omega
    .rw [hu,List.length_append]; omega
   .refine gath_le r nx y body _ l4 fun u hu=>?_
    rcases List.mem_append.1 hu with hu | hu
    .have:=hg u hu; omega
    .rw [List.mem_singleton.1 hu]; omega
theorem splitS_elem (s:List UInt8) (a b:Int):∀ x ∈ (splitS s a b).1,x.1.length<=s.length/\x.2.length<=s.length:=by
 unfold splitS
 split
 .intro x hx; cases hx
 .rename_i h
  have h1:=(linesN_ok (s:=s) (b:=b.toNat) (by omega) (b.toNat - a.toNat) a.toNat rfl (by omega)).1
  have h2:=gath_le _ _ _ b [] h1 (by simp)
  intro x hx
  unfold fieldsS at hx
  obtain ⟨t,ht,he⟩:=List.mem_filterMap.1 hx
  split at he
  .cases he
   have hl:=h2 t ht
   have hc:=cutS_len t 58
   have hb:=trimBl_len (cutS t 58).2.1
   unfold oneF
   dsimp only
   omega
  .cases he
theorem firstS_len {l:List (List UInt8×List UInt8)} {n:List UInt8} {k:Nat} (h:∀ x ∈ l,x.2.length<=k):(firstS l n).1.length<=k:=by
 induction l with
 | nil=>simp [firstS]
 | cons x r ih=>
  rw [firstS]
  split
  .exact h x (by simp)
  .exact ih fun y hy=>h y (List.mem_cons_of_mem _ hy)
theorem foldS_len (s:List UInt8):(foldS s).length=s.length:=by simp [foldS]
theorem nameP_len (s:List UInt8):(nameP s).length<=s.length:=by unfold nameP; rw [foldS_len]; exact trimBl_len s
def cType:List UInt8:=[99,111,110,116,101,110,116,45,116,121,112,101]
def plainT:List UInt8×List (List UInt8×List UInt8):=([116,101,120,116,47,112,108,97,105,110],[])
def typeF (l:List (List UInt8×List UInt8)):List UInt8×List (List UInt8×List UInt8):=
 if (firstS l cType).2=true then (if typedP (valuesP (firstS l cType).1).1=true then valuesP (firstS l cType).1 else plainT) else plainT
def encF (l:List (List UInt8×List UInt8)):List UInt8:=if (firstS l LB_7e72d125).2=true then nameP (firstS l LB_7e72d125).1 else [55,98,105,116]
def attF (l:List (List UInt8×List UInt8)):Bool:=if (firstS l LB_476f38ec).2=true then (valuesP (firstS l LB_476f38ec).1).1==[97,116,116,97,99,104,109,101,110,116] else false
def oneP (s:List UInt8) (a b:Int):Part:=.mk (typeF (splitS s a b).1).1 (typeF (splitS s a b).1).2 (encF (splitS s a b).1) (attF (splitS s a b).1) a (splitS s a b).2 b []
noncomputable def cpone:Code:=bodyOf Tryz.f58
noncomputable def Gpone:Cfg:=⟨Tryz.prog,mkEnv [(31,sp_first),(46,sp_split),(95,sp_values),(96,sp_ptyped),(97,sp_pname)],mkEnvR [],72,[],[([1,0,1,1,1],⟨[6,7,9,10,11],[⟨.slot 6,6,.cells []⟩,⟨.slot 9,9,.cells []⟩,⟨.cell 9 1,9000000000001,(.larr 76 false 2 (.dat (.pair .str .str) ([]:List (List UInt8×List UInt8))))⟩]⟩),([1,1,1,1],⟨[6,7,9],[⟨.slot 6,6,.cells []⟩,⟨.slot 9,9,.cells []⟩,⟨.cell 9 1,9000000000001,(.larr 76 false 2 (.dat (.pair .str .str) ([]:List (List UInt8×List UInt8))))⟩]⟩),([1,1,1,1,1],⟨[6,7,9],[⟨.slot 6,6,.cells []⟩,⟨.slot 9,9,.cells []⟩,⟨.cell 9 1,9000000000001,(.larr 76 false 2 (.dat (.pair .str .str) ([]:List (List UInt8×List UInt8))))⟩]⟩),([1,1,1,1,1,1],⟨[6,9],[⟨.slot 6,6,.cells []⟩,⟨.slot 9,9,.cells []⟩,⟨.cell 9 1,9000000000001,(.larr 76 false 2 (.dat (.pair .str .str) ([]:List (List UInt8×List UInt8))))⟩]⟩)],[]⟩
noncomputable def Bpone_1 (F:Nat) (vl1:List (List UInt8×List UInt8)) (vs2:List UInt8) (vc3:Bool) (vl4:List (List UInt8×List UInt8)) (a vi5 b:Int):Option Ans:=runB Gpone cpone (kP Tryz.prog Tryz.f58.results.toList) F [] [1,1,1,0,1] [(6,.ref 6 0),(7,.p (.list 2 (.dat (.pair .str .str) vl1))),(9,.ref 9 0),(10,.p (.str vs2)),(11,.p (.bool vc3))] [(6,.cells [.p (.str ([]:List UInt8)),.p .nil,.p (.str ([]:List UInt8)),.p (.bool false),.p (.int .i64 (0:Int)),.p (.int .i64 (0:Int)),.p (.int .i64 (0:Int)),.p .nil]),(9,.cells [.p (.str ([116,101,120,116,47,112,108,97,105,110]:List UInt8)),.p (.list 2 (.dat (.pair .str .str) vl4)),.p (.str ([55,98,105,116]:List UInt8)),.p (.bool false),.p (.int .i64 a),.p (.int .i64 vi5),.p (.int .i64 b),.p .nil])]
noncomputable def Bpone_2 (F:Nat) (vl1:List (List UInt8×List UInt8)) (vs6 vs7:List UInt8) (vc8:Bool) (vi9 vi10 vi11:Int) (vs12:List UInt8) (vl13:List (List UInt8×List UInt8)) (vs14:List UInt8) (vc15:Bool) (vi16 vi17 vi18:Int):Option Ans:=runB Gpone cpone (kP Tryz.prog Tryz.f58.results.toList) F [] [1,1,1,1] [(6,.ref 6 0),(7,.p (.list 2 (.dat (.pair .str .str) vl1))),(9,.ref 9 0)] [(6,.cells [.p (.str vs6),.p .nil,.p (.str vs7),.p (.bool vc8),.p (.int .i64 vi9),.p (.int .i64 vi10),.p (.int .i64 vi11),.p .nil]),(9,.cells [.p (.str vs12),.p (.list 2 (.dat (.pair .str .str) vl13)),.p (.str vs14),.p (.bool vc15),.p (.int .i64 vi16),.p (.int .i64 vi17),.p (.int .i64 vi18),.p .nil])]
noncomputable def Bpone_3 (F:Nat) (vl1:List (List UInt8×List UInt8)) (vs19 vs20:List UInt8) (vc21:Bool) (vi22 vi23 vi24:Int) (vs25:List UInt8) (vl26:List (List UInt8×List UInt8)) (vs27:List UInt8) (vc28:Bool) (vi29 vi30 vi31:Int):Option Ans:=runB Gpone cpone (kP Tryz.prog Tryz.f58.results.toList) F [] [1,1,1,1,1] [(6,.ref 6 0),(7,.p (.list 2 (.dat (.pair .str .str) vl1))),(9,.ref 9 0)] [(6,.cells [.p (.str vs19),.p .nil,.p (.str vs20),.p (.bool vc21),.p (.int .i64 vi22),.p (.int .i64 vi23),.p (.int .i64 vi24),.p .nil]),(9,.cells [.p (.str vs25),.p (.list 2 (.dat (.pair .str .str) vl26)),.p (.str vs27),.p (.bool vc28),.p (.int .i64 vi29),.p (.int .i64 vi30),.p (.int .i64 vi31),.p .nil])]
noncomputable def Bpone_4 (F:Nat) (vs32 vs33:List UInt8) (vc34:Bool) (vi35 vi36 vi37:Int) (vs38:List UInt8) (vl39:List (List UInt8×List UInt8)) (vs40:List UInt8) (vc41:Bool) (vi42 vi43 vi44:Int):Option Ans:=runB Gpone cpone (kP Tryz.prog Tryz.f58.results.toList) F [] [1,1,1,1,1,1] [(6,.ref 6 0),(9,.ref 9 0)] [(6,.cells [.p (.str vs32),.p .nil,.p (.str vs33),.p (.bool vc34),.p (.int .i64 vi35),.p (.int .i64 vi36),.p (.int .i64 vi37),.p .nil]),(9,.cells [.p (.str vs38),.p (.list 2 (.dat (.pair .str .str) vl39)),.p (.str vs40),.p (.bool vc41),.p (.int .i64 vi42),.p (.int .i64 vi43),.p (.int .i64 vi44),.p .nil])]
noncomputable def Fpone (F:Nat) (s:List UInt8) (a b:Int):Option Ans:=runF Gpone Tryz.f58 F [.p (.str s),.p (.int .i64 a),.p (.int .i64 b)]
theorem Bpone_1_eq (F:Nat) (vl1:List (List UInt8×List UInt8)) (vs2:List UInt8) (vc3:Bool) (vl4:List (List UInt8×List UInt8)) (a vi5 b:Int):Bpone_1 F vl1 vs2 vc3 vl4 a vi5 b=cond (vc3) (need (vs2.length<=1000000) (need (((valuesP vs2).1).length<=1000000) (cond (typedP ((valuesP vs2).1)) (Bpone_2 F vl1 ([]:List UInt8) ([]:List UInt8) false (0:Int) (0:Int) (0:Int) ((valuesP vs2).1) ((valuesP vs2).2) ([55,98,105,116]:List UInt8) false a vi5 b) (Bpone_2 F vl1 ([]:List UInt8) ([]:List UInt8) false (0:Int) (0:Int) (0:Int) ([116,101,120,116,47,112,108,97,105,110]:List UInt8) vl4 ([55,98,105,116]:List UInt8) false a vi5 b)))) (Bpone_2 F vl1 ([]:List UInt8) ([]:List UInt8) false (0:Int) (0:Int) (0:Int) ([116,101,120,116,47,112,108,97,105,110]:List UInt8) vl4 ([55,98,105,116]:List UInt8) false a vi5 b):=by kernel_rfl
theorem Bpone_2_eq (F:Nat) (vl1:List (List UInt8×List UInt8)) (vs6 vs7:List UInt8) (vc8:Bool) (vi9 vi10 vi11:Int) (vs12:List UInt8) (vl13:List (List UInt8×List UInt8)) (vs14:List UInt8) (vc15:Bool) (vi16 vi17 vi18:Int):Bpone_2 F vl1 vs6 vs7 vc8 vi9 vi10 vi11 vs12 vl13 vs14 vc15 vi16 vi17 vi18=need (firstok vl1 LB_7e72d125) (cond ((firstS vl1 LB_7e72d125).2) (need (((firstS vl1 LB_7e72d125).1).length<=1000000) (Bpone_3 F vl1 vs6 vs7 vc8 vi9 vi10 vi11 vs12 vl13 (nameP ((firstS vl1 LB_7e72d125).1)) vc15 vi16 vi17 vi18)) (Bpone_3 F vl1 vs6 vs7 vc8 vi9 vi10 vi11 vs12 vl13 vs14 vc15 vi16 vi17 vi18)):=by kernel_rfl
theorem Bpone_3_eq (F:Nat) (vl1:List (List UInt8×List UInt8)) (vs19 vs20:List UInt8) (vc21:Bool) (vi22 vi23 vi24:Int) (vs25:List UInt8) (vl26:List (List UInt8×List UInt8)) (vs27:List UInt8) (vc28:Bool) (vi29 vi30 vi31:Int):Bpone_3 F vl1 vs19 vs20 vc21 vi22 vi23 vi24 vs25 vl26 vs27 vc28 vi29 vi30 vi31=need (firstok vl1 LB_476f38ec) (cond ((firstS vl1 LB_476f38ec).2) (need (((firstS vl1 LB_476f38ec).1).length<=1000000) (Bpone_4 F vs19 vs20 vc21 vi22 vi23 vi24 vs25 vl26 vs27 (((valuesP ((firstS vl1 LB_476f38ec).1)).1)==([97,116,116,97,99,104,109,101,110,116]:List UInt8)) vi29 vi30 vi31)) (Bpone_4 F vs19 vs20 vc21 vi22 vi23 vi24 vs25 vl26 vs27 vc28 vi29 vi30 vi31)):=by kernel_rfl
theorem Bpone_4_eq (F:Nat) (vs32 vs33:List UInt8) (vc34:Bool) (vi35 vi36 vi37:Int) (vs38:List UInt8) (vl39:List (List UInt8×List UInt8)) (vs40:List UInt8) (vc41:Bool) (vi42 vi43 vi44:Int):Bpone_4 F vs32 vs33 vc34 vi35 vi36 vi37 vs38 vl39 vs40 vc41 vi42 vi43 vi44=some (.agg [.p (.str vs38),.p (.list 2 (.dat (.pair .str .str) vl39)),.p (.str vs40),.p (.bool vc41),.p (.int .i64 vi42),.p (.int .i64 vi43),.p (.int .i64 vi44),.p .nil],[]):=by kernel_rfl
theorem Fpone_eq (F:Nat) (s:List UInt8) (a b:Int):Fpone F s a b=need (s.length<=1000000) (need (firstok ((splitS s a b).1) ([99,111,110,116,101,110,116,45,116,121,112,101]:List UInt8)) (Bpone_1 F ((splitS s a b).1) ((firstS ((splitS s a b).1) ([99,111,110,116,101,110,116,45,116,121,112,101]:List UInt8)).1) ((firstS ((splitS s a b).1) ([99,111,110,116,101,110,116,45,116,121,112,101]:List UInt8)).2) ([]:List (List UInt8×List UInt8)) a ((splitS s a b).2) b)):=by kernel_rfl
theorem fn_pone (F:Nat) (s:List UInt8) (a b:Int) (r:AV) (h:(∃ M vs,ARels γ0 M [.p (.str s),.p (.int .i64 a),.p (.int .i64 b)] vs)->Fpone F s a b=some (r,[])):FnP Tryz.prog 58 [.p (.str s),.p (.int .i64 a),.p (.int .i64 b)] r:=
 FnP_run Gpone F rfl (EnvOk_mk (l:=[(31,sp_first),(46,sp_split),(95,sp_values),(96,sp_ptyped),(97,sp_pname)]) ⟨ok_first.any,ok_split.any,ok_values.any,ok_ptyped.any,ok_pname.any,trivial⟩) (EnvROk_mk (l:=[]) trivial) (Checked.mixed Tryz.checked) (fn:=Tryz.f58) (by kernel_rfl) (by kernel_rfl) rfl h
theorem pone_eq (s:List UInt8) (a b:Int) (hs:s.length<=1000000):Fpone 0 s a b=some (.agg [.p (.str (oneP s a b).type),.p (.list 2 (.dat (.pair .str .str) (oneP s a b).params)),.p (.str (oneP s a b).enc),.p (.bool (oneP s a b).attach),.p (.int .i64 (oneP s a b).head),.p (.int .i64 (oneP s a b).frm),.p (.int .i64 (oneP s a b).til),.p .nil],[]):=by
 have hel:=splitS_elem s a b
 have hll:=splitS_len s a b
 have hk:∀ n:List UInt8,n.length<=100->firstok (splitS s a b).1 n:=fun n hn=>⟨by omega,fun x hx=>by have:=(hel x hx).1; omega,by omega⟩
 have hv:∀ n:List UInt8,(firstS (splitS s a b).1 n).1.length<=1000000:=fun n=>firstS_len fun x hx=>by have:=(hel x hx).2; omega
 rw [Fpone_eq]
 unfold oneP
 obtain ⟨l,hl⟩:∃ l,(splitS s a b).1=l:=⟨_,rfl⟩
 obtain ⟨body,hb⟩:∃ x,(splitS s a b).2=x:=⟨_,rfl⟩
 rw [hl] at hk hv ⊢
 rw [hb]
 refine need_mk hs (need_mk (hk _ (by decide)) ?_)
 have key:∀ (ty:List UInt8×List (List UInt8×List UInt8)),ty=typeF l->Bpone_2 0 l ([]:List UInt8) ([]:List UInt8) false (0:Int) (0:Int) (0:Int) ty.1 ty.2 ([55,98,105,116]:List UInt8) false a body b=some (.agg [.p (.str (typeF l).1),.p (.list 2 (.dat (.pair .str .str) (typeF l).2)),.p (.str (encF l)),.p (.bool (attF l)),.p (.int .i64 a),.p (.int .i64 body),.p (.int .i64 b),.p .nil],[]):=by
  rintro _ rfl
  rw [Bpone_2_eq]
  refine need_mk (hk _ (by decide)) ?_
  have k3:Bpone_3 0 l ([]:List UInt8) ([]:List UInt8) false (0:Int) (0:Int) (0:Int) (typeF l).1 (typeF l).2 (encF l) false a body b=some (.agg [.p (.str (typeF l).1),.p (.list 2 (.dat (.pair .str .str) (typeF l).2)),.p (.str (encF l)),.p (.bool (attF l)),.p (.int .i64 a),.p (.int .i64 body),.p (.int .i64 b),.p .nil],[]):=by
   rw [Bpone_3_eq,Bpone_4_eq,Bpone_4_eq]
   refine need_mk (hk _ (by decide)) ?_
   unfold attF
   cases hc:(firstS l LB_476f38ec).2 with
   | true=>rw [if_pos rfl]; exact cond_t rfl (need_mk (hv _) rfl)
   | false=>rw [if_neg (by simp)]; exact cond_f rfl rfl
  unfold encF at k3 ⊢
  cases hc:(firstS l LB_7e72d125).2 with
  | true=>rw [hc,if_pos rfl] at k3; rw [if_pos rfl]; exact cond_t rfl (need_mk (hv _) k3)
  | false=>rw [hc,if_neg (by simp)] at k3; rw [if_neg (by simp)]; exact cond_f rfl k3
 rw [Bpone_1_eq]
 show cond (firstS l cType).2 _ _=_
 cases hc:(firstS l cType).2 with
 | false=>exact cond_f rfl (key plainT (by unfold typeF; rw [hc,if_neg (by simp)]))
 | true=>
  have hcl:=cutS_len (firstS l cType).1 59
  have hnl:=nameP_len (cutS (firstS l cType).1 59).1
  have hv1:=hv cType
  refine cond_t rfl (need_mk (hv _) (need_mk (by show (nameP (cutS (firstS l cType).1 59).1).length<=_; omega) ?_))
  show cond (typedP (valuesP (firstS l cType).1).1) _ _=_
  cases ht:typedP (valuesP (firstS l cType).1).1 with
  | true=>exact cond_t rfl (key (valuesP (firstS l cType).1) (by unfold typeF; rw [hc,if_pos rfl,ht,if_pos rfl]))
  | false=>exact cond_f rfl (key plainT (by unfold typeF; rw [hc,if_pos rfl,ht,if_neg (by simp)]))
def sp_pone:List AV->Option (AV×Option Prop)
 | [.p (.str s),.p (.int .i64 a),.p (.int .i64 b)]=>some (.agg [.p (.str ((oneP s a b).type)),.p (.list 2 (.dat (.pair .str .str) ((oneP s a b).params))),.p (.str ((oneP s a b).enc)),.p (.bool ((oneP s a b).attach)),.p (.int .i64 ((oneP s a b).head)),.p (.int .i64 ((oneP s a b).frm)),.p (.int .i64 ((oneP s a b).til)),.p .nil],some (s.length<=1000000))
 | _=>none
theorem ok_pone:SpecOk Tryz.prog 58 sp_pone:=by
 intro zs r ok he hok
 unfold sp_pone at he
 split at he
 .cases he; exact ⟨by kernel_rfl,fn_pone 0 _ _ _ _ fun hx=>pone_eq _ _ _ hok⟩
 .cases he
def boundP (ty:List UInt8) (ps:List (List UInt8×List UInt8)):List UInt8:=
 if hasP ty [109,117,108,116,105,112,97,114,116,47]=true then (match ps.find? fun x=>x.1==[98,111,117,110,100,97,114,121] with
  | some x=>x.2
  | none=>[]) else []
noncomputable def cbound:Code:=bodyOf Tryz.f59
noncomputable def Gbound:Cfg:=⟨Tryz.prog,mkEnv [(98,sp_hp)],mkEnvR [],22,[],[([0,1,0,1,1],⟨[10,11,12],[]⟩),([1,1,0,0,1,1,0,0,1,0,1,1],⟨[4,10,11,12,18],[⟨.slot 4,4,.cells []⟩]⟩)],[]⟩
noncomputable def Bbound_1 (F f1:Nat) (ps:List (List UInt8×List UInt8)) (vi1 vi2:Int):Option Ans:=runR Gbound cbound (kP Tryz.prog Tryz.f59.results.toList) F [] [1,1,0,1,0] f1 [(10,.p (.list 2 (.dat (.pair .str .str) ps))),(11,.p (.int .i64 vi1)),(12,.p (.int .i64 vi2))] []
noncomputable def Bbound_2 (F f1:Nat) (ps:List (List UInt8×List UInt8)) (vi1 vi2:Int) (vc3:Bool) (vs4 vs5:List UInt8):Option Ans:=runB Gbound cbound (kP Tryz.prog Tryz.f59.results.toList) F [f1] [1,1,0,1,0,0,1,1,0,0,1,1] [(4,.ref 4 0),(10,.p (.list 2 (.dat (.pair .str .str) ps))),(11,.p (.int .i64 vi1)),(12,.p (.int .i64 vi2)),(18,.p (.bool vc3))] [(4,.cells [.p (.str vs4),.p (.str vs5)])]
noncomputable def Fbound (F:Nat) (ty:List UInt8) (ps:List (List UInt8×List UInt8)) (en:List UInt8) (at_:Bool) (h_ f_ t_:Int):Option Ans:=runF Gbound Tryz.f59 F [.agg [.p (.str ty),.p (.list 2 (.dat (.pair .str .str) ps)),.p (.str en),.p (.bool at_),.p (.int .i64 h_),.p (.int .i64 f_),.p (.int .i64 t_),.p .nil]]
theorem Bbound_1_eq (F f1:Nat) (ps:List (List UInt8×List UInt8)) (vi1 vi2:Int):Bbound_1 F (f1+1) ps vi1 vi2=cond (decide (vi2 < vi1)) (need (0<=vi2/\vi2 < (ps.length:Int)) (Bbound_2 F f1 ps vi1 vi2 (((ps.getD (vi2).toNat ([],[])).1)==([98,111,117,110,100,97,114,121]:List UInt8)) ((ps.getD (vi2).toNat ([],[])).1) ((ps.getD (vi2).toNat ([],[])).2))) (some (.p (.str ([]:List UInt8)),[])):=by kernel_rfl
theorem Bbound_2_eq (F f1:Nat) (ps:List (List UInt8×List UInt8)) (vi1 vi2:Int) (vc3:Bool) (vs4 vs5:List UInt8):Bbound_2 F f1 ps vi1 vi2 vc3 vs4 vs5=cond (vc3) (some (.p (.str vs5),[])) (need (i64ok (vi2+(1:Int))) (Bbound_1 F f1 ps vi1 (vi2+(1:Int)))):=by kernel_rfl
theorem Fbound_eq (F:Nat) (ty:List UInt8) (ps:List (List UInt8×List UInt8)) (en:List UInt8) (at_:Bool) (h_ f_ t_:Int):Fbound F ty ps en at_ h_ f_ t_=cond (!(hasP ty ([109,117,108,116,105,112,97,114,116,47]:List UInt8))) (some (.p (.str ([]:List UInt8)),[])) (Bbound_1 F F ps (ps.length:Int) (0:Int)):=by kernel_rfl
theorem fn_bound (F:Nat) (ty:List UInt8) (ps:List (List UInt8×List UInt8)) (en:List UInt8) (at_:Bool) (h_ f_ t_:Int) (r:AV) (h:(∃ M vs,ARels γ0 M [.agg [.p (.str ty),.p (.list 2 (.dat (.pair .str .str) ps)),.p (.str en),.p (.bool at_),.p (.int .i64 h_),.p (.int .i64 f_),.p (.int .i64 t_),.p .nil]] vs)->Fbound F ty ps en at_ h_ f_ t_=some (r,[])):FnP Tryz.prog 59 [.agg [.p (.str ty),.p (.list 2 (.dat (.pair .str .str) ps)),.p (.str en),.p (.bool at_),.p (.int .i64 h_),.p (.int .i64 f_),.p (.int .i64 t_),.p .nil]] r:=
 FnP_run Gbound F rfl (EnvOk_mk (l:=[(98,sp_hp)]) ⟨ok_hp.any,trivial⟩) (EnvROk_mk (l:=[]) trivial) (Checked.mixed Tryz.checked) (fn:=Tryz.f59) (by kernel_rfl) (by kernel_rfl) rfl h
theorem Bbound_spec (F:Nat) (ps:List (List UInt8×List UInt8)) (hp:ps.length<=1000000000000):∀ (r:List (List UInt8×List UInt8)) (f i:Nat),ps.drop i=r->r.length < f->i<=ps.length->
 Bbound_1 F f ps (ps.length:Int) (i:Int)=some (.p (.str (match r.find? fun x=>x.1==[98,111,117,110,100,97,114,121] with
  | some x=>x.2
  | none=>[])),[]):=by
 intro r
 induction r with
 | nil=>
  intro f i hd hf hi
  have:i=ps.length:=by have:=congrArg List.length hd; simp at this; omega
  cases f with
  | zero=>omega
  | succ f=>rw [Bbound_1_eq]; exact cond_f (by simp; omega) rfl
 | cons c r ih=>
  intro f i hd hf hi
  obtain ⟨h1,h2,h3⟩:=dropG hd ([],[])
  cases f with
  | zero=>omega
  | succ f=>
   rw [Bbound_1_eq,Int.toNat_natCast,h1]
   refine cond_t (by simp; omega) (need_mk ⟨by omega,by omega⟩ ?_)
   rw [Bbound_2_eq,List.find?_cons]
   cases hc:(c.1==[98,111,117,110,100,97,114,121]) with
   | true=>exact cond_t rfl rfl
   | false=>
    refine cond_f rfl (need_mk (by unfold i64ok; omega) ?_)
    rw [show (i:Int)+1=((i+1:Nat):Int) by omega]
    exact ih f (i+1) h2 (by simp at hf; omega) (by omega)
theorem bound_eq (ty:List UInt8) (ps:List (List UInt8×List UInt8)) (en:List UInt8) (at_:Bool) (h f t:Int) (hp:ps.length<=1000000000000):Fbound (ps.length+1) ty ps en at_ h f t=some (.p (.str (boundP ty ps)),[]):=by
 rw [Fbound_eq]
 unfold boundP
 cases hc:hasP ty [109,117,108,116,105,112,97,114,116,47] with
 | false=>rw [if_neg (by simp)]; exact cond_t rfl rfl
 | true=>rw [if_pos rfl]; exact cond_f rfl (Bbound_spec _ ps hp ps (ps.length+1) 0 rfl (by omega) (by omega))
def sp_bound:List AV->Option (AV×Option Prop)
 | [.agg [.p (.str ty),.p (.list 2 (.dat (.pair .str .str) ps)),.p (.str en),.p (.bool at_),.p (.int .i64 h),.p (.int .i64 f),.p (.int .i64 t),.p .nil]]=>some (.p (.str (boundP ty ps)),some (ps.length<=1000000000000))
 | _=>none
theorem ok_bound:SpecOk Tryz.prog 59 sp_bound:=by
 intro zs r ok he hok
 unfold sp_bound at he
 split at he
 .cases he; exact ⟨by kernel_rfl,fn_bound _ _ _ _ _ _ _ _ _ fun hx=>bound_eq _ _ _ _ _ _ _ hok⟩
 .cases he
end Go.Proofs.YtoanepondbagcaaGreatDoor
