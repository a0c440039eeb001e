/-
  Lifted functions, and facts about them.
-/
import Derived.Test.YtoanepondbagcaaGreatDoorRows
import Derived.Test.YtoanepondbagcaaGreatDoorAmC
import Derived.Test.YtoanepondbagcaaGreatDoorC01
import Derived.Test.YtoanepondbagcaaGreatDoorC05
namespace Go.Proofs.YtoanepondbagcaaGreatDoor
open Go Go.Am
set_option linter.unusedVariables false
theorem drop_mid {s:List UInt8} {i k b:Nat} (h1:i<=k) (h2:k<=b):(s.take b).drop i=(s.take k).drop i++(s.take b).drop k:=by
 have e:s.take b=s.take k++(s.take b).drop k:=by
  have:=(List.take_append_drop k (s.take b)).symm
  rw [List.take_take,Nat.min_eq_left h2] at this; exact this
 by_cases hk:k<=s.length
 .have hl:(s.take k).length=k:=by simp; omega
  obtain ⟨X,hX⟩:∃ X,(s.take b).drop k=X:=⟨_,rfl⟩
  rw [hX] at e ⊢
  rw [e,List.drop_append_of_le_length (by omega)]
 .have e1:s.take k=s:=List.take_of_length_le (by omega)
  have e2:s.take b=s:=List.take_of_length_le (by omega)
  rw [e1,e2,List.drop_eq_nil_iff.2 (by omega:s.length<=k),List.append_nil]
noncomputable def cr7lines:Code:=bodyOf Tryz.f70
noncomputable def Gr7lines:Cfg:=⟨Tryz.prog,mkEnv [],mkEnvR [],60,[],[([0,0,1,1],⟨[0,1,2,7],[⟨.slot 7,7,(.larr 93 false 3 (.dat (.pair (.int .i64) (.pair .str (.int .i64))) ([]:List (Int×List UInt8×Int))))⟩]⟩),([0,0,1,0,1,0,0,0,1,1],⟨[0,1,2,7,8],[⟨.slot 7,7,(.larr 93 false 3 (.dat (.pair (.int .i64) (.pair .str (.int .i64))) ([]:List (Int×List UInt8×Int))))⟩]⟩),([1,1,0,1,0,1,1,1,1,0,1,0,0,0,1,1],⟨[0,1,2,7,9,10,45],[⟨.slot 7,7,(.larr 93 false 3 (.dat (.pair (.int .i64) (.pair .str (.int .i64))) ([]:List (Int×List UInt8×Int))))⟩]⟩),([1,1,1,1,1,0,1,0,0,0,1,1],⟨[0,1,2,7,9,10],[⟨.slot 7,7,(.larr 93 false 3 (.dat (.pair (.int .i64) (.pair .str (.int .i64))) ([]:List (Int×List UInt8×Int))))⟩]⟩)],[]⟩
noncomputable def Br7lines_1 (F f1:Nat) (s:List UInt8) (vi1 b:Int) (vl2:List (Int×List UInt8×Int)):Option Ans:=runR Gr7lines cr7lines (kP Tryz.prog Tryz.f70.results.toList) F [] [1,1,0,0] f1 [(0,.p (.str s)),(1,.p (.int .i64 vi1)),(2,.p (.int .i64 b)),(7,.arr 7)] [(7,.larr 93 false 3 (.dat (.pair (.int .i64) (.pair .str (.int .i64))) vl2))]
noncomputable def Br7lines_2 (F f1 f2:Nat) (s:List UInt8) (vi1 b vi3:Int) (vl2:List (Int×List UInt8×Int)):Option Ans:=runR Gr7lines cr7lines (kP Tryz.prog Tryz.f70.results.toList) F [f1] [1,1,0,0,0,1,0,1,0,0] f2 [(0,.p (.str s)),(1,.p (.int .i64 vi1)),(2,.p (.int .i64 b)),(7,.arr 7),(8,.p (.int .i64 vi3))] [(7,.larr 93 false 3 (.dat (.pair (.int .i64) (.pair .str (.int .i64))) vl2))]
noncomputable def Br7lines_3 (F f1:Nat) (s:List UInt8) (vi1 b:Int) (vs4:List UInt8) (vi5:Int) (vc6:Bool) (vl2:List (Int×List UInt8×Int)):Option Ans:=runB Gr7lines cr7lines (kP Tryz.prog Tryz.f70.results.toList) F [f1] [1,1,0,0,0,1,0,1,1,1,1,0,1,0,1,1] [(0,.p (.str s)),(1,.p (.int .i64 vi1)),(2,.p (.int .i64 b)),(7,.arr 7),(9,.p (.str vs4)),(10,.p (.int .i64 vi5)),(45,.p (.bool vc6))] [(7,.larr 93 false 3 (.dat (.pair (.int .i64) (.pair .str (.int .i64))) vl2))]
noncomputable def Br7lines_4 (F f1:Nat) (s:List UInt8) (vi1 b:Int) (vs7:List UInt8) (vi8:Int) (vl2:List (Int×List UInt8×Int)):Option Ans:=runB Gr7lines cr7lines (kP Tryz.prog Tryz.f70.results.toList) F [f1] [1,1,0,0,0,1,0,1,1,1,1,1] [(0,.p (.str s)),(1,.p (.int .i64 vi1)),(2,.p (.int .i64 b)),(7,.arr 7),(9,.p (.str vs7)),(10,.p (.int .i64 vi8))] [(7,.larr 93 false 3 (.dat (.pair (.int .i64) (.pair .str (.int .i64))) vl2))]
noncomputable def Fr7lines (F:Nat) (s:List UInt8) (a b:Int):Option Ans:=runF Gr7lines Tryz.f70 F [.p (.str s),.p (.int .i64 a),.p (.int .i64 b)]
theorem Br7lines_1_eq (F f1:Nat) (s:List UInt8) (vi1 b:Int) (vl2:List (Int×List UInt8×Int)):Br7lines_1 F (f1+1) s vi1 b vl2=cond (decide (vi1 < b)) (Br7lines_2 F f1 f1 s vi1 b vi1 vl2) (some (.p (.list 3 (.dat (.pair (.int .i64) (.pair .str (.int .i64))) vl2)),[])):=by kernel_rfl
theorem Br7lines_2_eq (F f1 f2:Nat) (s:List UInt8) (vi1 b vi3:Int) (vl2:List (Int×List UInt8×Int)):Br7lines_2 F f1 (f2+1) s vi1 b vi3 vl2=need ((decide (vi3 < b))=true->0<=vi3/\vi3 < (s.length:Int)) (cond ((decide (vi3 < b))&&(((s.getD (vi3).toNat 0).toNat:Int) != (10:Int))) (need (i64ok (vi3+(1:Int))) (Br7lines_2 F f1 f2 s vi1 b (vi3+(1:Int)) vl2)) (need (0<=vi1/\vi1<=vi3/\vi3<=(s.length:Int)) (cond (decide (vi3 < b)) (need (i64ok (vi3+(1:Int))) (need ((((s.take (vi3).toNat).drop (vi1).toNat) != ([]:List UInt8))=true->i64ok ((((s.take (vi3).toNat).drop (vi1).toNat).length:Int) - (1:Int))) (need ((((s.take (vi3).toNat).drop (vi1).toNat) != ([]:List UInt8))=true->0<=((((s.take (vi3).toNat).drop (vi1).toNat).length:Int) - (1:Int))/\((((s.take (vi3).toNat).drop (vi1).toNat).length:Int) - (1:Int)) < (((s.take (vi3).toNat).drop (vi1).toNat).length:Int)) (Br7lines_3 F f1 s vi1 b ((s.take (vi3).toNat).drop (vi1).toNat) (vi3+(1:Int)) ((((s.take (vi3).toNat).drop (vi1).toNat) != ([]:List UInt8))&&(((((s.take (vi3).toNat).drop (vi1).toNat).getD ((((s.take (vi3).toNat).drop (vi1).toNat).length:Int) - (1:Int)).toNat 0).toNat:Int)==(13:Int))) vl2)))) (Br7lines_4 F f1 s vi1 b ((s.take (vi3).toNat).drop (vi1).toNat) vi3 vl2)))):=
 Eq.trans (show Br7lines_2 F f1 (f2+1) s vi1 b vi3 vl2=need ((decide (vi3 < b))=true->(decide (vi3 < b))=true) (need ((decide (vi3 < b))=true->(decide (vi3 < b))=true) (need ((decide (vi3 < b))=true->0<=vi3/\vi3 < (s.length:Int)) (need ((decide (vi3 < b))=true->(decide (vi3 < b))=true) (need ((decide (vi3 < b))=true->(decide (vi3 < b))=true) (cond ((decide (vi3 < b))&&(((s.getD (vi3).toNat 0).toNat:Int) != (10:Int))) (need (i64ok (vi3+(1:Int))) (Br7lines_2 F f1 f2 s vi1 b (vi3+(1:Int)) vl2)) (need (0<=vi1/\vi1<=vi3/\vi3<=(s.length:Int)) (cond (decide (vi3 < b)) (need (i64ok (vi3+(1:Int))) (need ((((s.take (vi3).toNat).drop (vi1).toNat) != ([]:List UInt8))=true->(((s.take (vi3).toNat).drop (vi1).toNat) != ([]:List UInt8))=true) (need ((((s.take (vi3).toNat).drop (vi1).toNat) != ([]:List UInt8))=true->(((s.take (vi3).toNat).drop (vi1).toNat) != ([]:List UInt8))=true) (need ((((s.take (vi3).toNat).drop (vi1).toNat) != ([]:List UInt8))=true->i64ok ((((s.take (vi3).toNat).drop (vi1).toNat).length:Int) - (1:Int))) (need ((((s.take (vi3).toNat).drop (vi1).toNat) != ([]:List UInt8))=true->(((s.take (vi3).toNat).drop (vi1).toNat) != ([]:List UInt8))=true) (need ((((s.take (vi3).toNat).drop (vi1).toNat) != ([]:List UInt8))=true->(((s.take (vi3).toNat).drop (vi1).toNat) != ([]:List UInt8))=true) (need ((((s.take (vi3).toNat).drop (vi1).toNat) != ([]:List UInt8))=true->0<=((((s.take (vi3).toNat).drop (vi1).toNat).length:Int) - (1:Int))/\((((s.take (vi3).toNat).drop (vi1).toNat).length:Int) - (1:Int)) < (((s.take (vi3).toNat).drop (vi1).toNat).length:Int)) (need ((((s.take (vi3).toNat).drop (vi1).toNat) != ([]:List UInt8))=true->(((s.take (vi3).toNat).drop (vi1).toNat) != ([]:List UInt8))=true) (need ((((s.take (vi3).toNat).drop (vi1).toNat) != ([]:List UInt8))=true->(((s.take (vi3).toNat).drop (vi1).toNat) != ([]:List UInt8))=true) (Br7lines_3 F f1 s vi1 b ((s.take (vi3).toNat).drop (vi1).toNat) (vi3+(1:Int)) ((((s.take (vi3).toNat).drop (vi1).toNat) != ([]:List UInt8))&&(((((s.take (vi3).toNat).drop (vi1).toNat).getD ((((s.take (vi3).toNat).drop (vi1).toNat).length:Int) - (1:Int)).toNat 0).toNat:Int)==(13:Int))) vl2)))))))))) (Br7lines_4 F f1 s vi1 b ((s.take (vi3).toNat).drop (vi1).toNat) vi3 vl2)))))))) by kernel_rfl) (need_strike (show (decide (vi3 < b))=true->(decide (vi3 < b))=true from (fun q0=>q0)) (need_strike (show (decide (vi3 < b))=true->(decide (vi3 < b))=true from (fun q0=>q0)) (need_congr (need_strike (show (decide (vi3 < b))=true->(decide (vi3 < b))=true from (fun q0=>q0)) (need_strike (show (decide (vi3 < b))=true->(decide (vi3 < b))=true from (fun q0=>q0)) (cond_congr (rfl) (need_congr (cond_congr (need_congr (need_strike (show (((s.take (vi3).toNat).drop (vi1).toNat) != ([]:List UInt8))=true->(((s.take (vi3).toNat).drop (vi1).toNat) != ([]:List UInt8))=true from (fun q0=>q0)) (need_strike (show (((s.take (vi3).toNat).drop (vi1).toNat) != ([]:List UInt8))=true->(((s.take (vi3).toNat).drop (vi1).toNat) != ([]:List UInt8))=true from (fun q0=>q0)) (need_congr (need_strike (show (((s.take (vi3).toNat).drop (vi1).toNat) != ([]:List UInt8))=true->(((s.take (vi3).toNat).drop (vi1).toNat) != ([]:List UInt8))=true from (fun q0=>q0)) (need_strike (show (((s.take (vi3).toNat).drop (vi1).toNat) != ([]:List UInt8))=true->(((s.take (vi3).toNat).drop (vi1).toNat) != ([]:List UInt8))=true from (fun q0=>q0)) (need_congr (need_strike (show (((s.take (vi3).toNat).drop (vi1).toNat) != ([]:List UInt8))=true->(((s.take (vi3).toNat).drop (vi1).toNat) != ([]:List UInt8))=true from (fun q0=>q0)) (need_strike (show (((s.take (vi3).toNat).drop (vi1).toNat) != ([]:List UInt8))=true->(((s.take (vi3).toNat).drop (vi1).toNat) != ([]:List UInt8))=true from (fun q0=>q0)) (rfl)))))))))) (rfl)))))))))
theorem Br7lines_3_eq (F f1:Nat) (s:List UInt8) (vi1 b:Int) (vs4:List UInt8) (vi5:Int) (vc6:Bool) (vl2:List (Int×List UInt8×Int)):Br7lines_3 F f1 s vi1 b vs4 vi5 vc6 vl2=cond (vc6) (need (i64ok ((vs4.length:Int) - (1:Int))) (need (0<=((vs4.length:Int) - (1:Int))/\((vs4.length:Int) - (1:Int))<=(vs4.length:Int)) (Br7lines_4 F f1 s vi1 b (vs4.take ((vs4.length:Int) - (1:Int)).toNat) vi5 vl2))) (Br7lines_4 F f1 s vi1 b vs4 vi5 vl2):=by kernel_rfl
theorem Br7lines_4_eq (F f1:Nat) (s:List UInt8) (vi1 b:Int) (vs7:List UInt8) (vi8:Int) (vl2:List (Int×List UInt8×Int)):Br7lines_4 F f1 s vi1 b vs7 vi8 vl2=need ((vl2.length+[(vi1,(vs7,vi8))].length) * 32<=140737488355328) (Br7lines_1 F f1 s vi8 b (vl2++[(vi1,(vs7,vi8))])):=by kernel_rfl
theorem Fr7lines_eq (F:Nat) (s:List UInt8) (a b:Int):Fr7lines F s a b=Br7lines_1 F F s a b ([]:List (Int×List UInt8×Int)):=by kernel_rfl
theorem fn_r7lines (F:Nat) (s:List UInt8) (a b:Int) (r:AV) (h:(∃ M vs,ARels γ0 M [.p (.str s),.p (.int .i64 a),.p (.int .i64 b)] vs)->Fr7lines F s a b=some (r,[])):FnP Tryz.prog 70 [.p (.str s),.p (.int .i64 a),.p (.int .i64 b)] r:=
 FnP_run Gr7lines F rfl (EnvOk_mk (l:=[]) trivial) (EnvROk_mk (l:=[]) trivial) (Checked.mixed Tryz.checked) (fn:=Tryz.f70) (by kernel_rfl) (by kernel_rfl) rfl h
theorem lines_inner (F f1:Nat) {s:List UInt8} {i b:Nat} (hib:i < b) (hb:b<=s.length) (hs:s.length<=1000000) (acc:List (Int×List UInt8×Int)) (ha:acc.length<=1000000):∀ (q:List UInt8) (f2 k:Nat),(s.take b).drop k=q->q.length < f2->i<=k->k<=b->(∀ x ∈ (s.take k).drop i,x≠10)->
 ∃ (t:List UInt8) (nx:Nat),linesN s i b=(i,t,nx)::linesN s nx b/\i < nx/\nx<=b/\Br7lines_2 F f1 f2 s (i:Int) (b:Int) (k:Int) acc=Br7lines_1 F f1 s (nx:Int) (b:Int) (acc++[castL (i,t,nx)]):=by
 intro q
 induction q with
 | nil=>
  intro f2 k hq hf h1 h2 hp
  have hk:k=b:=by have:=congrArg List.length hq; simp at this; omega
  subst hk
  have hl:((s.take k).drop i).length=k - i:=by simp; omega
  cases f2 with
  | zero=>omega
  | succ f2=>
   refine ⟨(s.take k).drop i,k,?_,hib,Nat.le_refl _,?_⟩
   .unfold linesN
    rw [lnF_end [] i hp,List.nil_append,if_neg (by intro h; rw [h] at hl; simp at hl; omega),hl,hq,lnF,if_pos rfl,show i+(k - i)=k by omega]
   .rw [Br7lines_2_eq,Int.toNat_natCast,Int.toNat_natCast]
    refine need_mk (fun h=>by simp at h) (cond_f (by simp) (need_mk ⟨by omega,by omega,by omega⟩ (cond_f (by simp) ?_)))
    rw [Br7lines_4_eq]
    exact need_mk (by simp; omega) rfl
 | cons c r ih=>
  intro f2 k hq hf h1 h2 hp
  have hkl:k < (s.take b).length:=by
   refine Nat.lt_of_not_le fun h=>?_
   rw [List.drop_of_length_le h] at hq; cases hq
  have hkb:k < b:=by simp at hkl; omega
  have hks:k < s.length:=by omega
  obtain ⟨g1,g2,_⟩:=drop_cons hq
  have hgd:s.getD k 0=c:=by
   rw [<-g1,List.getD_eq_getElem?_getD,List.getD_eq_getElem?_getD,List.getElem?_take,if_pos hkb]
  have hl:((s.take k).drop i).length=k - i:=by simp; omega
  cases f2 with
  | zero=>omega
  | succ f2=>
   rw [Br7lines_2_eq,Int.toNat_natCast,Int.toNat_natCast,hgd]
   by_cases hc:c=10
   .subst hc
    refine ⟨trimSuf ((s.take k).drop i) [13],k+1,?_,by omega,by omega,?_⟩
    .unfold linesN
     rw [drop_mid h1 h2,hq,lnF_nl [] i hp,List.nil_append,hl,show i+(k - i)+1=k+1 by omega,g2]
    .refine need_mk (fun _=>⟨by omega,by omega⟩) (cond_f (by simp) (need_mk ⟨by omega,by omega,by omega⟩ (cond_t (by simp; omega) (need_mk (by unfold i64ok; omega) (need_mk (fun _=>by unfold i64ok; omega) (need_mk (fun h=>?_) ?_))))))
     .have:(s.take k).drop i≠[]:=by simpa using h
      have:=List.length_pos_iff.2 this
      exact ⟨by omega,by omega⟩
     .have h4:∀ t:List UInt8,Br7lines_4 F f1 s (i:Int) (b:Int) t ((k:Int)+1) acc=Br7lines_1 F f1 s ((k+1:Nat):Int) (b:Int) (acc++[castL (i,t,k+1)]):=by
       intro t
       rw [Br7lines_4_eq]
       refine need_mk (by simp; omega) ?_
       rw [show (k:Int)+1=((k+1:Nat):Int) by omega]; rfl
      rw [Br7lines_3_eq,trimSuf_cr]
      obtain ⟨p,hpe⟩:∃ p,(s.take k).drop i=p:=⟨_,rfl⟩
      rw [hpe] at hl ⊢
      by_cases h0:p=[]
      .subst h0
       rw [if_neg (fun h=>h.1 rfl)]
       exact cond_f rfl (h4 _)
      .have hpl:=List.length_pos_iff.2 h0
       have e1:((p.length:Int) - 1).toNat=p.length - 1:=by omega
       rw [e1]
       by_cases h13:p.getD (p.length - 1) 0=13
       .rw [if_pos ⟨h0,h13⟩]
        refine cond_t (by rw [h13]; simpa using h0) (need_mk (by unfold i64ok; omega) (need_mk ⟨by omega,by omega⟩ ?_))
        exact h4 _
       .rw [if_neg (fun h=>h13 h.2)]
        refine cond_f ?_ (h4 _)
        rw [Bool.and_eq_false_iff]; right
        rw [beq_eq_false_iff_ne]
        intro h; exact h13 (u8_eq.1 (show _=((13:UInt8).toNat:Int) from h))
   .have hnc:((c.toNat:Int) != (10:Int))=true:=by
     rw [bne_iff_ne]; intro h; exact hc (u8_eq.1 (show _=((10:UInt8).toNat:Int) from h))
    obtain ⟨t,nx,z1,z2,z3,z4⟩:=ih f2 (k+1) g2 (by simp at hf; omega) (by omega) (by omega) (by
     intro x hx
     rw [drop_mid (s:=s) (i:=i) (k:=k) (b:=k+1) h1 (by omega)] at hx
     rcases List.mem_append.1 hx with hx | hx
     .exact hp x hx
     .have e1:(s.take (k+1)).drop k++r=[c]++r:=by
       rw [<-g2,<-drop_mid (s:=s) (i:=k) (k:=k+1) (b:=b) (by omega) (by omega),hq,g2]; rfl
      rw [List.append_cancel_right e1] at hx
      rw [List.mem_singleton.1 hx]; exact hc)
    refine ⟨t,nx,z1,z2,z3,?_⟩
    refine need_mk (fun _=>⟨by omega,by omega⟩) (cond_t (by rw [hnc,Bool.and_true]; simp; omega) (need_mk (by unfold i64ok; omega) ?_))
    rw [show (k:Int)+1=((k+1:Nat):Int) by omega]
    exact z4
theorem Br7lines_spec (F:Nat) {s:List UInt8} {b:Nat} (hb:b<=s.length) (hs:s.length<=1000000):∀ (n f i:Nat) (acc:List (Int×List UInt8×Int)),b - i=n->n+1 < f->i<=b->acc.length<=i->
 Br7lines_1 F f s (i:Int) (b:Int) acc=some (.p (.list 3 (.dat (.pair (.int .i64) (.pair .str (.int .i64))) (acc++(linesN s i b).map castL))),[]):=by
 intro n
 induction n using Nat.strongRecOn with
 | _ n ih=>
  intro f i acc hn hf hi ha
  cases f with
  | zero=>omega
  | succ f=>
   rw [Br7lines_1_eq]
   by_cases hib:i < b
   .refine cond_t (by simp; omega) ?_
    have hlen:((s.take b).drop i).length=b - i:=by simp; omega
    obtain ⟨t,nx,z1,z2,z3,z4⟩:=lines_inner F f hib hb hs acc (by omega) _ f i rfl (by omega) (Nat.le_refl _) (by omega) (by
     intro x hx
     rw [List.drop_eq_nil_iff.2 (by simp; omega)] at hx; cases hx)
    rw [z4,ih (b - nx) (by omega) f nx _ rfl (by omega) z3 (by simp; omega),z1]
    simp
   .refine cond_f (by simp; omega) ?_
    rw [linesN_nil (by omega)]; simp
theorem r7lines_eq (s:List UInt8) (a b:Int) (h:linesok s a b):Fr7lines 1000003 s a b=some (.p (.list 3 (.dat (.pair (.int .i64) (.pair .str (.int .i64))) (linesS s a b))),[]):=by
 obtain ⟨na,rfl⟩:∃ n:Nat,a=n:=⟨a.toNat,by omega⟩
 obtain ⟨nb,rfl⟩:∃ n:Nat,b=n:=⟨b.toNat,by omega⟩
 rw [Fr7lines_eq,Br7lines_spec 1000003 (by omega) (by omega) (nb - na) 1000003 na [] rfl (by omega) (by omega) (by simp)]
 unfold linesS
 rw [Int.toNat_natCast,Int.toNat_natCast]; rfl
def sp_r7lines:List AV->Option (AV×Option Prop)
 | [.p (.str s),.p (.int .i64 a),.p (.int .i64 b)]=>some (.p (.list 3 (.dat (.pair (.int .i64) (.pair .str (.int .i64))) (linesS s a b))),some (linesok s a b))
 | _=>none
theorem ok_r7lines:SpecOk Tryz.prog 70 sp_r7lines:=by
 intro zs r ok he hok
 unfold sp_r7lines at he
 split at he
 .cases he; exact ⟨by kernel_rfl,fn_r7lines (_) _ _ _ _ fun hx=>r7lines_eq _ _ _ hok⟩
 .cases he
def lnOk:Nat->Nat->List (Nat×List UInt8×Nat)->Prop
 | a,b,[]=>a<=b
 | a,b,(_,t,nx)::r=>a < nx/\nx<=b/\t.length<=nx - a/\lnOk nx b r
theorem linesN_ok {s:List UInt8} {b:Nat} (hb:b<=s.length):∀ (n i:Nat),b - i=n->i<=b->lnOk i b (linesN s i b)/\(linesN s i b).length<=b - i:=by
 intro n
 induction n using Nat.strongRecOn with
 | _ n ih=>
  intro i hn hi
  by_cases h:i < b
  .obtain ⟨h1,h2,h3,h4⟩:=nextL_spec h hb
   obtain ⟨k1,k2⟩:=ih (b - (nextL s i b).2) (by omega) _ rfl h3
   rw [h1]
   exact ⟨⟨h2,h3,h4,k1⟩,by simp; omega⟩
  .rw [linesN_nil (by omega)]; exact ⟨hi,by simp⟩
noncomputable def cr7split:Code:=bodyOf Tryz.f37
noncomputable def Gr7split:Cfg:=⟨Tryz.prog,mkEnv [(70,sp_r7lines),(71,sp_r7made)],mkEnvR [],120,[],[([0,1,0,1,1,1,1,1],⟨[8,9,10,11],[⟨.slot 8,8,(.larr 9 true 1 (.dat .str ([]:List (List UInt8))))⟩]⟩),([1,1,1,0,0,1,0,0,1,0,1,1,1,1,1],⟨[8,9,10,11,12,65],[⟨.slot 8,8,(.larr 9 true 1 (.dat .str ([]:List (List UInt8))))⟩]⟩),([1,1,0,0,1,0,1,1,1,1,1],⟨[8,9,10,11],[⟨.slot 8,8,(.larr 9 true 1 (.dat .str ([]:List (List UInt8))))⟩]⟩),([1,1,1,1,1,1],⟨[8,9],[⟨.slot 8,8,(.larr 9 true 1 (.dat .str ([]:List (List UInt8))))⟩]⟩),([0,1,0,1,1,1,1,1,1,1],⟨[8,9,13,14],[⟨.slot 8,8,(.larr 9 true 1 (.dat .str ([]:List (List UInt8))))⟩,⟨.slot 13,13,(.larr 76 false 2 (.dat (.pair .str .str) ([]:List (List UInt8×List UInt8))))⟩]⟩),([1,1,0,0,1,0,0,1,0,1,1,1,1,1,1,1],⟨[8,9,13,14,15,113],[⟨.slot 8,8,(.larr 9 true 1 (.dat .str ([]:List (List UInt8))))⟩,⟨.slot 13,13,(.larr 76 false 2 (.dat (.pair .str .str) ([]:List (List UInt8×List UInt8))))⟩,⟨.slot 15,15,.cells []⟩]⟩),([1,1,0,0,1,0,1,1,1,1,1,1,1],⟨[8,9,13,14],[⟨.slot 8,8,(.larr 9 true 1 (.dat .str ([]:List (List UInt8))))⟩,⟨.slot 13,13,(.larr 76 false 2 (.dat (.pair .str .str) ([]:List (List UInt8×List UInt8))))⟩]⟩)],[]⟩
noncomputable def Br7split_1 (F f1:Nat) (vi1:Int) (vl2:List (Int×List UInt8×Int)) (vi3:Int) (vl4:List (List UInt8)):Option Ans:=runR Gr7split cr7split (kP Tryz.prog Tryz.f37.results.toList) F [] [1,1,1,1,1,0,1,0] f1 [(8,.arr 8),(9,.p (.int .i64 vi1)),(10,.p (.list 3 (.dat (.pair (.int .i64) (.pair .str (.int .i64))) vl2))),(11,.p (.int .i64 vi3))] [(8,.larr 9 true 1 (.dat .str vl4))]
noncomputable def Br7split_2 (F:Nat) (vi5:Int) (vl6:List (List UInt8)):Option Ans:=runB Gr7split cr7split (kP Tryz.prog Tryz.f37.results.toList) F [] [1,1,1,1,1,1] [(8,.arr 8),(9,.p (.int .i64 vi5))] [(8,.larr 9 true 1 (.dat .str vl6))]
noncomputable def Br7split_3 (F f2:Nat) (vi5 vi7:Int) (vl8:List (List UInt8)) (vl9:List (List UInt8×List UInt8)):Option Ans:=runR Gr7split cr7split (kP Tryz.prog Tryz.f37.results.toList) F [] [1,1,1,1,1,1,1,0,1,0] f2 [(8,.arr 8),(9,.p (.int .i64 vi5)),(13,.arr 13),(14,.p (.int .i64 vi7))] [(8,.larr 9 true 1 (.dat .str vl8)),(13,.larr 76 false 2 (.dat (.pair .str .str) vl9))]
noncomputable def Br7split_4 (F f2:Nat) (vi5 vi7:Int) (vc10:Bool) (vl8:List (List UInt8)) (vl9:List (List UInt8×List UInt8)) (vs11 vs12:List UInt8):Option Ans:=runB Gr7split cr7split (kP Tryz.prog Tryz.f37.results.toList) F [f2] [1,1,1,1,1,1,1,0,1,0,0,1,0,0,1,1] [(8,.arr 8),(9,.p (.int .i64 vi5)),(13,.arr 13),(14,.p (.int .i64 vi7)),(15,.ref 15 0),(113,.p (.bool vc10))] [(8,.larr 9 true 1 (.dat .str vl8)),(13,.larr 76 false 2 (.dat (.pair .str .str) vl9)),(15,.cells [.p (.str vs11),.p (.str vs12)])]
noncomputable def Br7split_5 (F f2:Nat) (vi5 vi7:Int) (vl13:List (List UInt8)) (vl14:List (List UInt8×List UInt8)):Option Ans:=runB Gr7split cr7split (kP Tryz.prog Tryz.f37.results.toList) F [f2] [1,1,1,1,1,1,1,0,1,0,0,1,1] [(8,.arr 8),(9,.p (.int .i64 vi5)),(13,.arr 13),(14,.p (.int .i64 vi7))] [(8,.larr 9 true 1 (.dat .str vl13)),(13,.larr 76 false 2 (.dat (.pair .str .str) vl14))]
noncomputable def Br7split_6 (F f1:Nat) (vi1:Int) (vl2:List (Int×List UInt8×Int)) (vi3:Int) (vs15:List UInt8) (vc16:Bool) (vl4:List (List UInt8)):Option Ans:=runB Gr7split cr7split (kP Tryz.prog Tryz.f37.results.toList) F [f1] [1,1,1,1,1,0,1,0,0,1,0,0,1,1,1] [(8,.arr 8),(9,.p (.int .i64 vi1)),(10,.p (.list 3 (.dat (.pair (.int .i64) (.pair .str (.int .i64))) vl2))),(11,.p (.int .i64 vi3)),(12,.p (.str vs15)),(65,.p (.bool vc16))] [(8,.larr 9 true 1 (.dat .str vl4))]
noncomputable def Br7split_7 (F f1:Nat) (vi17:Int) (vl2:List (Int×List UInt8×Int)) (vi3:Int) (vl18:List (List UInt8)):Option Ans:=runB Gr7split cr7split (kP Tryz.prog Tryz.f37.results.toList) F [f1] [1,1,1,1,1,0,1,0,0,1,1] [(8,.arr 8),(9,.p (.int .i64 vi17)),(10,.p (.list 3 (.dat (.pair (.int .i64) (.pair .str (.int .i64))) vl2))),(11,.p (.int .i64 vi3))] [(8,.larr 9 true 1 (.dat .str vl18))]
noncomputable def Fr7split (F:Nat) (s:List UInt8) (a b:Int):Option Ans:=runF Gr7split Tryz.f37 F [.p (.str s),.p (.int .i64 a),.p (.int .i64 b)]
theorem Br7split_1_eq (F f1:Nat) (vi1:Int) (vl2:List (Int×List UInt8×Int)) (vi3:Int) (vl4:List (List UInt8)):Br7split_1 F (f1+1) vi1 vl2 vi3 vl4=cond (decide (vi3 < (vl2.length:Int))) (need (0<=vi3/\vi3 < (vl2.length:Int)) (cond ((((vl2.getD (vi3).toNat ((0:Int),([],(0:Int)))).2).1)==([]:List UInt8)) (need (0<=vi3/\vi3 < (vl2.length:Int)) (Br7split_2 F (((vl2.getD (vi3).toNat ((0:Int),([],(0:Int)))).2).2) vl4)) (need ((decide (vi3 > (0:Int)))=true->0<=(0:Int)/\(0:Int) < ((((vl2.getD (vi3).toNat ((0:Int),([],(0:Int)))).2).1).length:Int)) (need (((decide (vi3 > (0:Int)))&&(!((((((vl2.getD (vi3).toNat ((0:Int),([],(0:Int)))).2).1).getD ((0:Int)).toNat 0).toNat:Int)==(32:Int))))=true->0<=(0:Int)/\(0:Int) < ((((vl2.getD (vi3).toNat ((0:Int),([],(0:Int)))).2).1).length:Int)) (Br7split_6 F f1 vi1 vl2 vi3 (((vl2.getD (vi3).toNat ((0:Int),([],(0:Int)))).2).1) ((decide (vi3 > (0:Int)))&&(((((((vl2.getD (vi3).toNat ((0:Int),([],(0:Int)))).2).1).getD ((0:Int)).toNat 0).toNat:Int)==(32:Int))||((((((vl2.getD (vi3).toNat ((0:Int),([],(0:Int)))).2).1).getD ((0:Int)).toNat 0).toNat:Int)==(9:Int)))) vl4))))) (Br7split_2 F vi1 vl4):=
 Eq.trans (show Br7split_1 F (f1+1) vi1 vl2 vi3 vl4=cond (decide (vi3 < (vl2.length:Int))) (need (0<=vi3/\vi3 < (vl2.length:Int)) (cond ((((vl2.getD (vi3).toNat ((0:Int),([],(0:Int)))).2).1)==([]:List UInt8)) (need (0<=vi3/\vi3 < (vl2.length:Int)) (Br7split_2 F (((vl2.getD (vi3).toNat ((0:Int),([],(0:Int)))).2).2) vl4)) (need ((decide (vi3 > (0:Int)))=true->(decide (vi3 > (0:Int)))=true) (need ((decide (vi3 > (0:Int)))=true->0<=(0:Int)/\(0:Int) < ((((vl2.getD (vi3).toNat ((0:Int),([],(0:Int)))).2).1).length:Int)) (need ((decide (vi3 > (0:Int)))=true->(decide (vi3 > (0:Int)))=true) (need ((decide (vi3 > (0:Int)))=true->(decide (vi3 > (0:Int)))=true) (need (((decide (vi3 > (0:Int)))&&(!((((((vl2.getD (vi3).toNat ((0:Int),([],(0:Int)))).2).1).getD ((0:Int)).toNat 0).toNat:Int)==(32:Int))))=true->((decide (vi3 > (0:Int)))&&(!((((((vl2.getD (vi3).toNat ((0:Int),([],(0:Int)))).2).1).getD ((0:Int)).toNat 0).toNat:Int)==(32:Int))))=true) (need (((decide (vi3 > (0:Int)))&&(!((((((vl2.getD (vi3).toNat ((0:Int),([],(0:Int)))).2).1).getD ((0:Int)).toNat 0).toNat:Int)==(32:Int))))=true->0<=(0:Int)/\(0:Int) < ((((vl2.getD (vi3).toNat ((0:Int),([],(0:Int)))).2).1).length:Int)) (need (((decide (vi3 > (0:Int)))&&(!((((((vl2.getD (vi3).toNat ((0:Int),([],(0:Int)))).2).1).getD ((0:Int)).toNat 0).toNat:Int)==(32:Int))))=true->((decide (vi3 > (0:Int)))&&(!((((((vl2.getD (vi3).toNat ((0:Int),([],(0:Int)))).2).1).getD ((0:Int)).toNat 0).toNat:Int)==(32:Int))))=true) (need ((decide (vi3 > (0:Int)))=true->(decide (vi3 > (0:Int)))=true) (need ((decide (vi3 > (0:Int)))=true->((((((vl2.getD (vi3).toNat ((0:Int),([],(0:Int)))).2).1).getD ((0:Int)).toNat 0).toNat:Int)==(32:Int))=false->((decide (vi3 > (0:Int)))&&(!((((((vl2.getD (vi3).toNat ((0:Int),([],(0:Int)))).2).1).getD ((0:Int)).toNat 0).toNat:Int)==(32:Int))))=true) (need ((decide (vi3 > (0:Int)))=true->(decide (vi3 > (0:Int)))=true) (Br7split_6 F f1 vi1 vl2 vi3 (((vl2.getD (vi3).toNat ((0:Int),([],(0:Int)))).2).1) ((decide (vi3 > (0:Int)))&&(((((((vl2.getD (vi3).toNat ((0:Int),([],(0:Int)))).2).1).getD ((0:Int)).toNat 0).toNat:Int)==(32:Int))||((((((vl2.getD (vi3).toNat ((0:Int),([],(0:Int)))).2).1).getD ((0:Int)).toNat 0).toNat:Int)==(9:Int)))) vl4))))))))))))) (Br7split_2 F vi1 vl4) by kernel_rfl) (cond_congr (need_congr (cond_congr (rfl) (need_strike (show (decide (vi3 > (0:Int)))=true->(decide (vi3 > (0:Int)))=true from (fun q0=>q0)) (need_congr (need_strike (show (decide (vi3 > (0:Int)))=true->(decide (vi3 > (0:Int)))=true from (fun q0=>q0)) (need_strike (show (decide (vi3 > (0:Int)))=true->(decide (vi3 > (0:Int)))=true from (fun q0=>q0)) (need_strike (show ((decide (vi3 > (0:Int)))&&(!((((((vl2.getD (vi3).toNat ((0:Int),([],(0:Int)))).2).1).getD ((0:Int)).toNat 0).toNat:Int)==(32:Int))))=true->((decide (vi3 > (0:Int)))&&(!((((((vl2.getD (vi3).toNat ((0:Int),([],(0:Int)))).2).1).getD ((0:Int)).toNat 0).toNat:Int)==(32:Int))))=true from (fun q0=>q0)) (need_congr (need_strike (show ((decide (vi3 > (0:Int)))&&(!((((((vl2.getD (vi3).toNat ((0:Int),([],(0:Int)))).2).1).getD ((0:Int)).toNat 0).toNat:Int)==(32:Int))))=true->((decide (vi3 > (0:Int)))&&(!((((((vl2.getD (vi3).toNat ((0:Int),([],(0:Int)))).2).1).getD ((0:Int)).toNat 0).toNat:Int)==(32:Int))))=true from (fun q0=>q0)) (need_strike (show (decide (vi3 > (0:Int)))=true->(decide (vi3 > (0:Int)))=true from (fun q0=>q0)) (need_strike (show (decide (vi3 > (0:Int)))=true->((((((vl2.getD (vi3).toNat ((0:Int),([],(0:Int)))).2).1).getD ((0:Int)).toNat 0).toNat:Int)==(32:Int))=false->((decide (vi3 > (0:Int)))&&(!((((((vl2.getD (vi3).toNat ((0:Int),([],(0:Int)))).2).1).getD ((0:Int)).toNat 0).toNat:Int)==(32:Int))))=true from (fun q0 q1=>(and_mk q0 (not_mk q1)))) (need_strike (show (decide (vi3 > (0:Int)))=true->(decide (vi3 > (0:Int)))=true from (fun q0=>q0)) (rfl))))))))))))) (rfl))
theorem Br7split_2_eq (F:Nat) (vi5:Int) (vl6:List (List UInt8)):Br7split_2 F vi5 vl6=Br7split_3 F F vi5 (0:Int) vl6 ([]:List (List UInt8×List UInt8)):=by kernel_rfl
theorem Br7split_3_eq (F f2:Nat) (vi5 vi7:Int) (vl8:List (List UInt8)) (vl9:List (List UInt8×List UInt8)):Br7split_3 F (f2+1) vi5 vi7 vl8 vl9=cond (decide (vi7 < (vl8.length:Int))) (need (0<=vi7/\vi7 < (vl8.length:Int)) (need ((vi7).toNat < vl8.length) (need ((vl8.getD ((vi7).toNat) []).length<=1000000) (need (((madeF (vl8.getD ((vi7).toNat) [])).2)=true->0<=vi7/\vi7 < (vl8.length:Int)) (need (((madeF (vl8.getD ((vi7).toNat) [])).2)=true->(vi7).toNat < vl8.length) (need (((madeF (vl8.getD ((vi7).toNat) [])).2)=true->0<=(0:Int)/\(0:Int) < ((vl8.getD ((vi7).toNat) []).length:Int)) (need ((((madeF (vl8.getD ((vi7).toNat) [])).2)&&((((vl8.getD ((vi7).toNat) []).getD ((0:Int)).toNat 0).toNat:Int) != (32:Int)))=true->0<=vi7/\vi7 < (vl8.length:Int)) (need ((((madeF (vl8.getD ((vi7).toNat) [])).2)&&((((vl8.getD ((vi7).toNat) []).getD ((0:Int)).toNat 0).toNat:Int) != (32:Int)))=true->(vi7).toNat < vl8.length) (need ((((madeF (vl8.getD ((vi7).toNat) [])).2)&&((((vl8.getD ((vi7).toNat) []).getD ((0:Int)).toNat 0).toNat:Int) != (32:Int)))=true->0<=(0:Int)/\(0:Int) < ((vl8.getD ((vi7).toNat) []).length:Int)) (Br7split_4 F f2 vi5 vi7 ((((madeF (vl8.getD ((vi7).toNat) [])).2)&&((((vl8.getD ((vi7).toNat) []).getD ((0:Int)).toNat 0).toNat:Int) != (32:Int)))&&((((vl8.getD ((vi7).toNat) []).getD ((0:Int)).toNat 0).toNat:Int) != (9:Int))) vl8 vl9 ((madeF (vl8.getD ((vi7).toNat) [])).1.1) ((madeF (vl8.getD ((vi7).toNat) [])).1.2))))))))))) (some (.tup [.p (.list 2 (.dat (.pair .str .str) vl9)),.p (.int .i64 vi5)],[])):=
 Eq.trans (show Br7split_3 F (f2+1) vi5 vi7 vl8 vl9=cond (decide (vi7 < (vl8.length:Int))) (need (0<=vi7/\vi7 < (vl8.length:Int)) (need ((vi7).toNat < vl8.length) (need ((vl8.getD ((vi7).toNat) []).length<=1000000) (need (((madeF (vl8.getD ((vi7).toNat) [])).2)=true->((madeF (vl8.getD ((vi7).toNat) [])).2)=true) (need (((madeF (vl8.getD ((vi7).toNat) [])).2)=true->((madeF (vl8.getD ((vi7).toNat) [])).2)=true) (need (((madeF (vl8.getD ((vi7).toNat) [])).2)=true->0<=vi7/\vi7 < (vl8.length:Int)) (need (((madeF (vl8.getD ((vi7).toNat) [])).2)=true->((madeF (vl8.getD ((vi7).toNat) [])).2)=true) (need (((madeF (vl8.getD ((vi7).toNat) [])).2)=true->(vi7).toNat < vl8.length) (need (((madeF (vl8.getD ((vi7).toNat) [])).2)=true->((madeF (vl8.getD ((vi7).toNat) [])).2)=true) (need (((madeF (vl8.getD ((vi7).toNat) [])).2)=true->0<=(0:Int)/\(0:Int) < ((vl8.getD ((vi7).toNat) []).length:Int)) (need (((madeF (vl8.getD ((vi7).toNat) [])).2)=true->((madeF (vl8.getD ((vi7).toNat) [])).2)=true) (need (((madeF (vl8.getD ((vi7).toNat) [])).2)=true->((madeF (vl8.getD ((vi7).toNat) [])).2)=true) (need ((((madeF (vl8.getD ((vi7).toNat) [])).2)&&((((vl8.getD ((vi7).toNat) []).getD ((0:Int)).toNat 0).toNat:Int) != (32:Int)))=true->(((madeF (vl8.getD ((vi7).toNat) [])).2)&&((((vl8.getD ((vi7).toNat) []).getD ((0:Int)).toNat 0).toNat:Int) != (32:Int)))=true) (need ((((madeF (vl8.getD ((vi7).toNat) [])).2)&&((((vl8.getD ((vi7).toNat) []).getD ((0:Int)).toNat 0).toNat:Int) != (32:Int)))=true->(((madeF (vl8.getD ((vi7).toNat) [])).2)&&((((vl8.getD ((vi7).toNat) []).getD ((0:Int)).toNat 0).toNat:Int) != (32:Int)))=true) (need ((((madeF (vl8.getD ((vi7).toNat) [])).2)&&((((vl8.getD ((vi7).toNat) []).getD ((0:Int)).toNat 0).toNat:Int) != (32:Int)))=true->0<=vi7/\vi7 < (vl8.length:Int)) (need ((((madeF (vl8.getD ((vi7).toNat) [])).2)&&((((vl8.getD ((vi7).toNat) []).getD ((0:Int)).toNat 0).toNat:Int) != (32:Int)))=true->(((madeF (vl8.getD ((vi7).toNat) [])).2)&&((((vl8.getD ((vi7).toNat) []).getD ((0:Int)).toNat 0).toNat:Int) != (32:Int)))=true) (need ((((madeF (vl8.getD ((vi7).toNat) [])).2)&&((((vl8.getD ((vi7).toNat) []).getD ((0:Int)).toNat 0).toNat:Int) != (32:Int)))=true->(vi7).toNat < vl8.length) (need ((((madeF (vl8.getD ((vi7).toNat) [])).2)&&((((vl8.getD ((vi7).toNat) []).getD ((0:Int)).toNat 0).toNat:Int) != (32:Int)))=true->(((madeF (vl8.getD ((vi7).toNat) [])).2)&&((((vl8.getD ((vi7).toNat) []).getD ((0:Int)).toNat 0).toNat:Int) != (32:Int)))=true) (need ((((madeF (vl8.getD ((vi7).toNat) [])).2)&&((((vl8.getD ((vi7).toNat) []).getD ((0:Int)).toNat 0).toNat:Int) != (32:Int)))=true->0<=(0:Int)/\(0:Int) < ((vl8.getD ((vi7).toNat) []).length:Int)) (need ((((madeF (vl8.getD ((vi7).toNat) [])).2)&&((((vl8.getD ((vi7).toNat) []).getD ((0:Int)).toNat 0).toNat:Int) != (32:Int)))=true->(((madeF (vl8.getD ((vi7).toNat) [])).2)&&((((vl8.getD ((vi7).toNat) []).getD ((0:Int)).toNat 0).toNat:Int) != (32:Int)))=true) (need ((((madeF (vl8.getD ((vi7).toNat) [])).2)&&((((vl8.getD ((vi7).toNat) []).getD ((0:Int)).toNat 0).toNat:Int) != (32:Int)))=true->(((madeF (vl8.getD ((vi7).toNat) [])).2)&&((((vl8.getD ((vi7).toNat) []).getD ((0:Int)).toNat 0).toNat:Int) != (32:Int)))=true) (Br7split_4 F f2 vi5 vi7 ((((madeF (vl8.getD ((vi7).toNat) [])).2)&&((((vl8.getD ((vi7).toNat) []).getD ((0:Int)).toNat 0).toNat:Int) != (32:Int)))&&((((vl8.getD ((vi7).toNat) []).getD ((0:Int)).toNat 0).toNat:Int) != (9:Int))) vl8 vl9 ((madeF (vl8.getD ((vi7).toNat) [])).1.1) ((madeF (vl8.getD ((vi7).toNat) [])).1.2))))))))))))))))))))))) (some (.tup [.p (.list 2 (.dat (.pair .str .str) vl9)),.p (.int .i64 vi5)],[])) by kernel_rfl) (cond_congr (need_congr (need_congr (need_congr (need_strike (show ((madeF (vl8.getD ((vi7).toNat) [])).2)=true->((madeF (vl8.getD ((vi7).toNat) [])).2)=true from (fun q0=>q0)) (need_strike (show ((madeF (vl8.getD ((vi7).toNat) [])).2)=true->((madeF (vl8.getD ((vi7).toNat) [])).2)=true from (fun q0=>q0)) (need_congr (need_strike (show ((madeF (vl8.getD ((vi7).toNat) [])).2)=true->((madeF (vl8.getD ((vi7).toNat) [])).2)=true from (fun q0=>q0)) (need_congr (need_strike (show ((madeF (vl8.getD ((vi7).toNat) [])).2)=true->((madeF (vl8.getD ((vi7).toNat) [])).2)=true from (fun q0=>q0)) (need_congr (need_strike (show ((madeF (vl8.getD ((vi7).toNat) [])).2)=true->((madeF (vl8.getD ((vi7).toNat) [])).2)=true from (fun q0=>q0)) (need_strike (show ((madeF (vl8.getD ((vi7).toNat) [])).2)=true->((madeF (vl8.getD ((vi7).toNat) [])).2)=true from (fun q0=>q0)) (need_strike (show (((madeF (vl8.getD ((vi7).toNat) [])).2)&&((((vl8.getD ((vi7).toNat) []).getD ((0:Int)).toNat 0).toNat:Int) != (32:Int)))=true->(((madeF (vl8.getD ((vi7).toNat) [])).2)&&((((vl8.getD ((vi7).toNat) []).getD ((0:Int)).toNat 0).toNat:Int) != (32:Int)))=true from (fun q0=>q0)) (need_strike (show (((madeF (vl8.getD ((vi7).toNat) [])).2)&&((((vl8.getD ((vi7).toNat) []).getD ((0:Int)).toNat 0).toNat:Int) != (32:Int)))=true->(((madeF (vl8.getD ((vi7).toNat) [])).2)&&((((vl8.getD ((vi7).toNat) []).getD ((0:Int)).toNat 0).toNat:Int) != (32:Int)))=true from (fun q0=>q0)) (need_congr (need_strike (show (((madeF (vl8.getD ((vi7).toNat) [])).2)&&((((vl8.getD ((vi7).toNat) []).getD ((0:Int)).toNat 0).toNat:Int) != (32:Int)))=true->(((madeF (vl8.getD ((vi7).toNat) [])).2)&&((((vl8.getD ((vi7).toNat) []).getD ((0:Int)).toNat 0).toNat:Int) != (32:Int)))=true from (fun q0=>q0)) (need_congr (need_strike (show (((madeF (vl8.getD ((vi7).toNat) [])).2)&&((((vl8.getD ((vi7).toNat) []).getD ((0:Int)).toNat 0).toNat:Int) != (32:Int)))=true->(((madeF (vl8.getD ((vi7).toNat) [])).2)&&((((vl8.getD ((vi7).toNat) []).getD ((0:Int)).toNat 0).toNat:Int) != (32:Int)))=true from (fun q0=>q0)) (need_congr (need_strike (show (((madeF (vl8.getD ((vi7).toNat) [])).2)&&((((vl8.getD ((vi7).toNat) []).getD ((0:Int)).toNat 0).toNat:Int) != (32:Int)))=true->(((madeF (vl8.getD ((vi7).toNat) [])).2)&&((((vl8.getD ((vi7).toNat) []).getD ((0:Int)).toNat 0).toNat:Int) != (32:Int)))=true from (fun q0=>q0)) (need_strike (show (((madeF (vl8.getD ((vi7).toNat) [])).2)&&((((vl8.getD ((vi7).toNat) []).getD ((0:Int)).toNat 0).toNat:Int) != (32:Int)))=true->(((madeF (vl8.getD ((vi7).toNat) [])).2)&&((((vl8.getD ((vi7).toNat) []).getD ((0:Int)).toNat 0).toNat:Int) != (32:Int)))=true from (fun q0=>q0)) (rfl)))))))))))))))))))))) (rfl))
theorem Br7split_4_eq (F f2:Nat) (vi5 vi7:Int) (vc10:Bool) (vl8:List (List UInt8)) (vl9:List (List UInt8×List UInt8)) (vs11 vs12:List UInt8):Br7split_4 F f2 vi5 vi7 vc10 vl8 vl9 vs11 vs12=cond (vc10) (need ((vl9.length+[(vs11,vs12)].length) * 32<=140737488355328) (Br7split_5 F f2 vi5 vi7 vl8 (vl9++[(vs11,vs12)]))) (Br7split_5 F f2 vi5 vi7 vl8 vl9):=by kernel_rfl
theorem Br7split_5_eq (F f2:Nat) (vi5 vi7:Int) (vl13:List (List UInt8)) (vl14:List (List UInt8×List UInt8)):Br7split_5 F f2 vi5 vi7 vl13 vl14=need (i64ok (vi7+(1:Int))) (Br7split_3 F f2 vi5 (vi7+(1:Int)) vl13 vl14):=by kernel_rfl
theorem Br7split_6_eq (F f1:Nat) (vi1:Int) (vl2:List (Int×List UInt8×Int)) (vi3:Int) (vs15:List UInt8) (vc16:Bool) (vl4:List (List UInt8)):Br7split_6 F f1 vi1 vl2 vi3 vs15 vc16 vl4=cond (vc16) (need (i64ok ((vl4.length:Int) - (1:Int))) (need (i64ok ((vl4.length:Int) - (1:Int))) (need (0<=((vl4.length:Int) - (1:Int))/\((vl4.length:Int) - (1:Int)) < (vl4.length:Int)) (need (((vl4.length:Int) - (1:Int)).toNat < vl4.length) (need (lenok ((vl4.getD (((vl4.length:Int) - (1:Int)).toNat) []).length+vs15.length)) (need (0<=((vl4.length:Int) - (1:Int))/\((vl4.length:Int) - (1:Int)) < (vl4.length:Int)) (need (((vl4.length:Int) - (1:Int)).toNat < vl4.length) (Br7split_7 F f1 vi1 vl2 vi3 (vl4.set (((vl4.length:Int) - (1:Int)).toNat) ((vl4.getD (((vl4.length:Int) - (1:Int)).toNat) [])++vs15)))))))))) (need ((vl4.length+[vs15].length) * 16<=140737488355328) (Br7split_7 F f1 vi1 vl2 vi3 (vl4++[vs15]))):=by kernel_rfl
theorem Br7split_7_eq (F f1:Nat) (vi17:Int) (vl2:List (Int×List UInt8×Int)) (vi3:Int) (vl18:List (List UInt8)):Br7split_7 F f1 vi17 vl2 vi3 vl18=need (i64ok (vi3+(1:Int))) (Br7split_1 F f1 vi17 vl2 (vi3+(1:Int)) vl18):=by kernel_rfl
theorem Fr7split_eq (F:Nat) (s:List UInt8) (a b:Int):Fr7split F s a b=cond (((decide (a < (0:Int)))||(decide (b > (s.length:Int))))||(decide (a > b))) (some (.tup [.p .nil,.p (.int .i64 a)],[])) (need (linesok s a b) (Br7split_1 F F b (linesS s a b) (0:Int) ([]:List (List UInt8)))):=
 Eq.trans (show Fr7split F s a b=need ((!(decide (a < (0:Int))))=true->(!(decide (a < (0:Int))))=true) (need ((!(decide (a < (0:Int))))=true->(!(decide (a < (0:Int))))=true) (need ((!(decide (a < (0:Int))))=true->(!(decide (a < (0:Int))))=true) (need ((decide (a < (0:Int)))=false->(!(decide (a < (0:Int))))=true) (need ((!((decide (a < (0:Int)))||(decide (b > (s.length:Int)))))=true->(!((decide (a < (0:Int)))||(decide (b > (s.length:Int)))))=true) (need ((!((decide (a < (0:Int)))||(decide (b > (s.length:Int)))))=true->(!((decide (a < (0:Int)))||(decide (b > (s.length:Int)))))=true) (need (((decide (a < (0:Int)))||(decide (b > (s.length:Int))))=false->(!((decide (a < (0:Int)))||(decide (b > (s.length:Int)))))=true) (cond (((decide (a < (0:Int)))||(decide (b > (s.length:Int))))||(decide (a > b))) (some (.tup [.p .nil,.p (.int .i64 a)],[])) (need (linesok s a b) (Br7split_1 F F b (linesS s a b) (0:Int) ([]:List (List UInt8))))))))))) by kernel_rfl) (need_strike (show (!(decide (a < (0:Int))))=true->(!(decide (a < (0:Int))))=true from (fun q0=>q0)) (need_strike (show (!(decide (a < (0:Int))))=true->(!(decide (a < (0:Int))))=true from (fun q0=>q0)) (need_strike (show (!(decide (a < (0:Int))))=true->(!(decide (a < (0:Int))))=true from (fun q0=>q0)) (need_strike (show (decide (a < (0:Int)))=false->(!(decide (a < (0:Int))))=true from (fun q0=>(not_mk q0))) (need_strike (show (!((decide (a < (0:Int)))||(decide (b > (s.length:Int)))))=true->(!((decide (a < (0:Int)))||(decide (b > (s.length:Int)))))=true from (fun q0=>q0)) (need_strike (show (!((decide (a < (0:Int)))||(decide (b > (s.length:Int)))))=true->(!((decide (a < (0:Int)))||(decide (b > (s.length:Int)))))=true from (fun q0=>q0)) (need_strike (show ((decide (a < (0:Int)))||(decide (b > (s.length:Int))))=false->(!((decide (a < (0:Int)))||(decide (b > (s.length:Int)))))=true from (fun q0=>(not_mk q0))) (rfl))))))))
theorem fn_r7split (F:Nat) (s:List UInt8) (a b:Int) (r:AV) (h:(∃ M vs,ARels γ0 M [.p (.str s),.p (.int .i64 a),.p (.int .i64 b)] vs)->Fr7split F s a b=some (r,[])):FnP Tryz.prog 37 [.p (.str s),.p (.int .i64 a),.p (.int .i64 b)] r:=
 FnP_run Gr7split F rfl (EnvOk_mk (l:=[(70,sp_r7lines),(71,sp_r7made)]) ⟨ok_r7lines.any,ok_r7made.any,trivial⟩) (EnvROk_mk (l:=[]) trivial) (Checked.mixed Tryz.checked) (fn:=Tryz.f37) (by kernel_rfl) (by kernel_rfl) rfl h
theorem Br7split_3_spec (F:Nat) (g:List (List UInt8)) (body:Int) (hg:g.length<=1000000) (hx:∀ x ∈ g,x≠[]/\x.length<=1000000):∀ (r:List (List UInt8)) (f i:Nat) (acc:List (List UInt8×List UInt8)),g.drop i=r->r.length < f->i<=g.length->acc.length<=i->
 Br7split_3 F f body (i:Int) g acc=some (.tup [.p (.list 2 (.dat (.pair .str .str) (acc++fieldsS r))),.p (.int .i64 body)],[]):=by
 intro r
 induction r with
 | nil=>
  intro f i acc hd hf hi ha
  have:i=g.length:=by have:=congrArg List.length hd; simp at this; omega
  cases f with
  | zero=>omega
  | succ f=>
   rw [Br7split_3_eq]
   refine cond_f (by simp; omega) ?_
   rw [show fieldsS []=[] from rfl,List.append_nil]
 | cons c r ih=>
  intro f i acc hd hf hi ha
  obtain ⟨h1,h2,h3⟩:=dropG hd []
  have hc:=hx c (by rw [<-h1]; exact getD_mem h3 [])
  have hcl:=List.length_pos_iff.2 hc.1
  cases f with
  | zero=>omega
  | succ f=>
   have nxt:∀ acc',acc'.length<=i+1->Br7split_5 F f body (i:Int) g acc'=some (.tup [.p (.list 2 (.dat (.pair .str .str) (acc'++fieldsS r))),.p (.int .i64 body)],[]):=by
    intro acc' ha'
    rw [Br7split_5_eq]
    refine need_mk (by unfold i64ok; omega) ?_
    rw [show (i:Int)+1=((i+1:Nat):Int) by omega]
    exact ih f (i+1) acc' h2 (by simp at hf; omega) (by omega) ha'
   rw [Br7split_3_eq]
   rw [Int.toNat_natCast,h1]
   refine cond_t (by simp; omega) (need_mk ⟨by omega,by omega⟩ (need_mk h3 (need_mk hc.2 (need_mk (fun _=>⟨by omega,by omega⟩) (need_mk (fun _=>h3) (need_mk (fun _=>⟨by omega,by omega⟩) (need_mk (fun _=>⟨by omega,by omega⟩) (need_mk (fun _=>h3) (need_mk (fun _=>⟨by omega,by omega⟩) ?_)))))))))
   have hb:(((madeF c).2&&(((c.getD ((0:Int)).toNat 0).toNat:Int) != (32:Int)))&&(((c.getD ((0:Int)).toNat 0).toNat:Int) != (9:Int)))=(oneF c).2:=by
    have hm:(madeF c).2=(oneF c).2:=by
     unfold madeF
     cases h:(oneF c).2 with
     | true=>rw [if_pos rfl]
     | false=>rw [if_neg (by simp)]
    rw [hm,Bool.and_assoc,bne,bne,<-Bool.not_or,isBlank_eq hc.1]
    cases h:isBlank1 c with
    | true=>rw [oneF_blank h]; rfl
    | false=>simp
   rw [hb,Br7split_4_eq,fieldsS_cons]
   cases ho:(oneF c).2 with
   | true=>
    have hm:(madeF c).1=(oneF c).1:=by unfold madeF; rw [if_pos ho]
    rw [hm]
    refine cond_t rfl (need_mk (by simp; omega) ?_)
    rw [if_pos rfl,<-List.append_assoc]
    exact nxt _ (by simp; omega)
   | false=>
    rw [if_neg (by simp),List.nil_append]
    exact cond_f rfl (nxt acc (by omega))
theorem Br7split_1_spec (F b:Nat) (hb:b<=1000000) (L:List (Nat×List UInt8×Nat)) (hL:L.length<=1000000):∀ (r:List (Nat×List UInt8×Nat)) (f i a:Nat) (g:List (List UInt8)),L.drop i=r->r.length < f->i<=L.length->lnOk a b r->g.length<=a->(∀ x ∈ g,x.length<=a)->(∀ x ∈ g,x≠[])->(i=0->g=[])->(0 < i->g≠[])->a<=b->
 Br7split_1 F f (b:Int) (L.map castL) (i:Int) g=Br7split_2 F (gathS r (b:Int) g).2 (gathS r (b:Int) g).1/\(gathS r (b:Int) g).1.length<=b/\∀ x ∈ (gathS r (b:Int) g).1,x≠[]/\x.length<=b:=by
 intro r
 induction r with
 | nil=>
  intro f i a g hd hf hi hl hg hx hne h0 h1 hab
  have:i=L.length:=by have:=congrArg List.length hd; simp at this; omega
  cases f with
  | zero=>omega
  | succ f=>
   rw [Br7split_1_eq,List.length_map]
   exact ⟨cond_f (by simp; omega) rfl,by rw [gathS]; dsimp only; omega,fun x h=>⟨hne x h,by have:=hx x h; omega⟩⟩
 | cons c r ih=>
  obtain ⟨at0,t,nx⟩:=c
  intro f i a g hd hf hi hl hg hx hne h0 h1 hab
  obtain ⟨l1,l2,l3,l4⟩:=hl
  have hdm:(L.map castL).drop i=castL (at0,t,nx)::r.map castL:=by rw [<-List.map_drop,hd]; rfl
  obtain ⟨k1,_,k3⟩:=dropG hdm ((0:Int),([],(0:Int)))
  obtain ⟨_,g2,g3⟩:=dropG hd (0,[],0)
  rw [List.length_map] at k3
  obtain ⟨s1,s2⟩:=stp_g (t:=t) (nx:=(nx:Int)) (body:=(b:Int)) (g:=g) l1 hg hx l3
  cases f with
  | zero=>omega
  | succ f=>
   rw [Br7split_1_eq,Int.toNat_natCast,k1,List.length_map]
   by_cases ht:t=[]
   .have e:gathS ((at0,t,nx)::r) (b:Int) g=(g,(nx:Int)):=by rw [gathS,if_pos ht]
    rw [e]
    refine ⟨cond_t (by simp; omega) (need_mk ⟨by omega,by omega⟩ (cond_t (by rw [ht]; rfl) (need_mk ⟨by omega,by omega⟩ rfl))),by dsimp only; omega,fun x h=>⟨hne x h,by have:=hx x h; omega⟩⟩
   .have hsn:(stp t (nx:Int) (b:Int) g).1=none:=by unfold stp; rw [if_neg ht]; split <;> rfl
    have hsb:(stp t (nx:Int) (b:Int) g).2.1=(b:Int):=by unfold stp; rw [if_neg ht]; split <;> rfl
    have hs2:(stp t (nx:Int) (b:Int) g).2.2=if g≠[]/\isBlank1 t=true then g.set (g.length - 1) (g.getD (g.length - 1) []++t) else g++[t]:=by unfold stp; rw [if_neg ht]; split <;> rfl
    rw [gath_none hsn,hsb]
    have hgne:(stp t (nx:Int) (b:Int) g).2.2≠[]:=by
     rw [hs2]; split
     .rename_i h; intro q
      have:=congrArg List.length q
      simp at this; exact h.1 this
     .simp
    have hxne:∀ x ∈ (stp t (nx:Int) (b:Int) g).2.2,x≠[]:=by
     rw [hs2]; split
     .intro x h
      rcases List.mem_or_eq_of_mem_set h with h | h
      .exact hne x h
      .rw [h]; intro q; exact ht (List.append_eq_nil_iff.1 q).2
     .intro x h
      rcases List.mem_append.1 h with h | h
      .exact hne x h
      .rw [List.mem_singleton.1 h]; exact ht
    have hrec:=ih f (i+1) nx _ g2 (by simp at hf; omega) (by omega) l4 s1 s2 hxne (fun h=>by omega) (fun _=>hgne) l2
    refine ⟨?_,hrec.2⟩
    refine Eq.trans ?_ hrec.1
    have htl:=List.length_pos_iff.2 ht
    refine cond_t (by simp; omega) (need_mk ⟨by omega,by omega⟩ (cond_f (by simpa [castL] using ht) (need_mk (fun _=>⟨by omega,by simp [castL]; omega⟩) (need_mk (fun _=>⟨by omega,by simp [castL]; omega⟩) ?_))))
    show Br7split_6 F f (b:Int) (L.map castL) (i:Int) t (decide ((i:Int) > (0:Int))&&(((((t.getD ((0:Int)).toNat 0).toNat:Int)==(32:Int)))||(((t.getD ((0:Int)).toNat 0).toNat:Int)==(9:Int)))) g=_
    have h7:∀ g':List (List UInt8),Br7split_7 F f (b:Int) (L.map castL) (i:Int) g'=Br7split_1 F f (b:Int) (L.map castL) ((i+1:Nat):Int) g':=by
     intro g'
     rw [Br7split_7_eq]
     refine need_mk (by unfold i64ok; omega) ?_
     rw [show (i:Int)+1=((i+1:Nat):Int) by omega]
    rw [isBlank_eq ht,Br7split_6_eq,hs2]
    by_cases hc:g≠[]/\isBlank1 t=true
    .have hgl:=List.length_pos_iff.2 hc.1
     have hi0:0 < i:=Nat.pos_of_ne_zero fun h=>hc.1 (h0 h)
     have hlast:=hx _ (getD_mem (show g.length - 1 < g.length by omega) [])
     have e:((g.length:Int) - 1).toNat=g.length - 1:=by omega
     rw [if_pos hc,hc.2,Bool.and_true,e]
     refine cond_t (by simp; omega) (need_mk (by unfold i64ok; omega) (need_mk (by unfold i64ok; omega) (need_mk ⟨by omega,by omega⟩ (need_mk (by omega) (need_mk (by unfold lenok; omega) (need_mk ⟨by omega,by omega⟩ (need_mk (by omega) ?_)))))))
     exact h7 _
    .rw [if_neg hc]
     refine cond_f ?_ (need_mk (by simp; omega) (h7 _))
     cases hb2:isBlank1 t with
     | false=>rw [Bool.and_false]
     | true=>
      have hg0:g=[]:=Classical.byContradiction fun q=>hc ⟨q,hb2⟩
      have:i=0:=by
       refine Classical.byContradiction fun q=>?_
       exact h1 (Nat.pos_of_ne_zero q) hg0
      rw [this]; rfl
theorem r7split_eq (s:List UInt8) (a b:Int) (hs:s.length<=1000000):∃ z,Fr7split 1000003 s a b=some (z,[])/\∀ (γ:Nat->Option G) (M:Mem) (v:Value),ARel γ M z v->ARel γ M (.tup [.p (.list 2 (.dat (.pair .str .str) (splitS s a b).1)),.p (.int .i64 (splitS s a b).2)]) v:=by
 rw [Fr7split_eq]
 by_cases hbad:a < 0\/b > s.length\/a > b
 .have hsp:splitS s a b=([],a):=by unfold splitS; rw [if_pos hbad]
  rw [hsp]
  refine ⟨_,cond_t (by simp only [Bool.or_eq_true,decide_eq_true_eq]; omega) rfl,fun γ M v h=>ARel.tup_head (fun _ h=>ARel.nil_list rfl h) h⟩
 .obtain ⟨na,rfl⟩:∃ n:Nat,a=n:=⟨a.toNat,by omega⟩
  obtain ⟨nb,rfl⟩:∃ n:Nat,b=n:=⟨b.toNat,by omega⟩
  have hsp:splitS s (na:Int) (nb:Int)=(fieldsS (gathS (linesN s na nb) (nb:Int) []).1,(gathS (linesN s na nb) (nb:Int) []).2):=by unfold splitS; rw [if_neg hbad,Int.toNat_natCast,Int.toNat_natCast]
  rw [hsp]
  obtain ⟨k1,k2⟩:=linesN_ok (s:=s) (b:=nb) (by omega) (nb - na) na rfl (by omega)
  obtain ⟨z1,z2,z3⟩:=Br7split_1_spec 1000003 nb (by omega) (linesN s na nb) (by omega) (linesN s na nb) 1000003 0 na [] rfl (by omega) (by omega) k1 (by simp) (by simp) (by simp) (fun _=>rfl) (fun h=>by omega) (by omega)
  refine ⟨_,cond_f (by simp only [Bool.or_eq_false_iff,decide_eq_false_iff_not]; omega) (need_mk ⟨by omega,by omega,by omega,hs⟩ ?_),fun γ M v h=>h⟩
  have hls:linesS s (na:Int) (nb:Int)=(linesN s na nb).map castL:=by unfold linesS; rw [Int.toNat_natCast,Int.toNat_natCast]
  rw [hls]
  refine z1.trans ?_
  rw [Br7split_2_eq]
  exact Br7split_3_spec 1000003 _ _ (by omega) (fun x hx=>⟨(z3 x hx).1,by have:=(z3 x hx).2; omega⟩) _ 1000003 0 [] rfl (by omega) (by omega) (by simp)
def sp_r7split:List AV->Option (AV×Option Prop)
 | [.p (.str s),.p (.int .i64 a),.p (.int .i64 b)]=>some (.tup [.p (.list 2 (.dat (.pair .str .str) (splitS s a b).1)),.p (.int .i64 (splitS s a b).2)],some (s.length<=1000000))
 | _=>none
theorem ok_r7split:SpecOk Tryz.prog 37 sp_r7split:=by
 intro zs r ok he hok
 unfold sp_r7split at he
 split at he
 .rename_i s a b
  cases he
  obtain ⟨z,h1,h2⟩:=r7split_eq s a b hok
  exact ⟨by kernel_rfl,(fn_r7split 1000003 _ _ _ _ fun _=>h1).weak fun M v h=>h2 _ _ v h⟩
 .cases he
end Go.Proofs.YtoanepondbagcaaGreatDoor
