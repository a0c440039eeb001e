/-
  Lifted functions, and facts about them.
-/
import Derived.Test.YtoanepondbagcaaGreatDoorRows
import Derived.Test.YtoanepondbagcaaGreatDoorAmC
import Derived.Test.YtoanepondbagcaaGreatDoorC01
import Derived.Test.YtoanepondbagcaaGreatDoorC08
import Derived.Test.YtoanepondbagcaaGreatDoorC02
import Derived.Test.YtoanepondbagcaaGreatDoorC10
import Derived.Test.YtoanepondbagcaaGreatDoorC03
namespace Go.Proofs.YtoanepondbagcaaGreatDoor
open Go Go.Am
set_option linter.unusedVariables false
def nsep (c:UInt8):Bool:=!([61,59].contains c)
def qtP:List UInt8->List UInt8->List UInt8×List UInt8
 | acc,[]=>(acc,[])
 | acc,[c]=>if c=34 then (acc,[]) else (acc++[c],[])
 | acc,c::d::r=>if c=34 then (acc,d::r) else if c=92 then qtP (acc++[d]) r else qtP (acc++[c]) (d::r)
theorem qtP_nil (acc:List UInt8):qtP acc []=(acc,[]):=rfl
theorem qtP_end (acc r:List UInt8):qtP acc (34::r)=(acc,r):=by cases r <;> rfl
theorem qtP_esc (acc r:List UInt8) (d:UInt8):qtP acc (92::d::r)=qtP (acc++[d]) r:=by rw [qtP,if_neg (by decide),if_pos rfl]
theorem qtP_last (acc:List UInt8):qtP acc [92]=(acc++[92],[]):=rfl
theorem qtP_step (acc r:List UInt8) {c:UInt8} (h1:c≠34) (h2:c≠92):qtP acc (c::r)=qtP (acc++[c]) r:=by
 cases r with
 | nil=>unfold qtP; rw [if_neg h1]
 | cons d r=>rw [qtP,if_neg h1,if_neg h2]
theorem qtP_len:∀ (n:Nat) (acc l:List UInt8),l.length<=n->(qtP acc l).1.length<=acc.length+l.length/\(qtP acc l).2.length<=l.length:=by
 intro n
 induction n with
 | zero=>intro acc l h; rw [List.length_eq_zero_iff.1 (Nat.le_zero.1 h),qtP_nil]; simp
 | succ n ih=>
  intro acc l h
  cases l with
  | nil=>rw [qtP_nil]; simp
  | cons c r=>
   by_cases h1:c=34
   .subst h1; rw [qtP_end]; simp
   .by_cases h2:c=92
    .subst h2
     cases r with
     | nil=>rw [qtP_last]; simp
     | cons d r=>
      rw [qtP_esc]
      have:=ih (acc++[d]) r (by simp at h; omega)
      simp at this ⊢; omega
    .rw [qtP_step _ _ h1 h2]
     have:=ih (acc++[c]) r (by simp at h; omega)
     simp at this ⊢; omega
def nameP (s:List UInt8):List UInt8:=foldS (trimBl s)
def paramP (s:List UInt8):(List UInt8×List UInt8)×List UInt8×Bool:=
 match (trimLB s).dropWhile nsep with
 | []=>((nameP (trimLB s),[]),[],false)
 | c::u=>if c=59 then ((nameP ((trimLB s).takeWhile nsep),[]),u,true) else match trimLB u with
  | []=>((nameP ((trimLB s).takeWhile nsep),[]),[],false)
  | d::q=>if d=34 then ((nameP ((trimLB s).takeWhile nsep),(qtP [] q).1),(cutS (qtP [] q).2 59).2.1,(cutS (qtP [] q).2 59).2.2)
   else ((nameP ((trimLB s).takeWhile nsep),trimRB (cutS (d::q) 59).1),(cutS (d::q) 59).2.1,(cutS (d::q) 59).2.2)
def valsP:Nat->List UInt8->Bool->List (List UInt8×List UInt8)->List (List UInt8×List UInt8)
 | 0,_,_,l=>l
 | n+1,r,m,l=>if m=true then valsP n (paramP r).2.1 (paramP r).2.2 (if (paramP r).1.1≠[] then l++[(paramP r).1] else l) else l
def valuesP (s:List UInt8):List UInt8×List (List UInt8×List UInt8):=(nameP (cutS s 59).1,valsP (s.length+1) (cutS s 59).2.1 (cutS s 59).2.2 [])
theorem ixSep_split (s:List UInt8):(s.dropWhile nsep=[]/\s.takeWhile nsep=s/\ixSep s=-1)\/(∃ c u,s.dropWhile nsep=c::u/\nsep c=false/\s=s.takeWhile nsep++c::u/\ixSep s=((s.takeWhile nsep).length:Int)):=by
 induction s with
 | nil=>exact .inl ⟨rfl,rfl,rfl⟩
 | cons b l ih=>
  unfold ixSep at ih ⊢
  rw [Lib.indexAny]
  cases hb:nsep b with
  | false=>
   have h2:([61,59]:List UInt8).contains b=true:=by unfold nsep at hb; rwa [Bool.not_eq_false'] at hb
   rw [if_pos h2]
   refine .inr ⟨b,l,?_,hb,?_,?_⟩
   .rw [List.dropWhile_cons,if_neg (by rw [hb]; simp)]
   .rw [List.takeWhile_cons,if_neg (by rw [hb]; simp)]; rfl
   .rw [List.takeWhile_cons,if_neg (by rw [hb]; simp)]; rfl
  | true=>
   have h2:([61,59]:List UInt8).contains b=false:=by unfold nsep at hb; rwa [Bool.not_eq_true'] at hb
   rw [if_neg (by rw [h2]; simp),List.dropWhile_cons,if_pos hb,List.takeWhile_cons,if_pos hb]
   rcases ih with ⟨h3,h4,h5⟩ | ⟨c,u,h3,h4,h5,h6⟩
   .exact .inl ⟨h3,by rw [h4],by rw [h5]; rfl⟩
   .refine .inr ⟨c,u,h3,h4,by rw [List.cons_append,<-h5],?_⟩
    rw [h6,if_neg (by simp)]
    simp only [List.length_cons]; omega
theorem hasP_one (c:UInt8) (l:List UInt8):hasP l [c]=match l with | []=>false | d::_=>(d==c):=by
 cases l with
 | nil=>rfl
 | cons d r=>unfold hasP; rw [Bool.eq_iff_iff]; simp
noncomputable def Gpname:Cfg:=⟨Tryz.prog,mkEnv [(61,sp_Fold),(119,sp_trim2)],mkEnvR [],6,[],[],[]⟩
noncomputable def Fpname (F:Nat) (s:List UInt8):Option Ans:=runF Gpname Tryz.f97 F [.p (.str s)]
theorem Fpname_eq (F:Nat) (s:List UInt8):Fpname F s=need (s.length<=1000000) (need ((trimBl s).length<=140737488355328) (some (.p (.str (foldS (trimBl s))),[]))):=by kernel_rfl
theorem fn_pname (F:Nat) (s:List UInt8) (r:AV) (h:(∃ M vs,ARels γ0 M [.p (.str s)] vs)->Fpname F s=some (r,[])):FnP Tryz.prog 97 [.p (.str s)] r:=
 FnP_run Gpname F rfl (EnvOk_mk (l:=[(61,sp_Fold),(119,sp_trim2)]) ⟨ok_Fold.any,ok_trim2.any,trivial⟩) (EnvROk_mk (l:=[]) trivial) (Checked.mixed Tryz.checked) (fn:=Tryz.f97) (by kernel_rfl) (by kernel_rfl) rfl h
theorem pname_eq (s:List UInt8) (hs:s.length<=1000000):Fpname 0 s=some (.p (.str (nameP s)),[]):=by
 have:=trimBl_len s
 rw [Fpname_eq]
 exact need_mk hs (need_mk (by omega) rfl)
def sp_pname:List AV->Option (AV×Option Prop)
 | [.p (.str s)]=>some (.p (.str (nameP s)),some (s.length<=1000000))
 | _=>none
theorem ok_pname:SpecOk Tryz.prog 97 sp_pname:=by
 intro zs r ok he hok
 unfold sp_pname at he
 split at he
 .cases he; exact ⟨by kernel_rfl,fn_pname 0 _ _ fun hx=>pname_eq _ hok⟩
 .cases he
noncomputable def cpquote:Code:=bodyOf Tryz.f152
noncomputable def Gpquote:Cfg:=⟨Tryz.prog,mkEnv [],mkEnvR [],51,[],[([0,1,0,1,1],⟨[0,4,5],[⟨.slot 4,4,(.barr 5 false [])⟩]⟩),([1,1,1,0,0,0,1,0,0,1,0,1,1],⟨[0,4,5,29],[⟨.slot 4,4,(.barr 5 false [])⟩]⟩),([1,1,0,0,1,0,1,1],⟨[0,4,5],[⟨.slot 4,4,(.barr 5 false [])⟩]⟩)],[]⟩
noncomputable def Bpquote_1 (F f1:Nat) (s:List UInt8) (vi1:Int) (vb2:List UInt8):Option Ans:=runR Gpquote cpquote (kP Tryz.prog Tryz.f152.results.toList) F [] [1,1,0,1,0] f1 [(0,.p (.str s)),(4,.arr 4),(5,.p (.int .i64 vi1))] [(4,.barr 5 false vb2)]
noncomputable def Bpquote_2 (F f1:Nat) (s:List UInt8) (vi1:Int) (vc3:Bool) (vb2:List UInt8):Option Ans:=runB Gpquote cpquote (kP Tryz.prog Tryz.f152.results.toList) F [f1] [1,1,0,1,0,0,1,0,0,0,1,1,1] [(0,.p (.str s)),(4,.arr 4),(5,.p (.int .i64 vi1)),(29,.p (.bool vc3))] [(4,.barr 5 false vb2)]
noncomputable def Bpquote_3 (F f1:Nat) (s:List UInt8) (vi4:Int) (vb5:List UInt8):Option Ans:=runB Gpquote cpquote (kP Tryz.prog Tryz.f152.results.toList) F [f1] [1,1,0,1,0,0,1,1] [(0,.p (.str s)),(4,.arr 4),(5,.p (.int .i64 vi4))] [(4,.barr 5 false vb5)]
noncomputable def Fpquote (F:Nat) (s:List UInt8):Option Ans:=runF Gpquote Tryz.f152 F [.p (.str s)]
theorem Bpquote_1_eq (F f1:Nat) (s:List UInt8) (vi1:Int) (vb2:List UInt8):Bpquote_1 F (f1+1) s vi1 vb2=cond (decide (vi1 < (s.length:Int))) (need (0<=vi1/\vi1 < (s.length:Int)) (cond (((s.getD (vi1).toNat 0).toNat:Int)==(34:Int)) (need (i64ok (vi1+(1:Int))) (need (0<=(vi1+(1:Int))/\(vi1+(1:Int))<=(s.length:Int)) (some (.tup [.p (.str vb2),.p (.str (s.drop (vi1+(1:Int)).toNat))],[])))) (need (0<=vi1/\vi1 < (s.length:Int)) ((need ((((s.getD (vi1).toNat 0).toNat:Int)==(92:Int))=true->i64ok (vi1+(1:Int))) (((((Bpquote_2 F f1 s vi1 ((((s.getD (vi1).toNat 0).toNat:Int)==(92:Int))&&(decide ((vi1+(1:Int)) < (s.length:Int)))) vb2)))))))))) (some (.tup [.p (.str vb2),.p (.str ([]:List UInt8))],[])):=by
 have h:Bpquote_1 F (f1+1) s vi1 vb2=cond (decide (vi1 < (s.length:Int))) (need (0<=vi1/\vi1 < (s.length:Int)) (cond (((s.getD (vi1).toNat 0).toNat:Int)==(34:Int)) (need (i64ok (vi1+(1:Int))) (need (0<=(vi1+(1:Int))/\(vi1+(1:Int))<=(s.length:Int)) (some (.tup [.p (.str vb2),.p (.str (s.drop (vi1+(1:Int)).toNat))],[])))) (need (0<=vi1/\vi1 < (s.length:Int)) (need ((((s.getD (vi1).toNat 0).toNat:Int)==(92:Int))=true->(((s.getD (vi1).toNat 0).toNat:Int)==(92:Int))=true) (need ((((s.getD (vi1).toNat 0).toNat:Int)==(92:Int))=true->i64ok (vi1+(1:Int))) (need ((((s.getD (vi1).toNat 0).toNat:Int)==(92:Int))=true->(((s.getD (vi1).toNat 0).toNat:Int)==(92:Int))=true) (need ((((s.getD (vi1).toNat 0).toNat:Int)==(92:Int))=true->(((s.getD (vi1).toNat 0).toNat:Int)==(92:Int))=true) (need ((((s.getD (vi1).toNat 0).toNat:Int)==(92:Int))=true->(((s.getD (vi1).toNat 0).toNat:Int)==(92:Int))=true) (need ((((s.getD (vi1).toNat 0).toNat:Int)==(92:Int))=true->(((s.getD (vi1).toNat 0).toNat:Int)==(92:Int))=true) (Bpquote_2 F f1 s vi1 ((((s.getD (vi1).toNat 0).toNat:Int)==(92:Int))&&(decide ((vi1+(1:Int)) < (s.length:Int)))) vb2)))))))))) (some (.tup [.p (.str vb2),.p (.str ([]:List UInt8))],[])):=by kernel_rfl
 rw [h,need_pos (show (((s.getD (vi1).toNat 0).toNat:Int)==(92:Int))=true->(((s.getD (vi1).toNat 0).toNat:Int)==(92:Int))=true from (fun q0=>q0)),need_pos (show (((s.getD (vi1).toNat 0).toNat:Int)==(92:Int))=true->(((s.getD (vi1).toNat 0).toNat:Int)==(92:Int))=true from (fun q0=>q0)),need_pos (show (((s.getD (vi1).toNat 0).toNat:Int)==(92:Int))=true->(((s.getD (vi1).toNat 0).toNat:Int)==(92:Int))=true from (fun q0=>q0)),need_pos (show (((s.getD (vi1).toNat 0).toNat:Int)==(92:Int))=true->(((s.getD (vi1).toNat 0).toNat:Int)==(92:Int))=true from (fun q0=>q0)),need_pos (show (((s.getD (vi1).toNat 0).toNat:Int)==(92:Int))=true->(((s.getD (vi1).toNat 0).toNat:Int)==(92:Int))=true from (fun q0=>q0))]
theorem Bpquote_2_eq (F f1:Nat) (s:List UInt8) (vi1:Int) (vc3:Bool) (vb2:List UInt8):Bpquote_2 F f1 s vi1 vc3 vb2=cond (vc3) (need (i64ok (vi1+(1:Int))) (need (0<=(vi1+(1:Int))/\(vi1+(1:Int)) < (s.length:Int)) (need ((vb2.length+[UInt8.ofNat (((s.getD (vi1+(1:Int)).toNat 0).toNat:Int)).toNat].length) * 1<=140737488355328) (Bpquote_3 F f1 s (vi1+(1:Int)) (vb2++[UInt8.ofNat (((s.getD (vi1+(1:Int)).toNat 0).toNat:Int)).toNat]))))) (need (0<=vi1/\vi1 < (s.length:Int)) (need ((vb2.length+[UInt8.ofNat (((s.getD (vi1).toNat 0).toNat:Int)).toNat].length) * 1<=140737488355328) (Bpquote_3 F f1 s vi1 (vb2++[UInt8.ofNat (((s.getD (vi1).toNat 0).toNat:Int)).toNat])))):=by kernel_rfl
theorem Bpquote_3_eq (F f1:Nat) (s:List UInt8) (vi4:Int) (vb5:List UInt8):Bpquote_3 F f1 s vi4 vb5=need (i64ok (vi4+(1:Int))) (Bpquote_1 F f1 s (vi4+(1:Int)) vb5):=by kernel_rfl
theorem Fpquote_eq (F:Nat) (s:List UInt8):Fpquote F s=Bpquote_1 F F s (0:Int) []:=by kernel_rfl
theorem fn_pquote (F:Nat) (s:List UInt8) (r:AV) (h:(∃ M vs,ARels γ0 M [.p (.str s)] vs)->Fpquote F s=some (r,[])):FnP Tryz.prog 152 [.p (.str s)] r:=
 FnP_run Gpquote F rfl (EnvOk_mk (l:=[]) trivial) (EnvROk_mk (l:=[]) trivial) (Checked.mixed Tryz.checked) (fn:=Tryz.f152) (by kernel_rfl) (by kernel_rfl) rfl h
theorem Bpquote_spec (F:Nat) (s:List UInt8) (hs:s.length<=1000000):∀ (n f i:Nat) (acc:List UInt8),s.length - i<=n->n < f->i<=s.length->acc.length<=i->
 Bpquote_1 F f s (i:Int) acc=some (.tup [.p (.str (qtP acc (s.drop i)).1),.p (.str (qtP acc (s.drop i)).2)],[]):=by
 intro n
 induction n using Nat.strongRecOn with
 | _ n ih=>
  intro f i acc hn hf hi ha
  cases f with
  | zero=>omega
  | succ f=>
   rw [Bpquote_1_eq]
   by_cases h:i < s.length
   .obtain ⟨c,r,hd⟩:∃ c r,s.drop i=c::r:=⟨s[i],s.drop (i+1),List.drop_eq_getElem_cons h⟩
    obtain ⟨h1,h2,h3⟩:=drop_cons hd
    refine cond_t (by simp; omega) (need_mk ⟨by omega,by omega⟩ ?_)
    rw [Int.toNat_natCast,h1,show (i:Int)+1=((i+1:Nat):Int) by omega]
    by_cases e34:c=34
    .subst e34
     refine cond_t rfl (need_mk (by unfold i64ok; omega) (need_mk ⟨by omega,by omega⟩ ?_))
     rw [hd,qtP_end,Int.toNat_natCast,h2]
    .have ne:c.toNat≠34:=fun e=>e34 (UInt8.toNat_inj.1 e)
     refine cond_f (by simp; omega) (need_mk ⟨by omega,by omega⟩ (need_mk (fun _=>by unfold i64ok; omega) ?_))
     rw [Bpquote_2_eq]
     have step:∀ (d:UInt8) (j:Nat),j < s.length->i<=j->(qtP (acc++[d]) (s.drop (j+1)))=qtP acc (s.drop i)->Bpquote_3 F f s (j:Int) (acc++[d])=some (.tup [.p (.str (qtP acc (s.drop i)).1),.p (.str (qtP acc (s.drop i)).2)],[]):=by
      intro d j hj hij he
      rw [Bpquote_3_eq]
      refine need_mk (by unfold i64ok; omega) ?_
      rw [show (j:Int)+1=((j+1:Nat):Int) by omega,ih (s.length - (j+1)) (by omega) f (j+1) (acc++[d]) (by omega) (by omega) (by omega) (by simp; omega),he]
     by_cases e92:c=92/\i+1 < s.length
     .obtain ⟨e92,hlt⟩:=e92
      subst e92
      obtain ⟨d,r',hd'⟩:∃ d r',s.drop (i+1)=d::r':=⟨s[i+1],s.drop (i+1+1),List.drop_eq_getElem_cons hlt⟩
      obtain ⟨g1,g2,g3⟩:=drop_cons hd'
      refine cond_t (by simp; omega) (need_mk (by unfold i64ok; omega) (need_mk ⟨by omega,by omega⟩ (need_mk (by simp; omega) ?_)))
      rw [show (i:Int)+1=((i+1:Nat):Int) by omega]
      simp only [Int.toNat_natCast]
      rw [g1,UInt8.ofNat_toNat]
      refine step d (i+1) hlt (by omega) ?_
      rw [hd,<-h2,hd',qtP_esc,g2]
     .refine cond_f ?_ (need_mk ⟨by omega,by omega⟩ (need_mk (by simp; omega) ?_))
      .by_cases e:c=92
       .have hge:¬ i+1 < s.length:=fun h=>e92 ⟨e,h⟩
        simp; omega
       .have:c.toNat≠92:=fun e'=>e (UInt8.toNat_inj.1 e')
        simp; omega
      .simp only [Int.toNat_natCast]
       rw [h1,UInt8.ofNat_toNat]
       refine step c i h (Nat.le_refl _) ?_
       rw [hd,h2]
       by_cases e:c=92
       .subst e
        have hge:¬ i+1 < s.length:=fun h=>e92 ⟨rfl,h⟩
        have:s.drop (i+1)=[]:=List.drop_eq_nil_of_le (by omega)
        rw [<-h2,this,qtP_last,qtP_nil]
       .rw [qtP_step _ _ e34 e]
   .have:s.drop i=[]:=List.drop_eq_nil_of_le (by omega)
    rw [this,qtP_nil]
    exact cond_f (by simp; omega) rfl
theorem pquote_eq (s:List UInt8) (hs:s.length<=1000000):Fpquote (s.length+2) s=some (.tup [.p (.str (qtP [] s).1),.p (.str (qtP [] s).2)],[]):=by
 rw [Fpquote_eq]
 exact Bpquote_spec _ s hs s.length (s.length+2) 0 [] (by omega) (by omega) (by omega) (by simp)
def sp_pquote:List AV->Option (AV×Option Prop)
 | [.p (.str s)]=>some (.tup [.p (.str ((qtP [] s).1)),.p (.str ((qtP [] s).2))],some (s.length<=1000000))
 | _=>none
theorem ok_pquote:SpecOk Tryz.prog 152 sp_pquote:=by
 intro zs r ok he hok
 unfold sp_pquote at he
 split at he
 .cases he; exact ⟨by kernel_rfl,fn_pquote (_) _ _ fun hx=>pquote_eq _ hok⟩
 .cases he
noncomputable def cparam:Code:=bodyOf Tryz.f128
noncomputable def Gparam:Cfg:=⟨Tryz.prog,mkEnv [(53,sp_cut),(97,sp_pname),(98,sp_hp),(100,sp_trimr),(150,sp_triml),(151,sp_ixany),(152,sp_pquote)],mkEnvR [],64,[],[([1,0,1,0,1,1,1,1,1,1,1],⟨[0,2],[⟨.slot 2,2,.cells []⟩]⟩)],[]⟩
noncomputable def Bparam_1 (F:Nat) (vs1 vs2 vs3:List UInt8):Option Ans:=runB Gparam cparam (kP Tryz.prog Tryz.f128.results.toList) F [] [1,1,1,1,1,1,1,0,1,0,1] [(0,.p (.str vs1)),(2,.ref 2 0)] [(2,.cells [.p (.str vs2),.p (.str vs3)])]
noncomputable def Fparam (F:Nat) (s:List UInt8):Option Ans:=runF Gparam Tryz.f128 F [.p (.str s)]
theorem Bparam_1_eq (F:Nat) (vs1 vs2 vs3:List UInt8):Bparam_1 F vs1 vs2 vs3=need (vs1.length<=1000000) (some (.tup [.agg [.p (.str vs2),.p (.str vs3)],.p (.str ((cutS vs1 59).2.1)),.p (.bool ((cutS vs1 59).2.2))],[])):=by kernel_rfl
theorem Fparam_eq (F:Nat) (s:List UInt8):Fparam F s=need (s.length<=1000000) (need ((trimLB s).length<=1000000) (cond (decide ((ixSep (trimLB s)) < (0:Int))) (need ((trimLB s).length<=1000000) (some (.tup [.agg [.p (.str (nameP (trimLB s))),.p (.str ([]:List UInt8))],.p (.str ([]:List UInt8)),.p (.bool false)],[]))) (need (0<=(ixSep (trimLB s))/\(ixSep (trimLB s))<=((trimLB s).length:Int)) (need (((trimLB s).take (ixSep (trimLB s)).toNat).length<=1000000) (need (0<=(ixSep (trimLB s))/\(ixSep (trimLB s)) < ((trimLB s).length:Int)) (cond ((((trimLB s).getD (ixSep (trimLB s)).toNat 0).toNat:Int)==(59:Int)) (need (i64ok ((ixSep (trimLB s))+(1:Int))) (need (0<=((ixSep (trimLB s))+(1:Int))/\((ixSep (trimLB s))+(1:Int))<=((trimLB s).length:Int)) (some (.tup [.agg [.p (.str (nameP ((trimLB s).take (ixSep (trimLB s)).toNat))),.p (.str ([]:List UInt8))],.p (.str ((trimLB s).drop ((ixSep (trimLB s))+(1:Int)).toNat)),.p (.bool true)],[])))) (need (i64ok ((ixSep (trimLB s))+(1:Int))) (need (0<=((ixSep (trimLB s))+(1:Int))/\((ixSep (trimLB s))+(1:Int))<=((trimLB s).length:Int)) (need (((trimLB s).drop ((ixSep (trimLB s))+(1:Int)).toNat).length<=1000000) (cond (hasP (trimLB ((trimLB s).drop ((ixSep (trimLB s))+(1:Int)).toNat)) ([34]:List UInt8)) (need (0<=(1:Int)/\(1:Int)<=((trimLB ((trimLB s).drop ((ixSep (trimLB s))+(1:Int)).toNat)).length:Int)) (need (((trimLB ((trimLB s).drop ((ixSep (trimLB s))+(1:Int)).toNat)).drop ((1:Int)).toNat).length<=1000000) (Bparam_1 F ((qtP [] ((trimLB ((trimLB s).drop ((ixSep (trimLB s))+(1:Int)).toNat)).drop ((1:Int)).toNat)).2) (nameP ((trimLB s).take (ixSep (trimLB s)).toNat)) ((qtP [] ((trimLB ((trimLB s).drop ((ixSep (trimLB s))+(1:Int)).toNat)).drop ((1:Int)).toNat)).1)))) (need ((trimLB ((trimLB s).drop ((ixSep (trimLB s))+(1:Int)).toNat)).length<=1000000) (need (((cutS (trimLB ((trimLB s).drop ((ixSep (trimLB s))+(1:Int)).toNat)) 59).1).length<=1000000) (some (.tup [.agg [.p (.str (nameP ((trimLB s).take (ixSep (trimLB s)).toNat))),.p (.str (trimRB ((cutS (trimLB ((trimLB s).drop ((ixSep (trimLB s))+(1:Int)).toNat)) 59).1)))],.p (.str ((cutS (trimLB ((trimLB s).drop ((ixSep (trimLB s))+(1:Int)).toNat)) 59).2.1)),.p (.bool ((cutS (trimLB ((trimLB s).drop ((ixSep (trimLB s))+(1:Int)).toNat)) 59).2.2))],[])))))))))))))):=by kernel_rfl
theorem fn_param (F:Nat) (s:List UInt8) (r:AV) (h:(∃ M vs,ARels γ0 M [.p (.str s)] vs)->Fparam F s=some (r,[])):FnP Tryz.prog 128 [.p (.str s)] r:=
 FnP_run Gparam F rfl (EnvOk_mk (l:=[(53,sp_cut),(97,sp_pname),(98,sp_hp),(100,sp_trimr),(150,sp_triml),(151,sp_ixany),(152,sp_pquote)]) ⟨ok_cut.any,ok_pname.any,ok_hp.any,ok_trimr.any,ok_triml.any,ok_ixany.any,ok_pquote.any,trivial⟩) (EnvROk_mk (l:=[]) trivial) (Checked.mixed Tryz.checked) (fn:=Tryz.f128) (by kernel_rfl) (by kernel_rfl) rfl h
theorem param_eq (s:List UInt8) (hs:s.length<=1000000):Fparam 0 s=some (.tup [.agg [.p (.str (paramP s).1.1),.p (.str (paramP s).1.2)],.p (.str (paramP s).2.1),.p (.bool (paramP s).2.2)],[]):=by
 have hl:=trimLB_len s
 rw [Fparam_eq]
 unfold paramP
 obtain ⟨t,ht⟩:∃ t,trimLB s=t:=⟨_,rfl⟩
 rw [ht] at hl ⊢
 refine need_mk hs (need_mk (by omega) ?_)
 rcases ixSep_split t with ⟨h1,h2,h3⟩ | ⟨c,u,h1,h2,h3,h4⟩
 .rw [h1,h3]
  exact cond_t rfl (need_mk (by omega) rfl)
 .obtain ⟨n,hn⟩:∃ n,t.takeWhile nsep=n:=⟨_,rfl⟩
  rw [hn] at h3 h4
  rw [h1,h4]
  dsimp only
  rw [hn]
  have hlen:t.length=n.length+1+u.length:=by rw [h3]; simp; omega
  have htk:t.take n.length=n:=by rw [h3]; simp
  have hdr:t.drop (n.length+1)=u:=by rw [h3]; simp
  have hg:t.getD n.length 0=c:=by rw [h3]; simp [List.getD_eq_getElem?_getD]
  refine cond_f (by simp) (need_mk ⟨by omega,by omega⟩ (need_mk (by simp; omega) (need_mk ⟨by omega,by omega⟩ ?_)))
  rw [Int.toNat_natCast,htk,hg,show (n.length:Int)+1=((n.length+1:Nat):Int) by omega,Int.toNat_natCast,hdr]
  by_cases h59:c=59
  .subst h59
   rw [if_pos rfl]
   exact cond_t rfl (need_mk (by unfold i64ok; omega) (need_mk ⟨by omega,by omega⟩ rfl))
  .have ne:c.toNat≠59:=fun e=>h59 (UInt8.toNat_inj.1 e)
   rw [if_neg h59]
   have hu:=trimLB_len u
   refine cond_f (by simp; omega) (need_mk (by unfold i64ok; omega) (need_mk ⟨by omega,by omega⟩ (need_mk (by omega) ?_)))
   rw [hasP_one]
   cases hv:trimLB u with
   | nil=>
    dsimp only
    exact cond_f rfl (need_mk (by simp) (need_mk (by decide) rfl))
   | cons d q=>
    have hq:d::q=trimLB u:=hv.symm
    have hql:q.length+1<=u.length:=by rw [hv] at hu; simpa using hu
    dsimp only
    by_cases h34:d=34
    .subst h34
     rw [if_pos rfl]
     have hqt:=qtP_len q.length [] q (Nat.le_refl _)
     refine cond_t rfl (need_mk ⟨by decide,by simp; omega⟩ (need_mk (by simp; omega) ?_))
     rw [Bparam_1_eq]
     show need ((qtP [] q).2.length<=1000000) _=_
     exact need_mk (by omega) rfl
    .rw [if_neg h34]
     have hcl:=cutS_len (d::q) 59
     refine cond_f (by simpa using h34) (need_mk (by simp; omega) (need_mk (by simp at hcl; omega) rfl))
def sp_param:List AV->Option (AV×Option Prop)
 | [.p (.str s)]=>some (.tup [.agg [.p (.str ((paramP s).1.1)),.p (.str ((paramP s).1.2))],.p (.str ((paramP s).2.1)),.p (.bool ((paramP s).2.2))],some (s.length<=1000000))
 | _=>none
theorem ok_param:SpecOk Tryz.prog 128 sp_param:=by
 intro zs r ok he hok
 unfold sp_param at he
 split at he
 .cases he; exact ⟨by kernel_rfl,fn_param 0 _ _ fun hx=>param_eq _ hok⟩
 .cases he
theorem cut_dec (v:List UInt8):(cutS v 59).2.2=true->(cutS v 59).2.1.length < v.length:=by
 rcases cut_split 59 v with ⟨p,q,e,_,h⟩ | ⟨_,h⟩
 .rw [h,e]; intro _; simp; omega
 .rw [h]; intro h; cases h
theorem paramP_le (s:List UInt8):(paramP s).2.1.length<=s.length/\((paramP s).2.2=true->(paramP s).2.1.length < s.length):=by
 have hl:=trimLB_len s
 unfold paramP
 rcases ixSep_split (trimLB s) with ⟨h1,h2,h3⟩ | ⟨c,u,h1,h2,h3,h4⟩
 .rw [h1]; simp
 .have hlen:=congrArg List.length h3
  simp only [List.length_append,List.length_cons] at hlen
  rw [h1]
  dsimp only
  by_cases h59:c=59
  .rw [if_pos h59]; dsimp only; exact ⟨by omega,fun _=>by omega⟩
  .rw [if_neg h59]
   have hu:=trimLB_len u
   cases hv:trimLB u with
   | nil=>simp
   | cons d q=>
    have hql:q.length+1<=u.length:=by rw [hv] at hu; simpa using hu
    dsimp only
    by_cases h34:d=34
    .rw [if_pos h34]
     have hqt:=qtP_len q.length [] q (Nat.le_refl _)
     have hcl:=cutS_len (qtP [] q).2 59
     exact ⟨by dsimp only; omega,fun h=>by have:=cut_dec _ h; dsimp only; omega⟩
    .rw [if_neg h34]
     have hcl:=cutS_len (d::q) 59
     simp only [List.length_cons] at hcl
     exact ⟨by dsimp only; omega,fun h=>by have:=cut_dec _ h; simp only [List.length_cons] at this; dsimp only; omega⟩
noncomputable def cvalues:Code:=bodyOf Tryz.f95
noncomputable def Gvalues:Cfg:=⟨Tryz.prog,mkEnv [(53,sp_cut),(97,sp_pname),(128,sp_param)],mkEnvR [],30,[],[([0,0,1,1],⟨[2,3,4,5],[⟨.slot 3,3,(.larr 76 false 2 (.dat (.pair .str .str) ([]:List (List UInt8×List UInt8))))⟩]⟩)],[]⟩
noncomputable def Bvalues_1 (F f1:Nat) (vs1 vs2:List UInt8) (vc3:Bool) (vl4:List (List UInt8×List UInt8)):Option Ans:=runR Gvalues cvalues (kP Tryz.prog Tryz.f95.results.toList) F [] [1,1,0,0] f1 [(2,.p (.str vs1)),(3,.arr 3),(4,.p (.str vs2)),(5,.p (.bool vc3))] [(3,.larr 76 false 2 (.dat (.pair .str .str) vl4))]
noncomputable def Fvalues (F:Nat) (s:List UInt8):Option Ans:=runF Gvalues Tryz.f95 F [.p (.str s)]
theorem Bvalues_1_eq (F f1:Nat) (vs1 vs2:List UInt8) (vc3:Bool) (vl4:List (List UInt8×List UInt8)):Bvalues_1 F (f1+1) vs1 vs2 vc3 vl4=cond (vc3) (need (vs2.length<=1000000) (cond (((paramP vs2).1.1) != ([]:List UInt8)) (need ((vl4.length+[((paramP vs2).1.1,(paramP vs2).1.2)].length) * 32<=140737488355328) (Bvalues_1 F f1 vs1 ((paramP vs2).2.1) ((paramP vs2).2.2) (vl4++[((paramP vs2).1.1,(paramP vs2).1.2)]))) (Bvalues_1 F f1 vs1 ((paramP vs2).2.1) ((paramP vs2).2.2) vl4))) (need (vs1.length<=1000000) (some (.tup [.p (.str (nameP vs1)),.p (.list 2 (.dat (.pair .str .str) vl4))],[]))):=by kernel_rfl
theorem Fvalues_eq (F:Nat) (s:List UInt8):Fvalues F s=need (s.length<=1000000) (Bvalues_1 F F ((cutS s 59).1) ((cutS s 59).2.1) ((cutS s 59).2.2) ([]:List (List UInt8×List UInt8))):=by kernel_rfl
theorem fn_values (F:Nat) (s:List UInt8) (r:AV) (h:(∃ M vs,ARels γ0 M [.p (.str s)] vs)->Fvalues F s=some (r,[])):FnP Tryz.prog 95 [.p (.str s)] r:=
 FnP_run Gvalues F rfl (EnvOk_mk (l:=[(53,sp_cut),(97,sp_pname),(128,sp_param)]) ⟨ok_cut.any,ok_pname.any,ok_param.any,trivial⟩) (EnvROk_mk (l:=[]) trivial) (Checked.mixed Tryz.checked) (fn:=Tryz.f95) (by kernel_rfl) (by kernel_rfl) rfl h
theorem Bvalues_spec (F:Nat) (w:List UInt8) (hw:w.length<=1000000):∀ (n f:Nat) (r:List UInt8) (m:Bool) (l:List (List UInt8×List UInt8)),(m=true->r.length < n)->n < f->r.length<=1000000->l.length+n<=3000000->
 Bvalues_1 F f w r m l=some (.tup [.p (.str (nameP w)),.p (.list 2 (.dat (.pair .str .str) (valsP n r m l)))],[]):=by
 intro n
 induction n with
 | zero=>
  intro f r m l h1 hf hr hl
  cases f with
  | zero=>omega
  | succ f=>
   cases m with
   | true=>exact absurd (h1 rfl) (by omega)
   | false=>rw [Bvalues_1_eq]; exact cond_f rfl (need_mk hw rfl)
 | succ n ih=>
  intro f r m l h1 hf hr hl
  cases f with
  | zero=>omega
  | succ f=>
   rw [Bvalues_1_eq]
   cases m with
   | false=>rw [valsP,if_neg (by simp)]; exact cond_f rfl (need_mk hw rfl)
   | true=>
    obtain ⟨p1,p2⟩:=paramP_le r
    have h1:=h1 rfl
    rw [valsP,if_pos rfl]
    refine cond_t rfl (need_mk hr ?_)
    by_cases hne:(paramP r).1.1=[]
    .rw [if_neg (by simpa using hne)]
     exact cond_f (by simpa using hne) (ih f _ _ l (fun h=>by have:=p2 h; omega) (by omega) (by omega) (by omega))
    .rw [if_pos hne]
     refine cond_t (by simpa using hne) (need_mk (by simp; omega) ?_)
     exact ih f _ _ _ (fun h=>by have:=p2 h; omega) (by omega) (by omega) (by simp; omega)
theorem values_eq (s:List UInt8) (hs:s.length<=1000000):Fvalues (s.length+2) s=some (.tup [.p (.str (valuesP s).1),.p (.list 2 (.dat (.pair .str .str) (valuesP s).2))],[]):=by
 have hl:=cutS_len s 59
 rw [Fvalues_eq]
 exact need_mk hs (Bvalues_spec _ _ (by omega) (s.length+1) (s.length+2) _ _ [] (fun _=>by omega) (by omega) (by omega) (by simp; omega))
def sp_values:List AV->Option (AV×Option Prop)
 | [.p (.str s)]=>some (.tup [.p (.str ((valuesP s).1)),.p (.list 2 (.dat (.pair .str .str) ((valuesP s).2)))],some (s.length<=1000000))
 | _=>none
theorem ok_values:SpecOk Tryz.prog 95 sp_values:=by
 intro zs r ok he hok
 unfold sp_values at he
 split at he
 .cases he; exact ⟨by kernel_rfl,fn_values (_) _ _ fun hx=>values_eq _ hok⟩
 .cases he
end Go.Proofs.YtoanepondbagcaaGreatDoor
