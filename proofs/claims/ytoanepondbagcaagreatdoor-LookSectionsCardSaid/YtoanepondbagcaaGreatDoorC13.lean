/-
  Lifted functions, and facts about them.
-/
import Derived.Test.YtoanepondbagcaaGreatDoorRows
import Derived.Test.YtoanepondbagcaaGreatDoorAmC
import Derived.Test.YtoanepondbagcaaGreatDoorC01
import Derived.Test.YtoanepondbagcaaGreatDoorC12
import Derived.Test.YtoanepondbagcaaGreatDoorC03
namespace Go.Proofs.YtoanepondbagcaaGreatDoor
open Go Go.Am
set_option linter.unusedVariables false
theorem Bcpart_10_spec (k F f1 b:Nat) (dp:Int) (mk:List UInt8) (L:List (Int×List UInt8×Int)) (o i:Nat) (en:Bool) (y:Nat)
 (z1 z2:List UInt8) (z3:Bool) (z4 z5 z6:Int) (ty:List UInt8) (ps:List (List UInt8×List UInt8)) (ec:List UInt8) (at_:Bool) (h f t:Int) (z7:List (List UInt8×List UInt8)) (z8 acc:List Part) (s:List UInt8) (n:Int)
 (D:Nat) (hD:(6 - (dp+1)).toNat=D) (hD5:D<=5) (hk:∀ n:Int,0<=n->n<=30->ofok k s (dp+1) o y n) (hdp:0<=dp/\dp<=6) (ha:acc.length<=1000001) (hn:0<=n) (hn1:n<=40) (l:List (Int×Int))
 (nxt:∀ (acc':List Part) (n':Int),acc'.length<=acc.length+1->0<=n'->n'<=40->Bcpart_11 k F f1 (b:Int) dp mk L (i:Int) en z1 z2 z3 z4 z5 z6 ty ps ec at_ h f t z7 z8 acc' s n'=cpR ty ps ec at_ h f t s acc' (kidsP 0 (treeP 0 s D) l n')):
 Bcpart_10 k F f1 (b:Int) dp mk L (o:Int) (i:Int) en (y:Int) z1 z2 z3 z4 z5 z6 ty ps ec at_ h f t z7 z8 acc s n=cpR ty ps ec at_ h f t s acc (kidsP 0 (treeP 0 s D) (((o:Int),(y:Int))::l) n):=by
 rw [Bcpart_10_eq,hD,part_eta,cpR_cons]
 by_cases hr:n+1<=30
 .rw [if_pos hr]
  have hc:=tree_cnt (e:=0) (by decide) (by decide) s D o y (n+1) (by omega) hr
  refine cond_t (by simp; omega) (need_mk (by unfold i64ok; omega) (need_mk (hk (n+1) (by omega) hr) (need_mk (by simp; omega) (need_mk (by unfold i64ok; omega) (need_mk (hk (n+1) (by omega) hr) (need_mk (by simp; omega) ?_))))))
  exact nxt _ _ (by simp) (by omega) (by omega)
 .rw [if_neg hr]
  exact cond_f (by simp; omega) (nxt _ _ (by omega) hn hn1)
theorem Bcpart_spec (k F b:Nat) (dp:Int) (mk s:List UInt8) (hs:s.length<=1000000) (hb:b<=s.length) (hmk:mk.length<=1000000)
 (z1 z2:List UInt8) (z3:Bool) (z4 z5 z6:Int) (ty:List UInt8) (ps:List (List UInt8×List UInt8)) (ec:List UInt8) (at_:Bool) (h f t:Int) (z7:List (List UInt8×List UInt8)) (z8:List Part)
 (D:Nat) (hD:(6 - (dp+1)).toNat=D) (hD5:D<=5) (hk:∀ x y n:Int,0<=x->x<=y->y<=b->0<=n->n<=30->ofok k s (dp+1) x y n) (hdp:0<=dp/\dp<=6) (L:List (Nat×List UInt8×Nat)) (hL:L.length<=1000000):∀ (r:List (Nat×List UInt8×Nat)) (fu i p:Nat) (op:Option Nat) (acc:List Part) (n:Int),L.drop i=r->r=linesN s p b->r.length < fu->i<=L.length->p<=b->(∀ o,op=some o->o<=p)->acc.length<=i->0<=n->n<=40->
 Bcpart_6 k F fu (b:Int) dp mk (L.map castL) (opI op) (i:Int) z1 z2 z3 z4 z5 z6 ty ps ec at_ h f t z7 z8 acc s n=cpR ty ps ec at_ h f t s acc (kidsP 0 (treeP 0 s D) ((spF s ([45,45]++mk) b r op []).map spanI) n):=by
 intro r
 induction r with
 | nil=>
  intro fu i p op acc n hd hr hf hi hp ho ha hn hn1
  have hiL:i=L.length:=by have:=congrArg List.length hd; simp at this; omega
  cases fu with
  | zero=>omega
  | succ fu=>
   rw [Bcpart_6_eq,List.length_map]
   refine cond_t (by simp; omega) (cond_f (by simp; omega) ?_)
   have h11:∀ (acc':List Part) (n':Int),acc'.length<=acc.length+1->0<=n'->n'<=40->Bcpart_11 k F fu (b:Int) dp mk (L.map castL) (i:Int) false z1 z2 z3 z4 z5 z6 ty ps ec at_ h f t z7 z8 acc' s n'=cpR ty ps ec at_ h f t s acc' (kidsP 0 (treeP 0 s D) [] n'):=by
    intro acc' n' h1 h2 h3
    rw [Bcpart_11_eq,List.length_map]
    refine cond_t (by simp; omega) ?_
    rw [Bcpart_12_eq,kidsP]
    unfold cpR
    rw [List.append_nil]
   rw [Bcpart_9_eq,List.length_map]
   cases op with
   | none=>exact cond_f rfl (h11 acc n (by omega) hn hn1)
   | some o=>
    have h1:=ho o rfl
    refine cond_t (by simp [opI]) (cond_f (by simp; omega) ?_)
    exact Bcpart_10_spec k F fu b dp mk (L.map castL) o i false b z1 z2 z3 z4 z5 z6 ty ps ec at_ h f t z7 z8 acc s n D hD hD5 (fun m h2 h3=>hk _ _ _ (by omega) (by omega) (by omega) h2 h3) hdp (by omega) hn hn1 [] h11
 | cons c r ih=>
  intro fu i p op acc n hd hr hf hi hp ho ha hn hn1
  have hpb:p < b:=by
   refine Classical.byContradiction fun q=>?_
   rw [linesN_nil (by omega)] at hr; cases hr
  obtain ⟨y1,y2,y3,y4⟩:=nextL_spec hpb hb
  rw [y1] at hr
  obtain ⟨tx,ht⟩:∃ t,(nextL s p b).1=t:=⟨_,rfl⟩
  obtain ⟨nx,hx⟩:∃ nx,(nextL s p b).2=nx:=⟨_,rfl⟩
  rw [ht,hx] at hr
  rw [hx] at y2 y3
  rw [ht,hx] at y4
  obtain ⟨rfl,rfl⟩:=List.cons.inj hr
  have hdm:(L.map castL).drop i=castL (p,tx,nx)::(linesN s nx b).map castL:=by rw [<-List.map_drop,hd]; rfl
  obtain ⟨k1,_,k3⟩:=dropG hdm ((0:Int),([],(0:Int)))
  obtain ⟨_,g2,g3⟩:=dropG hd (0,[],0)
  rw [List.length_map] at k3
  cases fu with
  | zero=>omega
  | succ fu=>
   have h8:∀ (op':Option Nat) (acc':List Part) (n':Int),(∀ o,op'=some o->o<=nx)->acc'.length<=i+1->0<=n'->n'<=40->Bcpart_8 k F fu (b:Int) dp mk (L.map castL) (opI op') (i:Int) z1 z2 z3 z4 z5 z6 ty ps ec at_ h f t z7 z8 acc' s n'=cpR ty ps ec at_ h f t s acc' (kidsP 0 (treeP 0 s D) ((spF s ([45,45]++mk) b (linesN s nx b) op' []).map spanI) n'):=by
    intro op' acc' n' h1 h2 h3 h4
    rw [Bcpart_8_eq]
    refine need_mk (by unfold i64ok; omega) ?_
    rw [show (i:Int)+1=((i+1:Nat):Int) by omega]
    exact ih fu (i+1) nx op' acc' n' g2 rfl (by simp at hf; omega) (by omega) y3 h1 h2 h3 h4
   have h9:∀ (en:Bool) (l:List (Int×Int)),(∀ (acc':List Part) (n':Int),acc'.length<=acc.length+1->0<=n'->n'<=40->Bcpart_11 k F fu (b:Int) dp mk (L.map castL) (i:Int) en z1 z2 z3 z4 z5 z6 ty ps ec at_ h f t z7 z8 acc' s n'=cpR ty ps ec at_ h f t s acc' (kidsP 0 (treeP 0 s D) l n'))->
    Bcpart_9 k F fu (b:Int) dp mk (L.map castL) (opI op) (i:Int) en z1 z2 z3 z4 z5 z6 ty ps ec at_ h f t z7 z8 acc s n=cpR ty ps ec at_ h f t s acc (kidsP 0 (treeP 0 s D) ((addS s op p []).map spanI++l) n):=by
    intro en l h11
    rw [Bcpart_9_eq,List.length_map,Int.toNat_natCast,k1]
    cases op with
    | none=>exact cond_f rfl (h11 acc n (by omega) hn hn1)
    | some o=>
     have h1:=ho o rfl
     refine cond_t (by simp [opI]) (cond_t (by simp; omega) (need_mk ⟨by omega,by omega⟩ (need_mk ⟨by show (0:Int)<=(o:Int); omega,by show (o:Int)<=(p:Int); omega,by show (p:Int)<=_; omega,hs⟩ ?_)))
     have hmx:(if ((backN s ((castL (p,tx,nx)).1).toNat (opI (some o)).toNat:Nat):Int) > opI (some o) then ((backN s ((castL (p,tx,nx)).1).toNat (opI (some o)).toNat:Nat):Int) else opI (some o))=((maxN o (aheadN s p):Nat):Int):=by
      show (if ((backN s ((p:Int)).toNat ((o:Int)).toNat:Nat):Int) > (o:Int) then ((backN s ((p:Int)).toNat ((o:Int)).toNat:Nat):Int) else (o:Int))=_
      rw [Int.toNat_natCast,Int.toNat_natCast,maxI,back_ahead s h1]
     rw [hmx]
     have hle:=(aheadN_le s p).1
     have hm1:o<=maxN o (aheadN s p)/\maxN o (aheadN s p)<=p:=by unfold maxN; split <;> omega
     exact Bcpart_10_spec k F fu b dp mk (L.map castL) o i en (maxN o (aheadN s p)) z1 z2 z3 z4 z5 z6 ty ps ec at_ h f t z7 z8 acc s n D hD hD5 (fun m h2 h3=>hk _ _ _ (by omega) (by omega) (by omega) h2 h3) hdp (by omega) hn hn1 l h11
   rw [Bcpart_6_eq,List.length_map,Int.toNat_natCast,k1]
   refine cond_t (by simp; omega) (cond_t (by simp; omega) (need_mk ⟨by omega,by omega⟩ (need_mk (by show tx.length<=_; omega) (need_mk (by unfold lenok; simp; omega) (need_mk (by unfold lenok; simp; omega) ?_)))))
   rw [Bcpart_7_eq]
   refine need_mk (fun _=>by unfold lenok; simp; omega) ?_
   show cond (!(trimRB tx==([45,45]++mk)++[45,45])&&(trimRB tx != ([45,45]++mk))) _ (Bcpart_9 k F fu (b:Int) dp mk (L.map castL) (opI op) (i:Int) (trimRB tx==([45,45]++mk)++[45,45]) z1 z2 z3 z4 z5 z6 ty ps ec at_ h f t z7 z8 acc s n)=_
   rw [spF]
   by_cases he:trimRB tx=([45,45]++mk)++[45,45]
   .rw [if_pos he,he]
    refine cond_f (by simp) ?_
    have:=h9 true [] fun acc' n' h1 h2 h3=>by
     rw [Bcpart_11_eq,List.length_map]
     refine cond_t rfl ?_
     rw [Bcpart_12_eq,kidsP]
     unfold cpR
     rw [List.append_nil]
    rw [List.append_nil] at this
    rw [beq_self_eq_true]; exact this
   .have heb:(trimRB tx==([45,45]++mk)++[45,45])=false:=by rw [beq_eq_false_iff_ne]; exact he
    rw [if_neg he,heb]
    by_cases hm:trimRB tx=[45,45]++mk
    .rw [if_pos hm]
     refine cond_f (by rw [hm]; simp) ?_
     rw [spF_out,List.map_append]
     refine h9 false _ fun acc' n' h1 h2 h3=>?_
     rw [Bcpart_11_eq,List.length_map,Int.toNat_natCast,k1]
     refine cond_f (by simp; omega) (need_mk ⟨by omega,by omega⟩ ?_)
     exact h8 (some nx) acc' n' (fun o h=>by cases h; omega) (by omega) h2 h3
    .rw [if_neg hm]
     refine cond_t (by simp only [Bool.not_false,Bool.true_and,bne_iff_ne]; exact hm) ?_
     exact h8 op acc n (fun o h=>by have:=ho o h; omega) (by omega) hn hn1
theorem paramP_nlen (s:List UInt8):(paramP s).1.1.length<=s.length:=by
 have hl:=trimLB_len s
 have h1:=nameP_len (trimLB s)
 have h2:=nameP_len ((trimLB s).takeWhile nsep)
 have h3:((trimLB s).takeWhile nsep).length<=(trimLB s).length:=(List.takeWhile_prefix _).length_le
 unfold paramP
 split
 .dsimp only; omega
 .split
  .dsimp only; omega
  .split
   .dsimp only; omega
   .split <;> (dsimp only; omega)
theorem valsP_nlen (N:Nat):∀ (n:Nat) (r:List UInt8) (m:Bool) (l:List (List UInt8×List UInt8)),r.length<=N->(∀ x ∈ l,x.1.length<=N)->∀ x ∈ valsP n r m l,x.1.length<=N
 | 0,r,m,l,hr,hl=>hl
 | n+1,r,m,l,hr,hl=>by
  rw [valsP]
  split
  .have h1:=(paramP_le r).1
   have h2:=paramP_nlen r
   refine valsP_nlen N n _ _ _ (by omega) ?_
   split
   .intro x hx
    rcases List.mem_append.1 hx with hx | hx
    .exact hl x hx
    .rw [List.mem_singleton.1 hx]; omega
   .exact hl
  .exact hl
theorem one_names (s:List UInt8) (a b:Int) (hs:s.length<=1000000):∀ x ∈ (oneP s a b).params,x.1.length<=140737488355328:=by
 have hel:=splitS_elem s a b
 have hv:=firstS_len (l:=(splitS s a b).1) (n:=cType) (k:=s.length) fun x hx=>(hel x hx).2
 show ∀ x ∈ (typeF (splitS s a b).1).2,_
 obtain ⟨l,hl⟩:∃ l,(splitS s a b).1=l:=⟨_,rfl⟩
 rw [hl] at hv ⊢
 unfold typeF
 split
 .split
  .have hc:=cutS_len (firstS l cType).1 59
   have:=valsP_nlen (firstS l cType).1.length ((firstS l cType).1.length+1) (cutS (firstS l cType).1 59).2.1 (cutS (firstS l cType).1 59).2.2 [] (by omega) (by simp)
   exact fun x hx=>by have:=this x hx; omega
  .simp [plainT]
 .simp [plainT]
theorem hasP_ten (ty:List UInt8):((decide ((ty.length:Int) < (10:Int)))||((ty.take ((10:Int)).toNat) != ([109,117,108,116,105,112,97,114,116,47]:List UInt8)))=!(hasP ty [109,117,108,116,105,112,97,114,116,47]):=by
 unfold hasP
 show _=(ty.take 10 != ([109,117,108,116,105,112,97,114,116,47]:List UInt8))
 rw [show ((10:Int)).toNat=10 from rfl]
 cases hc:(ty.take 10 != ([109,117,108,116,105,112,97,114,116,47]:List UInt8)) with
 | true=>rw [Bool.or_true]
 | false=>
  rw [Bool.or_false,decide_eq_false_iff_not]
  have:=congrArg List.length (bne_eq_false_iff_eq.1 hc)
  simp at this; omega
theorem bnd_cond (ty:List UInt8) (ps:List (List UInt8×List UInt8)) (hn:∀ x ∈ ps,foldS x.1=x.1) (dp:Int):
 (((((decide (dp>=(6:Int)))||(decide ((ty.length:Int) < (10:Int))))||((ty.take ((10:Int)).toNat) != ([109,117,108,116,105,112,97,114,116,47]:List UInt8)))||(!((firstS ps bndL).2)))||(((firstS ps bndL).1)==([]:List UInt8)))=((decide (dp>=6))||(boundP ty ps==[])):=by
 rw [Bool.or_assoc (decide (dp>=6)),hasP_ten,Bool.or_assoc,Bool.or_assoc]
 congr 1
 have hf:((!((firstS ps bndL).2))||(((firstS ps bndL).1)==([]:List UInt8)))=((firstS ps bndL).1==[]):=by
  cases h:(firstS ps bndL).2 with
  | true=>rw [Bool.not_true,Bool.false_or]
  | false=>rw [firstS_none ps h]; rfl
 rw [hf,bnd_find ps hn]
 unfold boundP
 cases hc:hasP ty [109,117,108,116,105,112,97,114,116,47] with
 | true=>
  rw [if_pos rfl,Bool.not_true,Bool.false_or]
  cases List.find? (fun x=>x.1==[98,111,117,110,100,97,114,121]) ps <;> rfl
 | false=>rw [if_neg (by simp)]; rfl
theorem bnd_mark (ty:List UInt8) (ps:List (List UInt8×List UInt8)) (hn:∀ x ∈ ps,foldS x.1=x.1) (h:boundP ty ps≠[]):(firstS ps bndL).1=boundP ty ps:=by
 rw [bnd_find ps hn]
 unfold boundP at h ⊢
 cases hc:hasP ty [109,117,108,116,105,112,97,114,116,47] with
 | true=>
  rw [if_pos rfl]
  cases List.find? (fun x=>x.1==[98,111,117,110,100,97,114,121]) ps <;> rfl
 | false=>rw [hc,if_neg (by simp)] at h; exact absurd rfl h
theorem cpart_eq (k:Nat) (a b dp:Int) (s:List UInt8) (n:Int) (h:ofok (k+1) s dp a b (n+1)):Fcpart k (s.length+2) a b dp s n=cpR (treeP 0 s (6 - dp).toNat a b (n+1)).1.type (treeP 0 s (6 - dp).toNat a b (n+1)).1.params (treeP 0 s (6 - dp).toNat a b (n+1)).1.enc (treeP 0 s (6 - dp).toNat a b (n+1)).1.attach (treeP 0 s (6 - dp).toNat a b (n+1)).1.head (treeP 0 s (6 - dp).toNat a b (n+1)).1.frm (treeP 0 s (6 - dp).toNat a b (n+1)).1.til s [] ((treeP 0 s (6 - dp).toNat a b (n+1)).1.kids,(treeP 0 s (6 - dp).toNat a b (n+1)).2):=by
 obtain ⟨d0,d1,d2,a0,a1,a2,hs,n0,n1⟩:=h
 obtain ⟨w1,w2⟩:=one_params s a b
 obtain ⟨g1,g2⟩:=body_ok a0 a1 a2
 have hel:=splitS_elem s a b
 have hll:=splitS_len s a b
 have hk:∀ n:List UInt8,n.length<=100->firstok (splitS s a b).1 n:=fun n hn=>⟨by omega,fun x hx=>by have:=(hel x hx).1; omega,by omega⟩
 have hv:∀ n:List UInt8,(firstS (splitS s a b).1 n).1.length<=1000000:=fun n=>firstS_len fun x hx=>by have:=(hel x hx).2; omega
 have e1:∀ l:List (List UInt8×List UInt8),firstS l [67,111,110,116,101,110,116,45,84,121,112,101]=firstS l cType:=firstS_fold (by decide)
 have e2:∀ l:List (List UInt8×List UInt8),firstS l LB_70cef6b0=firstS l LB_7e72d125:=firstS_fold (by decide)
 have e3:∀ l:List (List UInt8×List UInt8),firstS l LB_6066e367=firstS l LB_476f38ec:=firstS_fold (by decide)
 have hbl:∀ v:List UInt8,(trimBl v).length<=v.length:=trimBl_len
 rw [Fcpart_eq]
 refine need_mk (by unfold i64ok; omega) (need_mk hs (need_mk (hk _ (by decide)) ?_))
 have key:∀ D,(6 - dp).toNat=D->∀ (ty:List UInt8) (ps:List (List UInt8×List UInt8)) (enc:List UInt8) (att:Bool),ty=(oneP s a b).type->ps=(oneP s a b).params->enc=(oneP s a b).enc->att=(oneP s a b).attach->
  Bcpart_4 k (s.length+2) b dp (oneP s a b).frm [] [] false 0 0 0 ty ps enc att a (oneP s a b).frm b [] [] [] s (n+1)=cpR (treeP 0 s D a b (n+1)).1.type (treeP 0 s D a b (n+1)).1.params (treeP 0 s D a b (n+1)).1.enc (treeP 0 s D a b (n+1)).1.attach (treeP 0 s D a b (n+1)).1.head (treeP 0 s D a b (n+1)).1.frm (treeP 0 s D a b (n+1)).1.til s [] ((treeP 0 s D a b (n+1)).1.kids,(treeP 0 s D a b (n+1)).2):=by
  rintro D hD _ _ _ _ rfl rfl rfl rfl
  have hnm:∀ x ∈ (oneP s a b).params,foldS x.1=x.1:=typeF_names _
  have hnl:∀ x ∈ (oneP s a b).params,x.1.length<=140737488355328:=one_names s a b hs
  rw [Bcpart_4_eq]
  refine need_mk ⟨by simp,hnl,by omega⟩ (need_mk (fun hx=>⟨by omega,?_⟩) ?_)
  .simp only [Bool.not_eq_true',Bool.or_eq_false_iff,decide_eq_false_iff_not] at hx; omega
  .rw [Bcpart_5_eq]
   have hcnd:=bnd_cond (oneP s a b).type (oneP s a b).params hnm dp
   unfold bndL at hcnd
   rw [hcnd]
   show cond (decide (dp>=6)||(markP s a b==[])) _ _=_
   cases D with
   | zero=>exact cond_t (by simp; omega) (by rw [treeP]; rfl)
   | succ D=>
    rw [treeP]
    by_cases hm:markP s a b=[]
    .rw [if_pos hm]
     exact cond_t (by rw [hm]; simp) rfl
    .rw [if_neg hm]
     have hml:=mark_len s a b
     have hmk:=bnd_mark (oneP s a b).type (oneP s a b).params hnm hm
     unfold bndL at hmk
     refine cond_f (by simp [hm]; omega) (need_mk ⟨by omega,by omega,by omega,hs⟩ ?_)
     rw [hmk]
     show Bcpart_6 k (s.length+2) (s.length+2) b dp (markP s a b) (linesS s (oneP s a b).frm b) (-1:Int) (0:Int) [] [] false 0 0 0 (oneP s a b).type (oneP s a b).params (oneP s a b).enc (oneP s a b).attach a (oneP s a b).frm b [] [] [] s (n+1)=_
     unfold linesS
     obtain ⟨f',hf'⟩:∃ x,(oneP s a b).frm=x:=⟨_,rfl⟩
     have hsp:spansP s a b=(spansN s f'.toNat b.toNat ([45,45]++markP s a b)).map spanI:=by unfold spansP spansI; rw [hf']; rfl
     rw [hf'] at g1 g2 ⊢
     obtain ⟨nf,rfl⟩:=Int.eq_ofNat_of_zero_le (Int.le_trans a0 g1)
     obtain ⟨nb,rfl⟩:=Int.eq_ofNat_of_zero_le (Int.le_trans a0 a1)
     rw [Int.toNat_natCast,Int.toNat_natCast] at hsp
     rw [Int.toNat_natCast,Int.toNat_natCast]
     have hlo:=(linesN_ok (s:=s) (b:=nb) (by omega) (nb - nf) nf rfl (by omega)).2
     have:=Bcpart_spec k (s.length+2) nb dp (markP s a (nb:Int)) s hs (by omega) (by omega) [] [] false 0 0 0 (oneP s a (nb:Int)).type (oneP s a (nb:Int)).params (oneP s a (nb:Int)).enc (oneP s a (nb:Int)).attach a (nf:Int) (nb:Int) [] [] D (by omega) (by omega) (fun x y m q1 q2 q3 q4 q5=>⟨by omega,by omega,by omega,q1,q2,by omega,hs,q4,q5⟩) ⟨d0,d1⟩ (linesN s nf nb) (by omega) (linesN s nf nb) (s.length+2) 0 nf none [] (n+1) rfl rfl (by omega) (by omega) (by omega) (fun o h=>by cases h) (by simp) (by omega) (by omega)
     refine this.trans ?_
     have hfr:(withKids (oneP s a (nb:Int)) (kidsP 0 (treeP 0 s D) (spansP s a (nb:Int)) (n+1)).1).frm=(nf:Int):=hf'
     rw [hfr,hsp]
     rfl
 generalize hDD:(6 - dp).toNat=D
 have key:=key D hDD
 obtain ⟨RES,hR⟩:∃ z,z=cpR (treeP 0 s D a b (n+1)).1.type (treeP 0 s D a b (n+1)).1.params (treeP 0 s D a b (n+1)).1.enc (treeP 0 s D a b (n+1)).1.attach (treeP 0 s D a b (n+1)).1.head (treeP 0 s D a b (n+1)).1.frm (treeP 0 s D a b (n+1)).1.til s [] ((treeP 0 s D a b (n+1)).1.kids,(treeP 0 s D a b (n+1)).2):=⟨_,rfl⟩
 rw [<-hR] at key ⊢
 have hfrm:(oneP s a b).frm=(splitS s a b).2:=rfl
 rw [hfrm] at key
 have kt:(oneP s a b).type=(typeF (splitS s a b).1).1:=rfl
 have kp:(oneP s a b).params=(typeF (splitS s a b).1).2:=rfl
 have ke:(oneP s a b).enc=encF (splitS s a b).1:=rfl
 have ka:(oneP s a b).attach=attF (splitS s a b).1:=rfl
 rw [kt,kp,ke,ka] at key
 obtain ⟨l,hl⟩:∃ l,(splitS s a b).1=l:=⟨_,rfl⟩
 obtain ⟨body,hb⟩:∃ x,(splitS s a b).2=x:=⟨_,rfl⟩
 rw [hl] at hk hv key ⊢
 rw [hb] at key ⊢
 rw [e1]
 have k3:∀ (ty:List UInt8×List (List UInt8×List UInt8)) (enc:List UInt8),ty=typeF l->enc=encF l->Bcpart_3 k (s.length+2) b dp l body [] [] false 0 0 0 ty.1 ty.2 enc false a body b [] [] [] s (n+1)=RES:=by
  rintro _ _ rfl rfl
  rw [Bcpart_3_eq,e3]
  refine need_mk (hk _ (by decide)) (need_mk (hv _) ?_)
  refine key _ _ _ _ rfl rfl rfl ?_
  unfold attF
  cases hc:(firstS l LB_476f38ec).2 with
  | true=>rw [if_pos rfl]
  | false=>rw [firstS_none l hc,if_neg (by simp)]; decide+kernel
 have k2:∀ (ty:List UInt8×List (List UInt8×List UInt8)),ty=typeF l->Bcpart_2 k (s.length+2) b dp l body [] [] false 0 0 0 ty.1 ty.2 ([55,98,105,116]:List UInt8) false a body b [] [] [] s (n+1)=RES:=by
  rintro _ rfl
  rw [Bcpart_2_eq,e2]
  refine need_mk (hk _ (by decide)) ?_
  have k3:=k3 (typeF l)
  unfold encF at k3
  cases hc:(firstS l LB_7e72d125).2 with
  | true=>
   rw [hc,if_pos rfl] at k3
   refine cond_t rfl (need_mk (hv _) (need_mk ?_ (k3 _ rfl rfl)))
   have h1:=hbl (firstS l LB_7e72d125).1
   have h2:=hv LB_7e72d125
   omega
  | false=>rw [hc,if_neg (by simp)] at k3; exact cond_f rfl (k3 _ rfl rfl)
 rw [Bcpart_1_eq]
 refine need_mk (hv _) (need_mk (fun _=>?_) ?_)
 .have hcl:=cutS_len (firstS l cType).1 59
  have hnl:=nameP_len (cutS (firstS l cType).1 59).1
  have hv1:=hv cType
  show (nameP (cutS (firstS l cType).1 59).1).length<=_
  omega
 .cases hc:(firstS l cType).2 with
  | false=>exact cond_f rfl (k2 plainT (by unfold typeF; rw [hc,if_neg (by simp)]))
  | true=>
   cases ht:typedP (valuesP (firstS l cType).1).1 with
   | true=>exact cond_t rfl (k2 (valuesP (firstS l cType).1) (by unfold typeF; rw [hc,if_pos rfl,ht,if_pos rfl]))
   | false=>exact cond_f rfl (k2 plainT (by unfold typeF; rw [hc,if_pos rfl,ht,if_neg (by simp)]))
end Go.Proofs.YtoanepondbagcaaGreatDoor
namespace Go.Proofs.YtoanepondbagcaaGreatDoor
open Go Go.Am
set_option linter.unusedVariables false
theorem ok_cpart:∀ k,SpecROk Tryz.prog 72 (sp_cpart k)
 | 0=>by
  intro args ib kept r outs ok he hok
  simp only [sp_cpart] at he
  split at he
  .cases he
   exfalso
   obtain ⟨d0,d1,d2,_⟩:=hok
   omega
  .cases he
 | k+1=>by
  intro args ib kept r outs ok he hok
  simp only [sp_cpart] at he
  split at he
  .cases he
   exact ⟨by kernel_rfl,fn_cpart k (ok_cpart k) _ _ _ _ _ _ _ _ fun _=>cpart_eq k _ _ _ _ _ hok⟩
  .cases he
def cntR (n m:Int):Prop:=n=m\/(30<=n/\30<=m)
theorem kids_e {r1 r0:Int->Int->Int->Part×Int} (hr:∀ x y n m,cntR n m->(r1 x y n).1=(r0 x y m).1/\cntR (r1 x y n).2 (r0 x y m).2):∀ (l:List (Int×Int)) (n m:Int),cntR n m->(kidsP 1 r1 l n).1=(kidsP 0 r0 l m).1/\cntR (kidsP 1 r1 l n).2 (kidsP 0 r0 l m).2
 | [],n,m,h=>⟨rfl,h⟩
 | x::r,n,m,h=>by
  rw [kidsP,kidsP]
  by_cases hn:n+1<=30
  .have:n=m:=by rcases h with h | h <;> omega
   subst this
   rw [if_pos hn,if_pos hn]
   obtain ⟨h1,h2⟩:=hr x.1 x.2 (n+1) (n+1) (.inl rfl)
   obtain ⟨h3,h4⟩:=kids_e hr r _ _ h2
   exact ⟨by dsimp only; rw [h1,h3],h4⟩
  .have hm:¬ m+1<=30:=by rcases h with h | h <;> omega
   rw [if_neg hn,if_neg hm]
   exact ⟨rfl,.inr (by dsimp only; rcases h with h | h <;> omega)⟩
theorem tree_e (s:List UInt8):∀ (d:Nat) (a b n m:Int),cntR n m->(treeP 1 s d a b n).1=(treeP 0 s d a b m).1/\cntR (treeP 1 s d a b n).2 (treeP 0 s d a b m).2
 | 0,a,b,n,m,h=>by rw [treeP,treeP]; exact ⟨rfl,h⟩
 | d+1,a,b,n,m,h=>by
  rw [treeP,treeP]
  split
  .exact ⟨rfl,h⟩
  .obtain ⟨h1,h2⟩:=kids_e (tree_e s d) (spansP s a b) n m h
   exact ⟨by dsimp only; rw [h1],h2⟩
noncomputable def Gr13tree:Cfg:=⟨Tryz.prog,mkEnv [],mkEnvR [(72,sp_cpart 7)],11,[],[],[([0,1,1],[3])]⟩
noncomputable def Fr13tree (F:Nat) (s:List UInt8):Option Ans:=runF Gr13tree Tryz.f38 F [.p (.str s)]
theorem Fr13tree_eq (F:Nat) (s:List UInt8):Fr13tree F s=need (ofok 7 s (0:Int) (0:Int) (s.length:Int) ((0:Int)+1)) (some (.agg [.p (.str (((treeP 0 s (6 - (0:Int)).toNat (0:Int) (s.length:Int) ((0:Int)+1)).1).type)),.p (.list 2 (.dat (.pair .str .str) (((treeP 0 s (6 - (0:Int)).toNat (0:Int) (s.length:Int) ((0:Int)+1)).1).params))),.p (.str (((treeP 0 s (6 - (0:Int)).toNat (0:Int) (s.length:Int) ((0:Int)+1)).1).enc)),.p (.bool (((treeP 0 s (6 - (0:Int)).toNat (0:Int) (s.length:Int) ((0:Int)+1)).1).attach)),.p (.int .i64 (((treeP 0 s (6 - (0:Int)).toNat (0:Int) (s.length:Int) ((0:Int)+1)).1).head)),.p (.int .i64 (((treeP 0 s (6 - (0:Int)).toNat (0:Int) (s.length:Int) ((0:Int)+1)).1).frm)),.p (.int .i64 (((treeP 0 s (6 - (0:Int)).toNat (0:Int) (s.length:Int) ((0:Int)+1)).1).til)),.p (.list 8 (.dat .part (((treeP 0 s (6 - (0:Int)).toNat (0:Int) (s.length:Int) ((0:Int)+1)).1).kids)))],[])):=by kernel_rfl
theorem fn_r13tree (F:Nat) (s:List UInt8) (r:AV) (h:(∃ M vs,ARels γ0 M [.p (.str s)] vs)->Fr13tree F s=some (r,[])):FnP Tryz.prog 38 [.p (.str s)] r:=
 FnP_run Gr13tree F rfl (EnvOk_mk (l:=[]) trivial) (EnvROk_mk (l:=[(72,sp_cpart 7)]) ⟨ok_cpart 7,trivial⟩) (Checked.mixed Tryz.checked) (fn:=Tryz.f38) (by kernel_rfl) (by kernel_rfl) rfl h
theorem r13tree_eq (s:List UInt8) (hs:s.length<=1000000):Fr13tree 0 s=some (.agg [.p (.str (treeT s).type),.p (.list 2 (.dat (.pair .str .str) (treeT s).params)),.p (.str (treeT s).enc),.p (.bool (treeT s).attach),.p (.int .i64 (treeT s).head),.p (.int .i64 (treeT s).frm),.p (.int .i64 (treeT s).til),.p (.list 8 (.dat .part (treeT s).kids))],[]):=by
 rw [Fr13tree_eq,<-(tree_e s (6 - (0:Int)).toNat 0 s.length ((0:Int)+1) ((0:Int)+1) (.inl rfl)).1]
 exact need_mk (tree_ok7 s hs) rfl
def sp_r13tree:List AV->Option (AV×Option Prop)
 | [.p (.str s)]=>some (.agg [.p (.str ((treeT s).type)),.p (.list 2 (.dat (.pair .str .str) ((treeT s).params))),.p (.str ((treeT s).enc)),.p (.bool ((treeT s).attach)),.p (.int .i64 ((treeT s).head)),.p (.int .i64 ((treeT s).frm)),.p (.int .i64 ((treeT s).til)),.p (.list 8 (.dat .part ((treeT s).kids)))],some (s.length<=1000000))
 | _=>none
theorem ok_r13tree:SpecOk Tryz.prog 38 sp_r13tree:=by
 intro zs r ok he hok
 unfold sp_r13tree at he
 split at he
 .cases he; exact ⟨by kernel_rfl,fn_r13tree 0 _ _ fun hx=>r13tree_eq _ hok⟩
 .cases he
end Go.Proofs.YtoanepondbagcaaGreatDoor
namespace Go.Proofs.YtoanepondbagcaaGreatDoor
open Go Go.Am
set_option linter.unusedVariables false
theorem alpha_len:LB_7543b37f.length=64:=by decide
end Go.Proofs.YtoanepondbagcaaGreatDoor
namespace Go.Proofs.YtoanepondbagcaaGreatDoor
open Go Go.Am
set_option linter.unusedVariables false
end Go.Proofs.YtoanepondbagcaaGreatDoor
namespace Go.Proofs.YtoanepondbagcaaGreatDoor
open Go Go.Am
set_option linter.unusedVariables false
def BLoose_2 (fuel:Nat)  (vb4:List UInt8):Option (List UInt8):=some vb4
def BLoose_1 (fuel:Nat)  (vi1:Int) (vi2:Int) (vb3:List UInt8):Option (List UInt8):=if (vi2==(2:Int))=true then (if (0<=(4:Int))/\((vb3.length+[UInt8.ofNat (IntKind.u8.wrap (vi1.fdiv (2 ^ (min ((4:Int)).toNat 64)))).toNat].length) * 1<=140737488355328) then (BLoose_2 fuel (vb3++[UInt8.ofNat (IntKind.u8.wrap (vi1.fdiv (2 ^ (min ((4:Int)).toNat 64)))).toNat])) else none) else (if (vi2==(3:Int))=true then (if (0<=(10:Int))/\(0<=(2:Int))/\((vb3.length+[UInt8.ofNat (IntKind.u8.wrap (vi1.fdiv (2 ^ (min ((10:Int)).toNat 64)))).toNat,UInt8.ofNat (IntKind.u8.wrap (vi1.fdiv (2 ^ (min ((2:Int)).toNat 64)))).toNat].length) * 1<=140737488355328) then (BLoose_2 fuel (vb3++[UInt8.ofNat (IntKind.u8.wrap (vi1.fdiv (2 ^ (min ((10:Int)).toNat 64)))).toNat,UInt8.ofNat (IntKind.u8.wrap (vi1.fdiv (2 ^ (min ((2:Int)).toNat 64)))).toNat])) else none) else (BLoose_2 fuel vb3))
def BLoose_4 (fuel:Nat) (k3:List UInt8->Int->Int->Int->Int->List UInt8->Option (List UInt8)) (s:List UInt8) (vi10 vi11 vi7 vi8:Int) (vb12:List UInt8):Option (List UInt8):=if i64ok (vi8+(1:Int)) then (k3 s vi10 vi11 vi7 (vi8+(1:Int)) vb12) else none
def BLoose_3 (fuel:Nat) :Nat->List UInt8->Int->Int->Int->Int->List UInt8->Option (List UInt8)
 | 0,_,_,_,_,_,_=>none
 | f3+1,s,vi5,vi6,vi7,vi8,vb9=>if (decide (vi8 < vi7))=true then (if 0<=vi8/\vi8 < (s.length:Int) then (if (((s.getD (vi8).toNat 0).toNat:Int)==(61:Int))=true then (BLoose_1 fuel vi5 vi6 vb9) else (if 0<=vi8/\vi8 < (s.length:Int) then (if (decide ((ixS LB_7543b37f ((s.getD (vi8).toNat 0).toNat:Int)) < (0:Int)))=true then (BLoose_4 fuel (BLoose_3 fuel f3) s vi5 vi6 vi7 vi8 vb9) else (if 0<=(6:Int) then (if i64ok (vi6+(1:Int)) then (if ((vi6+(1:Int))==(4:Int))=true then (if (0<=(16:Int))/\(0<=(8:Int))/\((vb9.length+[UInt8.ofNat (IntKind.u8.wrap ((ibits .or .i64 (IntKind.i64.wrap (vi5 * 2 ^ (min ((6:Int)).toNat 64))) (ixS LB_7543b37f ((s.getD (vi8).toNat 0).toNat:Int))).fdiv (2 ^ (min ((16:Int)).toNat 64)))).toNat,UInt8.ofNat (IntKind.u8.wrap ((ibits .or .i64 (IntKind.i64.wrap (vi5 * 2 ^ (min ((6:Int)).toNat 64))) (ixS LB_7543b37f ((s.getD (vi8).toNat 0).toNat:Int))).fdiv (2 ^ (min ((8:Int)).toNat 64)))).toNat,UInt8.ofNat (IntKind.u8.wrap (ibits .or .i64 (IntKind.i64.wrap (vi5 * 2 ^ (min ((6:Int)).toNat 64))) (ixS LB_7543b37f ((s.getD (vi8).toNat 0).toNat:Int)))).toNat].length) * 1<=140737488355328) then (BLoose_4 fuel (BLoose_3 fuel f3) s (0:Int) (0:Int) vi7 vi8 (vb9++[UInt8.ofNat (IntKind.u8.wrap ((ibits .or .i64 (IntKind.i64.wrap (vi5 * 2 ^ (min ((6:Int)).toNat 64))) (ixS LB_7543b37f ((s.getD (vi8).toNat 0).toNat:Int))).fdiv (2 ^ (min ((16:Int)).toNat 64)))).toNat,UInt8.ofNat (IntKind.u8.wrap ((ibits .or .i64 (IntKind.i64.wrap (vi5 * 2 ^ (min ((6:Int)).toNat 64))) (ixS LB_7543b37f ((s.getD (vi8).toNat 0).toNat:Int))).fdiv (2 ^ (min ((8:Int)).toNat 64)))).toNat,UInt8.ofNat (IntKind.u8.wrap (ibits .or .i64 (IntKind.i64.wrap (vi5 * 2 ^ (min ((6:Int)).toNat 64))) (ixS LB_7543b37f ((s.getD (vi8).toNat 0).toNat:Int)))).toNat])) else none) else (BLoose_4 fuel (BLoose_3 fuel f3) s (ibits .or .i64 (IntKind.i64.wrap (vi5 * 2 ^ (min ((6:Int)).toNat 64))) (ixS LB_7543b37f ((s.getD (vi8).toNat 0).toNat:Int))) (vi6+(1:Int)) vi7 vi8 vb9)) else none) else none)) else none)) else none) else (BLoose_1 fuel vi5 vi6 vb9)
def FLoose (fuel:Nat) (s:List UInt8):Option (List UInt8):=BLoose_3 fuel fuel s (0:Int) (0:Int) (s.length:Int) (0:Int) []
noncomputable def cLoose:Code:=bodyOf Tryz.f74
def envLoose:Env:=mkEnv [(87,sp_ixb)]
theorem envLoose_ok:EnvOk Tryz.prog envLoose:=EnvOk_mk ⟨ok_ixb.any,trivial⟩
theorem TLoose (fuel:Nat) (s res:List UInt8) (h:FLoose fuel s=some res) (C:Ctx) (hC:CtxOk C 65 []):
 T Tryz.prog C (at_ cLoose []) (mkS [(0,.p (.str s))] []) (Qend Tryz.prog C Tryz.f74.results.toList (.p (.str res))):=by
 have henv:=envLoose_ok
 unfold FLoose at h
 refine T_seqp (p:=[]) (by kernel_rfl) ?_
 refine T_reg henv hC [] [(0,.p (.str s))] [] [] (by kernel_rfl) (by kernel_rfl) trivial (fun s1 hs1=>?_)
 refine (T.weaken ?_ hs1:T Tryz.prog C (at_ cLoose [1]) _ _)
 refine T_seqp (p:=[1]) (by kernel_rfl) ?_
 refine T_reg henv hC [(3,none)] [(0,.p (.str s)),(3,.arr 3)] [(3,.barr 5 false [])] [] (by kernel_rfl) (by kernel_rfl) trivial (fun s1 hs1=>?_)
 refine (T.weaken ?_ hs1:T Tryz.prog C (at_ cLoose [1,1]) _ _)
 refine T_seqp (p:=[1,1]) (by kernel_rfl) ?_
 refine T_reg henv hC [(3,some 3)] [(0,.p (.str s)),(3,.arr 3),(4,.p (.int .i64 (0:Int))),(5,.p (.int .i64 (0:Int)))] [(3,.barr 5 false [])] [] (by kernel_rfl) (by kernel_rfl) trivial (fun s1 hs1=>?_)
 refine (T.weaken ?_ hs1:T Tryz.prog C (at_ cLoose [1,1,1]) _ _)
 refine T_join (p:=[1,1,1]) (by kernel_rfl) (fun s2=>∃ (vi1:Int) (vi2:Int) (vb3:List UInt8),BLoose_1 fuel vi1 vi2 vb3=some res/\Sub C s2 (mkS [(3,.arr 3),(4,.p (.int .i64 vi1)),(5,.p (.int .i64 vi2))] [(3,.barr 5 false vb3)])) ?_ ?_
 .refine T_seqp (p:=[1,1,1,0]) (by kernel_rfl) ?_
  refine T_reg henv hC [(3,some 3)] [(0,.p (.str s)),(3,.arr 3),(4,.p (.int .i64 (0:Int))),(5,.p (.int .i64 (0:Int))),(9,.p (.int .i64 (s.length:Int))),(10,.p (.int .i64 (0:Int)))] [(3,.barr 5 false [])] [] (by kernel_rfl) (by kernel_rfl) trivial (fun s1 hs1=>?_)
  refine (T.weaken ?_ hs1:T Tryz.prog C (at_ cLoose [1,1,1,0,1]) _ _)
  refine T_blockp (p:=[1,1,1,0,1]) 0 (by kernel_rfl) ?_
  refine T.weaken ?_ (Sub_view (l:=[(0,.p (.str s)),(3,.arr 3),(4,.p (.int .i64 (0:Int))),(5,.p (.int .i64 (0:Int))),(9,.p (.int .i64 (s.length:Int))),(10,.p (.int .i64 (0:Int)))]) (o:=[(3,.barr 5 false [])]) hC [(3,some 3)] (by kernel_rfl) (by kernel_rfl) (by kernel_rfl))
  refine T_loopp (p:=[1,1,1,0,1,0]) (by kernel_rfl) (fun f3 s2=>∃ (s:List UInt8) (vi5:Int) (vi6:Int) (vi7:Int) (vi8:Int) (vb9:List UInt8),s2=mkS [(0,.p (.str s)),(3,.arr 3),(4,.p (.int .i64 vi5)),(5,.p (.int .i64 vi6)),(9,.p (.int .i64 vi7)),(10,.p (.int .i64 vi8))] [(3,.barr 5 false vb9)]/\BLoose_3 fuel f3 s vi5 vi6 vi7 vi8 vb9=some res) ?_ fuel ⟨s,(0:Int),(0:Int),(s.length:Int),(0:Int),[],rfl,h⟩
  rintro f3 s2 ⟨s,vi5,vi6,vi7,vi8,vb9,rfl,h⟩
  cases f3 with
  | zero=>cases h
  | succ f3=>
   rw [BLoose_3] at h
   refine T_seqp (p:=[1,1,1,0,1,0,0]) (by kernel_rfl) ?_
   refine T_reg henv hC [(3,some 3)] [(0,.p (.str s)),(3,.arr 3),(4,.p (.int .i64 vi5)),(5,.p (.int .i64 vi6)),(9,.p (.int .i64 vi7)),(10,.p (.int .i64 vi8)),(11,.p (.bool (decide (vi8 < vi7))))] [(3,.barr 5 false vb9)] [] (by kernel_rfl) (by kernel_rfl) trivial (fun s1 hs1=>?_)
   refine (T.weaken ?_ hs1:T Tryz.prog C (at_ cLoose [1,1,1,0,1,0,0,1]) _ _)
   refine T_seqp (p:=[1,1,1,0,1,0,0,1]) (by kernel_rfl) ?_
   refine T_condp (p:=[1,1,1,0,1,0,0,1,0]) (by kernel_rfl) (decide (vi8 < vi7)) (by kernel_rfl) (fun hb=>?_) (fun hb=>?_)
   .have h:=ite_t h hb
    refine T_skipp (p:=[1,1,1,0,1,0,0,1,0,0]) (by kernel_rfl) ?_
    refine (T.weaken ?_ (Sub.refl _):T Tryz.prog C (at_ cLoose [1,1,1,0,1,0,0,1,1]) _ _)
    refine T_join (p:=[1,1,1,0,1,0,0,1,1]) (by kernel_rfl) (fun s2=>∃ (s:List UInt8) (vi10:Int) (vi11:Int) (vi7:Int) (vi8:Int) (vb12:List UInt8),BLoose_4 fuel (BLoose_3 fuel f3) s vi10 vi11 vi7 vi8 vb12=some res/\Sub C s2 (mkS [(0,.p (.str s)),(3,.arr 3),(4,.p (.int .i64 vi10)),(5,.p (.int .i64 vi11)),(9,.p (.int .i64 vi7)),(10,.p (.int .i64 vi8))] [(3,.barr 5 false vb12)])) ?_ ?_
    .refine T_blockp (p:=[1,1,1,0,1,0,0,1,1,0]) 1 (by kernel_rfl) ?_
     refine T_seqp (p:=[1,1,1,0,1,0,0,1,1,0,0]) (by kernel_rfl) ?_
     refine T_reg henv hC [(3,some 3)] [(0,.p (.str s)),(3,.arr 3),(4,.p (.int .i64 vi5)),(5,.p (.int .i64 vi6)),(6,.p (.int .i64 vi8)),(9,.p (.int .i64 vi7)),(10,.p (.int .i64 vi8))] [(3,.barr 5 false vb9)] [] (by kernel_rfl) (by kernel_rfl) trivial (fun s1 hs1=>?_)
     refine (T.weaken ?_ hs1:T Tryz.prog C (at_ cLoose [1,1,1,0,1,0,0,1,1,0,0,1]) _ _)
     refine T_seqp (p:=[1,1,1,0,1,0,0,1,1,0,0,1]) (by kernel_rfl) ?_
     refine T_seqp (p:=[1,1,1,0,1,0,0,1,1,0,0,1,0]) (by kernel_rfl) ?_
     obtain ⟨hob,h⟩:=ite_get h
     refine T_reg henv hC [(3,some 3)] [(0,.p (.str s)),(3,.arr 3),(4,.p (.int .i64 vi5)),(5,.p (.int .i64 vi6)),(6,.p (.int .i64 vi8)),(9,.p (.int .i64 vi7)),(10,.p (.int .i64 vi8)),(16,.p (.bool (((s.getD (vi8).toNat 0).toNat:Int)==(61:Int))))] [(3,.barr 5 false vb9)] [0<=vi8/\vi8 < (s.length:Int)] (by kernel_rfl) (by kernel_rfl) ⟨hob,trivial⟩ (fun s1 hs1=>?_)
     refine (T.weaken ?_ hs1:T Tryz.prog C (at_ cLoose [1,1,1,0,1,0,0,1,1,0,0,1,0,1]) _ _)
     refine T_condp (p:=[1,1,1,0,1,0,0,1,1,0,0,1,0,1]) (by kernel_rfl) (((s.getD (vi8).toNat 0).toNat:Int)==(61:Int)) (by kernel_rfl) (fun hb=>?_) (fun hb=>?_)
     .have h:=ite_t h hb
      refine T_exitp (p:=[1,1,1,0,1,0,0,1,1,0,0,1,0,1,0]) 0 (by kernel_rfl) ?_
      refine then_exit ?_
      refine inblock_miss (by decide) ?_
      refine then_exit ?_
      refine then_exit ?_
      refine inblock_hit ?_
      exact ⟨vi5,vi6,vb9,h,Sub.trans (Sub.refl _) (Sub_view hC [(3,some 3)] (by kernel_rfl) (by kernel_rfl) (by kernel_rfl))⟩
     .have h:=ite_f h hb
      refine T_skipp (p:=[1,1,1,0,1,0,0,1,1,0,0,1,0,1,1]) (by kernel_rfl) ?_
      refine (T.weaken ?_ (Sub.refl _):T Tryz.prog C (at_ cLoose [1,1,1,0,1,0,0,1,1,0,0,1,1]) _ _)
      refine T_seqp (p:=[1,1,1,0,1,0,0,1,1,0,0,1,1]) (by kernel_rfl) ?_
      obtain ⟨hob,h⟩:=ite_get h
      refine T_reg henv hC [(3,some 3)] [(0,.p (.str s)),(3,.arr 3),(4,.p (.int .i64 vi5)),(5,.p (.int .i64 vi6)),(7,.p (.int .i64 (ixS LB_7543b37f ((s.getD (vi8).toNat 0).toNat:Int)))),(9,.p (.int .i64 vi7)),(10,.p (.int .i64 vi8))] [(3,.barr 5 false vb9)] [0<=vi8/\vi8 < (s.length:Int)] (by kernel_rfl) (by kernel_rfl) ⟨hob,trivial⟩ (fun s1 hs1=>?_)
      refine (T.weaken ?_ hs1:T Tryz.prog C (at_ cLoose [1,1,1,0,1,0,0,1,1,0,0,1,1,1]) _ _)
      refine T_seqp (p:=[1,1,1,0,1,0,0,1,1,0,0,1,1,1]) (by kernel_rfl) ?_
      refine T_seqp (p:=[1,1,1,0,1,0,0,1,1,0,0,1,1,1,0]) (by kernel_rfl) ?_
      refine T_reg henv hC [(3,some 3)] [(0,.p (.str s)),(3,.arr 3),(4,.p (.int .i64 vi5)),(5,.p (.int .i64 vi6)),(7,.p (.int .i64 (ixS LB_7543b37f ((s.getD (vi8).toNat 0).toNat:Int)))),(9,.p (.int .i64 vi7)),(10,.p (.int .i64 vi8)),(22,.p (.bool (decide ((ixS LB_7543b37f ((s.getD (vi8).toNat 0).toNat:Int)) < (0:Int)))))] [(3,.barr 5 false vb9)] [] (by kernel_rfl) (by kernel_rfl) trivial (fun s1 hs1=>?_)
      refine (T.weaken ?_ hs1:T Tryz.prog C (at_ cLoose [1,1,1,0,1,0,0,1,1,0,0,1,1,1,0,1]) _ _)
      refine T_condp (p:=[1,1,1,0,1,0,0,1,1,0,0,1,1,1,0,1]) (by kernel_rfl) (decide ((ixS LB_7543b37f ((s.getD (vi8).toNat 0).toNat:Int)) < (0:Int))) (by kernel_rfl) (fun hb=>?_) (fun hb=>?_)
      .have h:=ite_t h hb
       refine T_exitp (p:=[1,1,1,0,1,0,0,1,1,0,0,1,1,1,0,1,0]) 1 (by kernel_rfl) ?_
       refine then_exit ?_
       refine inblock_hit ?_
       exact ⟨s,vi5,vi6,vi7,vi8,vb9,h,Sub.trans (Sub.refl _) (Sub_view hC [(3,some 3)] (by kernel_rfl) (by kernel_rfl) (by kernel_rfl))⟩
      .have h:=ite_f h hb
       refine T_skipp (p:=[1,1,1,0,1,0,0,1,1,0,0,1,1,1,0,1,1]) (by kernel_rfl) ?_
       refine (T.weaken ?_ (Sub.refl _):T Tryz.prog C (at_ cLoose [1,1,1,0,1,0,0,1,1,0,0,1,1,1,1]) _ _)
       refine T_seqp (p:=[1,1,1,0,1,0,0,1,1,0,0,1,1,1,1]) (by kernel_rfl) ?_
       obtain ⟨hob,h⟩:=ite_get h
       refine T_reg henv hC [(3,some 3)] [(0,.p (.str s)),(3,.arr 3),(4,.p (.int .i64 (ibits .or .i64 (IntKind.i64.wrap (vi5 * 2 ^ (min ((6:Int)).toNat 64))) (ixS LB_7543b37f ((s.getD (vi8).toNat 0).toNat:Int))))),(5,.p (.int .i64 vi6)),(9,.p (.int .i64 vi7)),(10,.p (.int .i64 vi8))] [(3,.barr 5 false vb9)] [0<=(6:Int)] (by kernel_rfl) (by kernel_rfl) ⟨hob,trivial⟩ (fun s1 hs1=>?_)
       refine (T.weaken ?_ hs1:T Tryz.prog C (at_ cLoose [1,1,1,0,1,0,0,1,1,0,0,1,1,1,1,1]) _ _)
       refine T_seqp (p:=[1,1,1,0,1,0,0,1,1,0,0,1,1,1,1,1]) (by kernel_rfl) ?_
       obtain ⟨hob,h⟩:=ite_get h
       refine T_reg henv hC [(3,some 3)] [(0,.p (.str s)),(3,.arr 3),(4,.p (.int .i64 (ibits .or .i64 (IntKind.i64.wrap (vi5 * 2 ^ (min ((6:Int)).toNat 64))) (ixS LB_7543b37f ((s.getD (vi8).toNat 0).toNat:Int))))),(5,.p (.int .i64 (vi6+(1:Int)))),(9,.p (.int .i64 vi7)),(10,.p (.int .i64 vi8))] [(3,.barr 5 false vb9)] [i64ok (vi6+(1:Int))] (by kernel_rfl) (by kernel_rfl) ⟨hob,trivial⟩ (fun s1 hs1=>?_)
       refine (T.weaken ?_ hs1:T Tryz.prog C (at_ cLoose [1,1,1,0,1,0,0,1,1,0,0,1,1,1,1,1,1]) _ _)
       refine T_seqp (p:=[1,1,1,0,1,0,0,1,1,0,0,1,1,1,1,1,1]) (by kernel_rfl) ?_
       refine T_reg henv hC [(3,some 3)] [(0,.p (.str s)),(3,.arr 3),(4,.p (.int .i64 (ibits .or .i64 (IntKind.i64.wrap (vi5 * 2 ^ (min ((6:Int)).toNat 64))) (ixS LB_7543b37f ((s.getD (vi8).toNat 0).toNat:Int))))),(5,.p (.int .i64 (vi6+(1:Int)))),(9,.p (.int .i64 vi7)),(10,.p (.int .i64 vi8)),(30,.p (.bool ((vi6+(1:Int))==(4:Int))))] [(3,.barr 5 false vb9)] [] (by kernel_rfl) (by kernel_rfl) trivial (fun s1 hs1=>?_)
       refine (T.weaken ?_ hs1:T Tryz.prog C (at_ cLoose [1,1,1,0,1,0,0,1,1,0,0,1,1,1,1,1,1,1]) _ _)
       refine T_condp (p:=[1,1,1,0,1,0,0,1,1,0,0,1,1,1,1,1,1,1]) (by kernel_rfl) ((vi6+(1:Int))==(4:Int)) (by kernel_rfl) (fun hb=>?_) (fun hb=>?_)
       .have h:=ite_t h hb
        refine T_seqp (p:=[1,1,1,0,1,0,0,1,1,0,0,1,1,1,1,1,1,1,0]) (by kernel_rfl) ?_
        obtain ⟨hob,h⟩:=ite_get h
        refine T_reg henv hC [(3,some 41)] [(0,.p (.str s)),(3,.arr 3),(9,.p (.int .i64 vi7)),(10,.p (.int .i64 vi8))] [(3,.barr 5 false (vb9++[UInt8.ofNat (IntKind.u8.wrap ((ibits .or .i64 (IntKind.i64.wrap (vi5 * 2 ^ (min ((6:Int)).toNat 64))) (ixS LB_7543b37f ((s.getD (vi8).toNat 0).toNat:Int))).fdiv (2 ^ (min ((16:Int)).toNat 64)))).toNat,UInt8.ofNat (IntKind.u8.wrap ((ibits .or .i64 (IntKind.i64.wrap (vi5 * 2 ^ (min ((6:Int)).toNat 64))) (ixS LB_7543b37f ((s.getD (vi8).toNat 0).toNat:Int))).fdiv (2 ^ (min ((8:Int)).toNat 64)))).toNat,UInt8.ofNat (IntKind.u8.wrap (ibits .or .i64 (IntKind.i64.wrap (vi5 * 2 ^ (min ((6:Int)).toNat 64))) (ixS LB_7543b37f ((s.getD (vi8).toNat 0).toNat:Int)))).toNat]))] [0<=(16:Int),0<=(8:Int),(vb9.length+[UInt8.ofNat (IntKind.u8.wrap ((ibits .or .i64 (IntKind.i64.wrap (vi5 * 2 ^ (min ((6:Int)).toNat 64))) (ixS LB_7543b37f ((s.getD (vi8).toNat 0).toNat:Int))).fdiv (2 ^ (min ((16:Int)).toNat 64)))).toNat,UInt8.ofNat (IntKind.u8.wrap ((ibits .or .i64 (IntKind.i64.wrap (vi5 * 2 ^ (min ((6:Int)).toNat 64))) (ixS LB_7543b37f ((s.getD (vi8).toNat 0).toNat:Int))).fdiv (2 ^ (min ((8:Int)).toNat 64)))).toNat,UInt8.ofNat (IntKind.u8.wrap (ibits .or .i64 (IntKind.i64.wrap (vi5 * 2 ^ (min ((6:Int)).toNat 64))) (ixS LB_7543b37f ((s.getD (vi8).toNat 0).toNat:Int)))).toNat].length) * 1<=140737488355328] (by kernel_rfl) (by kernel_rfl) ⟨hob.1,hob.2.1,hob.2.2,trivial⟩ (fun s1 hs1=>?_)
        refine (T.weaken ?_ hs1:T Tryz.prog C (at_ cLoose [1,1,1,0,1,0,0,1,1,0,0,1,1,1,1,1,1,1,0,1]) _ _)
        refine T_reg henv hC [(3,some 3)] [(0,.p (.str s)),(3,.arr 3),(4,.p (.int .i64 (0:Int))),(5,.p (.int .i64 (0:Int))),(9,.p (.int .i64 vi7)),(10,.p (.int .i64 vi8))] [(3,.barr 5 false (vb9++[UInt8.ofNat (IntKind.u8.wrap ((ibits .or .i64 (IntKind.i64.wrap (vi5 * 2 ^ (min ((6:Int)).toNat 64))) (ixS LB_7543b37f ((s.getD (vi8).toNat 0).toNat:Int))).fdiv (2 ^ (min ((16:Int)).toNat 64)))).toNat,UInt8.ofNat (IntKind.u8.wrap ((ibits .or .i64 (IntKind.i64.wrap (vi5 * 2 ^ (min ((6:Int)).toNat 64))) (ixS LB_7543b37f ((s.getD (vi8).toNat 0).toNat:Int))).fdiv (2 ^ (min ((8:Int)).toNat 64)))).toNat,UInt8.ofNat (IntKind.u8.wrap (ibits .or .i64 (IntKind.i64.wrap (vi5 * 2 ^ (min ((6:Int)).toNat 64))) (ixS LB_7543b37f ((s.getD (vi8).toNat 0).toNat:Int)))).toNat]))] [] (by kernel_rfl) (by kernel_rfl) trivial (fun s1 hs1=>?_)
        exact ⟨s,(0:Int),(0:Int),vi7,vi8,vb9++[UInt8.ofNat (IntKind.u8.wrap ((ibits .or .i64 (IntKind.i64.wrap (vi5 * 2 ^ (min ((6:Int)).toNat 64))) (ixS LB_7543b37f ((s.getD (vi8).toNat 0).toNat:Int))).fdiv (2 ^ (min ((16:Int)).toNat 64)))).toNat,UInt8.ofNat (IntKind.u8.wrap ((ibits .or .i64 (IntKind.i64.wrap (vi5 * 2 ^ (min ((6:Int)).toNat 64))) (ixS LB_7543b37f ((s.getD (vi8).toNat 0).toNat:Int))).fdiv (2 ^ (min ((8:Int)).toNat 64)))).toNat,UInt8.ofNat (IntKind.u8.wrap (ibits .or .i64 (IntKind.i64.wrap (vi5 * 2 ^ (min ((6:Int)).toNat 64))) (ixS LB_7543b37f ((s.getD (vi8).toNat 0).toNat:Int)))).toNat],h,Sub.trans hs1 (Sub_view hC [(3,some 3)] (by kernel_rfl) (by kernel_rfl) (by kernel_rfl))⟩
       .have h:=ite_f h hb
        refine T_skipp (p:=[1,1,1,0,1,0,0,1,1,0,0,1,1,1,1,1,1,1,1]) (by kernel_rfl) ?_
        exact ⟨s,ibits .or .i64 (IntKind.i64.wrap (vi5 * 2 ^ (min ((6:Int)).toNat 64))) (ixS LB_7543b37f ((s.getD (vi8).toNat 0).toNat:Int)),vi6+(1:Int),vi7,vi8,vb9,h,Sub.trans (Sub.refl _) (Sub_view hC [(3,some 3)] (by kernel_rfl) (by kernel_rfl) (by kernel_rfl))⟩
    .rintro s2 ⟨s,vi10,vi11,vi7,vi8,vb12,h,hs2⟩
     unfold BLoose_4 at h
     refine (T.weaken ?_ hs2:T Tryz.prog C (at_ cLoose [1,1,1,0,1,0,0,1,1,1]) _ _)
     obtain ⟨hob,h⟩:=ite_get h
     refine T_reg henv hC [(3,some 3)] [(0,.p (.str s)),(3,.arr 3),(4,.p (.int .i64 vi10)),(5,.p (.int .i64 vi11)),(9,.p (.int .i64 vi7)),(10,.p (.int .i64 (vi8+(1:Int))))] [(3,.barr 5 false vb12)] [i64ok (vi8+(1:Int))] (by kernel_rfl) (by kernel_rfl) ⟨hob,trivial⟩ (fun s1 hs1=>?_)
     exact ⟨f3,_,Nat.lt_succ_self f3,⟨s,vi10,vi11,vi7,vi8+(1:Int),vb12,rfl,h⟩,Sub.trans hs1 (Sub_view hC [(3,some 3)] (by kernel_rfl) (by kernel_rfl) (by kernel_rfl))⟩
   .have h:=ite_f h hb
    refine T_exitp (p:=[1,1,1,0,1,0,0,1,0,1]) 0 (by kernel_rfl) ?_
    refine then_exit ?_
    refine then_exit ?_
    refine inblock_hit ?_
    exact ⟨vi5,vi6,vb9,h,Sub.trans (Sub.refl _) (Sub_view hC [(3,some 3)] (by kernel_rfl) (by kernel_rfl) (by kernel_rfl))⟩
 .rintro s2 ⟨vi1,vi2,vb3,h,hs2⟩
  unfold BLoose_1 at h
  refine (T.weaken ?_ hs2:T Tryz.prog C (at_ cLoose [1,1,1,1]) _ _)
  refine T_join (p:=[1,1,1,1]) (by kernel_rfl) (fun s2=>∃ (vb4:List UInt8),BLoose_2 fuel vb4=some res/\Sub C s2 (mkS [(3,.arr 3)] [(3,.barr 5 false vb4)])) ?_ ?_
  .refine T_seqp (p:=[1,1,1,1,0]) (by kernel_rfl) ?_
   refine T_reg henv hC [(3,some 3)] [(3,.arr 3),(4,.p (.int .i64 vi1)),(43,.p (.int .i64 vi2))] [(3,.barr 5 false vb3)] [] (by kernel_rfl) (by kernel_rfl) trivial (fun s1 hs1=>?_)
   refine (T.weaken ?_ hs1:T Tryz.prog C (at_ cLoose [1,1,1,1,0,1]) _ _)
   refine T_blockp (p:=[1,1,1,1,0,1]) 2 (by kernel_rfl) ?_
   refine T_seqp (p:=[1,1,1,1,0,1,0]) (by kernel_rfl) ?_
   refine T_reg henv hC [(3,some 3)] [(3,.arr 3),(4,.p (.int .i64 vi1)),(43,.p (.int .i64 vi2)),(44,.p (.bool (vi2==(2:Int))))] [(3,.barr 5 false vb3)] [] (by kernel_rfl) (by kernel_rfl) trivial (fun s1 hs1=>?_)
   refine (T.weaken ?_ hs1:T Tryz.prog C (at_ cLoose [1,1,1,1,0,1,0,1]) _ _)
   refine T_condp (p:=[1,1,1,1,0,1,0,1]) (by kernel_rfl) (vi2==(2:Int)) (by kernel_rfl) (fun hb=>?_) (fun hb=>?_)
   .have h:=ite_t h hb
    obtain ⟨hob,h⟩:=ite_get h
    refine T_reg henv hC [(3,some 51)] [(3,.arr 3)] [(3,.barr 5 false (vb3++[UInt8.ofNat (IntKind.u8.wrap (vi1.fdiv (2 ^ (min ((4:Int)).toNat 64)))).toNat]))] [0<=(4:Int),(vb3.length+[UInt8.ofNat (IntKind.u8.wrap (vi1.fdiv (2 ^ (min ((4:Int)).toNat 64)))).toNat].length) * 1<=140737488355328] (by kernel_rfl) (by kernel_rfl) ⟨hob.1,hob.2,trivial⟩ (fun s1 hs1=>?_)
    exact ⟨vb3++[UInt8.ofNat (IntKind.u8.wrap (vi1.fdiv (2 ^ (min ((4:Int)).toNat 64)))).toNat],h,Sub.trans hs1 (Sub_view hC [(3,some 3)] (by kernel_rfl) (by kernel_rfl) (by kernel_rfl))⟩
   .have h:=ite_f h hb
    refine T_seqp (p:=[1,1,1,1,0,1,0,1,1]) (by kernel_rfl) ?_
    refine T_reg henv hC [(3,some 3)] [(3,.arr 3),(4,.p (.int .i64 vi1)),(52,.p (.bool (vi2==(3:Int))))] [(3,.barr 5 false vb3)] [] (by kernel_rfl) (by kernel_rfl) trivial (fun s1 hs1=>?_)
    refine (T.weaken ?_ hs1:T Tryz.prog C (at_ cLoose [1,1,1,1,0,1,0,1,1,1]) _ _)
    refine T_condp (p:=[1,1,1,1,0,1,0,1,1,1]) (by kernel_rfl) (vi2==(3:Int)) (by kernel_rfl) (fun hb=>?_) (fun hb=>?_)
    .have h:=ite_t h hb
     obtain ⟨hob,h⟩:=ite_get h
     refine T_reg henv hC [(3,some 62)] [(3,.arr 3)] [(3,.barr 5 false (vb3++[UInt8.ofNat (IntKind.u8.wrap (vi1.fdiv (2 ^ (min ((10:Int)).toNat 64)))).toNat,UInt8.ofNat (IntKind.u8.wrap (vi1.fdiv (2 ^ (min ((2:Int)).toNat 64)))).toNat]))] [0<=(10:Int),0<=(2:Int),(vb3.length+[UInt8.ofNat (IntKind.u8.wrap (vi1.fdiv (2 ^ (min ((10:Int)).toNat 64)))).toNat,UInt8.ofNat (IntKind.u8.wrap (vi1.fdiv (2 ^ (min ((2:Int)).toNat 64)))).toNat].length) * 1<=140737488355328] (by kernel_rfl) (by kernel_rfl) ⟨hob.1,hob.2.1,hob.2.2,trivial⟩ (fun s1 hs1=>?_)
     exact ⟨vb3++[UInt8.ofNat (IntKind.u8.wrap (vi1.fdiv (2 ^ (min ((10:Int)).toNat 64)))).toNat,UInt8.ofNat (IntKind.u8.wrap (vi1.fdiv (2 ^ (min ((2:Int)).toNat 64)))).toNat],h,Sub.trans hs1 (Sub_view hC [(3,some 3)] (by kernel_rfl) (by kernel_rfl) (by kernel_rfl))⟩
    .have h:=ite_f h hb
     refine T_skipp (p:=[1,1,1,1,0,1,0,1,1,1,1]) (by kernel_rfl) ?_
     exact ⟨vb3,h,Sub.trans (Sub.refl _) (Sub_view hC [(3,some 3)] (by kernel_rfl) (by kernel_rfl) (by kernel_rfl))⟩
  .rintro s2 ⟨vb4,h,hs2⟩
   unfold BLoose_2 at h
   refine (T.weaken ?_ hs2:T Tryz.prog C (at_ cLoose [1,1,1,1,1]) _ _)
   refine T_seqp (p:=[1,1,1,1,1]) (by kernel_rfl) ?_
   refine T_reg henv hC [] [(2,.p (.str vb4))] [] [] (by kernel_rfl) (by kernel_rfl) trivial (fun s1 hs1=>?_)
   refine (T.weaken ?_ hs1:T Tryz.prog C (at_ cLoose [1,1,1,1,1,1]) _ _)
   refine T_retp (p:=[1,1,1,1,1,1]) (by kernel_rfl) ?_
   have h:=Option.some.inj h; subst h
   exact ⟨mkS [(2,.p (.str vb4))] [],(Sub.refl _),by kernel_rfl⟩
theorem fn_Loose (fuel:Nat) (s res:List UInt8) (h:(∃ M vs,ARels γ0 M [.p (.str s)] vs)->FLoose fuel s=some res):FnP Tryz.prog 74 [.p (.str s)] (.p (.str res)):=
 FnP_lift (fn:=Tryz.f74) (by kernel_rfl) (by kernel_rfl) fun M vs hvs C hC0=>have hC:CtxOk C 65 []:=⟨hC0.nt.trans (by kernel_rfl),hC0.fx⟩; T.weaken (TLoose fuel s res (h ⟨M,vs,hvs⟩) C hC) (sinit_sub hC (by kernel_rfl) (by kernel_rfl))
def valI (c:UInt8):Int:=ixS LB_7543b37f (c.toNat:Int)
theorem valI_range (c:UInt8):-1<=valI c/\valI c < 64:=by
 unfold valI ixS
 have h1:=Lib.indexByte_ge LB_7543b37f ((c.toNat:Int)).toNat.toUInt8
 have h2:=indexByte_lt LB_7543b37f ((c.toNat:Int)).toNat.toUInt8
 rw [alpha_len] at h2
 omega
def tailB (bits n:Nat):List UInt8:=if n=2 then [UInt8.ofNat (bits / 16)] else if n=3 then [UInt8.ofNat (bits / 1024),UInt8.ofNat (bits / 4)] else []
def looseG:Nat->Nat->List UInt8->List UInt8
 | bits,n,[]=>tailB bits n
 | bits,n,c::r=>if c=61 then tailB bits n else if valI c < 0 then looseG bits n r else
  if n+1=4 then [UInt8.ofNat ((bits * 64+(valI c).toNat) / 65536),UInt8.ofNat ((bits * 64+(valI c).toNat) / 256),UInt8.ofNat (bits * 64+(valI c).toNat)]++looseG 0 0 r
  else looseG (bits * 64+(valI c).toNat) (n+1) r
def looseB (s:List UInt8):List UInt8:=looseG 0 0 s
theorem BLoose_tail (fuel bits n:Nat) (b:List UInt8) (hb:bits < 16777216) (hl:b.length<=10000000):BLoose_1 fuel (bits:Int) (n:Int) b=some (b++tailB bits n):=by
 have e4:(min ((4:Int)).toNat 64)=4:=rfl
 have e10:(min ((10:Int)).toNat 64)=10:=rfl
 have e2:(min ((2:Int)).toNat 64)=2:=rfl
 unfold BLoose_1 BLoose_2 tailB
 rw [e4,e10,e2,fdiv_nat,fdiv_nat,fdiv_nat,u8_of,u8_of,u8_of]
 by_cases h2:n=2
 .rw [if_pos (by simp; omega),if_pos ⟨by omega,by simp; omega⟩,if_pos h2]
 .rw [if_neg (by simp; omega),if_neg h2]
  by_cases h3:n=3
  .rw [if_pos (by simp; omega),if_pos ⟨by omega,by omega,by simp; omega⟩,if_pos h3]
  .rw [if_neg (by simp; omega),if_neg h3]; simp
theorem BLoose_eq (fuel:Nat) (s:List UInt8) (hs:s.length<=1000000):∀ (f i bits n:Nat) (b:List UInt8),s.length < f+i->i<=s.length->n<=3->bits < 64 ^ n->b.length<=3 * i->
 BLoose_3 fuel f s (bits:Int) (n:Int) (s.length:Int) (i:Int) b=some (b++looseG bits n (s.drop i)):=by
 intro f
 induction f with
 | zero=>intro i bits n b h1 h2; omega
 | succ f ih=>
  intro i bits n b h1 h2 hn hbits h3
  have hp:64 ^ n<=64 ^ 3:=Nat.pow_le_pow_right (by decide) hn
  have hlt:bits < 262144:=Nat.lt_of_lt_of_le hbits hp
  cases hd:s.drop i with
  | nil=>
   have:s.length<=i:=by have:=congrArg List.length hd; simp at this; omega
   rw [BLoose_3,if_neg (by simp; omega),BLoose_tail fuel bits n b (by omega) (by omega),looseG]
  | cons c r=>
   obtain ⟨e1,e2,e3⟩:=drop_cons hd
   have next:∀ (bits' n':Nat) (b':List UInt8),n'<=3->bits' < 64 ^ n'->b'.length<=3 * (i+1)->BLoose_4 fuel (BLoose_3 fuel f) s (bits':Int) (n':Int) (s.length:Int) (i:Int) b'=some (b'++looseG bits' n' r):=by
    intro bits' n' b' hn' hb' hl'
    unfold BLoose_4
    rw [if_pos (ok64 (by omega) (by omega))]
    have:=ih (i+1) bits' n' b' (by omega) (by omega) hn' hb' hl'
    rw [e2] at this
    rw [<-this]; congr 1
   rw [BLoose_3,if_pos (by simp; omega),if_pos (by omega)]
   simp only [Int.toNat_natCast,e1]
   rw [looseG]
   by_cases hc:c=61
   .subst hc
    rw [if_pos (by simp),if_pos rfl,BLoose_tail fuel bits n b (by omega) (by omega)]
   .rw [if_neg (by simpa using fun e=>hc (u8_eq (d:=61) |>.1 e)),if_neg hc,if_pos (by omega)]
    have hv:=valI_range c
    change (if decide (valI c < 0)=true then _ else _)=_
    by_cases hv0:valI c < 0
    .rw [if_pos (by simpa using hv0),if_pos hv0]
     exact next bits n b hn hbits (by omega)
    .rw [if_neg (by simpa using hv0),if_neg hv0]
     obtain ⟨v,hv2⟩:=Int.eq_ofNat_of_zero_le (show 0<=valI c by omega)
     have e6:(2:Int) ^ (min ((6:Int)).toNat 64)=64:=rfl
     have x1:ibits .or .i64 (IntKind.i64.wrap ((bits:Int) * 2 ^ (min ((6:Int)).toNat 64))) (valI c)=((bits * 64+(valI c).toNat:Nat):Int):=by
      rw [hv2,e6,i64_small (by omega) (by omega),show (bits:Int) * 64=((bits * 64:Nat):Int) by simp,i64_or (by omega) (by omega)]
      have:=or_add bits v 6 (by omega)
      rw [show bits * 64=bits * 2 ^ 6 by rfl,this]; simp
     have hx:bits * 64+(valI c).toNat < 16777216:=by omega
     rw [if_pos (by omega),if_pos (ok64 (by omega) (by omega))]
     change (if _ then (if _/\_/\(b.length+[UInt8.ofNat (IntKind.u8.wrap ((ibits .or .i64 (IntKind.i64.wrap ((bits:Int) * 2 ^ (min ((6:Int)).toNat 64))) (valI c)).fdiv (2 ^ (min ((16:Int)).toNat 64)))).toNat,UInt8.ofNat (IntKind.u8.wrap ((ibits .or .i64 (IntKind.i64.wrap ((bits:Int) * 2 ^ (min ((6:Int)).toNat 64))) (valI c)).fdiv (2 ^ (min ((8:Int)).toNat 64)))).toNat,UInt8.ofNat (IntKind.u8.wrap (ibits .or .i64 (IntKind.i64.wrap ((bits:Int) * 2 ^ (min ((6:Int)).toNat 64))) (valI c))).toNat].length) * 1<=140737488355328 then BLoose_4 fuel (BLoose_3 fuel f) s (0:Int) (0:Int) (s.length:Int) (i:Int) (b++[UInt8.ofNat (IntKind.u8.wrap ((ibits .or .i64 (IntKind.i64.wrap ((bits:Int) * 2 ^ (min ((6:Int)).toNat 64))) (valI c)).fdiv (2 ^ (min ((16:Int)).toNat 64)))).toNat,UInt8.ofNat (IntKind.u8.wrap ((ibits .or .i64 (IntKind.i64.wrap ((bits:Int) * 2 ^ (min ((6:Int)).toNat 64))) (valI c)).fdiv (2 ^ (min ((8:Int)).toNat 64)))).toNat,UInt8.ofNat (IntKind.u8.wrap (ibits .or .i64 (IntKind.i64.wrap ((bits:Int) * 2 ^ (min ((6:Int)).toNat 64))) (valI c))).toNat]) else none) else BLoose_4 fuel (BLoose_3 fuel f) s (ibits .or .i64 (IntKind.i64.wrap ((bits:Int) * 2 ^ (min ((6:Int)).toNat 64))) (valI c)) _ (s.length:Int) (i:Int) b)=_
     have e16:(min ((16:Int)).toNat 64)=16:=rfl
     have e8:(min ((8:Int)).toNat 64)=8:=rfl
     rw [x1,e16,e8,fdiv_nat,fdiv_nat,u8_of,u8_of,u8_of]
     by_cases h4:n+1=4
     .rw [if_pos (by simp; omega),if_pos ⟨by omega,by omega,by simp; omega⟩,if_pos h4]
      refine (next 0 0 _ (by omega) (by decide) (by simp; omega)).trans ?_
      simp
     .rw [if_neg (by simp; omega),if_neg h4]
      refine next (bits * 64+(valI c).toNat) (n+1) b (by omega) ?_ (by omega)
      rw [Nat.pow_succ]; omega
theorem Loose_eq (s:List UInt8) (hs:s.length<=1000000):FLoose 1000001 s=some (looseB s):=by
 have:=BLoose_eq 1000001 s hs 1000001 0 0 0 [] (by omega) (by omega) (by omega) (by decide) (by simp)
 simpa [FLoose,looseB] using this
def sp_Loose:List AV->Option (AV×Option Prop):=spStr looseB
theorem ok_Loose:SpecOk Tryz.prog 74 sp_Loose:=spStr_ok (by kernel_rfl) fun s hs=>fn_Loose 1000001 s _ fun _=>Loose_eq s hs
end Go.Proofs.YtoanepondbagcaaGreatDoor
