/-
  Lifted functions, and facts about them.
-/
import Derived.Test.YtoanepondbagcaaGreatDoorRows
import Derived.Test.YtoanepondbagcaaGreatDoorAmC
import Derived.Test.YtoanepondbagcaaGreatDoorC24
import Derived.Test.YtoanepondbagcaaGreatDoorC01
namespace Go.Proofs.YtoanepondbagcaaGreatDoor
open Go Go.Am
set_option linter.unusedVariables false
theorem all_cnt {s:List UInt8}:∀ (d:Nat) (a b n:Int),((allP (d+1) (treeP 1 s d a b n).1).length:Int)<=(treeP 1 s d a b n).2 - n+1/\(treeP 1 s d a b n).2<=max n 30+d
 | 0,a,b,n=>by
  rw [treeP,allP]
  simp [oneP,Part.kids]; omega
 | d+1,a,b,n=>by
  have key:∀ (l:List (Int×Int)) (n:Int),(((kidsP 1 (treeP 1 s d) l n).1.flatMap (allP (d+1))).length:Int)<=(kidsP 1 (treeP 1 s d) l n).2 - n/\(kidsP 1 (treeP 1 s d) l n).2<=max n (30+d)+1:=by
   intro l
   induction l with
   | nil=>intro n; rw [kidsP]; simp; omega
   | cons x r ih=>
    intro n
    rw [kidsP]
    split
    .rename_i h
     have h1:=all_cnt (s:=s) d x.1 x.2 (n+1)
     have h2:=ih (treeP 1 s d x.1 x.2 (n+1)).2
     dsimp only
     rw [List.flatMap_cons,List.length_append]
     omega
    .dsimp only
     simp; omega
  rw [treeP]
  split
  .rw [allP]
   simp [oneP,Part.kids]; omega
  .have:=key (spansP s a b) n
   dsimp only
   rw [allP]
   show (((_::(kidsP 1 (treeP 1 s d) (spansP s a b) n).1.flatMap (allP (d+1))).length:Nat):Int)<=_/\_
   rw [List.length_cons]
   omega
end Go.Proofs.YtoanepondbagcaaGreatDoor
namespace Go.Proofs.YtoanepondbagcaaGreatDoor
open Go Go.Am
set_option linter.unusedVariables false
def szA (a:AddrT):Nat:=a.1.length+a.2.1.length+a.2.2.length
def szL (l:List AddrT):Nat:=(l.map szA).sum
theorem szL_app (l:List AddrT) (a:AddrT):szL (l++[a])=szL l+szA a:=by simp [szL]
theorem szA_mem:∀ {l:List AddrT} {a:AddrT},a ∈ l->szA a<=szL l
 | [],_,h=>by cases h
 | x::r,a,h=>by
  have e:szL (x::r)=szA x+szL r:=by simp [szL]
  rcases List.mem_cons.1 h with rfl | h
  .omega
  .have:=szA_mem h; omega
theorem part_len (s:List UInt8):(partS s).1.length+(partS s).2.length<=s.length:=by
 unfold partS
 split
 .simp
 .rename_i h
  dsimp only
  rw [List.length_take,List.length_drop]
  omega
theorem told_sz (ws:List (List UInt8)) (an:List UInt8) (hs:Bool):szA (told ws an hs)<=12 * (totL ws+ws.length)+an.length:=by
 have h1:=wordS_len (joinS [32] ws)
 have h2:=joinS_len [32] ws
 have h3:=joinS_len [] ws
 have h4:=part_len an
 have h5:=part_len (joinS [] ws)
 simp only [List.length_cons,List.length_nil] at h2 h3
 unfold told szA
 split <;> (dsimp only; try simp only [List.length_nil]) <;> omega
theorem tell_sz (ws:List (List UInt8)) (an:List UInt8) (hs:Bool) (out:List AddrT):szL (tellS ws an hs out)<=szL out+12 * (totL ws+ws.length)+an.length:=by
 have h:=told_sz ws an hs
 unfold tellS
 split
 .rw [szL_app]; omega
 .omega
theorem unb_sh (l:List UInt8):(unbS l).length<=l.length:=by have:=bk_len l; omega
theorem adF_sz:∀ (f:Nat) (r:List UInt8) (ws:List (List UInt8)) (an:List UInt8) (hs:Bool) (out:List AddrT),szL (adF f r ws an hs out)<=szL out+12 * (totL ws+ws.length)+an.length+24 * r.length
 | 0,r,ws,an,hs,out=>by have:=tell_sz ws an hs out; rw [adF]; omega
 | f+1,[],ws,an,hs,out=>by have:=tell_sz ws an hs out; rw [adF]; omega
 | f+1,c::r,ws,an,hs,out=>by
  have h1:=adF_sz f (r.drop (wiF r).2) (ws++[(wiF r).1]) an hs out
  have h2:=adF_sz f (r.drop (rmF 1 r)) ws an hs out
  have h3:=adF_sz f (r.drop ((cutS r 62).1.length+1)) ws (unbS (cutS r 62).1) true out
  have h4:=adF_sz f r [] [] false out
  have h5:=adF_sz f r [] [] false (tellS ws an hs out)
  have h6:=adF_sz f r ws an hs out
  have h7:=adF_sz f (r.dropWhile isAt) (ws++[c::r.takeWhile isAt]) an hs out
  have h8:=tell_sz ws an hs out
  have h9:=takeW_le isAt r
  have k1:=wiF_le r.length r (Nat.le_refl _)
  have k2:=unb_sh (cutS r 62).1
  have k3:=cutS_len r 62
  have e0:totL ([]:List (List UInt8))=0:=rfl
  rw [List.length_drop] at h1 h2 h3
  rw [totL_app,List.length_append,List.length_singleton] at h1 h7
  rw [List.length_cons] at h7
  rw [e0,List.length_nil,List.length_nil] at h4 h5
  rw [adF,List.length_cons]
  split
  .omega
  .split
   .omega
   .split
    .omega
    .split
     .omega
     .split
      .omega
      .split <;> omega
theorem listA_sz (s:List UInt8):szL (listA s)<=24 * s.length:=by
 have:=adF_sz (s.length+1) s [] [] false []
 unfold listA
 have e0:totL ([]:List (List UInt8))=0:=rfl
 have e1:szL []=0:=rfl
 rw [e0,e1,List.length_nil,List.length_nil] at this
 omega
theorem many_len:∀ l:List AddrT,(manyA l).length<=2 * szL l+60 * l.length
 | []=>by simp [manyA]
 | a::r=>by
  have h:=many_len r
  have h1:=tstr_len a.1
  have h2:=tstr_len a.2.1
  have h3:=tstr_len a.2.2
  have e:szL (a::r)=szA a+szL r:=by simp [szL]
  have e2:manyA (a::r)=catS (oneA a)++manyA r:=by simp [manyA]
  have e3:(catS (oneA a)).length<=2 * szA a+60:=by
   rw [cat_len]
   unfold oneA totL szA
   split
   .simp; omega
   .simp; omega
  rw [e,e2,List.length_append,List.length_cons]
  omega
theorem tellA_len (l:List AddrT):(tellA l).length<=2 * szL l+60 * l.length+3:=by
 have:=many_len l
 unfold tellA
 split
 .simp
 .simp; omega
theorem addrs_len (l:List (List UInt8×List UInt8)) (n:List UInt8) {k:Nat} (h:(firstS l n).1.length<=k):(addrsS l n).length<=108 * k+63:=by
 have h1:=tellA_len (listA (firstS l n).1)
 have h2:=listA_sz (firstS l n).1
 have h3:=listA_len (firstS l n).1
 unfold addrsS
 omega
theorem nstr_len (l:List (List UInt8×List UInt8)) (n:List UInt8) {k:Nat} (h:(firstS l n).1.length<=k):(nstrS l n).length<=2 * k+8:=by
 have h1:=tstr_len (firstS l n).1
 unfold nstrS
 split
 .omega
 .simp
theorem env_all {s:List UInt8} (h:s.length<=3000):envok s/\(envS s).length<=3000000:=by
 have hv:∀ n:List UInt8,(firstS (splitS s 0 (s.length:Int)).1 n).1.length<=3000:=fun n=>firstS_len fun x hx=>by have:=(splitS_elem s 0 (s.length:Int) x hx).2; omega
 have ha:∀ n:List UInt8,n.length<=100->addrsok (splitS s 0 (s.length:Int)).1 n:=fun n hn=>by
  refine ⟨splitAll_ok (by omega) hn,by have:=hv n; omega,fun a hm=>?_⟩
  have h1:=szA_mem hm
  have h2:=listA_sz (firstS (splitS s 0 (s.length:Int)).1 n).1
  have h3:=hv n
  unfold szA at h1
  exact ⟨fun _=>by omega,by omega,by omega⟩
 have hs:∀ n:List UInt8,n.length<=100->nstrok (splitS s 0 (s.length:Int)).1 n:=fun n hn=>⟨splitAll_ok (by omega) hn,fun _=>by have:=hv n; omega⟩
 have la:∀ n:List UInt8,(addrsS (splitS s 0 (s.length:Int)).1 n).length<=324063:=fun n=>by have:=addrs_len _ n (hv n); omega
 have ln:∀ n:List UInt8,(nstrS (splitS s 0 (s.length:Int)).1 n).length<=6008:=fun n=>by have:=nstr_len _ n (hv n); omega
 have lo:∀ n:List UInt8,(orS (splitS s 0 (s.length:Int)).1 (addrsS (splitS s 0 (s.length:Int)).1 nFrom) n).length<=324063:=fun n=>by
  unfold orS
  split
  .exact la _
  .exact la _
 have ht:totL (envL (splitS s 0 (s.length:Int)).1)<=2900000:=by
  have a1:=ln nDate; have a2:=ln nSubj; have a3:=la nFrom; have a4:=lo nSend; have a5:=lo nRepl; have a6:=la nTo; have a7:=la nCc; have a8:=la nBcc; have a9:=ln nInR; have b1:=ln nMsg
  unfold envL
  simp only [totL_cons]
  have e0:totL ([]:List (List UInt8))=0:=rfl
  omega
 refine ⟨⟨by omega,?_,?_,by omega⟩,?_⟩
 .intro n hn
  simp only [List.mem_cons,List.not_mem_nil,or_false] at hn
  rcases hn with hn | hn | hn | hn | hn | hn <;> (subst hn; exact ha _ (by decide))
 .intro n hn
  simp only [List.mem_cons,List.not_mem_nil,or_false] at hn
  rcases hn with hn | hn | hn | hn <;> (subst hn; exact hs _ (by decide))
 .have hj:=joinS_len [32] (envL (splitS s 0 (s.length:Int)).1)
  have e:(envL (splitS s 0 (s.length:Int)).1).length=10:=rfl
  rw [e] at hj
  unfold envS
  simp only [List.length_append,List.length_cons,List.length_nil] at hj ⊢
  omega
theorem qtP_sum:∀ (n:Nat) (acc l:List UInt8),l.length<=n->(qtP acc l).1.length+(qtP acc l).2.length<=acc.length+l.length
 | _,acc,[],_=>by rw [qtP_nil]; simp
 | _,acc,[c],_=>by rw [qtP]; split <;> simp
 | 0,acc,c::d::r,h=>by simp at h
 | n+1,acc,c::d::r,h=>by
  have h1:=qtP_sum n (acc++[d]) r (by simp at h; omega)
  have h2:=qtP_sum n (acc++[c]) (d::r) (by simp at h ⊢; omega)
  rw [qtP]
  simp only [List.length_append,List.length_cons,List.length_nil] at h1 h2 ⊢
  split
  .simp only [List.length_cons]; omega
  .split <;> omega
theorem paramP_sum (s:List UInt8):(paramP s).1.1.length+(paramP s).1.2.length+(paramP s).2.1.length<=s.length:=by
 have hl:=trimLB_len s
 have hn1:=nameP_len (trimLB s)
 have hn2:=nameP_len ((trimLB s).takeWhile nsep)
 unfold paramP
 rcases ixSep_split (trimLB s) with ⟨h1,h2,h3⟩ | ⟨c,u,h1,h2,h3,h4⟩
 .rw [h1]; dsimp only; simp only [List.length_nil]; omega
 .have hlen:=congrArg List.length h3
  simp only [List.length_append,List.length_cons] at hlen
  rw [h1]
  dsimp only
  by_cases h59:c=59
  .rw [if_pos h59]; dsimp only; simp only [List.length_nil]; omega
  .rw [if_neg h59]
   have hu:=trimLB_len u
   cases hv:trimLB u with
   | nil=>dsimp only; simp only [List.length_nil]; omega
   | cons d q=>
    have hql:q.length+1<=u.length:=by rw [hv] at hu; simpa using hu
    dsimp only
    by_cases h34:d=34
    .rw [if_pos h34]
     have hqt:=qtP_sum q.length [] q (Nat.le_refl _)
     have hc:=cutS_len (qtP [] q).2 59
     simp only [List.length_nil] at hqt
     dsimp only; omega
    .rw [if_neg h34]
     have hcl:=cutS_len (d::q) 59
     have hr:=trimRB_len (cutS (d::q) 59).1
     simp only [List.length_cons] at hcl
     dsimp only; omega
def sumP (l:List (List UInt8×List UInt8)):Nat:=(l.map fun x=>x.1.length+x.2.length).sum
theorem valsP_sum:∀ (n:Nat) (r:List UInt8) (m:Bool) (l:List (List UInt8×List UInt8)),sumP (valsP n r m l)<=sumP l+r.length
 | 0,r,m,l=>by rw [valsP]; omega
 | n+1,r,m,l=>by
  have h1:=paramP_sum r
  have h2:=valsP_sum n (paramP r).2.1 (paramP r).2.2 (if (paramP r).1.1≠[] then l++[(paramP r).1] else l)
  rw [valsP]
  split
  .refine Nat.le_trans h2 ?_
   split
   .have e:sumP (l++[(paramP r).1])=sumP l+((paramP r).1.1.length+(paramP r).1.2.length):=by simp [sumP]
    rw [e]; omega
   .omega
  .omega
theorem vals_all (s:List UInt8):(valuesP s).1.length<=s.length/\sumP (valuesP s).2<=s.length/\(valuesP s).2.length<=s.length+1:=by
 have h1:=nameP_len (cutS s 59).1
 have h2:=cutS_len s 59
 have h3:=valsP_sum (s.length+1) (cutS s 59).2.1 (cutS s 59).2.2 []
 refine ⟨?_,?_,(valuesP_ok s).2⟩
 .show (nameP (cutS s 59).1).length<=_; omega
 .show sumP (valsP (s.length+1) (cutS s 59).2.1 (cutS s 59).2.2 [])<=_
  have e0:sumP []=0:=rfl
  omega
abbrev ownG (N:Nat) (p:Part):Prop:=p.type.length<=N+10/\p.enc.length<=N+4/\sumP p.params<=N/\p.params.length<=N+1/\0<=p.frm/\p.frm<=p.til/\p.til<=(N:Int)
theorem one_good {s:List UInt8} {a b:Int} (h0:0<=a) (h1:a<=b) (h2:b<=s.length):ownG s.length (oneP s a b):=by
 obtain ⟨g1,g2⟩:=body_ok h0 h1 h2
 have hel:=splitS_elem s a b
 have hv:∀ n,(firstS (splitS s a b).1 n).1.length<=s.length:=fun n=>firstS_len fun x hx=>(hel x hx).2
 have ht:(typeF (splitS s a b).1).1.length<=s.length+10/\sumP (typeF (splitS s a b).1).2<=s.length/\(typeF (splitS s a b).1).2.length<=s.length+1:=by
  have hp:plainT.1.length<=s.length+10/\sumP plainT.2<=s.length/\plainT.2.length<=s.length+1:=⟨by simp [plainT],by simp [plainT,sumP],by simp [plainT]⟩
  have h3:=vals_all (firstS (splitS s a b).1 cType).1
  have h4:=hv cType
  unfold typeF
  split
  .split
   .exact ⟨by omega,by omega,by omega⟩
   .exact hp
  .exact hp
 have he:(encF (splitS s a b).1).length<=s.length+4:=by
  unfold encF
  split
  .have h3:=nameP_len (firstS (splitS s a b).1 LB_7e72d125).1
   have h4:=hv LB_7e72d125
   omega
  .simp
 exact ⟨ht.1,he,ht.2.1,ht.2.2,by omega,g2,h2⟩
def goodP (N:Nat):Nat->Part->Prop
 | 0,_=>False
 | k+1,p=>ownG N p/\p.kids.length<=N+1/\∀ q ∈ p.kids,goodP N k q
theorem tree_good {e:Int} {s:List UInt8}:∀ (d:Nat) (a b n:Int),0<=a->a<=b->b<=s.length->goodP s.length (d+1) (treeP e s d a b n).1
 | 0,a,b,n,h0,h1,h2=>by
  rw [treeP,goodP]; exact ⟨one_good h0 h1 h2,by simp [oneP,Part.kids],by simp [oneP,Part.kids]⟩
 | d+1,a,b,n,h0,h1,h2=>by
  obtain ⟨g1,g2⟩:=body_ok h0 h1 h2
  obtain ⟨k1,k2⟩:=spansP_ok h0 h1 h2
  rw [treeP]
  split
  .rw [goodP]; exact ⟨one_good h0 h1 h2,by simp [oneP,Part.kids],by simp [oneP,Part.kids]⟩
  .obtain ⟨z1,z2⟩:=kids_all (e:=e) (rec:=treeP e s d) (P:=goodP s.length (d+1)) (spansP s a b) n fun x hx m=>by have:=k1 x hx; exact tree_good d _ _ _ (by omega) (by omega) (by omega)
   rw [goodP]
   exact ⟨one_good h0 h1 h2,by show (kidsP e (treeP e s d) (spansP s a b) n).1.length<=_; omega,z1⟩
theorem treeT_good (s:List UInt8):goodP s.length 7 (treeT s):=tree_good 6 _ _ _ (by omega) (by omega) (by omega)
theorem all_36 (s:List UInt8):(allP 7 (treeT s)).length<=36:=by
 have:=all_cnt (s:=s) 6 0 (s.length:Int) ((0:Int)+1)
 have h2:((allP 7 (treeT s)).length:Int)<=(treeP 1 s 6 0 (s.length:Int) ((0:Int)+1)).2 - ((0:Int)+1)+1:=this.1
 omega
theorem parm_len:∀ ps:List (List UInt8×List UInt8),totL (parmS ps)<=2 * sumP ps+16 * ps.length/\(parmS ps).length=2 * ps.length
 | []=>by simp [parmS,totL]
 | x::r=>by
  obtain ⟨h1,h2⟩:=parm_len r
  have h3:=tstr_len x.1
  have h4:=tstr_len x.2
  have e:parmS (x::r)=tstrS x.1::tstrS x.2::parmS r:=by simp [parmS]
  have e2:sumP (x::r)=x.1.length+x.2.length+sumP r:=by simp [sumP]
  rw [e,totL_cons,totL_cons,e2,List.length_cons,List.length_cons,List.length_cons,h2]
  omega
theorem parmT_len (ps:List (List UInt8×List UInt8)):(parmT ps).length<=2 * sumP ps+18 * ps.length+3:=by
 obtain ⟨h1,h2⟩:=parm_len ps
 have h3:=joinS_len [32] (parmS ps)
 unfold parmT
 split
 .simp only [List.length_append,List.length_cons,List.length_nil] at h3 ⊢
  omega
 .simp
theorem tdig_max {n:Int} (h:n<=1000000):(tdigS n).length<=19:=by
 unfold tdigS
 exact itoa_max _ (by split <;> omega)
theorem cut_cnt (s:List UInt8) (f t:Int):cntS (cutP s f t) 10<=(s.length:Int)/\0<=cntS (cutP s f t) 10:=by
 have h:=List.count_le_length (a:=((10:Int)).toNat.toUInt8) (l:=cutP s f t)
 unfold cntS
 have h2:(cutP s f t).length<=s.length:=by unfold cutP; simp; omega
 omega
theorem leaf_len {s ty:List UInt8} {ps:List (List UInt8×List UInt8)} {en:List UInt8} {at_:Bool} {h f t:Int} {ks:List Part} (hs:s.length<=3000) (hk:ownG s.length (Part.mk ty ps en at_ h f t ks)):
 totL (leafL s ty ps en f t)<=99000/\(leafL s ty ps en f t).length<=8:=by
 obtain ⟨k1,k2,k3,k4,k5,k6,k7⟩:=hk
 change ty.length<=s.length+10 at k1
 change en.length<=s.length+4 at k2
 change sumP ps<=s.length at k3
 change ps.length<=s.length+1 at k4
 change 0<=f at k5
 change f<=t at k6
 change t<=(s.length:Int) at k7
 have hc:=cutS_len ty 47
 have t1:=tstr_len (cutS ty 47).1
 have t2:=tstr_len (cutS ty 47).2.1
 have t3:=tstr_len en
 have t4:=parmT_len ps
 have t5:=tdig_max (n:=t - f) (by omega)
 have t6:=tdig_max (n:=cntS (cutP s f t) 10) (by have:=cut_cnt s f t; omega)
 have e0:totL ([]:List (List UInt8))=0:=rfl
 have n3:([78,73,76]:List UInt8).length=3:=rfl
 unfold leafL
 split
 .simp only [List.cons_append,List.nil_append,totL_cons,List.length_cons,List.length_nil,e0]
  omega
 .simp only [List.append_nil,totL_cons,List.length_cons,List.length_nil,e0]
  omega
theorem flat_len {α β:Type} {f:Part->List α} {g:Part->List β} {B:Nat}:∀ (l:List Part),(∀ q ∈ l,(f q).length<=B * (g q).length)->(l.flatMap f).length<=B * (l.flatMap g).length
 | [],_=>by simp
 | x::r,h=>by
  have h1:=h x (List.mem_cons_self ..)
  have h2:=flat_len r fun q hq=>h q (List.mem_cons_of_mem _ hq)
  rw [List.flatMap_cons,List.flatMap_cons,List.length_append,List.length_append,Nat.mul_add]
  omega
theorem struc_len {s:List UInt8} (hs:s.length<=3000):∀ (k:Nat) (p:Part),goodP s.length k p->(strucS k s p).length<=100000 * (allP k p).length
 | 0,p,h=>h.elim
 | k+1,p,h=>by
  rw [goodP] at h
  obtain ⟨ho,hk,hq⟩:=h
  have hf:=flat_len (f:=strucS k s) (g:=allP k) (B:=100000) p.kids fun q hm=>struc_len hs k q (hq q hm)
  have hc:=cutS_len p.type 47
  have t2:=tstr_len (cutS p.type 47).2.1
  have h1:=ho.1
  rw [strucS,allP,List.length_cons]
  split
  .simp only [List.length_append,List.length_cons,List.length_nil]
   omega
  .obtain ⟨k1,k2,k3,k4,k5,k6,k7⟩:=ho
   obtain ⟨l1,l2⟩:=leaf_len (ty:=p.type) (ps:=p.params) (en:=p.enc) (f:=p.frm) (t:=p.til) (at_:=p.attach) (h:=p.head) (ks:=p.kids) hs ⟨k1,k2,k3,k4,k5,k6,k7⟩
   have hj:=joinS_len [32] (leafL s p.type p.params p.enc p.frm p.til)
   simp only [List.length_append,List.length_cons,List.length_nil] at hj ⊢
   omega
theorem struc_ok {s:List UInt8} (hs:s.length<=3000):∀ (k:Nat) (p:Part),goodP s.length k p->(allP k p).length<=100->strucok k s p
 | 0,p,h,_=>h.elim
 | k+1,p,h,ha=>by
  rw [goodP] at h
  obtain ⟨ho,hk,hq⟩:=h
  rw [allP,List.length_cons] at ha
  have hf:=flat_len (f:=strucS k s) (g:=allP k) (B:=100000) p.kids fun q hm=>struc_len hs k q (hq q hm)
  have hc:=cutS_len p.type 47
  have h1:=ho.1
  have hsub:∀ q ∈ p.kids,(allP k q).length<=(p.kids.flatMap (allP k)).length:=fun q hm=>by
   obtain ⟨a,b,e⟩:=List.append_of_mem hm
   rw [e,List.flatMap_append,List.flatMap_cons,List.length_append,List.length_append]
   omega
  rw [strucok]
  refine ⟨by omega,by show (cutS p.type 47).2.1.length<=_; omega,by omega,by omega,fun q hm=>struc_ok hs k q (hq q hm) (by have:=hsub q hm; omega),fun _=>?_⟩
  obtain ⟨k1,k2,k3,k4,k5,k6,k7⟩:=ho
  obtain ⟨l1,l2⟩:=leaf_len (ty:=p.type) (ps:=p.params) (en:=p.enc) (f:=p.frm) (t:=p.til) (at_:=p.attach) (h:=p.head) (ks:=p.kids) hs ⟨k1,k2,k3,k4,k5,k6,k7⟩
  obtain ⟨m1,m2⟩:=parm_len p.params
  refine ⟨by show (cutS p.type 47).1.length<=_; omega,by show p.enc.length<=_; omega,fun x hx=>?_,by omega,⟨by decide,by decide,by omega,by omega⟩,⟨k5,k6,k7⟩,by omega,⟨by decide,by decide,by omega,by omega⟩⟩
  have hx2:x.1.length+x.2.length<=sumP p.params:=by
   obtain ⟨a,b,e⟩:=List.append_of_mem hx
   rw [e]; unfold sumP; simp; omega
  exact ⟨by show x.1.length<=_; omega,by show x.2.length<=_; omega⟩
theorem struc_all {s:List UInt8} (h:s.length<=3000):strucok 7 s (treeT s)/\(strucS 7 s (treeT s)).length<=3600000:=by
 have h1:=treeT_good s
 have h2:=all_36 s
 have h3:=struc_len h 7 _ h1
 exact ⟨struc_ok h 7 _ h1 (by omega),by omega⟩
end Go.Proofs.YtoanepondbagcaaGreatDoor
