/-
  Lifted functions, and facts about them.
-/
import Derived.Test.YtampckbjinodgaaGreatDoorRows
import Derived.Test.YtampckbjinodgaaGreatDoorAmC
import Derived.Test.YtampckbjinodgaaGreatDoorC19
namespace Go.Proofs.YtampckbjinodgaaGreatDoor
open Go Go.Am
set_option linter.unusedVariables false
theorem gd_l {α:Type} {a b:List α} {i:Nat} (d:α) (h:i < a.length):(a++b).getD i d=a.getD i d:=by
 rw [List.getD_eq_getElem?_getD,List.getElem?_append_left h,<-List.getD_eq_getElem?_getD]
theorem gd_r {α:Type} {a b:List α} {n:Nat} (d:α) (i:Nat) (h:a.length=n):(a++b).getD (n+i) d=b.getD i d:=by
 rw [List.getD_eq_getElem?_getD,List.getElem?_append_right (by omega),show n+i - a.length=i by omega,<-List.getD_eq_getElem?_getD]
theorem gd_ne {l:List Int} {i j:Nat} {v:Int} (h:i≠j):(l.set i v).getD j 0=l.getD j 0:=by
 rw [List.getD_eq_getElem?_getD,List.getElem?_set_ne h,<-List.getD_eq_getElem?_getD]
theorem gd_eq {l:List Int} {i:Nat} {v:Int} (h:i < l.length):(l.set i v).getD i 0=v:=by
 rw [List.getD_eq_getElem?_getD,List.getElem?_set_self h]; rfl
theorem gd_map {n:Nat} {b:List TermT} {i:Nat} (h:i < b.length):(b.map (shT n)).getD i dT=shT n (b.getD i dT):=by
 rw [List.getD_eq_getElem?_getD,List.getElem?_map,List.getD_eq_getElem?_getD,List.getElem?_eq_getElem h]; rfl
theorem kidsR_all (i:Int):∀ (ks acc out:List Int),kidsR i ks acc=some out->∀ x ∈ ks,0<=x/\x < i
 | [],_,_,_,_,hx=>by cases hx
 | k::r,acc,out,h,x,hx=>by
  rw [kidsR] at h
  split at h
  .cases h
  .rename_i hc
   rcases List.mem_cons.1 hx with rfl | hx
   .omega
   .exact kidsR_all i r _ out h x hx
theorem goR_all:∀ (r:List TermT) (i:Nat) (acc out:List Int),goR i r acc=some out->∀ j,j < r.length->(1<=(r.getD j dT).1/\(r.getD j dT).1<=16)/\∀ x ∈ (r.getD j dT).2.2.2.2.2,0<=x/\x < ((i+j:Nat):Int)
 | [],_,_,_,_,j,hj=>by simp at hj
 | t::r,i,acc,out,h,j,hj=>by
  rw [goR] at h
  split at h
  .cases h
  .rename_i hc
   split at h
   .cases h
   .rename_i acc' hk
    cases j with
    | zero=>exact ⟨by show 1<=t.1/\t.1<=16; omega,fun x hx=>kidsR_all _ _ _ _ hk x hx⟩
    | succ j=>
     have:=goR_all r (i+1) acc' out h j (by simpa using hj)
     rw [show i+(j+1)=i+1+j by omega]
     exact this
theorem kidsR_app (i:Int) (Z:List Int):∀ (ks acc out:List Int),kidsR i ks acc=some out->i<=(acc.length:Int)->kidsR i ks (acc++Z)=some (out++Z)
 | [],acc,out,h,_=>by cases h; rfl
 | k::r,acc,out,h,hl=>by
  rw [kidsR] at h ⊢
  split at h
  .cases h
  .rename_i hc
   have hk:k.toNat < acc.length:=by omega
   rw [if_neg hc,List.set_append_left _ _ hk,gd_l 0 hk]
   exact kidsR_app i Z r _ out h (by rw [List.length_set]; exact hl)
theorem kidsR_sh (i:Int) (X:List Int):∀ (ks acc out:List Int),kidsR i ks acc=some out->kidsR (i+(X.length:Int)) (ks.map (·+(X.length:Int))) (X++acc)=some (X++out)
 | [],acc,out,h=>by cases h; rfl
 | k::r,acc,out,h=>by
  rw [kidsR] at h
  split at h
  .cases h
  .rename_i hc
   rw [List.map_cons,kidsR,if_neg (by omega),show (k+(X.length:Int)).toNat=X.length+k.toNat by omega,gd_r 0 _ rfl,List.set_append_right _ _ (by omega),show X.length+k.toNat - X.length=k.toNat by omega]
   exact kidsR_sh i X r _ out h
theorem kidsR_top (i:Int):∀ (ks acc out:List Int),kidsR i ks acc=some out->∀ j:Nat,i<=(j:Int)->out.getD j 0=acc.getD j 0
 | [],acc,out,h,_,_=>by cases h; rfl
 | k::r,acc,out,h,j,hj=>by
  rw [kidsR] at h
  split at h
  .cases h
  .rename_i hc
   rw [kidsR_top i r _ out h j hj,gd_ne (by omega)]
theorem goR_app (Z:List Int):∀ (r:List TermT) (i:Nat) (acc out:List Int),goR i r acc=some out->i+r.length<=acc.length->goR i r (acc++Z)=some (out++Z)
 | [],i,acc,out,h,_=>by cases h; rfl
 | t::r,i,acc,out,h,hl=>by
  rw [List.length_cons] at hl
  rw [goR] at h ⊢
  split at h
  .cases h
  .rename_i hc
   split at h
   .cases h
   .rename_i acc' hk
    rw [if_neg hc,kidsR_app _ Z _ _ _ hk (by omega)]
    exact goR_app Z r (i+1) acc' out h (by rw [kidsR_len _ _ _ _ hk]; omega)
theorem goR_sh (X:List Int):∀ (r:List TermT) (i:Nat) (acc out:List Int),goR i r acc=some out->goR (i+X.length) (r.map (shT X.length)) (X++acc)=some (X++out)
 | [],i,acc,out,h=>by cases h; rfl
 | t::r,i,acc,out,h=>by
  rw [goR] at h
  split at h
  .cases h
  .rename_i hc
   split at h
   .cases h
   .rename_i acc' hk
    have hs:=kidsR_sh (i:Int) X _ _ _ hk
    rw [List.map_cons,goR,if_neg (by show ¬ (t.1 < 1\/t.1 > 16); exact hc)]
    show (match kidsR ((i+X.length:Nat):Int) (t.2.2.2.2.2.map (·+(X.length:Int))) (X++acc) with
     | none=>none
     | some acc'=>goR (i+X.length+1) (r.map (shT X.length)) acc')=_
    rw [show ((i+X.length:Nat):Int)=(i:Int)+(X.length:Int) by omega,hs]
    dsimp only
    rw [show i+X.length+1=i+1+X.length by omega]
    exact goR_sh X r (i+1) acc' out h
theorem goR_two (r2:List TermT):∀ (r:List TermT) (i:Nat) (acc out:List Int),goR i r acc=some out->goR i (r++r2) acc=goR (i+r.length) r2 out
 | [],i,acc,out,h=>by cases h; rfl
 | t::r,i,acc,out,h=>by
  rw [goR] at h
  split at h
  .cases h
  .rename_i hc
   split at h
   .cases h
   .rename_i acc' hk
    rw [List.cons_append,goR,if_neg hc,hk]
    dsimp only
    rw [goR_two r2 r (i+1) acc' out h,List.length_cons,show i+1+r.length=i+(r.length+1) by omega]
theorem goR_top:∀ (r:List TermT) (i:Nat) (acc out:List Int),goR i r acc=some out->∀ j,i+r.length<=j+1->out.getD j 0=acc.getD j 0
 | [],i,acc,out,h,_,_=>by cases h; rfl
 | t::r,i,acc,out,h,j,hj=>by
  rw [List.length_cons] at hj
  rw [goR] at h
  split at h
  .cases h
  .split at h
   .cases h
   .rename_i acc' hk
    rw [goR_top r (i+1) acc' out h j (by omega),kidsR_top _ _ _ _ hk j (by omega)]
theorem right_spec {f:List TermT} (h:rightP f=true):f.length<=40/\∃ acc,goR 0 f (List.replicate f.length 0)=some acc/\acc.length=f.length/\(∀ j,j+1 < f.length->acc.getD j 0=1)/\(∀ j,f.length=j+1->acc.getD j 0=0):=by
 unfold rightP at h
 split at h
 .cases h
 .rename_i hl
  cases hg:goR 0 f (List.replicate f.length 0) with
  | none=>rw [hg] at h; cases h
  | some acc=>
   rw [hg] at h
   have hlen:=goR_len _ _ _ _ hg
   rw [List.length_replicate] at hlen
   refine ⟨by omega,acc,rfl,hlen,fun j hj=>?_,fun j hj=>?_⟩
   .have hm:acc.getD j 0 ∈ acc.take (f.length - 1):=by
     have hlt:j < (acc.take (f.length - 1)).length:=by rw [List.length_take]; omega
     have:=getD_mem hlt (0:Int)
     rwa [List.getD_eq_getElem?_getD,List.getElem?_take_of_lt (by omega),<-List.getD_eq_getElem?_getD] at this
    exact beq_iff_eq.1 (List.all_eq_true.1 h _ hm)
   .rw [goR_top _ _ _ _ hg j (by omega),List.getD_eq_getElem?_getD,List.getElem?_replicate]
    split <;> rfl
abbrev KidsOk (f:List TermT):Prop:=∀ i,i < f.length->∀ x ∈ (f.getD i dT).2.2.2.2.2,0<=x/\x < (i:Int)
theorem right_kids {f:List TermT} (h:rightP f=true):KidsOk f:=by
 obtain ⟨_,acc,hg,_⟩:=right_spec h
 intro i hi x hx
 have:=(goR_all _ _ _ _ hg i hi).2 x hx
 rwa [Nat.zero_add] at this
theorem tree_len (kd:Int) (a b:List TermT):(treeL kd a b).length=a.length+b.length+1:=by simp [treeL]; omega
theorem tree_right {a b:List TermT} (ha:rightP a=true) (hb:rightP b=true) (na:1<=a.length) (nb:1<=b.length) (hl:a.length+b.length<=38) {kd:Int} (hk:1<=kd/\kd<=16):rightP (treeL kd a b)=true:=by
 obtain ⟨_,A,hA,lA,oneA,zA⟩:=right_spec ha
 obtain ⟨_,B,hB,lB,oneB,zB⟩:=right_spec hb
 have hrep:List.replicate (treeL kd a b).length (0:Int)=List.replicate a.length 0++(List.replicate b.length 0++[0]):=by
  rw [tree_len,<-List.replicate_append_replicate,<-List.replicate_append_replicate,List.append_assoc]; rfl
 have h1:=goR_app (List.replicate b.length 0++[0]) _ _ _ _ hA (by rw [List.length_replicate]; omega)
 have h2:=goR_app [0] _ _ _ _ hB (by rw [List.length_replicate]; omega)
 have h3:=goR_sh A _ _ _ _ h2
 rw [lA,Nat.zero_add] at h3
 have h4:=goR_two (b.map (shT a.length)) _ _ _ _ h1
 rw [Nat.zero_add,h3] at h4
 have h5:=goR_two [(kd,((0:Int),(([]:List UInt8),(([]:List UInt8),([],[(a.length:Int) - (1:Int),((a++b.map (shT a.length)).length:Int) - (1:Int)])))))] _ _ _ _ h4
 have hn:(a++b.map (shT a.length)).length=a.length+b.length:=by simp
 have hXl:(A++(B++[0])).length=a.length+b.length+1:=by simp [lA,lB]; omega
 obtain ⟨p,hp⟩:∃ p,a.length=p+1:=⟨a.length - 1,by omega⟩
 obtain ⟨q,hq⟩:∃ q,b.length=q+1:=⟨b.length - 1,by omega⟩
 have hroot:∀ X:List Int,X.length=a.length+b.length+1->goR (0+(a++b.map (shT a.length)).length) [(kd,((0:Int),(([]:List UInt8),(([]:List UInt8),([],[(a.length:Int) - (1:Int),((a++b.map (shT a.length)).length:Int) - (1:Int)])))))] X=
  some ((X.set p (X.getD p 0+1)).set (a.length+q) ((X.set p (X.getD p 0+1)).getD (a.length+q) 0+1)):=by
  intro X hX
  rw [hn,Nat.zero_add,goR,if_neg (by show ¬ (kd < 1\/kd > 16); omega)]
  dsimp only
  rw [kidsR,if_neg (by omega),kidsR,if_neg (by omega),kidsR]
  dsimp only
  rw [goR,show ((a.length:Int) - 1).toNat=p by omega,show (((a.length+b.length:Nat):Int) - 1).toNat=a.length+q by omega]
 rw [hroot _ hXl] at h5
 unfold rightP
 rw [if_neg (by rw [tree_len]; omega),hrep]
 have hT:treeL kd a b=(a++b.map (shT a.length))++[(kd,((0:Int),(([]:List UInt8),(([]:List UInt8),([],[(a.length:Int) - (1:Int),((a++b.map (shT a.length)).length:Int) - (1:Int)])))))]:=rfl
 have hlenT:(treeL kd a b).length - 1=a.length+b.length:=by rw [tree_len]; omega
 rw [hlenT,hT,h5]
 dsimp only
 rw [List.all_eq_true]
 intro x hx
 rw [beq_iff_eq]
 obtain ⟨j,hj,rfl⟩:=List.getElem_of_mem hx
 have hj':j < a.length+b.length:=by rw [List.length_take] at hj; omega
 rw [List.getElem_take]
 have hgd:∀ (l:List Int) (h:j < l.length),l[j]=l.getD j 0:=fun l h=>by rw [List.getD_eq_getElem?_getD,List.getElem?_eq_getElem h]; rfl
 rw [hgd]
 have hX:∀ i,i < a.length+b.length->(A++(B++[0])).getD i 0=if i=p\/i=a.length+q then 0 else 1:=by
  intro i hi
  by_cases h:i < a.length
  .rw [gd_l 0 (by omega)]
   by_cases h6:i=p
   .rw [if_pos (.inl h6),h6]; exact zA p hp
   .rw [if_neg (by omega)]; exact oneA i (by omega)
  .obtain ⟨i',rfl⟩:∃ i',i=a.length+i':=⟨i - a.length,by omega⟩
   rw [gd_r 0 i' lA,gd_l 0 (by omega)]
   by_cases h6:i'=q
   .rw [if_pos (.inr (by omega)),h6]; exact zB q hq
   .rw [if_neg (by omega)]; exact oneB i' (by omega)
 have hpq:p≠a.length+q:=by omega
 have hpl:p < (A++(B++[0])).length:=by omega
 by_cases hj1:j=a.length+q
 .subst hj1
  rw [gd_eq (by rw [List.length_set]; omega),gd_ne hpq,hX _ hj',if_pos (.inr rfl)]; rfl
 .rw [gd_ne (fun e=>hj1 e.symm)]
  by_cases hj2:j=p
  .subst hj2
   rw [gd_eq hpl,hX _ hj',if_pos (.inl rfl)]; rfl
  .rw [gd_ne (fun e=>hj2 e.symm),hX _ hj',if_neg (by omega)]
theorem any_cong {α:Type} {f g:α->Bool}:∀ {l:List α},(∀ x ∈ l,f x=g x)->l.any f=l.any g
 | [],_=>rfl
 | x::r,h=>by rw [List.any_cons,List.any_cons,h x (by simp),any_cong fun y hy=>h y (List.mem_cons_of_mem _ hy)]
theorem hG_step (k:Nat) (p:OpenT) (f:List TermT) (i:Nat) (t:TermT) (h:f.getD i dT=t):hGF (k+1) p f (i:Int)=
 if t.1=1 then !(t.2.2.2.2.2.any fun x=>!(hGF k p f x)) else if t.1=2 then t.2.2.2.2.2.any fun x=>hGF k p f x else if t.1=3 then !(t.2.2.2.2.2.any fun x=>hGF k p f x) else hold3 p t:=by
 rw [hGF,Int.toNat_natCast,h]
theorem hG_cong {k k':Nat} {p:OpenT} {f f':List TermT} {i i':Nat} {t t':TermT} (h:f.getD i dT=t) (h':f'.getD i' dT=t') (e1:t.1=t'.1) (e2:hold3 p t=hold3 p t')
 (e3:(t.2.2.2.2.2.any fun x=>hGF k p f x)=t'.2.2.2.2.2.any fun x=>hGF k' p f' x) (e4:(t.2.2.2.2.2.any fun x=>!(hGF k p f x))=t'.2.2.2.2.2.any fun x=>!(hGF k' p f' x)):
 hGF (k+1) p f (i:Int)=hGF (k'+1) p f' (i':Int):=by
 rw [hG_step k p f i t h,hG_step k' p f' i' t' h',e1,e2,e3,e4]
theorem hG_left (p:OpenT) (a Z:List TermT) (h:KidsOk a):∀ (k i:Nat),i < a.length->hGF k p (a++Z) (i:Int)=hGF k p a (i:Int)
 | 0,_,_=>rfl
 | k+1,i,hi=>by
  have key:∀ x ∈ (a.getD i dT).2.2.2.2.2,hGF k p (a++Z) x=hGF k p a x:=fun x hx=>by
   have hx2:=h i hi x hx
   obtain ⟨y,rfl⟩:=Int.eq_ofNat_of_zero_le hx2.1
   exact hG_left p a Z h k y (by omega)
  exact hG_cong (gd_l dT hi) rfl rfl rfl (any_cong key) (any_cong fun x hx=>by rw [key x hx])
theorem hG_right (p:OpenT) (X b Z:List TermT) (h:KidsOk b):∀ (k i:Nat),i < b.length->hGF k p ((X++b.map (shT X.length))++Z) ((X.length+i:Nat):Int)=hGF k p b (i:Int)
 | 0,_,_=>rfl
 | k+1,i,hi=>by
  have e:((X++b.map (shT X.length))++Z).getD (X.length+i) dT=shT X.length (b.getD i dT):=by
   rw [gd_l dT (by simp; omega),gd_r dT i rfl,gd_map hi]
  have key:∀ x ∈ (b.getD i dT).2.2.2.2.2,hGF k p ((X++b.map (shT X.length))++Z) (x+(X.length:Int))=hGF k p b x:=fun x hx=>by
   have hx2:=h i hi x hx
   obtain ⟨y,rfl⟩:=Int.eq_ofNat_of_zero_le hx2.1
   rw [show ((y:Int)+(X.length:Int))=((X.length+y:Nat):Int) by omega]
   exact hG_right p X b Z h k y (by omega)
  have hk:(shT X.length (b.getD i dT)).2.2.2.2.2=(b.getD i dT).2.2.2.2.2.map (·+(X.length:Int)):=rfl
  refine hG_cong e rfl rfl rfl ?_ ?_
  .rw [hk,List.any_map]; exact any_cong key
  .rw [hk,List.any_map]; exact any_cong fun x hx=>by show (!(hGF k p _ (x+(X.length:Int))))=_; rw [key x hx]
theorem hG_fuel (p:OpenT) (a:List TermT) (h:KidsOk a):∀ (k k' i:Nat),i < k->i < k'->i < a.length->hGF k p a (i:Int)=hGF k' p a (i:Int)
 | 0,_,_,h1,_,_=>by omega
 | _+1,0,_,_,h2,_=>by omega
 | k+1,k'+1,i,h1,h2,hi=>by
  have key:∀ x ∈ (a.getD i dT).2.2.2.2.2,hGF k p a x=hGF k' p a x:=fun x hx=>by
   have hx2:=h i hi x hx
   obtain ⟨y,rfl⟩:=Int.eq_ofNat_of_zero_le hx2.1
   exact hG_fuel p a h k k' y (by omega) (by omega) (by omega)
  exact hG_cong rfl rfl rfl rfl (any_cong key) (any_cong fun x hx=>by rw [key x hx])
theorem holdF_at {f:List TermT} {m:MailT} (h:rightP f=true) {n:Nat} (hn:f.length=n+1):holdF f m=hGF 41 (openP m) f (n:Int):=by
 unfold holdF
 rw [h,Bool.true_and,beq_eq_false_iff_ne.2 (by omega),Bool.false_or,show ((f.length:Int) - 1)=(n:Int) by omega]
theorem tree_holds {a b:List TermT} (ha:rightP a=true) (hb:rightP b=true) (na:1<=a.length) (nb:1<=b.length) (hl:a.length+b.length<=38) (m:MailT):
 holdF (treeL 1 a b) m=(holdF a m&&holdF b m)/\holdF (treeL 2 a b) m=(holdF a m||holdF b m)/\holdF (treeL 3 a b) m=(!holdF a m&&!holdF b m):=by
 obtain ⟨p,hp⟩:∃ p,a.length=p+1:=⟨a.length - 1,by omega⟩
 obtain ⟨q,hq⟩:∃ q,b.length=q+1:=⟨b.length - 1,by omega⟩
 have ka:=right_kids ha
 have kb:=right_kids hb
 have hn:(a++b.map (shT a.length)).length=a.length+b.length:=by simp
 have hroot:∀ kd:Int,(treeL kd a b).getD (a.length+b.length) dT=(kd,((0:Int),(([]:List UInt8),(([]:List UInt8),([],[(a.length:Int) - (1:Int),((a++b.map (shT a.length)).length:Int) - (1:Int)]))))):=fun kd=>by
  unfold treeL
  have:=gd_r (a:=a++b.map (shT a.length)) (b:=[(kd,((0:Int),(([]:List UInt8),(([]:List UInt8),(([]:List (Int×Int)),[(a.length:Int) - (1:Int),((a++b.map (shT a.length)).length:Int) - (1:Int)])))))]) dT 0 hn
  exact this
 have e1:∀ kd:Int,hGF 40 (openP m) (treeL kd a b) ((a.length:Int) - 1)=holdF a m:=fun kd=>by
  rw [holdF_at ha hp,show ((a.length:Int) - 1)=(p:Int) by omega]
  unfold treeL
  rw [List.append_assoc,hG_left _ a _ ka 40 p (by omega)]
  exact hG_fuel _ a ka 40 41 p (by omega) (by omega) (by omega)
 have e2:∀ kd:Int,hGF 40 (openP m) (treeL kd a b) (((a++b.map (shT a.length)).length:Int) - 1)=holdF b m:=fun kd=>by
  rw [holdF_at hb hq,hn,show (((a.length+b.length:Nat):Int) - 1)=((a.length+q:Nat):Int) by omega]
  unfold treeL
  rw [hG_right _ a b _ kb 40 q (by omega)]
  exact hG_fuel _ b kb 40 41 q (by omega) (by omega) (by omega)
 have key:∀ kd:Int,1<=kd/\kd<=16->holdF (treeL kd a b) m=hGF (40+1) (openP m) (treeL kd a b) ((a.length+b.length:Nat):Int):=fun kd hk=>holdF_at (tree_right ha hb na nb hl hk) (tree_len kd a b)
 refine ⟨?_,?_,?_⟩
 .rw [key 1 (by decide),hG_step 40 _ _ _ _ (hroot 1),if_pos rfl,List.any_cons,List.any_cons,List.any_nil,e1,e2]
  cases holdF a m <;> cases holdF b m <;> rfl
 .rw [key 2 (by decide),hG_step 40 _ _ _ _ (hroot 2),if_neg (by show ¬ ((2:Int)=1); decide),if_pos rfl,List.any_cons,List.any_cons,List.any_nil,e1,e2]
  cases holdF a m <;> cases holdF b m <;> rfl
 .rw [key 3 (by decide),hG_step 40 _ _ _ _ (hroot 3),if_neg (by show ¬ ((3:Int)=1); decide),if_neg (by show ¬ ((3:Int)=2); decide),if_pos rfl,List.any_cons,List.any_cons,List.any_nil,e1,e2]
  cases holdF a m <;> cases holdF b m <;> rfl
theorem hGok_of {p:OpenT} {f:List TermT} (hk:KidsOk f) (hl:∀ t ∈ f,leafok p t/\t.2.2.2.2.2.length<=1000000):∀ (k i:Nat),i < k->i < f.length->hGok k p f (i:Int)
 | 0,_,h,_=>by omega
 | k+1,i,h,hi=>by
  have hm:f.getD i dT ∈ f:=getD_mem hi _
  rw [hGok,Int.toNat_natCast]
  refine ⟨⟨by omega,by omega⟩,(hl _ hm).1,fun _=>⟨(hl _ hm).2,fun x hx=>?_⟩⟩
  have hx2:=hk i hi x hx
  obtain ⟨y,rfl⟩:=Int.eq_ofNat_of_zero_le hx2.1
  exact hGok_of hk hl k y (by omega) (by omega)
abbrev smallM (m:MailT):Prop:=m.2.2.1.length<=1000/\m.2.2.2.2.1.length<=40/\m.2.2.2.2.2.1.length<=20
abbrev smallT (t:TermT):Prop:=t.2.2.2.1.length<=300/\t.2.2.1.length<=300/\t.2.2.2.2.1.length<=60/\t.2.2.2.2.2.length<=60
theorem leaf_of {m:MailT} {t:TermT} (hm:smallM m) (ht:smallT t):leafok (openP m) t:=by
 obtain ⟨m1,m2,m3⟩:=hm
 obtain ⟨t1,t2,t3,t4⟩:=ht
 have h1:=splitS_len m.2.2.1 0 (m.2.2.1.length:Int)
 refine ⟨by show m.2.2.2.2.2.1.length<=_; omega,by show m.2.2.2.2.1.length<=_; omega,by omega,by show (m.2.2.1.drop _).length<=_; rw [List.length_drop]; omega,by omega,by show (splitS m.2.2.1 0 (m.2.2.1.length:Int)).1.length<=_; omega,fun g hg=>?_⟩
 have h2:=splitS_elem m.2.2.1 0 (m.2.2.1.length:Int) g hg
 exact ⟨by omega,by omega,by omega,by omega⟩
theorem holdok_of {f:List TermT} {m:MailT} (hm:smallM m) (ht:∀ t ∈ f,smallT t) (hl:f.length<=40):holdok f m:=by
 refine ⟨⟨by omega,fun t h=>by have:=(ht t h).2.2.2; omega⟩,by have:=hm.1; omega,fun hr hn=>?_⟩
 obtain ⟨n,hn⟩:∃ n,f.length=n+1:=⟨f.length - 1,by omega⟩
 rw [show ((f.length:Int) - 1)=(n:Int) by omega]
 exact hGok_of (right_kids hr) (fun t h=>⟨leaf_of hm (ht t h),by have:=(ht t h).2.2.2; omega⟩) 41 n (by omega) (by omega)
theorem small_sh {n:Nat} {t:TermT} (h:smallT t):smallT (shT n t):=by
 obtain ⟨t1,t2,t3,t4⟩:=h
 exact ⟨t1,t2,t3,by show (t.2.2.2.2.2.map _).length<=_; rw [List.length_map]; exact t4⟩
theorem small_tree {kd:Int} {a b:List TermT} (ha:∀ t ∈ a,smallT t) (hb:∀ t ∈ b,smallT t):∀ t ∈ treeL kd a b,smallT t:=by
 intro t ht
 unfold treeL at ht
 rcases List.mem_append.1 ht with ht | ht
 .rcases List.mem_append.1 ht with ht | ht
  .exact ha t ht
  .obtain ⟨t',h',rfl⟩:=List.mem_map.1 ht
   exact small_sh (hb t' h')
 .rw [List.mem_singleton.1 ht]
  exact ⟨by simp,by simp,by simp,by simp⟩
theorem small_of {l:List MailT} {f:List TermT} {o:List (Elt ordC)} (h:greatP l f o=false):(∀ m ∈ l,smallM m)/\(∀ t ∈ f,smallT t)/\l.length<=30/\f.length<=60/\o.length<=10:=by
 unfold greatP at h
 simp only [Bool.or_eq_false_iff,decide_eq_false_iff_not] at h
 obtain ⟨⟨⟨h1,h2⟩,h3⟩,h4,h5⟩:=h
 refine ⟨fun m hm=>?_,fun t ht=>?_,by omega,by omega,by omega⟩
 .have h6:bigM m=false:=by
   cases hc:bigM m with
   | false=>rfl
   | true=>rw [List.any_eq_true.2 ⟨m,hm,hc⟩] at h4; cases h4
  unfold bigM at h6
  simp only [Bool.or_eq_false_iff,decide_eq_false_iff_not] at h6
  exact ⟨by omega,by omega,by omega⟩
 .have h6:bigT t=false:=by
   cases hc:bigT t with
   | false=>rfl
   | true=>rw [List.any_eq_true.2 ⟨t,ht,hc⟩] at h5; cases h5
  unfold bigT at h6
  simp only [Bool.or_eq_false_iff,decide_eq_false_iff_not] at h6
  exact ⟨by omega,by omega,by omega,by omega⟩
end Go.Proofs.YtampckbjinodgaaGreatDoor
