/-
  Lifted functions, and facts about them.
-/
import Derived.Test.YtoanepondbagcaaGreatDoorRows
import Derived.Test.YtoanepondbagcaaGreatDoorAmC
import Derived.Test.YtoanepondbagcaaGreatDoorC01
import Derived.Test.YtoanepondbagcaaGreatDoorC15
namespace Go.Proofs.YtoanepondbagcaaGreatDoor
open Go Go.Am
set_option linter.unusedVariables false
def withKids (p:Part) (ks:List Part):Part:=.mk p.type p.params p.enc p.attach p.head p.frm p.til ks
theorem part_eta (p:Part):Part.mk p.type p.params p.enc p.attach p.head p.frm p.til p.kids=p:=by cases p; rfl
def kidsP (e:Int) (rec:Int->Int->Int->Part×Int):List (Int×Int)->Int->List Part×Int
 | [],n=>([],n)
 | x::r,n=>if n+1<=30 then ((rec x.1 x.2 (n+1)).1::(kidsP e rec r (rec x.1 x.2 (n+1)).2).1,(kidsP e rec r (rec x.1 x.2 (n+1)).2).2) else ([],n+e)
def markP (s:List UInt8) (a b:Int):List UInt8:=boundP (oneP s a b).type (oneP s a b).params
def spansP (s:List UInt8) (a b:Int):List (Int×Int):=spansI s (oneP s a b).frm (oneP s a b).til ([45,45]++markP s a b)
def treeP (e:Int) (s:List UInt8):Nat->Int->Int->Int->Part×Int
 | 0,a,b,n=>(oneP s a b,n)
 | d+1,a,b,n=>if markP s a b=[] then (oneP s a b,n) else (withKids (oneP s a b) (kidsP e (treeP e s d) (spansP s a b) n).1,(kidsP e (treeP e s d) (spansP s a b) n).2)
abbrev ofok (k:Nat) (s:List UInt8) (dp x y n:Int):Prop:=0<=dp/\dp<=6/\6 < dp+k/\0<=x/\x<=y/\y<=s.length/\s.length<=1000000/\0<=n/\n<=30
theorem kids_cnt {e B:Int} (he:0<=e) (hB:0<=B) {rec:Int->Int->Int->Part×Int} (hr:∀ x y n,0<=n->n<=30->n<=(rec x y n).2/\(rec x y n).2<=30+B):∀ (l:List (Int×Int)) (n:Int),0<=n->n<=30+B->n<=(kidsP e rec l n).2/\(kidsP e rec l n).2<=30+B+e
 | [],n,h0,h1=>by rw [kidsP]; dsimp only; omega
 | x::r,n,h0,h1=>by
  rw [kidsP]
  split
  .have h2:=hr x.1 x.2 (n+1) (by omega) (by omega)
   have h3:=kids_cnt he hB hr r (rec x.1 x.2 (n+1)).2 (by omega) (by omega)
   dsimp only; omega
  .dsimp only; omega
theorem tree_cnt {e:Int} (he:0<=e) (he1:e<=1) (s:List UInt8):∀ (d:Nat) (a b n:Int),0<=n->n<=30->n<=(treeP e s d a b n).2/\(treeP e s d a b n).2<=30+d
 | 0,a,b,n,h0,h1=>by rw [treeP]; dsimp only; omega
 | d+1,a,b,n,h0,h1=>by
  rw [treeP]
  split
  .dsimp only; omega
  .have:=kids_cnt he (B:=d) (by omega) (fun x y n h0 h1=>tree_cnt he he1 s d x y n h0 h1) (spansP s a b) n h0 (by omega)
   dsimp only; omega
theorem addS_ok {s:List UInt8} {a b i:Nat} {op:Option Nat} {out:List (Nat×Nat)} (hib:i<=b) (ho:∀ o,op=some o->a<=o/\o<=i) (h:∀ x ∈ out,a<=x.1/\x.1<=x.2/\x.2<=b):∀ x ∈ addS s op i out,a<=x.1/\x.1<=x.2/\x.2<=b:=by
 unfold addS
 split
 .rename_i o
  intro x hx
  rcases List.mem_append.1 hx with hx | hx
  .exact h x hx
  .rw [List.mem_singleton.1 hx]
   have h1:=ho o rfl
   have h2:=(aheadN_le s i).1
   unfold maxN
   dsimp only
   split <;> omega
 .exact h
theorem spans_ok {s m:List UInt8} {a b:Nat} (hb:b<=s.length):∀ (n i:Nat) (op:Option Nat) (out:List (Nat×Nat)),b - i=n->i<=b->a<=i->(∀ o,op=some o->a<=o/\o<=i)->(∀ x ∈ out,a<=x.1/\x.1<=x.2/\x.2<=b)->out.length<=i->
 (∀ x ∈ spF s m b (linesN s i b) op out,a<=x.1/\x.1<=x.2/\x.2<=b)/\(spF s m b (linesN s i b) op out).length<=b+1:=by
 intro n
 induction n using Nat.strongRecOn with
 | _ n ih=>
  intro i op out hn hi ha ho hout hl
  by_cases hib:i < b
  .obtain ⟨z1,z2,z3,z4⟩:=nextL_spec hib hb
   have hA:=addS_ok (s:=s) (i:=i) (op:=op) (by omega) ho hout
   have hAl:=addS_len s op i out
   rw [z1,spF]
   split
   .exact ⟨hA,by omega⟩
   .split
    .exact ih (b - (nextL s i b).2) (by omega) _ _ _ rfl z3 (by omega) (fun o h=>by cases h; omega) hA (by omega)
    .exact ih (b - (nextL s i b).2) (by omega) _ _ _ rfl z3 (by omega) (fun o h=>by have:=ho o h; omega) hout (by omega)
  .rw [linesN_nil (by omega)]
   cases op with
   | none=>exact ⟨hout,by show out.length<=_; omega⟩
   | some o=>
    have h1:=ho o rfl
    refine ⟨fun x hx=>?_,by show (out++[(o,b)]).length<=_; simp; omega⟩
    rcases List.mem_append.1 hx with hx | hx
    .exact hout x hx
    .rw [List.mem_singleton.1 hx]; dsimp only; omega
theorem gath_body:∀ (L:List (Nat×List UInt8×Nat)) (x y:Nat) (g:List (List UInt8)),lnOk x y L->x<=y->(x:Int)<=(gathS L (y:Int) g).2/\(gathS L (y:Int) g).2<=y
 | [],x,y,g,h,h1=>by rw [gathS]; dsimp only; omega
 | (i,t,nx)::r,x,y,g,h,h1=>by
  obtain ⟨l1,l2,l3,l4⟩:=h
  rw [gathS]
  split
  .dsimp only; omega
  .split
   .have:=gath_body r nx y (g.set (g.length - 1) (g.getD (g.length - 1) []++t)) l4 l2; omega
   .have:=gath_body r nx y (g++[t]) l4 l2; omega
theorem body_ok {s:List UInt8} {a b:Int} (h0:0<=a) (h1:a<=b) (h2:b<=s.length):a<=(oneP s a b).frm/\(oneP s a b).frm<=b:=by
 obtain ⟨na,rfl⟩:=Int.eq_ofNat_of_zero_le h0
 obtain ⟨nb,rfl⟩:=Int.eq_ofNat_of_zero_le (Int.le_trans h0 h1)
 show _<=(splitS s (na:Int) (nb:Int)).2/\(splitS s (na:Int) (nb:Int)).2<=_
 unfold splitS
 rw [if_neg (by omega),Int.toNat_natCast,Int.toNat_natCast]
 exact gath_body _ na nb [] (linesN_ok (s:=s) (b:=nb) (by omega) (nb - na) na rfl (by omega)).1 (by omega)
theorem qtP_all (l acc:List UInt8):(qtP acc l).1.length<=acc.length+l.length:=(qtP_len l.length acc l (Nat.le_refl _)).1
theorem paramP_val (s:List UInt8):(paramP s).1.2.length<=s.length:=by
 have hl:=trimLB_len s
 unfold paramP
 rcases ixSep_split (trimLB s) with ⟨h1,h2,h3⟩ | ⟨c,u,h1,h2,h3,h4⟩
 .rw [h1]; simp
 .have hlen:=congrArg List.length h3
  simp only [List.length_append,List.length_cons] at hlen
  rw [h1]
  dsimp only
  by_cases h59:c=59
  .rw [if_pos h59]; simp
  .rw [if_neg h59]
   have hu:=trimLB_len u
   cases hv:trimLB u with
   | nil=>simp
   | cons d q=>
    have hql:q.length+1<=u.length:=by rw [hv] at hu; simpa using hu
    dsimp only
    by_cases h34:d=34
    .rw [if_pos h34]
     have hqt:=qtP_all q []
     simp at hqt
     dsimp only; omega
    .rw [if_neg h34]
     have hcl:=cutS_len (d::q) 59
     have hr:=trimRB_len (cutS (d::q) 59).1
     simp only [List.length_cons] at hcl
     dsimp only; omega
theorem valsP_ok (N:Nat):∀ (n:Nat) (r:List UInt8) (m:Bool) (l:List (List UInt8×List UInt8)),r.length<=N->(∀ x ∈ l,x.2.length<=N)->(∀ x ∈ valsP n r m l,x.2.length<=N)/\(valsP n r m l).length<=l.length+n
 | 0,r,m,l,hr,hl=>⟨hl,by rw [valsP]; omega⟩
 | n+1,r,m,l,hr,hl=>by
  rw [valsP]
  split
  .have h1:=(paramP_le r).1
   have h2:=paramP_val r
   have hl2:∀ x ∈ (if (paramP r).1.1≠[] then l++[(paramP r).1] else l),x.2.length<=N:=by
    split
    .intro x hx
     rcases List.mem_append.1 hx with hx | hx
     .exact hl x hx
     .rw [List.mem_singleton.1 hx]; omega
    .exact hl
   have h3:(if (paramP r).1.1≠[] then l++[(paramP r).1] else l).length<=l.length+1:=by split <;> simp
   obtain ⟨h4,h5⟩:=valsP_ok N n _ (paramP r).2.2 _ (by omega:(paramP r).2.1.length<=N) hl2
   exact ⟨h4,by omega⟩
  .exact ⟨hl,by omega⟩
theorem valuesP_ok (s:List UInt8):(∀ x ∈ (valuesP s).2,x.2.length<=s.length)/\(valuesP s).2.length<=s.length+1:=by
 have hc:=cutS_len s 59
 obtain ⟨h1,h2⟩:=valsP_ok s.length (s.length+1) (cutS s 59).2.1 (cutS s 59).2.2 [] (by omega) (by simp)
 exact ⟨h1,by rw [List.length_nil,Nat.zero_add] at h2; exact h2⟩
theorem one_params (s:List UInt8) (a b:Int):(∀ x ∈ (oneP s a b).params,x.2.length<=s.length)/\(oneP s a b).params.length<=s.length+1:=by
 have hel:=splitS_elem s a b
 have hv:=firstS_len (l:=(splitS s a b).1) (n:=cType) (k:=s.length) fun x hx=>(hel x hx).2
 show (∀ x ∈ (typeF (splitS s a b).1).2,_)/\(typeF (splitS s a b).1).2.length<=_
 obtain ⟨l,hl⟩:∃ l,(splitS s a b).1=l:=⟨_,rfl⟩
 rw [hl] at hv ⊢
 obtain ⟨h1,h2⟩:=valuesP_ok (firstS l cType).1
 have hp:(∀ x ∈ plainT.2,x.2.length<=s.length)/\plainT.2.length<=s.length+1:=⟨by simp [plainT],by simp [plainT]⟩
 unfold typeF
 split
 .split
  .exact ⟨fun x hx=>by have:=h1 x hx; omega,by omega⟩
  .exact hp
 .exact hp
theorem mark_len (s:List UInt8) (a b:Int):(markP s a b).length<=s.length:=by
 have h:=(one_params s a b).1
 unfold markP boundP
 split
 .split
  .rename_i x hx; exact h x (List.mem_of_find?_eq_some hx)
  .simp
 .simp
theorem spansP_ok {s:List UInt8} {a b:Int} (h0:0<=a) (h1:a<=b) (h2:b<=s.length):(∀ x ∈ spansP s a b,(oneP s a b).frm<=x.1/\x.1<=x.2/\x.2<=b)/\(spansP s a b).length<=s.length+1:=by
 obtain ⟨g1,g2⟩:=body_ok h0 h1 h2
 unfold spansP spansI spansN
 obtain ⟨nf,hf⟩:=Int.eq_ofNat_of_zero_le (Int.le_trans h0 g1)
 obtain ⟨nb,hb⟩:=Int.eq_ofNat_of_zero_le (Int.le_trans h0 h1)
 have ht:(oneP s a b).til=b:=rfl
 rw [ht]
 rw [hf] at g1 g2 ⊢
 rw [hb] at g2 h2 ⊢
 rw [Int.toNat_natCast,Int.toNat_natCast]
 obtain ⟨k1,k2⟩:=spans_ok (s:=s) (m:=[45,45]++markP s a (nb:Int)) (a:=nf) (b:=nb) (by omega) (nb - nf) nf none [] rfl (by omega) (Nat.le_refl _) (fun o h=>by cases h) (by simp) (by simp)
 refine ⟨fun x hx=>?_,by rw [List.length_map]; omega⟩
 obtain ⟨y,hy,rfl⟩:=List.mem_map.1 hx
 have:=k1 y hy
 unfold spanI
 dsimp only
 omega
noncomputable def Groom:Cfg:=⟨Tryz.prog,mkEnv [],mkEnvR [],6,[70000],[],[]⟩
noncomputable def Froom (F:Nat) (n:Int):Option Ans:=runFR Groom Tryz.f56 ⟨[1],[⟨.fix 70000,70000,.cells []⟩]⟩ [70000] F [.ref 70000 0] [(70000,.cells [.p (.int .i64 n)])]
theorem Froom_eq (F:Nat) (n:Int):Froom F n=need (i64ok (n+(1:Int))) (some (.p (.bool (decide ((n+(1:Int))<=(30:Int)))),[(70000,.cells [.p (.int .i64 (n+(1:Int)))])])):=by kernel_rfl
theorem fn_room (F:Nat) (n:Int) (r:AV) (os:List (Nat×AObj)) (h:(∃ γ M w vs,ARels γ M [.ref 70000 0] vs/\Objs γ M w (fun i=>lookO i [(70000,.cells [.p (.int .i64 n)])]) (fun b=>b < w.heap.size))->Froom F n=some (r,os)):FnR Tryz.prog 56 [.ref 70000 0] [(70000,.cells [.p (.int .i64 n)])] [70000] r os:=
 FnR_run Groom ⟨[1],[⟨.fix 70000,70000,.cells []⟩]⟩ [70000] F rfl (EnvOk_mk (l:=[]) trivial) (EnvROk_mk (l:=[]) trivial) (Checked.mixed Tryz.checked) (fn:=Tryz.f56) (by kernel_rfl) (by kernel_rfl) rfl h
theorem room_eq (n:Int) (h:0<=n/\n<=1000):Froom 0 n=some (.p (.bool (decide (n+1<=30))),[(70000,.cells [.p (.int .i64 (n+1))])]):=by
 rw [Froom_eq]; exact need_mk (by unfold i64ok; omega) rfl
def sp_room:RSpec:=⟨[false],fun args ib=>match args,ib with
 | [.ref 70000 0],[(70000,.cells [.p (.int .i64 n)])]=>some (([70000],.p (.bool (decide (n+1<=30)))),([(70000,.cells [.p (.int .i64 (n+1))])],some (0<=n/\n<=1000)))
 | _,_=>none⟩
theorem ok_room:SpecROk Tryz.prog 56 sp_room:=by
 intro args ib kept r outs ok he hok
 simp only [sp_room] at he
 split at he
 .cases he
  exact ⟨by kernel_rfl,fn_room 0 _ _ _ fun _=>room_eq _ hok⟩
 .cases he
def sp_of_ (k:Nat):RSpec:=⟨[true,true,true,false,false,false],fun args ib=>match args,ib with
 | [.p (.int .i64 a),.p (.int .i64 b),.p (.int .i64 dp),.ref 70000 0,.ref 70001 0,.ref 70002 0],[(70000,.cells [.p (.str s)]),(70001,.cells [.clo (.func 56) [] [.ref 70003 0]]),(70002,.cells [.clo (.func 57) [] [.ref 70000 0,.ref 70001 0,.ref 70002 0]]),(70003,.cells [.p (.int .i64 n)])]=>
  some (([70000,70001,70002,70003],.agg [.p (.str (treeP 1 s (6 - dp).toNat a b n).1.type),.p (.list 2 (.dat (.pair .str .str) (treeP 1 s (6 - dp).toNat a b n).1.params)),.p (.str (treeP 1 s (6 - dp).toNat a b n).1.enc),.p (.bool (treeP 1 s (6 - dp).toNat a b n).1.attach),.p (.int .i64 (treeP 1 s (6 - dp).toNat a b n).1.head),.p (.int .i64 (treeP 1 s (6 - dp).toNat a b n).1.frm),.p (.int .i64 (treeP 1 s (6 - dp).toNat a b n).1.til),.p (.list 8 (.dat .part (treeP 1 s (6 - dp).toNat a b n).1.kids))]),
   ([(70000,.cells [.p (.str s)]),(70001,.cells [.clo (.func 56) [] [.ref 70003 0]]),(70002,.cells [.clo (.func 57) [] [.ref 70000 0,.ref 70001 0,.ref 70002 0]]),(70003,.cells [.p (.int .i64 (treeP 1 s (6 - dp).toNat a b n).2)])],some (ofok k s dp a b n)))
 | _,_=>none⟩
noncomputable def cof_:Code:=bodyOf Tryz.f57
noncomputable def Gof_ (k:Nat):Cfg:=⟨Tryz.prog,mkEnv [(58,sp_pone),(59,sp_bound),(60,sp_spans)],mkEnvR [(56,sp_room),(57,sp_of_ k)],58,[70000,70001,70002,70003],[([1,0,1,1,1],⟨[2,3,4,5,9,10,11,25],[⟨.slot 9,9,.cells []⟩,⟨.slot 10,10,.cells []⟩,⟨.cell 9 1,10001,(.larr 76 false 2 (.dat (.pair .str .str) ([]:List (List UInt8×List UInt8))))⟩,⟨.cell 9 7,10007,(.larr 46 false 8 (.dat .part ([]:List Part)))⟩,⟨.cell 10 7,11007,(.larr 46 false 8 (.dat .part ([]:List Part)))⟩,⟨.fix 70000,70000,.cells []⟩,⟨.fix 70001,70001,.cells []⟩,⟨.fix 70002,70002,.cells []⟩,⟨.fix 70003,70003,.cells []⟩]⟩),([0,1,0,1,1,1,1],⟨[2,4,5,9,10,34,35,36],[⟨.slot 9,9,.cells []⟩,⟨.slot 10,10,.cells []⟩,⟨.cell 9 1,10001,(.larr 76 false 2 (.dat (.pair .str .str) ([]:List (List UInt8×List UInt8))))⟩,⟨.cell 9 7,10007,(.larr 46 false 8 (.dat .part ([]:List Part)))⟩,⟨.cell 10 7,11007,(.larr 46 false 8 (.dat .part ([]:List Part)))⟩,⟨.fix 70000,70000,.cells []⟩,⟨.fix 70001,70001,.cells []⟩,⟨.fix 70002,70002,.cells []⟩,⟨.fix 70003,70003,.cells []⟩]⟩),([1,1,1,0,0,1,0,1,1,1,1],⟨[2,4,5,9,10,34,35,36],[⟨.slot 9,9,.cells []⟩,⟨.slot 10,10,.cells []⟩,⟨.cell 9 1,10001,(.larr 76 false 2 (.dat (.pair .str .str) ([]:List (List UInt8×List UInt8))))⟩,⟨.cell 9 7,10007,(.larr 46 false 8 (.dat .part ([]:List Part)))⟩,⟨.cell 10 7,11007,(.larr 46 false 8 (.dat .part ([]:List Part)))⟩,⟨.fix 70000,70000,.cells []⟩,⟨.fix 70001,70001,.cells []⟩,⟨.fix 70002,70002,.cells []⟩,⟨.fix 70003,70003,.cells []⟩]⟩),([1,1,1,1,1],⟨[9,10],[⟨.slot 9,9,.cells []⟩,⟨.slot 10,10,.cells []⟩,⟨.cell 9 1,10001,(.larr 76 false 2 (.dat (.pair .str .str) ([]:List (List UInt8×List UInt8))))⟩,⟨.cell 9 7,10007,(.larr 46 false 8 (.dat .part ([]:List Part)))⟩,⟨.cell 10 7,11007,(.larr 46 false 8 (.dat .part ([]:List Part)))⟩,⟨.fix 70000,70000,.cells []⟩,⟨.fix 70001,70001,.cells []⟩,⟨.fix 70002,70002,.cells []⟩,⟨.fix 70003,70003,.cells []⟩]⟩)],[([0,0,1,0,0,1,1,0,0,1,0,1,1,1,1],[1]),([1,1,0,0,1,1,0,0,1,0,1,1,1,1],[9]),([999999,1,1,0,0,1,1,0,0,1,0,1,1,1,1],[1,9,0,2,3,4,5,6,7,8,9,1,10,11,12,13])]⟩
noncomputable def Bof__1 (k F:Nat) (dp:Int) (vs1:List UInt8) (vc2:Bool) (vs3:List UInt8) (vl4:List (List UInt8×List UInt8)) (vs5:List UInt8) (vc6:Bool) (vi7 vi8 vi9:Int) (vl10:List (List UInt8×List UInt8)) (vl11 vl12:List Part) (s:List UInt8) (n:Int):Option Ans:=runB (Gof_ k) cof_ (kRS Tryz.prog [70000,70001,70002,70003] ⟨[9],[⟨.slot 9,9,.cells []⟩,⟨.cell 9 7,10007,(.larr 46 false 8 (.dat .part ([]:List Part)))⟩,⟨.fix 70000,70000,.cells []⟩,⟨.fix 70001,70001,.cells []⟩,⟨.fix 70002,70002,.cells []⟩,⟨.fix 70003,70003,.cells []⟩]⟩ [70000,70001,70002,70003] Tryz.f57.results.toList) F [] [1,1,1,0,1] [(2,.p (.int .i64 dp)),(3,.ref 70000 0),(4,.ref 70001 0),(5,.ref 70002 0),(9,.ref 9 0),(10,.ref 10 0),(11,.p (.str vs1)),(25,.p (.bool vc2))] [(9,.cells [.p (.str ([]:List UInt8)),.arr 10001,.p (.str ([]:List UInt8)),.p (.bool false),.p (.int .i64 (0:Int)),.p (.int .i64 (0:Int)),.p (.int .i64 (0:Int)),.arr 10007]),(10,.cells [.p (.str vs3),.p (.list 2 (.dat (.pair .str .str) vl4)),.p (.str vs5),.p (.bool vc6),.p (.int .i64 vi7),.p (.int .i64 vi8),.p (.int .i64 vi9),.arr 11007]),(10001,.larr 76 false 2 (.dat (.pair .str .str) vl10)),(10007,.larr 46 false 8 (.dat .part vl11)),(11007,.larr 46 false 8 (.dat .part vl12)),(70000,.cells [.p (.str s)]),(70001,.cells [.clo (.func 56) [] [.ref 70003 0]]),(70002,.cells [.clo (.func 57) [] [.ref 70000 0,.ref 70001 0,.ref 70002 0]]),(70003,.cells [.p (.int .i64 n)])]
noncomputable def Bof__2 (k F f1:Nat) (dp:Int) (vl13:List (Int×Int)) (vi14 vi15:Int) (vs16 vs17:List UInt8) (vc18:Bool) (vi19 vi20 vi21:Int) (vs22:List UInt8) (vl23:List (List UInt8×List UInt8)) (vs24:List UInt8) (vc25:Bool) (vi26 vi27 vi28:Int) (vl29:List (List UInt8×List UInt8)) (vl30 vl31:List Part) (vs32:List UInt8) (vi33:Int):Option Ans:=runR (Gof_ k) cof_ (kRS Tryz.prog [70000,70001,70002,70003] ⟨[9],[⟨.slot 9,9,.cells []⟩,⟨.cell 9 7,10007,(.larr 46 false 8 (.dat .part ([]:List Part)))⟩,⟨.fix 70000,70000,.cells []⟩,⟨.fix 70001,70001,.cells []⟩,⟨.fix 70002,70002,.cells []⟩,⟨.fix 70003,70003,.cells []⟩]⟩ [70000,70001,70002,70003] Tryz.f57.results.toList) F [] [1,1,1,1,0,1,0] f1 [(2,.p (.int .i64 dp)),(4,.ref 70001 0),(5,.ref 70002 0),(9,.ref 9 0),(10,.ref 10 0),(34,.p (.list 2 (.dat (.pair (.int .i64) (.int .i64)) vl13))),(35,.p (.int .i64 vi14)),(36,.p (.int .i64 vi15))] [(9,.cells [.p (.str vs16),.arr 10001,.p (.str vs17),.p (.bool vc18),.p (.int .i64 vi19),.p (.int .i64 vi20),.p (.int .i64 vi21),.arr 10007]),(10,.cells [.p (.str vs22),.p (.list 2 (.dat (.pair .str .str) vl23)),.p (.str vs24),.p (.bool vc25),.p (.int .i64 vi26),.p (.int .i64 vi27),.p (.int .i64 vi28),.arr 11007]),(10001,.larr 76 false 2 (.dat (.pair .str .str) vl29)),(10007,.larr 46 false 8 (.dat .part vl30)),(11007,.larr 46 false 8 (.dat .part vl31)),(70000,.cells [.p (.str vs32)]),(70001,.cells [.clo (.func 56) [] [.ref 70003 0]]),(70002,.cells [.clo (.func 57) [] [.ref 70000 0,.ref 70001 0,.ref 70002 0]]),(70003,.cells [.p (.int .i64 vi33)])]
noncomputable def Bof__3 (k F:Nat) (vs34 vs35:List UInt8) (vc36:Bool) (vi37 vi38 vi39:Int) (vs40:List UInt8) (vl41:List (List UInt8×List UInt8)) (vs42:List UInt8) (vc43:Bool) (vi44 vi45 vi46:Int) (vl47:List (List UInt8×List UInt8)) (vl48 vl49:List Part) (vs50:List UInt8) (vi51:Int):Option Ans:=runB (Gof_ k) cof_ (kRS Tryz.prog [70000,70001,70002,70003] ⟨[9],[⟨.slot 9,9,.cells []⟩,⟨.cell 9 7,10007,(.larr 46 false 8 (.dat .part ([]:List Part)))⟩,⟨.fix 70000,70000,.cells []⟩,⟨.fix 70001,70001,.cells []⟩,⟨.fix 70002,70002,.cells []⟩,⟨.fix 70003,70003,.cells []⟩]⟩ [70000,70001,70002,70003] Tryz.f57.results.toList) F [] [1,1,1,1,1] [(9,.ref 9 0),(10,.ref 10 0)] [(9,.cells [.p (.str vs34),.arr 10001,.p (.str vs35),.p (.bool vc36),.p (.int .i64 vi37),.p (.int .i64 vi38),.p (.int .i64 vi39),.arr 10007]),(10,.cells [.p (.str vs40),.p (.list 2 (.dat (.pair .str .str) vl41)),.p (.str vs42),.p (.bool vc43),.p (.int .i64 vi44),.p (.int .i64 vi45),.p (.int .i64 vi46),.arr 11007]),(10001,.larr 76 false 2 (.dat (.pair .str .str) vl47)),(10007,.larr 46 false 8 (.dat .part vl48)),(11007,.larr 46 false 8 (.dat .part vl49)),(70000,.cells [.p (.str vs50)]),(70001,.cells [.clo (.func 56) [] [.ref 70003 0]]),(70002,.cells [.clo (.func 57) [] [.ref 70000 0,.ref 70001 0,.ref 70002 0]]),(70003,.cells [.p (.int .i64 vi51)])]
noncomputable def Bof__4 (k F f1:Nat) (dp:Int) (vl13:List (Int×Int)) (vi14 vi15:Int) (vs16 vs17:List UInt8) (vc18:Bool) (vi19 vi20 vi21:Int) (vs22:List UInt8) (vl23:List (List UInt8×List UInt8)) (vs24:List UInt8) (vc25:Bool) (vi26 vi27 vi28:Int) (vl29:List (List UInt8×List UInt8)) (vl30 vl52:List Part) (vs32:List UInt8) (vi53:Int):Option Ans:=runB (Gof_ k) cof_ (kRS Tryz.prog [70000,70001,70002,70003] ⟨[9],[⟨.slot 9,9,.cells []⟩,⟨.cell 9 7,10007,(.larr 46 false 8 (.dat .part ([]:List Part)))⟩,⟨.fix 70000,70000,.cells []⟩,⟨.fix 70001,70001,.cells []⟩,⟨.fix 70002,70002,.cells []⟩,⟨.fix 70003,70003,.cells []⟩]⟩ [70000,70001,70002,70003] Tryz.f57.results.toList) F [f1] [1,1,1,1,0,1,0,0,1,1,1] [(2,.p (.int .i64 dp)),(4,.ref 70001 0),(5,.ref 70002 0),(9,.ref 9 0),(10,.ref 10 0),(34,.p (.list 2 (.dat (.pair (.int .i64) (.int .i64)) vl13))),(35,.p (.int .i64 vi14)),(36,.p (.int .i64 vi15))] [(9,.cells [.p (.str vs16),.arr 10001,.p (.str vs17),.p (.bool vc18),.p (.int .i64 vi19),.p (.int .i64 vi20),.p (.int .i64 vi21),.arr 10007]),(10,.cells [.p (.str vs22),.p (.list 2 (.dat (.pair .str .str) vl23)),.p (.str vs24),.p (.bool vc25),.p (.int .i64 vi26),.p (.int .i64 vi27),.p (.int .i64 vi28),.arr 11007]),(10001,.larr 76 false 2 (.dat (.pair .str .str) vl29)),(10007,.larr 46 false 8 (.dat .part vl30)),(11007,.larr 46 false 8 (.dat .part vl52)),(70000,.cells [.p (.str vs32)]),(70001,.cells [.clo (.func 56) [] [.ref 70003 0]]),(70002,.cells [.clo (.func 57) [] [.ref 70000 0,.ref 70001 0,.ref 70002 0]]),(70003,.cells [.p (.int .i64 vi53)])]
noncomputable def Fof_ (k F:Nat) (a b dp:Int) (s:List UInt8) (n:Int):Option Ans:=runFRS (Gof_ k) Tryz.f57 ⟨[9],[⟨.slot 9,9,.cells []⟩,⟨.cell 9 7,10007,(.larr 46 false 8 (.dat .part ([]:List Part)))⟩,⟨.fix 70000,70000,.cells []⟩,⟨.fix 70001,70001,.cells []⟩,⟨.fix 70002,70002,.cells []⟩,⟨.fix 70003,70003,.cells []⟩]⟩ [70000,70001,70002,70003] F [.p (.int .i64 a),.p (.int .i64 b),.p (.int .i64 dp),.ref 70000 0,.ref 70001 0,.ref 70002 0] [(70000,.cells [.p (.str s)]),(70001,.cells [.clo (.func 56) [] [.ref 70003 0]]),(70002,.cells [.clo (.func 57) [] [.ref 70000 0,.ref 70001 0,.ref 70002 0]]),(70003,.cells [.p (.int .i64 n)])]
theorem Bof__1_eq (k F:Nat) (dp:Int) (vs1:List UInt8) (vc2:Bool) (vs3:List UInt8) (vl4:List (List UInt8×List UInt8)) (vs5:List UInt8) (vc6:Bool) (vi7 vi8 vi9:Int) (vl10:List (List UInt8×List UInt8)) (vl11 vl12:List Part) (s:List UInt8) (n:Int):Bof__1 k F dp vs1 vc2 vs3 vl4 vs5 vc6 vi7 vi8 vi9 vl10 vl11 vl12 s n=cond (vc2) (some (.agg [.p (.str vs3),.p (.list 2 (.dat (.pair .str .str) vl4)),.p (.str vs5),.p (.bool vc6),.p (.int .i64 vi7),.p (.int .i64 vi8),.p (.int .i64 vi9),.p (.list 8 (.dat .part vl12))],[(70000,.cells [.p (.str s)]),(70001,.cells [.clo (.func 56) [] [.ref 70003 0]]),(70002,.cells [.clo (.func 57) [] [.ref 70000 0,.ref 70001 0,.ref 70002 0]]),(70003,.cells [.p (.int .i64 n)])])) (need (lenok (([45,45]:List UInt8).length+vs1.length)) (need (spanok s vi8 vi9 (([45,45]:List UInt8)++vs1)) (Bof__2 k F F dp (spansI s vi8 vi9 (([45,45]:List UInt8)++vs1)) ((spansI s vi8 vi9 (([45,45]:List UInt8)++vs1)).length:Int) (0:Int) ([]:List UInt8) ([]:List UInt8) false (0:Int) (0:Int) (0:Int) vs3 vl4 vs5 vc6 vi7 vi8 vi9 vl10 vl11 vl12 s n))):=by kernel_rfl
theorem Bof__2_eq (k F f1:Nat) (dp:Int) (vl13:List (Int×Int)) (vi14 vi15:Int) (vs16 vs17:List UInt8) (vc18:Bool) (vi19 vi20 vi21:Int) (vs22:List UInt8) (vl23:List (List UInt8×List UInt8)) (vs24:List UInt8) (vc25:Bool) (vi26 vi27 vi28:Int) (vl29:List (List UInt8×List UInt8)) (vl30 vl31:List Part) (vs32:List UInt8) (vi33:Int):Bof__2 k F (f1+1) dp vl13 vi14 vi15 vs16 vs17 vc18 vi19 vi20 vi21 vs22 vl23 vs24 vc25 vi26 vi27 vi28 vl29 vl30 vl31 vs32 vi33=cond (decide (vi15 < vi14)) (need (0<=vi15/\vi15 < (vl13.length:Int)) (need (0<=vi33/\vi33<=1000) (cond (!(decide (vi33+1<=30))) (Bof__3 k F vs16 vs17 vc18 vi19 vi20 vi21 vs22 vl23 vs24 vc25 vi26 vi27 vi28 vl29 vl30 vl31 vs32 (vi33+1)) (need (i64ok (dp+(1:Int))) (need (ofok k vs32 (dp+(1:Int)) ((vl13.getD (vi15).toNat ((0:Int),(0:Int))).1) ((vl13.getD (vi15).toNat ((0:Int),(0:Int))).2) (vi33+1)) (need ((vl31.length+[Part.mk (((treeP 1 vs32 (6 - (dp+(1:Int))).toNat ((vl13.getD (vi15).toNat ((0:Int),(0:Int))).1) ((vl13.getD (vi15).toNat ((0:Int),(0:Int))).2) (vi33+1)).1).type) (((treeP 1 vs32 (6 - (dp+(1:Int))).toNat ((vl13.getD (vi15).toNat ((0:Int),(0:Int))).1) ((vl13.getD (vi15).toNat ((0:Int),(0:Int))).2) (vi33+1)).1).params) (((treeP 1 vs32 (6 - (dp+(1:Int))).toNat ((vl13.getD (vi15).toNat ((0:Int),(0:Int))).1) ((vl13.getD (vi15).toNat ((0:Int),(0:Int))).2) (vi33+1)).1).enc) (((treeP 1 vs32 (6 - (dp+(1:Int))).toNat ((vl13.getD (vi15).toNat ((0:Int),(0:Int))).1) ((vl13.getD (vi15).toNat ((0:Int),(0:Int))).2) (vi33+1)).1).attach) (((treeP 1 vs32 (6 - (dp+(1:Int))).toNat ((vl13.getD (vi15).toNat ((0:Int),(0:Int))).1) ((vl13.getD (vi15).toNat ((0:Int),(0:Int))).2) (vi33+1)).1).head) (((treeP 1 vs32 (6 - (dp+(1:Int))).toNat ((vl13.getD (vi15).toNat ((0:Int),(0:Int))).1) ((vl13.getD (vi15).toNat ((0:Int),(0:Int))).2) (vi33+1)).1).frm) (((treeP 1 vs32 (6 - (dp+(1:Int))).toNat ((vl13.getD (vi15).toNat ((0:Int),(0:Int))).1) ((vl13.getD (vi15).toNat ((0:Int),(0:Int))).2) (vi33+1)).1).til) (((treeP 1 vs32 (6 - (dp+(1:Int))).toNat ((vl13.getD (vi15).toNat ((0:Int),(0:Int))).1) ((vl13.getD (vi15).toNat ((0:Int),(0:Int))).2) (vi33+1)).1).kids)].length) * 112<=140737488355328) (need (i64ok (dp+(1:Int))) (need (ofok k vs32 (dp+(1:Int)) ((vl13.getD (vi15).toNat ((0:Int),(0:Int))).1) ((vl13.getD (vi15).toNat ((0:Int),(0:Int))).2) (vi33+1)) (need ((vl31.length+[Part.mk (((treeP 1 vs32 (6 - (dp+(1:Int))).toNat ((vl13.getD (vi15).toNat ((0:Int),(0:Int))).1) ((vl13.getD (vi15).toNat ((0:Int),(0:Int))).2) (vi33+1)).1).type) (((treeP 1 vs32 (6 - (dp+(1:Int))).toNat ((vl13.getD (vi15).toNat ((0:Int),(0:Int))).1) ((vl13.getD (vi15).toNat ((0:Int),(0:Int))).2) (vi33+1)).1).params) (((treeP 1 vs32 (6 - (dp+(1:Int))).toNat ((vl13.getD (vi15).toNat ((0:Int),(0:Int))).1) ((vl13.getD (vi15).toNat ((0:Int),(0:Int))).2) (vi33+1)).1).enc) (((treeP 1 vs32 (6 - (dp+(1:Int))).toNat ((vl13.getD (vi15).toNat ((0:Int),(0:Int))).1) ((vl13.getD (vi15).toNat ((0:Int),(0:Int))).2) (vi33+1)).1).attach) (((treeP 1 vs32 (6 - (dp+(1:Int))).toNat ((vl13.getD (vi15).toNat ((0:Int),(0:Int))).1) ((vl13.getD (vi15).toNat ((0:Int),(0:Int))).2) (vi33+1)).1).head) (((treeP 1 vs32 (6 - (dp+(1:Int))).toNat ((vl13.getD (vi15).toNat ((0:Int),(0:Int))).1) ((vl13.getD (vi15).toNat ((0:Int),(0:Int))).2) (vi33+1)).1).frm) (((treeP 1 vs32 (6 - (dp+(1:Int))).toNat ((vl13.getD (vi15).toNat ((0:Int),(0:Int))).1) ((vl13.getD (vi15).toNat ((0:Int),(0:Int))).2) (vi33+1)).1).til) (((treeP 1 vs32 (6 - (dp+(1:Int))).toNat ((vl13.getD (vi15).toNat ((0:Int),(0:Int))).1) ((vl13.getD (vi15).toNat ((0:Int),(0:Int))).2) (vi33+1)).1).kids)].length) * 112<=140737488355328) ((Bof__4 k F f1 dp vl13 vi14 vi15 vs16 vs17 vc18 vi19 vi20 vi21 vs22 vl23 vs24 vc25 vi26 vi27 vi28 vl29 vl30 (vl31++[Part.mk (((treeP 1 vs32 (6 - (dp+(1:Int))).toNat ((vl13.getD (vi15).toNat ((0:Int),(0:Int))).1) ((vl13.getD (vi15).toNat ((0:Int),(0:Int))).2) (vi33+1)).1).type) (((treeP 1 vs32 (6 - (dp+(1:Int))).toNat ((vl13.getD (vi15).toNat ((0:Int),(0:Int))).1) ((vl13.getD (vi15).toNat ((0:Int),(0:Int))).2) (vi33+1)).1).params) (((treeP 1 vs32 (6 - (dp+(1:Int))).toNat ((vl13.getD (vi15).toNat ((0:Int),(0:Int))).1) ((vl13.getD (vi15).toNat ((0:Int),(0:Int))).2) (vi33+1)).1).enc) (((treeP 1 vs32 (6 - (dp+(1:Int))).toNat ((vl13.getD (vi15).toNat ((0:Int),(0:Int))).1) ((vl13.getD (vi15).toNat ((0:Int),(0:Int))).2) (vi33+1)).1).attach) (((treeP 1 vs32 (6 - (dp+(1:Int))).toNat ((vl13.getD (vi15).toNat ((0:Int),(0:Int))).1) ((vl13.getD (vi15).toNat ((0:Int),(0:Int))).2) (vi33+1)).1).head) (((treeP 1 vs32 (6 - (dp+(1:Int))).toNat ((vl13.getD (vi15).toNat ((0:Int),(0:Int))).1) ((vl13.getD (vi15).toNat ((0:Int),(0:Int))).2) (vi33+1)).1).frm) (((treeP 1 vs32 (6 - (dp+(1:Int))).toNat ((vl13.getD (vi15).toNat ((0:Int),(0:Int))).1) ((vl13.getD (vi15).toNat ((0:Int),(0:Int))).2) (vi33+1)).1).til) (((treeP 1 vs32 (6 - (dp+(1:Int))).toNat ((vl13.getD (vi15).toNat ((0:Int),(0:Int))).1) ((vl13.getD (vi15).toNat ((0:Int),(0:Int))).2) (vi33+1)).1).kids)]) vs32 ((treeP 1 vs32 (6 - (dp+(1:Int))).toNat ((vl13.getD (vi15).toNat ((0:Int),(0:Int))).1) ((vl13.getD (vi15).toNat ((0:Int),(0:Int))).2) (vi33+1)).2)))))))))))) (Bof__3 k F vs16 vs17 vc18 vi19 vi20 vi21 vs22 vl23 vs24 vc25 vi26 vi27 vi28 vl29 vl30 vl31 vs32 vi33):=by
 have h:Bof__2 k F (f1+1) dp vl13 vi14 vi15 vs16 vs17 vc18 vi19 vi20 vi21 vs22 vl23 vs24 vc25 vi26 vi27 vi28 vl29 vl30 vl31 vs32 vi33=cond (decide (vi15 < vi14)) (need (0<=vi15/\vi15 < (vl13.length:Int)) (need (0<=vi33/\vi33<=1000) (cond (!(decide (vi33+1<=30))) (Bof__3 k F vs16 vs17 vc18 vi19 vi20 vi21 vs22 vl23 vs24 vc25 vi26 vi27 vi28 vl29 vl30 vl31 vs32 (vi33+1)) (need (i64ok (dp+(1:Int))) (need (ofok k vs32 (dp+(1:Int)) ((vl13.getD (vi15).toNat ((0:Int),(0:Int))).1) ((vl13.getD (vi15).toNat ((0:Int),(0:Int))).2) (vi33+1)) (need ((vl31.length+[Part.mk (((treeP 1 vs32 (6 - (dp+(1:Int))).toNat ((vl13.getD (vi15).toNat ((0:Int),(0:Int))).1) ((vl13.getD (vi15).toNat ((0:Int),(0:Int))).2) (vi33+1)).1).type) (((treeP 1 vs32 (6 - (dp+(1:Int))).toNat ((vl13.getD (vi15).toNat ((0:Int),(0:Int))).1) ((vl13.getD (vi15).toNat ((0:Int),(0:Int))).2) (vi33+1)).1).params) (((treeP 1 vs32 (6 - (dp+(1:Int))).toNat ((vl13.getD (vi15).toNat ((0:Int),(0:Int))).1) ((vl13.getD (vi15).toNat ((0:Int),(0:Int))).2) (vi33+1)).1).enc) (((treeP 1 vs32 (6 - (dp+(1:Int))).toNat ((vl13.getD (vi15).toNat ((0:Int),(0:Int))).1) ((vl13.getD (vi15).toNat ((0:Int),(0:Int))).2) (vi33+1)).1).attach) (((treeP 1 vs32 (6 - (dp+(1:Int))).toNat ((vl13.getD (vi15).toNat ((0:Int),(0:Int))).1) ((vl13.getD (vi15).toNat ((0:Int),(0:Int))).2) (vi33+1)).1).head) (((treeP 1 vs32 (6 - (dp+(1:Int))).toNat ((vl13.getD (vi15).toNat ((0:Int),(0:Int))).1) ((vl13.getD (vi15).toNat ((0:Int),(0:Int))).2) (vi33+1)).1).frm) (((treeP 1 vs32 (6 - (dp+(1:Int))).toNat ((vl13.getD (vi15).toNat ((0:Int),(0:Int))).1) ((vl13.getD (vi15).toNat ((0:Int),(0:Int))).2) (vi33+1)).1).til) (((treeP 1 vs32 (6 - (dp+(1:Int))).toNat ((vl13.getD (vi15).toNat ((0:Int),(0:Int))).1) ((vl13.getD (vi15).toNat ((0:Int),(0:Int))).2) (vi33+1)).1).kids)].length) * 112<=140737488355328) (need (i64ok (dp+(1:Int))) (need (ofok k vs32 (dp+(1:Int)) ((vl13.getD (vi15).toNat ((0:Int),(0:Int))).1) ((vl13.getD (vi15).toNat ((0:Int),(0:Int))).2) (vi33+1)) (need ((vl31.length+[Part.mk (((treeP 1 vs32 (6 - (dp+(1:Int))).toNat ((vl13.getD (vi15).toNat ((0:Int),(0:Int))).1) ((vl13.getD (vi15).toNat ((0:Int),(0:Int))).2) (vi33+1)).1).type) (((treeP 1 vs32 (6 - (dp+(1:Int))).toNat ((vl13.getD (vi15).toNat ((0:Int),(0:Int))).1) ((vl13.getD (vi15).toNat ((0:Int),(0:Int))).2) (vi33+1)).1).params) (((treeP 1 vs32 (6 - (dp+(1:Int))).toNat ((vl13.getD (vi15).toNat ((0:Int),(0:Int))).1) ((vl13.getD (vi15).toNat ((0:Int),(0:Int))).2) (vi33+1)).1).enc) (((treeP 1 vs32 (6 - (dp+(1:Int))).toNat ((vl13.getD (vi15).toNat ((0:Int),(0:Int))).1) ((vl13.getD (vi15).toNat ((0:Int),(0:Int))).2) (vi33+1)).1).attach) (((treeP 1 vs32 (6 - (dp+(1:Int))).toNat ((vl13.getD (vi15).toNat ((0:Int),(0:Int))).1) ((vl13.getD (vi15).toNat ((0:Int),(0:Int))).2) (vi33+1)).1).head) (((treeP 1 vs32 (6 - (dp+(1:Int))).toNat ((vl13.getD (vi15).toNat ((0:Int),(0:Int))).1) ((vl13.getD (vi15).toNat ((0:Int),(0:Int))).2) (vi33+1)).1).frm) (((treeP 1 vs32 (6 - (dp+(1:Int))).toNat ((vl13.getD (vi15).toNat ((0:Int),(0:Int))).1) ((vl13.getD (vi15).toNat ((0:Int),(0:Int))).2) (vi33+1)).1).til) (((treeP 1 vs32 (6 - (dp+(1:Int))).toNat ((vl13.getD (vi15).toNat ((0:Int),(0:Int))).1) ((vl13.getD (vi15).toNat ((0:Int),(0:Int))).2) (vi33+1)).1).kids)].length) * 112<=140737488355328) (agree (Bof__4 k F f1 dp vl13 vi14 vi15 vs16 vs17 vc18 vi19 vi20 vi21 vs22 vl23 vs24 vc25 vi26 vi27 vi28 vl29 vl30 (vl31++[Part.mk (((treeP 1 vs32 (6 - (dp+(1:Int))).toNat ((vl13.getD (vi15).toNat ((0:Int),(0:Int))).1) ((vl13.getD (vi15).toNat ((0:Int),(0:Int))).2) (vi33+1)).1).type) (((treeP 1 vs32 (6 - (dp+(1:Int))).toNat ((vl13.getD (vi15).toNat ((0:Int),(0:Int))).1) ((vl13.getD (vi15).toNat ((0:Int),(0:Int))).2) (vi33+1)).1).params) (((treeP 1 vs32 (6 - (dp+(1:Int))).toNat ((vl13.getD (vi15).toNat ((0:Int),(0:Int))).1) ((vl13.getD (vi15).toNat ((0:Int),(0:Int))).2) (vi33+1)).1).enc) (((treeP 1 vs32 (6 - (dp+(1:Int))).toNat ((vl13.getD (vi15).toNat ((0:Int),(0:Int))).1) ((vl13.getD (vi15).toNat ((0:Int),(0:Int))).2) (vi33+1)).1).attach) (((treeP 1 vs32 (6 - (dp+(1:Int))).toNat ((vl13.getD (vi15).toNat ((0:Int),(0:Int))).1) ((vl13.getD (vi15).toNat ((0:Int),(0:Int))).2) (vi33+1)).1).head) (((treeP 1 vs32 (6 - (dp+(1:Int))).toNat ((vl13.getD (vi15).toNat ((0:Int),(0:Int))).1) ((vl13.getD (vi15).toNat ((0:Int),(0:Int))).2) (vi33+1)).1).frm) (((treeP 1 vs32 (6 - (dp+(1:Int))).toNat ((vl13.getD (vi15).toNat ((0:Int),(0:Int))).1) ((vl13.getD (vi15).toNat ((0:Int),(0:Int))).2) (vi33+1)).1).til) (((treeP 1 vs32 (6 - (dp+(1:Int))).toNat ((vl13.getD (vi15).toNat ((0:Int),(0:Int))).1) ((vl13.getD (vi15).toNat ((0:Int),(0:Int))).2) (vi33+1)).1).kids)]) vs32 ((treeP 1 vs32 (6 - (dp+(1:Int))).toNat ((vl13.getD (vi15).toNat ((0:Int),(0:Int))).1) ((vl13.getD (vi15).toNat ((0:Int),(0:Int))).2) (vi33+1)).2)) (Bof__4 k F f1 dp vl13 vi14 vi15 vs16 vs17 vc18 vi19 vi20 vi21 vs22 vl23 vs24 vc25 vi26 vi27 vi28 vl29 vl30 (vl31++[Part.mk (((treeP 1 vs32 (6 - (dp+(1:Int))).toNat ((vl13.getD (vi15).toNat ((0:Int),(0:Int))).1) ((vl13.getD (vi15).toNat ((0:Int),(0:Int))).2) (vi33+1)).1).type) (((treeP 1 vs32 (6 - (dp+(1:Int))).toNat ((vl13.getD (vi15).toNat ((0:Int),(0:Int))).1) ((vl13.getD (vi15).toNat ((0:Int),(0:Int))).2) (vi33+1)).1).params) (((treeP 1 vs32 (6 - (dp+(1:Int))).toNat ((vl13.getD (vi15).toNat ((0:Int),(0:Int))).1) ((vl13.getD (vi15).toNat ((0:Int),(0:Int))).2) (vi33+1)).1).enc) (((treeP 1 vs32 (6 - (dp+(1:Int))).toNat ((vl13.getD (vi15).toNat ((0:Int),(0:Int))).1) ((vl13.getD (vi15).toNat ((0:Int),(0:Int))).2) (vi33+1)).1).attach) (((treeP 1 vs32 (6 - (dp+(1:Int))).toNat ((vl13.getD (vi15).toNat ((0:Int),(0:Int))).1) ((vl13.getD (vi15).toNat ((0:Int),(0:Int))).2) (vi33+1)).1).head) (((treeP 1 vs32 (6 - (dp+(1:Int))).toNat ((vl13.getD (vi15).toNat ((0:Int),(0:Int))).1) ((vl13.getD (vi15).toNat ((0:Int),(0:Int))).2) (vi33+1)).1).frm) (((treeP 1 vs32 (6 - (dp+(1:Int))).toNat ((vl13.getD (vi15).toNat ((0:Int),(0:Int))).1) ((vl13.getD (vi15).toNat ((0:Int),(0:Int))).2) (vi33+1)).1).til) (((treeP 1 vs32 (6 - (dp+(1:Int))).toNat ((vl13.getD (vi15).toNat ((0:Int),(0:Int))).1) ((vl13.getD (vi15).toNat ((0:Int),(0:Int))).2) (vi33+1)).1).kids)]) vs32 ((treeP 1 vs32 (6 - (dp+(1:Int))).toNat ((vl13.getD (vi15).toNat ((0:Int),(0:Int))).1) ((vl13.getD (vi15).toNat ((0:Int),(0:Int))).2) (vi33+1)).2)))))))))))) (Bof__3 k F vs16 vs17 vc18 vi19 vi20 vi21 vs22 vl23 vs24 vc25 vi26 vi27 vi28 vl29 vl30 vl31 vs32 vi33):=by kernel_rfl
 rw [h]; simp only [agree_self]
theorem Bof__3_eq (k F:Nat) (vs34 vs35:List UInt8) (vc36:Bool) (vi37 vi38 vi39:Int) (vs40:List UInt8) (vl41:List (List UInt8×List UInt8)) (vs42:List UInt8) (vc43:Bool) (vi44 vi45 vi46:Int) (vl47:List (List UInt8×List UInt8)) (vl48 vl49:List Part) (vs50:List UInt8) (vi51:Int):Bof__3 k F vs34 vs35 vc36 vi37 vi38 vi39 vs40 vl41 vs42 vc43 vi44 vi45 vi46 vl47 vl48 vl49 vs50 vi51=some (.agg [.p (.str vs40),.p (.list 2 (.dat (.pair .str .str) vl41)),.p (.str vs42),.p (.bool vc43),.p (.int .i64 vi44),.p (.int .i64 vi45),.p (.int .i64 vi46),.p (.list 8 (.dat .part vl49))],[(70000,.cells [.p (.str vs50)]),(70001,.cells [.clo (.func 56) [] [.ref 70003 0]]),(70002,.cells [.clo (.func 57) [] [.ref 70000 0,.ref 70001 0,.ref 70002 0]]),(70003,.cells [.p (.int .i64 vi51)])]):=by kernel_rfl
theorem Bof__4_eq (k F f1:Nat) (dp:Int) (vl13:List (Int×Int)) (vi14 vi15:Int) (vs16 vs17:List UInt8) (vc18:Bool) (vi19 vi20 vi21:Int) (vs22:List UInt8) (vl23:List (List UInt8×List UInt8)) (vs24:List UInt8) (vc25:Bool) (vi26 vi27 vi28:Int) (vl29:List (List UInt8×List UInt8)) (vl30 vl52:List Part) (vs32:List UInt8) (vi53:Int):Bof__4 k F f1 dp vl13 vi14 vi15 vs16 vs17 vc18 vi19 vi20 vi21 vs22 vl23 vs24 vc25 vi26 vi27 vi28 vl29 vl30 vl52 vs32 vi53=need (i64ok (vi15+(1:Int))) (Bof__2 k F f1 dp vl13 vi14 (vi15+(1:Int)) vs16 vs17 vc18 vi19 vi20 vi21 vs22 vl23 vs24 vc25 vi26 vi27 vi28 vl29 vl30 vl52 vs32 vi53):=by kernel_rfl
theorem Fof__eq (k F:Nat) (a b dp:Int) (s:List UInt8) (n:Int):Fof_ k F a b dp s n=need (s.length<=1000000) (need (((oneP s a b).params).length<=1000000000000) (((Bof__1 k F dp (boundP ((oneP s a b).type) ((oneP s a b).params)) (((boundP ((oneP s a b).type) ((oneP s a b).params))==([]:List UInt8))||(decide (dp>=(6:Int)))) ((oneP s a b).type) ((oneP s a b).params) ((oneP s a b).enc) ((oneP s a b).attach) ((oneP s a b).head) ((oneP s a b).frm) ((oneP s a b).til) ([]:List (List UInt8×List UInt8)) ([]:List Part) ([]:List Part) s n)))):=by
 have h:Fof_ k F a b dp s n=need (s.length<=1000000) (need (((oneP s a b).params).length<=1000000000000) (need ((!((boundP ((oneP s a b).type) ((oneP s a b).params))==([]:List UInt8)))=true->(!((boundP ((oneP s a b).type) ((oneP s a b).params))==([]:List UInt8)))=true) (need (((boundP ((oneP s a b).type) ((oneP s a b).params))==([]:List UInt8))=false->(!((boundP ((oneP s a b).type) ((oneP s a b).params))==([]:List UInt8)))=true) (Bof__1 k F dp (boundP ((oneP s a b).type) ((oneP s a b).params)) (((boundP ((oneP s a b).type) ((oneP s a b).params))==([]:List UInt8))||(decide (dp>=(6:Int)))) ((oneP s a b).type) ((oneP s a b).params) ((oneP s a b).enc) ((oneP s a b).attach) ((oneP s a b).head) ((oneP s a b).frm) ((oneP s a b).til) ([]:List (List UInt8×List UInt8)) ([]:List Part) ([]:List Part) s n)))):=by kernel_rfl
 rw [h,need_pos (show ((boundP ((oneP s a b).type) ((oneP s a b).params))==([]:List UInt8))=false->(!((boundP ((oneP s a b).type) ((oneP s a b).params))==([]:List UInt8)))=true from (fun q0=>(not_mk q0))),need_pos (show (!((boundP ((oneP s a b).type) ((oneP s a b).params))==([]:List UInt8)))=true->(!((boundP ((oneP s a b).type) ((oneP s a b).params))==([]:List UInt8)))=true from (fun q0=>q0))]
theorem fn_of_ (k:Nat) (hrec:SpecROk Tryz.prog 57 (sp_of_ k)) (F:Nat) (a b dp:Int) (s:List UInt8) (n:Int) (r:AV) (os:List (Nat×AObj)) (h:(∃ γ M w vs,ARels γ M [.p (.int .i64 a),.p (.int .i64 b),.p (.int .i64 dp),.ref 70000 0,.ref 70001 0,.ref 70002 0] vs/\Objs γ M w (fun i=>lookO i [(70000,.cells [.p (.str s)]),(70001,.cells [.clo (.func 56) [] [.ref 70003 0]]),(70002,.cells [.clo (.func 57) [] [.ref 70000 0,.ref 70001 0,.ref 70002 0]]),(70003,.cells [.p (.int .i64 n)])]) (fun b=>b < w.heap.size))->Fof_ k F a b dp s n=some (r,os)):FnR Tryz.prog 57 [.p (.int .i64 a),.p (.int .i64 b),.p (.int .i64 dp),.ref 70000 0,.ref 70001 0,.ref 70002 0] [(70000,.cells [.p (.str s)]),(70001,.cells [.clo (.func 56) [] [.ref 70003 0]]),(70002,.cells [.clo (.func 57) [] [.ref 70000 0,.ref 70001 0,.ref 70002 0]]),(70003,.cells [.p (.int .i64 n)])] [70000,70001,70002,70003] r os:=
 FnR_runS (Gof_ k) ⟨[9],[⟨.slot 9,9,.cells []⟩,⟨.cell 9 7,10007,(.larr 46 false 8 (.dat .part ([]:List Part)))⟩,⟨.fix 70000,70000,.cells []⟩,⟨.fix 70001,70001,.cells []⟩,⟨.fix 70002,70002,.cells []⟩,⟨.fix 70003,70003,.cells []⟩]⟩ [70000,70001,70002,70003] F rfl (EnvOk_mk (l:=[(58,sp_pone),(59,sp_bound),(60,sp_spans)]) ⟨ok_pone.any,ok_bound.any,ok_spans.any,trivial⟩) (EnvROk_mk (l:=[(56,sp_room),(57,sp_of_ k)]) ⟨ok_room,hrec,trivial⟩) (Checked.mixed Tryz.checked) (fn:=Tryz.f57) (by kernel_rfl) (by kernel_rfl) rfl h
theorem Bof_spec (k F:Nat) (dp:Int) (s:List UInt8) (hs:s.length<=1000000) (ty en:List UInt8) (ps:List (List UInt8×List UInt8)) (at_:Bool) (h f t:Int) (D:Nat) (hD:(6 - (dp+1)).toNat=D) (hD5:D<=5) (sps:List (Int×Int)) (hk:∀ x ∈ sps,∀ n:Int,0<=n->n<=30->ofok k s (dp+1) x.1 x.2 n) (hdp:0<=dp/\dp<=6) (hsl:sps.length<=1000001)
 (z1 z2:List UInt8) (z3:Bool) (z4 z5 z6:Int) (z7:List (List UInt8×List UInt8)) (z8:List Part):∀ (r:List (Int×Int)) (fu i:Nat) (acc:List Part) (n:Int),sps.drop i=r->r.length < fu->i<=sps.length->acc.length<=i->0<=n->n<=40->
 Bof__2 k F fu dp sps (sps.length:Int) (i:Int) z1 z2 z3 z4 z5 z6 ty ps en at_ h f t z7 z8 acc s n=some (.agg [.p (.str ty),.p (.list 2 (.dat (.pair .str .str) ps)),.p (.str en),.p (.bool at_),.p (.int .i64 h),.p (.int .i64 f),.p (.int .i64 t),.p (.list 8 (.dat .part (acc++(kidsP 1 (treeP 1 s D) r n).1)))],[(70000,.cells [.p (.str s)]),(70001,.cells [.clo (.func 56) [] [.ref 70003 0]]),(70002,.cells [.clo (.func 57) [] [.ref 70000 0,.ref 70001 0,.ref 70002 0]]),(70003,.cells [.p (.int .i64 (kidsP 1 (treeP 1 s D) r n).2)])]):=by
 intro r
 induction r with
 | nil=>
  intro fu i acc n hd hf hi ha hn0 hn1
  have:i=sps.length:=by have:=congrArg List.length hd; simp at this; omega
  cases fu with
  | zero=>omega
  | succ fu=>
   rw [Bof__2_eq,Bof__3_eq,Bof__3_eq,kidsP,List.append_nil]
   exact cond_f (by simp; omega) rfl
 | cons x r ih=>
  intro fu i acc n hd hf hi ha hn0 hn1
  obtain ⟨h1,h2,h3⟩:=dropG hd ((0:Int),(0:Int))
  have hx:=hk x (by rw [<-h1]; exact getD_mem h3 _)
  cases fu with
  | zero=>omega
  | succ fu=>
   rw [Bof__2_eq,Bof__3_eq,Bof__4_eq,Int.toNat_natCast,h1,hD,part_eta]
   refine cond_t (by simp; omega) (need_mk ⟨by omega,by omega⟩ (need_mk ⟨hn0,by omega⟩ ?_))
   rw [kidsP]
   by_cases hr:n+1<=30
   .rw [if_pos hr]
    have hc:=tree_cnt (e:=1) (by decide) (by decide) s D x.1 x.2 (n+1) (by omega) hr
    refine cond_f (by rw [decide_eq_true hr]; rfl) (need_mk (by unfold i64ok; omega) (need_mk (hx (n+1) (by omega) hr) (need_mk (by simp; omega) (need_mk (by unfold i64ok; omega) (need_mk (hx (n+1) (by omega) hr) (need_mk (by simp; omega) (need_mk (by unfold i64ok; omega) ?_)))))))
    rw [show (i:Int)+1=((i+1:Nat):Int) by omega,ih fu (i+1) _ _ h2 (by simp at hf; omega) (by omega) (by simp; omega) (by omega) (by omega),List.append_assoc]
    rfl
   .rw [if_neg hr,List.append_nil]
    exact cond_t (by rw [decide_eq_false hr]; rfl) rfl
theorem of_eq (k:Nat) (a b dp:Int) (s:List UInt8) (n:Int) (h:ofok (k+1) s dp a b n):Fof_ k (s.length+2) a b dp s n=some (.agg [.p (.str (treeP 1 s (6 - dp).toNat a b n).1.type),.p (.list 2 (.dat (.pair .str .str) (treeP 1 s (6 - dp).toNat a b n).1.params)),.p (.str (treeP 1 s (6 - dp).toNat a b n).1.enc),.p (.bool (treeP 1 s (6 - dp).toNat a b n).1.attach),.p (.int .i64 (treeP 1 s (6 - dp).toNat a b n).1.head),.p (.int .i64 (treeP 1 s (6 - dp).toNat a b n).1.frm),.p (.int .i64 (treeP 1 s (6 - dp).toNat a b n).1.til),.p (.list 8 (.dat .part (treeP 1 s (6 - dp).toNat a b n).1.kids))],
 [(70000,.cells [.p (.str s)]),(70001,.cells [.clo (.func 56) [] [.ref 70003 0]]),(70002,.cells [.clo (.func 57) [] [.ref 70000 0,.ref 70001 0,.ref 70002 0]]),(70003,.cells [.p (.int .i64 (treeP 1 s (6 - dp).toNat a b n).2)])]):=by
 obtain ⟨d0,d1,d2,a0,a1,a2,hs,n0,n1⟩:=h
 have hpl:=(one_params s a b).2
 rw [Fof__eq,Bof__1_eq]
 refine need_mk hs (need_mk (by omega) ?_)
 obtain ⟨D,hD⟩:∃ D,(6 - dp).toNat=D:=⟨_,rfl⟩
 rw [hD]
 show cond ((markP s a b==([]:List UInt8))||decide (dp>=6)) _ _=_
 cases D with
 | zero=>
  refine cond_t (by simp; omega) ?_
  rw [treeP]; rfl
 | succ D=>
  rw [treeP]
  by_cases hm:markP s a b=[]
  .rw [if_pos hm]
   exact cond_t (by rw [hm]; rfl) rfl
  .rw [if_neg hm]
   have hml:=mark_len s a b
   obtain ⟨g1,g2⟩:=body_ok a0 a1 a2
   obtain ⟨k1,k2⟩:=spansP_ok a0 a1 a2
   have ht:(oneP s a b).til=b:=rfl
   refine cond_f (by simp [hm]; omega) (need_mk (by show _+(markP s a b).length<=_; simp; omega) (need_mk ⟨by omega,by rw [ht]; omega,by rw [ht]; omega,hs,by show ([45,45]++markP s a b).length<=_; simp; omega⟩ ?_))
   refine (Bof_spec k (s.length+2) dp s hs _ _ _ _ _ _ _ D (by omega) (by omega) (spansP s a b) (fun x hx n h0 h1=>?_) ⟨d0,d1⟩ (by omega) _ _ _ _ _ _ _ _ (spansP s a b) (s.length+2) 0 [] n rfl (by omega) (by omega) (by simp) n0 (by omega)).trans ?_
   .have:=k1 x hx
    exact ⟨by omega,by omega,by omega,by omega,by omega,by omega,hs,h0,h1⟩
   .rw [List.nil_append]; rfl
theorem ok_of_:∀ k,SpecROk Tryz.prog 57 (sp_of_ k)
 | 0=>by
  intro args ib kept r outs ok he hok
  simp only [sp_of_] at he
  split at he
  .cases he
   exfalso
   obtain ⟨d0,d1,d2,_⟩:=hok
   omega
  .cases he
 | k+1=>by
  intro args ib kept r outs ok he hok
  simp only [sp_of_] at he
  split at he
  .cases he
   exact ⟨by kernel_rfl,fn_of_ k (ok_of_ k) _ _ _ _ _ _ _ _ fun _=>of_eq k _ _ _ _ _ hok⟩
  .cases he
end Go.Proofs.YtoanepondbagcaaGreatDoor
namespace Go.Proofs.YtoanepondbagcaaGreatDoor
open Go Go.Am
set_option linter.unusedVariables false
def treeT (s:List UInt8):Part:=(treeP 1 s (6 - (0:Int)).toNat (0:Int) (s.length:Int) ((0:Int)+1)).1
noncomputable def Gtree:Cfg:=⟨Tryz.prog,mkEnv [],mkEnvR [(56,sp_room),(57,sp_of_ 7)],14,[],[],[([0,1,1,1,1,1],[1]),([0,1,1,1,1,1,1],[3])]⟩
noncomputable def Ftree (F:Nat) (s:List UInt8):Option Ans:=runF Gtree Tryz.f30 F [.p (.str s)]
theorem Ftree_eq (F:Nat) (s:List UInt8):Ftree F s=need (0<=(0:Int)/\(0:Int)<=1000) (need (ofok 7 s (0:Int) (0:Int) (s.length:Int) ((0:Int)+1)) (some (.agg [.p (.str (((treeP 1 s (6 - (0:Int)).toNat (0:Int) (s.length:Int) ((0:Int)+1)).1).type)),.p (.list 2 (.dat (.pair .str .str) (((treeP 1 s (6 - (0:Int)).toNat (0:Int) (s.length:Int) ((0:Int)+1)).1).params))),.p (.str (((treeP 1 s (6 - (0:Int)).toNat (0:Int) (s.length:Int) ((0:Int)+1)).1).enc)),.p (.bool (((treeP 1 s (6 - (0:Int)).toNat (0:Int) (s.length:Int) ((0:Int)+1)).1).attach)),.p (.int .i64 (((treeP 1 s (6 - (0:Int)).toNat (0:Int) (s.length:Int) ((0:Int)+1)).1).head)),.p (.int .i64 (((treeP 1 s (6 - (0:Int)).toNat (0:Int) (s.length:Int) ((0:Int)+1)).1).frm)),.p (.int .i64 (((treeP 1 s (6 - (0:Int)).toNat (0:Int) (s.length:Int) ((0:Int)+1)).1).til)),.p (.list 8 (.dat .part (((treeP 1 s (6 - (0:Int)).toNat (0:Int) (s.length:Int) ((0:Int)+1)).1).kids)))],[]))):=by kernel_rfl
theorem fn_tree (F:Nat) (s:List UInt8) (r:AV) (h:(∃ M vs,ARels γ0 M [.p (.str s)] vs)->Ftree F s=some (r,[])):FnP Tryz.prog 30 [.p (.str s)] r:=
 FnP_run Gtree F rfl (EnvOk_mk (l:=[]) trivial) (EnvROk_mk (l:=[(56,sp_room),(57,sp_of_ 7)]) ⟨ok_room,ok_of_ 7,trivial⟩) (Checked.mixed Tryz.checked) (fn:=Tryz.f30) (by kernel_rfl) (by kernel_rfl) rfl h
theorem tree_ok7 (s:List UInt8) (hs:s.length<=1000000):ofok 7 s (0:Int) (0:Int) (s.length:Int) ((0:Int)+1):=⟨by omega,by omega,by omega,by omega,by omega,by omega,hs,by omega,by omega⟩
theorem tree_eq (s:List UInt8) (hs:s.length<=1000000):Ftree 0 s=some (.agg [.p (.str (treeT s).type),.p (.list 2 (.dat (.pair .str .str) (treeT s).params)),.p (.str (treeT s).enc),.p (.bool (treeT s).attach),.p (.int .i64 (treeT s).head),.p (.int .i64 (treeT s).frm),.p (.int .i64 (treeT s).til),.p (.list 8 (.dat .part (treeT s).kids))],[]):=by
 rw [Ftree_eq]; exact need_mk ⟨by omega,by omega⟩ (need_mk (tree_ok7 s hs) rfl)
def sp_tree:List AV->Option (AV×Option Prop)
 | [.p (.str s)]=>some (.agg [.p (.str ((treeT s).type)),.p (.list 2 (.dat (.pair .str .str) ((treeT s).params))),.p (.str ((treeT s).enc)),.p (.bool ((treeT s).attach)),.p (.int .i64 ((treeT s).head)),.p (.int .i64 ((treeT s).frm)),.p (.int .i64 ((treeT s).til)),.p (.list 8 (.dat .part ((treeT s).kids)))],some (s.length<=1000000))
 | _=>none
theorem ok_tree:SpecOk Tryz.prog 30 sp_tree:=by
 intro zs r ok he hok
 unfold sp_tree at he
 split at he
 .cases he; exact ⟨by kernel_rfl,fn_tree 0 _ _ fun hx=>tree_eq _ hok⟩
 .cases he
def insL (rec:Part->Int->Int->Bool) (t:Int):List Part->Int->Bool
 | [],_=>true
 | q::r,x=>rec q x t&&insL rec t r q.til
def insideP:Nat->Part->Int->Int->Bool
 | 0,_,_,_=>false
 | k+1,p,x,y=>if ((((decide (p.head < x))||(decide (p.frm < p.head)))||(decide (p.til < p.frm)))||(decide (p.til > y)))=true then false else insL (insideP k) p.til p.kids p.frm
theorem kids_all {e:Int} {rec:Int->Int->Int->Part×Int} {P:Part->Prop}:∀ (l:List (Int×Int)) (n:Int),(∀ x ∈ l,∀ n,P (rec x.1 x.2 n).1)->(∀ q ∈ (kidsP e rec l n).1,P q)/\(kidsP e rec l n).1.length<=l.length
 | [],n,h=>by rw [kidsP]; simp
 | x::r,n,h=>by
  rw [kidsP]
  split
  .obtain ⟨h1,h2⟩:=kids_all r (rec x.1 x.2 (n+1)).2 (e:=e) (fun y hy=>h y (List.mem_cons_of_mem _ hy))
   dsimp only
   refine ⟨fun q hq=>?_,by simp; omega⟩
   rcases List.mem_cons.1 hq with rfl | hq
   .exact h x (by simp) _
   .exact h1 q hq
  .simp
end Go.Proofs.YtoanepondbagcaaGreatDoor
