/-
  Lifted functions, and facts about them.
-/
import Derived.Test.YtampckbjinodgaaGreatDoorRows
import Derived.Test.YtampckbjinodgaaGreatDoorC01
import Derived.Test.YtampckbjinodgaaGreatDoorAmC
import Derived.Test.YtampckbjinodgaaGreatDoorC02
import Derived.Test.YtampckbjinodgaaGreatDoorC07
import Derived.Test.YtampckbjinodgaaGreatDoorC13
import Derived.Test.YtampckbjinodgaaGreatDoorC05
set_option linter.unusedVariables false
noncomputable section
namespace Go.Proofs.YtampckbjinodgaaGreatDoor
open Go Go.Am
def yJ(sep:List UInt8):List (List UInt8)->List UInt8
 | []=>[]
 | x::r=>x++r.flatMap (sep++·)
def zav(l:List (List UInt8)):Nat:=(l.map List.length).sum
theorem zez(x:List UInt8)(r:List (List UInt8)):zav (x::r)=x.length+zav r:=by simp[zav]
theorem zmC(sep:List UInt8):∀ r:List (List UInt8),(r.flatMap (sep++·)).length=r.length*sep.length+zav r
 | []=>by simp[zav]
 | x::r=>by rw[List.flatMap_cons,List.length_append,zmC sep r,zez,List.length_append,List.length_cons,Nat.add_mul];omega
theorem zhd(sep:List UInt8)(l:List (List UInt8)):(yJ sep l).length<=l.length*sep.length+zav l:=by
 cases l with
 | nil=>simp[yJ]
 | cons x r=>rw[yJ,List.length_append,zmC,zez,List.length_cons,Nat.add_mul];omega
section
open Go.RowKit Go.Lib
set_option maxHeartbeats 1000000 in
theorem zPT(b:Nat)(w w1:World)
 (hcc:Calls Tryz.prog 110 #[.pointer (some ⟨b,0,none⟩)] w fun e w'=>e=.returned (.tuple #[])/\w'=w1)
 (hbk1:w1.heap[b]?=some (.cells #[.pointer (some ⟨b,0,none⟩),.slice none 0 0] 124 (0,0))):
 Calls Tryz.prog 138 #[.pointer (some ⟨b,0,none⟩),.int .i64 0] w fun e w'=>e=.returned (.tuple #[])/\w'.heap=w1.heap/\w'.os=w1.os/\w'.tape=w1.tape/\w'.output=w1.output:=by
 have c1:w1.cell? ⟨b,1,none⟩=some (.slice none 0 0):=by rw[Lib.cell_of_heap hbk1];rfl
 have mixed:=Checked.mixed Tryz.checked
 have c1':w1.drew.cell? ⟨b,1,none⟩=some (.slice none 0 0):=c1
 go_enter Tryz.func138,Tryz.ntmps138
 go_wp2_with (go_at_call 110;refine hcc.mono ?_;rintro e w' ⟨rfl,rfl⟩)
 go_region_o
 all_goals go_wp2
 all_goals first
  | (go_end0;exact⟨rfl,rfl,rfl,rfl,rfl⟩)
  | (exfalso;simp_all;omega)
theorem zHe:
 FnR Tryz.prog 138 [.ref 70000 0,.p (.int .i64 0)] [(70000,.bldr 124 (.p .nil))] [70000] (.tup []) [(70000,.bldr 124 (.arr 70001001)),(70001001,.barr 5 false [])]:=by
 intro γ M w vs hO hnone hM hvs
 obtain⟨b,v0,v1,hg,hh,h0,h1,h2,hm⟩:=zeP (id:=70000) hO rfl
 cases h1.p_inv
 cases hvs with
 | cons hx ht=>
  cases ht with
  | cons hy ht=>
  cases ht
  obtain⟨b',hg',rfl⟩:=hx.ref_inv
  rw[hg]at hg';cases hg'
  cases hy with|p _ _ hy=>
  cases hy with|int _ _ hi=>
  have hlt:b<w.heap.size:=hO.lo 70000 _ b (by simp[zm]) hg rfl
  have hb:Go.Am.Handed γ [(70000,.bldr 124 (.p .nil))] b:=⟨70000,.cell b,by simp[zm],hg,rfl⟩
  have hset:(w.setCell ⟨b,0,none⟩ (.pointer (some ⟨b,0,none⟩)))=w.setRow b #[.pointer (some ⟨b,0,none⟩),.slice none 0 0]:=by
   rw[setCell_eq_setRow w b 0 _ _ _ _ hh];rfl
  obtain⟨w1,hcc,hb1,hs1,ho1,hos,htp,hout⟩:∃ w1:World,(Calls Tryz.prog 110 #[.pointer (some ⟨b,0,none⟩)] w fun e w'=>e=.returned (.tuple #[])/\w'=w1)/\
   w1.heap[b]?=some (.cells #[.pointer (some ⟨b,0,none⟩),.slice none 0 0] 124 (0,0))/\w1.heap.size=w.heap.size/\(∀ c,c≠b->w1.heap[c]?=w.heap[c]?)/\w1.os=w.os/\w1.tape=w.tape/\w1.output=w.output:=by
   rcases h0 with rfl|rfl
   .refine ⟨_,zp4 b w (by rw[Lib.cell_of_heap hh];rfl) (by simp[World.shape?,hh]) (Lib.frozen_of_heap hh 0),?_⟩
    rw[hset]
    exact⟨setRow_heap w b _ _ _ _ hh,by simp,fun c hc=>setRow_other w b c _ hc,rfl,rfl,rfl⟩
   .exact ⟨w,zu8 b w (by rw[Lib.cell_of_heap hh];rfl),hh,rfl,fun _ _=>rfl,rfl,rfl,rfl⟩
  refine(zPT b w w1 hcc hb1).mono fun e w' ⟨he,hheap,q1,q2,q3⟩=>?_
  have hoth:∀ c,c≠b->w'.heap[c]?=w.heap[c]?:=fun c hcb=>by rw[hheap];exact ho1 c hcb
  have hsz:w'.heap.size=w.heap.size:=by rw[hheap];exact hs1
  refine⟨_,upd γ 70001001 (some (.arr none 1 0 0)),M,he,fun i hi g hgi=>?_,MLe.refl M,?_,.tup _ _ rfl (fun i hi=>absurd hi (Nat.not_lt_zero _)),⟨?_,?_,?_⟩,?_,by omega,q1.trans hos,q2.trans htp,q3.trans hout⟩
  .have:i=70000:=by simpa using hi
   subst this
   exact hgi
  .refine ⟨?_,hM.good⟩
   intro c o v hv
   have hc:c≠b:=fun e=>by subst e;rw[hm o]at hv;cases hv
   rw[World.cell?_of_block (w:=w) (hoth c hc)];exact hM c o v hv
  .intro i o hi
   rcases zoq hi with⟨rfl,rfl⟩|⟨rfl,rfl⟩
   .exact ⟨b,_,_,hg,by rw[hheap];exact hb1,.inr rfl,.arr 70001001 none 1 0 0 rfl,rfl,hm⟩
   .exact ⟨none,0,rfl,⟨⟨rfl,.inl ⟨rfl,rfl⟩⟩,fun v hv=>(by cases hv),Nat.zero_le _,fun g hgg=>(by cases hgg)⟩⟩
  .intro i j g g' c hi hj hgi hgj hgc hgc'
   rcases zey hi with rfl|rfl <;> rcases zey hj with rfl|rfl
   .rfl
   .cases hgj;cases hgc'
   .cases hgi;cases hgc
   .rfl
  .intro i g c hi hgi hgc
   rcases zey hi with rfl|rfl
   .rw [show upd γ 70001001 (some (.arr none 1 0 0)) 70000=γ 70000 from rfl,hg]at hgi
    cases hgi;cases hgc
    exact⟨.inr hb,by omega⟩
   .cases hgi;cases hgc
  .intro c hc hno
   exact⟨hoth c fun e=>hno (by rw[e];exact hb),rfl⟩
def zoR:yM:=⟨[false,true],fun args ib=>match args,ib with
 | [.ref 70000 0,.p (.int .i64 n)],[(70000,.bldr 124 (.p .nil))]=>some (([70000],.tup []),([(70000,.bldr 124 (.arr 70001001)),(70001001,.barr 5 false [])],some (0<=n/\n<=281474976710656)))
 | _,_=>none⟩
theorem zI7:zS Tryz.prog 138 zoR:=by
 intro args ib kept r zZ ok he hok
 simp only[zoR]at he
 split at he
 .rename_i n
  cases he
  obtain⟨h1,h2⟩:0<=n/\n<=281474976710656:=hok
  obtain⟨n,rfl⟩:=Int.eq_ofNat_of_zero_le h1
  cases n with
  | zero=>exact⟨by kernel_rfl,zHe⟩
  | succ n=>exact⟨by kernel_rfl,zyz (n+1) (by omega) (by omega)⟩
 .cases he
end
abbrev zhc(l:List (List UInt8))(sep:List UInt8):Prop:=sep.length<=1000/\l.length<=1000000/\zav l<=1000000000
theorem zRW{l:PV}{q:List (Elt .str)}(h:zA .str l=some q){M:Mem}{v:Value}(hv:zp γ0 M (.p l) v):zp γ0 M (.p (.list 1 (.dat .str q))) v:=by
 cases l with
 | nil=>cases h;exact zp.nil_list (R:=.dat .str []) rfl hv
 | list k R=>obtain⟨rfl,rfl⟩:=yB h;exact hv
 | _=>cases h
def zgy:=mkG [] [(76,ze7),(78,zfd),(138,zoR)] 75 [] [([1,0,0,1,0,1,1,1],⟨[0,1,5,29],[]⟩),([1,0,1,0,1,1,1],⟨[0,1,5],[]⟩),([1,1,1,1],⟨[0,1,5],[]⟩),([0,1,0,1,1,1,1],⟨[0,1,5,39,40,41],[]⟩),([1,1,0,0,1,1,0,0,1,0,1,1,1,1],⟨[0,1,5,7,39,40,41],[]⟩),([0,1,0,1,1,1,1,1,1,1,1],⟨[1,8,63,64,65],[⟨.slot 8,8,.cells []⟩,⟨.cell 8 1,9001,(.barr 5 false [])⟩]⟩)] [([0,1,1,1,1,1,1],[1]),([0,1,1,1,1,1,1,1],[3]),([0,1,0,0,1,1,0,0,1,0,1,1,1,1,1,1,1,1],[1]),([1,1,0,0,1,1,0,0,1,0,1,1,1,1,1,1,1,1],[1]),([0,1,1,1,1,1,1,1,1,1],[0])]
def zze(F:Nat)(l:List (List UInt8))(sep:List UInt8)(vc1:Bool):=zx zgy Tryz.f106 F [] [1,1,1,0,1,0,0,1] [(0,pL 1 .str l),(1,pS sep),(5,pI 0),(29,pB vc1)] []
def zzc(F:Nat)(l:List (List UInt8))(sep:List UInt8):=zx zgy Tryz.f106 F [] [1,1,1,0,1,0,1] [(0,pL 1 .str l),(1,pS sep),(5,pI 0)] []
def zq8(F:Nat)(l:List (List UInt8))(sep:List UInt8)(vi2:Int):=zx zgy Tryz.f106 F [] [1,1,1,1] [(0,pL 1 .str l),(1,pS sep),(5,pI vi2)] []
def zkP(F f1:Nat)(l:List (List UInt8))(sep:List UInt8)(vi3 vi4 vi5:Int):=zH zgy Tryz.f106 F [] [1,1,1,1,0,1,0] f1 [(0,pL 1 .str l),(1,pS sep),(5,pI vi3),(39,pL 1 .str l),(40,pI vi4),(41,pI vi5)] []
def zza(F f1:Nat)(l:List (List UInt8))(sep:List UInt8)(vi3:Int)(vs6:List UInt8)(vi4 vi5:Int):=zx zgy Tryz.f106 F [f1] [1,1,1,1,0,1,0,0,1,1,0,0,1,1] [(0,pL 1 .str l),(1,pS sep),(5,pI vi3),(7,pS vs6),(39,pL 1 .str l),(40,pI vi4),(41,pI vi5)] []
def zgH(F f2:Nat)(sep:List UInt8)(vl7:List (List UInt8))(vi8 vi9:Int)(vb10:List UInt8):=zH zgy Tryz.f106 F [] [1,1,1,1,1,1,1,1,0,1,0] f2 [(1,pS sep),(8,.ref 8 0),(63,pL 1 .str vl7),(64,pI vi8),(65,pI vi9)] [(8,.bldr 124 (.arr 9001)),(9001,.barr 5 false vb10)]
def zB7(F:Nat)(l:List (List UInt8))(sep:List UInt8):=zF zgy Tryz.f106 F [pL 1 .str l,pS sep]
theorem zzd(F l sep vc1):zze F l sep vc1=cond vc1 none (zzc F l sep):=by kernel_rfl
theorem zzb(F l sep):letI A:=(sep.length:Int)*((l.length:Int)-1);zzc F l sep=ze (zh ((l.length:Int)-1)) (ze (zh A) (ze (zh (0+A)) (zq8 F l sep (0+A)))):=by kernel_rfl
theorem znc(F l sep vi2):zq8 F l sep vi2=zkP F F l sep vi2 (l.length:Int) 0:=by kernel_rfl
theorem znb(F f1 l sep vi3 vi4 vi5):letI A:=(l.length:Int);letI B:=9223372036854775807-vi3;letI C:=l.getD (0:Int).toNat [];letI D:=(1:Int);letI E:=l.getD vi5.toNat [];letI H:=([]:List UInt8);letI I:=l.drop D.toNat;zkP F (f1+1) l sep vi3 vi4 vi5=cond (decide (vi5<vi4)) (ze (0<=vi5/\vi5<A) (ze (zh B) (cond (decide ((E.length:Int)>B)) none (zza F f1 l sep vi3 E vi4 vi5)))) (ze (0<=vi3/\vi3<=281474976710656) (ze (0<=(0:Int)/\(0:Int)<A) (ze (H.length+C.length<=140737488355328) (ze (0<=D/\D<=A) (zgH F F sep I (I.length:Int) 0 (H++C)))))):=by kernel_rfl
theorem zy9(F f1 l sep vi3 vs6 vi4 vi5):letI A:=vi3+(vs6.length:Int);zza F f1 l sep vi3 vs6 vi4 vi5=ze (zh A) (ze (zh (vi5+1)) (zkP F f1 l sep A vi4 (vi5+1))):=by kernel_rfl
theorem zna(F f2 sep vl7 vi8 vi9 vb10):letI A:=vl7.getD vi9.toNat [];zgH F (f2+1) sep vl7 vi8 vi9 vb10=cond (decide (vi9<vi8)) (ze (0<=vi9/\vi9<(vl7.length:Int)) (ze (vb10.length+sep.length<=140737488355328) (ze ((vb10++sep).length+A.length<=140737488355328) (ze (zh (vi9+1)) (zgH F f2 sep vl7 vi8 (vi9+1) ((vb10++sep)++A)))))) (some (.p (.str vb10),[])):=by kernel_rfl
theorem zHi(F l sep):letI A:=(l.length:Int);letI B:=(9223372036854775807:Int).tdiv (A-1);letI C:=(sep.length:Int);letI D:=(0:Int);zB7 F l sep=cond (A==0) (some (.p (.str ([]:List UInt8)),[])) (cond (A==1) (ze (0<=D/\D<A) (some (.p (.str (l.getD D.toNat [])),[]))) (cond (decide (C>0)) (ze (zh (A-1)) (ze ((A-1)≠0/\zh B) (zze F l sep (decide (C>=B))))) (zq8 F l sep 0))):=by kernel_rfl
theorem zJ7(F l sep r):IsP 106 (zB7 F l sep) [.p (.list 1 (.dat .str l)),.p (.str sep)] r:=zG zgy rfl trivial (hr:=⟨zjm,zjp,zI7,trivial⟩)
theorem zC1(F:Nat)(sep:List UInt8)(l:List (List UInt8))(hs:sep.length<=1000)(hl:l.length<=1000000)(ht:zav l<=1000000000):∀ (r:List (List UInt8)) (f i:Nat) (b:List UInt8),l.drop i=r->r.length<f->i<=l.length->b.length+r.length*1000+zav r<=100000000000->
 zgH F f sep l (l.length:Int) (i:Int) b=some (.p (.str (b++r.flatMap (sep++·))),[]):=by
 intro r
 induction r with
 | nil=>
  intro f i b hd hf hi hb
  have:i=l.length:=by have:=congrArg List.length hd;simp at this;omega
  cases f with
  | zero=>omega
  | succ f=>rw[zna];exact zg (by simp;omega) (by simp)
 | cons c r ih=>
  intro f i b hd hf hi hb
  obtain⟨h1,h2,h3⟩:=yF hd []
  rw[zez,List.length_cons]at hb
  cases f with
  | zero=>omega
  | succ f=>
   rw[zna,Int.toNat_natCast,h1]
   refine zi (by simp;omega) (zd ⟨by omega,by omega⟩ (zd (by omega) (zd (by rw[List.length_append];omega) (zd (by unfold zh;omega) ?_))))
   rw[show(i:Int)+1=((i+1:Nat):Int) by omega]
   rw[ih f (i+1) _ h2 (by simp at hf;omega) (by omega) (by simp only[List.length_append];omega)]
   simp
theorem zq7(F:Nat)(sep x:List UInt8)(q:List (List UInt8))(hs:sep.length<=1000)(hl:(x::q).length<=1000000)(ht:zav (x::q)<=1000000000)(hF:(x::q).length<F):∀ (r:List (List UInt8)) (f i n:Nat),(x::q).drop i=r->r.length<f->i<=(x::q).length->0<=n->n+zav r<=100000000000->
 zkP F f (x::q) sep (n:Int) ((x::q).length:Int) (i:Int)=some (.p (.str (yJ sep (x::q))),[]):=by
 intro r
 induction r with
 | nil=>
  intro f i n hd hf hi hn hb
  have hi':i=(x::q).length:=by have:=congrArg List.length hd;simp at this;simp at hi ⊢;omega
  have hx:=zez x q
  have hq:(x::q).length=q.length+1:=rfl
  cases f with
  | zero=>omega
  | succ f=>
   rw[znb]
   refine zg (by simp only[decide_eq_false_iff_not];omega) (zd (by omega) (zd (by simp) (zd (by simp;omega) (zd (by simp;omega) ?_))))
   show zgH F F sep q (q.length:Int) ((0:Nat):Int) ([]++x)=_
   rw[zC1 F sep q hs (by omega) (by omega) q F 0 _ rfl (by omega) (by omega) (by simp;omega)]
   rfl
 | cons c r ih=>
  intro f i n hd hf hi hn hb
  obtain⟨h1,h2,h3⟩:=yF hd []
  rw[zez]at hb
  cases f with
  | zero=>omega
  | succ f=>
   rw[znb,Int.toNat_natCast,h1]
   refine zi (by simp only[decide_eq_true_iff];omega) (zd ⟨by omega,by omega⟩ (zd (by unfold zh;omega) (zg (by simp only[decide_eq_false_iff_not];omega) ?_)))
   rw[zy9]
   refine zd (by unfold zh;omega) (zd (by unfold zh;omega) ?_)
   rw[show(i:Int)+1=((i+1:Nat):Int) by omega,show(n:Int)+(c.length:Int)=((n+c.length:Nat):Int) by omega]
   exact ih f (i+1) _ h2 (by simp at hf;omega) (by omega) (by omega) (by omega)
theorem zJx(l:List (List UInt8))(sep:List UInt8)(hk:zhc l sep):zB7 (l.length+1) l sep=some (.p (.str (yJ sep l)),[]):=by
 obtain⟨hk1,hk2,hk3⟩:=hk
 rw[zHi]
 match l,hk2,hk3 with
 | [],_,_=>rfl
 | [x],_,_=>refine zg (by simp) (zi (by simp) (zd (by simp) (by simp[yJ])))
 | x::y::q,hk2,hk3=>
  by_cases hk0:sep=[]
  .subst hk0
   refine zg (by simp;omega) (zg (by simp;omega) (zg (by simp) ?_))
   rw[znc]
   exact zq7 _ [] x (y::q) hk1 hk2 hk3 (by omega) (x::y::q) _ 0 0 rfl (by omega) (by omega) (by omega) (by omega)
  have hs0:1<=sep.length:=by cases sep with|nil=>exact absurd rfl hk0|cons _ _=>simp
  have hl:(x::y::q).length=q.length+2:=rfl
  refine zg (by simp;omega) (zg (by simp;omega) (zi (by simp;omega) (zd (by unfold zh;omega) ?_)))
  have hd:∀ k:Int,1<=k->k<=1000000->9000000000000<=(9223372036854775807:Int).tdiv k/\(9223372036854775807:Int).tdiv k<=9223372036854775807:=by
   intro k h1 h2
   rw[Int.tdiv_eq_ediv_of_nonneg (by omega)]
   refine⟨?_,?_⟩
   .rw [Int.le_ediv_iff_mul_le (by omega)]
    have:9000000000000*k<=9000000000000*1000000:=by omega
    omega
   .exact Int.ediv_le_self _ (by omega)
  have hd':=hd (((x::y::q).length:Int)-1) (by omega) (by omega)
  refine zd ⟨by omega,by unfold zh;omega⟩ ?_
  rw[zzd]
  refine zg (by simp only[decide_eq_false_iff_not,ge_iff_le];omega) ?_
  rw[zzb]
  have hm:(sep.length:Int)*(((x::y::q).length:Int)-1)=((sep.length*(q.length+1):Nat):Int):=by
   rw[hl];push_cast;congr 1;omega
  have hm1:sep.length*(q.length+1)<=1000*(q.length+1):=Nat.mul_le_mul_right _ hk1
  have hm2:1*(q.length+1)<=sep.length*(q.length+1):=Nat.mul_le_mul_right _ hs0
  rw[hm]
  refine zd (by unfold zh;omega) (zd (by unfold zh;omega) (zd (by unfold zh;omega) ?_))
  rw[znc,show(0:Int)+((sep.length*(q.length+1):Nat):Int)=((sep.length*(q.length+1):Nat):Int) by omega]
  exact zq7 _ sep x (y::q) hk1 hk2 hk3 (by omega) (x::y::q) _ 0 _ rfl (by omega) (by omega) (by omega) (by omega)
def zoK:List AV->Option (AV×Option Prop)
 | [.p l,.p (.str sep)]=>match zA .str l with
  | some l=>some (.p (.str (yJ sep l)),some (zhc l sep))
  | none=>none
 | _=>none
theorem zI0:zn Tryz.prog 106 zoK:=by
 intro zs r ok he hok
 unfold zoK at he
 split at he
 .split at he
  .rename_i l hl
   cases he
   exact⟨by kernel_rfl,fun M w vs hM hvs=>zJ7 (l.length+1) l _ _ (fun _=>zJx _ _ hok) M w vs hM (by
    cases hvs with|cons h1 h2=>exact .cons (zRW hl h1) h2)⟩
  .cases he
 .cases he
theorem zOl:zS Tryz.prog 71 zt8:=by
 intro args ib kept r zZ ok h hok
 simp only[zt8]at h
 split at h
 .split at h
  .rename_i hl
   obtain⟨rfl,_⟩:=yB hl
   cases h
   exact⟨by kernel_rfl,zMu _ hok⟩
  .cases h
 .cases h
def zEh:=mkG [] [] 12 [] [] []
def zEv(F:Nat) :=zam zEh Tryz.f70 ⟨[2],[⟨.slot 2,2,.cells []⟩,⟨.cell 2 4,3004,(.larr 9 false 1 (.dat .str ([]:List (List UInt8))))⟩]⟩ [2,3004] F [.p (.list 1 (.dat .str [([32]:List UInt8),([]:List UInt8),([9]:List UInt8),([]:List UInt8)]))] []
theorem zB6(F):letI A:=([]:List UInt8);letI B:=([32]:List UInt8);letI C:=([9]:List UInt8);zEv F =ze ([B,A,C,A].length*16<=140737488355328) (some (.ref 2 0,[(2,.cells [.p (.int .u32 0),.p (.int .i32 0),.p (.int .u32 0),.p (.plain .nilIface),.arr 3004]),(3004,.larr 9 false 1 (.dat .str [B,A,C,A]))])):=Eq.trans (by kernel_rfl) (zl (show(2:Int)≠0 from(by decide)) rfl)
theorem zGn(F r os):IsR 70 (zEv F ) [.p (.list 1 (.dat .str [([32]:List UInt8),([]:List UInt8),([9]:List UInt8),([]:List UInt8)]))] [] [] r os:=zb9 zEh ⟨[2],[⟨.slot 2,2,.cells []⟩,⟨.cell 2 4,3004,(.larr 9 false 1 (.dat .str ([]:List (List UInt8))))⟩]⟩ [2,3004] rfl trivial
def zls:yM:=⟨[true],fun args ib=>match args,ib with
 | [.p (.list 1 R)],[]=>match zA .str (.list 1 R)with
  | some [[32],[],[9],[]]=>some (([],.ref 2 0),([(2,.cells [.p (.int .u32 0),.p (.int .i32 0),.p (.int .u32 0),.p (.plain .nilIface),.arr 3004]),(3004,.larr 9 false 1 (.dat .str zpn))],none))
  | _=>none
 | _,_=>none⟩
theorem zFE:zS Tryz.prog 70 zls:=by
 intro args ib kept r zZ ok h hok
 simp only[zls]at h
 split at h
 .split at h
  .rename_i hl
   obtain⟨rfl,_⟩:=yB hl
   cases h
   exact⟨by kernel_rfl,zGn 0 _ _ fun _=>by rw[zB6];exact zd (by simp) rfl⟩
  .cases h
 .cases h
def zaX(s:List UInt8)(c:Int):Nat->Int
 | 0=>-1
 | n+1=>if(((s.getD n 0).toNat:Nat):Int)=c then(n:Int) else zaX s c n
theorem zpw(s:List UInt8)(c:Int):∀ n,-1<=zaX s c n/\zaX s c n<n
 | 0=>by simp[zaX]
 | n+1=>by
  have:=zpw s c n
  rw[zaX];split <;> omega
def zLA:=mkG [] [] 19 [] [([0,1,0,1],⟨[0,1,5],[]⟩)] []
def zoe(F f1:Nat)(s:List UInt8)(c vi1:Int):=zH zLA Tryz.f170 F [] [1,0,1,0] f1 [(0,pS s),(1,.p (.int .u8 c)),(5,pI vi1)] []
def zMC(F:Nat)(s:List UInt8)(c:Int):=zF zLA Tryz.f170 F [pS s,.p (.int .u8 c)]
theorem zq6(F f1 s c vi1):zoe F (f1+1) s c vi1=cond (decide (vi1>=0)) (ze (0<=vi1/\vi1<(s.length:Int)) (cond (((s.getD vi1.toNat 0).toNat:Int)==c) (some (.p (.int .i64 vi1),[])) (ze (zh (vi1-1)) (zoe F f1 s c (vi1-1))))) (some (.p (.int .i64 (-1:Int)),[])):=by kernel_rfl
theorem zMA(F s c):letI A:=(s.length:Int)-1;zMC F s c=ze (zh A) (zoe F F s c A):=by kernel_rfl
theorem zPh(F s c r):IsP 170 (zMC F s c) [.p (.str s),.p (.int .u8 c)] r:=zG zLA rfl trivial
theorem zsR(F:Nat)(s:List UInt8)(c:Int)(hS:s.length<=1000000):∀ (n f:Nat),n<=s.length->n<f->zoe F f s c ((n:Int)-1)=some (.p (.int .i64 (zaX s c n)),[])
 | 0,f,_,hf=>by
  obtain⟨f,rfl⟩:∃ k,f=k+1:=⟨f-1,by omega⟩
  rw[zq6]
  exact zg (by simp) rfl
 | n+1,f,hn,hf=>by
  obtain⟨f,rfl⟩:∃ k,f=k+1:=⟨f-1,by omega⟩
  have e:((n+1:Nat):Int)-1=(n:Int):=by omega
  rw[zq6,e]
  refine zi (by simp) (zd ⟨by omega,by omega⟩ ?_)
  rw[Int.toNat_natCast,zaX]
  by_cases h:(((s.getD n 0).toNat:Nat):Int)=c
  .rw [if_pos h];exact zi (by simpa using h) rfl
  .rw [if_neg h]
   refine zg (by simpa using h) (zd ⟨by omega,by omega⟩ ?_)
   exact zsR F s c hS n f (by omega) (by omega)
theorem zOH(s:List UInt8)(c:Int)(hS:s.length<=1000000):zMC (s.length+1) s c=some (.p (.int .i64 (zaX s c s.length)),[]):=by
 rw[zMA]
 exact zd ⟨by omega,by omega⟩ (zsR _ s c hS s.length (s.length+1) (Nat.le_refl _) (by omega))
def zud:List AV->Option (AV×Option Prop)
 | [.p (.str s),.p (.int .u8 c)]=>some (.p (.int .i64 (zaX s c s.length)),some (s.length<=1000000))
 | _=>none
theorem zOq:zn Tryz.prog 170 zud:=by
 intro zs r ok he hok
 unfold zud at he
 split at he
 .cases he;exact⟨by kernel_rfl,zPh _ _ _ _ fun _=>zOH _ _ hok⟩
 .cases he
def Glib:=mkG [(170,zud)] [] 8 [] [] []
def Flib(F:Nat)(s:List UInt8)(c:Int):=zF Glib Tryz.f139 F [pS s,.p (.int .u8 c)]
theorem zQk(F s c):Flib F s c=ze (s.length<=1000000) (some (.p (.int .i64 (zaX s c s.length)),[])):=by kernel_rfl
theorem zSr(F s c r):IsP 139 (Flib F s c) [.p (.str s),.p (.int .u8 c)] r:=zG Glib rfl ⟨zOq.any,trivial⟩
def zzW:List AV->Option (AV×Option Prop)
 | [.p (.str s),.p (.int .u8 c)]=>some (.p (.int .i64 (zaX s c s.length)),some (s.length<=1000000))
 | _=>none
theorem zRP:zn Tryz.prog 139 zzW:=by
 intro zs r ok he hok
 unfold zzW at he
 split at he
 .cases he;exact⟨by kernel_rfl,zSr 0 _ _ _ fun _=>by rw[zQk];exact zd hok rfl⟩
 .cases he
def zaJ(s:List UInt8):List UInt8×List UInt8:=if zaX s 64 s.length<0 then(s,[]) else(s.take (zaX s 64 s.length).toNat,s.drop (zaX s 64 s.length+1).toNat)
def zLQ:=mkG [(139,zzW)] [] 17 [] [] []
def zCt(F:Nat)(s:List UInt8):=zF zLQ Tryz.f107 F [pS s]
theorem zHE(F s):letI A:=zaX s 64 s.length;letI B:=A+1;letI C:=(s.length:Int);zCt F s=ze (s.length<=1000000) (cond (decide (A<0)) (some (.tup [.p (.str s),.p (.str ([]:List UInt8))],[])) (ze (0<=A/\A<=C) (ze (zh B) (ze (0<=B/\B<=C) (some (.tup [.p (.str (s.take A.toNat)),.p (.str (s.drop B.toNat))],[])))))):=by kernel_rfl
theorem zKu(F s r):IsP 107 (zCt F s) [.p (.str s)] r:=zG zLQ rfl ⟨zRP.any,trivial⟩
theorem zLf(s:List UInt8)(h:s.length<=1000000):zCt 0 s=some (.tup [.p (.str (zaJ s).1),.p (.str (zaJ s).2)],[]):=by
 have hb:=zpw s 64 s.length
 rw[zHE,zaJ]
 refine zd h ?_
 by_cases hn:zaX s 64 s.length<0
 .rw [if_pos hn];exact zi (by simpa using hn) rfl
 .rw [if_neg hn]
  exact zg (by simpa using hn) (zd ⟨by omega,by omega⟩ (zd ⟨by omega,by omega⟩ (zd ⟨by omega,by omega⟩ rfl)))
def zoZ:List AV->Option (AV×Option Prop)
 | [.p (.str s)]=>some (.tup [.p (.str (zaJ s).1),.p (.str (zaJ s).2)],some (s.length<=1000000))
 | _=>none
theorem zJi:zn Tryz.prog 107 zoZ:=by
 intro zs r ok he hok
 unfold zoZ at he
 split at he
 .cases he;exact⟨by kernel_rfl,zKu 0 _ _ fun _=>zLf _ hok⟩
 .cases he
def told(ws:List (List UInt8))(an:List UInt8)(hs:Bool):yl:=if hs=true then(zcm (yJ [32] ws),((zaJ an).1,(zaJ an).2)) else([],((zaJ (yJ [] ws)).1,(zaJ (yJ [] ws)).2))
def zbG(ws:List (List UInt8))(an:List UInt8)(hs:Bool)(out:List yl):List yl:=if(told ws an hs).2.1≠[]\/(told ws an hs).2.2≠[] then out++[told ws an hs] else out
abbrev zk9(ws:List (List UInt8))(an:List UInt8)(out:List yl):Prop:=
 zhc ws ([32]:List UInt8)/\zhc ws ([]:List UInt8)/\(yJ [32] ws).length<=100000/\(yJ [] ws).length<=1000000/\an.length<=1000000/\out.length<=1000000
def zQL:Code:=yw Tryz.f73
def zEb:=mkG [(49,znJ),(106,zoK),(107,zoZ)] [(72,znO)] 55 [70000] [([1,1],⟨[0,2],[⟨.slot 2,2,.cells []⟩,⟨.fix 70000,70000,.cells []⟩,⟨.cell 70000 2,70001002,(.larr 9 false 1 (.dat .str ([]:List (List UInt8))))⟩,⟨.cell 70000 5,70001005,(.larr 93 false 3 (.dat (.pair .str (.pair .str .str)) ([]:List (List UInt8×List UInt8×List UInt8))))⟩]⟩),([1,1,1],⟨[0],[⟨.fix 70000,70000,.cells []⟩,⟨.cell 70000 2,70001002,(.larr 9 false 1 (.dat .str ([]:List (List UInt8))))⟩,⟨.cell 70000 5,70001005,(.larr 93 false 3 (.dat (.pair .str (.pair .str .str)) ([]:List (List UInt8×List UInt8×List UInt8))))⟩]⟩)] [([1,1,1],[1])]
def zQD:K:=kR Tryz.prog [70000] ⟨[],[⟨.fix 70000,70000,.cells []⟩,⟨.cell 70000 2,70001002,(.larr 9 false 1 (.dat .str ([]:List (List UInt8))))⟩,⟨.cell 70000 5,70001005,(.larr 93 false 3 (.dat (.pair .str (.pair .str .str)) ([]:List (List UInt8×List UInt8×List UInt8))))⟩]⟩ [70000,70001002,70001005] Tryz.f73.results.toList
def zn7(F:Nat)(vs1 vs2 vs3 vs4:List UInt8)(vi5:Int)(vs6:List UInt8)(vc7:Bool)(vl8:List (List UInt8))(vl9:List (List UInt8×List UInt8×List UInt8)):=zcv zEb zQL zQD F [] [1,1] [(0,.ref 70000 0),(2,.ref 2 0)] [(2,.cells [pS vs1,pS vs2,pS vs3]),(70000,.cells [pS vs4,pI vi5,.arr 70001002,pS vs6,pB vc7,.arr 70001005]),(70001002,.larr 9 false 1 (.dat .str vl8)),(70001005,.larr 93 false 3 (.dat (.pair .str (.pair .str .str)) vl9))]
def zv1(F:Nat)(vs10:List UInt8)(vi11:Int)(vs12:List UInt8)(vc13:Bool)(vl14:List (List UInt8))(vl15:List (List UInt8×List UInt8×List UInt8)):=zcv zEb zQL zQD F [] [1,1,1] [(0,.ref 70000 0)] [(70000,.cells [pS vs10,pI vi11,.arr 70001002,pS vs12,pB vc13,.arr 70001005]),(70001002,.larr 9 false 1 (.dat .str vl14)),(70001005,.larr 93 false 3 (.dat (.pair .str (.pair .str .str)) vl15))]
def zL2(F:Nat)(s:List UInt8)(at_:Int)(ws:List (List UInt8))(an:List UInt8)(hs:Bool)(out:List (List UInt8×List UInt8×List UInt8)):=zam zEb Tryz.f73 ⟨[],[⟨.fix 70000,70000,.cells []⟩,⟨.cell 70000 2,70001002,(.larr 9 false 1 (.dat .str ([]:List (List UInt8))))⟩,⟨.cell 70000 5,70001005,(.larr 93 false 3 (.dat (.pair .str (.pair .str .str)) ([]:List (List UInt8×List UInt8×List UInt8))))⟩]⟩ [70000,70001002,70001005] F [.ref 70000 0] [(70000,.cells [pS s,pI at_,.arr 70001,pS an,pB hs,.arr 70002]),(70001,.larr 9 false 1 (.dat .str ws)),(70002,.larr 93 false 3 (.dat (.pair .str (.pair .str .str)) out))]
theorem zCF(F vs1 vs2 vs3 vs4 vi5 vs6 vc7 vl8 vl9):letI A:=([]:List UInt8);zn7 F vs1 vs2 vs3 vs4 vi5 vs6 vc7 vl8 vl9=cond ((vs2 != A)||(vs3 != A)) (ze ((vl9.length+[(vs1,(vs2,vs3))].length)*48<=140737488355328) (zv1 F vs4 vi5 vs6 vc7 vl8 (vl9++[(vs1,(vs2,vs3))]))) (zv1 F vs4 vi5 vs6 vc7 vl8 vl9):=letI A:=vs2 != ([]:List UInt8);Eq.trans (by kernel_rfl) (nI ((!A)=true) (nI ((!A)=true) (nN A rfl)))
theorem zqD(F vs10 vi11 vs12 vc13 vl14 vl15):zv1 F vs10 vi11 vs12 vc13 vl14 vl15=some (.tup [],[(70000,.cells [.p (.str vs10),.p (.int .i64 vi11),.arr 70001002,.p (.str ([]:List UInt8)),.p (.bool false),.arr 70001005]),(70001002,.larr 9 false 1 (.dat .str ([]:List (List UInt8)))),(70001005,.larr 93 false 3 (.dat (.pair .str (.pair .str .str)) vl15))]):=by kernel_rfl
theorem zL0(F s at_ ws an hs out):letI A:=([]:List UInt8);letI B:=([32]:List UInt8);letI C:=yJ A ws;zL2 F s at_ ws an hs out=cond hs (ze (zhc ws B) (ze ((yJ B ws).length<=100000) (ze (an.length<=1000000) (zn7 F (zcm (yJ B ws)) (zaJ an).1 (zaJ an).2 s at_ an hs ws out)))) (ze (zhc ws A) (ze (C.length<=1000000) (zn7 F A (zaJ C).1 (zaJ C).2 s at_ an hs ws out))):=by kernel_rfl
theorem zO0(F s at_ ws an hs out r os):IsR 73 (zL2 F s at_ ws an hs out) [.ref 70000 0] [(70000,.cells [.p (.str s),.p (.int .i64 at_),.arr 70001,.p (.str an),.p (.bool hs),.arr 70002]),(70001,.larr 9 false 1 (.dat .str ws)),(70002,.larr 93 false 3 (.dat (.pair .str (.pair .str .str)) out))] [70000] r os:=zb9 zEb ⟨[],[⟨.fix 70000,70000,.cells []⟩,⟨.cell 70000 2,70001002,(.larr 9 false 1 (.dat .str ([]:List (List UInt8))))⟩,⟨.cell 70000 5,70001005,(.larr 93 false 3 (.dat (.pair .str (.pair .str .str)) ([]:List (List UInt8×List UInt8×List UInt8))))⟩]⟩ [70000,70001002,70001005] rfl ⟨zDm.any,zI0.any,zJi.any,trivial⟩ (hr:=⟨zDr,trivial⟩)
theorem zH8(F:Nat)(q:yl)(s:List UInt8)(at_:Int)(an:List UInt8)(hs:Bool)(ws:List (List UInt8))(out:List yl)(ho:out.length<=1000000):
 zn7 F q.1 q.2.1 q.2.2 s at_ an hs ws out=some (.tup [],rdN 70001002 70001005 s at_ [] [] false (if q.2.1≠[]\/q.2.2≠[] then out++[q] else out)):=by
 rw[zCF,zqD,zqD]
 by_cases h:q.2.1≠[]\/q.2.2≠[]
 .rw [if_pos h]
  refine zi ?_ (zd (by simp;omega) rfl)
  rw[Bool.or_eq_true,bne_iff_ne,bne_iff_ne];exact h
 .rw [if_neg h]
  refine zg ?_ rfl
  rw[<-Bool.not_eq_true,Bool.or_eq_true,bne_iff_ne,bne_iff_ne];exact h
theorem zNr(s:List UInt8)(at_:Int)(ws:List (List UInt8))(an:List UInt8)(hs:Bool)(out:List yl)(h:zk9 ws an out):
 zL2 0 s at_ ws an hs out=some (.tup [],rdN 70001002 70001005 s at_ [] [] false (zbG ws an hs out)):=by
 obtain⟨h1,h2,h3,h4,h5,h6⟩:=h
 rw[zL0]
 cases hs with
 | true=>exact zi rfl (zd h1 (zd h3 (zd h5 (zH8 0 (told ws an true) s at_ an true ws out h6))))
 | false=>exact zg rfl (zd h2 (zd h4 (zH8 0 (told ws an false) s at_ an false ws out h6)))
def ztX:yM:=⟨[false],fun args ib=>match args,ib with
 | [.ref 70000 0],[(70000,.cells [.p (.str s),.p (.int .i64 at_),.arr 70001,.p (.str an),.p (.bool hs),.arr 70002]),(70001,.larr 9 false 1 R),(70002,.larr 93 false 3 Q)]=>
  match zA .str (.list 1 R),zA zbZ (.list 3 Q)with
  | some ws,some out=>some (([70000],.tup []),(rdN 70001002 70001005 s at_ [] [] false (zbG ws an hs out),some (zk9 ws an out)))
  | _,_=>none
 | _,_=>none⟩
theorem zOa:zS Tryz.prog 73 ztX:=by
 intro args ib kept r zZ ok h hok
 simp only[ztX]at h
 split at h
 .split at h
  .rename_i ws out hw ho
   obtain⟨rfl,_⟩:=yB hw
   obtain⟨rfl,_⟩:=yB ho
   cases h
   exact⟨by kernel_rfl,zO0 0 _ _ _ _ _ _ _ _ fun _=>zNr _ _ _ _ _ _ hok⟩
  .cases h
 .cases h
end Go.Proofs.YtampckbjinodgaaGreatDoor
