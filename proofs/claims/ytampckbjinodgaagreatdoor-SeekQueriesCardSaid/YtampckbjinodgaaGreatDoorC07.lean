/-
  Lifted functions, and facts about them.
-/
import Derived.Test.YtampckbjinodgaaGreatDoorRows
import Derived.Test.YtampckbjinodgaaGreatDoorC01
import Derived.Test.YtampckbjinodgaaGreatDoorAmC
import Derived.Test.YtampckbjinodgaaGreatDoorC06
import Derived.Test.YtampckbjinodgaaGreatDoorC02
set_option linter.unusedVariables false
noncomputable section
namespace Go.Proofs.YtampckbjinodgaaGreatDoor
open Go Go.Am
def zIL:Array Oper:=zTx (at_ cI [0,0,1,0,1,1,0,0])
def cutY:Cut:=⟨[0,1,2,3,6,28,29,30],zKP.own⟩
def cutN:Cut:=⟨[0,1,2,3,6,32],zKP.own⟩
theorem zTC(l:Nat)(s t:List UInt8)(body i b nx:Int)(g:List (List UInt8))(rec:Loop):zD5 Tryz.prog GI.env 34 zIL [0,1,2] (mkS [(0,.clo (.yield l) [] []),(1,.ref 1001 0),(2,.ref 1002 0),(3,.ref 1003 0),(5,.p (.str t)),(6,.p (.int .i64 nx))] (oI body g i b s rec)) zbe cutY=
 some ((.tup [.p (.int .i64 (-1)),.clo (.yield l) [] [],.ref 1001 0,.ref 1002 0,.ref 1003 0,.p (.int .i64 nx),.clo (.yield l) [] [],.p (.str t),.p (.int .i64 nx)],oI body g i b s rec),[]):=by kernel_rfl
theorem zRV(l:Nat)(s:List UInt8)(body i b nx:Int)(g:List (List UInt8))(c:Bool)(rec:Loop):zD5 Tryz.prog GI.env 34 zIL [4] (mkS [(0,.clo (.yield l) [] []),(1,.ref 1001 0),(2,.ref 1002 0),(3,.ref 1003 0),(6,.p (.int .i64 nx)),(31,.p (.bool c))] (oI body g i b s rec)) zbe cutN=
 some ((.tup [.p (.int .i64 (-1)),.clo (.yield l) [] [],.ref 1001 0,.ref 1002 0,.ref 1003 0,.p (.int .i64 nx),.p (.bool (!c))],oI body g i b s rec),[]):=by kernel_rfl
theorem zTY:cI=.block 0 (.loop (.seq (at_ cI [0,0,0]) (.block 1 (.seq (at_ cI [0,0,1,0,0]) (.seq (at_ cI [0,0,1,0,1,0]) (.seq (.seq (.region 5 zIL false) (at_ cI [0,0,1,0,1,1,0,1])) (at_ cI [0,0,1,0,1,1,1]))))))):=by kernel_rfl
theorem y_op:∃ ts type pos after,zIL[3]?=some ⟨some 31,.call ⟨.value (.tmp 28),#[.tmp 29,.tmp 30],ts⟩,type,pos,after,none⟩:=⟨_,_,_,_,rfl⟩
theorem zFn:List.range zIL.size=[0,1,2]++[3,4]:=by kernel_rfl
theorem zQA{C:Ctx}{γ:Nat->Option G}{M:Mem}{st:S}{a:Act}{w:World}(hs:StG C γ M st a w):∃ v,(results Tryz.f97 a.tmps).run Tryz.prog w=.ok v w:=by
 obtain⟨v,hv,_⟩:=zfV (r:=.tup []) hs Tryz.f97 (by kernel_rfl)
 exact⟨v,hv⟩
theorem zsZ{t:List UInt8}{i nx:Nat}{body:Int}{g:List (List UInt8)}{r:List (Nat×List UInt8×Nat)}(h:(stp t (nx:Int) body g).1=none):yA ((i,t,nx)::r) body g=yA r (stp t (nx:Int) body g).2.1 (stp t (nx:Int) body g).2.2:=by
 unfold stp at h ⊢
 rw[yA]
 split at h
 .cases h
 .rename_i h0
  rw[if_neg h0,if_neg h0]
  split <;> rfl
theorem zF2{t:List UInt8}{i nx:Nat}{body:Int}{g:List (List UInt8)}{r:List (Nat×List UInt8×Nat)}{c:Code}(h:(stp t (nx:Int) body g).1=some c):yA ((i,t,nx)::r) body g=((stp t (nx:Int) body g).2.2,(stp t (nx:Int) body g).2.1)/\c=.exit 0:=by
 unfold stp at h ⊢
 rw[yA]
 split at h
 .rename_i h0
  rw[if_pos h0,if_pos h0];exact⟨rfl,(Option.some.inj h).symm⟩
 .split at h <;> cases h
theorem zQy{t:List UInt8}{nx body:Int}{g:List (List UInt8)}{i n:Nat}(hi:i<n)(hg:g.length<=i)(hx:∀ x ∈ g,x.length<=i)(ht:t.length<=n-i):(stp t nx body g).2.2.length<=n/\∀ x ∈ (stp t nx body g).2.2,x.length<=n:=by
 unfold stp
 split
 .exact ⟨by dsimp only;omega,fun x h=>by have:=hx x h;omega⟩
 .split
  .rename_i h
   have hgl:=List.length_pos_iff.2 h.1
   have h1:=hx _ (yi (show g.length-1<g.length by omega) [])
   refine⟨by simp;omega,fun x h=>?_⟩
   rcases List.mem_or_eq_of_mem_set h with h|h
   .have:=hx x h;omega
   .rw [h,List.length_append];omega
  .refine ⟨by simp;omega,fun x h=>?_⟩
   rcases List.mem_append.1 h with h|h
   .have:=hx x h;omega
   .rw [List.mem_singleton.1 h];omega
theorem zER{e:Exit}(h:zdk e=.p (.int .i64 (-2))):e=.ret:=by
 cases e with
 | ret=>rfl
 | exit i=>simp[zdk]at h
 | _=>simp[zdk]at h
theorem zK2{C:Ctx}{P:Program}{st:S}{a:Act}{w:World}{o:List (Nat×AObj)}{Gc:Cfg}(hG:zb0 Gc P C){nt:Nat}{fx:List Nat}(hC:zbA C nt fx){c1 c2:Code}{c:Cut}{t:AV}{xs:List AV}{R:Exit->Act->World->Prop}
 (hv:zan Gc za5 [] c1 st (zbf Gc c2 (zhT fx c))=some (.tup (t::xs),o)) (hs:St C st a w)
 (h:∀ e a w,zdk e=t->St C (mkS (List.zip c.slots xs) o) a w->R e a w):c1.wpIn (FW C.rd) 0 P (Exit.then (c2.wpIn (FW C.rd) 0 P R) R) a w:=by
 have key:∀ e s' a' w',zhT fx c e s'=some (.tup (t::xs),o)->St C s' a' w'->R e a' w':=by
  intro e s' a' w' hk hs'
  obtain⟨h1,h2⟩:=zcB hC hk
  exact h e a' w' h1 (h2 _ _ hs')
 refine yR hG hv hs fun e s1 a1 w1 hk1 hs1=>?_
 cases e with
 | normal=>exact yR hG (s:=s1) hk1 hs1 fun e s2 a2 w2 hk2 hs2=>key e s2 a2 w2 hk2 hs2
 | exit i=>exact key (.exit i) s1 a1 w1 hk1 hs1
 | ret=>exact key .ret s1 a1 w1 hk1 hs1
 | goto i=>exact key (.goto i) s1 a1 w1 hk1 hs1
 | panic i=>exact key (.panic i) s1 a1 w1 hk1 hs1
 | outgrown=>exact key .outgrown s1 a1 w1 hk1 hs1
theorem zDZ{γ:Nat->Option G}{M:Mem}{fn:Fn}:zp γ M (.clo fn [] []) (.func fn #[] #[]):=.clo _ _ _ _ _ rfl rfl (fun i hi=>absurd hi (Nat.not_lt_zero _)) (fun i hi=>absurd hi (Nat.not_lt_zero _))
abbrev lI(l:Nat):List (Nat×AV):=[(0,.clo (.yield l) [] []),(1,.ref 1001 0),(2,.ref 1002 0),(3,.ref 1003 0)]
structure IInv(γ1:Nat->Option G)(M1:Mem)(W1:World)(o1:List (Nat×AObj))(s:List UInt8)(b:Nat)(rec:Loop)(fin:List (List UInt8)×Int)(l:Nat)(i:Nat)(body:Int)(g:List (List UInt8))(γ:Nat->Option G)(M:Mem)(a:Act)(w:World):Prop where
 hold:zbb γ M w (oI body g (i:Int) (b:Int) s rec)
 chg:Chg γ1 o1 M1 W1 γ (oI body g (i:Int) (b:Int) s rec) M w
 kept:zrN γ1 γ
 res:yA (yp s i b) body g=fin
 ib:i<=b
 gl:g.length<=i
 gx:∀ x ∈ g,x.length<=i
 sl:∀ t:Nat,zp γ M (Am.look t AV.any (lI l)) (a.tmps.getD t undef)
 df:a.defers=[]
 nt:a.tmps.size=34
def zQS(γ1:Nat->Option G)(M1:Mem)(W1:World)(o1:List (Nat×AObj))(s:List UInt8)(b:Nat)(fn:FuncId)(tm:Array Value)(D:Nat)(fin:List (List UInt8)×Int)(W2:World):Prop:=
 ∃ (γ':Nat->Option G) (M':Mem) (i:Int) (st:LoopState) (pe:Option Code),zbb γ' M' W2 (oI fin.2 fin.1 i (b:Int) s (yq fn tm D st pe))/\Chg γ1 o1 M1 W1 γ' (oI fin.2 fin.1 i (b:Int) s (yq fn tm D st pe)) M' W2/\zrN γ1 γ'/\
  ((st=.ready/\pe=none)\/(st=.done/\pe=some (.exit 0)))/\fin.1.length<=b/\∀ x ∈ fin.1,x.length<=b
theorem zOI{γ1:Nat->Option G}{M1:Mem}{W1:World}{s:List UInt8}{a b:Nat}{fn:FuncId}{tm:Array Value}{D l:Nat}{p q r:Value}
 (hH:zbb γ1 M1 W1 (oI (b:Int) [] (a:Int) (b:Int) s (yq fn tm D .ready none))) (hl:γ1 1005=some (.cell l)) (h7:zp γ1 M1 (.ref 7 0) (tm.getD 7 undef)) (h8:zp γ1 M1 (.ref 8 0) (tm.getD 8 undef))
 (hp:zp γ1 M1 (.ref 1001 0) p) (hq:zp γ1 M1 (.ref 1002 0) q) (hr:zp γ1 M1 (.ref 1003 0) r) (hsz:tm.size=98) (hab:a<=b) (hb:b<=s.length) (hs:s.length<=1000000):
 Calls Tryz.prog 97 (#[.func (.yield l) #[] #[]]++#[p,q,r]) W1 fun e W2=>(∃ v,e=.returned v)/\zQS γ1 M1 W1 (oI (b:Int) [] (a:Int) (b:Int) s (yq fn tm D .ready none)) s b fn tm D (yA (yp s a b) (b:Int) []) W2:=by
 obtain⟨o1,ho1⟩:∃ o1,oI (b:Int) [] (a:Int) (b:Int) s (yq fn tm D .ready none)=o1:=⟨_,rfl⟩
 obtain⟨fin,hfin⟩:∃ fin,yA (yp s a b) (b:Int) []=fin:=⟨_,rfl⟩
 rw[hfin]
 refine zft (r:=none) (n:=0) |>.1 (callsIn_of_wp (F:=FW none) (fn:=Tryz.f97) (c:=cI) (by kernel_rfl) (by kernel_rfl) trivial ?_ rfl)
 obtain⟨tm0,ht0⟩:∃ x,(#[.func (.yield l) #[] #[]]++#[p,q,r])++Array.replicate (Tryz.f97.ntmps-(#[.func (.yield l) #[] #[]]++#[p,q,r]:Array Value).size) undef=x:=⟨_,rfl⟩
 have hnn:Tryz.f97.ntmps=34:=by kernel_rfl
 have z0:tm0.getD 0 undef=.func (.yield l) #[] #[]:=by rw[<-ht0];simp[Array.getD_eq_getD_getElem?]
 have z1:tm0.getD 1 undef=p:=by rw[<-ht0];simp[Array.getD_eq_getD_getElem?]
 have z2:tm0.getD 2 undef=q:=by rw[<-ht0];simp[Array.getD_eq_getD_getElem?]
 have z3:tm0.getD 3 undef=r:=by rw[<-ht0];simp[Array.getD_eq_getD_getElem?]
 have z4:tm0.size=34:=by rw[<-ht0,hnn];simp
 rw[ht0]
 clear ht0 hnn
 rw[zTY]
 refine wpIn_block (zml (fun n av wv=>∃ i body g γ M,IInv γ1 M1 W1 (oI (b:Int) [] (a:Int) (b:Int) s (yq fn tm D .ready none)) s b (yq fn tm D .ready none) fin l i body g γ M av wv/\n=b-i) ?_ (b-a) ⟨a,b,[],γ1,M1,⟨hH,Chg.refl,fun _ _ _ h=>h,hfin,hab,by simp,by simp,?_,rfl,?_⟩,rfl⟩)
 .rintro n' a1 w1 ⟨i,body,g,γ,M,hI,hn⟩
  have hG:zb0 GI Tryz.prog (zcS w1 M γ (oI body g (i:Int) (b:Int) s (yq fn tm D .ready none)) zbe 34 none []):=⟨rfl,zvx,zEr,zay,Checked.mixed Tryz.checked⟩
  have hst:St (zcS w1 M γ (oI body g (i:Int) (b:Int) s (yq fn tm D .ready none)) zbe 34 none []) (mkS (lI l) (oI body g (i:Int) (b:Int) s (yq fn tm D .ready none))) a1 w1:=⟨γ,M,hI.hold.lend hI.sl hI.df hI.nt⟩
  by_cases hi:i<b
  .refine zK1 hG zay (zR7 hi hb hs) hst (fun a3 w3 _ hs3=>?_) (fun e a' w' hne ht _=>absurd (zcT ht) hne)
   obtain⟨hL,hn1,hn2,hn3⟩:=zpr hi hb
   obtain⟨t,ht⟩:∃ t,(zdZ s i b).1=t:=⟨_,rfl⟩
   obtain⟨nx,hnx⟩:∃ nx,(zdZ s i b).2=nx:=⟨_,rfl⟩
   rw[ht,hnx]at hs3 hL
   rw[hnx]at hn1 hn2
   rw[ht,hnx]at hn3
   obtain⟨γ3,M3,hs3⟩:=hs3
   obtain⟨hH3,hC3,hK3,hsl3,hdf3,hnt3⟩:=zbb.back hs3
   refine wpIn_seq (wpIn_seq (wpIn_region ?_))
   rw[zFn]
   refine zte (C:=zcS w3 M3 γ3 (oI body g (i:Int) (b:Int) s (yq fn tm D .ready none)) zbe 34 none []) (nt:=34) zay zvx (zTC l s t body i b nx g _) trivial ⟨γ3,M3,hH3.lend hsl3 hdf3 hnt3⟩ (fun a4 w4 hs4=>?_)
   obtain⟨γ4,M4,hs4⟩:=hs4
   obtain⟨hH4,hC4,hK4,hsl4,hdf4,hnt4⟩:=zbb.back hs4
   have hKK4:zrN γ1 γ4:=(hI.kept.trans hK3).trans hK4
   have hCC4:=(hI.chg.trans hC3).trans hC4
   have hl4:=hKK4 1005 (by decide) _ hl
   obtain⟨ts,ty,pos,aft,ho⟩:=y_op
   have e0:=zp.clo0 (fn:=.yield l) (hsl4 0)
   have e28:=zp.clo0 (fn:=.yield l) (hsl4 28)
   have r1:zp γ4 M4 (.ref 1001 0) (a4.tmps.getD 1 undef):=hsl4 1
   have r2:zp γ4 M4 (.ref 1002 0) (a4.tmps.getD 2 undef):=hsl4 2
   have r3:zp γ4 M4 (.ref 1003 0) (a4.tmps.getD 3 undef):=hsl4 3
   have r6:zp γ4 M4 (.p (.int .i64 (nx:Int))) (a4.tmps.getD 6 undef):=hsl4 6
   have r29:zp γ4 M4 (.p (.str t)) (a4.tmps.getD 29 undef):=hsl4 29
   have r30:zp γ4 M4 (.p (.int .i64 (nx:Int))) (a4.tmps.getD 30 undef):=hsl4 30
   refine zIK ho rfl (zzI (l:=l) (r:=yq fn tm D .ready none) e28 (hH4.raw_at zdy hl4).1 rfl ?_)
   have hfold:(((yq fn tm D .ready none).params.zip ((#[.tmp 29,.tmp 30]:Array Operand).map a4.eval)).foldl (fun tmps (t,a)=>tmps.setIfInBounds t a) (yq fn tm D .ready none).tmps)=(tm.setIfInBounds 35 (a4.tmps.getD 29 undef)).setIfInBounds 36 (a4.tmps.getD 30 undef):=by
    simp[yq,Act.eval]
   rw[hfold]
   refine RoundIn.mono (zIq (fn:=fn) (D:=D) (tm:=tm) hH4 hl4 (h7.ref_kept fun g hg=>hKK4 7 (by decide) g hg) (h8.ref_kept fun g hg=>hKK4 8 (by decide) g hg) r29 r30 hsz (by have:=hI.gl;omega) (fun x hx=>by have:=hI.gx x hx;omega) (by omega)) ?_
   rintro e W' ⟨jump,γ5,M5,he,hj,hH5,hC5,hK5⟩
   refine⟨_,he,?_⟩
   obtain⟨hg5,hx5⟩:=zQy (nx:=(nx:Int)) (body:=body) (t:=t) hn1 hI.gl hI.gx hn3
   obtain⟨body5,hb5⟩:∃ x,(stp t (nx:Int) body g).2.1=x:=⟨_,rfl⟩
   obtain⟨g5,hg5'⟩:∃ x,(stp t (nx:Int) body g).2.2=x:=⟨_,rfl⟩
   have hres:=hI.res
   rw[hL]at hres
   rw[hg5']at hg5 hx5
   rw[hb5,hg5']at hH5 hC5
   have hput:∀ k,k≠31->(a4.put (some 31) (.bool jump.isNone)).tmps.getD k undef=a4.tmps.getD k undef:=by
    intro k hk
    show(a4.tmps.setIfInBounds 31 _).getD k undef=_
    rw[zuM (by omega),if_neg (fun h=>hk h.symm)]
   have hsl5:∀ t':Nat,zp γ5 M5 (Am.look t' AV.any [(0,.clo (.yield l) [] []),(1,.ref 1001 0),(2,.ref 1002 0),(3,.ref 1003 0),(6,.p (.int .i64 (nx:Int))),(31,.p (.bool jump.isNone))]) ((a4.put (some 31) (.bool jump.isNone)).tmps.getD t' undef):=by
    refine yO ?_ (yO ?_ (yO ?_ (yO ?_ (yO ?_ (yO ?_ zo4)))))
    .rw [hput 0 (by decide),e0];exact zDZ
    .rw [hput 1 (by decide)];exact r1.ref_kept fun g hg=>hK5 1001 (by decide) g hg
    .rw [hput 2 (by decide)];exact r2.ref_kept fun g hg=>hK5 1002 (by decide) g hg
    .rw [hput 3 (by decide)];exact r3.ref_kept fun g hg=>hK5 1003 (by decide) g hg
    .rw [hput 6 (by decide)];exact r6.p_any hC5.le
    .show zp γ5 M5 _ ((a4.tmps.setIfInBounds 31 _).getD 31 undef)
     rw[zuM (by omega),if_pos rfl];exact .p _ _ (.bool _)
   obtain⟨rec5,hrec5⟩:∃ x,yq fn tm D (if jump.isNone then .ready else .done) jump=x:=⟨_,rfl⟩
   rw[hrec5]at hH5 hC5
   refine zte (C:=zcS W' M5 γ5 (oI body5 g5 (i:Int) (b:Int) s rec5) zbe 34 none []) (nt:=34) (l:=[4]) (l2:=[]) zay zvx (zRV l s body5 i b nx g5 jump.isNone rec5) trivial ⟨γ5,M5,hH5.lend hsl5 hdf4 (by show(a4.tmps.setIfInBounds 31 _).size=34;simp;exact hnt4)⟩ (fun a6 w6 hs6=>?_)
   obtain⟨γ6,M6,hs6⟩:=hs6
   obtain⟨hH6,hC6,hK6,hsl6,hdf6,hnt6⟩:=zbb.back hs6
   have hG6:zb0 GI Tryz.prog (zcS w6 M6 γ6 (oI body5 g5 (i:Int) (b:Int) s rec5) zbe 34 none []):=⟨rfl,zvx,zEr,zay,Checked.mixed Tryz.checked⟩
   have hst6:St (zcS w6 M6 γ6 (oI body5 g5 (i:Int) (b:Int) s rec5) zbe 34 none []) (mkS [(0,.clo (.yield l) [] []),(1,.ref 1001 0),(2,.ref 1002 0),(3,.ref 1003 0),(6,.p (.int .i64 (nx:Int))),(32,.p (.bool (!jump.isNone)))] (oI body5 g5 (i:Int) (b:Int) s rec5)) a6 w6:=⟨γ6,M6,hH6.lend hsl6 hdf6 hnt6⟩
   have hv:=zR9 l s body5 i b g5 nx (!jump.isNone) rec5
   cases jump with
   | none=>
    subst hrec5
    refine zK2 hG6 zay hv hst6 fun e a8 w8 ht8 hs8=>?_
    have:=zcT ht8
    subst this
    obtain⟨γ8,M8,hs8⟩:=hs8
    obtain⟨hH8,hC8,hK8,hsl8,hdf8,hnt8⟩:=zbb.back hs8
    refine⟨b-nx,by omega,nx,body5,g5,γ8,M8,⟨hH8,((hCC4.trans hC5).trans hC6).trans hC8,((hKK4.trans hK5).trans hK6).trans hK8,?_,hn2,hg5,hx5,hsl8,hdf8,hnt8⟩,rfl⟩
    rw[zsZ hj,hb5,hg5']at hres;exact hres
   | some c=>
    obtain⟨hgs,hce⟩:=zF2 (i:=i) (r:=yp s nx b) hj
    rw[hgs,hb5,hg5']at hres
    refine zK2 hG6 zay hv hst6 fun e a8 w8 ht8 hs8=>?_
    have:=zER ht8
    subst this
    obtain⟨γ8,M8,hs8⟩:=hs8
    obtain⟨hH8,hC8,hK8,hsl8,hdf8,hnt8⟩:=zbb.back hs8
    obtain⟨v,hv'⟩:=zQA hs8
    subst hrec5
    subst hres
    exact⟨hdf8,v,hv',⟨v,rfl⟩,γ8,M8,(i:Int),.done,some c,hH8,((hCC4.trans hC5).trans hC6).trans hC8,((hKK4.trans hK5).trans hK6).trans hK8,.inr ⟨rfl,by rw[hce]⟩,Nat.le_trans hg5 hn2,fun x hx=>Nat.le_trans (hx5 x hx) hn2⟩
  .refine zK1 hG zay (zR8 hi) hst (fun a3 w3 h _=>by cases h) (fun e a' w' hne ht hs'=>?_)
   have:=zot (i:=0) ht
   subst this
   obtain⟨γ8,M8,hs8⟩:=hs'
   obtain⟨hH8,hC8,hK8,hsl8,hdf8,hnt8⟩:=zbb.back hs8
   obtain⟨v,hv'⟩:=zQA hs8
   have hres:=hI.res
   rw[ziI (by omega)]at hres
   have hfin2:fin=(g,body):=hres.symm
   subst hfin2
   have key:bodyPost Tryz.prog Tryz.f97 (fun e W2=>(∃ v,e=.returned v)/\zQS γ1 M1 W1 (oI (b:Int) [] (a:Int) (b:Int) s (yq fn tm D .ready none)) s b fn tm D (g,body) W2) .normal a' w':=
    ⟨hdf8,v,hv',⟨v,rfl⟩,γ8,M8,(i:Int),.ready,none,hH8,hI.chg.trans hC8,hI.kept.trans hK8,.inl ⟨rfl,rfl⟩,Nat.le_trans hI.gl hI.ib,fun x hx=>Nat.le_trans (hI.gx x hx) hI.ib⟩
   exact⟨key,key⟩
 .exact yO (by rw[z0];exact zDZ) (yO (by rw[z1];exact hp) (yO (by rw[z2];exact hq) (yO (by rw[z3];exact hr) zo4)))
 .exact z4
theorem yF{α:Type}{l:List α}{i:Nat}{c:α}{r:List α}(h:l.drop i=c::r)(d:α):l.getD i d=c/\l.drop (i+1)=r/\i<l.length:=by
 have hi:i<l.length:=by
  refine Nat.lt_of_not_le fun q=>?_
  rw[List.drop_of_length_le q]at h;cases h
 rw[List.drop_eq_getElem_cons hi]at h
 injection h with h1 h2
 refine⟨?_,h2,hi⟩
 rw[List.getD_eq_getElem?_getD,List.getElem?_eq_getElem hi];exact h1
theorem zJw{P:Program}{rs:List ResultVar}{e:Exit}{st:S}{x:AV}{o:List (Nat×AObj)}(h:kP P rs e st=some (x,o)):(e=.normal\/e=.ret)/\zbj P st rs=some x/\o=[]:=by
 cases e <;> first
  | cases h
  | (simp only [kP] at h
     split at h
     .rename_i y hy;cases h;exact⟨by simp,hy,rfl⟩
     .cases h)
theorem zjC(c:List UInt8)(r:List (List UInt8)):zaf (c::r)=(if(zbS c).2=true then[(zbS c).1] else[])++zaf r:=by
 unfold zaf
 rw[List.filterMap_cons]
 split
 .rename_i h
  split at h
  .cases h
  .rename_i h2;rw[if_neg h2];rfl
 .rename_i x h
  split at h
  .rename_i h2;rw[if_pos h2];cases h;rfl
  .cases h
theorem zE8(F:Nat)(g:List (List UInt8))(body:Int)(hg:g.length<=1000000)(hx:∀ x ∈ g,x≠[]/\x.length<=1000000):∀ (r:List (List UInt8)) (f i:Nat) (acc:List (List UInt8×List UInt8)),g.drop i=r->r.length<f->i<=g.length->acc.length<=i->
 zks F f (g.length:Int) (i:Int) acc body g=some (.tup [.p (.list 2 (.dat (.pair .str .str) (acc++zaf r))),.p (.int .i64 body)],[]):=by
 intro r
 induction r with
 | nil=>
  intro f i acc hd hf hi ha
  have:i=g.length:=by have:=congrArg List.length hd;simp at this;omega
  cases f with
  | zero=>omega
  | succ f=>
   rw[zqU]
   refine zg (by simp;omega) ?_
   rw[show zaf []=[] from rfl,List.append_nil]
 | cons c r ih=>
  intro f i acc hd hf hi ha
  obtain⟨h1,h2,h3⟩:=yF hd []
  have hc:=hx c (by rw[<-h1];exact yi h3 [])
  have hcl:=List.length_pos_iff.2 hc.1
  cases f with
  | zero=>omega
  | succ f=>
   have nxt:∀ acc',acc'.length<=i+1->zkr F f (g.length:Int) (i:Int) acc' body g=some (.tup [.p (.list 2 (.dat (.pair .str .str) (acc'++zaf r))),.p (.int .i64 body)],[]):=by
    intro acc' ha'
    rw[zCV]
    refine zd (by unfold zh;omega) ?_
    rw[show(i:Int)+1=((i+1:Nat):Int) by omega]
    exact ih f (i+1) acc' h2 (by simp at hf;omega) (by omega) ha'
   rw[zqU]
   rw[Int.toNat_natCast,h1]
   refine zi (by simp;omega) (zd ⟨by omega,by omega⟩ (zd h3 (zd (fun _=>⟨by omega,by omega⟩) (zd (fun _=>⟨by omega,by omega⟩) ?_))))
   rw[zfl hc.1,zCW,zjC]
   cases hb:((i:Int)==0&&zaK c)with
   | true=>
    rw[Bool.and_eq_true]at hb
    rw[if_neg (by rw[zpm hb.2];simp),List.nil_append]
    exact zi rfl (nxt acc (by omega))
   | false=>
    refine zg rfl (zd hc.2 ?_)
    cases ho:(zbS c).2 with
    | true=>
     refine zi rfl (zd (by simp;omega) ?_)
     rw[if_pos rfl,<-List.append_assoc]
     exact nxt _ (by simp;omega)
    | false=>
     rw[if_neg (by simp),List.nil_append]
     exact zg rfl (nxt acc (by omega))
theorem zuO:∀ (L:List (Nat×List UInt8×Nat)) (body:Int) (g:List (List UInt8)),(∀ x ∈ g,x≠[])->∀ x ∈ (yA L body g).1,x≠[]
 | [],body,g,h=>by rw[yA];exact h
 | (i,t,nx)::r,body,g,h=>by
  rw[yA]
  split
  .exact h
  .rename_i h0
   split
   .refine zuO r body _ fun x hx=>?_
    rcases List.mem_or_eq_of_mem_set hx with hx|hx
    .exact h x hx
    .rw [hx];intro q;exact h0 (List.append_eq_nil_iff.1 q).2
   .refine zuO r body _ fun x hx=>?_
    rcases List.mem_append.1 hx with hx|hx
    .exact h x hx
    .rw [List.mem_singleton.1 hx];exact h0
def gR(γ:Nat->Option G):Nat->Option G:=fun k=>match Nat.beq k 7||(Nat.beq k 8||Nat.beq k 81)with|true=>γ k|false=>none
theorem zR1{body:Int}{g:List (List UInt8)}{i:Nat}(h:zm i (oR body g)≠none):i=7\/i=8\/i=81:=by
 by_cases h7:i=7
 .exact .inl h7
 .by_cases h8:i=8
  .exact .inr (.inl h8)
  .by_cases h9:i=81
   .exact .inr (.inr h9)
   .exfalso;apply h
    have e7:Nat.beq i 7=false:=by cases hb:Nat.beq i 7 with|false=>rfl|true=>exact absurd (Nat.eq_of_beq_eq_true hb) h7
    have e8:Nat.beq i 8=false:=by cases hb:Nat.beq i 8 with|false=>rfl|true=>exact absurd (Nat.eq_of_beq_eq_true hb) h8
    have e9:Nat.beq i 81=false:=by cases hb:Nat.beq i 81 with|false=>rfl|true=>exact absurd (Nat.eq_of_beq_eq_true hb) h9
    simp only[oR,zm,e7,e8,e9]
theorem zOT{γ:Nat->Option G}{i:Nat}(h:¬ (i=7\/i=8\/i=81)):gR γ i=none:=by
 unfold gR
 have e7:Nat.beq i 7=false:=by cases hb:Nat.beq i 7 with|false=>rfl|true=>exact absurd (.inl (Nat.eq_of_beq_eq_true hb)) h
 have e8:Nat.beq i 8=false:=by cases hb:Nat.beq i 8 with|false=>rfl|true=>exact absurd (.inr (.inl (Nat.eq_of_beq_eq_true hb))) h
 have e9:Nat.beq i 81=false:=by cases hb:Nat.beq i 81 with|false=>rfl|true=>exact absurd (.inr (.inr (Nat.eq_of_beq_eq_true hb))) h
 rw[e7,e8,e9];rfl
section
variable {γ:Nat->Option G}{M:Mem}{w:World}{body i b:Int}{g:List (List UInt8)}{s:List UInt8}{rec:Loop}
theorem upR{k:Nat}(h:zm k (oR body g)≠none):zm k (oI body g i b s rec)≠none/\gR γ k=γ k:=by
 rcases zR1 h with rfl|rfl|rfl
 .exact ⟨(by intro q;cases q),rfl⟩
 .exact ⟨(by intro q;cases q),rfl⟩
 .exact ⟨(by intro q;cases q),rfl⟩
theorem zIu(h:zbb γ M w (oI body g i b s rec)):zbb (gR γ) M w (oR body g):=by
 refine⟨fun id x hx=>?_,fun id hu=>?_,fun k k' x x' c h1 h2 h3 h4 h5 h6=>?_,fun k x c h1 h2 h3=>?_,⟨h.mem.toWOk,fun c ⟨k,x,h1,h2,h3⟩=>?_⟩⟩
 .rcases zR1 (body:=body) (g:=g) (i:=id) (by rw[hx];simp)with rfl|rfl|rfl
  .cases hx
   obtain⟨c,vs,e,h1,h2,h3,h4,h5⟩:=h.ob 7 _ rfl
   refine⟨c,vs,e,h1,h2,h3,fun j hj=>?_,h5⟩
   have hj0:j=0:=by simp at hj;omega
   subst hj0
   exact⟨(h4 0 hj).1.p_any (MLe.refl M),(h4 0 hj).2⟩
  .cases hx
   obtain⟨c,vs,e,h1,h2,h3,h4,h5⟩:=h.ob 8 _ rfl
   refine⟨c,vs,e,h1,h2,h3,fun j hj=>?_,h5⟩
   have hj0:j=0:=by simp at hj;omega
   subst hj0
   refine⟨?_,(h4 0 hj).2⟩
   obtain⟨ad,k,n,cap,hg,he⟩:=(show zp γ M (.arr 81) (vs.getD 0 undef) from(h4 0 hj).1).arr_inv
   show zp (gR γ) M (.arr 81) (vs.getD 0 undef)
   rw[he];exact .arr _ _ _ _ _ hg
  .cases hx
   exact h.ob 81 _ rfl
 .refine zOT fun q=>?_
  rcases q with rfl|rfl|rfl <;> cases hu
 .obtain ⟨a1,a2⟩:=upR (γ:=γ) (i:=i) (b:=b) (s:=s) (rec:=rec) h1
  obtain⟨b1,b2⟩:=upR (γ:=γ) (i:=i) (b:=b) (s:=s) (rec:=rec) h2
  exact h.sep k k' x x' c a1 b1 (a2 ▸ h3) (b2 ▸ h4) h5 h6
 .obtain ⟨a1,a2⟩:=upR (γ:=γ) (i:=i) (b:=b) (s:=s) (rec:=rec) h1
  exact h.lt k x c a1 (a2 ▸ h2) h3
 .obtain ⟨a1,a2⟩:=upR (γ:=γ) (i:=i) (b:=b) (s:=s) (rec:=rec) h1
  exact h.mem.hand c ⟨k,x,a1,a2 ▸ h2,h3⟩
end
theorem zNS{γ:Nat->Option G}{M:Mem}{w:World}{a:Act}{body i b:Int}{g:List (List UInt8)}{s:List UInt8}{rec:Loop}{D:Nat}{R:Ending->World->Prop}
 (hH:zbb γ M w (oI body g i b s rec)) (hD:γ 1004=some (.cell D)) (h6:zp γ M (.p .nil) (a.tmps.getD 6 undef)) (h7:zp γ M (.ref 7 0) (a.tmps.getD 7 undef)) (h8:zp γ M (.ref 8 0) (a.tmps.getD 8 undef))
 (hdf:a.defers=[ziH D]) (hnt:a.tmps.size=98) (hg:g.length<=1000000) (hx:∀ x ∈ g,x≠[]/\x.length<=1000000)
 (hR:∀ (v:Value) (M2:Mem) (w3:World),MOk M2 w3->MLe M M2->w.heap.size<=w3.heap.size->w3.os=w.os->w3.tape=w.tape->w3.output=w.output->
  (∀ c,c<w.heap.size->¬ Go.Am.Handed (gR γ) (oR body g) c->c≠D->w3.heap[c]?=w.heap[c]?/\M2 c=M c)->zp γ0 M2 (.tup [.p (.list 2 (.dat (.pair .str .str) (zaf g))),.p (.int .i64 body)]) v->R (.returned v) w3):
 (at_ cS [1,1,1,1,1]).wpIn (FW none) 0 Tryz.prog (bodyPostM (FW none) 0 Tryz.prog Tryz.f34 R) a w:=by
 have hHR:=zIu hH
 have hG:zb0 GT Tryz.prog (zcS w M (gR γ) (oR body g) [] 98 none [ziH D]):=⟨rfl,zSW,zP3,zay,Checked.mixed Tryz.checked⟩
 have hnD:¬ Go.Am.Handed (gR γ) (oR body g) D:=by
  rintro⟨id,x,h1,h2,h3⟩
  obtain⟨a1,a2⟩:=upR (γ:=γ) (i:=i) (b:=b) (s:=s) (rec:=rec) h1
  have:=hH.sep id 1004 x _ D a1 (by intro q;cases q) (a2 ▸ h2) hD h3 rfl
  rcases zR1 h1 with e|e|e <;> omega
 obtain⟨hD0,hDlt⟩:=hH.raw_at (id:=1004) (x:=.deferred (some [])) rfl hD
 refine ztP hG 1000002 [1,1,1,1,1] ((zNT 1000002 body g).trans (zE8 1000002 g body hg hx g 1000002 0 [] rfl (by omega) (by omega) (by simp)))
  ⟨gR γ,M,hHR.lend (yO (h6.p_any (MLe.refl M)) (yO (h7.ref_kept fun x h=>h) (yO (h8.ref_kept fun x h=>h) zo4))) hdf hnt⟩ fun e s' a' w' hk hs'=>?_
 obtain⟨he,hres,_⟩:=zJw hk
 obtain⟨γ2,M2,h2⟩:=hs'
 have hfr:∀ c,c<w.heap.size->¬ Go.Am.Handed (gR γ) (oR body g) c->w'.heap[c]?=w.heap[c]?/\M2 c=M c:=fun c h h'=>⟨h2.fr.block c h h',h2.new c h h'⟩
 have hDw:w'.heap[D]?=some (.deferred (some [])):=(hfr D hDlt hnD).1.trans hD0
 have hMD:∀ q,M2 D q=none:=fun q=>h2.mem.dfr hDw
 have h4:StG { w0:=w'.putObj D (.deferred none),M0:=M2,own:=fun c=>c≠D/\¬ ztl c,nt:=98,g0:=γ0 } γ2 M2 s' { a' with defers:=[] } (w'.putObj D (.deferred none)):=by
  refine h2.reroot rfl rfl (fun id x c c1 c2 c3=>?_) (by simp) (h2.mem.put hMD) rfl rfl rfl (fun _ _ h=>by cases h) ⟨h2.fr.tabs.keep fun c _ hc=>World.putObj_heap_other fun e=>hH.mem.hand D ⟨1004,_,(by intro q;cases q),hD,rfl⟩ (e ▸ hc),fun c hc=>hc.2⟩
  have hne:c≠D:=by
   rintro rfl
   rcases(h2.lo id x _ c1 c2 c3).1 with q|q
   .exact absurd (show w.heap.size<=c from q) (by omega)
   .exact hnD q
  exact⟨⟨hne,h2.notab c1 c2 c3⟩,World.putObj_heap_other hne⟩
 obtain⟨v,hv,hr⟩:=zdG h4 Tryz.f34 hres
 have hsz:w.heap.size<=(w'.putObj D (.deferred none)).heap.size:=by have:w.heap.size<=w'.heap.size:=h2.fr.size;simpa using this
 have hlv:LeavesInM (FW none) 0 Tryz.prog Tryz.f34 a'.tmps R a'.defers .returning w':=by
  rw[show a'.defers=[ziH D] from h2.df]
  refine⟨by simp,.inl ⟨D,_,rfl,run_takeDeferred hDw,v,hv,hR v M2 _ h4.mem h2.le hsz h2.fr.os h2.fr.tape h2.fr.output (fun c c1 c2 c3=>?_) hr⟩⟩
  exact⟨(World.putObj_heap_other c3).trans (hfr c c1 c2).1,(hfr c c1 c2).2⟩
 rcases he with rfl|rfl
 .exact hlv
 .exact hlv
theorem zK0{C:Ctx}{P:Program}{st:S}{a:Act}{w:World}{x:Ans}{Gc:Cfg}(hG:zb0 Gc P C){c1 c2 c3 c4 c5 c6 c7:Code}{k:K}{Q:Exit->Act->World->Prop}
 (hv:zan Gc za5 [] c1 st (zbf Gc c2 (zbf Gc c3 (zbf Gc c4 (zbf Gc c5 k))))=some x) (hs:St C st a w)
 (hn:∀ st a w,k .normal st=some x->St C st a w->c6.wpIn (FW C.rd) 0 P (Exit.then (c7.wpIn (FW C.rd) 0 P Q) Q) a w)
 (he:∀ e st a w,e≠.normal->k e st=some x->St C st a w->Q e a w):
 (Code.seq c1 (.seq c2 (.seq c3 (.seq c4 (.seq (.seq c5 c6) c7))))).wpIn (FW C.rd) 0 P Q a w:=by
 refine wpIn_seq (yR hG hv hs fun e s1 a1 w1 hk1 hs1=>?_)
 cases e with
 | normal=>
  refine wpIn_seq (yR hG (s:=s1) hk1 hs1 fun e s2 a2 w2 hk2 hs2=>?_)
  cases e with
  | normal=>
   refine wpIn_seq (yR hG (s:=s2) hk2 hs2 fun e s3 a3 w3 hk3 hs3=>?_)
   cases e with
   | normal=>
    refine wpIn_seq (yR hG (s:=s3) hk3 hs3 fun e s4 a4 w4 hk4 hs4=>?_)
    cases e with
    | normal=>
     refine wpIn_seq (wpIn_seq (yR hG (s:=s4) hk4 hs4 fun e s5 a5 w5 hk5 hs5=>?_))
     cases e with
     | normal=>exact hn s5 a5 w5 hk5 hs5
     | exit i=>exact he (.exit i) s5 a5 w5 (by simp) hk5 hs5
     | ret=>exact he .ret s5 a5 w5 (by simp) hk5 hs5
     | goto i=>exact he (.goto i) s5 a5 w5 (by simp) hk5 hs5
     | panic i=>exact he (.panic i) s5 a5 w5 (by simp) hk5 hs5
     | outgrown=>exact he .outgrown s5 a5 w5 (by simp) hk5 hs5
    | exit i=>exact he (.exit i) s4 a4 w4 (by simp) hk4 hs4
    | ret=>exact he .ret s4 a4 w4 (by simp) hk4 hs4
    | goto i=>exact he (.goto i) s4 a4 w4 (by simp) hk4 hs4
    | panic i=>exact he (.panic i) s4 a4 w4 (by simp) hk4 hs4
    | outgrown=>exact he .outgrown s4 a4 w4 (by simp) hk4 hs4
   | exit i=>exact he (.exit i) s3 a3 w3 (by simp) hk3 hs3
   | ret=>exact he .ret s3 a3 w3 (by simp) hk3 hs3
   | goto i=>exact he (.goto i) s3 a3 w3 (by simp) hk3 hs3
   | panic i=>exact he (.panic i) s3 a3 w3 (by simp) hk3 hs3
   | outgrown=>exact he .outgrown s3 a3 w3 (by simp) hk3 hs3
  | exit i=>exact he (.exit i) s2 a2 w2 (by simp) hk2 hs2
  | ret=>exact he .ret s2 a2 w2 (by simp) hk2 hs2
  | goto i=>exact he (.goto i) s2 a2 w2 (by simp) hk2 hs2
  | panic i=>exact he (.panic i) s2 a2 w2 (by simp) hk2 hs2
  | outgrown=>exact he .outgrown s2 a2 w2 (by simp) hk2 hs2
 | exit i=>exact he (.exit i) s1 a1 w1 (by simp) hk1 hs1
 | ret=>exact he .ret s1 a1 w1 (by simp) hk1 hs1
 | goto i=>exact he (.goto i) s1 a1 w1 (by simp) hk1 hs1
 | panic i=>exact he (.panic i) s1 a1 w1 (by simp) hk1 hs1
 | outgrown=>exact he .outgrown s1 a1 w1 (by simp) hk1 hs1
theorem zTX:cS=.seq (at_ cS [0]) (.seq (at_ cS [1,0]) (.seq (at_ cS [1,1,0]) (.seq (at_ cS [1,1,1,0]) (.seq (.seq (at_ cS [1,1,1,1,0,0]) (.block 0 (.rangeFunc (.tmp 34) #[35,36] rfA rfB))) (at_ cS [1,1,1,1,1]))))):=by kernel_rfl
set_option maxHeartbeats 1000000 in
theorem zJW(s:List UInt8)(a b:Int)(hs:s.length<=1000000):FnP Tryz.prog 34 [.p (.str s),.p (.int .i64 a),.p (.int .i64 b)] (.tup [.p (.list 2 (.dat (.pair .str .str) (zU s a b).1)),.p (.int .i64 (zU s a b).2)]):=by
 intro M w vs hM hvs
 obtain⟨v0,v1,v2,rfl,r0,r1,r2⟩:∃ v0 v1 v2,vs=[v0,v1,v2]/\zp γ0 M (.p (.str s)) v0/\zp γ0 M (.p (.int .i64 a)) v1/\zp γ0 M (.p (.int .i64 b)) v2:=by
  cases hvs with
  | cons h0 t=>cases t with
   | cons h1 t=>cases t with
    | cons h2 t=>cases t with
     | nil=>exact⟨_,_,_,rfl,h0,h1,h2⟩
 refine zft (r:=none) (n:=0) |>.1 (callsIn_of_wp_marks (F:=FW none) (fn:=Tryz.f34) (c:=cS) (by kernel_rfl) (by kernel_rfl) trivial ?_ rfl)
 obtain⟨tm0,ht0⟩:∃ x,[v0,v1,v2].toArray++Array.replicate (Tryz.f34.ntmps-[v0,v1,v2].toArray.size) undef=x:=⟨_,rfl⟩
 have hnn:Tryz.f34.ntmps=98:=by kernel_rfl
 have z0:tm0.getD 0 undef=v0:=by rw[<-ht0];simp[Array.getD_eq_getD_getElem?]
 have z1:tm0.getD 1 undef=v1:=by rw[<-ht0];simp[Array.getD_eq_getD_getElem?]
 have z2:tm0.getD 2 undef=v2:=by rw[<-ht0];simp[Array.getD_eq_getD_getElem?]
 have z4:tm0.size=98:=by rw[<-ht0,hnn];simp
 rw[ht0]
 clear ht0 hnn
 rw[zTX]
 have hst:=zNB (nt:=98) (l:=[(0,.p (.str s)),(1,.p (.int .i64 a)),(2,.p (.int .i64 b))]) (tm:=tm0) hM (yO (by rw[z0];exact r0) (yO (by rw[z1];exact r1) (yO (by rw[z2];exact r2) zo4))) z4
 have hG:zb0 GS0 Tryz.prog { w0:=w,M0:=M,own:=fun _=>False,nt:=98,g0:=γ0 }:=⟨rfl,zP4,zLR,⟨rfl,fun _ _ h=>by cases h⟩,Checked.mixed Tryz.checked⟩
 by_cases hbad:a<0\/b>s.length\/a>b
 .have hv:=(zIF s a b).trans (zi (by simp only[Bool.or_eq_true,decide_eq_true_eq];omega) rfl)
  have hsp:zU s a b=([],a):=by unfold zU;rw[if_pos hbad]
  rw[hsp]
  refine zK0 hG hv ⟨γ0,M,hst⟩ (fun st' a' w' hk _=>?_) (fun e st' a' w' hne hk hs'=>?_)
  .have:=(zcB (C:={ w0:=w,M0:=M,own:=fun _=>False,nt:=98,g0:=γ0 }) (nt:=98) ⟨rfl,fun _ _ h=>by cases h⟩ hk).1
   cases this
  .cases e with
   | ret=>
    have hk2:kP Tryz.prog Tryz.f34.results.toList .ret st'=some (.tup [.p .nil,.p (.int .i64 a)],[]):=hk
    obtain⟨_,hres,_⟩:=zJw hk2
    obtain⟨γ1,M1,h1⟩:=hs'
    obtain⟨v,hv,hr⟩:=zdG h1 Tryz.f34 hres
    show LeavesInM (FW none) 0 Tryz.prog Tryz.f34 a'.tmps _ a'.defers .returning w'
    rw[show a'.defers=[] from h1.df]
    exact⟨v,hv,v,M1,rfl,h1.le,fun c hc=>h1.new c hc (fun h=>h),h1.mem,zp.tup_head (fun _ h=>zp.nil_list rfl h) hr,h1.fr.os,h1.fr.tape,h1.fr.output,h1.fr.size,fun c hc=>h1.fr.block c hc (fun h=>h)⟩
   | normal=>exact absurd rfl hne
   | exit i=>cases hk
   | goto i=>cases hk
   | panic i=>cases hk
   | outgrown=>cases hk
 .have hv:=(zIF s a b).trans (zg (by simp only[Bool.or_eq_false_iff,decide_eq_false_iff_not];omega) rfl)
  obtain⟨na,rfl⟩:∃ n:Nat,a=n:=⟨a.toNat,by omega⟩
  obtain⟨nb,rfl⟩:∃ n:Nat,b=n:=⟨b.toNat,by omega⟩
  have hsp:zU s (na:Int) (nb:Int)=(zaf (yA (yp s na nb) (nb:Int) []).1,(yA (yp s na nb) (nb:Int) []).2):=by unfold zU;rw[if_neg hbad,Int.toNat_natCast,Int.toNat_natCast]
  rw[hsp]
  obtain⟨fin,hfin⟩:∃ fin,yA (yp s na nb) (nb:Int) []=fin:=⟨_,rfl⟩
  have hne:=zuO (yp s na nb) (nb:Int) [] (by simp)
  rw[hfin]at hne ⊢
  refine zK0 hG hv ⟨γ0,M,hst⟩ (fun st' a5 w5 hk hs'=>?_) (fun e st' a' w' hne hk hs'=>?_)
  .obtain ⟨_,hsub⟩:=zcB (C:={ w0:=w,M0:=M,own:=fun _=>False,nt:=98,g0:=γ0 }) (nt:=98) ⟨rfl,fun _ _ h=>by cases h⟩ hk
   obtain⟨γ5,M5,h5⟩:=hsub _ _ hs'
   have hH5:=zbb.of_st h5
   have r6:zp γ5 M5 (.p .nil) (a5.tmps.getD 6 undef):=h5.sl 6
   have r7:zp γ5 M5 (.ref 7 0) (a5.tmps.getD 7 undef):=h5.sl 7
   have r8:zp γ5 M5 (.ref 8 0) (a5.tmps.getD 8 undef):=h5.sl 8
   obtain⟨p,q,r,hcl,rp,rq,rr⟩:=zp.clo3 (fn:=.func 97) (x:=.ref 1001 0) (y:=.ref 1002 0) (z:=.ref 1003 0) (h5.sl 34)
   refine wpIn_block (zi4 (gf:=97) (lb:=#[p,q,r]) hcl (by kernel_rfl) ?_)
   intro fn mkR hmk
   obtain⟨hHa,hCa⟩:=hH5.addraw (id:=1004) rfl (.deferred (some []))
   obtain⟨hHb,hCb⟩:=hHa.addraw (id:=1005) rfl (.loop (yq fn a5.tmps w5.heap.size .ready none))
   have esz:(w5.alloc (.deferred (some []))).heap.size=w5.heap.size+1:=by simp
   rw[esz]at hHb hCb
   obtain⟨γb,hγb⟩:∃ x,upd (upd γ5 1004 (some (.cell w5.heap.size))) 1005 (some (.cell (w5.heap.size+1)))=x:=⟨_,rfl⟩
   have hb5:γb 1005=some (.cell (w5.heap.size+1)):=by rw[<-hγb];exact zw _ _ _
   have hb4:γb 1004=some (.cell w5.heap.size):=by rw[<-hγb];exact(zC _ _ (by decide)).trans (zw _ _ _)
   have hup:∀ k,k≠1004->k≠1005->∀ x,γ5 k=some x->γb k=some x:=by
    intro k k1 k2 x hx
    rw[<-hγb];exact(zC _ _ k2).trans ((zC _ _ k1).trans hx)
   rw[hγb]at hHb hCb
   have hmkr:∀ st pe,mkR st pe=yq fn a5.tmps w5.heap.size st pe:=fun st pe=>by rw[hmk];rfl
   rw[hmkr .ready none]
   have hit:=zOI (s:=s) (a:=na) (b:=nb) (fn:=fn) (tm:=a5.tmps) (D:=w5.heap.size) (l:=w5.heap.size+1) (p:=p) (q:=q) (r:=r) hHb hb5 (r7.ref_kept (hup 7 (by decide) (by decide))) (r8.ref_kept (hup 8 (by decide) (by decide)))
    (rp.ref_kept (hup 1001 (by decide) (by decide))) (rq.ref_kept (hup 1002 (by decide) (by decide))) (rr.ref_kept (hup 1003 (by decide) (by decide))) h5.nt (by omega) (by omega) hs
   rw[hfin]at hit
   refine hit.mono ?_
   rintro e W2 ⟨hv2,γ',M',i,st,pe,hH,hC,hK,hcase,hgl,hgx⟩
   refine⟨hv2,?_⟩
   have hl2:=hK 1005 (by decide) _ hb5
   have hd2:=hK 1004 (by decide) _ hb4
   obtain⟨hHx,hCx⟩:=zAB (yq fn a5.tmps w5.heap.size .exhausted pe) hH hl2
   have hCC:=((hCa.trans hCb).trans hC).trans hCx
   have hout:∀ c,c<w.heap.size->¬ Go.Am.Handed γ5 (oI (nb:Int) [] (na:Int) (nb:Int) s (yq fn a5.tmps w5.heap.size .ready none)).tail.tail c:=by
    rintro c hc ⟨id,x,c1,c2,c3⟩
    rcases(h5.lo id x c c1 c2 c3).1 with q|q
    .exact absurd (show w.heap.size<=c from q) (by omega)
    .exact q
   have hsz5:w.heap.size<=w5.heap.size:=h5.fr.size
   have hrest:∀ st0:LoopState,(at_ cS [1,1,1,1,1]).wpIn (FW none) 0 Tryz.prog (bodyPostM (FW none) 0 Tryz.prog Tryz.f34 fun e w'=>∃ v M',e=.returned v/\MLe M M'/\(∀ c,c<w.heap.size->M' c=M c)/\MOk M' w'/\
    zp γ0 M' (.tup [.p (.list 2 (.dat (.pair .str .str) (zaf fin.1))),.p (.int .i64 fin.2)]) v/\RowKit.Below w.heap.size w w') { a5 with defers:=ziH w5.heap.size::a5.defers } (W2.putObj (w5.heap.size+1) (.loop (yq fn a5.tmps w5.heap.size .exhausted pe))):=by
    intro _
    refine zNS hHx hd2 (r6.p_any hCC.le) (r7.ref_kept fun x hx=>hK 7 (by decide) x (hup 7 (by decide) (by decide) x hx)) (r8.ref_kept fun x hx=>hK 8 (by decide) x (hup 8 (by decide) (by decide) x hx)) (by show _::a5.defers=_;rw[show a5.defers=[] from h5.df]) h5.nt (by omega) (fun x hx=>⟨hne x hx,by have:=hgx x hx;omega⟩) ?_
    intro v M2 w3 k1 k2 k3 k4 k5 k6 k7 k8
    have hcc:∀ c,c<w.heap.size->w3.heap[c]?=w.heap[c]?/\M2 c=M c:=by
     intro c hc
     have g1:=hCC.old c (by omega) (hout c hc)
     have g2:=k7 c (Nat.lt_of_lt_of_le (by omega) hCC.size) ?_ (by omega)
     .exact ⟨(g2.1.trans g1.1).trans (h5.fr.block c hc (fun h=>h)),(g2.2.trans g1.2).trans (h5.new c hc (fun h=>h))⟩
     .rintro ⟨id,x,c1,c2,c3⟩
      obtain⟨u1,u2⟩:=upR (γ:=γ') (i:=i) (b:=(nb:Int)) (s:=s) (rec:=yq fn a5.tmps w5.heap.size .exhausted pe) c1
      rcases hCC.new c ⟨id,x,u1,u2 ▸ c2,c3⟩ with q|q
      .omega
      .exact hout c hc q
    have hsz:w.heap.size<=w3.heap.size:=Nat.le_trans hsz5 (Nat.le_trans hCC.size k3)
    exact⟨v,M2,rfl,h5.le.trans (hCC.le.trans k2),fun c hc=>(hcc c hc).2,k1,k8,k4.trans (hCC.os.trans h5.fr.os),k5.trans (hCC.tape.trans h5.fr.tape),k6.trans (hCC.output.trans h5.fr.output),hsz,fun c hc=>(hcc c hc).1⟩
   simp only[hmkr]
   rcases hcase with⟨rfl,rfl⟩|⟨rfl,rfl⟩
   .exact .inl ⟨(hH.raw_at zdy hl2).1,hrest .ready⟩
   .refine .inr ⟨.exit 0,(hH.raw_at zdy hl2).1,wpIn_exit ?_⟩
    exact hrest .ready
  .cases e with
   | ret=>
    simp only[zR2,kP]at hk
    split at hk <;> cases hk
   | normal=>exact absurd rfl hne
   | exit i=>cases hk
   | goto i=>cases hk
   | panic i=>cases hk
   | outgrown=>cases hk
def zi8:List AV->Option (AV×Option Prop)
 | [.p (.str s),.p (.int .i64 a),.p (.int .i64 b)]=>some (.tup [.p (.list 2 (.dat (.pair .str .str) (zU s a b).1)),.p (.int .i64 (zU s a b).2)],some (s.length<=1000000))
 | _=>none
theorem zxb:zn Tryz.prog 34 zi8:=by
 intro zs r ok he hok
 unfold zi8 at he
 split at he
 .cases he;exact⟨by kernel_rfl,zJW _ _ _ hok⟩
 .cases he
end Go.Proofs.YtampckbjinodgaaGreatDoor
namespace Go.Proofs.YtampckbjinodgaaGreatDoor
open Go Go.Am
def yf:List (List UInt8×List UInt8)->List UInt8->List UInt8×Bool
 | [],_=>([],false)
 | x::r,n=>if zL x.1=zL n then(x.2,true) else yf r n
abbrev za8(l:List (List UInt8×List UInt8))(n:List UInt8):Prop:=n.length<=140737488355328/\(∀ x ∈ l,x.1.length<=140737488355328)/\l.length<=1000000000000
def zcR(s:List UInt8):(List UInt8×List UInt8)×Bool:=if(zbS s).2=true then((zbS s).1,true) else(([],[]),false)
def zBz:=mkG [(27,zcW)] [] 23 [] [([0,1,0,1],⟨[1,8,9,10],[]⟩)] []
def zkZ(F f1:Nat)(n:List UInt8)(l:List (List UInt8×List UInt8))(vi1 vi2:Int):=zH zBz Tryz.f45 F [] [1,0,1,0] f1 [(1,pS n),(8,pL 2 (.pair .str .str) l),(9,pI vi1),(10,pI vi2)] []
def zCj(F:Nat)(l:List (List UInt8×List UInt8))(n:List UInt8):=zF zBz Tryz.f45 F [pL 2 (.pair .str .str) l,pS n]
theorem znn(F f1 n l vi1 vi2):letI A:=l.getD vi2.toNat ([],[]);zkZ F (f1+1) n l vi1 vi2=cond (decide (vi2<vi1)) (ze (0<=vi2/\vi2<(l.length:Int)) (ze (A.1.length<=140737488355328) (ze (n.length<=140737488355328) (cond ((zL A.1)==(zL n)) (some (.tup [.p (.str A.2),.p (.bool true)],[])) (ze (zh (vi2+1)) (zkZ F f1 n l vi1 (vi2+1))))))) (some (.tup [.p (.str ([]:List UInt8)),.p (.bool false)],[])):=by kernel_rfl
theorem zHv(F l n):zCj F l n=zkZ F F n l (l.length:Int) 0:=by kernel_rfl
theorem zKk(F l n r):IsP 45 (zCj F l n) [.p (.list 2 (.dat (.pair .str .str) l)),.p (.str n)] r:=zG zBz rfl ⟨zfg.any,trivial⟩
theorem zzr(F:Nat)(l:List (List UInt8×List UInt8))(n:List UInt8)(hk:za8 l n):∀ (r:List (List UInt8×List UInt8)) (f i:Nat),l.drop i=r->r.length<f->i<=l.length->
 zkZ F f n l (l.length:Int) (i:Int)=some (.tup [.p (.str (yf r n).1),.p (.bool (yf r n).2)],[]):=by
 intro r
 induction r with
 | nil=>
  intro f i hd hf hi
  have:i=l.length:=by have:=congrArg List.length hd;simp at this;omega
  cases f with
  | zero=>omega
  | succ f=>rw[znn];exact zg (by simp;omega) rfl
 | cons c r ih=>
  intro f i hd hf hi
  obtain⟨h1,h2,h3⟩:=yF hd ([],[])
  cases f with
  | zero=>omega
  | succ f=>
   rw[znn,Int.toNat_natCast,h1]
   refine zi (by simp;omega) (zd ⟨by omega,by omega⟩ (zd (hk.2.1 c (by rw[<-h1];exact yi h3 _)) (zd hk.1 ?_)))
   rw[yf]
   by_cases he:zL c.1=zL n
   .rw [if_pos he];exact zi (by rw[he];exact beq_self_eq_true _) rfl
   .rw [if_neg he]
    refine zg (by simpa using he) (zd (by have:=hk.2.2;unfold zh;omega) ?_)
    rw[show(i:Int)+1=((i+1:Nat):Int) by omega]
    exact ih f (i+1) h2 (by simp at hf;omega) (by omega)
theorem zKB(l:List (List UInt8×List UInt8))(n:List UInt8)(hk:za8 l n):zCj (l.length+1) l n=some (.tup [.p (.str (yf l n).1),.p (.bool (yf l n).2)],[]):=by
 rw[zHv]
 exact zzr _ l n hk l (l.length+1) 0 rfl (by omega) (by omega)
def zf9:List AV->Option (AV×Option Prop)
 | [.p (.list 2 (.dat (.pair .str .str) l)),.p (.str n)]=>some (.tup [.p (.str ((yf l n).1)),.p (.bool ((yf l n).2))],some (za8 l n))
 | _=>none
theorem zpq:zn Tryz.prog 45 zf9:=by
 intro zs r ok he hok
 unfold zf9 at he
 split at he
 .cases he;exact⟨by kernel_rfl,zKk (_) _ _ _ fun hx=>zKB _ _ hok⟩
 .cases he
def zqj:=mkG [(25,zcq)] [] 27 [] [([0,1,0,1],⟨[0,1,6],[]⟩)] []
def zfK(F f1:Nat)(l:List (List UInt8×List UInt8))(n:List UInt8)(vi1:Int):=zH zqj Tryz.f122 F [] [1,0,1,0] f1 [(0,pL 2 (.pair .str .str) l),(1,pS n),(6,pI vi1)] []
def zqq(F:Nat)(l:List (List UInt8×List UInt8))(n:List UInt8):=zF zqj Tryz.f122 F [pL 2 (.pair .str .str) l,pS n]
theorem zih(F f1 l n vi1):letI A:=l.getD vi1.toNat ([],[]);letI B:=0<=vi1/\vi1<(l.length:Int);zfK F (f1+1) l n vi1=cond (decide (vi1<(l.length:Int))) (ze B (ze (A.1.length<=140737488355328) (ze (n.length<=140737488355328) (cond ((zL A.1)==(zL n)) (ze B (some (.tup [.p (.str A.2),.p (.bool true)],[]))) (ze (zh (vi1+1)) (zfK F f1 l n (vi1+1))))))) (some (.tup [.p (.str ([]:List UInt8)),.p (.bool false)],[])):=by kernel_rfl
theorem zyw(F l n):zqq F l n=zfK F F l n 0:=by kernel_rfl
theorem zAX(F l n r):IsP 122 (zqq F l n) [.p (.list 2 (.dat (.pair .str .str) l)),.p (.str n)] r:=zG zqj rfl ⟨zeG.any,trivial⟩
theorem zr4(F:Nat)(l:List (List UInt8×List UInt8))(n:List UInt8)(hk:za8 l n):∀ (r:List (List UInt8×List UInt8)) (f i:Nat),l.drop i=r->r.length<f->i<=l.length->
 zfK F f l n (i:Int)=some (.tup [.p (.str (yf r n).1),.p (.bool (yf r n).2)],[]):=by
 intro r
 induction r with
 | nil=>
  intro f i hd hf hi
  have:i=l.length:=by have:=congrArg List.length hd;simp at this;omega
  cases f with
  | zero=>omega
  | succ f=>rw[zih];exact zg (by simp;omega) rfl
 | cons c r ih=>
  intro f i hd hf hi
  obtain⟨h1,h2,h3⟩:=yF hd ([],[])
  cases f with
  | zero=>omega
  | succ f=>
   rw[zih,Int.toNat_natCast,h1]
   refine zi (by simp;omega) (zd ⟨by omega,by omega⟩ (zd (hk.2.1 c (by rw[<-h1];exact yi h3 _)) (zd hk.1 ?_)))
   rw[yf]
   by_cases he:zL c.1=zL n
   .rw [if_pos he];exact zi (by rw[he];exact beq_self_eq_true _) (zd ⟨by omega,by omega⟩ rfl)
   .rw [if_neg he]
    refine zg (by simpa using he) (zd (by have:=hk.2.2;unfold zh;omega) ?_)
    rw[show(i:Int)+1=((i+1:Nat):Int) by omega]
    exact ih f (i+1) h2 (by simp at hf;omega) (by omega)
theorem zAd(l:List (List UInt8×List UInt8))(n:List UInt8)(hk:za8 l n):zqq (l.length+1) l n=some (.tup [.p (.str (yf l n).1),.p (.bool (yf l n).2)],[]):=by
 rw[zyw]
 exact zr4 _ l n hk l (l.length+1) 0 rfl (by omega) (by omega)
def zfa:List AV->Option (AV×Option Prop)
 | [.p (.list 2 (.dat (.pair .str .str) l)),.p (.str n)]=>some (.tup [.p (.str ((yf l n).1)),.p (.bool ((yf l n).2))],some (za8 l n))
 | _=>none
theorem zpp:zn Tryz.prog 122 zfa:=by
 intro zs r ok he hok
 unfold zfa at he
 split at he
 .cases he;exact⟨by kernel_rfl,zAX (_) _ _ _ fun hx=>zAd _ _ hok⟩
 .cases he
theorem zDS(p:UInt8->Bool)(l:List UInt8)(c:UInt8):(l++[c]).dropWhile p=if l.dropWhile p=[] then[c].dropWhile p else l.dropWhile p++[c]:=by
 rw[List.dropWhile_append]
 cases h:l.dropWhile p with
 | nil=>simp
 | cons a b=>simp
theorem zgS(p:UInt8->Bool):∀ s:List UInt8,(((s.dropWhile p).reverse).dropWhile p).reverse=((s.reverse.dropWhile p).reverse).dropWhile p
 | []=>rfl
 | c::r=>by
  rw[List.reverse_cons,zDS]
  cases hc:p c with
  | true=>
   rw[List.dropWhile_cons,if_pos hc,zgS p r]
   split
   .rename_i h
    rw[h];simp[hc]
   .rw [List.reverse_append]
    simp[hc]
  | false=>
   rw[List.dropWhile_cons,if_neg (by rw[hc];simp),List.reverse_cons,zDS]
   split
   .simp [hc]
   .simp [hc]
theorem zpC(c:UInt8):zmB c=(c==32||c==9):=by
 unfold zmB
 rw[List.contains_cons,List.contains_cons]
 simp
def zho:=mkG [] [] 41 [] [([0,0,1],⟨[0],[]⟩),([1,0,0,0,0,1],⟨[0,14],[]⟩),([0,0,1,1],⟨[0],[]⟩),([1,0,0,0,0,1,1],⟨[0,34],[]⟩)] []
def zhG(F f1:Nat)(vs1:List UInt8):=zH zho Tryz.f120 F [] [1,0,0] f1 [(0,pS vs1)] []
def ztG(F f1:Nat)(vs1:List UInt8)(vc2:Bool):=zx zho Tryz.f120 F [f1] [1,0,0,0,0,1] [(0,pS vs1),(14,pB vc2)] []
def zhF(F f2:Nat)(vs3:List UInt8):=zH zho Tryz.f120 F [] [1,1,0,0] f2 [(0,pS vs3)] []
def ztF(F f2:Nat)(vs3:List UInt8)(vc4:Bool):=zx zho Tryz.f120 F [f2] [1,1,0,0,0,0,1] [(0,pS vs3),(34,pB vc4)] []
def zvM(F:Nat)(s:List UInt8):=zF zho Tryz.f120 F [pS s]
theorem zkF(F f1 vs1):letI B:=vs1 != ([]:List UInt8);letI C:=(0:Int);letI A:=((vs1.getD C.toNat 0).toNat:Int);letI D:=(vs1.length:Int);zhG F (f1+1) vs1=ze (B=true->0<=C/\C<D) (ze ((B&&(!(A==32)))=true->0<=C/\C<D) (ztG F f1 vs1 (B&&((A==32)||(A==9))))):=letI A:=vs1 != ([]:List UInt8);letI B:=((vs1.getD (0:Int).toNat 0).toNat:Int)==32;letI C:=A=true;letI D:=A&&(!B);Eq.trans (by kernel_rfl) (nI C (zf (nI C (nI C (nI (D=true) (zf (nI (D=true) (nI C (zl (show A=true->B=false->D=true from(fun q0 q1=>(zfx q0 (zen q1)))) (nI C rfl))))))))))
theorem zkE(F f1 vs1 vc2):letI A:=(1:Int);ztG F f1 vs1 vc2=cond vc2 (ze (0<=A/\A<=(vs1.length:Int)) (zhG F f1 (vs1.drop A.toNat))) (zhF F F vs1):=by kernel_rfl
theorem zkD(F f2 vs3):letI B:=vs3 != ([]:List UInt8);letI E:=(vs3.length:Int);letI A:=E-1;letI C:=((vs3.getD A.toNat 0).toNat:Int);letI D:=B&&(!(C==32));zhF F (f2+1) vs3=ze (B=true->zh A) (ze (B=true->0<=A/\A<E) (ze (D=true->zh A) (ze (D=true->0<=A/\A<E) (ztF F f2 vs3 (B&&((C==32)||(C==9))))))):=letI A:=(vs3 != ([]:List UInt8))&&(!(((vs3.getD ((vs3.length:Int)-1).toNat 0).toNat:Int)==32));letI B:=(vs3 != ([]:List UInt8))=true;letI C:=A=true;Eq.trans (by kernel_rfl) (nI B (nI B (zf (nI B (nI B (zf (nI B (nI B (nI C (nI C (zf (nI C (nI C (zf (nI C (nI B (zl (show(vs3 != ([]:List UInt8))=true->(((vs3.getD ((vs3.length:Int)-1).toNat 0).toNat:Int)==32)=false->A=true from(fun q0 q1=>(zfx q0 (zen q1)))) (nI B rfl))))))))))))))))))
theorem zkC(F f2 vs3 vc4):letI A:=(vs3.length:Int)-1;ztF F f2 vs3 vc4=cond vc4 (ze (zh A) (ze (0<=A/\A<=(vs3.length:Int)) (zhF F f2 (vs3.take A.toNat)))) (some (.p (.str vs3),[])):=by kernel_rfl
theorem zBZ(F s):zvM F s=zhG F F s:=by kernel_rfl
theorem zGi(F s r):IsP 120 (zvM F s) [.p (.str s)] r:=zG zho rfl trivial
theorem zfE(F:Nat):∀ (t:List UInt8) (f:Nat),t.length<=1000000->t.length<f->zhF F f t.reverse=some (.p (.str (t.dropWhile zmB).reverse),[])
 | [],f,_,hf=>by
  cases f with
  | zero=>omega
  | succ f=>rw[zkD];refine zd (fun h=>by cases h) (zd (fun h=>by cases h) (zd (fun h=>by cases h) (zd (fun h=>by cases h) ?_)));rw[zkC];rfl
 | c::r,f,ht,hf=>by
  cases f with
  | zero=>omega
  | succ f=>
   have hl:((c::r).reverse.length:Int)-1=(r.length:Int):=by simp
   have hg:(c::r).reverse.getD r.length 0=c:=by
    rw[List.reverse_cons,List.getD_eq_getElem?_getD,List.getElem?_append_right (by simp)];simp
   simp only[List.length_cons]at ht hf
   rw[zkD,hl,Int.toNat_natCast,hg]
   refine zd (fun _=>by unfold zh;omega) (zd (fun _=>⟨by omega,by simp;omega⟩) (zd (fun _=>by unfold zh;omega) (zd (fun _=>⟨by omega,by simp;omega⟩) ?_)))
   rw[zp7,zkC,List.dropWhile_cons,zpC]
   have hne:((c::r).reverse != [])=true:=by simp
   rw[hne,Bool.true_and]
   cases hc:(c==32||c==9)with
   | true=>
    rw[if_pos rfl]
    refine zi rfl (zd (by rw[hl];unfold zh;omega) (zd ⟨by omega,by simp;omega⟩ ?_))
    rw[hl,Int.toNat_natCast,List.reverse_cons,List.take_append_of_le_length (by simp),List.take_of_length_le (by simp)]
    exact zfE F r f (by omega) (by omega)
   | false=>rw[if_neg (by simp)];exact zg rfl rfl
theorem zic(F:Nat):∀ (s:List UInt8) (f:Nat),s.length<=1000000->s.length<f->s.length<F->zhG F f s=some (.p (.str (zbr s)),[])
 | [],f,_,hf,hF=>by
  cases f with
  | zero=>omega
  | succ f=>
   rw[zkF];refine zd (fun h=>by cases h) (zd (fun h=>by cases h) ?_);rw[zkE]
   exact zg rfl (zfE F [] F (by simp) hF)
 | c::r,f,hs,hf,hF=>by
  cases f with
  | zero=>omega
  | succ f=>
   rw[zkF,show(c::r).getD ((0:Int)).toNat 0=c from rfl]
   refine zd (fun _=>⟨by omega,by simp⟩) (zd (fun _=>⟨by omega,by simp⟩) ?_)
   rw[zp7,zkE]
   have hne:((c::r) != [])=true:=by simp
   rw[hne,Bool.true_and]
   simp only[List.length_cons]at hs hf hF
   cases hc:(c==32||c==9)with
   | true=>
    refine zi rfl (zd ⟨by omega,by simp;omega⟩ ?_)
    rw[show(c::r).drop ((1:Int)).toNat=r from rfl,zic F r f (by omega) (by omega) (by omega)]
    congr 3
    unfold zbr
    rw[<-zgS,<-zgS,List.dropWhile_cons,zpC,if_pos hc]
   | false=>
    refine zg rfl ?_
    have h0:=zfE F (c::r).reverse F (by simp;omega) (by simp;omega)
    rw[List.reverse_reverse]at h0
    rw[h0]
    congr 3
    unfold zbr
    rw[<-zgS,List.dropWhile_cons,zpC,if_neg (by rw[hc];simp)]
theorem zFg(s:List UInt8)(hs:s.length<=1000000):zvM (s.length+1) s=some (.p (.str (zbr s)),[]):=by
 rw[zBZ];exact zic _ s _ hs (by omega) (by omega)
def zln:List AV->Option (AV×Option Prop)
 | [.p (.str s)]=>some (.p (.str (zbr s)),some (s.length<=1000000))
 | _=>none
theorem zFz:zn Tryz.prog 120 zln:=by
 intro zs r ok he hok
 unfold zln at he
 split at he
 .cases he;exact⟨by kernel_rfl,zGi (_) _ _ fun hx=>zFg _ hok⟩
 .cases he
theorem zSF{c:UInt8}{p q:List UInt8}(hp:∀ x ∈ p,x≠c):yv (p++c::q) c=(p,q,true)/\Lib.indexByte (p++c::q) c=(p.length:Int):=by
 have hi:Lib.indexByte (p++c::q) c=(p.length:Int):=by
  induction p with
  | nil=>simp[Lib.indexByte]
  | cons b l ih=>
   rw[List.cons_append]
   unfold Lib.indexByte
   rw[if_neg (by simpa using hp b (by simp)),ih (fun x hx=>hp x (List.mem_cons_of_mem _ hx)),if_neg (by simp)]
   simp only[List.length_cons];omega
 refine⟨?_,hi⟩
 rw[yv,zpA,hi,if_pos (by omega)]
 have e1:((p.length:Int)+1).toNat=p.length+1:=by omega
 rw[Int.toNat_natCast,e1]
 simp
theorem zSE{c:UInt8}{s:List UInt8}(hp:∀ x ∈ s,x≠c):yv s c=(s,[],false)/\Lib.indexByte s c=-1:=by
 rcases zeK c s with⟨p,q,e,_,_⟩|⟨_,hi⟩
 .exact absurd rfl (hp c (by rw[e];simp))
 .exact ⟨by rw[yv,zpA,hi,if_neg (by decide)],hi⟩
def zn2:=mkG [(24,zeD),(120,zln)] [] 36 [] [([0,1,0,1,1,1],⟨[0,2,4,5],[⟨.slot 2,2,.cells []⟩]⟩),([1,0,0,1,0,0,1,0,1,1,1],⟨[0,2,4,5,25],[⟨.slot 2,2,.cells []⟩]⟩)] []
def zhH(F f1:Nat)(s:List UInt8)(vi1 vi2:Int)(vs3 vs4:List UInt8):=zH zn2 Tryz.f88 F [] [1,1,1,0,1,0] f1 [(0,pS s),(2,.ref 2 0),(4,pI vi1),(5,pI vi2)] [(2,.cells [pS vs3,pS vs4])]
def ztH(F f1:Nat)(s:List UInt8)(vi1 vi2:Int)(vc5:Bool)(vs3 vs4:List UInt8):=zx zn2 Tryz.f88 F [f1] [1,1,1,0,1,0,0,1,0,0,1] [(0,pS s),(2,.ref 2 0),(4,pI vi1),(5,pI vi2),(25,pB vc5)] [(2,.cells [pS vs3,pS vs4])]
def zvP(F:Nat)(s:List UInt8):=zF zn2 Tryz.f88 F [pS s]
theorem zkJ(F f1 s vi1 vi2 vs3 vs4):letI A:=((s.getD vi2.toNat 0).toNat:Int);letI B:=(s.length:Int);letI C:=vi1+1;letI D:=decide (A<33);letI E:=s.drop C.toNat;zhH F (f1+1) s vi1 vi2 vs3 vs4=cond (decide (vi2<vi1)) (ze (0<=vi2/\vi2<B) (ze ((!D)=true->0<=vi2/\vi2<B) (ztH F f1 s vi1 vi2 (D||(decide (A>126))) vs3 vs4))) (ze (0<=vi1/\vi1<=B) (ze (zh C) (ze (0<=C/\C<=B) (ze (E.length<=1000000) (some (.tup [.agg [.p (.str (s.take vi1.toNat)),.p (.str (zbr E))],.p (.bool true)],[])))))):=letI A:=decide (((s.getD vi2.toNat 0).toNat:Int)<33);letI B:=(!A)=true;Eq.trans (by kernel_rfl) (zj (zf (nI B (nI B (zf (nI B (nN A rfl)))))) rfl)
theorem zwq(F f1 s vi1 vi2 vc5 vs3 vs4):letI A:=([]:List UInt8);ztH F f1 s vi1 vi2 vc5 vs3 vs4=cond vc5 (some (.tup [.agg [.p (.str A),.p (.str A)],.p (.bool false)],[])) (ze (zh (vi2+1)) (zhH F f1 s vi1 (vi2+1) vs3 vs4)):=by kernel_rfl
theorem zB3(F s):letI A:=([]:List UInt8);letI B:=([58]:List UInt8);zvP F s=ze (zhf s B 0) (cond (decide ((zbt s B 0)<=0)) (some (.tup [.agg [.p (.str A),.p (.str A)],.p (.bool false)],[])) (zhH F F s (zbt s B 0) 0 A A)):=by kernel_rfl
theorem zGk(F s r):IsP 88 (zvP F s) [.p (.str s)] r:=zG zn2 rfl ⟨zjq.any,zFz.any,trivial⟩
theorem zOE(c:UInt8):((decide ((c.toNat:Int)<(33:Int)))||(decide ((c.toNat:Int)>(126:Int))))=!(zdz c):=by
 unfold zdz
 rw[Bool.not_and,<-decide_not,<-decide_not,show decide ((c.toNat:Int)<(33:Int))=decide (¬ 33<=c.toNat) from decide_eq_decide.2 (by omega),show decide ((c.toNat:Int)>(126:Int))=decide (¬ c.toNat<=126) from decide_eq_decide.2 (by omega)]
theorem zwp(F:Nat)(p q:List UInt8)(hs:(p++58::q).length<=1000000):∀ (r:List UInt8) (f i:Nat),p.drop i=r->r.length<f->i<=p.length->
 zhH F f (p++58::q) (p.length:Int) (i:Int) [] []=(if r.all zdz=true then some (.tup [.agg [.p (.str p),.p (.str (zbr q))],.p (.bool true)],[]) else some (.tup [.agg [.p (.str []),.p (.str [])],.p (.bool false)],[])):=by
 have hl:(p++58::q).length=p.length+1+q.length:=by simp;omega
 intro r
 induction r with
 | nil=>
  intro f i hd hf hi
  have:i=p.length:=by have:=congrArg List.length hd;simp at this;omega
  cases f with
  | zero=>omega
  | succ f=>
   rw[zkJ]
   refine zg (by simp;omega) (zd (by omega) (zd (by unfold zh;omega) (zd (by omega) (zd (by simp;omega) ?_))))
   rw[Int.toNat_natCast,show((p.length:Int)+1).toNat=p.length+1 by omega,if_pos (show([]:List UInt8).all zdz=true from rfl)]
   simp
 | cons c r ih=>
  intro f i hd hf hi
  obtain⟨h1,h2,h3⟩:=yg hd
  have hi2:i<p.length:=by omega
  have hgd:(p++58::q).getD i 0=c:=by
   rw[<-h1,List.getD_eq_getElem?_getD,List.getD_eq_getElem?_getD,List.getElem?_append_left hi2]
  cases f with
  | zero=>omega
  | succ f=>
   rw[zkJ,Int.toNat_natCast,hgd,zOE]
   refine zi (by simp;omega) (zd ⟨by omega,by omega⟩ (zd (fun _=>⟨by omega,by omega⟩) ?_))
   rw[zwq,List.all_cons]
   cases hc:zdz c with
   | false=>rw[Bool.false_and,if_neg (by simp)];exact zi rfl rfl
   | true=>
    rw[Bool.true_and]
    refine zg rfl (zd (by unfold zh;omega) ?_)
    rw[show(i:Int)+1=((i+1:Nat):Int) by omega]
    exact ih f (i+1) h2 (by simp at hf;omega) (by omega)
theorem zFi(s:List UInt8)(hs:s.length<=1000000):zvP (s.length+1) s=some (.tup [.agg [.p (.str (zcR s).1.1),.p (.str (zcR s).1.2)],.p (.bool (zcR s).2)],[]):=by
 rw[zB3,zpD]
 refine zd ⟨by omega,by omega,by simp;omega⟩ ?_
 rcases zeK 58 s with⟨p,q,e,hp,hi⟩|⟨hn,hi⟩
 .obtain ⟨hc,_⟩:=zSF (q:=q) hp
  subst e
  rw[hi]
  unfold zcR zbS
  rw[hc]
  dsimp only
  rw[Bool.true_and]
  cases p with
  | nil=>rw[if_neg (by simp)];exact zi (by simp) rfl
  | cons c p=>
   refine zg (by simp) ?_
   have:=zwp ((c::p++58::q).length+1) (c::p) q hs (c::p) ((c::p++58::q).length+1) 0 rfl (by simp;omega) (by omega)
   refine this.trans ?_
   cases hb:(c::p).all zdz with
   | true=>rw[if_pos rfl,if_pos (by simp)]
   | false=>rw[if_neg (by simp),if_neg (by simp)]
 .rw [hi]
  refine zi (by decide) ?_
  unfold zcR zbS
  rw[(zSE hn).1]
  rfl
def zlp:List AV->Option (AV×Option Prop)
 | [.p (.str s)]=>some (.tup [.agg [.p (.str ((zcR s).1.1)),.p (.str ((zcR s).1.2))],.p (.bool ((zcR s).2))],some (s.length<=1000000))
 | _=>none
theorem zFB:zn Tryz.prog 88 zlp:=by
 intro zs r ok he hok
 unfold zlp at he
 split at he
 .cases he;exact⟨by kernel_rfl,zGk (_) _ _ fun hx=>zFi _ hok⟩
 .cases he
end Go.Proofs.YtampckbjinodgaaGreatDoor
