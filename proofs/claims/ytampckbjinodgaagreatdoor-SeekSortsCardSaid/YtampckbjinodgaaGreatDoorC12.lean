/-
  Lifted functions, and facts about them.
-/
import Derived.Test.YtampckbjinodgaaGreatDoorRows
import Derived.Test.YtampckbjinodgaaGreatDoorAmC
import Derived.Test.YtampckbjinodgaaGreatDoorC11
import Derived.Test.YtampckbjinodgaaGreatDoorC01
namespace Go.Proofs.YtampckbjinodgaaGreatDoor
open Go Go.Am
set_option linter.unusedVariables false
noncomputable def mkRec (fn:FuncId) (tm:Array Value) (D:Nat) (st:LoopState) (pe:Option Code):Loop:={ state:=st,pending:=pe,fn:=fn,tmps:=tm,params:=#[35,36],assign:=rfA,body:=rfB,defers:=D }
def stp (t:List UInt8) (nx body:Int) (g:List (List UInt8)):Option Code×Int×List (List UInt8):=
 if t=[] then (some (.exit 0),nx,g) else if g≠[]/\isBlank1 t=true then (none,body,g.set (g.length - 1) (g.getD (g.length - 1) []++t)) else (none,body,g++[t])
def tgJ (j:Option Code):AV:=match j with | none=>.p (.int .i64 (-1)) | some _=>.p (.int .i64 0)
theorem blank_eq (c:UInt8):(((c.toNat:Int)==(32:Int))||((c.toNat:Int)==(9:Int)))=(c==32||c==9):=by
 have h:∀ k:Nat,k < 256->(((c.toNat:Int)==((k:Nat):Int))=(c==UInt8.ofNat k)):=by
  intro k hk
  rw [Bool.eq_iff_iff,beq_iff_eq,beq_iff_eq]
  constructor
  .intro e
   have e:c.toNat=k:=by omega
   rw [<-e]; simp
  .intro e; rw [e]; simp; omega
 rw [show (32:Int)=((32:Nat):Int) from rfl,show (9:Int)=((9:Nat):Int) from rfl,h 32 (by decide),h 9 (by decide)]; rfl
theorem isBlank_eq {t:List UInt8} (h0:t≠[]):(((((t.getD ((0:Int)).toNat 0).toNat:Int)==(32:Int)))||(((t.getD ((0:Int)).toNat 0).toNat:Int)==(9:Int)))=isBlank1 t:=by
 cases t with
 | nil=>exact absurd rfl h0
 | cons c r=>exact blank_eq c
theorem getD_mem {α:Type} {l:List α} {i:Nat} (h:i < l.length) (d:α):l.getD i d ∈ l:=by
 rw [List.getD_eq_getElem?_getD,List.getElem?_eq_getElem h]; exact List.getElem_mem h
theorem rnd_val (s t:List UInt8) (body i b nx:Int) (g:List (List UInt8)) (rec:Loop) (hg:g.length<=1000000) (hx:∀ x ∈ g,x.length<=1000000) (ht:t.length<=1000000):
 runC GR agNone [] rfB (mkS [(7,.ref 7 0),(8,.ref 8 0),(9,.p (.str t)),(10,.p (.int .i64 nx))] (oI body g i b s rec)) (kTag keepI cutB)=some (.tup [tgJ (stp t nx body g).1],oI (stp t nx body g).2.1 (stp t nx body g).2.2 i b s rec):=by
 rw [rnd_eq]
 unfold stp
 by_cases h0:t=[]
 .rw [if_pos h0]; exact cond_t (by simpa using h0) rfl
 .rw [if_neg h0]
  refine cond_f (by simpa using h0) ?_
  have hl:=List.length_pos_iff.2 h0
  refine need_mk (fun _=>⟨by omega,by omega⟩) (need_mk (fun _=>⟨by omega,by omega⟩) ?_)
  rw [isBlank_eq h0]
  by_cases h1:g≠[]/\isBlank1 t=true
  .rw [if_pos h1]
   have hgl:=List.length_pos_iff.2 h1.1
   refine cond_t (by rw [h1.2,Bool.and_true]; simpa using hgl) ?_
   have e:((g.length:Int) - 1).toNat=g.length - 1:=by omega
   have hlast:=hx _ (getD_mem (show g.length - 1 < g.length by omega) [])
   rw [e]
   refine need_mk (by unfold i64ok; omega) (need_mk ⟨by omega,by omega⟩ (need_mk (by omega) (need_mk (by unfold lenok; omega) (need_mk ⟨by omega,by omega⟩ (need_mk (by omega) rfl)))))
  .rw [if_neg h1]
   refine cond_f ?_ (need_mk (by simp; omega) rfl)
   cases hb:isBlank1 t with
   | false=>rw [Bool.and_false]
   | true=>
    have:g=[]:=Classical.byContradiction fun q=>h1 ⟨q,hb⟩
    rw [this]; rfl
abbrev Kept (γ γ':Nat->Option G):Prop:=∀ k ∈ keepI,∀ x,γ k=some x->γ' k=some x
theorem Kept.trans {γ γ1 γ2:Nat->Option G} (h:Kept γ γ1) (k:Kept γ1 γ2):Kept γ γ2:=fun i hi x hx=>k i hi x (h i hi x hx)
theorem oI_rec {γ:Nat->Option G} {M:Mem} {w:World} {body i b:Int} {g:List (List UInt8)} {s:List UInt8} {l:Nat} {r:Loop} (r':Loop) (h:Hold γ M w (oI body g i b s r)) (hl:γ 1005=some (.cell l)):
 Hold γ M (w.putObj l (.loop r')) (oI body g i b s r')/\Chg γ (oI body g i b s r) M w γ (oI body g i b s r') M (w.putObj l (.loop r')):=
 h.setraw (id:=1005) (x:=.loop r) (y:=.loop r') lookO_hd hl lookO_hd lookO_ne
theorem round_ok {γ:Nat->Option G} {M:Mem} {w:World} {s t:List UInt8} {body i b nx:Int} {g:List (List UInt8)} {fn:FuncId} {tm:Array Value} {D l:Nat} {vt vn:Value}
 (hH:Hold γ M w (oI body g i b s (mkRec fn tm D .ready none))) (hl:γ 1005=some (.cell l)) (h7:ARel γ M (.ref 7 0) (tm.getD 7 undef)) (h8:ARel γ M (.ref 8 0) (tm.getD 8 undef))
 (ht:ARel γ M (.p (.str t)) vt) (hn:ARel γ M (.p (.int .i64 nx)) vn) (hsz:tm.size=98) (hg:g.length<=1000000) (hx:∀ x ∈ g,x.length<=1000000) (htl:t.length<=1000000):
 RoundIn (FW none) 0 Tryz.prog l fn ((tm.setIfInBounds 35 vt).setIfInBounds 36 vn) rfA rfB w fun e W'=>∃ (jump:Option Code) (γ':Nat->Option G) (M':Mem),e=.returned (.bool jump.isNone)/\(stp t nx body g).1=jump/\
  Hold γ' M' W' (oI (stp t nx body g).2.1 (stp t nx body g).2.2 i b s (mkRec fn tm D (if jump.isNone then .ready else .done) jump))/\
  Chg γ (oI body g i b s (mkRec fn tm D .ready none)) M w γ' (oI (stp t nx body g).2.1 (stp t nx body g).2.2 i b s (mkRec fn tm D (if jump.isNone then .ready else .done) jump)) M' W'/\Kept γ γ':=by
 refine RoundIn.mono (round_st (r:=mkRec fn tm D .ready none) (R:=fun jump W3=>∃ (γ':Nat->Option G) (M':Mem),(stp t nx body g).1=jump/\Hold γ' M' W3 (oI (stp t nx body g).2.1 (stp t nx body g).2.2 i b s (mkRec fn tm D .busy none))/\
  Chg γ (oI body g i b s (mkRec fn tm D .ready none)) M w γ' (oI (stp t nx body g).2.1 (stp t nx body g).2.2 i b s (mkRec fn tm D .busy none)) M' W3/\Kept γ γ') rfl ?_) ?_
 .have hG:CfgOk GR Tryz.prog (ctxOf w M γ (oI body g i b s (mkRec fn tm D .ready none)) keepI 98 (some l) []):=⟨rfl,GR_env,GR_envR,ctxOf_ok,Checked.mixed Tryz.checked⟩
  have hs0:St (ctxOf w M γ (oI body g i b s (mkRec fn tm D .ready none)) keepI 98 (some l) []) (mkS [(7,.ref 7 0),(8,.ref 8 0),(35,.p (.str t)),(36,.p (.int .i64 nx))] (oI body g i b s (mkRec fn tm D .ready none))) { tmps:=(tm.setIfInBounds 35 vt).setIfInBounds 36 vn,defers:=[] } w:=by
   refine ⟨γ,M,hH.lend (sl_cons ?_ (sl_cons ?_ (sl_cons ?_ (sl_cons ?_ sl_nil)))) rfl (by simp [hsz])⟩
   .rw [gset (by simp [hsz]),if_neg (by decide),gset (by simp [hsz]),if_neg (by decide)]; exact h7
   .rw [gset (by simp [hsz]),if_neg (by decide),gset (by simp [hsz]),if_neg (by decide)]; exact h8
   .rw [gset (by simp [hsz]),if_neg (by decide),gset (by simp [hsz]),if_pos rfl]; exact ht
   .rw [gset (by simp [hsz]),if_pos rfl]; exact hn
  refine wpIn_piece hG (asg_eq s t body i b nx g _) hs0 fun e s1 a1 w1 hk1 hs1=>?_
  obtain ⟨htag,hsub⟩:=kTag_get (ctxOf_ok (w:=w)) hk1
  have:=tagOf_normal htag
  subst this
  obtain ⟨γ1,M1,hs1⟩:=hsub _ _ hs1
  obtain ⟨hH1,hC1,hK1,hsl1,hdf1,hnt1⟩:=Hold.back hs1
  have hl1:=hK1 1005 (by decide) _ hl
  refine ⟨(hH1.raw_at lookO_hd hl1).1,?_⟩
  obtain ⟨hH2,hC2⟩:=oI_rec (mkRec fn tm D .busy none) hH1 hl1
  have hG2:CfgOk GR Tryz.prog (ctxOf (w1.putObj l (.loop (mkRec fn tm D .busy none))) M1 γ1 (oI body g i b s (mkRec fn tm D .busy none)) keepI 98 (some l) []):=⟨rfl,GR_env,GR_envR,ctxOf_ok,Checked.mixed Tryz.checked⟩
  refine wpIn_piece hG2 (rnd_val s t body i b nx g (mkRec fn tm D .busy none) hg hx htl) ⟨γ1,M1,hH2.lend hsl1 hdf1 hnt1⟩ fun e s2 a2 w2 hk2 hs2=>?_
  obtain ⟨htag2,hsub2⟩:=kTag_get (ctxOf_ok (w:=w1.putObj l (.loop (mkRec fn tm D .busy none)))) hk2
  obtain ⟨γ2,M2,hs2⟩:=hsub2 _ _ hs2
  obtain ⟨hH3,hC3,hK3,_,_,_⟩:=Hold.back hs2
  have hl3:=hK3 1005 (by decide) _ hl1
  have hb:=(hH3.raw_at lookO_hd hl3).1
  have hKK:Kept γ γ2:=fun k hk x hx=>hK3 k hk x (hK1 k hk x hx)
  cases hj:(stp t nx body g).1 with
  | none=>
   rw [hj] at htag2
   have:=tagOf_normal htag2
   subst this
   exact ⟨hb,γ2,M2,rfl,hH3,(hC1.trans hC2).trans hC3,hKK⟩
  | some c=>
   have hc:c=.exit 0:=by
    unfold stp at hj
    split at hj
    .exact (Option.some.inj hj).symm
    .split at hj <;> cases hj
   rw [hj] at htag2
   have:=tagOf_exit (i:=0) htag2
   subst this
   exact ⟨hb,γ2,M2,by rw [hc],hH3,(hC1.trans hC2).trans hC3,hKK⟩
 .rintro e W' ⟨jump,W3,he,hW,γ',M',hj,hH,hC,hK⟩
  obtain ⟨hH4,hC4⟩:=oI_rec (mkRec fn tm D (if jump.isNone then .ready else .done) jump) hH (hK 1005 (by decide) _ hl)
  exact ⟨jump,γ',M',he,hj,by rw [hW]; exact hH4,by rw [hW]; exact hC.trans hC4,hK⟩
def nextL (s:List UInt8) (i b:Nat):List UInt8×Nat:=
 if ixS ((s.take b).drop i) 10>=0 then (trimSuf (((s.take b).drop i).take (ixS ((s.take b).drop i) 10).toNat) [13],i+(ixS ((s.take b).drop i) 10).toNat+1) else ((s.take b).drop i,b)
theorem nextL_spec {s:List UInt8} {i b:Nat} (hi:i < b) (hb:b<=s.length):linesN s i b=(i,(nextL s i b).1,(nextL s i b).2)::linesN s (nextL s i b).2 b/\i < (nextL s i b).2/\(nextL s i b).2<=b/\(nextL s i b).1.length<=(nextL s i b).2 - i:=by
 have hlen:((s.take b).drop i).length=b - i:=by simp; omega
 have hix:ixS ((s.take b).drop i) 10=Lib.indexByte ((s.take b).drop i) 10:=ixS_u8 _ 10
 unfold nextL linesN
 rw [hix]
 rcases ixb_split 10 ((s.take b).drop i) with ⟨p,q,e,hp,hk⟩ | ⟨hn,hk⟩
 .have hl2:p.length+1+q.length=b - i:=by rw [<-hlen,e]; simp; omega
  rw [hk,if_pos (by omega),Int.toNat_natCast]
  have hq:(s.take b).drop (i+p.length+1)=q:=by
   rw [Nat.add_assoc,<-List.drop_drop,e,show p.length+1=(p++[(10:UInt8)]).length by simp,show p++10::q=(p++[10])++q by simp,List.drop_left]
  have hp2:((s.take b).drop i).take p.length=p:=by rw [e,List.take_left]
  refine ⟨?_,by omega,by dsimp only; omega,?_⟩
  .dsimp only
   rw [hq,hp2,e,lnF_nl [] i hp,List.nil_append]
  .dsimp only
   have:=trimSuf_len (((s.take b).drop i).take p.length) [13]
   rw [hp2] at this ⊢
   omega
 .rw [hk,if_neg (by decide)]
  refine ⟨?_,hi,Nat.le_refl _,by dsimp only; omega⟩
  have h0:(s.take b).drop i≠[]:=by intro h; rw [h] at hlen; simp at hlen; omega
  rw [lnF_end [] i hn,List.nil_append,if_neg h0,hlen]
  have:(s.take b).drop b=[]:=by rw [List.drop_eq_nil_iff]; simp; omega
  dsimp only
  rw [this,lnF,if_pos rfl,show i+(b - i)=b by omega]
theorem linesN_nil {s:List UInt8} {i b:Nat} (h:b<=i):linesN s i b=[]:=by
 have:(s.take b).drop i=[]:=by rw [List.drop_eq_nil_iff]; simp; omega
 unfold linesN; rw [this,lnF,if_pos rfl]
theorem it_val {l:Nat} {s:List UInt8} {i b:Nat} {body:Int} {g:List (List UInt8)} {rec:Loop} (hi:i < b) (hb:b<=s.length) (hs:s.length<=1000000):
 runC GI agNone [] (at_ cI [0,0,0]) (mkS [(0,.clo (.yield l) [] []),(1,.ref 1001 0),(2,.ref 1002 0),(3,.ref 1003 0)] (oI body g i b s rec)) (kNext GI (at_ cI [0,0,1,0,0]) (kNext GI (at_ cI [0,0,1,0,1,0]) (kTag keepI cutI)))=
  some (.tup [.p (.int .i64 (-1)),.clo (.yield l) [] [],.ref 1001 0,.ref 1002 0,.ref 1003 0,.p (.str (nextL s i b).1),.p (.int .i64 ((nextL s i b).2:Nat))],oI body g i b s rec):=by
 rw [it_eq]
 have hlen:((s.take b).drop i).length=b - i:=by simp; omega
 refine cond_t (by simpa using hi) (need_mk ⟨by omega,by omega,by omega⟩ ?_)
 rw [Int.toNat_natCast,Int.toNat_natCast]
 unfold nextL
 have h:=ixS_lt ((s.take b).drop i) 10
 by_cases hc:ixS ((s.take b).drop i) 10>=0
 .rw [if_pos hc]
  have e:(i:Int)+ixS ((s.take b).drop i) 10+1=((i+(ixS ((s.take b).drop i) 10).toNat+1:Nat):Int):=by omega
  refine cond_t (by simpa using hc) (need_mk ⟨by omega,by omega⟩ (need_mk (by simp; omega) (need_mk (by unfold i64ok; omega) (need_mk (by unfold i64ok; omega) ?_))))
  rw [e]
 .rw [if_neg hc]
  exact cond_f (by simpa using hc) rfl
theorem it_end {l:Nat} {s:List UInt8} {i b:Nat} {body:Int} {g:List (List UInt8)} {rec:Loop} (hi:¬ i < b):
 runC GI agNone [] (at_ cI [0,0,0]) (mkS [(0,.clo (.yield l) [] []),(1,.ref 1001 0),(2,.ref 1002 0),(3,.ref 1003 0)] (oI body g i b s rec)) (kNext GI (at_ cI [0,0,1,0,0]) (kNext GI (at_ cI [0,0,1,0,1,0]) (kTag keepI cutI)))=
  some (.tup [.p (.int .i64 0),.clo (.yield l) [] [],.ref 1001 0,.ref 1002 0,.ref 1003 0,.any,.any],oI body g i b s rec):=by
 rw [it_eq]
 exact cond_f (by simp; omega) rfl
end Go.Proofs.YtampckbjinodgaaGreatDoor
namespace Go.Proofs.YtampckbjinodgaaGreatDoor
open Go Go.Am
set_option linter.unusedVariables false
noncomputable def opsI:Array Oper:=opsOf (at_ cI [0,0,1,0,1,1,0,0])
def cutY:Cut:=⟨[0,1,2,3,6,28,29,30],cutI.own⟩
def cutN:Cut:=⟨[0,1,2,3,6,32],cutI.own⟩
theorem mv_eq (l:Nat) (s t:List UInt8) (body i b nx:Int) (g:List (List UInt8)) (rec:Loop):aopsK Tryz.prog GI.env 34 opsI [0,1,2] (mkS [(0,.clo (.yield l) [] []),(1,.ref 1001 0),(2,.ref 1002 0),(3,.ref 1003 0),(5,.p (.str t)),(6,.p (.int .i64 nx))] (oI body g i b s rec)) keepI cutY=
 some ((.tup [.p (.int .i64 (-1)),.clo (.yield l) [] [],.ref 1001 0,.ref 1002 0,.ref 1003 0,.p (.int .i64 nx),.clo (.yield l) [] [],.p (.str t),.p (.int .i64 nx)],oI body g i b s rec),[]):=by kernel_rfl
theorem not_eq (l:Nat) (s:List UInt8) (body i b nx:Int) (g:List (List UInt8)) (c:Bool) (rec:Loop):aopsK Tryz.prog GI.env 34 opsI [4] (mkS [(0,.clo (.yield l) [] []),(1,.ref 1001 0),(2,.ref 1002 0),(3,.ref 1003 0),(6,.p (.int .i64 nx)),(31,.p (.bool c))] (oI body g i b s rec)) keepI cutN=
 some ((.tup [.p (.int .i64 (-1)),.clo (.yield l) [] [],.ref 1001 0,.ref 1002 0,.ref 1003 0,.p (.int .i64 nx),.p (.bool (!c))],oI body g i b s rec),[]):=by kernel_rfl
theorem cI_eq:cI=.block 0 (.loop (.seq (at_ cI [0,0,0]) (.block 1 (.seq (at_ cI [0,0,1,0,0]) (.seq (at_ cI [0,0,1,0,1,0]) (.seq (.seq (.region 5 opsI false) (at_ cI [0,0,1,0,1,1,0,1])) (at_ cI [0,0,1,0,1,1,1]))))))):=by kernel_rfl
theorem y_op:∃ ts type pos after,opsI[3]?=some ⟨some 31,.call ⟨.value (.tmp 28),#[.tmp 29,.tmp 30],ts⟩,type,pos,after,none⟩:=⟨_,_,_,_,rfl⟩
theorem opsI_size:List.range opsI.size=[0,1,2]++[3,4]:=by kernel_rfl
theorem res_I {C:Ctx} {γ:Nat->Option G} {M:Mem} {st:S} {a:Act} {w:World} (hs:StG C γ M st a w):∃ v,(results Tryz.f97 a.tmps).run Tryz.prog w=.ok v w:=by
 obtain ⟨v,hv,_⟩:=aresultsR_sound (r:=.tup []) hs Tryz.f97 (by kernel_rfl)
 exact ⟨v,hv⟩
theorem gath_none {t:List UInt8} {i nx:Nat} {body:Int} {g:List (List UInt8)} {r:List (Nat×List UInt8×Nat)} (h:(stp t (nx:Int) body g).1=none):gathS ((i,t,nx)::r) body g=gathS r (stp t (nx:Int) body g).2.1 (stp t (nx:Int) body g).2.2:=by
 unfold stp at h ⊢
 rw [gathS]
 split at h
 .cases h
 .rename_i h0
  rw [if_neg h0,if_neg h0]
  split <;> rfl
theorem gath_some {t:List UInt8} {i nx:Nat} {body:Int} {g:List (List UInt8)} {r:List (Nat×List UInt8×Nat)} {c:Code} (h:(stp t (nx:Int) body g).1=some c):gathS ((i,t,nx)::r) body g=((stp t (nx:Int) body g).2.2,(stp t (nx:Int) body g).2.1)/\c=.exit 0:=by
 unfold stp at h ⊢
 rw [gathS]
 split at h
 .rename_i h0
  rw [if_pos h0,if_pos h0]; exact ⟨rfl,(Option.some.inj h).symm⟩
 .split at h <;> cases h
theorem stp_g {t:List UInt8} {nx body:Int} {g:List (List UInt8)} {i n:Nat} (hi:i < n) (hg:g.length<=i) (hx:∀ x ∈ g,x.length<=i) (ht:t.length<=n - i):(stp t nx body g).2.2.length<=n/\∀ x ∈ (stp t nx body g).2.2,x.length<=n:=by
 unfold stp
 split
 .exact ⟨by dsimp only; omega,fun x h=>by have:=hx x h; omega⟩
 .split
  .rename_i h
   have hgl:=List.length_pos_iff.2 h.1
   have h1:=hx _ (getD_mem (show g.length - 1 < g.length by omega) [])
   refine ⟨by simp; omega,fun x h=>?_⟩
   rcases List.mem_or_eq_of_mem_set h with h | h
   .have:=hx x h; omega
   .rw [h,List.length_append]; omega
  .refine ⟨by simp; omega,fun x h=>?_⟩
   rcases List.mem_append.1 h with h | h
   .have:=hx x h; omega
   .rw [List.mem_singleton.1 h]; omega
theorem tagOf_ret {e:Exit} (h:tagOf e=.p (.int .i64 (-2))):e=.ret:=by
 cases e with
 | ret=>rfl
 | exit i=>simp [tagOf] at h
 | _=>simp [tagOf] at h
theorem chain2 {C:Ctx} {P:Program} {st:S} {a:Act} {w:World} {o:List (Nat×AObj)} {Gc:Cfg} (hG:CfgOk Gc P C) {nt:Nat} {fx:List Nat} (hC:CtxOk C nt fx) {c1 c2:Code} {c:Cut} {t:AV} {xs:List AV} {R:Exit->Act->World->Prop}
 (hv:runC Gc agNone [] c1 st (kNext Gc c2 (kTag fx c))=some (.tup (t::xs),o)) (hs:St C st a w)
 (h:∀ e a w,tagOf e=t->St C (mkS (List.zip c.slots xs) o) a w->R e a w):c1.wpIn (FW C.rd) 0 P (Exit.then (c2.wpIn (FW C.rd) 0 P R) R) a w:=by
 have key:∀ e s' a' w',kTag fx c e s'=some (.tup (t::xs),o)->St C s' a' w'->R e a' w':=by
  intro e s' a' w' hk hs'
  obtain ⟨h1,h2⟩:=kTag_get hC hk
  exact h e a' w' h1 (h2 _ _ hs')
 refine wpIn_piece hG hv hs fun e s1 a1 w1 hk1 hs1=>?_
 cases e with
 | normal=>exact wpIn_piece hG (s:=s1) hk1 hs1 fun e s2 a2 w2 hk2 hs2=>key e s2 a2 w2 hk2 hs2
 | exit i=>exact key (.exit i) s1 a1 w1 hk1 hs1
 | ret=>exact key .ret s1 a1 w1 hk1 hs1
 | goto i=>exact key (.goto i) s1 a1 w1 hk1 hs1
 | panic i=>exact key (.panic i) s1 a1 w1 hk1 hs1
 | outgrown=>exact key .outgrown s1 a1 w1 hk1 hs1
theorem clo0_mk {γ:Nat->Option G} {M:Mem} {fn:Fn}:ARel γ M (.clo fn [] []) (.func fn #[] #[]):=.clo _ _ _ _ _ rfl rfl (fun i hi=>absurd hi (Nat.not_lt_zero _)) (fun i hi=>absurd hi (Nat.not_lt_zero _))
abbrev lI (l:Nat):List (Nat×AV):=[(0,.clo (.yield l) [] []),(1,.ref 1001 0),(2,.ref 1002 0),(3,.ref 1003 0)]
structure IInv (γ1:Nat->Option G) (M1:Mem) (W1:World) (o1:List (Nat×AObj)) (s:List UInt8) (b:Nat) (rec:Loop) (fin:List (List UInt8)×Int) (l:Nat) (i:Nat) (body:Int) (g:List (List UInt8)) (γ:Nat->Option G) (M:Mem) (a:Act) (w:World):Prop where
 hold:Hold γ M w (oI body g (i:Int) (b:Int) s rec)
 chg:Chg γ1 o1 M1 W1 γ (oI body g (i:Int) (b:Int) s rec) M w
 kept:Kept γ1 γ
 res:gathS (linesN s i b) body g=fin
 ib:i<=b
 gl:g.length<=i
 gx:∀ x ∈ g,x.length<=i
 sl:∀ t:Nat,ARel γ M (Am.look t AV.any (lI l)) (a.tmps.getD t undef)
 df:a.defers=[]
 nt:a.tmps.size=34
def IPost (γ1:Nat->Option G) (M1:Mem) (W1:World) (o1:List (Nat×AObj)) (s:List UInt8) (b:Nat) (fn:FuncId) (tm:Array Value) (D:Nat) (fin:List (List UInt8)×Int) (W2:World):Prop:=
 ∃ (γ':Nat->Option G) (M':Mem) (i:Int) (st:LoopState) (pe:Option Code),Hold γ' M' W2 (oI fin.2 fin.1 i (b:Int) s (mkRec fn tm D st pe))/\Chg γ1 o1 M1 W1 γ' (oI fin.2 fin.1 i (b:Int) s (mkRec fn tm D st pe)) M' W2/\Kept γ1 γ'/\
  ((st=.ready/\pe=none)\/(st=.done/\pe=some (.exit 0)))/\fin.1.length<=b/\∀ x ∈ fin.1,x.length<=b
theorem iter_ok {γ1:Nat->Option G} {M1:Mem} {W1:World} {s:List UInt8} {a b:Nat} {fn:FuncId} {tm:Array Value} {D l:Nat} {p q r:Value}
 (hH:Hold γ1 M1 W1 (oI (b:Int) [] (a:Int) (b:Int) s (mkRec fn tm D .ready none))) (hl:γ1 1005=some (.cell l)) (h7:ARel γ1 M1 (.ref 7 0) (tm.getD 7 undef)) (h8:ARel γ1 M1 (.ref 8 0) (tm.getD 8 undef))
 (hp:ARel γ1 M1 (.ref 1001 0) p) (hq:ARel γ1 M1 (.ref 1002 0) q) (hr:ARel γ1 M1 (.ref 1003 0) r) (hsz:tm.size=98) (hab:a<=b) (hb:b<=s.length) (hs:s.length<=1000000):
 Calls Tryz.prog 97 (#[.func (.yield l) #[] #[]]++#[p,q,r]) W1 fun e W2=>(∃ v,e=.returned v)/\IPost γ1 M1 W1 (oI (b:Int) [] (a:Int) (b:Int) s (mkRec fn tm D .ready none)) s b fn tm D (gathS (linesN s a b) (b:Int) []) W2:=by
 obtain ⟨o1,ho1⟩:∃ o1,oI (b:Int) [] (a:Int) (b:Int) s (mkRec fn tm D .ready none)=o1:=⟨_,rfl⟩
 obtain ⟨fin,hfin⟩:∃ fin,gathS (linesN s a b) (b:Int) []=fin:=⟨_,rfl⟩
 rw [hfin]
 refine callsIn_FW (r:=none) (n:=0) |>.1 (callsIn_of_wp (F:=FW none) (fn:=Tryz.f97) (c:=cI) (by kernel_rfl) (by kernel_rfl) trivial ?_ rfl)
 obtain ⟨tm0,ht0⟩:∃ x,(#[.func (.yield l) #[] #[]]++#[p,q,r])++Array.replicate (Tryz.f97.ntmps - (#[.func (.yield l) #[] #[]]++#[p,q,r]:Array Value).size) undef=x:=⟨_,rfl⟩
 have hnn:Tryz.f97.ntmps=34:=by kernel_rfl
 have z0:tm0.getD 0 undef=.func (.yield l) #[] #[]:=by rw [<-ht0]; simp [Array.getD_eq_getD_getElem?]
 have z1:tm0.getD 1 undef=p:=by rw [<-ht0]; simp [Array.getD_eq_getD_getElem?]
 have z2:tm0.getD 2 undef=q:=by rw [<-ht0]; simp [Array.getD_eq_getD_getElem?]
 have z3:tm0.getD 3 undef=r:=by rw [<-ht0]; simp [Array.getD_eq_getD_getElem?]
 have z4:tm0.size=34:=by rw [<-ht0,hnn]; simp
 rw [ht0]
 clear ht0 hnn
 rw [cI_eq]
 refine wpIn_block (wpIn_loop_f (fun n av wv=>∃ i body g γ M,IInv γ1 M1 W1 (oI (b:Int) [] (a:Int) (b:Int) s (mkRec fn tm D .ready none)) s b (mkRec fn tm D .ready none) fin l i body g γ M av wv/\n=b - i) ?_ (b - a) ⟨a,b,[],γ1,M1,⟨hH,Chg.refl,fun _ _ _ h=>h,hfin,hab,by simp,by simp,?_,rfl,?_⟩,rfl⟩)
 .rintro n' a1 w1 ⟨i,body,g,γ,M,hI,hn⟩
  have hG:CfgOk GI Tryz.prog (ctxOf w1 M γ (oI body g (i:Int) (b:Int) s (mkRec fn tm D .ready none)) keepI 34 none []):=⟨rfl,GI_env,GI_envR,ctxOf_ok,Checked.mixed Tryz.checked⟩
  have hst:St (ctxOf w1 M γ (oI body g (i:Int) (b:Int) s (mkRec fn tm D .ready none)) keepI 34 none []) (mkS (lI l) (oI body g (i:Int) (b:Int) s (mkRec fn tm D .ready none))) a1 w1:=⟨γ,M,hI.hold.lend hI.sl hI.df hI.nt⟩
  by_cases hi:i < b
  .refine chain3 hG ctxOf_ok (it_val hi hb hs) hst (fun a3 w3 _ hs3=>?_) (fun e a' w' hne ht _=>absurd (tagOf_normal ht) hne)
   obtain ⟨hL,hn1,hn2,hn3⟩:=nextL_spec hi hb
   obtain ⟨t,ht⟩:∃ t,(nextL s i b).1=t:=⟨_,rfl⟩
   obtain ⟨nx,hnx⟩:∃ nx,(nextL s i b).2=nx:=⟨_,rfl⟩
   rw [ht,hnx] at hs3 hL
   rw [hnx] at hn1 hn2
   rw [ht,hnx] at hn3
   obtain ⟨γ3,M3,hs3⟩:=hs3
   obtain ⟨hH3,hC3,hK3,hsl3,hdf3,hnt3⟩:=Hold.back hs3
   refine wpIn_seq (wpIn_seq (wpIn_region ?_))
   rw [opsI_size]
   refine aopsK_get (C:=ctxOf w3 M3 γ3 (oI body g (i:Int) (b:Int) s (mkRec fn tm D .ready none)) keepI 34 none []) (nt:=34) ctxOf_ok GI_env (mv_eq l s t body i b nx g _) trivial ⟨γ3,M3,hH3.lend hsl3 hdf3 hnt3⟩ (fun a4 w4 hs4=>?_)
   obtain ⟨γ4,M4,hs4⟩:=hs4
   obtain ⟨hH4,hC4,hK4,hsl4,hdf4,hnt4⟩:=Hold.back hs4
   have hKK4:Kept γ1 γ4:=(hI.kept.trans hK3).trans hK4
   have hCC4:=(hI.chg.trans hC3).trans hC4
   have hl4:=hKK4 1005 (by decide) _ hl
   obtain ⟨ts,ty,pos,aft,ho⟩:=y_op
   have e0:=ARel.clo0 (fn:=.yield l) (hsl4 0)
   have e28:=ARel.clo0 (fn:=.yield l) (hsl4 28)
   have r1:ARel γ4 M4 (.ref 1001 0) (a4.tmps.getD 1 undef):=hsl4 1
   have r2:ARel γ4 M4 (.ref 1002 0) (a4.tmps.getD 2 undef):=hsl4 2
   have r3:ARel γ4 M4 (.ref 1003 0) (a4.tmps.getD 3 undef):=hsl4 3
   have r6:ARel γ4 M4 (.p (.int .i64 (nx:Int))) (a4.tmps.getD 6 undef):=hsl4 6
   have r29:ARel γ4 M4 (.p (.str t)) (a4.tmps.getD 29 undef):=hsl4 29
   have r30:ARel γ4 M4 (.p (.int .i64 (nx:Int))) (a4.tmps.getD 30 undef):=hsl4 30
   refine ops_cons ho rfl (wpIn_yield (l:=l) (r:=mkRec fn tm D .ready none) e28 (hH4.raw_at lookO_hd hl4).1 rfl ?_)
   have hfold:(((mkRec fn tm D .ready none).params.zip ((#[.tmp 29,.tmp 30]:Array Operand).map a4.eval)).foldl (fun tmps (t,a)=>tmps.setIfInBounds t a) (mkRec fn tm D .ready none).tmps)=(tm.setIfInBounds 35 (a4.tmps.getD 29 undef)).setIfInBounds 36 (a4.tmps.getD 30 undef):=by
    simp [mkRec,Act.eval]
   rw [hfold]
   refine RoundIn.mono (round_ok (fn:=fn) (D:=D) (tm:=tm) hH4 hl4 (h7.ref_kept fun g hg=>hKK4 7 (by decide) g hg) (h8.ref_kept fun g hg=>hKK4 8 (by decide) g hg) r29 r30 hsz (by have:=hI.gl; omega) (fun x hx=>by have:=hI.gx x hx; omega) (by omega)) ?_
   rintro e W' ⟨jump,γ5,M5,he,hj,hH5,hC5,hK5⟩
   refine ⟨_,he,?_⟩
   obtain ⟨hg5,hx5⟩:=stp_g (nx:=(nx:Int)) (body:=body) (t:=t) hn1 hI.gl hI.gx hn3
   obtain ⟨body5,hb5⟩:∃ x,(stp t (nx:Int) body g).2.1=x:=⟨_,rfl⟩
   obtain ⟨g5,hg5'⟩:∃ x,(stp t (nx:Int) body g).2.2=x:=⟨_,rfl⟩
   have hres:=hI.res
   rw [hL] at hres
   rw [hg5'] at hg5 hx5
   rw [hb5,hg5'] at hH5 hC5
   have hput:∀ k,k≠31->(a4.put (some 31) (.bool jump.isNone)).tmps.getD k undef=a4.tmps.getD k undef:=by
    intro k hk
    show (a4.tmps.setIfInBounds 31 _).getD k undef=_
    rw [gset (by omega),if_neg (fun h=>hk h.symm)]
   have hsl5:∀ t':Nat,ARel γ5 M5 (Am.look t' AV.any [(0,.clo (.yield l) [] []),(1,.ref 1001 0),(2,.ref 1002 0),(3,.ref 1003 0),(6,.p (.int .i64 (nx:Int))),(31,.p (.bool jump.isNone))]) ((a4.put (some 31) (.bool jump.isNone)).tmps.getD t' undef):=by
    refine sl_cons ?_ (sl_cons ?_ (sl_cons ?_ (sl_cons ?_ (sl_cons ?_ (sl_cons ?_ sl_nil)))))
    .rw [hput 0 (by decide),e0]; exact clo0_mk
    .rw [hput 1 (by decide)]; exact r1.ref_kept fun g hg=>hK5 1001 (by decide) g hg
    .rw [hput 2 (by decide)]; exact r2.ref_kept fun g hg=>hK5 1002 (by decide) g hg
    .rw [hput 3 (by decide)]; exact r3.ref_kept fun g hg=>hK5 1003 (by decide) g hg
    .rw [hput 6 (by decide)]; exact r6.p_any hC5.le
    .show ARel γ5 M5 _ ((a4.tmps.setIfInBounds 31 _).getD 31 undef)
     rw [gset (by omega),if_pos rfl]; exact .p _ _ (.bool _)
   obtain ⟨rec5,hrec5⟩:∃ x,mkRec fn tm D (if jump.isNone then .ready else .done) jump=x:=⟨_,rfl⟩
   rw [hrec5] at hH5 hC5
   refine aopsK_get (C:=ctxOf W' M5 γ5 (oI body5 g5 (i:Int) (b:Int) s rec5) keepI 34 none []) (nt:=34) (l:=[4]) (l2:=[]) ctxOf_ok GI_env (not_eq l s body5 i b nx g5 jump.isNone rec5) trivial ⟨γ5,M5,hH5.lend hsl5 hdf4 (by show (a4.tmps.setIfInBounds 31 _).size=34; simp; exact hnt4)⟩ (fun a6 w6 hs6=>?_)
   obtain ⟨γ6,M6,hs6⟩:=hs6
   obtain ⟨hH6,hC6,hK6,hsl6,hdf6,hnt6⟩:=Hold.back hs6
   have hG6:CfgOk GI Tryz.prog (ctxOf w6 M6 γ6 (oI body5 g5 (i:Int) (b:Int) s rec5) keepI 34 none []):=⟨rfl,GI_env,GI_envR,ctxOf_ok,Checked.mixed Tryz.checked⟩
   have hst6:St (ctxOf w6 M6 γ6 (oI body5 g5 (i:Int) (b:Int) s rec5) keepI 34 none []) (mkS [(0,.clo (.yield l) [] []),(1,.ref 1001 0),(2,.ref 1002 0),(3,.ref 1003 0),(6,.p (.int .i64 (nx:Int))),(32,.p (.bool (!jump.isNone)))] (oI body5 g5 (i:Int) (b:Int) s rec5)) a6 w6:=⟨γ6,M6,hH6.lend hsl6 hdf6 hnt6⟩
   have hv:=it2_eq l s body5 i b g5 nx (!jump.isNone) rec5
   cases jump with
   | none=>
    subst hrec5
    refine chain2 hG6 ctxOf_ok hv hst6 fun e a8 w8 ht8 hs8=>?_
    have:=tagOf_normal ht8
    subst this
    obtain ⟨γ8,M8,hs8⟩:=hs8
    obtain ⟨hH8,hC8,hK8,hsl8,hdf8,hnt8⟩:=Hold.back hs8
    refine ⟨b - nx,by omega,nx,body5,g5,γ8,M8,⟨hH8,((hCC4.trans hC5).trans hC6).trans hC8,((hKK4.trans hK5).trans hK6).trans hK8,?_,hn2,hg5,hx5,hsl8,hdf8,hnt8⟩,rfl⟩
    rw [gath_none hj,hb5,hg5'] at hres; exact hres
   | some c=>
    obtain ⟨hgs,hce⟩:=gath_some (i:=i) (r:=linesN s nx b) hj
    rw [hgs,hb5,hg5'] at hres
    refine chain2 hG6 ctxOf_ok hv hst6 fun e a8 w8 ht8 hs8=>?_
    have:=tagOf_ret ht8
    subst this
    obtain ⟨γ8,M8,hs8⟩:=hs8
    obtain ⟨hH8,hC8,hK8,hsl8,hdf8,hnt8⟩:=Hold.back hs8
    obtain ⟨v,hv'⟩:=res_I hs8
    subst hrec5
    subst hres
    exact ⟨hdf8,v,hv',⟨v,rfl⟩,γ8,M8,(i:Int),.done,some c,hH8,((hCC4.trans hC5).trans hC6).trans hC8,((hKK4.trans hK5).trans hK6).trans hK8,.inr ⟨rfl,by rw [hce]⟩,Nat.le_trans hg5 hn2,fun x hx=>Nat.le_trans (hx5 x hx) hn2⟩
  .refine chain3 hG ctxOf_ok (it_end hi) hst (fun a3 w3 h _=>by cases h) (fun e a' w' hne ht hs'=>?_)
   have:=tagOf_exit (i:=0) ht
   subst this
   obtain ⟨γ8,M8,hs8⟩:=hs'
   obtain ⟨hH8,hC8,hK8,hsl8,hdf8,hnt8⟩:=Hold.back hs8
   obtain ⟨v,hv'⟩:=res_I hs8
   have hres:=hI.res
   rw [linesN_nil (by omega)] at hres
   have hfin2:fin=(g,body):=hres.symm
   subst hfin2
   have key:bodyPost Tryz.prog Tryz.f97 (fun e W2=>(∃ v,e=.returned v)/\IPost γ1 M1 W1 (oI (b:Int) [] (a:Int) (b:Int) s (mkRec fn tm D .ready none)) s b fn tm D (g,body) W2) .normal a' w':=
    ⟨hdf8,v,hv',⟨v,rfl⟩,γ8,M8,(i:Int),.ready,none,hH8,hI.chg.trans hC8,hI.kept.trans hK8,.inl ⟨rfl,rfl⟩,Nat.le_trans hI.gl hI.ib,fun x hx=>Nat.le_trans (hI.gx x hx) hI.ib⟩
   exact ⟨key,key⟩
 .exact sl_cons (by rw [z0]; exact clo0_mk) (sl_cons (by rw [z1]; exact hp) (sl_cons (by rw [z2]; exact hq) (sl_cons (by rw [z3]; exact hr) sl_nil)))
 .exact z4
end Go.Proofs.YtampckbjinodgaaGreatDoor
namespace Go.Proofs.YtampckbjinodgaaGreatDoor
open Go Go.Am
set_option linter.unusedVariables false
theorem dropG {α:Type} {l:List α} {i:Nat} {c:α} {r:List α} (h:l.drop i=c::r) (d:α):l.getD i d=c/\l.drop (i+1)=r/\i < l.length:=by
 have hi:i < l.length:=by
  refine Nat.lt_of_not_le fun q=>?_
  rw [List.drop_of_length_le q] at h; cases h
 rw [List.drop_eq_getElem_cons hi] at h
 injection h with h1 h2
 refine ⟨?_,h2,hi⟩
 rw [List.getD_eq_getElem?_getD,List.getElem?_eq_getElem hi]; exact h1
end Go.Proofs.YtampckbjinodgaaGreatDoor
namespace Go.Proofs.YtampckbjinodgaaGreatDoor
open Go Go.Am
set_option linter.unusedVariables false
theorem kP_get {P:Program} {rs:List ResultVar} {e:Exit} {st:S} {x:AV} {o:List (Nat×AObj)} (h:kP P rs e st=some (x,o)):(e=.normal\/e=.ret)/\aresults P st rs=some x/\o=[]:=by
 cases e <;> first
  | cases h
  | (simp only [kP] at h
     split at h
     .rename_i y hy; cases h; exact ⟨by simp,hy,rfl⟩
     .cases h)
theorem fieldsS_cons (c:List UInt8) (r:List (List UInt8)):fieldsS (c::r)=(if (oneF c).2=true then [(oneF c).1] else [])++fieldsS r:=by
 unfold fieldsS
 rw [List.filterMap_cons]
 split
 .rename_i h
  split at h
  .cases h
  .rename_i h2; rw [if_neg h2]; rfl
 .rename_i x h
  split at h
  .rename_i h2; rw [if_pos h2]; cases h; rfl
  .cases h
theorem rest_spec (F:Nat) (g:List (List UInt8)) (body:Int) (hg:g.length<=1000000) (hx:∀ x ∈ g,x≠[]/\x.length<=1000000):∀ (r:List (List UInt8)) (f i:Nat) (acc:List (List UInt8×List UInt8)),g.drop i=r->r.length < f->i<=g.length->acc.length<=i->
 Brest_1 F f (g.length:Int) (i:Int) acc body g=some (.tup [.p (.list 2 (.dat (.pair .str .str) (acc++fieldsS r))),.p (.int .i64 body)],[]):=by
 intro r
 induction r with
 | nil=>
  intro f i acc hd hf hi ha
  have:i=g.length:=by have:=congrArg List.length hd; simp at this; omega
  cases f with
  | zero=>omega
  | succ f=>
   rw [Brest_1_eq]
   refine cond_f (by simp; omega) ?_
   rw [show fieldsS []=[] from rfl,List.append_nil]
 | cons c r ih=>
  intro f i acc hd hf hi ha
  obtain ⟨h1,h2,h3⟩:=dropG hd []
  have hc:=hx c (by rw [<-h1]; exact getD_mem h3 [])
  have hcl:=List.length_pos_iff.2 hc.1
  cases f with
  | zero=>omega
  | succ f=>
   have nxt:∀ acc',acc'.length<=i+1->Brest_3 F f (g.length:Int) (i:Int) acc' body g=some (.tup [.p (.list 2 (.dat (.pair .str .str) (acc'++fieldsS r))),.p (.int .i64 body)],[]):=by
    intro acc' ha'
    rw [Brest_3_eq]
    refine need_mk (by unfold i64ok; omega) ?_
    rw [show (i:Int)+1=((i+1:Nat):Int) by omega]
    exact ih f (i+1) acc' h2 (by simp at hf; omega) (by omega) ha'
   rw [Brest_1_eq]
   rw [Int.toNat_natCast,h1]
   refine cond_t (by simp; omega) (need_mk ⟨by omega,by omega⟩ (need_mk h3 (need_mk (fun _=>⟨by omega,by omega⟩) (need_mk (fun _=>⟨by omega,by omega⟩) ?_))))
   rw [isBlank_eq hc.1,Brest_2_eq,fieldsS_cons]
   cases hb:((i:Int)==0&&isBlank1 c) with
   | true=>
    rw [Bool.and_eq_true] at hb
    rw [if_neg (by rw [oneF_blank hb.2]; simp),List.nil_append]
    exact cond_t rfl (nxt acc (by omega))
   | false=>
    refine cond_f rfl (need_mk hc.2 ?_)
    cases ho:(oneF c).2 with
    | true=>
     refine cond_t rfl (need_mk (by simp; omega) ?_)
     rw [if_pos rfl,<-List.append_assoc]
     exact nxt _ (by simp; omega)
    | false=>
     rw [if_neg (by simp),List.nil_append]
     exact cond_f rfl (nxt acc (by omega))
theorem gath_ne:∀ (L:List (Nat×List UInt8×Nat)) (body:Int) (g:List (List UInt8)),(∀ x ∈ g,x≠[])->∀ x ∈ (gathS L body g).1,x≠[]
 | [],body,g,h=>by rw [gathS]; exact h
 | (i,t,nx)::r,body,g,h=>by
  rw [gathS]
  split
  .exact h
  .rename_i h0
   split
   .refine gath_ne r body _ fun x hx=>?_
    rcases List.mem_or_eq_of_mem_set hx with hx | hx
    .exact h x hx
    .rw [hx]; intro q; exact h0 (List.append_eq_nil_iff.1 q).2
   .refine gath_ne r body _ fun x hx=>?_
    rcases List.mem_append.1 hx with hx | hx
    .exact h x hx
    .rw [List.mem_singleton.1 hx]; exact h0
def gR (γ:Nat->Option G):Nat->Option G:=fun k=>match Nat.beq k 7||(Nat.beq k 8||Nat.beq k 81) with | true=>γ k | false=>none
theorem keyR {body:Int} {g:List (List UInt8)} {i:Nat} (h:lookO i (oR body g)≠none):i=7\/i=8\/i=81:=by
 by_cases h7:i=7
 .exact .inl h7
 .by_cases h8:i=8
  .exact .inr (.inl h8)
  .by_cases h9:i=81
   .exact .inr (.inr h9)
   .exfalso; apply h
    have e7:Nat.beq i 7=false:=by cases hb:Nat.beq i 7 with | false=>rfl | true=>exact absurd (Nat.eq_of_beq_eq_true hb) h7
    have e8:Nat.beq i 8=false:=by cases hb:Nat.beq i 8 with | false=>rfl | true=>exact absurd (Nat.eq_of_beq_eq_true hb) h8
    have e9:Nat.beq i 81=false:=by cases hb:Nat.beq i 81 with | false=>rfl | true=>exact absurd (Nat.eq_of_beq_eq_true hb) h9
    simp only [oR,lookO,e7,e8,e9]
theorem gR_none {γ:Nat->Option G} {i:Nat} (h:¬ (i=7\/i=8\/i=81)):gR γ i=none:=by
 unfold gR
 have e7:Nat.beq i 7=false:=by cases hb:Nat.beq i 7 with | false=>rfl | true=>exact absurd (.inl (Nat.eq_of_beq_eq_true hb)) h
 have e8:Nat.beq i 8=false:=by cases hb:Nat.beq i 8 with | false=>rfl | true=>exact absurd (.inr (.inl (Nat.eq_of_beq_eq_true hb))) h
 have e9:Nat.beq i 81=false:=by cases hb:Nat.beq i 81 with | false=>rfl | true=>exact absurd (.inr (.inr (Nat.eq_of_beq_eq_true hb))) h
 rw [e7,e8,e9]; rfl
section
variable {γ:Nat->Option G} {M:Mem} {w:World} {body i b:Int} {g:List (List UInt8)} {s:List UInt8} {rec:Loop}
theorem upR {k:Nat} (h:lookO k (oR body g)≠none):lookO k (oI body g i b s rec)≠none/\gR γ k=γ k:=by
 rcases keyR h with rfl | rfl | rfl
 .exact ⟨(by intro q; cases q),rfl⟩
 .exact ⟨(by intro q; cases q),rfl⟩
 .exact ⟨(by intro q; cases q),rfl⟩
theorem restrict (h:Hold γ M w (oI body g i b s rec)):Hold (gR γ) M w (oR body g):=by
 refine ⟨fun id x hx=>?_,fun id hu=>?_,fun k k' x x' c h1 h2 h3 h4 h5 h6=>?_,fun k x c h1 h2 h3=>?_,⟨h.mem.toWOk,fun c ⟨k,x,h1,h2,h3⟩=>?_⟩⟩
 .rcases keyR (body:=body) (g:=g) (i:=id) (by rw [hx]; simp) with rfl | rfl | rfl
  .cases hx
   obtain ⟨c,vs,e,h1,h2,h3,h4,h5⟩:=h.ob 7 _ rfl
   refine ⟨c,vs,e,h1,h2,h3,fun j hj=>?_,h5⟩
   have hj0:j=0:=by simp at hj; omega
   subst hj0
   exact ⟨(h4 0 hj).1.p_any (MLe.refl M),(h4 0 hj).2⟩
  .cases hx
   obtain ⟨c,vs,e,h1,h2,h3,h4,h5⟩:=h.ob 8 _ rfl
   refine ⟨c,vs,e,h1,h2,h3,fun j hj=>?_,h5⟩
   have hj0:j=0:=by simp at hj; omega
   subst hj0
   refine ⟨?_,(h4 0 hj).2⟩
   obtain ⟨ad,k,n,cap,hg,he⟩:=(show ARel γ M (.arr 81) (vs.getD 0 undef) from (h4 0 hj).1).arr_inv
   show ARel (gR γ) M (.arr 81) (vs.getD 0 undef)
   rw [he]; exact .arr _ _ _ _ _ hg
  .cases hx
   exact h.ob 81 _ rfl
 .refine gR_none fun q=>?_
  rcases q with rfl | rfl | rfl <;> cases hu
 .obtain ⟨a1,a2⟩:=upR (γ:=γ) (i:=i) (b:=b) (s:=s) (rec:=rec) h1
  obtain ⟨b1,b2⟩:=upR (γ:=γ) (i:=i) (b:=b) (s:=s) (rec:=rec) h2
  exact h.sep k k' x x' c a1 b1 (a2 ▸ h3) (b2 ▸ h4) h5 h6
 .obtain ⟨a1,a2⟩:=upR (γ:=γ) (i:=i) (b:=b) (s:=s) (rec:=rec) h1
  exact h.lt k x c a1 (a2 ▸ h2) h3
 .obtain ⟨a1,a2⟩:=upR (γ:=γ) (i:=i) (b:=b) (s:=s) (rec:=rec) h1
  exact h.mem.hand c ⟨k,x,a1,a2 ▸ h2,h3⟩
end
theorem rest_ok {γ:Nat->Option G} {M:Mem} {w:World} {a:Act} {body i b:Int} {g:List (List UInt8)} {s:List UInt8} {rec:Loop} {D:Nat} {R:Ending->World->Prop}
 (hH:Hold γ M w (oI body g i b s rec)) (hD:γ 1004=some (.cell D)) (h6:ARel γ M (.p .nil) (a.tmps.getD 6 undef)) (h7:ARel γ M (.ref 7 0) (a.tmps.getD 7 undef)) (h8:ARel γ M (.ref 8 0) (a.tmps.getD 8 undef))
 (hdf:a.defers=[markOf D]) (hnt:a.tmps.size=98) (hg:g.length<=1000000) (hx:∀ x ∈ g,x≠[]/\x.length<=1000000)
 (hR:∀ (v:Value) (M2:Mem) (w3:World),MOk M2 w3->MLe M M2->w.heap.size<=w3.heap.size->w3.os=w.os->w3.tape=w.tape->w3.output=w.output->
  (∀ c,c < w.heap.size->¬ Go.Am.Handed (gR γ) (oR body g) c->c≠D->w3.heap[c]?=w.heap[c]?/\M2 c=M c)->ARel γ0 M2 (.tup [.p (.list 2 (.dat (.pair .str .str) (fieldsS g))),.p (.int .i64 body)]) v->R (.returned v) w3):
 (at_ cS [1,1,1,1,1]).wpIn (FW none) 0 Tryz.prog (bodyPostM (FW none) 0 Tryz.prog Tryz.f34 R) a w:=by
 have hHR:=restrict hH
 have hG:CfgOk GT Tryz.prog (ctxOf w M (gR γ) (oR body g) [] 98 none [markOf D]):=⟨rfl,GT_env,GT_envR,ctxOf_ok,Checked.mixed Tryz.checked⟩
 have hnD:¬ Go.Am.Handed (gR γ) (oR body g) D:=by
  rintro ⟨id,x,h1,h2,h3⟩
  obtain ⟨a1,a2⟩:=upR (γ:=γ) (i:=i) (b:=b) (s:=s) (rec:=rec) h1
  have:=hH.sep id 1004 x _ D a1 (by intro q; cases q) (a2 ▸ h2) hD h3 rfl
  rcases keyR h1 with e | e | e <;> omega
 obtain ⟨hD0,hDlt⟩:=hH.raw_at (id:=1004) (x:=.deferred (some [])) rfl hD
 refine wpIn_pieceLp hG 1000002 [1,1,1,1,1] ((rest_eq 1000002 body g).trans (rest_spec 1000002 g body hg hx g 1000002 0 [] rfl (by omega) (by omega) (by simp)))
  ⟨gR γ,M,hHR.lend (sl_cons (h6.p_any (MLe.refl M)) (sl_cons (h7.ref_kept fun x h=>h) (sl_cons (h8.ref_kept fun x h=>h) sl_nil))) hdf hnt⟩ fun e s' a' w' hk hs'=>?_
 obtain ⟨he,hres,_⟩:=kP_get hk
 obtain ⟨γ2,M2,h2⟩:=hs'
 have hfr:∀ c,c < w.heap.size->¬ Go.Am.Handed (gR γ) (oR body g) c->w'.heap[c]?=w.heap[c]?/\M2 c=M c:=fun c h h'=>⟨h2.fr.block c h h',h2.new c h h'⟩
 have hDw:w'.heap[D]?=some (.deferred (some [])):=(hfr D hDlt hnD).1.trans hD0
 have hMD:∀ q,M2 D q=none:=fun q=>h2.mem.dfr hDw
 have h4:StG { w0:=w'.putObj D (.deferred none),M0:=M2,own:=fun c=>c≠D/\¬ IsTab c,nt:=98,g0:=γ0 } γ2 M2 s' { a' with defers:=[] } (w'.putObj D (.deferred none)):=by
  refine h2.reroot rfl rfl (fun id x c c1 c2 c3=>?_) (by simp) (h2.mem.put hMD) rfl rfl rfl (fun _ _ h=>by cases h) ⟨h2.fr.tabs.keep fun c _ hc=>World.putObj_heap_other fun e=>hH.mem.hand D ⟨1004,_,(by intro q; cases q),hD,rfl⟩ (e ▸ hc),fun c hc=>hc.2⟩
  have hne:c≠D:=by
   rintro rfl
   rcases (h2.lo id x _ c1 c2 c3).1 with q | q
   .exact absurd (show w.heap.size<=c from q) (by omega)
   .exact hnD q
  exact ⟨⟨hne,h2.notab c1 c2 c3⟩,World.putObj_heap_other hne⟩
 obtain ⟨v,hv,hr⟩:=aresults_sound h4 Tryz.f34 hres
 have hsz:w.heap.size<=(w'.putObj D (.deferred none)).heap.size:=by have:w.heap.size<=w'.heap.size:=h2.fr.size; simpa using this
 have hlv:LeavesInM (FW none) 0 Tryz.prog Tryz.f34 a'.tmps R a'.defers .returning w':=by
  rw [show a'.defers=[markOf D] from h2.df]
  refine ⟨by simp,.inl ⟨D,_,rfl,run_takeDeferred hDw,v,hv,hR v M2 _ h4.mem h2.le hsz h2.fr.os h2.fr.tape h2.fr.output (fun c c1 c2 c3=>?_) hr⟩⟩
  exact ⟨(World.putObj_heap_other c3).trans (hfr c c1 c2).1,(hfr c c1 c2).2⟩
 rcases he with rfl | rfl
 .exact hlv
 .exact hlv
theorem chain5 {C:Ctx} {P:Program} {st:S} {a:Act} {w:World} {x:Ans} {Gc:Cfg} (hG:CfgOk Gc P C) {c1 c2 c3 c4 c5 c6 c7:Code} {k:K} {Q:Exit->Act->World->Prop}
 (hv:runC Gc agNone [] c1 st (kNext Gc c2 (kNext Gc c3 (kNext Gc c4 (kNext Gc c5 k))))=some x) (hs:St C st a w)
 (hn:∀ st a w,k .normal st=some x->St C st a w->c6.wpIn (FW C.rd) 0 P (Exit.then (c7.wpIn (FW C.rd) 0 P Q) Q) a w)
 (he:∀ e st a w,e≠.normal->k e st=some x->St C st a w->Q e a w):
 (Code.seq c1 (.seq c2 (.seq c3 (.seq c4 (.seq (.seq c5 c6) c7))))).wpIn (FW C.rd) 0 P Q a w:=by
 refine wpIn_seq (wpIn_piece hG hv hs fun e s1 a1 w1 hk1 hs1=>?_)
 cases e with
 | normal=>
  refine wpIn_seq (wpIn_piece hG (s:=s1) hk1 hs1 fun e s2 a2 w2 hk2 hs2=>?_)
  cases e with
  | normal=>
   refine wpIn_seq (wpIn_piece hG (s:=s2) hk2 hs2 fun e s3 a3 w3 hk3 hs3=>?_)
   cases e with
   | normal=>
    refine wpIn_seq (wpIn_piece hG (s:=s3) hk3 hs3 fun e s4 a4 w4 hk4 hs4=>?_)
    cases e with
    | normal=>
     refine wpIn_seq (wpIn_seq (wpIn_piece hG (s:=s4) hk4 hs4 fun e s5 a5 w5 hk5 hs5=>?_))
     cases e with
     | normal=>exact hn s5 a5 w5 hk5 hs5
     | exit i=>exact he (.exit i) s5 a5 w5 (by simp) hk5 hs5
     | ret=>exact he .ret s5 a5 w5 (by simp) hk5 hs5
     | goto i=>exact he (.goto i) s5 a5 w5 (by simp) hk5 hs5
     | panic i=>exact he (.panic i) s5 a5 w5 (by simp) hk5 hs5
     | outgrown=>exact he .outgrown s5 a5 w5 (by simp) hk5 hs5
    | exit i=>exact he (.exit i) s4 a4 w4 (by simp) hk4 hs4
    | ret=>exact he .ret s4 a4 w4 (by simp) hk4 hs4
    | goto i=>exact he (.goto i) s4 a4 w4 (by simp) hk4 hs4
    | panic i=>exact he (.panic i) s4 a4 w4 (by simp) hk4 hs4
    | outgrown=>exact he .outgrown s4 a4 w4 (by simp) hk4 hs4
   | exit i=>exact he (.exit i) s3 a3 w3 (by simp) hk3 hs3
   | ret=>exact he .ret s3 a3 w3 (by simp) hk3 hs3
   | goto i=>exact he (.goto i) s3 a3 w3 (by simp) hk3 hs3
   | panic i=>exact he (.panic i) s3 a3 w3 (by simp) hk3 hs3
   | outgrown=>exact he .outgrown s3 a3 w3 (by simp) hk3 hs3
  | exit i=>exact he (.exit i) s2 a2 w2 (by simp) hk2 hs2
  | ret=>exact he .ret s2 a2 w2 (by simp) hk2 hs2
  | goto i=>exact he (.goto i) s2 a2 w2 (by simp) hk2 hs2
  | panic i=>exact he (.panic i) s2 a2 w2 (by simp) hk2 hs2
  | outgrown=>exact he .outgrown s2 a2 w2 (by simp) hk2 hs2
 | exit i=>exact he (.exit i) s1 a1 w1 (by simp) hk1 hs1
 | ret=>exact he .ret s1 a1 w1 (by simp) hk1 hs1
 | goto i=>exact he (.goto i) s1 a1 w1 (by simp) hk1 hs1
 | panic i=>exact he (.panic i) s1 a1 w1 (by simp) hk1 hs1
 | outgrown=>exact he .outgrown s1 a1 w1 (by simp) hk1 hs1
theorem cS_eq:cS=.seq (at_ cS [0]) (.seq (at_ cS [1,0]) (.seq (at_ cS [1,1,0]) (.seq (at_ cS [1,1,1,0]) (.seq (.seq (at_ cS [1,1,1,1,0,0]) (.block 0 (.rangeFunc (.tmp 34) #[35,36] rfA rfB))) (at_ cS [1,1,1,1,1]))))):=by kernel_rfl
set_option maxHeartbeats 1000000 in
theorem fn_split (s:List UInt8) (a b:Int) (hs:s.length<=1000000):FnP Tryz.prog 34 [.p (.str s),.p (.int .i64 a),.p (.int .i64 b)] (.tup [.p (.list 2 (.dat (.pair .str .str) (splitS s a b).1)),.p (.int .i64 (splitS s a b).2)]):=by
 intro M w vs hM hvs
 obtain ⟨v0,v1,v2,rfl,r0,r1,r2⟩:∃ v0 v1 v2,vs=[v0,v1,v2]/\ARel γ0 M (.p (.str s)) v0/\ARel γ0 M (.p (.int .i64 a)) v1/\ARel γ0 M (.p (.int .i64 b)) v2:=by
  cases hvs with
  | cons h0 t=>cases t with
   | cons h1 t=>cases t with
    | cons h2 t=>cases t with
     | nil=>exact ⟨_,_,_,rfl,h0,h1,h2⟩
 refine callsIn_FW (r:=none) (n:=0) |>.1 (callsIn_of_wp_marks (F:=FW none) (fn:=Tryz.f34) (c:=cS) (by kernel_rfl) (by kernel_rfl) trivial ?_ rfl)
 obtain ⟨tm0,ht0⟩:∃ x,[v0,v1,v2].toArray++Array.replicate (Tryz.f34.ntmps - [v0,v1,v2].toArray.size) undef=x:=⟨_,rfl⟩
 have hnn:Tryz.f34.ntmps=98:=by kernel_rfl
 have z0:tm0.getD 0 undef=v0:=by rw [<-ht0]; simp [Array.getD_eq_getD_getElem?]
 have z1:tm0.getD 1 undef=v1:=by rw [<-ht0]; simp [Array.getD_eq_getD_getElem?]
 have z2:tm0.getD 2 undef=v2:=by rw [<-ht0]; simp [Array.getD_eq_getD_getElem?]
 have z4:tm0.size=98:=by rw [<-ht0,hnn]; simp
 rw [ht0]
 clear ht0 hnn
 rw [cS_eq]
 have hst:=st_init (nt:=98) (l:=[(0,.p (.str s)),(1,.p (.int .i64 a)),(2,.p (.int .i64 b))]) (tm:=tm0) hM (sl_cons (by rw [z0]; exact r0) (sl_cons (by rw [z1]; exact r1) (sl_cons (by rw [z2]; exact r2) sl_nil))) z4
 have hG:CfgOk GS0 Tryz.prog { w0:=w,M0:=M,own:=fun _=>False,nt:=98,g0:=γ0 }:=⟨rfl,GS0_env,GS0_envR,⟨rfl,fun _ _ h=>by cases h⟩,Checked.mixed Tryz.checked⟩
 by_cases hbad:a < 0\/b > s.length\/a > b
 .have hv:=(pre_eq s a b).trans (cond_t (by simp only [Bool.or_eq_true,decide_eq_true_eq]; omega) rfl)
  have hsp:splitS s a b=([],a):=by unfold splitS; rw [if_pos hbad]
  rw [hsp]
  refine chain5 hG hv ⟨γ0,M,hst⟩ (fun st' a' w' hk _=>?_) (fun e st' a' w' hne hk hs'=>?_)
  .have:=(kTag_get (C:={ w0:=w,M0:=M,own:=fun _=>False,nt:=98,g0:=γ0 }) (nt:=98) ⟨rfl,fun _ _ h=>by cases h⟩ hk).1
   cases this
  .cases e with
   | ret=>
    have hk2:kP Tryz.prog Tryz.f34.results.toList .ret st'=some (.tup [.p .nil,.p (.int .i64 a)],[]):=hk
    obtain ⟨_,hres,_⟩:=kP_get hk2
    obtain ⟨γ1,M1,h1⟩:=hs'
    obtain ⟨v,hv,hr⟩:=aresults_sound h1 Tryz.f34 hres
    show LeavesInM (FW none) 0 Tryz.prog Tryz.f34 a'.tmps _ a'.defers .returning w'
    rw [show a'.defers=[] from h1.df]
    exact ⟨v,hv,v,M1,rfl,h1.le,fun c hc=>h1.new c hc (fun h=>h),h1.mem,ARel.tup_head (fun _ h=>ARel.nil_list rfl h) hr,h1.fr.os,h1.fr.tape,h1.fr.output,h1.fr.size,fun c hc=>h1.fr.block c hc (fun h=>h)⟩
   | normal=>exact absurd rfl hne
   | exit i=>cases hk
   | goto i=>cases hk
   | panic i=>cases hk
   | outgrown=>cases hk
 .have hv:=(pre_eq s a b).trans (cond_f (by simp only [Bool.or_eq_false_iff,decide_eq_false_iff_not]; omega) rfl)
  obtain ⟨na,rfl⟩:∃ n:Nat,a=n:=⟨a.toNat,by omega⟩
  obtain ⟨nb,rfl⟩:∃ n:Nat,b=n:=⟨b.toNat,by omega⟩
  have hsp:splitS s (na:Int) (nb:Int)=(fieldsS (gathS (linesN s na nb) (nb:Int) []).1,(gathS (linesN s na nb) (nb:Int) []).2):=by unfold splitS; rw [if_neg hbad,Int.toNat_natCast,Int.toNat_natCast]
  rw [hsp]
  obtain ⟨fin,hfin⟩:∃ fin,gathS (linesN s na nb) (nb:Int) []=fin:=⟨_,rfl⟩
  have hne:=gath_ne (linesN s na nb) (nb:Int) [] (by simp)
  rw [hfin] at hne ⊢
  refine chain5 hG hv ⟨γ0,M,hst⟩ (fun st' a5 w5 hk hs'=>?_) (fun e st' a' w' hne hk hs'=>?_)
  .obtain ⟨_,hsub⟩:=kTag_get (C:={ w0:=w,M0:=M,own:=fun _=>False,nt:=98,g0:=γ0 }) (nt:=98) ⟨rfl,fun _ _ h=>by cases h⟩ hk
   obtain ⟨γ5,M5,h5⟩:=hsub _ _ hs'
   have hH5:=Hold.of_st h5
   have r6:ARel γ5 M5 (.p .nil) (a5.tmps.getD 6 undef):=h5.sl 6
   have r7:ARel γ5 M5 (.ref 7 0) (a5.tmps.getD 7 undef):=h5.sl 7
   have r8:ARel γ5 M5 (.ref 8 0) (a5.tmps.getD 8 undef):=h5.sl 8
   obtain ⟨p,q,r,hcl,rp,rq,rr⟩:=ARel.clo3 (fn:=.func 97) (x:=.ref 1001 0) (y:=.ref 1002 0) (z:=.ref 1003 0) (h5.sl 34)
   refine wpIn_block (wpIn_rangeFunc_st (gf:=97) (lb:=#[p,q,r]) hcl (by kernel_rfl) ?_)
   intro fn mkR hmk
   obtain ⟨hHa,hCa⟩:=hH5.addraw (id:=1004) rfl (.deferred (some []))
   obtain ⟨hHb,hCb⟩:=hHa.addraw (id:=1005) rfl (.loop (mkRec fn a5.tmps w5.heap.size .ready none))
   have esz:(w5.alloc (.deferred (some []))).heap.size=w5.heap.size+1:=by simp
   rw [esz] at hHb hCb
   obtain ⟨γb,hγb⟩:∃ x,upd (upd γ5 1004 (some (.cell w5.heap.size))) 1005 (some (.cell (w5.heap.size+1)))=x:=⟨_,rfl⟩
   have hb5:γb 1005=some (.cell (w5.heap.size+1)):=by rw [<-hγb]; exact upd_same _ _ _
   have hb4:γb 1004=some (.cell w5.heap.size):=by rw [<-hγb]; exact (upd_ne _ _ (by decide)).trans (upd_same _ _ _)
   have hup:∀ k,k≠1004->k≠1005->∀ x,γ5 k=some x->γb k=some x:=by
    intro k k1 k2 x hx
    rw [<-hγb]; exact (upd_ne _ _ k2).trans ((upd_ne _ _ k1).trans hx)
   rw [hγb] at hHb hCb
   have hmkr:∀ st pe,mkR st pe=mkRec fn a5.tmps w5.heap.size st pe:=fun st pe=>by rw [hmk]; rfl
   rw [hmkr .ready none]
   have hit:=iter_ok (s:=s) (a:=na) (b:=nb) (fn:=fn) (tm:=a5.tmps) (D:=w5.heap.size) (l:=w5.heap.size+1) (p:=p) (q:=q) (r:=r) hHb hb5 (r7.ref_kept (hup 7 (by decide) (by decide))) (r8.ref_kept (hup 8 (by decide) (by decide)))
    (rp.ref_kept (hup 1001 (by decide) (by decide))) (rq.ref_kept (hup 1002 (by decide) (by decide))) (rr.ref_kept (hup 1003 (by decide) (by decide))) h5.nt (by omega) (by omega) hs
   rw [hfin] at hit
   refine hit.mono ?_
   rintro e W2 ⟨hv2,γ',M',i,st,pe,hH,hC,hK,hcase,hgl,hgx⟩
   refine ⟨hv2,?_⟩
   have hl2:=hK 1005 (by decide) _ hb5
   have hd2:=hK 1004 (by decide) _ hb4
   obtain ⟨hHx,hCx⟩:=oI_rec (mkRec fn a5.tmps w5.heap.size .exhausted pe) hH hl2
   have hCC:=((hCa.trans hCb).trans hC).trans hCx
   have hout:∀ c,c < w.heap.size->¬ Go.Am.Handed γ5 (oI (nb:Int) [] (na:Int) (nb:Int) s (mkRec fn a5.tmps w5.heap.size .ready none)).tail.tail c:=by
    rintro c hc ⟨id,x,c1,c2,c3⟩
    rcases (h5.lo id x c c1 c2 c3).1 with q | q
    .exact absurd (show w.heap.size<=c from q) (by omega)
    .exact q
   have hsz5:w.heap.size<=w5.heap.size:=h5.fr.size
   have hrest:∀ st0:LoopState,(at_ cS [1,1,1,1,1]).wpIn (FW none) 0 Tryz.prog (bodyPostM (FW none) 0 Tryz.prog Tryz.f34 fun e w'=>∃ v M',e=.returned v/\MLe M M'/\(∀ c,c < w.heap.size->M' c=M c)/\MOk M' w'/\
    ARel γ0 M' (.tup [.p (.list 2 (.dat (.pair .str .str) (fieldsS fin.1))),.p (.int .i64 fin.2)]) v/\RowKit.Below w.heap.size w w') { a5 with defers:=markOf w5.heap.size::a5.defers } (W2.putObj (w5.heap.size+1) (.loop (mkRec fn a5.tmps w5.heap.size .exhausted pe))):=by
    intro _
    refine rest_ok hHx hd2 (r6.p_any hCC.le) (r7.ref_kept fun x hx=>hK 7 (by decide) x (hup 7 (by decide) (by decide) x hx)) (r8.ref_kept fun x hx=>hK 8 (by decide) x (hup 8 (by decide) (by decide) x hx)) (by show _::a5.defers=_; rw [show a5.defers=[] from h5.df]) h5.nt (by omega) (fun x hx=>⟨hne x hx,by have:=hgx x hx; omega⟩) ?_
    intro v M2 w3 k1 k2 k3 k4 k5 k6 k7 k8
    have hcc:∀ c,c < w.heap.size->w3.heap[c]?=w.heap[c]?/\M2 c=M c:=by
     intro c hc
     have g1:=hCC.old c (by omega) (hout c hc)
     have g2:=k7 c (Nat.lt_of_lt_of_le (by omega) hCC.size) ?_ (by omega)
     .exact ⟨(g2.1.trans g1.1).trans (h5.fr.block c hc (fun h=>h)),(g2.2.trans g1.2).trans (h5.new c hc (fun h=>h))⟩
     .rintro ⟨id,x,c1,c2,c3⟩
      obtain ⟨u1,u2⟩:=upR (γ:=γ') (i:=i) (b:=(nb:Int)) (s:=s) (rec:=mkRec fn a5.tmps w5.heap.size .exhausted pe) c1
      rcases hCC.new c ⟨id,x,u1,u2 ▸ c2,c3⟩ with q | q
      .omega
      .exact hout c hc q
    have hsz:w.heap.size<=w3.heap.size:=Nat.le_trans hsz5 (Nat.le_trans hCC.size k3)
    exact ⟨v,M2,rfl,h5.le.trans (hCC.le.trans k2),fun c hc=>(hcc c hc).2,k1,k8,k4.trans (hCC.os.trans h5.fr.os),k5.trans (hCC.tape.trans h5.fr.tape),k6.trans (hCC.output.trans h5.fr.output),hsz,fun c hc=>(hcc c hc).1⟩
   simp only [hmkr]
   rcases hcase with ⟨rfl,rfl⟩ | ⟨rfl,rfl⟩
   .exact .inl ⟨(hH.raw_at lookO_hd hl2).1,hrest .ready⟩
   .refine .inr ⟨.exit 0,(hH.raw_at lookO_hd hl2).1,wpIn_exit ?_⟩
    exact hrest .ready
  .cases e with
   | ret=>
    simp only [kPre,kP] at hk
    split at hk <;> cases hk
   | normal=>exact absurd rfl hne
   | exit i=>cases hk
   | goto i=>cases hk
   | panic i=>cases hk
   | outgrown=>cases hk
def sp_split:List AV->Option (AV×Option Prop)
 | [.p (.str s),.p (.int .i64 a),.p (.int .i64 b)]=>some (.tup [.p (.list 2 (.dat (.pair .str .str) (splitS s a b).1)),.p (.int .i64 (splitS s a b).2)],some (s.length<=1000000))
 | _=>none
theorem ok_split:SpecOk Tryz.prog 34 sp_split:=by
 intro zs r ok he hok
 unfold sp_split at he
 split at he
 .cases he; exact ⟨by kernel_rfl,fn_split _ _ _ hok⟩
 .cases he
end Go.Proofs.YtampckbjinodgaaGreatDoor
