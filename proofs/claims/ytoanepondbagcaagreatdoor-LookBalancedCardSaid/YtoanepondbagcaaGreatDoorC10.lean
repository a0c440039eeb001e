/-
  Lifted functions, and facts about them.
-/
import Derived.Test.YtoanepondbagcaaGreatDoorRows
import Derived.Test.YtoanepondbagcaaGreatDoorAmC
import Derived.Test.YtoanepondbagcaaGreatDoorC09
import Derived.Test.YtoanepondbagcaaGreatDoorC01
import Derived.Test.YtoanepondbagcaaGreatDoorC02
namespace Go.Proofs.YtoanepondbagcaaGreatDoor
open Go Go.Am
set_option linter.unusedVariables false
theorem kP_get {P:Program} {rs:List ResultVar} {e:Exit} {st:S} {x:AV} {o:List (Nat×AObj)} (h:kP P rs e st=some (x,o)):(e=.normal\/e=.ret)/\aresults P st rs=some x/\o=[]:=by
 cases e <;> first
  | cases h
  | (simp only [kP] at h
     split at h
     .rename_i y hy; cases h; exact ⟨by simp,hy,rfl⟩
     .cases h)
theorem fieldsS_cons (c:List UInt8) (r:List (List UInt8)):fieldsS (c::r)=(if (oneF c).2=true then [(oneF c).1] else [])++fieldsS r:=by
 unfold fieldsS
 rw [List.filterMap_cons]
 split
 .rename_i h
  split at h
  .cases h
  .rename_i h2; rw [if_neg h2]; rfl
 .rename_i x h
  split at h
  .rename_i h2; rw [if_pos h2]; cases h; rfl
  .cases h
theorem rest_spec (F:Nat) (g:List (List UInt8)) (body:Int) (hg:g.length<=1000000) (hx:∀ x ∈ g,x≠[]/\x.length<=1000000):∀ (r:List (List UInt8)) (f i:Nat) (acc:List (List UInt8×List UInt8)),g.drop i=r->r.length < f->i<=g.length->acc.length<=i->
 Brest_1 F f (g.length:Int) (i:Int) acc body g=some (.tup [.p (.list 2 (.dat (.pair .str .str) (acc++fieldsS r))),.p (.int .i64 body)],[]):=by
 intro r
 induction r with
 | nil=>
  intro f i acc hd hf hi ha
  have:i=g.length:=by have:=congrArg List.length hd; simp at this; omega
  cases f with
  | zero=>omega
  | succ f=>
   rw [Brest_1_eq]
   refine cond_f (by simp; omega) ?_
   rw [show fieldsS []=[] from rfl,List.append_nil]
 | cons c r ih=>
  intro f i acc hd hf hi ha
  obtain ⟨h1,h2,h3⟩:=dropG hd []
  have hc:=hx c (by rw [<-h1]; exact getD_mem h3 [])
  have hcl:=List.length_pos_iff.2 hc.1
  cases f with
  | zero=>omega
  | succ f=>
   have nxt:∀ acc',acc'.length<=i+1->Brest_3 F f (g.length:Int) (i:Int) acc' body g=some (.tup [.p (.list 2 (.dat (.pair .str .str) (acc'++fieldsS r))),.p (.int .i64 body)],[]):=by
    intro acc' ha'
    rw [Brest_3_eq]
    refine need_mk (by unfold i64ok; omega) ?_
    rw [show (i:Int)+1=((i+1:Nat):Int) by omega]
    exact ih f (i+1) acc' h2 (by simp at hf; omega) (by omega) ha'
   rw [Brest_1_eq]
   rw [Int.toNat_natCast,h1]
   refine cond_t (by simp; omega) (need_mk ⟨by omega,by omega⟩ (need_mk h3 (need_mk (fun _=>⟨by omega,by omega⟩) (need_mk (fun _=>⟨by omega,by omega⟩) ?_))))
   rw [isBlank_eq hc.1,Brest_2_eq,fieldsS_cons]
   cases hb:((i:Int)==0&&isBlank1 c) with
   | true=>
    rw [Bool.and_eq_true] at hb
    rw [if_neg (by rw [oneF_blank hb.2]; simp),List.nil_append]
    exact cond_t rfl (nxt acc (by omega))
   | false=>
    refine cond_f rfl (need_mk hc.2 ?_)
    cases ho:(oneF c).2 with
    | true=>
     refine cond_t rfl (need_mk (by simp; omega) ?_)
     rw [if_pos rfl,<-List.append_assoc]
     exact nxt _ (by simp; omega)
    | false=>
     rw [if_neg (by simp),List.nil_append]
     exact cond_f rfl (nxt acc (by omega))
theorem gath_ne:∀ (L:List (Nat×List UInt8×Nat)) (body:Int) (g:List (List UInt8)),(∀ x ∈ g,x≠[])->∀ x ∈ (gathS L body g).1,x≠[]
 | [],body,g,h=>by rw [gathS]; exact h
 | (i,t,nx)::r,body,g,h=>by
  rw [gathS]
  split
  .exact h
  .rename_i h0
   split
   .refine gath_ne r body _ fun x hx=>?_
    rcases List.mem_or_eq_of_mem_set hx with hx | hx
    .exact h x hx
    .rw [hx]; intro q; exact h0 (List.append_eq_nil_iff.1 q).2
   .refine gath_ne r body _ fun x hx=>?_
    rcases List.mem_append.1 hx with hx | hx
    .exact h x hx
    .rw [List.mem_singleton.1 hx]; exact h0
def gR (γ:Nat->Option G):Nat->Option G:=fun k=>match Nat.beq k 7||(Nat.beq k 8||Nat.beq k 81) with | true=>γ k | false=>none
theorem keyR {body:Int} {g:List (List UInt8)} {i:Nat} (h:lookO i (oR body g)≠none):i=7\/i=8\/i=81:=by
 by_cases h7:i=7
 .exact .inl h7
 .by_cases h8:i=8
  .exact .inr (.inl h8)
  .by_cases h9:i=81
   .exact .inr (.inr h9)
   .exfalso; apply h
    have e7:Nat.beq i 7=false:=by cases hb:Nat.beq i 7 with | false=>rfl | true=>exact absurd (Nat.eq_of_beq_eq_true hb) h7
    have e8:Nat.beq i 8=false:=by cases hb:Nat.beq i 8 with | false=>rfl | true=>exact absurd (Nat.eq_of_beq_eq_true hb) h8
    have e9:Nat.beq i 81=false:=by cases hb:Nat.beq i 81 with | false=>rfl | true=>exact absurd (Nat.eq_of_beq_eq_true hb) h9
    simp only [oR,lookO,e7,e8,e9]
theorem gR_none {γ:Nat->Option G} {i:Nat} (h:¬ (i=7\/i=8\/i=81)):gR γ i=none:=by
 unfold gR
 have e7:Nat.beq i 7=false:=by cases hb:Nat.beq i 7 with | false=>rfl | true=>exact absurd (.inl (Nat.eq_of_beq_eq_true hb)) h
 have e8:Nat.beq i 8=false:=by cases hb:Nat.beq i 8 with | false=>rfl | true=>exact absurd (.inr (.inl (Nat.eq_of_beq_eq_true hb))) h
 have e9:Nat.beq i 81=false:=by cases hb:Nat.beq i 81 with | false=>rfl | true=>exact absurd (.inr (.inr (Nat.eq_of_beq_eq_true hb))) h
 rw [e7,e8,e9]; rfl
section
variable {γ:Nat->Option G} {M:Mem} {w:World} {body i b:Int} {g:List (List UInt8)} {s:List UInt8} {rec:Loop}
theorem upR {k:Nat} (h:lookO k (oR body g)≠none):lookO k (oI body g i b s rec)≠none/\gR γ k=γ k:=by
 rcases keyR h with rfl | rfl | rfl
 .exact ⟨(by intro q; cases q),rfl⟩
 .exact ⟨(by intro q; cases q),rfl⟩
 .exact ⟨(by intro q; cases q),rfl⟩
theorem restrict (h:Hold γ M w (oI body g i b s rec)):Hold (gR γ) M w (oR body g):=by
 refine ⟨fun id x hx=>?_,fun id hu=>?_,fun k k' x x' c h1 h2 h3 h4 h5 h6=>?_,fun k x c h1 h2 h3=>?_,⟨h.mem.toWOk,fun c ⟨k,x,h1,h2,h3⟩=>?_⟩⟩
 .rcases keyR (body:=body) (g:=g) (i:=id) (by rw [hx]; simp) with rfl | rfl | rfl
  .cases hx
   obtain ⟨c,vs,e,h1,h2,h3,h4,h5⟩:=h.ob 7 _ rfl
   refine ⟨c,vs,e,h1,h2,h3,fun j hj=>?_,h5⟩
   have hj0:j=0:=by simp at hj; omega
   subst hj0
   exact ⟨(h4 0 hj).1.p_any (MLe.refl M),(h4 0 hj).2⟩
  .cases hx
   obtain ⟨c,vs,e,h1,h2,h3,h4,h5⟩:=h.ob 8 _ rfl
   refine ⟨c,vs,e,h1,h2,h3,fun j hj=>?_,h5⟩
   have hj0:j=0:=by simp at hj; omega
   subst hj0
   refine ⟨?_,(h4 0 hj).2⟩
   obtain ⟨ad,k,n,cap,hg,he⟩:=(show ARel γ M (.arr 81) (vs.getD 0 undef) from (h4 0 hj).1).arr_inv
   show ARel (gR γ) M (.arr 81) (vs.getD 0 undef)
   rw [he]; exact .arr _ _ _ _ _ hg
  .cases hx
   exact h.ob 81 _ rfl
 .refine gR_none fun q=>?_
  rcases q with rfl | rfl | rfl <;> cases hu
 .obtain ⟨a1,a2⟩:=upR (γ:=γ) (i:=i) (b:=b) (s:=s) (rec:=rec) h1
  obtain ⟨b1,b2⟩:=upR (γ:=γ) (i:=i) (b:=b) (s:=s) (rec:=rec) h2
  exact h.sep k k' x x' c a1 b1 (a2 ▸ h3) (b2 ▸ h4) h5 h6
 .obtain ⟨a1,a2⟩:=upR (γ:=γ) (i:=i) (b:=b) (s:=s) (rec:=rec) h1
  exact h.lt k x c a1 (a2 ▸ h2) h3
 .obtain ⟨a1,a2⟩:=upR (γ:=γ) (i:=i) (b:=b) (s:=s) (rec:=rec) h1
  exact h.mem.hand c ⟨k,x,a1,a2 ▸ h2,h3⟩
end
theorem rest_ok {γ:Nat->Option G} {M:Mem} {w:World} {a:Act} {body i b:Int} {g:List (List UInt8)} {s:List UInt8} {rec:Loop} {D:Nat} {R:Ending->World->Prop}
 (hH:Hold γ M w (oI body g i b s rec)) (hD:γ 1004=some (.cell D)) (h6:ARel γ M (.p .nil) (a.tmps.getD 6 undef)) (h7:ARel γ M (.ref 7 0) (a.tmps.getD 7 undef)) (h8:ARel γ M (.ref 8 0) (a.tmps.getD 8 undef))
 (hdf:a.defers=[markOf D]) (hnt:a.tmps.size=98) (hg:g.length<=1000000) (hx:∀ x ∈ g,x≠[]/\x.length<=1000000)
 (hR:∀ (v:Value) (M2:Mem) (w3:World),MOk M2 w3->MLe M M2->w.heap.size<=w3.heap.size->w3.os=w.os->w3.tape=w.tape->w3.output=w.output->
  (∀ c,c < w.heap.size->¬ Go.Am.Handed (gR γ) (oR body g) c->c≠D->w3.heap[c]?=w.heap[c]?/\M2 c=M c)->ARel γ0 M2 (.tup [.p (.list 2 (.dat (.pair .str .str) (fieldsS g))),.p (.int .i64 body)]) v->R (.returned v) w3):
 (at_ cS [1,1,1,1,1]).wpIn (FW none) 0 Tryz.prog (bodyPostM (FW none) 0 Tryz.prog Tryz.f46 R) a w:=by
 have hHR:=restrict hH
 have hG:CfgOk GT Tryz.prog (ctxOf w M (gR γ) (oR body g) [] 98 none [markOf D]):=⟨rfl,GT_env,GT_envR,ctxOf_ok,Checked.mixed Tryz.checked⟩
 have hnD:¬ Go.Am.Handed (gR γ) (oR body g) D:=by
  rintro ⟨id,x,h1,h2,h3⟩
  obtain ⟨a1,a2⟩:=upR (γ:=γ) (i:=i) (b:=b) (s:=s) (rec:=rec) h1
  have:=hH.sep id 1004 x _ D a1 (by intro q; cases q) (a2 ▸ h2) hD h3 rfl
  rcases keyR h1 with e | e | e <;> omega
 obtain ⟨hD0,hDlt⟩:=hH.raw_at (id:=1004) (x:=.deferred (some [])) rfl hD
 refine wpIn_pieceLp hG 1000002 [1,1,1,1,1] ((rest_eq 1000002 body g).trans (rest_spec 1000002 g body hg hx g 1000002 0 [] rfl (by omega) (by omega) (by simp)))
  ⟨gR γ,M,hHR.lend (sl_cons (h6.p_any (MLe.refl M)) (sl_cons (h7.ref_kept fun x h=>h) (sl_cons (h8.ref_kept fun x h=>h) sl_nil))) hdf hnt⟩ fun e s' a' w' hk hs'=>?_
 obtain ⟨he,hres,_⟩:=kP_get hk
 obtain ⟨γ2,M2,h2⟩:=hs'
 have hfr:∀ c,c < w.heap.size->¬ Go.Am.Handed (gR γ) (oR body g) c->w'.heap[c]?=w.heap[c]?/\M2 c=M c:=fun c h h'=>⟨h2.fr.block c h h',h2.new c h h'⟩
 have hDw:w'.heap[D]?=some (.deferred (some [])):=(hfr D hDlt hnD).1.trans hD0
 have hMD:∀ q,M2 D q=none:=fun q=>h2.mem.dfr hDw
 have h4:StG { w0:=w'.putObj D (.deferred none),M0:=M2,own:=fun c=>c≠D/\¬ IsTab c,nt:=98,g0:=γ0 } γ2 M2 s' { a' with defers:=[] } (w'.putObj D (.deferred none)):=by
  refine h2.reroot rfl rfl (fun id x c c1 c2 c3=>?_) (by simp) (h2.mem.put hMD) rfl rfl rfl (fun _ _ h=>by cases h) ⟨h2.fr.tabs.keep fun c _ hc=>World.putObj_heap_other fun e=>hH.mem.hand D ⟨1004,_,(by intro q; cases q),hD,rfl⟩ (e ▸ hc),fun c hc=>hc.2⟩
  have hne:c≠D:=by
   rintro rfl
   rcases (h2.lo id x _ c1 c2 c3).1 with q | q
   .exact absurd (show w.heap.size<=c from q) (by omega)
   .exact hnD q
  exact ⟨⟨hne,h2.notab c1 c2 c3⟩,World.putObj_heap_other hne⟩
 obtain ⟨v,hv,hr⟩:=aresults_sound h4 Tryz.f46 hres
 have hsz:w.heap.size<=(w'.putObj D (.deferred none)).heap.size:=by have:w.heap.size<=w'.heap.size:=h2.fr.size; simpa using this
 have hlv:LeavesInM (FW none) 0 Tryz.prog Tryz.f46 a'.tmps R a'.defers .returning w':=by
  rw [show a'.defers=[markOf D] from h2.df]
  refine ⟨by simp,.inl ⟨D,_,rfl,run_takeDeferred hDw,v,hv,hR v M2 _ h4.mem h2.le hsz h2.fr.os h2.fr.tape h2.fr.output (fun c c1 c2 c3=>?_) hr⟩⟩
  exact ⟨(World.putObj_heap_other c3).trans (hfr c c1 c2).1,(hfr c c1 c2).2⟩
 rcases he with rfl | rfl
 .exact hlv
 .exact hlv
theorem chain5 {C:Ctx} {P:Program} {st:S} {a:Act} {w:World} {x:Ans} {Gc:Cfg} (hG:CfgOk Gc P C) {c1 c2 c3 c4 c5 c6 c7:Code} {k:K} {Q:Exit->Act->World->Prop}
 (hv:runC Gc agNone [] c1 st (kNext Gc c2 (kNext Gc c3 (kNext Gc c4 (kNext Gc c5 k))))=some x) (hs:St C st a w)
 (hn:∀ st a w,k .normal st=some x->St C st a w->c6.wpIn (FW C.rd) 0 P (Exit.then (c7.wpIn (FW C.rd) 0 P Q) Q) a w)
 (he:∀ e st a w,e≠.normal->k e st=some x->St C st a w->Q e a w):
 (Code.seq c1 (.seq c2 (.seq c3 (.seq c4 (.seq (.seq c5 c6) c7))))).wpIn (FW C.rd) 0 P Q a w:=by
 refine wpIn_seq (wpIn_piece hG hv hs fun e s1 a1 w1 hk1 hs1=>?_)
 cases e with
 | normal=>
  refine wpIn_seq (wpIn_piece hG (s:=s1) hk1 hs1 fun e s2 a2 w2 hk2 hs2=>?_)
  cases e with
  | normal=>
   refine wpIn_seq (wpIn_piece hG (s:=s2) hk2 hs2 fun e s3 a3 w3 hk3 hs3=>?_)
   cases e with
   | normal=>
    refine wpIn_seq (wpIn_piece hG (s:=s3) hk3 hs3 fun e s4 a4 w4 hk4 hs4=>?_)
    cases e with
    | normal=>
     refine wpIn_seq (wpIn_seq (wpIn_piece hG (s:=s4) hk4 hs4 fun e s5 a5 w5 hk5 hs5=>?_))
     cases e with
     | normal=>exact hn s5 a5 w5 hk5 hs5
     | exit i=>exact he (.exit i) s5 a5 w5 (by simp) hk5 hs5
     | ret=>exact he .ret s5 a5 w5 (by simp) hk5 hs5
     | goto i=>exact he (.goto i) s5 a5 w5 (by simp) hk5 hs5
     | panic i=>exact he (.panic i) s5 a5 w5 (by simp) hk5 hs5
     | outgrown=>exact he .outgrown s5 a5 w5 (by simp) hk5 hs5
    | exit i=>exact he (.exit i) s4 a4 w4 (by simp) hk4 hs4
    | ret=>exact he .ret s4 a4 w4 (by simp) hk4 hs4
    | goto i=>exact he (.goto i) s4 a4 w4 (by simp) hk4 hs4
    | panic i=>exact he (.panic i) s4 a4 w4 (by simp) hk4 hs4
    | outgrown=>exact he .outgrown s4 a4 w4 (by simp) hk4 hs4
   | exit i=>exact he (.exit i) s3 a3 w3 (by simp) hk3 hs3
   | ret=>exact he .ret s3 a3 w3 (by simp) hk3 hs3
   | goto i=>exact he (.goto i) s3 a3 w3 (by simp) hk3 hs3
   | panic i=>exact he (.panic i) s3 a3 w3 (by simp) hk3 hs3
   | outgrown=>exact he .outgrown s3 a3 w3 (by simp) hk3 hs3
  | exit i=>exact he (.exit i) s2 a2 w2 (by simp) hk2 hs2
  | ret=>exact he .ret s2 a2 w2 (by simp) hk2 hs2
  | goto i=>exact he (.goto i) s2 a2 w2 (by simp) hk2 hs2
  | panic i=>exact he (.panic i) s2 a2 w2 (by simp) hk2 hs2
  | outgrown=>exact he .outgrown s2 a2 w2 (by simp) hk2 hs2
 | exit i=>exact he (.exit i) s1 a1 w1 (by simp) hk1 hs1
 | ret=>exact he .ret s1 a1 w1 (by simp) hk1 hs1
 | goto i=>exact he (.goto i) s1 a1 w1 (by simp) hk1 hs1
 | panic i=>exact he (.panic i) s1 a1 w1 (by simp) hk1 hs1
 | outgrown=>exact he .outgrown s1 a1 w1 (by simp) hk1 hs1
theorem cS_eq:cS=.seq (at_ cS [0]) (.seq (at_ cS [1,0]) (.seq (at_ cS [1,1,0]) (.seq (at_ cS [1,1,1,0]) (.seq (.seq (at_ cS [1,1,1,1,0,0]) (.block 0 (.rangeFunc (.tmp 34) #[35,36] rfA rfB))) (at_ cS [1,1,1,1,1]))))):=by kernel_rfl
set_option maxHeartbeats 1000000 in
theorem fn_split (s:List UInt8) (a b:Int) (hs:s.length<=1000000):FnP Tryz.prog 46 [.p (.str s),.p (.int .i64 a),.p (.int .i64 b)] (.tup [.p (.list 2 (.dat (.pair .str .str) (splitS s a b).1)),.p (.int .i64 (splitS s a b).2)]):=by
 intro M w vs hM hvs
 obtain ⟨v0,v1,v2,rfl,r0,r1,r2⟩:∃ v0 v1 v2,vs=[v0,v1,v2]/\ARel γ0 M (.p (.str s)) v0/\ARel γ0 M (.p (.int .i64 a)) v1/\ARel γ0 M (.p (.int .i64 b)) v2:=by
  cases hvs with
  | cons h0 t=>cases t with
   | cons h1 t=>cases t with
    | cons h2 t=>cases t with
     | nil=>exact ⟨_,_,_,rfl,h0,h1,h2⟩
 refine callsIn_FW (r:=none) (n:=0) |>.1 (callsIn_of_wp_marks (F:=FW none) (fn:=Tryz.f46) (c:=cS) (by kernel_rfl) (by kernel_rfl) trivial ?_ rfl)
 obtain ⟨tm0,ht0⟩:∃ x,[v0,v1,v2].toArray++Array.replicate (Tryz.f46.ntmps - [v0,v1,v2].toArray.size) undef=x:=⟨_,rfl⟩
 have hnn:Tryz.f46.ntmps=98:=by kernel_rfl
 have z0:tm0.getD 0 undef=v0:=by rw [<-ht0]; simp [Array.getD_eq_getD_getElem?]
 have z1:tm0.getD 1 undef=v1:=by rw [<-ht0]; simp [Array.getD_eq_getD_getElem?]
 have z2:tm0.getD 2 undef=v2:=by rw [<-ht0]; simp [Array.getD_eq_getD_getElem?]
 have z4:tm0.size=98:=by rw [<-ht0,hnn]; simp
 rw [ht0]
 clear ht0 hnn
 rw [cS_eq]
 have hst:=st_init (nt:=98) (l:=[(0,.p (.str s)),(1,.p (.int .i64 a)),(2,.p (.int .i64 b))]) (tm:=tm0) hM (sl_cons (by rw [z0]; exact r0) (sl_cons (by rw [z1]; exact r1) (sl_cons (by rw [z2]; exact r2) sl_nil))) z4
 have hG:CfgOk GS0 Tryz.prog { w0:=w,M0:=M,own:=fun _=>False,nt:=98,g0:=γ0 }:=⟨rfl,GS0_env,GS0_envR,⟨rfl,fun _ _ h=>by cases h⟩,Checked.mixed Tryz.checked⟩
 by_cases hbad:a < 0\/b > s.length\/a > b
 .have hv:=(pre_eq s a b).trans (cond_t (by simp only [Bool.or_eq_true,decide_eq_true_eq]; omega) rfl)
  have hsp:splitS s a b=([],a):=by unfold splitS; rw [if_pos hbad]
  rw [hsp]
  refine chain5 hG hv ⟨γ0,M,hst⟩ (fun st' a' w' hk _=>?_) (fun e st' a' w' hne hk hs'=>?_)
  .have:=(kTag_get (C:={ w0:=w,M0:=M,own:=fun _=>False,nt:=98,g0:=γ0 }) (nt:=98) ⟨rfl,fun _ _ h=>by cases h⟩ hk).1
   cases this
  .cases e with
   | ret=>
    have hk2:kP Tryz.prog Tryz.f46.results.toList .ret st'=some (.tup [.p .nil,.p (.int .i64 a)],[]):=hk
    obtain ⟨_,hres,_⟩:=kP_get hk2
    obtain ⟨γ1,M1,h1⟩:=hs'
    obtain ⟨v,hv,hr⟩:=aresults_sound h1 Tryz.f46 hres
    show LeavesInM (FW none) 0 Tryz.prog Tryz.f46 a'.tmps _ a'.defers .returning w'
    rw [show a'.defers=[] from h1.df]
    exact ⟨v,hv,v,M1,rfl,h1.le,fun c hc=>h1.new c hc (fun h=>h),h1.mem,ARel.tup_head (fun _ h=>ARel.nil_list rfl h) hr,h1.fr.os,h1.fr.tape,h1.fr.output,h1.fr.size,fun c hc=>h1.fr.block c hc (fun h=>h)⟩
   | normal=>exact absurd rfl hne
   | exit i=>cases hk
   | goto i=>cases hk
   | panic i=>cases hk
   | outgrown=>cases hk
 .have hv:=(pre_eq s a b).trans (cond_f (by simp only [Bool.or_eq_false_iff,decide_eq_false_iff_not]; omega) rfl)
  obtain ⟨na,rfl⟩:∃ n:Nat,a=n:=⟨a.toNat,by omega⟩
  obtain ⟨nb,rfl⟩:∃ n:Nat,b=n:=⟨b.toNat,by omega⟩
  have hsp:splitS s (na:Int) (nb:Int)=(fieldsS (gathS (linesN s na nb) (nb:Int) []).1,(gathS (linesN s na nb) (nb:Int) []).2):=by unfold splitS; rw [if_neg hbad,Int.toNat_natCast,Int.toNat_natCast]
  rw [hsp]
  obtain ⟨fin,hfin⟩:∃ fin,gathS (linesN s na nb) (nb:Int) []=fin:=⟨_,rfl⟩
  have hne:=gath_ne (linesN s na nb) (nb:Int) [] (by simp)
  rw [hfin] at hne ⊢
  refine chain5 hG hv ⟨γ0,M,hst⟩ (fun st' a5 w5 hk hs'=>?_) (fun e st' a' w' hne hk hs'=>?_)
  .obtain ⟨_,hsub⟩:=kTag_get (C:={ w0:=w,M0:=M,own:=fun _=>False,nt:=98,g0:=γ0 }) (nt:=98) ⟨rfl,fun _ _ h=>by cases h⟩ hk
   obtain ⟨γ5,M5,h5⟩:=hsub _ _ hs'
   have hH5:=Hold.of_st h5
   have r6:ARel γ5 M5 (.p .nil) (a5.tmps.getD 6 undef):=h5.sl 6
   have r7:ARel γ5 M5 (.ref 7 0) (a5.tmps.getD 7 undef):=h5.sl 7
   have r8:ARel γ5 M5 (.ref 8 0) (a5.tmps.getD 8 undef):=h5.sl 8
   obtain ⟨p,q,r,hcl,rp,rq,rr⟩:=ARel.clo3 (fn:=.func 118) (x:=.ref 1001 0) (y:=.ref 1002 0) (z:=.ref 1003 0) (h5.sl 34)
   refine wpIn_block (wpIn_rangeFunc_st (gf:=118) (lb:=#[p,q,r]) hcl (by kernel_rfl) ?_)
   intro fn mkR hmk
   obtain ⟨hHa,hCa⟩:=hH5.addraw (id:=1004) rfl (.deferred (some []))
   obtain ⟨hHb,hCb⟩:=hHa.addraw (id:=1005) rfl (.loop (mkRec fn a5.tmps w5.heap.size .ready none))
   have esz:(w5.alloc (.deferred (some []))).heap.size=w5.heap.size+1:=by simp
   rw [esz] at hHb hCb
   obtain ⟨γb,hγb⟩:∃ x,upd (upd γ5 1004 (some (.cell w5.heap.size))) 1005 (some (.cell (w5.heap.size+1)))=x:=⟨_,rfl⟩
   have hb5:γb 1005=some (.cell (w5.heap.size+1)):=by rw [<-hγb]; exact upd_same _ _ _
   have hb4:γb 1004=some (.cell w5.heap.size):=by rw [<-hγb]; exact (upd_ne _ _ (by decide)).trans (upd_same _ _ _)
   have hup:∀ k,k≠1004->k≠1005->∀ x,γ5 k=some x->γb k=some x:=by
    intro k k1 k2 x hx
    rw [<-hγb]; exact (upd_ne _ _ k2).trans ((upd_ne _ _ k1).trans hx)
   rw [hγb] at hHb hCb
   have hmkr:∀ st pe,mkR st pe=mkRec fn a5.tmps w5.heap.size st pe:=fun st pe=>by rw [hmk]; rfl
   rw [hmkr .ready none]
   have hit:=iter_ok (s:=s) (a:=na) (b:=nb) (fn:=fn) (tm:=a5.tmps) (D:=w5.heap.size) (l:=w5.heap.size+1) (p:=p) (q:=q) (r:=r) hHb hb5 (r7.ref_kept (hup 7 (by decide) (by decide))) (r8.ref_kept (hup 8 (by decide) (by decide)))
    (rp.ref_kept (hup 1001 (by decide) (by decide))) (rq.ref_kept (hup 1002 (by decide) (by decide))) (rr.ref_kept (hup 1003 (by decide) (by decide))) h5.nt (by omega) (by omega) hs
   rw [hfin] at hit
   refine hit.mono ?_
   rintro e W2 ⟨hv2,γ',M',i,st,pe,hH,hC,hK,hcase,hgl,hgx⟩
   refine ⟨hv2,?_⟩
   have hl2:=hK 1005 (by decide) _ hb5
   have hd2:=hK 1004 (by decide) _ hb4
   obtain ⟨hHx,hCx⟩:=oI_rec (mkRec fn a5.tmps w5.heap.size .exhausted pe) hH hl2
   have hCC:=((hCa.trans hCb).trans hC).trans hCx
   have hout:∀ c,c < w.heap.size->¬ Go.Am.Handed γ5 (oI (nb:Int) [] (na:Int) (nb:Int) s (mkRec fn a5.tmps w5.heap.size .ready none)).tail.tail c:=by
    rintro c hc ⟨id,x,c1,c2,c3⟩
    rcases (h5.lo id x c c1 c2 c3).1 with q | q
    .exact absurd (show w.heap.size<=c from q) (by omega)
    .exact q
   have hsz5:w.heap.size<=w5.heap.size:=h5.fr.size
   have hrest:∀ st0:LoopState,(at_ cS [1,1,1,1,1]).wpIn (FW none) 0 Tryz.prog (bodyPostM (FW none) 0 Tryz.prog Tryz.f46 fun e w'=>∃ v M',e=.returned v/\MLe M M'/\(∀ c,c < w.heap.size->M' c=M c)/\MOk M' w'/\
    ARel γ0 M' (.tup [.p (.list 2 (.dat (.pair .str .str) (fieldsS fin.1))),.p (.int .i64 fin.2)]) v/\RowKit.Below w.heap.size w w') { a5 with defers:=markOf w5.heap.size::a5.defers } (W2.putObj (w5.heap.size+1) (.loop (mkRec fn a5.tmps w5.heap.size .exhausted pe))):=by
    intro _
    refine rest_ok hHx hd2 (r6.p_any hCC.le) (r7.ref_kept fun x hx=>hK 7 (by decide) x (hup 7 (by decide) (by decide) x hx)) (r8.ref_kept fun x hx=>hK 8 (by decide) x (hup 8 (by decide) (by decide) x hx)) (by show _::a5.defers=_; rw [show a5.defers=[] from h5.df]) h5.nt (by omega) (fun x hx=>⟨hne x hx,by have:=hgx x hx; omega⟩) ?_
    intro v M2 w3 k1 k2 k3 k4 k5 k6 k7 k8
    have hcc:∀ c,c < w.heap.size->w3.heap[c]?=w.heap[c]?/\M2 c=M c:=by
     intro c hc
     have g1:=hCC.old c (by omega) (hout c hc)
     have g2:=k7 c (Nat.lt_of_lt_of_le (by omega) hCC.size) ?_ (by omega)
     .exact ⟨(g2.1.trans g1.1).trans (h5.fr.block c hc (fun h=>h)),(g2.2.trans g1.2).trans (h5.new c hc (fun h=>h))⟩
     .rintro ⟨id,x,c1,c2,c3⟩
      obtain ⟨u1,u2⟩:=upR (γ:=γ') (i:=i) (b:=(nb:Int)) (s:=s) (rec:=mkRec fn a5.tmps w5.heap.size .exhausted pe) c1
      rcases hCC.new c ⟨id,x,u1,u2 ▸ c2,c3⟩ with q | q
      .omega
      .exact hout c hc q
    have hsz:w.heap.size<=w3.heap.size:=Nat.le_trans hsz5 (Nat.le_trans hCC.size k3)
    exact ⟨v,M2,rfl,h5.le.trans (hCC.le.trans k2),fun c hc=>(hcc c hc).2,k1,k8,k4.trans (hCC.os.trans h5.fr.os),k5.trans (hCC.tape.trans h5.fr.tape),k6.trans (hCC.output.trans h5.fr.output),hsz,fun c hc=>(hcc c hc).1⟩
   simp only [hmkr]
   rcases hcase with ⟨rfl,rfl⟩ | ⟨rfl,rfl⟩
   .exact .inl ⟨(hH.raw_at lookO_hd hl2).1,hrest .ready⟩
   .refine .inr ⟨.exit 0,(hH.raw_at lookO_hd hl2).1,wpIn_exit ?_⟩
    exact hrest .ready
  .cases e with
   | ret=>
    simp only [kPre,kP] at hk
    split at hk <;> cases hk
   | normal=>exact absurd rfl hne
   | exit i=>cases hk
   | goto i=>cases hk
   | panic i=>cases hk
   | outgrown=>cases hk
def sp_split:List AV->Option (AV×Option Prop)
 | [.p (.str s),.p (.int .i64 a),.p (.int .i64 b)]=>some (.tup [.p (.list 2 (.dat (.pair .str .str) (splitS s a b).1)),.p (.int .i64 (splitS s a b).2)],some (s.length<=1000000))
 | _=>none
theorem ok_split:SpecOk Tryz.prog 46 sp_split:=by
 intro zs r ok he hok
 unfold sp_split at he
 split at he
 .cases he; exact ⟨by kernel_rfl,fn_split _ _ _ hok⟩
 .cases he
end Go.Proofs.YtoanepondbagcaaGreatDoor
namespace Go.Proofs.YtoanepondbagcaaGreatDoor
open Go Go.Am
set_option linter.unusedVariables false
def firstS:List (List UInt8×List UInt8)->List UInt8->List UInt8×Bool
 | [],_=>([],false)
 | x::r,n=>if foldS x.1=foldS n then (x.2,true) else firstS r n
abbrev firstok (l:List (List UInt8×List UInt8)) (n:List UInt8):Prop:=n.length<=140737488355328/\(∀ x ∈ l,x.1.length<=140737488355328)/\l.length<=1000000000000
noncomputable def cfirst:Code:=bodyOf Tryz.f31
noncomputable def Gfirst:Cfg:=⟨Tryz.prog,mkEnv [(61,sp_Fold)],mkEnvR [],23,[],[([0,1,0,1],⟨[1,8,9,10],[]⟩)],[]⟩
noncomputable def Bfirst_1 (F f1:Nat) (n:List UInt8) (l:List (List UInt8×List UInt8)) (vi1 vi2:Int):Option Ans:=runR Gfirst cfirst (kP Tryz.prog Tryz.f31.results.toList) F [] [1,0,1,0] f1 [(1,.p (.str n)),(8,.p (.list 2 (.dat (.pair .str .str) l))),(9,.p (.int .i64 vi1)),(10,.p (.int .i64 vi2))] []
noncomputable def Ffirst (F:Nat) (l:List (List UInt8×List UInt8)) (n:List UInt8):Option Ans:=runF Gfirst Tryz.f31 F [.p (.list 2 (.dat (.pair .str .str) l)),.p (.str n)]
theorem Bfirst_1_eq (F f1:Nat) (n:List UInt8) (l:List (List UInt8×List UInt8)) (vi1 vi2:Int):Bfirst_1 F (f1+1) n l vi1 vi2=cond (decide (vi2 < vi1)) (need (0<=vi2/\vi2 < (l.length:Int)) (need (((l.getD (vi2).toNat ([],[])).1).length<=140737488355328) (need (n.length<=140737488355328) (cond ((foldS ((l.getD (vi2).toNat ([],[])).1))==(foldS n)) (some (.tup [.p (.str ((l.getD (vi2).toNat ([],[])).2)),.p (.bool true)],[])) (need (i64ok (vi2+(1:Int))) (Bfirst_1 F f1 n l vi1 (vi2+(1:Int)))))))) (some (.tup [.p (.str ([]:List UInt8)),.p (.bool false)],[])):=by kernel_rfl
theorem Ffirst_eq (F:Nat) (l:List (List UInt8×List UInt8)) (n:List UInt8):Ffirst F l n=Bfirst_1 F F n l (l.length:Int) (0:Int):=by kernel_rfl
theorem fn_first (F:Nat) (l:List (List UInt8×List UInt8)) (n:List UInt8) (r:AV) (h:(∃ M vs,ARels γ0 M [.p (.list 2 (.dat (.pair .str .str) l)),.p (.str n)] vs)->Ffirst F l n=some (r,[])):FnP Tryz.prog 31 [.p (.list 2 (.dat (.pair .str .str) l)),.p (.str n)] r:=
 FnP_run Gfirst F rfl (EnvOk_mk (l:=[(61,sp_Fold)]) ⟨ok_Fold.any,trivial⟩) (EnvROk_mk (l:=[]) trivial) (Checked.mixed Tryz.checked) (fn:=Tryz.f31) (by kernel_rfl) (by kernel_rfl) rfl h
theorem Bfirst_spec (F:Nat) (l:List (List UInt8×List UInt8)) (n:List UInt8) (hk:firstok l n):∀ (r:List (List UInt8×List UInt8)) (f i:Nat),l.drop i=r->r.length < f->i<=l.length->
 Bfirst_1 F f n l (l.length:Int) (i:Int)=some (.tup [.p (.str (firstS r n).1),.p (.bool (firstS r n).2)],[]):=by
 intro r
 induction r with
 | nil=>
  intro f i hd hf hi
  have:i=l.length:=by have:=congrArg List.length hd; simp at this; omega
  cases f with
  | zero=>omega
  | succ f=>rw [Bfirst_1_eq]; exact cond_f (by simp; omega) rfl
 | cons c r ih=>
  intro f i hd hf hi
  obtain ⟨h1,h2,h3⟩:=dropG hd ([],[])
  cases f with
  | zero=>omega
  | succ f=>
   rw [Bfirst_1_eq,Int.toNat_natCast,h1]
   refine cond_t (by simp; omega) (need_mk ⟨by omega,by omega⟩ (need_mk (hk.2.1 c (by rw [<-h1]; exact getD_mem h3 _)) (need_mk hk.1 ?_)))
   rw [firstS]
   by_cases he:foldS c.1=foldS n
   .rw [if_pos he]; exact cond_t (by rw [he]; exact beq_self_eq_true _) rfl
   .rw [if_neg he]
    refine cond_f (by simpa using he) (need_mk (by have:=hk.2.2; unfold i64ok; omega) ?_)
    rw [show (i:Int)+1=((i+1:Nat):Int) by omega]
    exact ih f (i+1) h2 (by simp at hf; omega) (by omega)
theorem first_eq (l:List (List UInt8×List UInt8)) (n:List UInt8) (hk:firstok l n):Ffirst (l.length+1) l n=some (.tup [.p (.str (firstS l n).1),.p (.bool (firstS l n).2)],[]):=by
 rw [Ffirst_eq]
 exact Bfirst_spec _ l n hk l (l.length+1) 0 rfl (by omega) (by omega)
def sp_first:List AV->Option (AV×Option Prop)
 | [.p (.list 2 (.dat (.pair .str .str) l)),.p (.str n)]=>some (.tup [.p (.str ((firstS l n).1)),.p (.bool ((firstS l n).2))],some (firstok l n))
 | _=>none
theorem ok_first:SpecOk Tryz.prog 31 sp_first:=by
 intro zs r ok he hok
 unfold sp_first at he
 split at he
 .cases he; exact ⟨by kernel_rfl,fn_first (_) _ _ _ fun hx=>first_eq _ _ hok⟩
 .cases he
end Go.Proofs.YtoanepondbagcaaGreatDoor
