/- What a body's types are: every instruction. -/
import Derived.Test.YtacohbllbjgdgaaGreatDoorVp
import Derived.Test.YtacohbllbjgdgaaGreatDoorMf
set_option linter.all false
namespace Go.Proofs.YtacohbllbjgdgaaGreatDoor
open Go.RowKit
def reck (op:Int):Prop:=(69<=op/\op<=90)\/(103<=op/\op<=138)\/op=167\/op=172\/op=173
theorem fv_inv'(op v:Int)(hv:zG op=v):(v=1->reck op\/op=0\/op=1\/op=15\/op=26\/op=27\/op=63\/op=64)/\(v=2->op=2\/op=3)/\(v=3->op=4)/\(v=4->op=12\/op=13)/\(v=5->op=14)/\(v=6->op=16\/(32<=op/\op<=36))/\(v=7->op=17)/\(v=8->40<=op/\op<=62/\op≠42/\op≠43/\op≠56/\op≠57)/\(v=9->op=65\/op=66):=by
 unfold zG at hv;unfold reck
 repeat' split at hv
 all_goals subst hv
 all_goals refine⟨?_,?_,?_,?_,?_,?_,?_,?_,?_⟩<;>intro h<;>omega
theorem fv_inv(op:Int):(zG op=1->reck op\/op=0\/op=1\/op=15\/op=26\/op=27\/op=63\/op=64)/\(zG op=2->op=2\/op=3)/\(zG op=3->op=4)/\(zG op=4->op=12\/op=13)/\(zG op=5->op=14)/\(zG op=6->op=16\/(32<=op/\op<=36))/\(zG op=7->op=17)/\(zG op=8->40<=op/\op<=62/\op≠42/\op≠43/\op≠56/\op≠57)/\(zG op=9->op=65\/op=66):=fv_inv' op _ rfl
theorem fv_reck{op:Int}(h:reck op):zG op=1:=by unfold zG;unfold reck at h;rw[if_pos h]
theorem sg_reck{op:Int}(h:reck op):(sgV op).1≠0/\tyo (sgR (sgV op).1 (sgV op).2.2)/\(sgV op).1<=5:=by
 have:∃k x t,sgV op=(k,x,t)/\(1<=k/\k<=5)/\(t=126\/t=127):=by
  have hh:∀q,sgV op=q->(1<=q.1/\q.1<=5)/\(q.2.2=126\/q.2.2=127):=λq hq=>by
   unfold reck at h;unfold sgV at hq
   repeat' split at hq
   all_goals subst hq
   all_goals dsimp only
   all_goals omega
  have:=hh _ rfl;exact⟨_,_,_,rfl,this.1,this.2⟩
 obtain⟨k,x,t,e,h1,h2⟩:=this;rw[e];refine⟨by show k≠0;omega,?_,by show k<=5;omega⟩
 show tyo (sgR k t)
 unfold tyo sgR
 repeat' split
 all_goals omega
theorem sg_not{op:Int}(h:¬reck op):sgV op=(0,0,0):=by
 unfold reck at h;unfold sgV
 repeat' split
 all_goals first |omega |rfl
theorem popv_sm{s:Ts}(h:Wf s)(t:Int){k:Int×Ts->Except Int Ts}{G:Int×Rs->Rs}(hk:∀q:Int×Ts,Wf q.2->Kf s q.2->ok01 q.1->Sm q.2 (k q) (G (q.1,up q.2)))(hG:∀q:Int×Rs,q.2.w≠0->(G q).w=q.2.w):Sm s ((zK t s).bind k) (G (zP t (up s))):=by
 have:=pop_sm h t;cases hp:zK t s with
 |error n=>rw[hp]at this;exact⟨this.1,(hG _ (by rw[this.2];exact this.1)).trans this.2⟩
 |ok q=>
   rw[hp]at this;obtain⟨h1,h2,h4,h3⟩:=this;rw[h3];have:=hk q h1 h2 h4
   show Sm s (k q) _
   cases hkt:k q with
   |error n=>rw[hkt]at this;exact this
   |ok u=>rw[hkt]at this;exact⟨this.1,h2.trans this.2.1,this.2.2⟩
def rSel (s:Rs):Rs:=
 let x:=zP 0 s
 let y:=zP 0 x.2
 let s:=if x.1≠0/\y.1≠0/\x.1≠y.1 then zQ 60 y.2 else y.2
 zW [max x.1 y.1] s
theorem sel_st:Stay rSel:=λs h=>by
 unfold rSel;simp only[pop_0 h];rw[if_neg (by intro q;exact q.1 rfl)];exact jR _ s h
theorem sel_sm{s:Ts}(w:Wf s):Sm s ((zK 127 s).bind λq=>(zK 0 q.2).bind λa=>(zK 0 a.2).bind λb=>if a.1=b.1\/a.1=0\/b.1=0 then .ok (zN [if a.1=0 then b.1 else a.1] b.2)else .error 60) (rSel (zP 127 (up s)).2):=by
 refine popk_sm w 127 (g:=rSel) (λq wq _=> ?_) sel_st
 refine popv_sm (k:=λa:Int×Ts=>(zK 0 a.2).bind λb=>if a.1=b.1\/a.1=0\/b.1=0 then .ok (zN [if a.1=0 then b.1 else a.1] b.2)else .error 60)
  (G:=λx=>let y:=zP 0 x.2;let s:=if x.1≠0/\y.1≠0/\x.1≠y.1 then zQ 60 y.2 else y.2;zW [max x.1 y.1] s) wq 0 (λa wa _ oa=> ?_) (λx hx=> ?_)
 . refine popv_sm (k:=λb:Int×Ts=>if a.1=b.1\/a.1=0\/b.1=0 then .ok (zN [if a.1=0 then b.1 else a.1] b.2)else .error 60)
    (G:=λy=>zW [max a.1 y.1] (if a.1≠0/\y.1≠0/\a.1≠y.1 then zQ 60 y.2 else y.2)) wa 0 (λb wb _ ob=> ?_) (λy hy=> ?_)
   . show Sm b.2 (if a.1=b.1\/a.1=0\/b.1=0 then _ else _) (zW [max a.1 b.1] (if a.1≠0/\b.1≠0/\a.1≠b.1 then zQ 60 (up b.2)else up b.2))
     unfold ok01 at oa ob
     by_cases h:a.1=b.1\/a.1=0\/b.1=0
     . rw[if_pos h,if_neg (show¬(a.1≠0/\b.1≠0/\a.1≠b.1) by omega)];have e:max a.1 b.1=if a.1=0 then b.1 else a.1:=(by split<;>omega)
       rw[e];refine xR wb λx hx=> ?_;obtain rfl:=List.mem_singleton.1 hx;unfold ok01;split<;>omega
     . rw[if_neg h,if_pos (show a.1≠0/\b.1≠0/\a.1≠b.1 by omega)];have hw:(zQ 60 (up b.2)).w=60:=bad_w (by decide) rfl;exact⟨by decide,(jR _ _ (by rw[hw];decide)).trans hw⟩
   . show(zW [max a.1 y.1] (if a.1≠0/\y.1≠0/\a.1≠y.1 then zQ 60 y.2 else y.2)).w=y.2.w
     have e:(if a.1≠0/\y.1≠0/\a.1≠y.1 then zQ 60 y.2 else y.2).w=y.2.w:=by
      split
      . exact bad_st 60 _ hy
      . rfl
     exact(jR _ _ (by rw[e];exact hy)).trans e
 . show(zW [max x.1 (zP 0 x.2).1] (if x.1≠0/\(zP 0 x.2).1≠0/\x.1≠(zP 0 x.2).1 then zQ 60 (zP 0 x.2).2 else(zP 0 x.2).2)).w=x.2.w
   rw[pop_0 hx];simp only;rw[if_neg (by intro q;exact q.2.1 rfl)];exact jR _ _ hx
theorem op8{op:Int}(h:40<=op/\op<=62/\op≠42/\op≠43/\op≠56/\op≠57):op=40\/op=41\/op=44\/op=45\/op=46\/op=47\/op=48\/op=49\/op=50\/op=51\/op=52\/op=53\/op=54\/op=55\/op=58\/op=59\/op=60\/op=61\/op=62:=by omega
theorem wideT_eq{op:Int}(h:40<=op/\op<=62/\op≠42/\op≠43/\op≠56/\op≠57):wideT op=memT op/\tyo (memT op):=by
 rcases op8 h with rfl |rfl |rfl |rfl |rfl |rfl |rfl |rfl |rfl |rfl |rfl |rfl |rfl |rfl |rfl |rfl |rfl |rfl |rfl
 all_goals exact⟨by decide,by unfold tyo;decide⟩
theorem wide_iff{op a:Int}(h:40<=op/\op<=62/\op≠42/\op≠43/\op≠56/\op≠57)(h0:0<=a):tooWide op a↔¬a<=qA op:=by
 unfold tooWide
 by_cases h3:3<a
 . have:qA op<=3:=(by unfold qA;repeat' split<;>omega)
   exact⟨λ_=>by omega,λ_=>.inl h3⟩
 . have ha:a=0\/a=1\/a=2\/a=3:=(by omega)
   rcases ha with rfl |rfl |rfl |rfl
   all_goals rcases op8 h with rfl |rfl |rfl |rfl |rfl |rfl |rfl |rfl |rfl |rfl |rfl |rfl |rfl |rfl |rfl |rfl |rfl |rfl |rfl
   all_goals decide
theorem one_ok{t:Int}(h:tyo t):∀x∈[t],ok01 x:=λx hx=>by obtain rfl:=List.mem_singleton.1 hx;exact h.ok
theorem memory_sm{E:Ev}{s:Ts}(w:Wf s){op a:Int}(h:40<=op/\op<=62/\op≠42/\op≠43/\op≠56/\op≠57)(h0:0<=a):Sm s (zF E op a s) (jE E op a (up s)):=by
 obtain⟨eT,oT⟩:=wideT_eq h;have hw:=wide_iff h h0;unfold zF jE
 by_cases hm:0<E.mems
 . rw[if_pos hm,if_neg (show¬E.mems=0 by omega),if_neg (show¬op=63 by omega),if_neg (show¬op=64 by omega),eT]
   have hst:Stay (λs=>if 54<=op then(zP 127 (zP (memT op) s).2).2 else zW [memT op] (zP 127 s).2):=by
    by_cases h54:54<=op
    . simp only[if_pos h54];exact(pop_st _).comp (pop_st 127)
    . simp only[if_neg h54];exact(pop_st 127).comp (jR _)
   by_cases hb:a<=qA op
   . rw[if_pos hb];simp only[if_neg (show¬tooWide op a fromλq=>hw.1 q hb)]
     by_cases h54:54<=op
     . rw[if_pos h54];simp only[if_pos h54,if_neg (show¬op<54 by omega)];exact(pop1_sm w (memT op)).bind (g:=λs=>(zP 127 s).2) (λt wt _=>pop1_sm wt 127) (pop_st 127)
     . rw[if_neg h54];simp only[if_neg h54,if_pos (show op<54 by omega)];exact popk_sm w 127 (g:=zW [memT op]) (λq wq _=>xR wq (one_ok oT)) (jR _)
   . rw[if_neg hb];simp only[if_pos (hw.2 hb)];have hx:(zQ 60 (up s)).w=60:=bad_w (by decide) rfl;exact⟨by decide,(hst _ (by rw[hx];decide)).trans hx⟩
 . rw[if_neg hm,if_pos (show E.mems=0 by omega)];exact bad_sm (by decide)
theorem variable_sm{E:Ev}(hE:EvOk E){s:Ts}(w:Wf s){op a:Int}(h:32<=op/\op<=36):Sm s (jJ E op a s) (qQ E op a (up s)):=by
 unfold jJ qQ;rw[if_neg (by omega)]
 by_cases h35:op=35
 . rw[if_pos h35,if_pos (by omega)];cases hg:E.globals[a.toNat]? with
   |none=>exact bad_sm (by decide)
   |some g=>simp only[if_pos h35];exact xR w (one_ok (hE.globals g (List.mem_of_getElem? hg)))
 . rw[if_neg h35]
   by_cases h36:op=36
   . rw[if_pos h36,if_pos (by omega)];cases hg:E.globals[a.toNat]? with
     |none=>exact bad_sm (by decide)
     |some g=>
       simp only[if_neg h35]
       by_cases hm:g.2=true
       . rw[if_pos hm,if_pos hm];exact pop1_sm w g.1
       . rw[if_neg hm,if_neg hm];have hx:(zQ 62 (up s)).w=62:=bad_w (by decide) rfl;exact⟨by decide,((pop_st g.1) _ (by rw[hx];decide)).trans hx⟩
   . rw[if_neg h36,if_neg (by omega)];cases hg:E.locals[a.toNat]? with
     |none=>exact bad_sm (by decide)
     |some t=>
       have ht:=hE.locals t (List.mem_of_getElem? hg)
       dsimp only
       by_cases h32:op≠32
       . rw[if_pos h32,if_pos h32]
         by_cases h33:op≠33
         . simp only[if_pos h33];exact(pop1_sm w t).bind (g:=zW [t]) (λu wu _=>xR wu (one_ok ht)) (jR _)
         . simp only[if_neg h33];exact(pop1_sm w t).bind (g:=λs=>s) (λu wu _=>.ok wu (.refl wu)) (λs h=>rfl)
       . rw[if_neg h32,if_neg h32];simp only[if_pos (show op≠33 by omega)];exact xR w (one_ok ht)
theorem plainfacts{op x y n:Int}{ls:List Int}{bl el:Nat}(h:zC op x y n ls bl el=true):(zG op=1\/zG op=2\/zG op=3\/zG op=4\/zG op=5\/zG op=6\/zG op=7\/zG op=8\/zG op=9)/\(zG op=2\/zG op=3->x=0\/x=126\/x=127)/\(zG op=4\/zG op=5\/zG op=6\/zG op=7\/zG op=8->0<=x)/\(zG op=5->∀l∈ls,0<=l)/\(zG op≠5->ls=[]):=by
 unfold zC at h
 repeat' split at h
 all_goals first |(cases h;done) |skip
 all_goals simp only[Bool.and_eq_true,res1,zM,Bool.or_eq_true,beq_iff_eq,decide_eq_true_eq,List.all_eq_true]at h
 all_goals refine⟨by omega,λ_=>by omega,λ_=>by omega,λ_ l hl=> ?_,λhn=> ?_⟩
 all_goals first |omega |exact(h.2.1 l hl).1 |exact List.eq_nil_of_length_eq_zero (by omega)
theorem instr_sm{E:Ev}(hE:EvOk E){s:Ts}(w:Wf s){op a y n:Int}{ls:List Int}{bl el:Nat}(hf:zC op a y n ls bl el=true){B C:Ts->Except Int Ts}{B' C':Rs->Rs}(hB:BOk B B')(hC:BOk C C'):Sm s (vV E op a ls el B C s) (vQ E op a ls el B' C' (up s)):=by
 obtain⟨h0,h1,h2,h3,h4⟩:=plainfacts hf;obtain⟨i1,i2,i3,i4,i5,i6,i7,i8,i9⟩:=fv_inv op
 by_cases hr:reck op
 . obtain⟨hs,ht,_⟩:=sg_reck hr;have hv:=fv_reck hr;unfold vV vQ;rw[if_pos hs];unfold reck at hr;rw[if_neg (by omega),if_neg (by omega),if_neg (by omega),if_neg (by omega),if_neg (by omega),if_neg (by omega),if_neg (by omega),if_neg (by omega),if_neg (by omega),if_neg (by omega),if_neg (by omega),if_neg (by omega),if_neg (by omega),if_neg (by omega),if_neg (by omega)];unfold qZ;rw[List.reverse_replicate];exact(pops_sm _ w).bind (g:=zW [sgR (sgV op).1 (sgV op).2.2]) (λu wu _=>xR wu (one_ok ht)) (jR _)
 . have hs:=sg_not hr
   have e0:vV E op a ls el B C s=if zG op=2\/zG op=3 then yE op a el B C s else if zG op=4\/zG op=5 then xE op a ls s else if zG op=6 then jJ E op a s else if zG op=7 then yP E a s else if zG op=8 then zF E op a s else if zG op=9 then .ok (zN [if op=65 then 127 else 126] s)else xZ E op s:=by unfold vV;rw[hs,if_neg (λq=>q rfl)]
   rw[e0]
   rcases h0 with h0 |h0 |h0 |h0 |h0 |h0 |h0 |h0 |h0
   . rw[if_neg (by omega),if_neg (by omega),if_neg (by omega),if_neg (by omega),if_neg (by omega),if_neg (by omega)]
     rcases(i1 h0).resolve_left hr with rfl |rfl |rfl |rfl |rfl |rfl |rfl
     . exact dies_sm w
     . exact .ok w (.refl w)
     . exact(popL_sm w (tRet s)).bind (g:=jP) (λv wv _=>dies_sm wv) dead_st
     . exact pop1_sm w 0
     . exact sel_sm w
     . show Sm s (if 0<E.mems then _ else _) (jE E 63 a (up s))
       unfold jE
       by_cases hm:0<E.mems
       . rw[if_pos hm,if_neg (by omega),if_pos rfl];exact xR w (one_ok (.inr rfl))
       . rw[if_neg hm,if_pos (by omega)];exact bad_sm (by decide)
     . show Sm s (if 0<E.mems then _ else _) (jE E 64 a (up s))
       unfold jE
       by_cases hm:0<E.mems
       . rw[if_pos hm,if_neg (by omega),if_neg (by decide),if_pos rfl];exact popk_sm w 127 (g:=zW [127]) (λq wq _=>xR wq (one_ok (.inr rfl))) (jR _)
       . rw[if_neg hm,if_pos (by omega)];exact bad_sm (by decide)
   . rw[if_pos (.inl h0)]
     rcases i2 h0 with rfl |rfl
     . exact blocks2_sm w hB (C:=C) (C':=C') (h1 (.inl h0)) (res_ok (h1 (.inl h0)))
     . exact blocks2_sm w hB (C:=C) (C':=C') (h1 (.inl h0)) (by intro t ht;cases ht)
   . rw[if_pos (.inr h0)];obtain rfl:=i3 h0;have:=if_sm w hB hC (h1 (.inr h0)) (n:=el);unfold vQ;rw[if_neg (by decide),if_neg (by decide),if_neg (by decide),if_pos rfl]
     by_cases hn:0<el
     . rw[if_pos hn]at this;simp only[if_pos hn];exact this
     . rw[if_neg hn]at this;simp only[if_neg hn];exact this
   . rw[if_neg (by omega),if_pos (.inl h0)];have:=h4 (by omega);subst this
     rcases i4 h0 with rfl |rfl
     . exact br_sm w (h2 (by omega))
     . exact brif_sm w (h2 (by omega))
   . rw[if_neg (by omega),if_pos (.inr h0)];obtain rfl:=i5 h0;exact table_sm w (h2 (by omega)) (h3 h0)
   . rw[if_neg (by omega),if_neg (by omega),if_pos h0]
     rcases i6 h0 with rfl |h
     . show Sm s (match E.funcs[a.toNat]? with |some t=>vW t s |none=>.error 61) (match E.funcs[a.toNat]? with |some t=>rCall t (up s) |none=>zQ 61 (up s))
       cases hg:E.funcs[a.toNat]? with
       |none=>exact bad_sm (by decide)
       |some t=>exact calls_sm w (hE.funcs t (List.mem_of_getElem? hg)).2
     . have:=variable_sm hE w (a:=a) h;unfold vQ;rw[if_neg (by omega),if_neg (by omega),if_neg (by omega),if_neg (by omega),if_neg (by omega),if_neg (by omega),if_neg (by omega),if_neg (by omega),if_neg (by omega),if_neg (by omega),if_neg (by omega),if_neg (by omega),if_neg (by omega),if_pos h0];exact this
   . rw[if_neg (by omega),if_neg (by omega),if_neg (by omega),if_pos h0];obtain rfl:=i7 h0
     show Sm s (yP E a s) (if E.tables=0 then zQ 61 (up s)else match E.types[a.toNat]? with |some t=>rCall t (zP 127 (up s)).2 |none=>zQ 61 (up s))
     unfold yP
     by_cases hm:0<E.tables
     . rw[if_pos hm,if_neg (by omega)];cases hg:E.types[a.toNat]? with
       |none=>exact bad_sm (by decide)
       |some t=>exact popk_sm w 127 (g:=rCall t) (λq wq _=>calls_sm wq (hE.types t (List.mem_of_getElem? hg)).2) (call_st t)
     . rw[if_neg hm,if_pos (by omega)];exact bad_sm (by decide)
   . rw[if_neg (by omega),if_neg (by omega),if_neg (by omega),if_neg (by omega),if_pos h0];have h8:=i8 h0;have:=memory_sm (E:=E) w h8 (h2 (by omega));unfold vQ;rw[if_neg (by omega),if_neg (by omega),if_neg (by omega),if_neg (by omega),if_neg (by omega),if_neg (by omega),if_neg (by omega),if_neg (by omega),if_neg (by omega),if_neg (by omega),if_neg (by omega),if_neg (by omega),if_neg (by omega),if_neg (by omega),if_pos (.inl h0)];exact this
   . rw[if_neg (by omega),if_neg (by omega),if_neg (by omega),if_neg (by omega),if_neg (by omega),if_pos h0]
     rcases i9 h0 with rfl |rfl
     . exact xR w (one_ok (.inr rfl))
     . exact xR w (one_ok (.inl rfl))
def LOk (E:Ev) (l:Il):Prop:=zZ l=true->BOk (tyL E l) (ryL E l)
theorem ry_st (E:Ev):∀l:Il,Stay (ryL E l)
 |.nil=>λs h=>rfl
 |.cons op a y n ls body els rest=>λs h=>by unfold ryL;rw[if_neg h]
theorem tyL_ok{E:Ev}(hE:EvOk E):∀l:Il,LOk E l:=Il.each λl=>by
 induction l with
 |nil=>exactλ_ _ s w=>.ok w (.refl w)
 |cons op a y n ls body els rest ih1 ih2 ih3=>intro hs hf s w;obtain⟨hb,he,hr⟩:=hs;unfold zZ at hf;simp only[Bool.and_eq_true]at hf;obtain⟨f1,f2,f3,f4⟩:=hf;have h1:=instr_sm hE w f1 (hb f2) (he f3);unfold tyL ryL;rw[if_pos (show(up s).w=0 from rfl)];exact h1.bind (g:=ryL E rest) (λt wt _=>ih3 hr f4 t wt) (ry_st E rest)
end Go.Proofs.YtacohbllbjgdgaaGreatDoor
