/- The typer: any block. -/
import Derived.Test.YtacohbllbjgdgaaGreatDoorXl
import Derived.Deep.RegionLaw
import Derived.Deep.AppendLies
import Derived.Shelf.Spec.SlicesGrow
import Derived.Deep.RegionWith
import Derived.Deep.Cut
set_option linter.all false
set_option maxRecDepth 100000
set_option maxHeartbeats 16000000
namespace Go.Proofs.YtacohbllbjgdgaaGreatDoor
open Go.RowKit
theorem jD{α β:Type}{e:Except Int α}{k:α->Except Int β}{t:β}(h:e.bind k=.ok t):∃u,e=.ok u/\k u=.ok t:=by
 cases e with
 |error n=>cases h
 |ok u=>exact⟨u,rfl,h⟩
theorem xP(l:List Int)(s:Ts):(zL l s).st.length=l.length+s.st.length:=by unfold zL;simp
theorem tDies_len(s:Ts):(xO s).st.length<=s.st.length:=by
 unfold xO;split
 . exact Nat.le_refl _
 . simp
theorem tCalls_len{t:List Int×List Int}{s u:Ts}(ht:t.2.length<=1)(h:yE t s=.ok u):u.st.length<=s.st.length+1:=by obtain⟨v,h1,h2⟩:=jD h;cases h2;have:=vV _ h1;rw[xP];omega
theorem tInstr_len{E:Ev}(hE:EvOk E)(hR:EvR E){s t:Ts}(hw:Wf s)(hRf:Rf s){op a y n:Int}{ls:List Int}{bl el:Nat}(hf:zC op a y n ls bl el=true){B C:Ts->Except Int Ts}{B' C':Rs->Rs}(hB:BOk B B')(hC:BOk C C')(h:jL E op a ls el B C s=.ok t):t.st.length<=s.st.length+1:=by
 obtain⟨h0,g1,g2,g3,g4⟩:=plainfacts hf;have hrl:=resV_len a;unfold jL at h;split at h
 . obtain⟨u,h1,h2⟩:=jD h;cases h2;have:=vV _ h1;rw[xP];simp;omega
 split at h
 . rename_i hF;have ha:=g1 hF;have hty:=res_ok ha;unfold xT at h;split at h
   . obtain⟨u,h1,h2⟩:=jD h;cases h2;have:=(yF hB hty hty hw h1).1;rw[xP];omega
   . split at h
     . obtain⟨u,h1,h2⟩:=jD h;cases h2;have:=(yF hB (by intro t ht;cases ht) hty hw h1).1;rw[xP];omega
     . obtain⟨q,h1,h2⟩:=jD h;have hql:=zS h1;have hwq:=(qS hw h1).1;split at h2
       . obtain⟨u,h3,h4⟩:=jD h2;obtain⟨ul,uw,_⟩:=yF hB hty hty hwq h3;obtain⟨v,h5,h6⟩:=jD h4;cases h6;rw[xP];split at h5
         . have:=(yF hC hty hty uw h5).1;omega
         . cases h5;omega
       . cases h2
 split at h
 . unfold xL at h;obtain⟨_,_,h⟩:=jD h;obtain⟨g,hg,h⟩:=jD h;obtain⟨u,h1,h⟩:=jD h;obtain⟨_,_,h⟩:=jD h;obtain⟨v,h2,h⟩:=jD h
   have hul:u.st.length<=s.st.length:=by
    split at h1
    . obtain⟨q,h3,h4⟩:=jD h1;cases h4;exact zS h3
    . cases h1;exact Nat.le_refl _
   have hvl:=vV _ h2;obtain⟨f,hff,hfg⟩:=tGoes_in hw (g2 (by omega)) hg;have hgl:g.length<=1:=(by rw[<-hfg];exact(hRf f hff).1)
   cases h;split
   . rw[xP];omega
   . have:=tDies_len v;omega
 split at h
 . unfold jE at h;split at h
   . split at h
     . rename_i t' ht;exact tCalls_len (hR.funcs _ (List.mem_of_getElem? ht)) h
     . cases h
   . split at h
     . split at h
       . cases h;rw[xP];simp;omega
       . cases h
     . split at h
       . split at h
         . split at h
           . obtain⟨q,h3,h4⟩:=jD h;cases h4;have:=zS h3;omega
           . cases h
         . cases h
       . split at h
         . obtain⟨u,h1,h2⟩:=jD h
           have hul:u.st.length<=s.st.length:=by
            split at h1
            . obtain⟨q,h3,h4⟩:=jD h1;cases h4;exact zS h3
            . cases h1;exact Nat.le_refl _
           cases h2;split
           . rw[xP];simp;omega
           . omega
         . cases h
 split at h
 . unfold vI at h;split at h
   . split at h
     . rename_i t' ht;obtain⟨q,h1,h2⟩:=jD h;have:=zS h1;have:=tCalls_len (hR.types _ (List.mem_of_getElem? ht)) h2;omega
     . cases h
   . cases h
 split at h
 . unfold zF at h;split at h
   . split at h
     . obtain⟨u,h1,h2⟩:=jD h
       have hul:u.st.length<=s.st.length:=by
        split at h1
        . obtain⟨q,h3,h4⟩:=jD h1;cases h4;exact zS h3
        . cases h1;exact Nat.le_refl _
       obtain⟨q,h3,h4⟩:=jD h2;have:=zS h3;cases h4;split
       . rw[xP];simp;omega
       . omega
     . cases h
   . cases h
 split at h
 . cases h;rw[xP];simp;omega
 . unfold xK at h;split at h
   . cases h;have:=tDies_len s;omega
   split at h
   . obtain⟨u,h1,h2⟩:=jD h;cases h2;have:=vV _ h1;have:=tDies_len u;omega
   split at h
   . obtain⟨q,h1,h2⟩:=jD h;cases h2;have:=zS h1;omega
   split at h
   . obtain⟨q,h1,h⟩:=jD h;obtain⟨q2,h2,h⟩:=jD h;obtain⟨q3,h3,h⟩:=jD h;have:=zS h1;have:=zS h2;have:=zS h3;split at h
     . cases h;rw[xP];simp;omega
     . cases h
   split at h
   . split at h
     . cases h;rw[xP];simp;omega
     . cases h
   split at h
   . split at h
     . obtain⟨q,h1,h2⟩:=jD h;cases h2;have:=zS h1;rw[xP];simp;omega
     . cases h
   . cases h;omega
theorem info126v:(Tryz.prog.info? 126).map (λi=>(i.zero,i.size,i.bytes))=some (some (.agg #[.slice none 0 0,.slice none 0 0,.int .i64 0,.bool false]),4,64):=by kernel_rfl
theorem info126v_parts:∃i,Tryz.prog.info? 126=some i/\i.zero=some (.agg #[.slice none 0 0,.slice none 0 0,.int .i64 0,.bool false])/\i.size=4/\i.bytes=64:=by
 have h:=info126v;cases hi:Tryz.prog.info? 126 with
 |none=>rw[hi]at h;cases h
 |some i=>rw[hi]at h;simp only[Option.map_some,Option.some.injEq,Prod.mk.injEq]at h;exact⟨i,rfl,h.1,h.2.1,h.2.2⟩
theorem Ows.enterL{N p:Nat}{et:TypeId}{un:Int}{w w':World}{sv fv:Value}{s:Ts}(h:Ows N p et un w sv fv s)(he:et≠3){L:List (Fr×FA)}(h1:L.map Prod.fst=s.fs)(h2:w.ownsRow N et 4 fv L.length (frC L))(h3:∀q∈L,LiB w p sv fv q.2.ga q.1.goes/\LiB w p sv fv q.2.ea q.1.ends){f:Fr}{fa:FA}{v':Value}(ho:w'.ownsRow N et 4 v' (s.fs.length+1) (frC L++frV (f,fa)))(hg:w.grownBy w' fv.ownBlock)(hb:v'.ownBlock=fv.ownBlock\/v'.ownBlock=some w.heap.size)(l1:LiB w p sv fv fa.ga f.goes)(l2:LiB w p sv fv fa.ea f.ends):Ows N p et un w' sv v' ⟨s.st,f::s.fs⟩/\Tw p sv fv sv v' w w':=by
 have t:Tw p sv fv sv v' w w':=.growF hg hb;have hl:L.length=s.fs.length:=(by rw[<-h1,List.length_map])
 refine⟨⟨h.hN,Nat.le_trans h.hw t.size,h.st.kept hg (h.ne he).1,(f,fa)::L,by rw[List.map_cons,h1],by rw[frC_cons,List.length_cons,hl];exact ho,λq hq=> ?_⟩,t⟩
 rcases List.mem_cons.1 hq with rfl |hq
 . exact⟨l1.tw t,l2.tw t⟩
 . exact⟨(h3 q hq).1.tw t,(h3 q hq).2.tw t⟩
theorem block_step(l:Il)(hsub:Sub BlkC l):BlkC l:=by
 intro w0 N p c lv E w sv fv s h hR hRf hf goes ends ga gc ea ec l1 l2 ty1 ty2 n1 n2 ao k hlen hi b1 b2;generalize hX:qB (tyL E l) goes ends s=X;replace hX:=zh hX;obtain⟨LN,hLN⟩:∃LN,l.len=LN:=⟨_,rfl⟩
 rw[hLN]at hlen ⊢;obtain⟨i6,hi6,hz6,hs6,hb6⟩:=info126v_parts;obtain⟨k0,k1,k2,k3,z2,z3⟩:=h.t.c;obtain⟨sa,sc,hsv,hsl⟩:=h.t.o.sl;have hdr:=drew_step0 h;have hwA:Below w.drew.heap.size w.drew (w.drew.alloc (.cells #[.slice ga goes.length gc,.slice ea ends.length ec,.int .i64 s.st.length,.bool false] 126)):=Below.of_alloc _ _;have hA:=hdr.1.step hwA;have tA:=hdr.2.step hwA;obtain⟨wA,hwA2⟩:∃wA,wA=w.drew.alloc (.cells #[.slice ga goes.length gc,.slice ea ends.length ec,.int .i64 s.st.length,.bool false] 126):=⟨_,rfl⟩
 rw[<-hwA2]at hA tA;obtain⟨L,e1,hown,hlib⟩:=hA.t.o.fs;have hll:L.length=s.fs.length:=(by rw[<-e1,List.length_map])
 obtain⟨fa0,fc0,hfv⟩:=own_sl hown
 have fin:∀(g cap:Nat) (w3:World),w3.ownsRow N 126 4 (.slice (some ⟨g,0,none⟩) (s.fs.length+1) cap) (s.fs.length+1) (frC L++frV (⟨goes,ends,s.st.length,false⟩,⟨ga,gc,ea,ec⟩))->wA.grownBy w3 fv.ownBlock->(fv.ownBlock=some g\/g=wA.heap.size)->
  Hid (Cx w0 N p c lv E (w3.setCell ⟨p,3,none⟩ (.slice (some ⟨g,0,none⟩) (s.fs.length+1) cap)) sv (.slice (some ⟨g,0,none⟩) (s.fs.length+1) cap) ⟨s.st,⟨goes,ends,s.st.length,false⟩::s.fs⟩/\Tw p sv fv sv (.slice (some ⟨g,0,none⟩) (s.fs.length+1) cap) w (w3.setCell ⟨p,3,none⟩ (.slice (some ⟨g,0,none⟩) (s.fs.length+1) cap)))/\
  w3.cell? ⟨p,3,none⟩=some fv/\w3.frozen? ⟨p,3,none⟩=false:=λg cap w3 ho hg hat=>by
  obtain⟨o1,t1⟩:=hA.t.o.enterL (by decide) e1 hown hlib (f:=⟨goes,ends,s.st.length,false⟩) (fa:=⟨ga,gc,ea,ec⟩) (v':=.slice (some ⟨g,0,none⟩) (s.fs.length+1) cap) ho hg (by
   rcases hat with e |e
   . exact .inl e.symm
   . exact .inr (by rw[e];rfl)) (l1.tw tA) (l2.tw tA)
  have hne:fv.ownBlock≠some p:=λe=>by have:=h.t.o.low.2 p e;have:=h.t.o.hN;omega
  have hp1:w3.heap[p]? =some (.cells #[.pointer (some ⟨c,0,none⟩),lv,sv,fv] 99 (0,0)):=(by rw[hg.block p (lt_of_block hA.t.b) (λe=>hne e.symm)];exact hA.t.b)
  refine⟨zh ⟨⟨⟨by rw[heap_setCell_same w3 p 3 _ _ _ hp1];rfl,o1.setP 3 _⟩,?_,?_,h.p0,h.e0,h.ok⟩,(tA.trans t1).set 3 _⟩,by rw[cell_of_row w3 p 3 _ _ _ hp1];rfl,frozen_of_row w3 p 3 _ _ hp1⟩
  . exact⟨⟨_,_,rfl,Nat.le_refl _⟩,h.st,λf hf=>by
     rcases List.mem_cons.1 hf with rfl |hf
     . exact⟨ty1,ty2⟩
     . exact h.ty f hf⟩
  . refine h.b.trans ?_;rw[h.p0];exact h.t.o.below ((tA.trans t1).set 3 _)
 rw[hll]at hfv hown;have hfs:s.fs.length<=1099511627775:=(by omega)
 have hNw:=h.t.o.hw;rw[hwA2]at fin hown;clear hA tA hwA hdr hwA2;subst hsv;subst hfv;have hpb:=lt_of_block h.t.b;have y1:(w.alloc (.cells #[.slice ga goes.length gc,.slice ea ends.length ec,.int .i64 s.st.length,.bool false] 126)).cell? ⟨p,3,none⟩=some (.slice fa0 s.fs.length fc0):=(World.cell?_of_block (Below.heap_alloc _ _ _ hpb)).trans k3;have y2:(w.alloc (.cells #[.slice ga goes.length gc,.slice ea ends.length ec,.int .i64 s.st.length,.bool false] 126)).drew.cell? ⟨p,3,none⟩=some (.slice fa0 s.fs.length fc0):=y1;go_enter Tryz.func54,Tryz.ntmps54;go_wp2_with fail
 go_cut [] from 11 to 28 (λwx=>∃g cap,Hid (Cx w0 N p c lv E wx (.slice sa s.st.length sc) (.slice (some ⟨g,0,none⟩) (s.fs.length+1) cap) ⟨s.st,⟨goes,ends,s.st.length,false⟩::s.fs⟩/\Tw p (.slice sa s.st.length sc) (.slice fa0 s.fs.length fc0) (.slice sa s.st.length sc) (.slice (some ⟨g,0,none⟩) (s.fs.length+1) cap) w wx))
 case first=>
  go_region_law ((
   refine step_append_lies _ rfl _ _ _ rfl N 126 i6 _ 4 64 Tryz.underlying97 hi6 hz6 hs6 hb6 rfl (by omega) (.slice fa0 s.fs.length fc0) s.fs.length (frC L) (by rfl) hown ⟨w.drew.heap.size,0,none⟩ 1 1 [.slice ga goes.length gc,.slice ea ends.length ec,.int .i64 s.st.length,.bool false] (by rfl) (by rfl)
    (World.news_of_block (cs:= #[.slice ga goes.length gc,.slice ea ends.length ec,.int .i64 s.st.length,.bool false]) (t:=126) (fr:=(0,0)) (heap_alloc_new _ _)) (by intro u hu;simp only[List.mem_cons,List.mem_nil_iff,or_false]at hu;rcases hu with rfl |rfl |rfl |rfl<;>rfl)
    (by omega) (by unfold maxLen;omega) (by omega) (by simp;omega) (w.drew.heap.size+1) (by simp) ?_
   intro g cap w3 hown3 hgrow hat hlt3;obtain⟨hfin,y3,f3⟩:=fin g cap w3 hown3 hgrow (hat.imp_right λe=>by rw[e];simp)))
  all_goals go_wp2_with fail
  all_goals go_meet
  all_goals exact⟨g,cap,hfin⟩
 case rest=>
  obtain⟨g,cap,hcut⟩:=hcut;obtain⟨h5,t5⟩:=hcut.out;have hi0:IlIn w0 ao 0 l:=hi;have hf0:=zh hf;obtain⟨S0,hS0⟩:∃S0:Ts,S0=⟨s.st,⟨goes,ends,s.st.length,false⟩::s.fs⟩:=⟨_,rfl⟩
  have hS1:S0.fs.length=s.fs.length+1:=(by rw[hS0];rfl)
  have hS2:S0.st.length=s.st.length:=(by rw[hS0])
  have hRS:Rf S0:=by
   rw[hS0];intro f hf
   rcases List.mem_cons.1 hf with rfl |hf
   . exact⟨n1,n2⟩
   . exact hRf f hf
  have hX0:X=(tyL E l S0).bind λs1=>match s1.fs with | []=>.error 0 |f::r=>(qP f.ends s1).bind λs2=>if s2.st.length=f.h then .ok ⟨s2.st,r⟩else .error 60:=(by rw[<-hX.out,hS0];rfl)
  have hKS:Hid (∀u,Kf S0 u->∃d,u.fs=⟨goes,ends,s.st.length,d⟩::s.fs):=zh λu hk=>by
   rw[hS0]at hk;obtain⟨f,f',r,x1,x2,x3,x4,x5⟩:=hk;cases x1;obtain⟨q1,q2,q3,q4⟩:=f';cases x3;cases x4;cases x5;exact⟨q4,x2⟩
  rw[<-hS0]at h5;replace hX0:=zh hX0;replace hRS:=zh hRS;replace h5:=zh h5;replace t5:=zh t5;have hk0:=zh (Kf.refl h5.out.wf);replace h:=zh h;replace hcut:=zh hcut;clear hS0 hX k0 k1 k2 k3 z2 z3 hown y1 y2 hlib e1 fin l1 l2 hi6 hz6 hs6 hb6 hcut hf hsl hNw hpb hll;go_wp2_with fail;go_loopw [31] (λvi wr=>∃(i:Nat) (r:Il) (u:Ts) (svr fvr:Value),vi=.int .i64 i/\i+r.len=LN/\Hid (Cx w0 N p c lv E wr svr fvr u)/\Hid (Tw p (.slice sa s.st.length sc) (.slice fa0 s.fs.length fc0) svr fvr w wr)/\Hid (IlIn w0 ao i r)/\Hid (Sub BlkC r)/\Hid (qA r=true)/\Hid (Kf S0 u)/\u.st.length+szI r<=1099511627775/\szI r<=szI l/\Hid (tyL E l S0=tyL E r u)) (λvi _=>LN-(intOf vi).toNat)
  case atStart=>exact⟨0,l,S0,_,_,rfl,by omega,h5,t5,zh hi0,zh hsub,hf0,hk0,by omega,Nat.le_refl _,zh rfl⟩
  case round=>
   obtain⟨i,r,u,svr,fvr,rfl,hir,h6,t6,hil,hsb,hfb,hku,hub,hrl,hty⟩:=hrel;clear h5 t5 hk0 hi0 hf0;cases r with
   |nil=>
     have hiN:i=LN:=(by simpa[Il.len]using hir)
     subst hiN;obtain⟨d,hud⟩:=hKS.out u hku.out
     have e1:X=(qP ends u).bind λs2=>if s2.st.length=s.st.length then .ok ⟨s2.st,s.fs⟩else .error 60:=by
      rw[hX0.out,hty.out]
      show(match u.fs with | []=>_ |f::r=>_)=_
      rw[hud]
     replace e1:=zh e1;clear hX0 hty hil hsb hfb hir hrl;have htop:=top_any h6.out.t hud;go_wp2_with fail;refine htop.mono ?_;rintro e w8 ⟨⟨g8,cap8,rfl,rfl⟩,b8⟩;have h8:=h6.out.step b8;have d8:Tw p svr (.slice (some ⟨g8,0,none⟩) (s.fs.length+1) cap8) svr (.slice (some ⟨g8,0,none⟩) (s.fs.length+1) cap8) wr w8:=.of_below b8;have t8:=t6.out.trans d8;obtain⟨g',cap',fa,hfv',hg',c0,c1,c2,c3,z3,l1,l2,hn,hm⟩:=h8.t.o.top hud;cases hfv';clear h6 t6 d8 b8 htop c0 c2 c3 z3 l1;cases hq:qP ends u with
     |error m=>
       have hc:=pops_er (lc:=fa.ec) h8.t h8.wf l2 ty2 hq;have e2:X=.error m:=(by rw[e1.out,hq];rfl)
       replace e2:=zh e2;clear hq e1;go_wp2_with fail;refine hc.mono ?_;rintro e w9 ⟨rfl,sv9,fv9,d9⟩;go_wp2;exact⟨rfl,by rw[e2.out];exact⟨rfl,_,_,t8.trans d9⟩⟩
     |ok u2=>
       have hc:=pops_ok (lc:=fa.ec) h8.t h8.wf l2 ty2 hq;obtain⟨hw2,hk2⟩:=tPopL_wf h8.wf hq;obtain⟨d',hud2⟩:=hKS.out u2 (hku.out.trans hk2);have e2:X=if u2.st.length=s.st.length then .ok ⟨u2.st,s.fs⟩else .error 60:=(by rw[e1.out,hq];rfl)
       replace e2:=zh e2;clear hq e1;go_wp2_with fail;refine hc.mono ?_;rintro e w9 ⟨rfl,sv9,h9',d9⟩;have h9:=h8.go hw2 h9' d9;have t9:=t8.trans d9;clear h8 t8 d9 h9' hc c1 l2;obtain⟨sa9,sc9,rfl,hsl9⟩:=h9.t.o.sl;obtain⟨k0,k1,k2,k3,z2,z3⟩:=h9.t.c;obtain⟨g',cap',fa9,hfv',hg',c0,c1,c2,c3,z3',l1,l2,hn',hm'⟩:=h9.t.o.top hud2;cases hfv'
       by_cases hlen9:u2.st.length=s.st.length
       . have e3:=zh (e2.out.trans (if_pos hlen9));have hlb:(((u2.st.length:Nat):Int)==((s.st.length:Nat):Int))=true:=(by simp[hlen9])
         clear e2 c0 c1 c3 z3' l1 l2;replace hlen9:=zh hlen9;go_wp2_with fail;refine wp_region_still_tail 10 (by kernel_rfl) (by kernel_rfl) ?_;simp only[List.take_succ_cons,List.take_zero,List.drop_succ_cons,List.drop_zero]
         repeat still_step
         refine wpStill_nil ?_;change wpList _ _ _ _ _ w9.drew;obtain⟨h10,d10⟩:=zX h9;have t10:=t9.trans d10;obtain⟨w10,hw10⟩:∃w10,w10=w9.drew:=⟨_,rfl⟩
         rw[<-hw10]at h10 t10 ⊢;clear hw10 h9 t9 d10 k0 k1 k2 k3 z2 z3 c2 hlb;go_wp2_with fail;refine(zM 60 _).mono ?_;rintro e w' ⟨rfl,rfl⟩;obtain⟨k0,k1,k2,k3,z2,z3⟩:=h10.t.c;have q1:IntKind.i64.wrap (((s.fs.length+1:Nat):Int)-1)=(s.fs.length:Int):=(by rw[IntKind.wrap_i64];omega)
         have q2:IntKind.i64.wrap (s.fs.length:Int)=(s.fs.length:Int):=(by rw[IntKind.wrap_i64];omega)
         have q3:(0:Int)<=(s.fs.length:Int):=(by omega)
         have q4:(s.fs.length:Int)<=(cap8:Int):=(by omega)
         have q5:s.fs.length<=cap8:=(by omega)
         go_wp2_with fail;refine wp_region_still_tail 12 (by kernel_rfl) (by kernel_rfl) ?_;simp only[List.take_succ_cons,List.take_zero,List.drop_succ_cons,List.drop_zero]
         repeat still_step
         refine wpStill_nil ?_;change wpList _ _ _ _ _ w10.drew;obtain⟨h11,d11⟩:=zX h10;have t11:=t10.trans d11;obtain⟨w11,hw11⟩:∃w11,w11=w10.drew:=⟨_,rfl⟩
         rw[<-hw11]at h11 t11 ⊢;clear hw11 h10 t10 d11 k0 k1 k2 k3 z2 z3;obtain⟨k0,k1,k2,k3,z2,z3⟩:=h11.t.c;have o12:=h11.t.o.leave rfl hud2;have h12:=h11.t.setF o12;have t12:=(t11.cutF (fv'':=.slice (some ⟨g8,0,none⟩) s.fs.length cap8) rfl).set 3 (.slice (some ⟨g8,0,none⟩) s.fs.length cap8);go_wp2_with fail;go_end0;rw[e3.out];exact⟨rfl,_,_,h12,t12⟩
       . have e3:=zh (e2.out.trans (if_neg hlen9));have hlb:(((u2.st.length:Nat):Int)==((s.st.length:Nat):Int))=false:=(by simp;omega)
         clear e2 c0 c1 c3 z3' l1 l2 hlen9;go_wp2_with fail;refine wp_region_still_tail 10 (by kernel_rfl) (by kernel_rfl) ?_;simp only[List.take_succ_cons,List.take_zero,List.drop_succ_cons,List.drop_zero]
         repeat still_step
         refine wpStill_nil ?_;change wpList _ _ _ _ _ w9.drew;obtain⟨h10,d10⟩:=zX h9;have t10:=t9.trans d10;go_wp2_with fail;refine(qK 60 _).mono ?_;rintro e w' ⟨rfl,rfl⟩;go_wp2;exact⟨rfl,by rw[e3.out];exact⟨rfl,_,_,t10⟩⟩
   |cons op a y n ls body els rest=>
     have hlen':i+(rest.len+1)=LN:=hir;have hlt:i<LN:=(by omega)
     obtain⟨b,o,a4,c4,a5,c5,a6,c6,rfl,hh,hrest⟩:=hil.out.head;obtain⟨hc0,hc1,hc2,hc3,hc4,hc5,hc6,i4,l5,i5,l6,i6⟩:=hh;have hkp:=zA h6.out.b;replace hc0:=hkp _ _ hc0;replace hc1:=hkp _ _ hc1;replace hc2:=hkp _ _ hc2;replace hc3:=hkp _ _ hc3;replace hc4:=hkp _ _ hc4;replace hc5:=hkp _ _ hc5;replace hc6:=hkp _ _ hc6;have hbf:=hfb.out;unfold qA at hbf;simp only[Bool.and_eq_true]at hbf;obtain⟨f1,f2,f3,f4⟩:=hbf;have hsz:szI (.cons op a y n ls body els rest)=1+szI body+szI els+szI rest:=rfl;rw[hsz]at hub hrl;have hRu:=hRS.out.kf hku.out;have hul:=kf_len hku.out;have hty1:tyL E l S0=(jL E op a ls els.len (tyL E body) (tyL E els) u).bind (tyL E rest):=hty.out;have hsm:=instr_sm h6.out.ok h6.out.wf f1 (tyL_ok h6.out.ok body f2) (tyL_ok h6.out.ok els f3);have ha1:=Below.of_alloc wr (.cells #[.int .i64 op,.int .i64 a,.int .i64 y,.int .i64 n,.slice a4 ls.length c4,.slice a5 body.len c5,.slice a6 els.len c6] 49);have h7:=h6.out.step ha1;have d7:Tw p svr fvr svr fvr wr _:=.of_below ha1;have hca:=instr_any h7 hR hRu f1 hsb.out.1 hsb.out.2.1 f2 f3 (lc:=c4) (k:=c5) (k2:=c6) i4 l5 i5 l6 i6 (by omega) (by omega);replace h7:=zh h7;replace d7:=zh d7;have hsr:=zh hsb.out.2.2;replace hrest:=zh hrest;replace f4:=zh f4;clear hil hsb hfb hir hty ha1 hkp i4 i5 i6;cases hq:jL E op a ls els.len (tyL E body) (tyL E els) u with
     |error m=>
       rw[hq]at hca hty1;have e5:X=.error m:=(by rw[hX0.out,hty1];rfl)
       replace e5:=zh e5;clear hq hty1 hsm hX0;go_wp2_with fail;refine hca.mono ?_;rintro e w8 ⟨rfl,sv8,fv8,d8⟩;go_wp2;exact⟨rfl,by rw[e5.out];exact⟨rfl,_,_,(t6.out.trans d7.out).trans d8⟩⟩
     |ok v=>
       have hvl:=tInstr_len h6.out.ok hR h6.out.wf hRu f1 (tyL_ok h6.out.ok body f2) (tyL_ok h6.out.ok els f3) hq;rw[hq]at hca hty1 hsm;have hty2:tyL E l S0=tyL E rest v:=hty1;replace hty2:=zh hty2;have hvw:=hsm.1;have hvk:=zh (hku.out.trans hsm.2.1);clear hq hty1 hsm;go_wp2_with fail;refine hca.mono ?_;rintro e w8 ⟨rfl,sv8,fv8,h8',d8⟩;have h8:=zh (h7.out.go hvw h8' d8);have t8:=zh ((t6.out.trans d7.out).trans d8);clear h8' d8 hca h7 d7;go_wp2
       go_roundw
       case rel=>exact⟨i+1,rest,v,sv8,fv8,by simp,by omega,h8,t8,hrest,hsr,f4,hvk,by omega,by omega,hty2⟩
       case measure=>simp[intOf];omega
theorem block_any(l:Il):BlkC l:=Il.each block_step l
theorem wpList_append_run{P:Program}(w:World){ops:Array Oper}{rest:List Oper}{o:Oper}{a:Act}{Q:Exit->Act->World->Prop}(hgd:o.guard=none)(s x:Operand)(t u:TypeId)(ho:o.op=.call {callee:=.builtin .append,args:= #[s,x],argTypes:= #[t,u]})(v xv r:Value)(w':World)(hs:a.eval s=v)(hx:a.eval x=xv)(hr:(Builtin.append_ #[t,u] o.type #[v,xv]).run P w=.ok r w')(h:wpList P ops Q rest (a.put o.dst r) w'):wpList P ops Q (o::rest) a w:=by
 refine wpList_plain hgd λK hK=> ?_;unfold Oper.wp execOp;simp only[ho,resolve,invoke,builtin,Sem.run_bind,Sem.run_pure,Result.andThen_ok,List.map_toArray,List.map_cons,List.map_nil,hs,hx,hr];exact hK _ _ h
theorem grow_nil(n:Nat)(hn:n<=1099511627776)(w:World):Calls Tryz.prog 80 #[.slice none 0 0,.int .i64 n] w λe w'=>∃a c,e=.returned (.slice a 0 c)/\w'.ownsRow w.heap.size 3 1 (.slice a 0 c) 0 []/\Below w.heap.size w w':=by
 obtain⟨i3,hi3,hz3,hs3,hb3⟩:=yO;have h1:¬((n:Int)<0):=(by omega)
 have h2:IntKind.i64.wrap (n:Int)=(n:Int):=(by rw[IntKind.wrap_i64];omega)
 by_cases h0:n=0
 . subst h0;go_enter Tryz.func80,Tryz.ntmps80;go_wp2;go_ret;exact⟨_,_,rfl,World.ownsRow_nil _ _ _ _,Below.refl _ _⟩
 . have h4:(n:Int)>0:=(by omega)
   have hz:=Lib.run_append_grow_zeros w 28 3 28 3 i3 (.int .i64 0) .i64 .i64 Tryz.underlying28 Tryz.underlying3 hi3 hz3 none 0 0 [] (run_firstCells_none w.drew i3.size 0 0 0) n (by omega) (by rw[hs3];omega) (by omega) (by omega)
    (by rw[hb3];omega) (by rw[hb3];exact growslice_fits (by omega) (by omega))
   simp only[Nat.zero_add,List.nil_append,Nat.add_zero]at hz;have hG:=grownCap_ge w n 0 3;obtain⟨G,hGe⟩:∃G,G=grownCap w n 0 3:=⟨_,rfl⟩
   have hGm:=grownCap_le_maxLen w n 0 3 (by unfold maxLen;omega);rw[<-hGe]at hz hG hGm;have i0:(0:Int)<=(G:Int):=(by omega)
   obtain⟨w1,hw1⟩:∃w1,w1=w.drew.alloc (.cells (Builtin.zeroCells (Value.int .i64 0).cells n++Builtin.zeroCells (Value.int .i64 0).cells (G-n)) 3):=⟨_,rfl⟩
   have hz1:(Builtin.append_ #[28,3] 28 #[.slice none 0 0,.int .i64 n]).run Tryz.prog w=.ok (.slice (some ⟨w.heap.size,0,none⟩) n G) w1:=(by rw[hz,hw1];simp)
   have hown:w1.ownsRow w.heap.size 3 1 (.slice (some ⟨w.heap.size,0,none⟩) 0 G) 0 []:=by rw[hw1];exact World.ownsRow_made w.drew _ G (Nat.le_refl _) hGm (by simp[Builtin.zeroCells,Value.cells];omega)
   have hbel:Below w.heap.size w w1:=by rw[hw1];exact(zB (w:=w) 1).trans (Below.of_alloc w.drew _)
   replace hown:=zh hown;replace hbel:=zh hbel;clear hw1 hz hGe;go_enter Tryz.func80,Tryz.ntmps80
   go_wp2_with (first |(
    at_builtin
    refine wpList_append_run _ rfl _ _ _ _ rfl _ _ _ _ (by rfl) (by rfl) hz1 ?_))
   go_wp2;go_ret;exact⟨_,_,rfl,hown.out,hbel.out⟩
theorem ints_own{w:World}{base n:Nat}{a:Option Addr}{c:Nat}{l:List Int}(h:w.ownsRow base 3 1 (.slice a n c) n (l.map λx=>Value.int .i64 x)):l.length=n/\IntsIn w a l/\(l=[]\/∀ad,a=some ad->base<=ad.block):=by
 have hl:l.length=n:=(by have:=h.1;simpa using this)
 subst hl
 rcases h.2 with⟨hv,h0⟩ |⟨g,cap,cur,hv,hb,hg,hn,hm,_⟩
 . have:l=[]:=List.eq_nil_of_length_eq_zero h0;subst this;exact⟨rfl,⟨by simp,.inl rfl⟩,.inl rfl⟩
 . simp only[Value.slice.injEq]at hv;obtain⟨rfl,_,rfl⟩:=hv;simp only[maxLen]at hm;refine⟨rfl,⟨by omega,.inr ⟨g,0,rfl,λi x hx=> ?_⟩⟩,.inr λad e=>by cases e;exact hb⟩;have hi:=(List.getElem?_eq_some_iff.1 hx).1;rw[Nat.zero_add,h.cellAt i (by omega),List.getElem?_map,hx];rfl
theorem wpList_append_ints(w:World){ops:Array Oper}{rest:List Oper}{o:Oper}{a:Act}{Q:Exit->Act->World->Prop}(hgd:o.guard=none)(s x:Operand)(ho:o.op=.call {callee:=.builtin .append,args:= #[s,x],argTypes:= #[28,28]})(base:Nat)(v:Value)(n:Nat)(xs:List Value)(hs:a.eval s=v)(hown:w.ownsRow base 3 1 v n xs)(la:Option Addr)(l:List Int)(lc:Nat)(hx:a.eval x=.slice la l.length lc)(hi:IntsIn w la l)(hb:n+l.length<=1099511627776)(hbase:base<=w.heap.size)(h:∀v' w',w'.ownsRow base 3 1 v' (n+l.length) (xs++l.map λx=>Value.int .i64 x)->w.grownBy w' v.ownBlock->wpList Tryz.prog ops Q rest (a.put o.dst v') w'):wpList Tryz.prog ops Q (o::rest) a w:=by
 obtain⟨i3,hi3,hz3,hs3,hb3⟩:=yO;obtain⟨h63,hc⟩:=hi;cases la with
 |none=>
   have hnil:l=[]:=by
    rcases hc with hc |⟨b,o,e,_⟩
    . exact hc
    . cases e
   subst hnil;exact vY w hgd s x 28 ho base 3 i3 1 Tryz.underlying28 hi3 v n lc xs hs hown hx (h v w (by simpa using hown) ⟨rfl,rfl,rfl,Nat.le_refl _,λ_ _ _=>rfl⟩)
 |some ad=>
   have hnews:∀j u,(l.map λx=>Value.int .i64 x)[j]? =some u->w.cell? (ad.add j)=some u:=by
    rcases hc with hc |⟨b',o',e,hc⟩
    . rw[hc];intro j u hu;cases hu
    . cases e;exact ints_news hc
   exact wpList_append_own_at w hgd s x 28 ho base 3 i3 (.int .i64 0) 1 8 Tryz.underlying28 hi3 hz3 hs3 hb3 rfl (by omega) v n xs hs hown ad l.length lc _ hx (by simp) hnews (by intro u hu;simp only[List.mem_map]at hu;obtain⟨x,_,rfl⟩:=hu;rfl) (by unfold maxLen;omega) (by omega) hbase
    (λv' w' h1 h2 _ _=>h v' w' h1 h2)
def catL (l1 l2:List Int) (i:Nat):List Int:=if i=0 then[]else if i=1 then l1 else l1++l2
theorem concat_any(l1 l2:List Int)(a1 a2:Option Addr)(c1 c2 b:Nat)(w:World)(h1:IntsIn w a1 l1)(h2:IntsIn w a2 l2)(hb:w.heap[b]? =some (.cells #[.slice a1 l1.length c1,.slice a2 l2.length c2] 28 (0,0)))(hn:l1.length+l2.length<=1099511627776):Calls Tryz.prog 53 #[.slice (some ⟨b,0,none⟩) 2 2] w λe w'=>(∃a c,e=.returned (.slice a (l1++l2).length c)/\IntsIn w' a (l1++l2))/\Below w.heap.size w w':=by
 obtain⟨i3,hi3,hz3,hs3,hb3⟩:=yO;have y0:w.cell? ⟨b,0,none⟩=some (.slice a1 l1.length c1):=(by rw[cell_of_row w b 0 _ _ _ hb];rfl)
 have y1:w.cell? ⟨b,1,none⟩=some (.slice a2 l2.length c2):=(by rw[cell_of_row w b 1 _ _ _ hb];rfl)
 have hlt:=lt_of_block hb;go_enter Tryz.func53,Tryz.ntmps53;go_wp2_with fail;go_loopw [3,11] (λv3 vi wr=>∃i:Nat,vi=.int .i64 i/\i<=2/\w=wr/\v3=.int .i64 ((if i=0 then 0 else if i=1 then l1.length else l1.length+l2.length:Nat):Int)) (λ_ vi _=>2-(intOf vi).toNat)
 case atStart=>exact⟨0,rfl,by omega,rfl,rfl⟩
 case round=>
  obtain⟨i,rfl,hi,hwr,rfl⟩:=hrel;subst hwr;have hi2:i=0\/i=1\/i=2:=(by omega)
  rcases hi2 with rfl |rfl |rfl
  . have q1:IntKind.i64.wrap ((0:Int)+(l1.length:Int))=(l1.length:Int):=(by rw[IntKind.wrap_i64];omega)
    have q2:IntKind.i64.wrap (l1.length:Int)=(l1.length:Int):=(by rw[IntKind.wrap_i64];omega)
    have q3:¬(l1.length:Int)<0:=(by omega)
    go_wp2
    go_roundw
    case rel=>exact⟨1,by simp,by omega,by simp,by simp⟩
    case measure=>simp[intOf]
  . have q1:IntKind.i64.wrap ((l1.length:Int)+(l2.length:Int))=((l1.length+l2.length:Nat):Int):=(by rw[IntKind.wrap_i64];omega)
    have q3:¬((l1.length+l2.length:Nat):Int)<0:=(by omega)
    simp only[if_neg (show¬(1:Nat)=0 by omega),if_true];go_wp2
    go_roundw
    case rel=>exact⟨2,by simp,by omega,by simp,by simp⟩
    case measure=>simp[intOf]
  . simp only[if_neg (show¬(2:Nat)=0 by omega),if_neg (show¬(2:Nat)=1 by omega)];have hgr:=grow_nil (l1.length+l2.length) hn w;go_wp2_with fail;refine hgr.mono ?_;rintro e w2 ⟨ga,gc,rfl,ho,bb⟩;have hwz:w.heap.size<=w2.heap.size:=bb.size;go_wp2_with fail;go_loopw [6,27] (λv6 vi wr=>∃i:Nat,vi=.int .i64 i/\i<=2/\Hid (wr.ownsRow w.heap.size 3 1 v6 (catL l1 l2 i).length ((catL l1 l2 i).map λx=>Value.int .i64 x))/\Hid (Below w.heap.size w wr)) (λ_ vi _=>2-(intOf vi).toNat)
    case atStart=>exact⟨0,rfl,by omega,zh ho,zh bb⟩
    case round=>
     obtain⟨i,rfl,hi',ho',bb'⟩:=hrel;clear ho bb hwz hgr;have hws:=bb'.out.size;have z0:=(zA bb'.out) _ _ y0;have z1:=(zA bb'.out) _ _ y1;have j1:=h1.below bb'.out;have j2:=h2.below bb'.out;have hown:=ho'.out;obtain⟨va,vc,rfl⟩:=own_sl hown;have hi3':i=0\/i=1\/i=2:=(by omega)
     rcases hi3' with rfl |rfl |rfl
     . go_wp2_with (first |(
        at_builtin
        refine wpList_append_ints _ rfl _ _ rfl w.heap.size _ _ _ (by rfl) hown a1 l1 c1 (by rfl) j1 (by simp[catL];omega) hws ?_;intro v' w3 ho3 hg3))
       have b3:Below w.heap.size w w3:=bb'.out.grown hg3 hws (λg hg=>(hown.lt g hg).1);go_wp2
       go_roundw
       case rel=>exact⟨1,by simp,by omega,zh (by simpa[catL]using ho3),zh b3⟩
       case measure=>simp[intOf]
     . go_wp2_with (first |(
        at_builtin
        refine wpList_append_ints _ rfl _ _ rfl w.heap.size _ _ _ (by rfl) hown a2 l2 c2 (by rfl) j2 (by simp[catL];omega) hws ?_;intro v' w3 ho3 hg3))
       have b3:Below w.heap.size w w3:=bb'.out.grown hg3 hws (λg hg=>(hown.lt g hg).1);go_wp2
       go_roundw
       case rel=>exact⟨2,by simp,by omega,zh (by simpa[catL]using ho3),zh b3⟩
       case measure=>simp[intOf]
     . replace hown:=zh hown;clear ho';go_wp2;go_ret;obtain⟨e1,e2,_⟩:=ints_own hown.out;exact⟨⟨_,_,rfl,e2⟩,bb'.out⟩
end Go.Proofs.YtacohbllbjgdgaaGreatDoor
namespace Go.Proofs.YtacohbllbjgdgaaGreatDoor
open Go.RowKit
structure ChkAt (w:World) (c:Nat) (m:Md) (fs:List (List Int×List Int)) (a0:Option Addr) (k0:Nat) (a1:Option Addr) (k1:Nat) (a2:Option Addr) (k2:Nat) (a3:Option Addr) (k3:Nat) (a4:Option Addr) (k4:Nat) (a5:Option Addr) (k5:Nat)
 (a6:Option Addr) (k6:Nat) (a7:Option Addr) (k7:Nat) (a8:Option Addr) (k8:Nat) (a9:Option Addr) (k9:Nat) (fa:Option Addr) (fk:Nat):Prop where
 b:w.heap[c]? =some (.cells #[.slice a0 m.types.length k0,.slice a1 m.imports.length k1,.slice a2 m.funcs.length k2,.slice a3 m.tables.length k3,.slice a4 m.mems.length k4,.slice a5 m.globals.length k5,.slice a6 m.exports.length k6,.slice a7 m.start.length k7,.slice a8 m.elems.length k8,.slice a9 m.datas.length k9,.slice fa fs.length fk] 76 (0,0))
 md:MdAt w m a0 k0 a1 k1 a2 k2 a3 k3 a4 k4 a5 k5 a6 k6 a7 k7 a8 k8 a9 k9
 fr:RowsIn TypeAt 2 w fa fs
section
variable {w w':World} {c:Nat} {m:Md} {fs:List (List Int×List Int)} {a0:Option Addr} {k0:Nat} {a1:Option Addr} {k1:Nat} {a2:Option Addr} {k2:Nat} {a3:Option Addr} {k3:Nat} {a4:Option Addr} {k4:Nat} {a5:Option Addr} {k5:Nat}
 {a6:Option Addr} {k6:Nat} {a7:Option Addr} {k7:Nat} {a8:Option Addr} {k8:Nat} {a9:Option Addr} {k9:Nat} {fa:Option Addr} {fk:Nat}
theorem ChkAt.step(h:ChkAt w c m fs a0 k0 a1 k1 a2 k2 a3 k3 a4 k4 a5 k5 a6 k6 a7 k7 a8 k8 a9 k9 fa fk)(b:Below w.heap.size w w'):ChkAt w' c m fs a0 k0 a1 k1 a2 k2 a3 k3 a4 k4 a5 k5 a6 k6 a7 k7 a8 k8 a9 k9 fa fk:=
 ⟨by rw[b.block c (lt_of_block h.b)];exact h.b,h.md.keep (zA b),h.fr.keep λ_ _ _=>.keep (zA b)⟩
def envM (m:Md) (fs:List (List Int×List Int)) (t:List Int×List Int) (ls:List Int):Ev:=⟨m.types,fs,m.globals.map λg=>(g.1,g.2.1),m.tables.length,m.mems.length,t.1++ls⟩
theorem ChkAt.cc(h:ChkAt w c m fs a0 k0 a1 k1 a2 k2 a3 k3 a4 k4 a5 k5 a6 k6 a7 k7 a8 k8 a9 k9 fa fk):w.cell? ⟨c,0,none⟩=some (.slice a0 m.types.length k0)/\w.cell? ⟨c,1,none⟩=some (.slice a1 m.imports.length k1)/\w.cell? ⟨c,2,none⟩=some (.slice a2 m.funcs.length k2)/\w.cell? ⟨c,3,none⟩=some (.slice a3 m.tables.length k3)/\w.cell? ⟨c,4,none⟩=some (.slice a4 m.mems.length k4)/\w.cell? ⟨c,5,none⟩=some (.slice a5 m.globals.length k5)/\w.cell? ⟨c,6,none⟩=some (.slice a6 m.exports.length k6)/\w.cell? ⟨c,7,none⟩=some (.slice a7 m.start.length k7)/\w.cell? ⟨c,8,none⟩=some (.slice a8 m.elems.length k8)/\w.cell? ⟨c,9,none⟩=some (.slice a9 m.datas.length k9)/\w.cell? ⟨c,10,none⟩=some (.slice fa fs.length fk)/\w.frozen? ⟨c,10,none⟩=false:=by
 have:=h.b;refine⟨?_,?_,?_,?_,?_,?_,?_,?_,?_,?_,?_,frozen_of_row w c 10 _ _ this⟩;all_goals rw[cell_of_row w c _ _ _ _ this];rfl
theorem ChkAt.env(h:ChkAt w c m fs a0 k0 a1 k1 a2 k2 a3 k3 a4 k4 a5 k5 a6 k6 a7 k7 a8 k8 a9 k9 fa fk){la:Option Addr}{lc:Nat}{t:List Int×List Int}{ls:List Int}(hl:IntsIn w la (t.1++ls)):EnvAt w c (.slice la (t.1++ls).length lc) (envM m fs t ls):=by obtain⟨y0,y1,y2,y3,y4,y5,y6,y7,y8,y9,y10,_⟩:=h.cc;exact⟨⟨_,_,y0,h.md.types⟩,⟨_,_,y3⟩,⟨_,_,y4⟩,⟨_,_,_,y5,h.md.globals,rfl⟩,⟨_,_,y10,h.fr⟩,⟨_,_,rfl,hl⟩⟩
def vQ (m:Md) (fs:List (List Int×List Int)) (t:List Int×List Int) (fn:Int×List Int×Il):Except Int Ts:=qB (tyL (envM m fs t fn.2.1) fn.2.2) t.2 t.2 ⟨[],[]⟩
def endB (w:World) (x:Except Int Ts) (e:Ending) (w':World):Prop:=
 match x with
 |.ok _=>e=.returned (.tuple #[])/\Below w.heap.size w w'
 |.error n=>e=.panicked (xH n)/\Below w.heap.size w w'
theorem body_any(h:ChkAt w c m fs a0 k0 a1 k1 a2 k2 a3 k3 a4 k4 a5 k5 a6 k6 a7 k7 a8 k8 a9 k9 fa fk){i:Nat}{fn:Int×List Int×Il}(hi:m.funcs[i]? =some fn){t:List Int×List Int}(ht:fs[m.imports.length+i]? =some t)(hE:EvOk (envM m fs t fn.2.1))(hR:EvR (envM m fs t fn.2.1))(hf:qA fn.2.2=true)(hsz:szI fn.2.2<=1099511627775)(ht1:∀x∈t.2,tyo x)(ht2:t.2.length<=1)(hn:t.1.length+fn.2.1.length<=1099511627776):Calls Tryz.prog 30 #[.pointer (some ⟨c,0,none⟩),.int .i64 ((m.imports.length+i:Nat):Int)] w (endB w (vQ m fs t fn)):=by
 generalize hX:vQ m fs t fn=X;replace hX:=zh hX;obtain⟨y0,y1,y2,y3,y4,y5,y6,y7,y8,y9,y10,_⟩:=h.cc;obtain⟨b2,o2,rfl,r1,⟨la,lk,r2,r2i⟩,⟨ba,bk,r3,r3l,r3i⟩⟩:=h.md.funcs.row hi;obtain⟨b3,o3,rfl,⟨pa,pc,q1,q1i⟩,⟨ra,rc,q2,q2i⟩⟩:=h.fr.row ht;have hil:=(List.getElem?_eq_some_iff.1 hi).1;have htl:=(List.getElem?_eq_some_iff.1 ht).1;have hfl:=h.md.funcs.1;have hfl2:=h.fr.1;have s1:IntKind.i64.wrap (((m.imports.length+i:Nat):Int)-(m.imports.length:Int))=(i:Int):=(by rw[IntKind.wrap_i64];omega)
 have j1:(0:Int)<=(i:Int):=(by omega)
 have j2:(i:Int)<(m.funcs.length:Int):=(by omega)
 have j3:(0:Int)<=((m.imports.length+i:Nat):Int):=(by omega)
 have j4:((m.imports.length+i:Nat):Int)<(fs.length:Int):=(by omega)
 obtain⟨NI,hNI⟩:∃NI:Nat,NI=m.imports.length+i:=⟨_,rfl⟩
 rw[<-hNI]at s1 j3 j4 q1 q2 ⊢;replace hNI:=zh hNI;replace r1:w.cell? ⟨b2,o2+i*3,none⟩=some (.int .i64 fn.1):=r1;have r1z:(w.alloc (.cells #[.int .i64 0,.slice none 0 0,.slice none 0 0] 53)).cell? ⟨b2,o2+i*3,none⟩=some (.int .i64 fn.1):=zA (Below.of_alloc w _) _ _ r1;have r1d:(w.alloc (.cells #[.int .i64 0,.slice none 0 0,.slice none 0 0] 53)).drew.cell? ⟨b2,o2+i*3,none⟩=some (.int .i64 fn.1):=r1z;have r2z:(w.alloc (.cells #[.int .i64 0,.slice none 0 0,.slice none 0 0] 53)).cell? ⟨b2,o2+i*3+1,none⟩=some (.slice la fn.2.1.length lk):=zA (Below.of_alloc w _) _ _ r2;have r2d:(w.alloc (.cells #[.int .i64 0,.slice none 0 0,.slice none 0 0] 53)).drew.cell? ⟨b2,o2+i*3+1,none⟩=some (.slice la fn.2.1.length lk):=r2z;have r3z:(w.alloc (.cells #[.int .i64 0,.slice none 0 0,.slice none 0 0] 53)).cell? ⟨b2,o2+i*3+2,none⟩=some (.slice ba fn.2.2.len bk):=zA (Below.of_alloc w _) _ _ r3;have r3d:(w.alloc (.cells #[.int .i64 0,.slice none 0 0,.slice none 0 0] 53)).drew.cell? ⟨b2,o2+i*3+2,none⟩=some (.slice ba fn.2.2.len bk):=r3z;have y1z:(w.alloc (.cells #[.int .i64 0,.slice none 0 0,.slice none 0 0] 53)).cell? ⟨c,1,none⟩=some (.slice a1 m.imports.length k1):=zA (Below.of_alloc w _) _ _ y1;have y1d:(w.alloc (.cells #[.int .i64 0,.slice none 0 0,.slice none 0 0] 53)).drew.cell? ⟨c,1,none⟩=some (.slice a1 m.imports.length k1):=y1z
 have y2z:(w.alloc (.cells #[.int .i64 0,.slice none 0 0,.slice none 0 0] 53)).cell? ⟨c,2,none⟩=some (.slice (some ⟨b2,o2,none⟩) m.funcs.length k2):=zA (Below.of_alloc w _) _ _ y2;have y2d:(w.alloc (.cells #[.int .i64 0,.slice none 0 0,.slice none 0 0] 53)).drew.cell? ⟨c,2,none⟩=some (.slice (some ⟨b2,o2,none⟩) m.funcs.length k2):=y2z;replace h:=zh h;go_enter Tryz.func30,Tryz.ntmps30;go_wp2_with fail
 go_cut [4] from 7 to 21 (λv4 wx=>∃b,v4=.pointer (some ⟨b,0,none⟩)/\Hid (wx.heap[b]? =some (.cells #[.int .i64 fn.1,.slice la fn.2.1.length lk,.slice ba fn.2.2.len bk] 53 (0,0)))/\Hid (Below w.heap.size w wx))
 case first=>
  go_region
  all_goals go_wp2_with fail
  all_goals go_meet
  all_goals exact⟨_,rfl,zh (heap_alloc_new _ _),zh ((zB (w:=w) 1).trans (Below.of_alloc w.drew _))⟩
 case rest=>
  obtain⟨b,rfl,hb53,hbw⟩:=hcut
  obtain⟨g0,g1,g2⟩:wc.cell? ⟨b,0,none⟩=some (.int .i64 fn.1)/\wc.cell? ⟨b,1,none⟩=some (.slice la fn.2.1.length lk)/\wc.cell? ⟨b,2,none⟩=some (.slice ba fn.2.2.len bk):=by have:=hb53.out;refine⟨?_,?_,?_⟩;all_goals rw[cell_of_row wc b _ _ _ _ this];rfl
  have hw2:=h.out.step hbw.out;have y10':=zA hbw.out _ _ y10;replace q1:wc.cell? ⟨b3,o3+NI*2,none⟩=some (.slice pa t.1.length pc):=zA hbw.out _ _ q1;replace q2:wc.cell? ⟨b3,o3+NI*2+1,none⟩=some (.slice ra t.2.length rc):=zA hbw.out _ _ q2;have q1i':=q1i.below hbw.out;have r2i':=r2i.below hbw.out;have hA:Below wc.heap.size wc (wc.drew.alloc (.cells #[.slice pa t.1.length pc,.slice la fn.2.1.length lk] 28)):=(zB (w:=wc) 1).trans (Below.of_alloc wc.drew _);have hcat:=concat_any t.1 fn.2.1 pa la pc lk wc.heap.size _ (q1i'.below hA) (r2i'.below hA) (heap_alloc_new wc.drew _) hn;replace hcat:=zh hcat;clear y0 y1 y2 y3 y4 y5 y6 y7 y8 y9 y10 r1 r2 r3 r1z r1d r2z r2d r3z r3d y1z y1d y2z y2d s1 j1 j2 q1i r2i q1i' r2i';go_wp2_with fail
  go_cut [5] from 22 to 36 (λv5 wx=>∃w2,∃lx:Option Addr,∃lxc:Nat,v5=.pointer (some ⟨w2.heap.size,0,none⟩)/\Hid (wx=w2.alloc (.cells #[.pointer (some ⟨c,0,none⟩),.slice lx (t.1.length+fn.2.1.length) lxc,.slice none 0 0,.slice none 0 0] 99))/\Hid (IntsIn w2 lx (t.1++fn.2.1))/\Hid (Below wc.heap.size wc w2))
  case first=>
   go_region_with (first |(go_at_call 53;refine hcat.out.mono ?_;rintro e w2 ⟨⟨lxa,lxc,rfl,hli⟩,hb2⟩))
   all_goals go_wp2_with fail
   all_goals go_meet
   all_goals exact⟨w2,lxa,lxc,rfl,zh rfl,zh hli,zh (hA.trans (hb2.mono hA.size))⟩
  case rest=>
   obtain⟨w2,lx,lxc,rfl,hwx,hli,hbl⟩:=hcut;have hwx2:=hwx.out;have ha99:=Below.of_alloc w2 (.cells #[.pointer (some ⟨c,0,none⟩),.slice lx (t.1.length+fn.2.1.length) lxc,.slice none 0 0,.slice none 0 0] 99);rw[<-hwx2]at ha99;have hp:wc.heap[w2.heap.size]? =some (.cells #[.pointer (some ⟨c,0,none⟩),.slice lx (t.1.length+fn.2.1.length) lxc,.slice none 0 0,.slice none 0 0] 99 (0,0)):=(by rw[hwx2];exact heap_alloc_new w2 _)
   have hck:=hw2.step hbl.out
   have henv:EnvAt w2 c (.slice lx (t.1.length+fn.2.1.length) lxc) (envM m fs t fn.2.1):=by
    have:=hck.env (lc:=lxc) hli.out
    rwa [List.length_append]at this
   have hsz2:w2.heap.size+1<=wc.heap.size:=(by rw[hwx2];simp)
   have hT:TyP (w2.heap.size+1) w2.heap.size (.pointer (some ⟨c,0,none⟩)) (.slice lx (t.1.length+fn.2.1.length) lxc) wc (.slice none 0 0) (.slice none 0 0) ⟨[],[]⟩:=
    ⟨hp,Nat.lt_succ_self _,hsz2,World.ownsRow_nil _ _ _ _,[],rfl,World.ownsRow_nil _ _ _ _,by intro q hq;cases hq⟩
   have hC:Cx0 w2 (w2.heap.size+1) w2.heap.size c (.slice lx (t.1.length+fn.2.1.length) lxc) (envM m fs t fn.2.1) wc (.slice none 0 0) (.slice none 0 0) ⟨[],[]⟩:=
    ⟨hT,(by intro u hu;cases hu),(by intro u hu;cases hu),ha99,rfl,henv,hE⟩
   have hB2:Below w.heap.size w w2:=hbw.out.trans (hbl.out.mono hbw.out.size);have hB3:Below w.heap.size w wc:=hB2.trans (ha99.mono hB2.size);have hq2:IntsIn w2 ra t.2:=q2i.below hB2
   have hlr:LiB wc w2.heap.size (.slice none 0 0) (.slice none 0 0) ra t.2:=by
    refine⟨q2i.below hB3,?_⟩
    rcases hq2.2 with e |⟨b',o',rfl,hcc⟩
    . exact .inl e
    . cases hts:t.2 with
      |nil=>exact .inl rfl
      |cons x r=>refine .inr λad e=> ?_;cases e;have hlt:b'<w2.heap.size:=World.block_lt_of_cell? _ _ (hcc 0 x (by rw[hts];rfl));exact⟨by show b'≠_;omega,by simp[Value.ownBlock],by simp[Value.ownBlock]⟩
   have hblk:=block_any fn.2.2 w2 _ _ c _ _ wc _ _ _ hC hR (by intro f hf;cases hf) hf t.2 t.2 ra rc ra rc hlr hlr ht1 ht1 ht2 ht2 ba bk r3l (r3i.below hB2) (by simp;omega) (by simp;omega);have hXX:qB (tyL (envM m fs t fn.2.1) fn.2.2) t.2 t.2 ⟨[],[]⟩=X:=hX.out;rw[hXX]at hblk;have q2':wc.cell? ⟨b3,o3+NI*2+1,none⟩=some (.slice ra t.2.length rc):=(zA ha99) _ _ ((zA hbl.out) _ _ q2);have y10'':=(zA ha99) _ _ ((zA hbl.out) _ _ y10');have g2':wc.cell? ⟨b,2,none⟩=some (.slice ba fn.2.2.len bk):=(zA ha99) _ _ ((zA hbl.out) _ _ g2)
   have fin:∀sv' fv' w',Tw w2.heap.size (.slice none 0 0) (.slice none 0 0) sv' fv' wc w'->Below w.heap.size w w':=λsv' fv' w' tw=>
    hB3.trans (tw.below hB2.size (by intro g hg;simp[Value.ownBlock]at hg) (by intro g hg;simp[Value.ownBlock]at hg) hB3.size)
   replace hwx2:=zh hwx2;clear hwx hp hT hC hlr hq2 hXX hX hck henv ha99 hbl hcat g0 g1 g2 q1 q2 y10' hb53 hA
   generalize w2.heap.size=P at*
   cases X with
   |error k=>go_wp2_with fail;refine hblk.mono ?_;rintro e w3 ⟨rfl,sv3,fv3,tw⟩;go_wp2;exact⟨rfl,rfl,fin _ _ _ tw⟩
   |ok u=>go_wp2_with fail;refine hblk.mono ?_;rintro e w3 ⟨rfl,sv3,fv3,_,tw⟩;go_wp2;go_end0;exact⟨rfl,fin _ _ _ tw⟩
end
end Go.Proofs.YtacohbllbjgdgaaGreatDoor
