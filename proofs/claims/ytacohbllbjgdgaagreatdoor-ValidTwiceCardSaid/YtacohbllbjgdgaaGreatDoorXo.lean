/- The typer: any block. -/
import Derived.Test.YtacohbllbjgdgaaGreatDoorXl
import Derived.Deep.RegionLaw
import Derived.Deep.AppendLies
set_option linter.all false
set_option maxRecDepth 100000
set_option maxHeartbeats 16000000
namespace Go.Proofs.YtacohbllbjgdgaaGreatDoor
open Go.RowKit
theorem qY{α β:Type}{e:Except Int α}{k:α->Except Int β}{t:β}(h:e.bind k=.ok t):∃u,e=.ok u/\k u=.ok t:=by
 cases e with
 |error n=>cases h
 |ok u=>exact⟨u,rfl,h⟩
theorem jX(l:List Int)(s:Ts):(zN l s).st.length=l.length+s.st.length:=by unfold zN;simp
theorem tDies_len(s:Ts):(vC s).st.length<=s.st.length:=by
 unfold vC;split
 . exact Nat.le_refl _
 . simp
theorem tCalls_len{t:List Int×List Int}{s u:Ts}(ht:t.2.length<=1)(h:vW t s=.ok u):u.st.length<=s.st.length+1:=by obtain⟨v,h1,h2⟩:=qY h;cases h2;have:=xW _ h1;rw[jX];omega
theorem tInstr_len{E:Ev}(hE:EvOk E)(hR:EvR E){s t:Ts}(hw:Wf s)(hRf:Rf s){op a y n:Int}{ls:List Int}{bl el:Nat}(hf:zC op a y n ls bl el=true){B C:Ts->Except Int Ts}{B' C':Rs->Rs}(hB:BOk B B')(hC:BOk C C')(h:vV E op a ls el B C s=.ok t):t.st.length<=s.st.length+1:=by
 obtain⟨h0,g1,g2,g3,g4⟩:=plainfacts hf;have hrl:=resV_len a;unfold vV at h;split at h
 . obtain⟨u,h1,h2⟩:=qY h;cases h2;have:=xW _ h1;rw[jX];simp;omega
 split at h
 . rename_i hF;have ha:=g1 hF;have hty:=res_ok ha;unfold yE at h;split at h
   . obtain⟨u,h1,h2⟩:=qY h;cases h2;have:=(vF hB hty hty hw h1).1;rw[jX];omega
   . split at h
     . obtain⟨u,h1,h2⟩:=qY h;cases h2;have:=(vF hB (by intro t ht;cases ht) hty hw h1).1;rw[jX];omega
     . obtain⟨q,h1,h2⟩:=qY h;have hql:=zR h1;have hwq:=(qO hw h1).1;split at h2
       . obtain⟨u,h3,h4⟩:=qY h2;obtain⟨ul,uw,_⟩:=vF hB hty hty hwq h3;obtain⟨v,h5,h6⟩:=qY h4;cases h6;rw[jX];split at h5
         . have:=(vF hC hty hty uw h5).1;omega
         . cases h5;omega
       . cases h2
 split at h
 . unfold xE at h;obtain⟨_,_,h⟩:=qY h;obtain⟨g,hg,h⟩:=qY h;obtain⟨u,h1,h⟩:=qY h;obtain⟨_,_,h⟩:=qY h;obtain⟨v,h2,h⟩:=qY h
   have hul:u.st.length<=s.st.length:=by
    split at h1
    . obtain⟨q,h3,h4⟩:=qY h1;cases h4;exact zR h3
    . cases h1;exact Nat.le_refl _
   have hvl:=xW _ h2;obtain⟨f,hff,hfg⟩:=tGoes_in hw (g2 (by omega)) hg;have hgl:g.length<=1:=(by rw[<-hfg];exact(hRf f hff).1)
   cases h;split
   . rw[jX];omega
   . have:=tDies_len v;omega
 split at h
 . unfold jJ at h;split at h
   . split at h
     . rename_i t' ht;exact tCalls_len (hR.funcs _ (List.mem_of_getElem? ht)) h
     . cases h
   . split at h
     . split at h
       . cases h;rw[jX];simp;omega
       . cases h
     . split at h
       . split at h
         . split at h
           . obtain⟨q,h3,h4⟩:=qY h;cases h4;have:=zR h3;omega
           . cases h
         . cases h
       . split at h
         . obtain⟨u,h1,h2⟩:=qY h
           have hul:u.st.length<=s.st.length:=by
            split at h1
            . obtain⟨q,h3,h4⟩:=qY h1;cases h4;exact zR h3
            . cases h1;exact Nat.le_refl _
           cases h2;split
           . rw[jX];simp;omega
           . omega
         . cases h
 split at h
 . unfold yP at h;split at h
   . split at h
     . rename_i t' ht;obtain⟨q,h1,h2⟩:=qY h;have:=zR h1;have:=tCalls_len (hR.types _ (List.mem_of_getElem? ht)) h2;omega
     . cases h
   . cases h
 split at h
 . unfold zF at h;split at h
   . split at h
     . obtain⟨u,h1,h2⟩:=qY h
       have hul:u.st.length<=s.st.length:=by
        split at h1
        . obtain⟨q,h3,h4⟩:=qY h1;cases h4;exact zR h3
        . cases h1;exact Nat.le_refl _
       obtain⟨q,h3,h4⟩:=qY h2;have:=zR h3;cases h4;split
       . rw[jX];simp;omega
       . omega
     . cases h
   . cases h
 split at h
 . cases h;rw[jX];simp;omega
 . unfold xZ at h;split at h
   . cases h;have:=tDies_len s;omega
   split at h
   . obtain⟨u,h1,h2⟩:=qY h;cases h2;have:=xW _ h1;have:=tDies_len u;omega
   split at h
   . obtain⟨q,h1,h2⟩:=qY h;cases h2;have:=zR h1;omega
   split at h
   . obtain⟨q,h1,h⟩:=qY h;obtain⟨q2,h2,h⟩:=qY h;obtain⟨q3,h3,h⟩:=qY h;have:=zR h1;have:=zR h2;have:=zR h3;split at h
     . cases h;rw[jX];simp;omega
     . cases h
   split at h
   . split at h
     . cases h;rw[jX];simp;omega
     . cases h
   split at h
   . split at h
     . obtain⟨q,h1,h2⟩:=qY h;cases h2;have:=zR h1;rw[jX];simp;omega
     . cases h
   . cases h;omega
theorem info126v:(Tryz.prog.info? 126).map (λi=>(i.zero,i.size,i.bytes))=some (some (.agg #[.slice none 0 0,.slice none 0 0,.int .i64 0,.bool false]),4,64):=by kernel_rfl
theorem info126v_parts:∃i,Tryz.prog.info? 126=some i/\i.zero=some (.agg #[.slice none 0 0,.slice none 0 0,.int .i64 0,.bool false])/\i.size=4/\i.bytes=64:=by
 have h:=info126v;cases hi:Tryz.prog.info? 126 with
 |none=>rw[hi]at h;cases h
 |some i=>rw[hi]at h;simp only[Option.map_some,Option.some.injEq,Prod.mk.injEq]at h;exact⟨i,rfl,h.1,h.2.1,h.2.2⟩
theorem Ows.enterL{N p:Nat}{et:TypeId}{un:Int}{w w':World}{sv fv:Value}{s:Ts}(h:Ows N p et un w sv fv s)(he:et≠3){L:List (Fr×FA)}(h1:L.map Prod.fst=s.fs)(h2:w.ownsRow N et 4 fv L.length (frC L))(h3:∀q∈L,LiB w p sv fv q.2.ga q.1.goes/\LiB w p sv fv q.2.ea q.1.ends){f:Fr}{fa:FA}{v':Value}(ho:w'.ownsRow N et 4 v' (s.fs.length+1) (frC L++frV (f,fa)))(hg:w.grownBy w' fv.ownBlock)(hb:v'.ownBlock=fv.ownBlock\/v'.ownBlock=some w.heap.size)(l1:LiB w p sv fv fa.ga f.goes)(l2:LiB w p sv fv fa.ea f.ends):Ows N p et un w' sv v' ⟨s.st,f::s.fs⟩/\Tw p sv fv sv v' w w':=by
 have t:Tw p sv fv sv v' w w':=.growF hg hb;have hl:L.length=s.fs.length:=(by rw[<-h1,List.length_map])
 refine⟨⟨h.hN,Nat.le_trans h.hw t.size,h.st.kept hg (h.ne he).1,(f,fa)::L,by rw[List.map_cons,h1],by rw[frC_cons,List.length_cons,hl];exact ho,λq hq=> ?_⟩,t⟩
 rcases List.mem_cons.1 hq with rfl |hq
 . exact⟨l1.tw t,l2.tw t⟩
 . exact⟨(h3 q hq).1.tw t,(h3 q hq).2.tw t⟩
theorem block_step(l:Il)(hsub:Sub BlkC l):BlkC l:=by
 intro w0 N p c lv E w sv fv s h hR hRf hf goes ends ga gc ea ec l1 l2 ty1 ty2 n1 n2 ao k hlen hi b1 b2;generalize hX:qW (tyL E l) goes ends s=X;replace hX:=zh hX;obtain⟨LN,hLN⟩:∃LN,l.len=LN:=⟨_,rfl⟩
 rw[hLN]at hlen ⊢;obtain⟨i6,hi6,hz6,hs6,hb6⟩:=info126v_parts;obtain⟨k0,k1,k2,k3,z2,z3⟩:=h.t.c;obtain⟨sa,sc,hsv,hsl⟩:=h.t.o.sl;have hdr:=drew_step0 h;have hwA:Below w.drew.heap.size w.drew (w.drew.alloc (.cells #[.slice ga goes.length gc,.slice ea ends.length ec,.int .i64 s.st.length,.bool false] 126)):=Below.of_alloc _ _;have hA:=hdr.1.step hwA;have tA:=hdr.2.step hwA;obtain⟨wA,hwA2⟩:∃wA,wA=w.drew.alloc (.cells #[.slice ga goes.length gc,.slice ea ends.length ec,.int .i64 s.st.length,.bool false] 126):=⟨_,rfl⟩
 rw[<-hwA2]at hA tA;obtain⟨L,e1,hown,hlib⟩:=hA.t.o.fs;have hll:L.length=s.fs.length:=(by rw[<-e1,List.length_map])
 obtain⟨fa0,fc0,hfv⟩:=yR hown
 have fin:∀(g cap:Nat) (w3:World),w3.ownsRow N 126 4 (.slice (some ⟨g,0,none⟩) (s.fs.length+1) cap) (s.fs.length+1) (frC L++frV (⟨goes,ends,s.st.length,false⟩,⟨ga,gc,ea,ec⟩))->wA.grownBy w3 fv.ownBlock->(fv.ownBlock=some g\/g=wA.heap.size)->
  Hid (Cx w0 N p c lv E (w3.setCell ⟨p,3,none⟩ (.slice (some ⟨g,0,none⟩) (s.fs.length+1) cap)) sv (.slice (some ⟨g,0,none⟩) (s.fs.length+1) cap) ⟨s.st,⟨goes,ends,s.st.length,false⟩::s.fs⟩/\Tw p sv fv sv (.slice (some ⟨g,0,none⟩) (s.fs.length+1) cap) w (w3.setCell ⟨p,3,none⟩ (.slice (some ⟨g,0,none⟩) (s.fs.length+1) cap)))/\
  w3.cell? ⟨p,3,none⟩=some fv/\w3.frozen? ⟨p,3,none⟩=false:=λg cap w3 ho hg hat=>by
  obtain⟨o1,t1⟩:=hA.t.o.enterL (by decide) e1 hown hlib (f:=⟨goes,ends,s.st.length,false⟩) (fa:=⟨ga,gc,ea,ec⟩) (v':=.slice (some ⟨g,0,none⟩) (s.fs.length+1) cap) ho hg (by
   rcases hat with e |e
   . exact .inl e.symm
   . exact .inr (by rw[e];rfl)) (l1.tw tA) (l2.tw tA)
  have hne:fv.ownBlock≠some p:=λe=>by have:=h.t.o.low.2 p e;have:=h.t.o.hN;omega
  have hp1:w3.heap[p]? =some (.cells #[.pointer (some ⟨c,0,none⟩),lv,sv,fv] 99 (0,0)):=(by rw[hg.block p (lt_of_block hA.t.b) (λe=>hne e.symm)];exact hA.t.b)
  refine⟨zh ⟨⟨⟨by rw[heap_setCell_same w3 p 3 _ _ _ hp1];rfl,o1.setP 3 _⟩,?_,?_,h.p0,h.e0,h.ok⟩,(tA.trans t1).set 3 _⟩,by rw[cell_of_row w3 p 3 _ _ _ hp1];rfl,frozen_of_row w3 p 3 _ _ hp1⟩
  . exact⟨⟨_,_,rfl,Nat.le_refl _⟩,h.st,λf hf=>by
     rcases List.mem_cons.1 hf with rfl |hf
     . exact⟨ty1,ty2⟩
     . exact h.ty f hf⟩
  . refine h.b.trans ?_;rw[h.p0];exact h.t.o.below ((tA.trans t1).set 3 _)
 rw[hll]at hfv hown;have hfs:s.fs.length<=1099511627775:=(by omega)
 have hNw:=h.t.o.hw;rw[hwA2]at fin hown;clear hA tA hwA hdr hwA2;subst hsv;subst hfv;have hpb:=lt_of_block h.t.b;have y1:(w.alloc (.cells #[.slice ga goes.length gc,.slice ea ends.length ec,.int .i64 s.st.length,.bool false] 126)).cell? ⟨p,3,none⟩=some (.slice fa0 s.fs.length fc0):=(World.cell?_of_block (Below.heap_alloc _ _ _ hpb)).trans k3;have y2:(w.alloc (.cells #[.slice ga goes.length gc,.slice ea ends.length ec,.int .i64 s.st.length,.bool false] 126)).drew.cell? ⟨p,3,none⟩=some (.slice fa0 s.fs.length fc0):=y1;go_enter Tryz.func54,Tryz.ntmps54;go_wp2_with fail
 go_cut [] from 11 to 28 (λwx=>∃g cap,Hid (Cx w0 N p c lv E wx (.slice sa s.st.length sc) (.slice (some ⟨g,0,none⟩) (s.fs.length+1) cap) ⟨s.st,⟨goes,ends,s.st.length,false⟩::s.fs⟩/\Tw p (.slice sa s.st.length sc) (.slice fa0 s.fs.length fc0) (.slice sa s.st.length sc) (.slice (some ⟨g,0,none⟩) (s.fs.length+1) cap) w wx))
 case first=>
  go_region_law ((
   refine step_append_lies _ rfl _ _ _ rfl N 126 i6 _ 4 64 Tryz.underlying97 hi6 hz6 hs6 hb6 rfl (by omega) (.slice fa0 s.fs.length fc0) s.fs.length (frC L) (by rfl) hown ⟨w.drew.heap.size,0,none⟩ 1 1 [.slice ga goes.length gc,.slice ea ends.length ec,.int .i64 s.st.length,.bool false] (by rfl) (by rfl)
    (World.news_of_block (cs:= #[.slice ga goes.length gc,.slice ea ends.length ec,.int .i64 s.st.length,.bool false]) (t:=126) (fr:=(0,0)) (heap_alloc_new _ _)) (by intro u hu;simp only[List.mem_cons,List.mem_nil_iff,or_false]at hu;rcases hu with rfl |rfl |rfl |rfl<;>rfl)
    (by omega) (by unfold maxLen;omega) (by omega) (by simp;omega) (w.drew.heap.size+1) (by simp) ?_
   intro g cap w3 hown3 hgrow hat hlt3;obtain⟨hfin,y3,f3⟩:=fin g cap w3 hown3 hgrow (hat.imp_right λe=>by rw[e];simp)))
  all_goals go_wp2_with fail
  all_goals go_meet
  all_goals exact⟨g,cap,hfin⟩
 case rest=>
  obtain⟨g,cap,hcut⟩:=hcut;obtain⟨h5,t5⟩:=hcut.out;have hi0:IlIn w0 ao 0 l:=hi;have hf0:=zh hf;obtain⟨S0,hS0⟩:∃S0:Ts,S0=⟨s.st,⟨goes,ends,s.st.length,false⟩::s.fs⟩:=⟨_,rfl⟩
  have hS1:S0.fs.length=s.fs.length+1:=(by rw[hS0];rfl)
  have hS2:S0.st.length=s.st.length:=(by rw[hS0])
  have hRS:Rf S0:=by
   rw[hS0];intro f hf
   rcases List.mem_cons.1 hf with rfl |hf
   . exact⟨n1,n2⟩
   . exact hRf f hf
  have hX0:X=(tyL E l S0).bind λs1=>match s1.fs with | []=>.error 0 |f::r=>(qZ f.ends s1).bind λs2=>if s2.st.length=f.h then .ok ⟨s2.st,r⟩else .error 60:=(by rw[<-hX.out,hS0];rfl)
  have hKS:Hid (∀u,Kf S0 u->∃d,u.fs=⟨goes,ends,s.st.length,d⟩::s.fs):=zh λu hk=>by
   rw[hS0]at hk;obtain⟨f,f',r,x1,x2,x3,x4,x5⟩:=hk;cases x1;obtain⟨q1,q2,q3,q4⟩:=f';cases x3;cases x4;cases x5;exact⟨q4,x2⟩
  rw[<-hS0]at h5;replace hX0:=zh hX0;replace hRS:=zh hRS;replace h5:=zh h5;replace t5:=zh t5;have hk0:=zh (Kf.refl h5.out.wf);replace h:=zh h;replace hcut:=zh hcut;clear hS0 hX k0 k1 k2 k3 z2 z3 hown y1 y2 hlib e1 fin l1 l2 hi6 hz6 hs6 hb6 hcut hf hsl hNw hpb hll;go_wp2_with fail;go_loopw [31] (λvi wr=>∃(i:Nat) (r:Il) (u:Ts) (svr fvr:Value),vi=.int .i64 i/\i+r.len=LN/\Hid (Cx w0 N p c lv E wr svr fvr u)/\Hid (Tw p (.slice sa s.st.length sc) (.slice fa0 s.fs.length fc0) svr fvr w wr)/\Hid (IlIn w0 ao i r)/\Hid (Sub BlkC r)/\Hid (zZ r=true)/\Hid (Kf S0 u)/\u.st.length+szI r<=1099511627775/\szI r<=szI l/\Hid (tyL E l S0=tyL E r u)) (λvi _=>LN-(intOf vi).toNat)
  case atStart=>exact⟨0,l,S0,_,_,rfl,by omega,h5,t5,zh hi0,zh hsub,hf0,hk0,by omega,Nat.le_refl _,zh rfl⟩
  case round=>
   obtain⟨i,r,u,svr,fvr,rfl,hir,h6,t6,hil,hsb,hfb,hku,hub,hrl,hty⟩:=hrel;clear h5 t5 hk0 hi0 hf0;cases r with
   |nil=>
     have hiN:i=LN:=(by simpa[Il.len]using hir)
     subst hiN;obtain⟨d,hud⟩:=hKS.out u hku.out
     have e1:X=(qZ ends u).bind λs2=>if s2.st.length=s.st.length then .ok ⟨s2.st,s.fs⟩else .error 60:=by
      rw[hX0.out,hty.out]
      show(match u.fs with | []=>_ |f::r=>_)=_
      rw[hud]
     replace e1:=zh e1;clear hX0 hty hil hsb hfb hir hrl;have htop:=top_any h6.out.t hud;go_wp2_with fail;refine htop.mono ?_;rintro e w8 ⟨⟨g8,cap8,rfl,rfl⟩,b8⟩;have h8:=h6.out.step b8;have d8:Tw p svr (.slice (some ⟨g8,0,none⟩) (s.fs.length+1) cap8) svr (.slice (some ⟨g8,0,none⟩) (s.fs.length+1) cap8) wr w8:=.of_below b8;have t8:=t6.out.trans d8;obtain⟨g',cap',fa,hfv',hg',c0,c1,c2,c3,z3,l1,l2,hn,hm⟩:=h8.t.o.top hud;cases hfv';clear h6 t6 d8 b8 htop c0 c2 c3 z3 l1;cases hq:qZ ends u with
     |error m=>
       have hc:=pops_er (lc:=fa.ec) h8.t h8.wf l2 ty2 hq;have e2:X=.error m:=(by rw[e1.out,hq];rfl)
       replace e2:=zh e2;clear hq e1;go_wp2_with fail;refine hc.mono ?_;rintro e w9 ⟨rfl,sv9,fv9,d9⟩;go_wp2;exact⟨rfl,by rw[e2.out];exact⟨rfl,_,_,t8.trans d9⟩⟩
     |ok u2=>
       have hc:=pops_ok (lc:=fa.ec) h8.t h8.wf l2 ty2 hq;obtain⟨hw2,hk2⟩:=tPopL_wf h8.wf hq;obtain⟨d',hud2⟩:=hKS.out u2 (hku.out.trans hk2);have e2:X=if u2.st.length=s.st.length then .ok ⟨u2.st,s.fs⟩else .error 60:=(by rw[e1.out,hq];rfl)
       replace e2:=zh e2;clear hq e1;go_wp2_with fail;refine hc.mono ?_;rintro e w9 ⟨rfl,sv9,h9',d9⟩;have h9:=h8.go hw2 h9' d9;have t9:=t8.trans d9;clear h8 t8 d9 h9' hc c1 l2;obtain⟨sa9,sc9,rfl,hsl9⟩:=h9.t.o.sl;obtain⟨k0,k1,k2,k3,z2,z3⟩:=h9.t.c;obtain⟨g',cap',fa9,hfv',hg',c0,c1,c2,c3,z3',l1,l2,hn',hm'⟩:=h9.t.o.top hud2;cases hfv'
       by_cases hlen9:u2.st.length=s.st.length
       . have e3:=zh (e2.out.trans (if_pos hlen9));have hlb:(((u2.st.length:Nat):Int)==((s.st.length:Nat):Int))=true:=(by simp[hlen9])
         clear e2 c0 c1 c3 z3' l1 l2;replace hlen9:=zh hlen9;go_wp2_with fail;refine wp_region_still_tail 10 (by kernel_rfl) (by kernel_rfl) ?_;simp only[List.take_succ_cons,List.take_zero,List.drop_succ_cons,List.drop_zero]
         repeat still_step
         refine wpStill_nil ?_;change wpList _ _ _ _ _ w9.drew;obtain⟨h10,d10⟩:=zU h9;have t10:=t9.trans d10;obtain⟨w10,hw10⟩:∃w10,w10=w9.drew:=⟨_,rfl⟩
         rw[<-hw10]at h10 t10 ⊢;clear hw10 h9 t9 d10 k0 k1 k2 k3 z2 z3 c2 hlb;go_wp2_with fail;refine(zJ 60 _).mono ?_;rintro e w' ⟨rfl,rfl⟩;obtain⟨k0,k1,k2,k3,z2,z3⟩:=h10.t.c;have q1:IntKind.i64.wrap (((s.fs.length+1:Nat):Int)-1)=(s.fs.length:Int):=(by rw[IntKind.wrap_i64];omega)
         have q2:IntKind.i64.wrap (s.fs.length:Int)=(s.fs.length:Int):=(by rw[IntKind.wrap_i64];omega)
         have q3:(0:Int)<=(s.fs.length:Int):=(by omega)
         have q4:(s.fs.length:Int)<=(cap8:Int):=(by omega)
         have q5:s.fs.length<=cap8:=(by omega)
         go_wp2_with fail;refine wp_region_still_tail 12 (by kernel_rfl) (by kernel_rfl) ?_;simp only[List.take_succ_cons,List.take_zero,List.drop_succ_cons,List.drop_zero]
         repeat still_step
         refine wpStill_nil ?_;change wpList _ _ _ _ _ w10.drew;obtain⟨h11,d11⟩:=zU h10;have t11:=t10.trans d11;obtain⟨w11,hw11⟩:∃w11,w11=w10.drew:=⟨_,rfl⟩
         rw[<-hw11]at h11 t11 ⊢;clear hw11 h10 t10 d11 k0 k1 k2 k3 z2 z3;obtain⟨k0,k1,k2,k3,z2,z3⟩:=h11.t.c;have o12:=h11.t.o.leave rfl hud2;have h12:=h11.t.setF o12;have t12:=(t11.cutF (fv'':=.slice (some ⟨g8,0,none⟩) s.fs.length cap8) rfl).set 3 (.slice (some ⟨g8,0,none⟩) s.fs.length cap8);go_wp2_with fail;go_end0;rw[e3.out];exact⟨rfl,_,_,h12,t12⟩
       . have e3:=zh (e2.out.trans (if_neg hlen9));have hlb:(((u2.st.length:Nat):Int)==((s.st.length:Nat):Int))=false:=(by simp;omega)
         clear e2 c0 c1 c3 z3' l1 l2 hlen9;go_wp2_with fail;refine wp_region_still_tail 10 (by kernel_rfl) (by kernel_rfl) ?_;simp only[List.take_succ_cons,List.take_zero,List.drop_succ_cons,List.drop_zero]
         repeat still_step
         refine wpStill_nil ?_;change wpList _ _ _ _ _ w9.drew;obtain⟨h10,d10⟩:=zU h9;have t10:=t9.trans d10;go_wp2_with fail;refine(qG 60 _).mono ?_;rintro e w' ⟨rfl,rfl⟩;go_wp2;exact⟨rfl,by rw[e3.out];exact⟨rfl,_,_,t10⟩⟩
   |cons op a y n ls body els rest=>
     have hlen':i+(rest.len+1)=LN:=hir;have hlt:i<LN:=(by omega)
     obtain⟨b,o,a4,c4,a5,c5,a6,c6,rfl,hh,hrest⟩:=hil.out.head;obtain⟨hc0,hc1,hc2,hc3,hc4,hc5,hc6,i4,l5,i5,l6,i6⟩:=hh;have hkp:=zA h6.out.b;replace hc0:=hkp _ _ hc0;replace hc1:=hkp _ _ hc1;replace hc2:=hkp _ _ hc2;replace hc3:=hkp _ _ hc3;replace hc4:=hkp _ _ hc4;replace hc5:=hkp _ _ hc5;replace hc6:=hkp _ _ hc6;have hbf:=hfb.out;unfold zZ at hbf;simp only[Bool.and_eq_true]at hbf;obtain⟨f1,f2,f3,f4⟩:=hbf;have hsz:szI (.cons op a y n ls body els rest)=1+szI body+szI els+szI rest:=rfl;rw[hsz]at hub hrl;have hRu:=hRS.out.kf hku.out;have hul:=kf_len hku.out;have hty1:tyL E l S0=(vV E op a ls els.len (tyL E body) (tyL E els) u).bind (tyL E rest):=hty.out;have hsm:=instr_sm h6.out.ok h6.out.wf f1 (tyL_ok h6.out.ok body f2) (tyL_ok h6.out.ok els f3);have ha1:=Below.of_alloc wr (.cells #[.int .i64 op,.int .i64 a,.int .i64 y,.int .i64 n,.slice a4 ls.length c4,.slice a5 body.len c5,.slice a6 els.len c6] 49);have h7:=h6.out.step ha1;have d7:Tw p svr fvr svr fvr wr _:=.of_below ha1;have hca:=instr_any h7 hR hRu f1 hsb.out.1 hsb.out.2.1 f2 f3 (lc:=c4) (k:=c5) (k2:=c6) i4 l5 i5 l6 i6 (by omega) (by omega);replace h7:=zh h7;replace d7:=zh d7;have hsr:=zh hsb.out.2.2;replace hrest:=zh hrest;replace f4:=zh f4;clear hil hsb hfb hir hty ha1 hkp i4 i5 i6;cases hq:vV E op a ls els.len (tyL E body) (tyL E els) u with
     |error m=>
       rw[hq]at hca hty1;have e5:X=.error m:=(by rw[hX0.out,hty1];rfl)
       replace e5:=zh e5;clear hq hty1 hsm hX0;go_wp2_with fail;refine hca.mono ?_;rintro e w8 ⟨rfl,sv8,fv8,d8⟩;go_wp2;exact⟨rfl,by rw[e5.out];exact⟨rfl,_,_,(t6.out.trans d7.out).trans d8⟩⟩
     |ok v=>
       have hvl:=tInstr_len h6.out.ok hR h6.out.wf hRu f1 (tyL_ok h6.out.ok body f2) (tyL_ok h6.out.ok els f3) hq;rw[hq]at hca hty1 hsm;have hty2:tyL E l S0=tyL E rest v:=hty1;replace hty2:=zh hty2;have hvw:=hsm.1;have hvk:=zh (hku.out.trans hsm.2.1);clear hq hty1 hsm;go_wp2_with fail;refine hca.mono ?_;rintro e w8 ⟨rfl,sv8,fv8,h8',d8⟩;have h8:=zh (h7.out.go hvw h8' d8);have t8:=zh ((t6.out.trans d7.out).trans d8);clear h8' d8 hca h7 d7;go_wp2
       go_roundw
       case rel=>exact⟨i+1,rest,v,sv8,fv8,by simp,by omega,h8,t8,hrest,hsr,f4,hvk,by omega,by omega,hty2⟩
       case measure=>simp[intOf];omega
theorem block_any(l:Il):BlkC l:=Il.each block_step l
end Go.Proofs.YtacohbllbjgdgaaGreatDoor
