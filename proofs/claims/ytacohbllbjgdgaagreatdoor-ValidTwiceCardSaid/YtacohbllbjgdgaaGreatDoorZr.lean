/- The reference's checker of a body: blocks, whatever stands in them. -/
import Derived.Test.YtacohbllbjgdgaaGreatDoorZl
import Derived.Test.YtacohbllbjgdgaaGreatDoorXo
import Derived.Test.YtacohbllbjgdgaaGreatDoorXr
set_option linter.all false
set_option maxRecDepth 100000
set_option maxHeartbeats 8000000
namespace Go.Proofs.YtacohbllbjgdgaaGreatDoor
open Go.RowKit
theorem info131v:(Tryz.prog.info? 131).map (λi=>(i.zero,i.size,i.bytes))=some (some (.agg #[.slice none 0 0,.slice none 0 0,.int .i64 0,.bool false]),4,64):=by kernel_rfl
theorem info131v_parts:∃i,Tryz.prog.info? 131=some i/\i.zero=some (.agg #[.slice none 0 0,.slice none 0 0,.int .i64 0,.bool false])/\i.size=4/\i.bytes=64:=by
 have h:=info131v;cases hi:Tryz.prog.info? 131 with
 |none=>rw[hi]at h;cases h
 |some i=>rw[hi]at h;simp only[Option.map_some,Option.some.injEq,Prod.mk.injEq]at h;exact⟨i,rfl,h.1,h.2.1,h.2.2⟩
section
variable {wa:World} {N p:Nat} {A:MA} {lv:Value} {m:Md} {E:Ev} {w w':World} {sv fv sv' fv':Value} {s u:Rs}
theorem Rx0.step(h:Rx0 wa N p A lv m E w sv fv s)(b:Below w.heap.size w w'):Rx0 wa N p A lv m E w' sv fv s:=by obtain⟨a,k,e,l⟩:=h.lc;exact⟨h.t.step b,h.b.trans (b.mono h.b.size),h.p0,h.md,⟨a,k,e,l.tw (.of_below b)⟩,h.e1,h.e2,h.e3,h.e4⟩
theorem Rx0.go(h:Rx0 wa N p A lv m E w sv fv s)(t:RcP N p (A.v m) lv w' sv' fv' u)(tw:Tw p sv fv sv' fv' w w'):Rx0 wa N p A lv m E w' sv' fv' u:=by obtain⟨a,k,e,l⟩:=h.lc;have hN:=h.t.o.hN;have hp:=h.p0;refine⟨t,h.b.trans (tw.below h.p0 (λg hg=>by have:=h.t.o.low.1 g hg;omega) (λg hg=>by have:=h.t.o.low.2 g hg;omega) h.b.size),h.p0,h.md,⟨a,k,e,l.tw tw⟩,h.e1,h.e2,h.e3,h.e4⟩
theorem ryL_stop{E:Ev}{r:Il}{u:Rs}(h:r.len=0\/u.w≠0):ryL E r u=u:=by
 cases r with
 |nil=>rfl
 |cons op a y n ls body els rest=>
   rcases h with h |h
   . simp[Il.len]at h
   . show(if u.w=0 then _ else u)=u
     rw[if_neg h]
theorem rblock_step(l:Il)(hsub:Sub BlkR l):BlkR l:=by
 intro wa N p A lv m E w sv fv s h hE hRf hf goes ends ga gc ea ec l1 l2 n1 n2 ao k hlen hi b1 b2
 by_cases hw:s.w=0
 . generalize hX:zT (ryL E l) goes ends s=X;obtain⟨LN,hLN⟩:∃LN,l.len=LN:=⟨_,rfl⟩
   rw[hLN]at hlen ⊢;obtain⟨i6,hi6,hz6,hs6,hb6⟩:=info131v_parts;obtain⟨k0,k1,k2,k3,z1,z2,z3⟩:=h.t.c;obtain⟨sa,sc,hsv,hsl⟩:=h.t.o.sl;replace hsv:sv=.slice sa s.st.length sc:=hsv;have hwA:Below w.heap.size w (w.drew.alloc (.cells #[.slice ga goes.length gc,.slice ea ends.length ec,.int .i64 s.st.length,.bool false] 131)):=(zB (w:=w) 1).trans (Below.of_alloc w.drew _);have hA:=h.step hwA;have tA:Tw p sv fv sv fv w _:=.of_below hwA;obtain⟨wA,hwA2⟩:∃wA,wA=w.drew.alloc (.cells #[.slice ga goes.length gc,.slice ea ends.length ec,.int .i64 s.st.length,.bool false] 131):=⟨_,rfl⟩
   rw[<-hwA2]at hA tA;obtain⟨L,e1,hown,hlib⟩:=hA.t.o.fs;replace e1:L.map Prod.fst=s.fs:=e1;have hll:L.length=s.fs.length:=(by rw[<-e1,List.length_map])
   obtain⟨fa0,fc0,hfv⟩:=yR hown;have S0wf:RWf ⟨s.w,s.st,⟨goes,ends,s.st.length,false⟩::s.fs⟩:=⟨by simp,λ_=>Nat.le_refl _⟩
   have fin:∀(v':Value) (w3:World),w3.ownsRow N 131 4 v' (s.fs.length+1) (frC L++frV (⟨goes,ends,s.st.length,false⟩,⟨ga,gc,ea,ec⟩))->wA.grownBy w3 fv.ownBlock->(v'.ownBlock=fv.ownBlock\/v'.ownBlock=some wA.heap.size)->
    Hid (Rx wa N p A lv m E (w3.setCell ⟨p,12,none⟩ v') sv v' ⟨s.w,s.st,⟨goes,ends,s.st.length,false⟩::s.fs⟩/\Tw p sv fv sv v' w (w3.setCell ⟨p,12,none⟩ v'))/\
    w3.cell? ⟨p,12,none⟩=some fv/\w3.frozen? ⟨p,12,none⟩=false:=λv' w3 ho hg hat=>by
    obtain⟨o1,t1⟩:=hA.t.o.enterL (by decide) e1 hown hlib (f:=⟨goes,ends,s.st.length,false⟩) (fa:=⟨ga,gc,ea,ec⟩) (v':=v') ho hg hat (l1.tw tA) (l2.tw tA);have hne:fv.ownBlock≠some p:=λe=>by have:=h.t.o.low.2 p e;have:=h.t.o.hN;omega
    have hp1:w3.heap[p]? =some (.cells #[(A.v m).v0,(A.v m).v1,(A.v m).v2,(A.v m).v3,(A.v m).v4,(A.v m).v5,(A.v m).v6,(A.v m).v7,(A.v m).v8,(A.v m).v9,lv,sv,fv,.int .i64 s.w] 108 (0,0)):=(by rw[hg.block p (lt_of_block hA.t.b) (λe=>hne e.symm)];exact hA.t.b)
    have tw:=(tA.trans t1).set 12 v';refine⟨zh ⟨(h.go (u:=⟨s.w,s.st,⟨goes,ends,s.st.length,false⟩::s.fs⟩) ⟨by rw[heap_setCell_same w3 p 12 _ _ _ hp1];rfl,o1.setP 12 _⟩ tw).r S0wf,tw⟩,by rw[cell_of_row w3 p 12 _ _ _ hp1];rfl,frozen_of_row w3 p 12 _ _ hp1⟩
   rw[hll]at hfv hown;have b1':=b1 hw;have hfs:s.fs.length<=1099511627775:=(by omega)
   have hNw:=h.t.o.hw;rw[hw]at k3;rw[hwA2]at fin hown;clear hA tA hwA hwA2;subst hsv;subst hfv;have hpb:=lt_of_block h.t.b;have y1:(w.alloc (.cells #[.slice ga goes.length gc,.slice ea ends.length ec,.int .i64 s.st.length,.bool false] 131)).cell? ⟨p,12,none⟩=some (.slice fa0 s.fs.length fc0):=(World.cell?_of_block (Below.heap_alloc _ _ _ hpb)).trans k2;have y2:(w.alloc (.cells #[.slice ga goes.length gc,.slice ea ends.length ec,.int .i64 s.st.length,.bool false] 131)).drew.cell? ⟨p,12,none⟩=some (.slice fa0 s.fs.length fc0):=y1;go_enter Tryz.func58,Tryz.ntmps58;go_wp2_with fail
   go_cut [] from 14 to 30 (λwx=>∃g cap,Hid (Rx wa N p A lv m E wx (.slice sa s.st.length sc) (.slice (some ⟨g,0,none⟩) (s.fs.length+1) cap) ⟨s.w,s.st,⟨goes,ends,s.st.length,false⟩::s.fs⟩/\Tw p (.slice sa s.st.length sc) (.slice fa0 s.fs.length fc0) (.slice sa s.st.length sc) (.slice (some ⟨g,0,none⟩) (s.fs.length+1) cap) w wx))
   case first=>
    go_region_law ((
     refine step_append_lies _ rfl _ _ _ rfl N 131 i6 _ 4 64 Tryz.underlying106 hi6 hz6 hs6 hb6 rfl (by omega) (.slice fa0 s.fs.length fc0) s.fs.length (frC L) (by rfl) hown ⟨w.drew.heap.size,0,none⟩ 1 1 [.slice ga goes.length gc,.slice ea ends.length ec,.int .i64 s.st.length,.bool false] (by rfl) (by rfl)
      (World.news_of_block (cs:= #[.slice ga goes.length gc,.slice ea ends.length ec,.int .i64 s.st.length,.bool false]) (t:=131) (fr:=(0,0)) (heap_alloc_new _ _)) (by intro u hu;simp only[List.mem_cons,List.mem_nil_iff,or_false]at hu;rcases hu with rfl |rfl |rfl |rfl<;>rfl)
      (by omega) (by unfold maxLen;omega) (by omega) (by simp;omega) (w.drew.heap.size+1) (by simp) ?_
     intro g cap w3 hown3 hgrow hat hlt3
     obtain⟨hfin,y3,f3⟩:=fin (.slice (some ⟨g,0,none⟩) (s.fs.length+1) cap) w3 hown3 hgrow (by
      rcases hat with e |e
      . exact .inl e.symm
      . exact .inr (by rw[e];simp[Value.ownBlock]))))
    all_goals go_wp2_with fail
    all_goals go_meet
    all_goals exact⟨g,cap,hfin⟩
   case rest=>
    obtain⟨g,cap,hcut⟩:=hcut;obtain⟨h5,t5⟩:=hcut.out;have hi0:IlIn wa ao 0 l:=hi;have hf0:=zh hf;obtain⟨S0,hS0⟩:∃S0:Rs,S0=⟨s.w,s.st,⟨goes,ends,s.st.length,false⟩::s.fs⟩:=⟨_,rfl⟩
    have hS1:S0.fs.length=s.fs.length+1:=(by rw[hS0];rfl)
    have hS2:S0.st.length=s.st.length:=(by rw[hS0])
    have hSf:Hid (S0.fs=⟨goes,ends,s.st.length,false⟩::s.fs):=zh (by rw[hS0])
    have hRS:RRf S0:=by
     intro f hf;rw[hS0]at hf
     rcases List.mem_cons.1 hf with rfl |hf
     . exact⟨n1,n2⟩
     . exact hRf f hf
    have hX0:Hid (∀u,ryL E l S0=u->X=(λs2=>(λs3:Rs=>({s3 with fs:=s3.fs.tail}:Rs)) (if s2.w=0/\s2.st.length≠(s2.fs.headD fr0).h then zQ 60 s2 else s2)) (jC ends u)):=zh (λu hu=>by
     rw[<-hX,<-hu,hS0];unfold zT;rw[if_pos hw])
    rw[<-hS0]at h5;have hg0:Hid (Gr 0 S0 S0):=zh (.refl h5.wf);replace hRS:=zh hRS;replace h5:=zh h5;replace t5:=zh t5;replace h:=zh h;replace hw:=zh hw;clear hS0 hX k0 k1 k2 k3 z1 z2 z3 hown y1 y2 hlib e1 fin l1 hi6 hz6 hs6 hb6 hcut hf hsl hNw hpb hll;replace l2:=zh (l2.tw t5.out);go_wp2_with fail;go_loopw [8] (λvi wr=>∃(i:Nat) (r:Il) (u:Rs) (svr fvr:Value),vi=.int .i64 i/\i+r.len=LN/\Hid (Rx wa N p A lv m E wr svr fvr u)/\Hid (Tw p (.slice sa s.st.length sc) (.slice fa0 s.fs.length fc0) svr fvr w wr)/\Hid (IlIn wa ao i r)/\Hid (Sub BlkR r)/\Hid (zZ r=true)/\Hid (Gr i S0 u)/\(u.w=0->u.st.length+szI r<=1099511627775)/\szI r<=szI l/\Hid (ryL E l S0=ryL E r u)/\Hid (LiB wr p svr fvr ea ends)) (λvi _=>LN-(intOf vi).toNat)
    case atStart=>exact⟨0,l,S0,_,_,rfl,by omega,h5,t5,zh hi0,zh hsub,hf0,hg0,by omega,Nat.le_refl _,zh rfl,l2⟩
    case round=>
     clear h5 t5 hi0 hf0 hg0 l2;obtain⟨i,r,u,svr,fvr,rfl,hir,h6,t6,hil,hsb,hfb,hgu,hub,hrl,hty,hle⟩:=hrel;obtain⟨k0,k1,k2,k3,z1,z2,z3⟩:=h6.out.t.c
     by_cases hgo:i<LN/\u.w=0
     . obtain⟨hlt,hu0⟩:=hgo;cases r with
       |nil=>simp[Il.len]at hir;omega
       |cons op a y n ls body els rest=>
         have hlen':i+(rest.len+1)=LN:=hir;obtain⟨b,o,a4,c4,a5,c5,a6,c6,rfl,hh,hrest⟩:=hil.out.head;obtain⟨hc0,hc1,hc2,hc3,hc4,hc5,hc6,i4,l5,i5,l6,i6⟩:=hh;have hkp:=zA h6.out.b;replace hc0:=hkp _ _ hc0;replace hc1:=hkp _ _ hc1;replace hc2:=hkp _ _ hc2;replace hc3:=hkp _ _ hc3;replace hc4:=hkp _ _ hc4;replace hc5:=hkp _ _ hc5;replace hc6:=hkp _ _ hc6;have hbf:=hfb.out;unfold zZ at hbf;simp only[Bool.and_eq_true]at hbf;obtain⟨f1,f2,f3,f4⟩:=hbf;have hsz:szI (.cons op a y n ls body els rest)=1+szI body+szI els+szI rest:=rfl;rw[hsz]at hub hrl;have hub':=hub hu0;have hul:=hgu.out.len
         have hty1:ryL E l S0=ryL E rest (vQ E op a ls els.len (ryL E body) (ryL E els) u):=by
          rw[hty.out]
          show(if u.w=0 then _ else u)=_
          rw[if_pos hu0]
         have hru:=hgu.out.rf hRS.out;have hca:=ri_any h6.out hE hru f1 hsb.out.1 hsb.out.2.1 f2 f3 (lc:=c4) (k:=c5) (k2:=c6) i4 l5 i5 l6 i6 (λ_=>by omega) (by omega);have gi:=gr_instr hE.r h6.out.wf hru op a ls els.len (yH hE.r body) (yH hE.r els);unfold zO at hca;generalize vQ E op a ls els.len (ryL E body) (ryL E els) u=v at hca gi hty1;have hg2:Hid (Gr (i+1) S0 v):=zh (hgu.out.trans gi (Nat.le_refl _));have hz:v.w=0->v.st.length+szI rest<=1099511627775:=λq=>by have:=(gi.ok q).2.2;omega
         have hgw:=zh gi.wf;have hsr:=zh hsb.out.2.2;replace hrest:=zh hrest;replace f4:=zh f4;replace hty1:=zh hty1;replace hz:=zh hz;rw[hu0]at k3;have i0:(0:Int)<=(i:Int):=(by omega)
         have ilt:(i:Int)<(LN:Int):=(by omega)
         have hrl2:szI rest<=szI l:=(by omega)
         clear hil hsb hfb hir hty hkp i4 i5 i6 gi hub hub' hul hru hu0 hgu;go_wp2_with fail;refine hca.mono ?_;rintro e w8 ⟨rfl,sv8,fv8,h8',d8⟩;have h8:=zh (h6.out.go hgw.out h8' d8);have t8:=zh (t6.out.trans d8);have l8:=zh (hle.out.tw d8);clear h8' d8 hca h6 t6 hle;go_wp2
         go_roundw
         case rel=>exact⟨i+1,rest,v,sv8,fv8,by simp,by omega,h8,t8,hrest,hsr,f4,hg2,hz.out,hrl2,hty1,l8⟩
         case measure=>simp[intOf];omega
     . have hstop:r.len=0\/u.w≠0:=by
        by_cases q:u.w=0
        . exact .inl (by have:¬i<LN:=λq2=>hgo ⟨q2,q⟩;omega)
        . exact .inr q
       have e1:=hX0.out u (hty.out.trans (ryL_stop hstop));have g2:=yG h6.out.wf ends;have hp:=rpops_any (lc:=ec) h6.out.t h6.out.wf hle.out
       obtain⟨f,hs2f,hfh⟩:∃f,(jC ends u).fs=f::s.fs/\f.h=s.st.length:=by obtain⟨f,f',r',x1,x2,_,_,x5⟩:=(hgu.out.trans g2 (Nat.le_refl _)).kf;rw[hSf.out]at x1;cases x1;exact⟨f',x2,x5⟩
       generalize jC ends u=s2 at e1 g2 hp hs2f;have hwf2:=g2.wf;replace e1:=zh e1;replace hfh:=zh hfh;have tail:∀w3 sv3,RcP N p (A.v m) lv w3 sv3 fvr s2->Tw p svr fvr sv3 fvr wr w3->Hid (Rx wa N p A lv m E w3 sv3 fvr s2/\Tw p (.slice sa s.st.length sc) (.slice fa0 s.fs.length fc0) sv3 fvr w w3):=λw3 sv3 q1 q2=>zh ⟨h6.out.go hwf2 q1 q2,t6.out.trans q2⟩;replace tail:=zh tail
       have hexit:(¬(i:Int)<(LN:Int))\/((i:Int)<(LN:Int)/\(u.w==0)=false):=by
        by_cases q:i<LN
        . have q2:¬u.w=0:=λq2=>hgo ⟨q,q2⟩;exact .inr ⟨by omega,by simp[q2]⟩
        . exact .inl (by omega)
       clear hgo hstop hub hrl hir hil hsb hfb hgu hty g2 hX0 hRS hS1 hS2 h6 t6 hle
       rcases hexit with q1 |⟨q1,q2⟩
       all_goals(
        go_wp2_with fail;refine hp.mono ?_;rintro e w3 ⟨rfl,sv3,h3',d3⟩;obtain⟨h3,t3⟩:=(tail.out _ _ h3' d3).out;clear tail hp h3' d3 k0 k1 k2 k3 z1 z2 z3;have hTq:=λn=>rtop_any (h3.t.step (zB n)) hs2f;obtain⟨k0,k1,k2,k3,z1,z2,z3⟩:=h3.t.c;obtain⟨g8,cap8,fa8,hfv8,hg8,c0,c1,c2,c3,z3',l1,l2,hn8,hm8⟩:=h3.t.o.top (f:=f) (r:=s.fs) hs2f;subst hfv8
        have hTq2:∀n,Calls Tryz.prog 86 #[.pointer (some ⟨p,0,none⟩)] (w3.drewN n) λe w''=>e=.returned (.pointer (some ⟨g8,s.fs.length*4,none⟩))/\∃m,w''=w3.drewN m:=λn=>by
         refine(hTq n).mono ?_;rintro e w'' ⟨⟨g9,cap9,hq,rfl⟩,m',rfl⟩;cases hq;exact⟨rfl,n+m',by simp⟩
        clear hTq;obtain⟨sa9,sc9,hsv9,hsl9⟩:=h3.t.o.sl;replace hsv9:sv3=.slice sa9 s2.st.length sc9:=hsv9;rw[hsv9]at k1;have q5:IntKind.i64.wrap (((s.fs.length+1:Nat):Int)-1)=(s.fs.length:Int):=(by rw[IntKind.wrap_i64];omega)
        have q9:IntKind.i64.wrap (s.fs.length:Int)=(s.fs.length:Int):=(by rw[IntKind.wrap_i64];omega)
        have q6:(0:Int)<=(s.fs.length:Int):=(by omega)
        have q7:(s.fs.length:Int)<=(cap8:Int):=(by omega)
        have q8:s.fs.length<=cap8:=(by omega)
        go_wp2_with fail
        by_cases hz:s2.w=0/\s2.st.length≠f.h
        . obtain⟨hz1,hz2⟩:=hz
          have e2:Hid (X=⟨(zQ 60 s2).w,(zQ 60 s2).st,s.fs⟩):=zh (by
           rw[e1.out];have hc:s2.w=0/\s2.st.length≠(s2.fs.headD fr0).h:=⟨hz1,by rw[hs2f];exact hz2⟩
           rw[if_pos hc,bad_fs,hs2f];rfl)
          have hne:(((s2.st.length:Nat):Int) !=((f.h:Nat):Int))=true:=(by simp;omega)
          have hfs3:(zQ 60 s2).fs=f::s.fs:=(bad_fs _ _).trans hs2f;rw[hz1]at k3;clear hz1 hz2;replace e1:=zh True.intro
          go_quiet (first |(go_at_call 86;exact hTq2 _))
          have h4:=h3.step (zB nq);have t4:=t3.step (zB nq);obtain⟨w4,hw4⟩:∃w4,w4=w3.drewN nq:=⟨_,rfl⟩
          rw[<-hw4]at h4 t4 ⊢;clear hw4 h3 t3 k0 k1 k2 k3 z1 z2 z3 c0 c1 c2 c3 z3' hTq2 l1 l2 hne;go_wp2_with fail;refine(j8 h4.t 60).mono ?_;rintro e w5 ⟨rfl,h5',d5⟩;have gb:=jK h4.wf (e:=60) (by decide);have h5:=h4.go gb.wf h5' d5;have t5:=t4.trans d5;obtain⟨k0,k1,k2,k3,z1,z2,z3⟩:=h5.t.c;rw[hsv9]at k1
          have hend:Hid (∀n,endS N p (A.v m) lv w (.slice sa s.st.length sc) (.slice fa0 s.fs.length fc0) (⟨(zQ 60 s2).w,(zQ 60 s2).st,s.fs⟩:Rs) (.returned (.tuple #[])) ((w5.drewN n).setCell ⟨p,12,none⟩ (.slice (some ⟨g8,0,none⟩) s.fs.length cap8))):=zh (λn=>by
           have h9:=h5.step (zB n);have t9:=t5.step (zB n);exact⟨rfl,_,_,h9.t.setF (h9.t.o.leave rfl hfs3),(t9.cutF (fv'':=.slice (some ⟨g8,0,none⟩) s.fs.length cap8) rfl).set 12 (.slice (some ⟨g8,0,none⟩) s.fs.length cap8)⟩)
          clear h4 t4 h5' d5 gb;go_wp2_with fail
          go_region_with (fail)
          all_goals(
           go_wp2_with fail;go_end0;rw[e2.out];exact hend.out _)
        . have e2:Hid (X=⟨s2.w,s2.st,s.fs⟩):=zh (by
           rw[e1.out];have hc:¬(s2.w=0/\s2.st.length≠(s2.fs.headD fr0).h):=(by rw[hs2f];exact hz)
           rw[if_neg hc,hs2f];rfl)
          replace e1:=zh True.intro
          have hcase:((s2.w==0)=false)\/((s2.w==0)=true/\(((s2.st.length:Nat):Int) !=((f.h:Nat):Int))=false):=by
           by_cases q:s2.w=0
           . have q2:s2.st.length=f.h:=by
              by_cases q3:s2.st.length=f.h
              . exact q3
              . exact absurd ⟨q,q3⟩ hz
             exact .inr ⟨by simp[q],by simp[q2]⟩
           . exact .inl (by simp[q])
          clear hz
          rcases hcase with hq1 |⟨hq1,hq2⟩
          all_goals(
           go_quiet (first |(go_at_call 86;exact hTq2 _))
           have h4:=h3.step (zB nq);have t4:=t3.step (zB nq);obtain⟨w4,hw4⟩:∃w4,w4=w3.drewN nq:=⟨_,rfl⟩
           rw[<-hw4]at h4 t4 ⊢;clear hw4 h3 t3 k0 k1 k2 k3 z1 z2 z3 c0 c1 c2 c3 z3' hTq2 l1 l2 hq1;obtain⟨k0,k1,k2,k3,z1,z2,z3⟩:=h4.t.c;rw[hsv9]at k1
           have hend:Hid (∀n,endS N p (A.v m) lv w (.slice sa s.st.length sc) (.slice fa0 s.fs.length fc0) (⟨s2.w,s2.st,s.fs⟩:Rs) (.returned (.tuple #[])) ((w4.drewN n).setCell ⟨p,12,none⟩ (.slice (some ⟨g8,0,none⟩) s.fs.length cap8))):=zh (λn=>by
            have h9:=h4.step (zB n);have t9:=t4.step (zB n);exact⟨rfl,_,_,h9.t.setF (h9.t.o.leave rfl hs2f),(t9.cutF (fv'':=.slice (some ⟨g8,0,none⟩) s.fs.length cap8) rfl).set 12 (.slice (some ⟨g8,0,none⟩) s.fs.length cap8)⟩)
           go_wp2_with fail
           go_region_with (fail)
           all_goals(
            go_wp2_with fail;go_end0;rw[e2.out];exact hend.out _)))
 . have hX:zT (ryL E l) goes ends s=s:=(by unfold zT;rw[if_neg hw])
   rw[hX];obtain⟨k0,k1,k2,k3,z1,z2,z3⟩:=h.t.c;have hb:(s.w !=0)=true:=(by simp[hw])
   have ht:=h.t;clear h;go_enter Tryz.func58,Tryz.ntmps58;go_wp2;go_end0;exact⟨rfl,_,_,ht,.refl _ _ _ _⟩
theorem rblock_any(l:Il):BlkR l:=Il.each rblock_step l
end
end Go.Proofs.YtacohbllbjgdgaaGreatDoor
namespace Go.Proofs.YtacohbllbjgdgaaGreatDoor
open Go.RowKit
theorem step_append_ints(w:World){ops:Array Oper}{o:Oper}{a:Act}{K:Act->World->Prop}{Q:Exit->Act->World->Prop}{C:Prop}(hgd:o.guard=none)(s x:Operand)(ho:o.op=.call {callee:=.builtin .append,args:= #[s,x],argTypes:= #[28,28]})(base:Nat)(v:Value)(n:Nat)(xs:List Value)(hs:a.eval s=v)(hown:w.ownsRow base 3 1 v n xs)(la:Option Addr)(l:List Int)(lc:Nat)(hx:a.eval x=.slice la l.length lc)(hi:IntsIn w la l)(hb:n+l.length<=1099511627776)(hbase:base<=w.heap.size)(h:∀v' w',w'.ownsRow base 3 1 v' (n+l.length) (xs++l.map λx=>Value.int .i64 x)->w.grownBy w' v.ownBlock->(v'.ownBlock=v.ownBlock\/v'.ownBlock=some w.heap.size)->K (a.put o.dst v') w'):if Region.wanted o (yielded ops a.tmps)=true then Oper.wp Tryz.prog o a w K Q else C:=by
 have hw:Region.wanted o (yielded ops a.tmps)=true:=(by simp[Region.wanted,hgd])
 rw[if_pos hw];obtain⟨i3,hi3,hz3,hs3,hb3⟩:=vN;obtain⟨h63,hc⟩:=hi;cases la with
 |none=>
   have hnil:l=[]:=by
    rcases hc with hc |⟨b,o,e,_⟩
    . exact hc
    . cases e
   subst hnil;have hr:=vR (P:=Tryz.prog) w base 28 o.type 3 i3 1 Tryz.underlying28 hi3 v n lc xs hown;unfold Oper.wp execOp;simp only[ho,resolve,invoke,builtin,Sem.run_bind,Sem.run_pure,Result.andThen_ok,List.map_toArray,List.map_cons,List.map_nil,hs,hx];rw[show(Value.slice none ([]:List Int).length lc)=.slice none 0 lc from rfl,hr];exact h v w (by simpa using hown) ⟨rfl,rfl,rfl,Nat.le_refl _,λ_ _ _=>rfl⟩ (.inl rfl)
 |some ad=>
   have hnews:∀j u,(l.map λx=>Value.int .i64 x)[j]? =some u->w.cell? (ad.add j)=some u:=by
    rcases hc with hc |⟨b',o',e,hc⟩
    . rw[hc];intro j u hu;cases hu
    . cases e;exact ints_news hc
   obtain⟨v',w',hr,h2,h3,_,h5⟩:=run_append_own_at (P:=Tryz.prog) w base 28 o.type 3 i3 (.int .i64 0) 1 8 Tryz.underlying28 hi3 hz3 hs3 hb3 rfl (by omega) v n xs hown ad l.length lc (l.map λx=>Value.int .i64 x) (by simp) hnews (by intro u hu;simp only[List.mem_map]at hu;obtain⟨x,_,rfl⟩:=hu;rfl) (by unfold maxLen;omega) (by omega) hbase;unfold Oper.wp execOp;simp only[ho,resolve,invoke,builtin,Sem.run_bind,Sem.run_pure,Result.andThen_ok,List.map_toArray,List.map_cons,List.map_nil,hs,hx,hr];exact h v' w' h2 h3 h5
theorem gb_below{w w':World}{ob:Option Nat}(h:w.grownBy w' ob){M:Nat}(hM:M<=w.heap.size)(ho:∀g,ob=some g->M<=g):Below M w w':=
 ⟨h.os,h.tape,h.output,h.size,λk hk=>h.block k (by omega) (λe=>by have:=ho k e.symm;omega)⟩
theorem ints_set{w:World}{p j:Nat}{u:Value}{a:Option Addr}{l:List Int}(h:IntsIn w a l)(hb:l=[]\/∀ad,a=some ad->ad.block≠p):IntsIn (w.setCell ⟨p,j,none⟩ u) a l:=by
 refine⟨h.1,?_⟩
 rcases h.2 with e |⟨b,o,rfl,hc⟩
 . exact .inl e
 . rcases hb with e |hb
   . exact .inl e
   . refine .inr ⟨b,o,rfl,λi x hx=> ?_⟩;exact(World.cell?_of_block (Below.heap_setCell _ _ _ _ (show b≠p from hb _ rfl))).trans (hc i x hx)
section
variable {w w':World} {A:MA} {m:Md}
theorem rbody_any(hA:MdA w m A){k:Nat}{t:List Int×List Int}(ht:m.types[k]? =some t){ls:List Int}{il:Il}{la:Option Addr}{lk:Nat}{ba:Option Addr}{bk:Nat}(hls:IntsIn w la ls)(hlen:il.len<=9223372036854775807)(hil:IlIn w ba 0 il)(hE:EnvM m (envM m (zY m) t ls))(hf:zZ il=true)(hsz:szI il<=1099511627775)(ht2:t.2.length<=1)(hn:t.1.length+ls.length<=1099511627776):Calls Tryz.prog 35 #[.agg #[(A.v m).v0,(A.v m).v1,(A.v m).v2,(A.v m).v3,(A.v m).v4,(A.v m).v5,(A.v m).v6,(A.v m).v7,(A.v m).v8,(A.v m).v9],.agg #[.int .i64 (k:Int),.slice la ls.length lk,.slice ba il.len bk]] w λe w'=>e=.returned (.int .i64 (zT (ryL (envM m (zY m) t ls) il) t.2 t.2 ⟨0,[],[]⟩).w)/\Below w.heap.size w w':=by
 obtain⟨b0,o0,hA0,⟨pa,pc,c0,j1⟩,⟨ra,rc,c1,j2⟩⟩:=hA.types.row ht;have l63:=hA.types.1;have hkl:=(List.getElem?_eq_some_iff.1 ht).1;have e0:(A.v m).v0=.slice (some ⟨b0,o0,none⟩) m.types.length A.k0:=(by unfold MA.v;rw[hA0])
 replace hA0:=zh hA0;replace e0:=zh e0;have i0:(0:Int)<=(k:Int):=(by omega)
 have i1:(k:Int)<(m.types.length:Int):=(by omega)
 generalize hX:zT (ryL (envM m (zY m) t ls) il) t.2 t.2 ⟨0,[],[]⟩=X;obtain⟨W1,hW1⟩:∃W1,W1=(w.alloc (.cells #[(A.v m).v0,(A.v m).v1,(A.v m).v2,(A.v m).v3,(A.v m).v4,(A.v m).v5,(A.v m).v6,(A.v m).v7,(A.v m).v8,(A.v m).v9] 32)).alloc (.cells #[.int .i64 (k:Int),.slice la ls.length lk,.slice ba il.len bk] 53):=⟨_,rfl⟩
 have kb:=xM w (.cells #[(A.v m).v0,(A.v m).v1,(A.v m).v2,(A.v m).v3,(A.v m).v4,(A.v m).v5,(A.v m).v6,(A.v m).v7,(A.v m).v8,(A.v m).v9] 32) (.cells #[.int .i64 (k:Int),.slice la ls.length lk,.slice ba il.len bk] 53)
 have hb32:W1.heap[w.heap.size]? =some (.cells #[(A.v m).v0,(A.v m).v1,(A.v m).v2,(A.v m).v3,(A.v m).v4,(A.v m).v5,(A.v m).v6,(A.v m).v7,(A.v m).v8,(A.v m).v9] 32 (0,0)):=by rw[hW1];exact(Below.heap_alloc _ _ _ (by simp)).trans (heap_alloc_new w _)
 have hb53:W1.heap[w.heap.size+1]? =some (.cells #[.int .i64 (k:Int),.slice la ls.length lk,.slice ba il.len bk] 53 (0,0)):=(by rw[hW1];exact yN _ _ _)
 have hs1:W1.heap.size=w.heap.size+2:=(by rw[hW1];simp)
 rw[<-hW1]at kb;replace c0:=zA kb _ _ c0;replace c1:=zA kb _ _ c1;replace hls:=hls.below kb;have hX0:=zh hX;clear hX;go_enter Tryz.func35,Tryz.ntmps35
 go_upto_region 1 with(fail)
 rw[<-hW1];clear hW1;generalize hS:w.heap.size=S at kb hb32 hb53 hs1 ⊢;replace hS:=zh hS;have x0:W1.cell? ⟨S,0,none⟩=some (A.v m).v0:=(by rw[cell_of_row _ S 0 _ _ _ hb32];rfl)
 have x1:W1.cell? ⟨S,1,none⟩=some (A.v m).v1:=(by rw[cell_of_row _ S 1 _ _ _ hb32];rfl)
 have x2:W1.cell? ⟨S,2,none⟩=some (A.v m).v2:=(by rw[cell_of_row _ S 2 _ _ _ hb32];rfl)
 have x3:W1.cell? ⟨S,3,none⟩=some (A.v m).v3:=(by rw[cell_of_row _ S 3 _ _ _ hb32];rfl)
 have x4:W1.cell? ⟨S,4,none⟩=some (A.v m).v4:=(by rw[cell_of_row _ S 4 _ _ _ hb32];rfl)
 have x5:W1.cell? ⟨S,5,none⟩=some (A.v m).v5:=(by rw[cell_of_row _ S 5 _ _ _ hb32];rfl)
 have x6:W1.cell? ⟨S,6,none⟩=some (A.v m).v6:=(by rw[cell_of_row _ S 6 _ _ _ hb32];rfl)
 have x7:W1.cell? ⟨S,7,none⟩=some (A.v m).v7:=(by rw[cell_of_row _ S 7 _ _ _ hb32];rfl)
 have x8:W1.cell? ⟨S,8,none⟩=some (A.v m).v8:=(by rw[cell_of_row _ S 8 _ _ _ hb32];rfl)
 have x9:W1.cell? ⟨S,9,none⟩=some (A.v m).v9:=(by rw[cell_of_row _ S 9 _ _ _ hb32];rfl)
 have f0:W1.cell? ⟨S+1,0,none⟩=some (.int .i64 (k:Int)):=(by rw[cell_of_row _ (S+1) 0 _ _ _ hb53];rfl)
 have f1:W1.cell? ⟨S+1,1,none⟩=some (.slice la ls.length lk):=(by rw[cell_of_row _ (S+1) 1 _ _ _ hb53];rfl)
 have f2:W1.cell? ⟨S+1,2,none⟩=some (.slice ba il.len bk):=(by rw[cell_of_row _ (S+1) 2 _ _ _ hb53];rfl)
 rw[e0.out]at x0;replace hb32:=zh hb32;replace hb53:=zh hb53;have kb3:=xM W1 (.cells #[.slice pa t.1.length pc,.slice ra t.2.length rc] 44) (.cells #[.slice (some ⟨b0,o0,none⟩) m.types.length A.k0,(A.v m).v1,(A.v m).v2,(A.v m).v3,(A.v m).v4,(A.v m).v5,(A.v m).v6,(A.v m).v7,(A.v m).v8,(A.v m).v9,.slice none 0 0,.slice none 0 0,.slice none 0 0,.int .i64 0] 108);obtain⟨W3,hW3⟩:∃W3,W3=(W1.alloc (.cells #[.slice pa t.1.length pc,.slice ra t.2.length rc] 44)).alloc (.cells #[.slice (some ⟨b0,o0,none⟩) m.types.length A.k0,(A.v m).v1,(A.v m).v2,(A.v m).v3,(A.v m).v4,(A.v m).v5,(A.v m).v6,(A.v m).v7,(A.v m).v8,(A.v m).v9,.slice none 0 0,.slice none 0 0,.slice none 0 0,.int .i64 0] 108):=⟨_,rfl⟩
 have hp:W3.heap[S+3]? =some (.cells #[.slice (some ⟨b0,o0,none⟩) m.types.length A.k0,(A.v m).v1,(A.v m).v2,(A.v m).v3,(A.v m).v4,(A.v m).v5,(A.v m).v6,(A.v m).v7,(A.v m).v8,(A.v m).v9,.slice none 0 0,.slice none 0 0,.slice none 0 0,.int .i64 0] 108 (0,0)):=by have:=yN W1 (.cells #[.slice pa t.1.length pc,.slice ra t.2.length rc] 44) (.cells #[.slice (some ⟨b0,o0,none⟩) m.types.length A.k0,(A.v m).v1,(A.v m).v2,(A.v m).v3,(A.v m).v4,(A.v m).v5,(A.v m).v6,(A.v m).v7,(A.v m).v8,(A.v m).v9,.slice none 0 0,.slice none 0 0,.slice none 0 0,.int .i64 0] 108);rw[hs1]at this;rw[hW3];exact this
 have hb44:W3.heap[S+2]? =some (.cells #[.slice pa t.1.length pc,.slice ra t.2.length rc] 44 (0,0)):=by have:=heap_alloc_new W1 (.cells #[.slice pa t.1.length pc,.slice ra t.2.length rc] 44);rw[hs1]at this;rw[hW3];exact(Below.heap_alloc _ _ _ (by simp;omega)).trans this
 have hs3:W3.heap.size=S+4:=(by rw[hW3];simp;omega)
 go_upto_region 3 with(fail)
 rw[<-hW3];rw[<-hW3]at kb3;clear hW3;have kb0:Below S w W3:=kb.trans (kb3.mono (by omega));replace hb53:=(kb3.block (S+1) (by omega)).trans hb53.out;replace hls:=hls.below kb3;have kbw:Below w.heap.size w W1:=(by rw[hS.out];exact kb)
 have hpi:=(j1.below kbw).below kb3;replace hp:=zh hp;replace hb44:=zh hb44;replace hb53:=zh hb53;clear x0 x1 x2 x3 x4 x5 x6 x7 x8 x9 f0 f1 f2 c0 c1 hb32;have f1:W3.cell? ⟨S+1,1,none⟩=some (.slice la ls.length lk):=(by rw[cell_of_row _ (S+1) 1 _ _ _ hb53.out];rfl)
 have g0:W3.cell? ⟨S+2,0,none⟩=some (.slice pa t.1.length pc):=(by rw[cell_of_row _ (S+2) 0 _ _ _ hb44.out];rfl)
 have y0:W3.cell? ⟨S+3,10,none⟩=some (.slice none 0 0):=(by rw[cell_of_row _ (S+3) 10 _ _ _ hp.out];rfl)
 have hs3':Hid (W3.drew.heap.size=S+4):=zh hs3
 have keep:∀w1,Below (S+4) W3 w1->w1.cell? ⟨S+1,1,none⟩=some (.slice la ls.length lk)/\w1.frozen? ⟨S+3,10,none⟩=false/\w1.cell? ⟨S+3,10,none⟩=some (.slice none 0 0):=λw1 b=>by
  have h1:=(b.block (S+1) (by omega)).trans hb53.out;have h2:=(b.block (S+3) (by omega)).trans hp.out;exact⟨by rw[cell_of_row _ (S+1) 1 _ _ _ h1];rfl,frozen_of_row _ (S+3) 10 _ _ h2,by rw[cell_of_row _ (S+3) 10 _ _ _ h2];rfl⟩
 replace keep:=zh keep;replace hpi:=zh hpi;replace hls:=zh hls
 go_cut [] from 16 to 28 (λwx=>∃(lx:Option Addr) (lxc:Nat),Hid (wx.heap[S+3]? =some (.cells #[.slice (some ⟨b0,o0,none⟩) m.types.length A.k0,(A.v m).v1,(A.v m).v2,(A.v m).v3,(A.v m).v4,(A.v m).v5,(A.v m).v6,(A.v m).v7,(A.v m).v8,(A.v m).v9,.slice lx (t.1.length+ls.length) lxc,.slice none 0 0,.slice none 0 0,.int .i64 0] 108 (0,0)))/\Hid (IntsIn wx lx (t.1++ls)/\(t.1++ls=[]\/∀ad,lx=some ad->S+4<=ad.block))/\Hid (Below (S+3) W3 wx))
 case first=>
  go_region_law ((first
   |(refine step_append_ints _ rfl _ _ rfl (S+4) (.slice none 0 0) 0 [] (by rfl) (World.ownsRow_nil _ _ _ _) pa t.1 pc (by rfl) (hpi.out.below (zB (w:=W3) 1)) (by omega) (by rw[hs3'.out];exact Nat.le_refl _) ?_;intro v1 w1 hown1 hgrow1 hat1;have q1:=zh ((zB (w:=W3) 1).mono (by omega) |>.trans (gb_below hgrow1 (M:=S+4) (by rw[hs3'.out];exact Nat.le_refl _) (by intro g hg;simp[Value.ownBlock]at hg)));obtain⟨u1,u2,u3⟩:=keep.out _ q1.out;replace hown1:=zh hown1;clear hgrow1 hat1)
   |(refine step_append_ints _ rfl _ _ rfl (S+4) v1 (0+t.1.length) _ (by rfl) hown1.out la ls lk (by rfl) (hls.out.below (q1.out.mono (by omega))) (by omega) (by have:=q1.out.size;omega) ?_;intro v2 w2 hown2 hgrow2 hat2;have q2:=zh (q1.out.trans (gb_below hgrow2 (M:=S+4) (by have:=q1.out.size;omega) (λg hg=>(hown1.out.lt g hg).1)));obtain⟨u4,u5,u6⟩:=keep.out _ q2.out;clear hgrow2 hat2;obtain⟨sa2,sc2,rfl⟩:=yR hown2;replace hown2:=zh hown2)))
  all_goals go_wp2_with fail
  all_goals go_meet
  all_goals(
   have hown3:w2.ownsRow (S+4) 3 1 (.slice sa2 (t.1.length+ls.length) sc2) (t.1.length+ls.length) ((t.1++ls).map λx=>Value.int .i64 x):=(by simpa using hown2.out)
   obtain⟨hl2,hi2,ho2⟩:=ints_own hown3;refine⟨sa2,sc2,zh ?_,zh ⟨ints_set hi2 (ho2.imp_right λh ad e=>by have:=h ad e;omega),ho2⟩,zh ((q2.out.mono (by omega)).trans (Below.setAt (by omega)))⟩;rw[show(S+2+1)=S+3 from rfl,heap_setCell_same w2 (S+3) 10 _ _ _ ((q2.out.block (S+3) (by omega)).trans hp.out)];rfl)
 case rest=>
  obtain⟨lx,lxc,hp2,hlx,hb2⟩:=hcut;have hE1:(envM m (zY m) t ls).locals.length=t.1.length+ls.length:=List.length_append;have hpc:=hb2.out;have h53:=(hpc.block (S+1) (by omega)).trans hb53.out;have h44:=(hpc.block (S+2) (by omega)).trans hb44.out;have f2:wc.cell? ⟨S+1,2,none⟩=some (.slice ba il.len bk):=(by rw[cell_of_row _ (S+1) 2 _ _ _ h53];rfl)
  have g1:wc.cell? ⟨S+2,1,none⟩=some (.slice ra t.2.length rc):=(by rw[cell_of_row _ (S+2) 1 _ _ _ h44];rfl)
  have hbw:Below w.heap.size w wc:=by have:=kb0.trans (hpc.mono (by omega));rw[hS.out];exact this
  have hps:=lt_of_block hp2.out
  have hT:RcP wc.heap.size (S+3) (A.v m) (.slice lx (t.1.length+ls.length) lxc) wc (.slice none 0 0) (.slice none 0 0) ⟨0,[],[]⟩:=
   ⟨by rw[e0.out];exact hp2.out,⟨hps,Nat.le_refl _,World.ownsRow_nil _ _ _ _,[],rfl,World.ownsRow_nil _ _ _ _,by intro q hq;cases hq⟩⟩
  have hR:Rx0 w wc.heap.size (S+3) A (.slice lx (t.1.length+ls.length) lxc) m (envM m (zY m) t ls) wc (.slice none 0 0) (.slice none 0 0) ⟨0,[],[]⟩:=
   ⟨hT,hbw,by rw[hS.out];omega,hA,⟨lx,lxc,by rw[hE1],hlx.out.1,hlx.out.2.imp_right λh ad e=>⟨by have:=h ad e;omega,by simp[Value.ownBlock],by simp[Value.ownBlock]⟩⟩,rfl,rfl,rfl,rfl⟩
  have hle:LiB wc (S+3) (.slice none 0 0) (.slice none 0 0) ra t.2:=by
   refine .old (M:=w.heap.size) (j2.below hbw) ?_ (by rw[hS.out];omega) (by intro g hg;simp[Value.ownBlock]at hg) (by intro g hg;simp[Value.ownBlock]at hg)
   rcases j2.2 with e |⟨b,o,rfl,hc⟩
   . exact .inl e
   . cases hts:t.2 with
     |nil=>exact .inl rfl
     |cons x r=>refine .inr λad e=> ?_;cases e;exact World.block_lt_of_cell? _ _ (hc 0 x (by rw[hts];rfl))
  have hblk:=rblock_any il w wc.heap.size (S+3) A (.slice lx (t.1.length+ls.length) lxc) m (envM m (zY m) t ls) wc (.slice none 0 0) (.slice none 0 0) ⟨0,[],[]⟩ hR hE (by intro f hf;cases hf) hf t.2 t.2 ra rc ra rc hle hle ht2 ht2 ba bk hlen hil (λ_=>by simp;omega) (by simp;omega);rw[hX0.out]at hblk;have hsz2:=hpc.size
  have fin:∀sv' fv' w',Tw (S+3) (.slice none 0 0) (.slice none 0 0) sv' fv' wc w'->Below S w w':=λsv' fv' w' tw=>by
   have h1:=tw.below (M:=S) (by omega) (by intro g hg;simp[Value.ownBlock]at hg) (by intro g hg;simp[Value.ownBlock]at hg) (by omega);exact(kb0.trans (hpc.mono (by omega))).trans h1
  clear hT hR hle hp2 hlx hb2 hpc h53 h44 hp hb44 hb53 f1 g0 y0 hs3 hs3' keep kb3 kb;go_wp2_with fail;refine hblk.mono ?_;rintro e w4 ⟨rfl,sv4,fv4,h4,tw⟩;obtain⟨k0,k1,k2,k3,z1,z2,z3⟩:=h4.c;go_wp2;go_ret;exact⟨rfl,by rw[hS.out];exact fin _ _ _ tw⟩
end
end Go.Proofs.YtacohbllbjgdgaaGreatDoor
