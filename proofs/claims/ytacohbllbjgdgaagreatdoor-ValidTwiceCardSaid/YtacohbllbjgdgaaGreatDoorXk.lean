/- The typer: what leaves a block. -/
import Derived.Test.YtacohbllbjgdgaaGreatDoorXi
set_option linter.all false
set_option maxRecDepth 100000
set_option maxHeartbeats 8000000
namespace Go.Proofs.YtacohbllbjgdgaaGreatDoor
open Go.RowKit
section
variable {w0:World} {N p c:Nat} {lv:Value} {E:Ev} {w:World} {sv fv:Value} {s:Ts}
theorem goes_ok'(h:TyP N p (.pointer (some ⟨c,0,none⟩)) lv w sv fv s){n:Int}(h0:0<=n){g:List Int}(hg:xB n s=.ok g):Calls Tryz.prog 118 #[.pointer (some ⟨p,0,none⟩),.int .i64 n] w λe w'=>(∃ga gc,e=.returned (.slice ga g.length gc)/\LiB w' p sv fv ga g)/\Below w.heap.size w w':=by
 have:=goes_any h h0;rw[hg]at this;exact this
theorem goes_er'(h:TyP N p (.pointer (some ⟨c,0,none⟩)) lv w sv fv s){n:Int}(h0:0<=n){k:Int}(hg:xB n s=.error k):Calls Tryz.prog 118 #[.pointer (some ⟨p,0,none⟩),.int .i64 n] w λe w'=>e=.panicked (jS k)/\Below w.heap.size w w':=by
 have:=goes_any h h0;rw[hg]at this;exact this
theorem tGoes_in{s:Ts}(hw:Wf s){n:Int}(h0:0<=n){g:List Int}(hg:xB n s=.ok g):∃f∈s.fs,f.goes=g:=by
 unfold xB at hg;split at hg
 . rename_i h;cases hg;obtain⟨f,hf,e⟩:=fs_at hw h0 h;exact⟨f,hf,by rw[e]⟩
 . cases hg
theorem ldrop_at{ls:List Int}{i:Nat}{x:Int}(hx:ls[i]? =some x):ls.drop i=x::ls.drop (i+1):=by
 have hl:=(List.getElem?_eq_some_iff.1 hx)
 rw[List.drop_eq_getElem_cons hl.1,hl.2]
theorem leaves_any(h:Cx w0 N p c lv E w sv fv s)(hF:∀f∈s.fs,f.goes.length<=1){op:Int}(hop:op=12\/op=13\/op=14)(a y n:Int)(ha:0<=a){ls:List Int}{la:Option Addr}{lc:Nat}(v5 v6:Value)(hls:IntsIn w0 la ls)(hl0:∀x∈ls,0<=x)(hb:s.st.length+1<=1099511627776):Calls Tryz.prog 97 #[.pointer (some ⟨p,0,none⟩),zO op a y n (.slice la ls.length lc) v5 v6] w (xJ N p (.pointer (some ⟨c,0,none⟩)) lv w sv fv (xE op a ls s)):=by
 have e0:xE op a ls s=(tAll ls s).bind λ_=>(xB a s).bind λg=>(if op≠12 then(zK 127 s).bind λq=>.ok q.2 else .ok s).bind λs=>
  (jW g ls s).bind λ_=>(qZ g s).bind λs=>.ok (if op=13 then zN g s else vC s):=rfl
 generalize xE op a ls s=X at e0 ⊢;replace e0:=zh e0;have hlen:=hls.1;obtain⟨w1,hw1,h1,hx1,ho1,t1⟩:=zS h op a y n (.slice la ls.length lc) v5 v6;unfold zO;obtain⟨B,hB⟩:∃B,B=w.heap.size:=⟨_,rfl⟩
 obtain⟨x0,x1,x2,x3,x4,x5,x6⟩:=hx1.c;go_enter Tryz.func97,Tryz.ntmps97
 go_upto_region 1 with(fail)
 rw[<-hw1];rw[<-hB]at x0 x1 x2 x3 x4 x5 x6 hx1 ho1 ⊢;clear hw1 hB;go_wp2_with fail;clear x0 x1 x2 x3 x4 x5 x6;go_loopw [12] (λvi wr=>∃i:Nat,vi=.int .i64 i/\i<=ls.length/\Hid (Cx w0 N p c lv E wr sv fv s)/\Hid (Tw p sv fv sv fv w wr)/\Hid (Bx wr B op a y n (.slice la ls.length lc) v5 v6)/\Hid (Off wr p sv fv B)/\Hid (tAll ls s=tAll (ls.drop i) s)) (λvi _=>ls.length-(intOf vi).toNat)
 case atStart=>exact⟨0,rfl,Nat.zero_le _,zh h1,zh t1,zh hx1,zh ho1,zh rfl⟩
 case round=>
  obtain⟨i,rfl,hi,h2,t2,hx2,ho2,hall⟩:=hrel;clear h1 hx1 ho1 t1
  by_cases hlt:i<ls.length
  . obtain⟨x,hx⟩:∃x,ls[i]? =some x:=⟨_,List.getElem?_eq_getElem hlt⟩
    have hx0:=hl0 x (List.mem_of_getElem? hx);obtain⟨b,o,rfl,c1⟩:=(h2.out.old hls).1.at hx;have hall1:=hall.out;rw[ldrop_at hx]at hall1;have hall2:tAll ls s=(xB x s).bind λ_=>tAll (ls.drop (i+1)) s:=hall1;clear hall hall1;cases hg:xB x s with
    |error k=>
      have hc:=goes_er' h2.out.t hx0 hg;rw[hg]at hall2;have e1:X=.error k:=(by rw[e0.out,hall2];rfl)
      replace e1:=zh e1;clear hg hall2 e0 hx0;replace hx:=zh hx;go_wp2_with fail;refine hc.mono ?_;rintro e w3 ⟨rfl,b3⟩;go_wp2;exact⟨rfl,by rw[e1.out];exact⟨rfl,_,_,t2.out.step b3⟩⟩
    |ok g=>
      have hc:=goes_ok' h2.out.t hx0 hg;rw[hg]at hall2;have hall3:tAll ls s=tAll (ls.drop (i+1)) s:=hall2;replace hall3:=zh hall3;clear hg hall2 hx0;replace hx:=zh hx;go_wp2_with fail;refine hc.mono ?_;rintro e w3 ⟨⟨ga,gc,rfl,hl⟩,b3⟩;have h3:=zh (h2.out.step b3);have d3:Tw p sv fv sv fv wr w3:=.of_below b3;have t3:=zh (t2.out.trans d3);have hx3:=zh (hx2.out.tw ho2.out d3);have ho3:=zh (ho2.out.tw d3).1;clear d3 b3 hl;go_wp2
      go_roundw
      case rel=>exact⟨i+1,by simp,by omega,h3,t3,hx3,ho3,hall3⟩
      case measure=>simp[intOf];omega
  . have hil:i=ls.length:=(by omega)
    have e1:X=(xB a s).bind λg=>(if op≠12 then(zK 127 s).bind λq=>.ok q.2 else .ok s).bind λs=>(jW g ls s).bind λ_=>(qZ g s).bind λs=>.ok (if op=13 then zN g s else vC s):=by rw[e0.out,hall.out,hil,List.drop_length];rfl
    clear e0 hall;obtain⟨x0,x1,x2,x3,x4,x5,x6⟩:=hx2.out.c;cases hg:xB a s with
    |error k=>have hc:=goes_er' h2.out.t ha hg;rw[hg]at e1;have e2:X=.error k:=e1;replace e2:=zh e2;clear hg e1;go_wp2_with fail;refine hc.mono ?_;rintro e w3 ⟨rfl,b3⟩;go_wp2;exact⟨rfl,by rw[e2.out];exact⟨rfl,_,_,t2.out.step b3⟩⟩
    |ok g=>
      have hc:=goes_ok' h2.out.t ha hg;obtain⟨f,hf,hfg⟩:=tGoes_in h.wf ha hg;have hg1:g.length<=1:=(by rw[<-hfg];exact hF f hf)
      have hgt:∀t∈g,tyo t:=(by rw[<-hfg];exact(h.wf.ty f hf).1)
      rw[hg]at e1;have e2:X=(if op≠12 then(zK 127 s).bind λq=>.ok q.2 else .ok s).bind λs=>(jW g ls s).bind λ_=>(qZ g s).bind λs=>.ok (if op=13 then zN g s else vC s):=e1;replace e2:=zh e2;clear hg e1 hf hfg;go_wp2_with fail;refine hc.mono ?_;rintro e w3 ⟨⟨ga,gc,rfl,hl⟩,b3⟩;have h3:=h2.out.step b3;have d3:Tw p sv fv sv fv wr w3:=.of_below b3;have t3:=t2.out.trans d3;have hx3:=hx2.out.tw ho2.out d3;have ho3:=(ho2.out.tw d3).1;clear d3 b3 x0 x1 x2 x3 x4 x5 x6 h2 t2 hx2 ho2
      rcases hop with rfl |rfl |rfl
      . replace e2:Hid (X=(jW g ls s).bind λ_=>(qZ g s).bind λs=>.ok (vC s)):=zh e2.out;obtain⟨x0,x1,x2,x3,x4,x5,x6⟩:=hx3.c;go_wp2_with fail;clear x0 x1 x2 x3 x4 x5 x6;go_loopw [32] (λvi wr=>∃i:Nat,vi=.int .i64 i/\i<=ls.length/\Hid (Cx w0 N p c lv E wr sv fv s)/\Hid (Tw p sv fv sv fv w wr)/\Hid (Bx wr B 12 a y n (.slice la ls.length lc) v5 v6)/\Hid (Off wr p sv fv B)/\Hid (LiB wr p sv fv ga g)/\Hid (jW g ls s=jW g (ls.drop i) s)) (λvi _=>ls.length-(intOf vi).toNat)
        case atStart=>exact⟨0,rfl,Nat.zero_le _,zh h3,zh t3,zh hx3,zh ho3,zh hl,zh rfl⟩
        case round=>
         obtain⟨i,rfl,hi,h5,t5,hx5,ho5,hl5,hall⟩:=hrel;clear h3 t3 hx3 ho3 hl
         by_cases hlt:i<ls.length
         . obtain⟨x,hx⟩:∃x,ls[i]? =some x:=⟨_,List.getElem?_eq_getElem hlt⟩
           have hx0:=hl0 x (List.mem_of_getElem? hx);obtain⟨b,o,rfl,c1⟩:=(h5.out.old hls).1.at hx;have hall1:=hall.out;rw[ldrop_at hx]at hall1;have hall2:jW g ls s=(xB x s).bind λk=>if k=g then jW g (ls.drop (i+1)) s else .error 60:=hall1
           clear hall hall1;cases hg:xB x s with
           |error k=>
             have hc:=goes_er' h5.out.t hx0 hg;rw[hg]at hall2;have e3:X=.error k:=(by rw[e2.out,hall2];rfl)
             replace e3:=zh e3;clear hg hall2 e2 hx0;replace hx:=zh hx;go_wp2_with fail;refine hc.mono ?_;rintro e w6 ⟨rfl,b6⟩;go_wp2;exact⟨rfl,by rw[e3.out];exact⟨rfl,_,_,t5.out.step b6⟩⟩
           |ok g2=>
             have hc:=goes_ok' h5.out.t hx0 hg;rw[hg]at hall2;have hall3:jW g ls s=if g2=g then jW g (ls.drop (i+1)) s else .error 60:=hall2
             clear hg hall2 hx0
             by_cases hgg:g2=g
             . rw[if_pos hgg]at hall3;replace hall3:=zh hall3;replace hx:=zh hx;have hdec:decide (g2=g)=true:=decide_eq_true hgg;replace hgg:=zh hgg;go_wp2_with fail;refine hc.mono ?_;rintro e w6 ⟨⟨ga2,gc2,rfl,hl6⟩,b6⟩;have d6:Tw p sv fv sv fv wr w6:=.of_below b6;have hl7:=hl5.out.tw d6;have hq:=equal_any g2 g ga2 ga gc2 gc w6 hl6.1 hl7.1;rw[hdec]at hq;clear hdec;go_wp2_with fail;refine hq.mono ?_;rintro e w7 ⟨rfl,b7⟩;have d7:Tw p sv fv sv fv w6 w7:=.of_below b7;have h7:=zh ((h5.out.step b6).step b7);have t7:=zh ((t5.out.trans d6).trans d7);have ho6:=(ho5.out.tw d6).1;have hx7:=zh ((hx5.out.tw ho5.out d6).tw ho6 d7);have ho7:=zh (ho6.tw d7).1;have hl8:=zh (hl7.tw d7);clear d6 d7 b6 b7 hl6 hl7 ho6;go_wp2_with fail;refine(zJ 60 _).mono ?_;rintro e w' ⟨rfl,rfl⟩;go_wp2
               go_roundw
               case rel=>exact⟨i+1,by simp,by omega,h7,t7,hx7,ho7,hl8,hall3⟩
               case measure=>simp[intOf];omega
             . rw[if_neg hgg]at hall3;have e3:X=.error 60:=(by rw[e2.out,hall3];rfl)
               replace e3:=zh e3;replace hx:=zh hx;have hdec:decide (g2=g)=false:=decide_eq_false hgg;clear hgg hall3 e2;go_wp2_with fail;refine hc.mono ?_;rintro e w6 ⟨⟨ga2,gc2,rfl,hl6⟩,b6⟩;have d6:Tw p sv fv sv fv wr w6:=.of_below b6;have hl7:=hl5.out.tw d6;have hq:=equal_any g2 g ga2 ga gc2 gc w6 hl6.1 hl7.1;rw[hdec]at hq;clear hdec;go_wp2_with fail;refine hq.mono ?_;rintro e w7 ⟨rfl,b7⟩;have t7:=zh ((t5.out.trans d6).step b7);clear d6 b6 b7 hl6 hl7;go_wp2_with fail;refine(qG 60 _).mono ?_;rintro e w' ⟨rfl,rfl⟩;go_wp2;exact⟨rfl,by rw[e3.out];exact⟨rfl,_,_,t7.out⟩⟩
         . have hil:i=ls.length:=(by omega)
           have e3:X=(qZ g s).bind λs=>.ok (vC s):=by rw[e2.out,hall.out,hil,List.drop_length];rfl
           clear e2 hall;obtain⟨x0,x1,x2,x3,x4,x5,x6⟩:=hx5.out.c;cases hq:qZ g s with
           |error k=>have hc:=pops_er (lc:=gc) h5.out.t h.wf hl5.out hgt hq;rw[hq]at e3;have e4:X=.error k:=e3;replace e4:=zh e4;clear hq e3;go_wp2_with fail;refine hc.mono ?_;rintro e w6 ⟨rfl,sv6,fv6,d6⟩;go_wp2;exact⟨rfl,by rw[e4.out];exact⟨rfl,_,_,t5.out.trans d6⟩⟩
           |ok u=>have hc:=pops_ok (lc:=gc) h5.out.t h.wf hl5.out hgt hq;have hwu:=(tPopL_wf h.wf hq).1;have hul:=xW _ hq;rw[hq]at e3;have e4:X=.ok (vC u):=e3;replace e4:=zh e4;clear hq e3;go_wp2_with fail;refine hc.mono ?_;rintro e w6 ⟨rfl,sv6,h6,d6⟩;have hx6:=hx5.out.tw ho5.out d6;have hl6:=hl5.out.tw d6;clear x0 x1 x2 x3 x4 x5 x6;obtain⟨x0,x1,x2,x3,x4,x5,x6⟩:=hx6.c;have hdi:=dies_any h6 hwu;go_wp2_with fail;refine hdi.mono ?_;rintro e w7 ⟨rfl,sv7,h7,d7⟩;go_wp2;go_end0;rw[e4.out];exact⟨rfl,sv7,h7,(t5.out.trans d6).trans d7⟩
      . replace e2:Hid (X=((zK 127 s).bind λq=>.ok q.2).bind λs=>(jW g ls s).bind λ_=>(qZ g s).bind λs=>.ok (zN g s)):=zh e2.out;obtain⟨x0,x1,x2,x3,x4,x5,x6⟩:=hx3.c;cases hq:zK 127 s with
        |error k=>
          have hcp:=qN h3.t h.wf (.inr ⟨.inr rfl,rfl⟩) hq;have e3:X=.error k:=(by rw[e2.out,hq];rfl)
          replace e3:=zh e3;clear hq e2;go_wp2_with fail;refine hcp.mono ?_;rintro e w4 ⟨rfl,sv4,fv4,d4⟩;go_wp2;exact⟨rfl,by rw[e3.out];exact⟨rfl,_,_,t3.trans d4⟩⟩
        |ok q=>
          have hcp:=qH h3.t h.wf (.inr ⟨.inr rfl,rfl⟩) hq;have hwq:=(qO h.wf hq).1;have hql:=zR hq;have e3:X=(jW g ls q.2).bind λ_=>(qZ g q.2).bind λs=>.ok (zN g s):=(by rw[e2.out,hq];rfl)
          clear e2;have e2:=zh e3;clear hq e3;go_wp2_with fail;refine hcp.mono ?_;rintro e w4 ⟨rfl,sv4,h4',d4⟩;have h4:=h3.go hwq h4' d4;have t4:=t3.trans d4;have hx4:=hx3.tw ho3 d4;have ho4:=(ho3.tw d4).1;replace hl:=hl.tw d4;clear h3 t3 hx3 ho3 d4 h4' x0 x1 x2 x3 x4 x5 x6;obtain⟨x0,x1,x2,x3,x4,x5,x6⟩:=hx4.c;go_wp2_with fail;clear x0 x1 x2 x3 x4 x5 x6;go_loopw [32] (λvi wr=>∃i:Nat,vi=.int .i64 i/\i<=ls.length/\Hid (Cx w0 N p c lv E wr sv4 fv q.2)/\Hid (Tw p sv fv sv4 fv w wr)/\Hid (Bx wr B 13 a y n (.slice la ls.length lc) v5 v6)/\Hid (Off wr p sv4 fv B)/\Hid (LiB wr p sv4 fv ga g)/\Hid (jW g ls q.2=jW g (ls.drop i) q.2)) (λvi _=>ls.length-(intOf vi).toNat)
          case atStart=>exact⟨0,rfl,Nat.zero_le _,zh h4,zh t4,zh hx4,zh ho4,zh hl,zh rfl⟩
          case round=>
           obtain⟨i,rfl,hi,h5,t5,hx5,ho5,hl5,hall⟩:=hrel;clear h4 t4 hx4 ho4 hl
           by_cases hlt:i<ls.length
           . obtain⟨x,hx⟩:∃x,ls[i]? =some x:=⟨_,List.getElem?_eq_getElem hlt⟩
             have hx0:=hl0 x (List.mem_of_getElem? hx);obtain⟨b,o,rfl,c1⟩:=(h5.out.old hls).1.at hx;have hall1:=hall.out;rw[ldrop_at hx]at hall1;have hall2:jW g ls q.2=(xB x q.2).bind λk=>if k=g then jW g (ls.drop (i+1)) q.2 else .error 60:=hall1
             clear hall hall1;cases hg:xB x q.2 with
             |error k=>
               have hc:=goes_er' h5.out.t hx0 hg;rw[hg]at hall2;have e3:X=.error k:=(by rw[e2.out,hall2];rfl)
               replace e3:=zh e3;clear hg hall2 e2 hx0;replace hx:=zh hx;go_wp2_with fail;refine hc.mono ?_;rintro e w6 ⟨rfl,b6⟩;go_wp2;exact⟨rfl,by rw[e3.out];exact⟨rfl,_,_,t5.out.step b6⟩⟩
             |ok g2=>
               have hc:=goes_ok' h5.out.t hx0 hg;rw[hg]at hall2;have hall3:jW g ls q.2=if g2=g then jW g (ls.drop (i+1)) q.2 else .error 60:=hall2
               clear hg hall2 hx0
               by_cases hgg:g2=g
               . rw[if_pos hgg]at hall3;replace hall3:=zh hall3;replace hx:=zh hx;have hdec:decide (g2=g)=true:=decide_eq_true hgg;replace hgg:=zh hgg;go_wp2_with fail;refine hc.mono ?_;rintro e w6 ⟨⟨ga2,gc2,rfl,hl6⟩,b6⟩;have d6:Tw p sv4 fv sv4 fv wr w6:=.of_below b6;have hl7:=hl5.out.tw d6;have hq:=equal_any g2 g ga2 ga gc2 gc w6 hl6.1 hl7.1;rw[hdec]at hq;clear hdec;go_wp2_with fail;refine hq.mono ?_;rintro e w7 ⟨rfl,b7⟩;have d7:Tw p sv4 fv sv4 fv w6 w7:=.of_below b7;have h7:=zh ((h5.out.step b6).step b7);have t7:=zh ((t5.out.trans d6).trans d7);have ho6:=(ho5.out.tw d6).1;have hx7:=zh ((hx5.out.tw ho5.out d6).tw ho6 d7);have ho7:=zh (ho6.tw d7).1;have hl8:=zh (hl7.tw d7);clear d6 d7 b6 b7 hl6 hl7 ho6;go_wp2_with fail;refine(zJ 60 _).mono ?_;rintro e w' ⟨rfl,rfl⟩;go_wp2
                 go_roundw
                 case rel=>exact⟨i+1,by simp,by omega,h7,t7,hx7,ho7,hl8,hall3⟩
                 case measure=>simp[intOf];omega
               . rw[if_neg hgg]at hall3;have e3:X=.error 60:=(by rw[e2.out,hall3];rfl)
                 replace e3:=zh e3;replace hx:=zh hx;have hdec:decide (g2=g)=false:=decide_eq_false hgg;clear hgg hall3 e2;go_wp2_with fail;refine hc.mono ?_;rintro e w6 ⟨⟨ga2,gc2,rfl,hl6⟩,b6⟩;have d6:Tw p sv4 fv sv4 fv wr w6:=.of_below b6;have hl7:=hl5.out.tw d6;have hq:=equal_any g2 g ga2 ga gc2 gc w6 hl6.1 hl7.1;rw[hdec]at hq;clear hdec;go_wp2_with fail;refine hq.mono ?_;rintro e w7 ⟨rfl,b7⟩;have t7:=zh ((t5.out.trans d6).step b7);clear d6 b6 b7 hl6 hl7;go_wp2_with fail;refine(qG 60 _).mono ?_;rintro e w' ⟨rfl,rfl⟩;go_wp2;exact⟨rfl,by rw[e3.out];exact⟨rfl,_,_,t7.out⟩⟩
           . have hil:i=ls.length:=(by omega)
             have e3:X=(qZ g q.2).bind λs=>.ok (zN g s):=by rw[e2.out,hall.out,hil,List.drop_length];rfl
             clear e2 hall;obtain⟨x0,x1,x2,x3,x4,x5,x6⟩:=hx5.out.c;cases hq:qZ g q.2 with
             |error k=>have hc:=pops_er (lc:=gc) h5.out.t hwq hl5.out hgt hq;rw[hq]at e3;have e4:X=.error k:=e3;replace e4:=zh e4;clear hq e3;go_wp2_with fail;refine hc.mono ?_;rintro e w6 ⟨rfl,sv6,fv6,d6⟩;go_wp2;exact⟨rfl,by rw[e4.out];exact⟨rfl,_,_,t5.out.trans d6⟩⟩
             |ok u=>have hc:=pops_ok (lc:=gc) h5.out.t hwq hl5.out hgt hq;have hwu:=(tPopL_wf hwq hq).1;have hul:=xW _ hq;rw[hq]at e3;have e4:X=.ok (zN g u):=e3;replace e4:=zh e4;clear hq e3;go_wp2_with fail;refine hc.mono ?_;rintro e w6 ⟨rfl,sv6,h6,d6⟩;have hx6:=hx5.out.tw ho5.out d6;have hl6:=hl5.out.tw d6;clear x0 x1 x2 x3 x4 x5 x6;obtain⟨x0,x1,x2,x3,x4,x5,x6⟩:=hx6.c;have hpu:=push_ty (lc:=gc) h6 hl6.1 hgt (by omega);go_wp2_with fail;refine hpu.mono ?_;rintro e w7 ⟨rfl,sv7,h7,d7⟩;go_wp2;go_end0;rw[e4.out];exact⟨rfl,sv7,h7,(t5.out.trans d6).trans d7⟩
      . replace e2:Hid (X=((zK 127 s).bind λq=>.ok q.2).bind λs=>(jW g ls s).bind λ_=>(qZ g s).bind λs=>.ok (vC s)):=zh e2.out;obtain⟨x0,x1,x2,x3,x4,x5,x6⟩:=hx3.c;cases hq:zK 127 s with
        |error k=>
          have hcp:=qN h3.t h.wf (.inr ⟨.inr rfl,rfl⟩) hq;have e3:X=.error k:=(by rw[e2.out,hq];rfl)
          replace e3:=zh e3;clear hq e2;go_wp2_with fail;refine hcp.mono ?_;rintro e w4 ⟨rfl,sv4,fv4,d4⟩;go_wp2;exact⟨rfl,by rw[e3.out];exact⟨rfl,_,_,t3.trans d4⟩⟩
        |ok q=>
          have hcp:=qH h3.t h.wf (.inr ⟨.inr rfl,rfl⟩) hq;have hwq:=(qO h.wf hq).1;have hql:=zR hq;have e3:X=(jW g ls q.2).bind λ_=>(qZ g q.2).bind λs=>.ok (vC s):=(by rw[e2.out,hq];rfl)
          clear e2;have e2:=zh e3;clear hq e3;go_wp2_with fail;refine hcp.mono ?_;rintro e w4 ⟨rfl,sv4,h4',d4⟩;have h4:=h3.go hwq h4' d4;have t4:=t3.trans d4;have hx4:=hx3.tw ho3 d4;have ho4:=(ho3.tw d4).1;replace hl:=hl.tw d4;clear h3 t3 hx3 ho3 d4 h4' x0 x1 x2 x3 x4 x5 x6;obtain⟨x0,x1,x2,x3,x4,x5,x6⟩:=hx4.c;go_wp2_with fail;clear x0 x1 x2 x3 x4 x5 x6;go_loopw [32] (λvi wr=>∃i:Nat,vi=.int .i64 i/\i<=ls.length/\Hid (Cx w0 N p c lv E wr sv4 fv q.2)/\Hid (Tw p sv fv sv4 fv w wr)/\Hid (Bx wr B 14 a y n (.slice la ls.length lc) v5 v6)/\Hid (Off wr p sv4 fv B)/\Hid (LiB wr p sv4 fv ga g)/\Hid (jW g ls q.2=jW g (ls.drop i) q.2)) (λvi _=>ls.length-(intOf vi).toNat)
          case atStart=>exact⟨0,rfl,Nat.zero_le _,zh h4,zh t4,zh hx4,zh ho4,zh hl,zh rfl⟩
          case round=>
           obtain⟨i,rfl,hi,h5,t5,hx5,ho5,hl5,hall⟩:=hrel;clear h4 t4 hx4 ho4 hl
           by_cases hlt:i<ls.length
           . obtain⟨x,hx⟩:∃x,ls[i]? =some x:=⟨_,List.getElem?_eq_getElem hlt⟩
             have hx0:=hl0 x (List.mem_of_getElem? hx);obtain⟨b,o,rfl,c1⟩:=(h5.out.old hls).1.at hx;have hall1:=hall.out;rw[ldrop_at hx]at hall1;have hall2:jW g ls q.2=(xB x q.2).bind λk=>if k=g then jW g (ls.drop (i+1)) q.2 else .error 60:=hall1
             clear hall hall1;cases hg:xB x q.2 with
             |error k=>
               have hc:=goes_er' h5.out.t hx0 hg;rw[hg]at hall2;have e3:X=.error k:=(by rw[e2.out,hall2];rfl)
               replace e3:=zh e3;clear hg hall2 e2 hx0;replace hx:=zh hx;go_wp2_with fail;refine hc.mono ?_;rintro e w6 ⟨rfl,b6⟩;go_wp2;exact⟨rfl,by rw[e3.out];exact⟨rfl,_,_,t5.out.step b6⟩⟩
             |ok g2=>
               have hc:=goes_ok' h5.out.t hx0 hg;rw[hg]at hall2;have hall3:jW g ls q.2=if g2=g then jW g (ls.drop (i+1)) q.2 else .error 60:=hall2
               clear hg hall2 hx0
               by_cases hgg:g2=g
               . rw[if_pos hgg]at hall3;replace hall3:=zh hall3;replace hx:=zh hx;have hdec:decide (g2=g)=true:=decide_eq_true hgg;replace hgg:=zh hgg;go_wp2_with fail;refine hc.mono ?_;rintro e w6 ⟨⟨ga2,gc2,rfl,hl6⟩,b6⟩;have d6:Tw p sv4 fv sv4 fv wr w6:=.of_below b6;have hl7:=hl5.out.tw d6;have hq:=equal_any g2 g ga2 ga gc2 gc w6 hl6.1 hl7.1;rw[hdec]at hq;clear hdec;go_wp2_with fail;refine hq.mono ?_;rintro e w7 ⟨rfl,b7⟩;have d7:Tw p sv4 fv sv4 fv w6 w7:=.of_below b7;have h7:=zh ((h5.out.step b6).step b7);have t7:=zh ((t5.out.trans d6).trans d7);have ho6:=(ho5.out.tw d6).1;have hx7:=zh ((hx5.out.tw ho5.out d6).tw ho6 d7);have ho7:=zh (ho6.tw d7).1;have hl8:=zh (hl7.tw d7);clear d6 d7 b6 b7 hl6 hl7 ho6;go_wp2_with fail;refine(zJ 60 _).mono ?_;rintro e w' ⟨rfl,rfl⟩;go_wp2
                 go_roundw
                 case rel=>exact⟨i+1,by simp,by omega,h7,t7,hx7,ho7,hl8,hall3⟩
                 case measure=>simp[intOf];omega
               . rw[if_neg hgg]at hall3;have e3:X=.error 60:=(by rw[e2.out,hall3];rfl)
                 replace e3:=zh e3;replace hx:=zh hx;have hdec:decide (g2=g)=false:=decide_eq_false hgg;clear hgg hall3 e2;go_wp2_with fail;refine hc.mono ?_;rintro e w6 ⟨⟨ga2,gc2,rfl,hl6⟩,b6⟩;have d6:Tw p sv4 fv sv4 fv wr w6:=.of_below b6;have hl7:=hl5.out.tw d6;have hq:=equal_any g2 g ga2 ga gc2 gc w6 hl6.1 hl7.1;rw[hdec]at hq;clear hdec;go_wp2_with fail;refine hq.mono ?_;rintro e w7 ⟨rfl,b7⟩;have t7:=zh ((t5.out.trans d6).step b7);clear d6 b6 b7 hl6 hl7;go_wp2_with fail;refine(qG 60 _).mono ?_;rintro e w' ⟨rfl,rfl⟩;go_wp2;exact⟨rfl,by rw[e3.out];exact⟨rfl,_,_,t7.out⟩⟩
           . have hil:i=ls.length:=(by omega)
             have e3:X=(qZ g q.2).bind λs=>.ok (vC s):=by rw[e2.out,hall.out,hil,List.drop_length];rfl
             clear e2 hall;obtain⟨x0,x1,x2,x3,x4,x5,x6⟩:=hx5.out.c;cases hq:qZ g q.2 with
             |error k=>have hc:=pops_er (lc:=gc) h5.out.t hwq hl5.out hgt hq;rw[hq]at e3;have e4:X=.error k:=e3;replace e4:=zh e4;clear hq e3;go_wp2_with fail;refine hc.mono ?_;rintro e w6 ⟨rfl,sv6,fv6,d6⟩;go_wp2;exact⟨rfl,by rw[e4.out];exact⟨rfl,_,_,t5.out.trans d6⟩⟩
             |ok u=>have hc:=pops_ok (lc:=gc) h5.out.t hwq hl5.out hgt hq;have hwu:=(tPopL_wf hwq hq).1;have hul:=xW _ hq;rw[hq]at e3;have e4:X=.ok (vC u):=e3;replace e4:=zh e4;clear hq e3;go_wp2_with fail;refine hc.mono ?_;rintro e w6 ⟨rfl,sv6,h6,d6⟩;have hx6:=hx5.out.tw ho5.out d6;have hl6:=hl5.out.tw d6;clear x0 x1 x2 x3 x4 x5 x6;obtain⟨x0,x1,x2,x3,x4,x5,x6⟩:=hx6.c;have hdi:=dies_any h6 hwu;go_wp2_with fail;refine hdi.mono ?_;rintro e w7 ⟨rfl,sv7,h7,d7⟩;go_wp2;go_end0;rw[e4.out];exact⟨rfl,sv7,h7,(t5.out.trans d6).trans d7⟩
end
end Go.Proofs.YtacohbllbjgdgaaGreatDoor
