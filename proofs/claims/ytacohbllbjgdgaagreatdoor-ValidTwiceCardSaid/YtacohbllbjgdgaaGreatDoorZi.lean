/- The reference's checker of a body: tables of labels. -/
import Derived.Test.YtacohbllbjgdgaaGreatDoorZe
import Derived.Test.YtacohbllbjgdgaaGreatDoorMj
set_option linter.all false
set_option maxRecDepth 100000
set_option maxHeartbeats 4000000
namespace Go.Proofs.YtacohbllbjgdgaaGreatDoor
open Go.RowKit
section
variable {wa:World} {N p:Nat} {A:MA} {lv:Value} {m:Md} {E:Ev} {w w':World} {sv fv sv' fv':Value} {s u:Rs}
def endV2 (N p:Nat) (M:M10) (lv:Value) (w:World) (sv fv:Value) (s:Rs) (a:Int) (e:Ending) (w':World):Prop:=
 ∃v,e=.returned (.tuple #[v,.bool (decide (qT a s))])/\(qT a s->∃ga gc,v=.slice ga (qP a s).length gc/\LiB w' p sv fv ga (qP a s))/\RcP N p M lv w' sv fv (if qT a s then s else zQ 61 s)/\Tw p sv fv sv fv w w'
theorem rlabel_v{M:M10}(h:RcP N p M lv w sv fv s)(a:Int):Calls Tryz.prog 108 #[.pointer (some ⟨p,0,none⟩),.int .i64 a] w (endV2 N p M lv w sv fv s a):=by
 refine(rlabel_any h a).mono ?_;rintro e w' ⟨h1,h2⟩
 by_cases hr:qT a s
 . rw[if_pos hr]at h1;obtain⟨⟨ga,gc,rfl,l⟩,h3⟩:=h1;exact⟨_,by rw[decide_eq_true hr],λ_=>⟨ga,gc,rfl,l⟩,by rw[if_pos hr];exact h3,h2⟩
 . rw[if_neg hr]at h1;obtain⟨rfl,h3⟩:=h1;exact⟨_,by rw[decide_eq_false hr],λq=>absurd q hr,by rw[if_neg hr];exact h3,h2⟩
theorem bad_fs(e:Int)(s:Rs):(zQ e s).fs=s.fs:=by unfold zQ;split<;>rfl
theorem has_fs{a:Int}{s u:Rs}(h:u.fs=s.fs):qT a u↔qT a s:=by unfold qT;rw[h]
theorem lab_fs{a:Int}{s u:Rs}(h:u.fs=s.fs):qP a u=qP a s:=by unfold qP;rw[h]
theorem oks_fs:∀(l:List Int) {s:Rs},(yC l s).2.fs=s.fs
 | [],s=>rfl
 |n::r,s=>by
   show(yC r (if qT n s then s else zQ 61 s)).2.fs=s.fs
   rw[oks_fs r];split
   . rfl
   . exact bad_fs _ _
theorem pop_fs{t:Int}{s:Rs}(h:RWf s):(zP t s).2.fs=s.fs:=by
 unfold zP;split
 . split
   . rfl
   . split
     . dsimp only
       split
       . rfl
       . exact bad_fs _ _
     . split
       . rfl
       . dsimp only
         split
         . exact bad_fs _ _
         . rfl
 . rfl
theorem rtable_any(h:Rx wa N p A lv m E w sv fv s)(op a y n:Int){ls:List Int}{la:Option Addr}{lc:Nat}(hl:LiB w p sv fv la ls)(v5 v6:Value):Calls Tryz.prog 109 #[.pointer (some ⟨p,0,none⟩),zO op a y n (.slice la ls.length lc) v5 v6] w (endO N p (A.v m) lv w sv fv (rTable a ls s)):=by
 obtain⟨w1,hw1,h1,hx1,ho1,t1⟩:=rbox h op a y n (.slice la ls.length lc) v5 v6;unfold zO;obtain⟨B,hB⟩:∃B,B=w.heap.size:=⟨_,rfl⟩
 obtain⟨x0,x1,x2,x3,x4,x5,x6⟩:=hx1.c;have hl63:=hl.1.1;generalize hX:rTable a ls s=X;replace hX:=zh hX;replace hl:=zh hl;go_enter Tryz.func109,Tryz.ntmps109
 go_upto_region 1 with(fail)
 rw[<-hw1];rw[<-hB]at x0 x1 x2 x3 x4 x5 x6 hx1 ho1 ⊢;clear hw1 hB;go_wp2_with fail;refine(rlabel_v h1.t a).mono ?_;rintro e w2 ⟨v4,rfl,hv4,h2,d2⟩;have t2:=t1.trans d2;have hx2:=hx1.tw ho1 d2;have ho2:=(ho1.tw d2).1
 have g2:Gr 0 s (if qT a s then s else zQ 61 s):=by
  split
  . exact .refl h.wf
  . exact jK h.wf (by decide)
 have hq0:Hid (X=if(decide (qT a s)&&(yC (ls.drop 0) (if qT a s then s else zQ 61 s)).1)=true then jP (jC (qP a s) (yO (qP a s) ls (zP 127 (yC (ls.drop 0) (if qT a s then s else zQ 61 s)).2).2))else(yC (ls.drop 0) (if qT a s then s else zQ 61 s)).2):=zh (by
  rw[<-hX.out];unfold rTable;have e:yC (a::ls) s=(decide (qT a s)&&(yC ls (if qT a s then s else zQ 61 s)).1,(yC ls (if qT a s then s else zQ 61 s)).2):=rfl;have el:qP a (yC (a::ls) s).2=qP a s:=lab_fs (oks_fs _)
  dsimp only
  rw[el,e,List.drop_zero])
 have hst0:Hid (Rx wa N p A lv m E w2 sv fv (if qT a s then s else zQ 61 s)/\Tw p sv fv sv fv w w2/\Bx w2 B op a y n (.slice la ls.length lc) v5 v6/\Off w2 p sv fv B/\(if qT a s then s else zQ 61 s).fs=s.fs/\(qT a s->∃ga gc,v4=.slice ga (qP a s).length gc/\LiB w2 p sv fv ga (qP a s))):=
  zh ⟨h1.go g2.wf h2 d2,t2,hx2,ho2,(by
   split
   . rfl
   . exact bad_fs _ _),hv4⟩
 generalize (if qT a s then s else zQ 61 s)=s0 at hq0 hst0;generalize hok:decide (qT a s)=ok0 at hq0;replace hok:=zh hok;clear h1 hx1 ho1 t1 d2 t2 hx2 ho2 hv4 g2 h2 hX x0 x1 x2 x3 x4 x5 x6;go_wp2_with fail;go_loopw [5,6] (λvo vi wr=>∃(i:Nat) (ok:Bool) (si:Rs),vo=.bool ok/\vi=.int .i64 i/\i<=ls.length/\Hid (X=if(ok&&(yC (ls.drop i) si).1)=true then jP (jC (qP a s) (yO (qP a s) ls (zP 127 (yC (ls.drop i) si).2).2))else(yC (ls.drop i) si).2)/\Hid (ok=true->qT a s/\∀x∈ls.take i,qT x s)/\Hid (Rx wa N p A lv m E wr sv fv si/\Tw p sv fv sv fv w wr/\Bx wr B op a y n (.slice la ls.length lc) v5 v6/\Off wr p sv fv B/\si.fs=s.fs/\(qT a s->∃ga gc,v4=.slice ga (qP a s).length gc/\LiB wr p sv fv ga (qP a s)))) (λ_ vi _=>ls.length-(intOf vi).toNat)
 case atStart=>exact⟨0,ok0,s0,rfl,rfl,Nat.zero_le _,hq0,zh (λq=>⟨of_decide_eq_true (hok.out.trans q),by simp⟩),hst0⟩
 case round=>
  clear hq0 hst0 hok;obtain⟨i,ok,si,rfl,rfl,hi,hq,hall,hst⟩:=hrel;obtain⟨h1,t1,hx1,ho1,hfs,hv4⟩:=hst.out;obtain⟨x0,x1,x2,x3,x4,x5,x6⟩:=hx1.c
  by_cases hlt:i<ls.length
  . obtain⟨x,hx⟩:∃x,ls[i]? =some x:=⟨_,List.getElem?_eq_getElem hlt⟩
    have hli:=hl.out.tw t1;obtain⟨b,o,rfl,hcx⟩:=hli.1.at hx;have hd:ls.drop i=x::ls.drop (i+1):=(by rw[List.drop_eq_getElem_cons hlt,(List.getElem?_eq_some_iff.1 hx).2])
    have i0:(0:Int)<=(i:Int):=(by omega)
    have hq1:Hid (X=if((ok&&decide (qT x si))&&(yC (ls.drop (i+1)) (if qT x si then si else zQ 61 si)).1)=true then jP (jC (qP a s) (yO (qP a s) ls (zP 127 (yC (ls.drop (i+1)) (if qT x si then si else zQ 61 si)).2).2))else(yC (ls.drop (i+1)) (if qT x si then si else zQ 61 si)).2):=zh (by
     have:=hq.out;rw[hd]at this;rw[this];have e:yC (x::ls.drop (i+1)) si=(decide (qT x si)&&(yC (ls.drop (i+1)) (if qT x si then si else zQ 61 si)).1,(yC (ls.drop (i+1)) (if qT x si then si else zQ 61 si)).2):=rfl;rw[e]
     dsimp only
     rw[Bool.and_assoc])
    have hall1:Hid ((ok&&decide (qT x si))=true->qT a s/\∀x∈ls.take (i+1),qT x s):=zh (λq=>by
     rw[Bool.and_eq_true]at q;obtain⟨q1,q2⟩:=hall.out q.1;refine⟨q1,λz hz=> ?_⟩;rw[List.take_add_one,hx]at hz
     rcases List.mem_append.1 hz with hz |hz
     . exact q2 z hz
     . simp at hz;subst hz;exact(has_fs hfs).1 (of_decide_eq_true q.2))
    have gg:Gr 0 si (if qT x si then si else zQ 61 si):=by
     split
     . exact .refl h1.wf
     . exact jK h1.wf (by decide)
    have hff:(if qT x si then si else zQ 61 si).fs=s.fs:=by
     split
     . exact hfs
     . exact(bad_fs _ _).trans hfs
    have hlab:=rlabel_v h1.t x;clear hq hall hst hd hx;replace hlt:=zh hlt;unfold endV2 at hlab;generalize decide (qT x si)=dx at hq1 hall1 hlab;cases ok
    all_goals(
     go_wp2_with fail;refine hlab.mono ?_;rintro e w3 ⟨vx,rfl,_,h3,d3⟩;have hx3:=hx1.tw ho1 d3;have ho3:=(ho1.tw d3).1
     have hst3:Hid (Rx wa N p A lv m E w3 sv fv (if qT x si then si else zQ 61 si)/\Tw p sv fv sv fv w w3/\Bx w3 B op a y n (.slice (some ⟨b,o,none⟩) ls.length lc) v5 v6/\Off w3 p sv fv B/\(if qT x si then si else zQ 61 si).fs=s.fs/\(qT a s->∃ga gc,v4=.slice ga (qP a s).length gc/\LiB w3 p sv fv ga (qP a s))):=
      zh ⟨h1.go gg.wf h3 d3,t1.trans d3,hx3,ho3,hff,λq=>by obtain⟨ga,gc,e,l⟩:=hv4 q;exact⟨ga,gc,e,l.tw d3⟩⟩
     clear h1 t1 hx1 ho1 hv4 x0 x1 x2 x3 x4 x5 x6 h3 d3 hx3 ho3;go_wp2_with fail
     go_roundw
     case rel=>exact⟨i+1,_,_,rfl,by simp,by have:=hlt.out;omega,hq1,hall1,hst3⟩
     case measure=>simp[intOf];have:=hlt.out;omega)
  . obtain rfl:i=ls.length:=by omega
    have hq1:Hid (X=if ok=true then jP (jC (qP a s) (yO (qP a s) ls (zP 127 si).2))else si):=zh (by
     have:=hq.out;rw[List.drop_length]at this;rw[this]
     show(if(ok&&true)=true then _ else _)=_
     rw[Bool.and_true];rfl)
    clear hq;cases hok:ok with
    |false=>rw[hok]at hq1;have e1:X=si:=hq1.out;subst hok;go_wp2;go_end0;rw[e1];exact⟨rfl,_,h1.t,t1⟩
    |true=>
      subst hok;have e1:Hid (X=jP (jC (qP a s) (yO (qP a s) ls (zP 127 si).2))):=hq1;obtain⟨hra,hrl⟩:=hall.out rfl;rw[List.take_length]at hrl;obtain⟨ga,gc,rfl,hlg⟩:=hv4 hra;replace hrl:=zh hrl;clear hq1 hall hlt;go_wp2_with fail;refine(qL h1.t h1.wf 127).mono ?_;rintro e w3 ⟨rfl,sv3,h3,d3⟩;have g3:=jA h1.wf 127;have hx3:=hx1.tw ho1 d3;have ho3:=(ho1.tw d3).1
      have hst3:Hid (Rx wa N p A lv m E w3 sv3 fv (zP 127 si).2/\Tw p sv fv sv3 fv w w3/\Bx w3 B op a y n (.slice la ls.length lc) v5 v6/\Off w3 p sv3 fv B/\(zP 127 si).2.fs=s.fs/\LiB w3 p sv3 fv ga (qP a s)):=
       zh ⟨h1.go g3.wf h3 d3,t1.trans d3,hx3,ho3,(pop_fs h1.wf).trans hfs,hlg.tw d3⟩
      have e2:Hid (X=jP (jC (qP a s) (yO (qP a s) (ls.drop 0) (zP 127 si).2))):=e1;generalize (zP 127 si).2=s3 at hst3 e2;clear h1 t1 hx1 ho1 hlg x0 x1 x2 x3 x4 x5 x6 h3 d3 hx3 ho3 e1 hfs g3 hv4 hst;go_wp2_with fail;go_loopw [9] (λvi wr=>∃(i:Nat) (sj:Rs),vi=.int .i64 i/\i<=ls.length/\Hid (X=jP (jC (qP a s) (yO (qP a s) (ls.drop i) sj)))/\Hid (Rx wa N p A lv m E wr sv3 fv sj/\Tw p sv fv sv3 fv w wr/\Bx wr B op a y n (.slice la ls.length lc) v5 v6/\Off wr p sv3 fv B/\sj.fs=s.fs/\LiB wr p sv3 fv ga (qP a s))) (λvi _=>ls.length-(intOf vi).toNat)
      case atStart=>exact⟨0,s3,rfl,Nat.zero_le _,e2,hst3⟩
      case round=>
       clear e2 hst3;obtain⟨i,sj,rfl,hi,hq,hst⟩:=hrel;obtain⟨h1,t1,hx1,ho1,hfs,hlg⟩:=hst.out;obtain⟨x0,x1,x2,x3,x4,x5,x6⟩:=hx1.c
       by_cases hlt:i<ls.length
       . obtain⟨x,hx⟩:∃x,ls[i]? =some x:=⟨_,List.getElem?_eq_getElem hlt⟩
         have hli:=hl.out.tw t1;obtain⟨b,o,rfl,hcx⟩:=hli.1.at hx;have hd:ls.drop i=x::ls.drop (i+1):=(by rw[List.drop_eq_getElem_cons hlt,(List.getElem?_eq_some_iff.1 hx).2])
         have hrx:qT x sj:=(has_fs hfs).2 (hrl.out x (List.mem_of_getElem? hx));have i0:(0:Int)<=(i:Int):=(by omega)
         have hq1:Hid (X=jP (jC (qP a s) (yO (qP a s) (ls.drop (i+1)) (if qP x sj=qP a s then sj else zQ 60 sj)))):=zh (by
          have:=hq.out;rw[hd]at this;exact this)
         have hlab:=rlabel_v h1.t x;unfold endV2 at hlab;rw[decide_eq_true hrx,if_pos hrx]at hlab;clear hq hst hd hx;replace hlt:=zh hlt;replace hfs:=zh hfs;go_wp2_with fail;refine hlab.mono ?_;rintro e w4 ⟨vx,rfl,hvx,h4,d4⟩;obtain⟨gx,gxc,rfl,hlx⟩:=hvx hrx;have hx4:=hx1.tw ho1 d4;have ho4:=(ho1.tw d4).1;have hlg4:=hlg.tw d4;clear hlab hvx x0 x1 x2 x3 x4 x5 x6 hcx;go_wp2_with fail;refine(keepSame_any _ _ _ _ _ _ _ hlx.1 hlg4.1).mono ?_;rintro e w5 ⟨rfl,k5,rfl⟩;have d5:Tw p sv3 fv sv3 fv w4 (w4.drewN k5):=.of_below (zB k5);have hx5:=hx4.tw ho4 d5;have ho5:=(ho4.tw d5).1;have h5:=(h1.go h1.wf h4 d4).step (zB k5);have hlg5:=hlg4.tw d5
         by_cases hsm:qP x sj=qP a s
         . rw[if_pos hsm]at hq1;rw[decide_eq_true hsm]
           have hst6:Hid (Rx wa N p A lv m E (w4.drewN k5) sv3 fv sj/\Tw p sv fv sv3 fv w (w4.drewN k5)/\Bx (w4.drewN k5) B op a y n (.slice (some ⟨b,o,none⟩) ls.length lc) v5 v6/\Off (w4.drewN k5) p sv3 fv B/\sj.fs=s.fs/\LiB (w4.drewN k5) p sv3 fv ga (qP a s)):=
            zh ⟨h5,(t1.trans d4).trans d5,hx5,ho5,hfs.out,hlg5⟩
           clear h1 t1 hx1 ho1 hlg h4 d4 hx4 ho4 hlg4 hlx d5 hx5 ho5 h5 hlg5 hsm;go_wp2
           go_roundw
           case rel=>exact⟨i+1,_,by simp,by have:=hlt.out;omega,hq1,hst6⟩
           case measure=>simp[intOf];have:=hlt.out;omega
         . rw[if_neg hsm]at hq1;rw[decide_eq_false hsm];have gb:=jK h1.wf (e:=60) (by decide);go_wp2_with fail;refine(j8 h5.t 60).mono ?_;rintro e w6 ⟨rfl,h6,d6⟩
           have hst6:Hid (Rx wa N p A lv m E w6 sv3 fv (zQ 60 sj)/\Tw p sv fv sv3 fv w w6/\Bx w6 B op a y n (.slice (some ⟨b,o,none⟩) ls.length lc) v5 v6/\Off w6 p sv3 fv B/\(zQ 60 sj).fs=s.fs/\LiB w6 p sv3 fv ga (qP a s)):=
            zh ⟨h5.go gb.wf h6 d6,((t1.trans d4).trans d5).trans d6,hx5.tw ho5 d6,(ho5.tw d6).1,(bad_fs _ _).trans hfs.out,hlg5.tw d6⟩
           clear h1 t1 hx1 ho1 hlg h4 d4 hx4 ho4 hlg4 hlx d5 hx5 ho5 h5 hlg5 hsm h6 d6;go_wp2
           go_roundw
           case rel=>exact⟨i+1,_,by simp,by have:=hlt.out;omega,hq1,hst6⟩
           case measure=>simp[intOf];have:=hlt.out;omega
       . obtain rfl:i=ls.length:=by omega
         have e1:Hid (X=jP (jC (qP a s) sj)):=zh (by
          have:=hq.out;rw[List.drop_length]at this;exact this)
         clear hq hlt;have gp:=yG h1.wf (qP a s);go_wp2_with fail;refine(rpops_any h1.t h1.wf hlg).mono ?_;rintro e w4 ⟨rfl,sv4,h4,d4⟩;go_wp2_with fail;refine(rdead_any h4 gp.wf).mono ?_;rintro e w5 ⟨rfl,sv5,h5,d5⟩;go_wp2;go_end0;rw[e1.out];exact⟨rfl,sv5,h5,(t1.trans d4).trans d5⟩
end
end Go.Proofs.YtacohbllbjgdgaaGreatDoor
