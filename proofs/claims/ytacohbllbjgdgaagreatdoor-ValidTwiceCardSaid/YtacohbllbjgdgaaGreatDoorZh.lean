/- The reference's checker of a body: memory. -/
import Derived.Test.YtacohbllbjgdgaaGreatDoorZe
set_option linter.all false
set_option maxRecDepth 100000
set_option maxHeartbeats 4000000
namespace Go.Proofs.YtacohbllbjgdgaaGreatDoor
open Go.RowKit
section
variable {wa:World} {N p:Nat} {A:MA} {lv:Value} {m:Md} {E:Ev} {w w':World} {sv fv sv' fv':Value} {s u:Rs}
theorem rmem_0(h:Rx wa N p A lv m E w sv fv s)(op a y n:Int)(v4 v5 v6:Value)(hm:E.mems=0):Calls Tryz.prog 113 #[.pointer (some ⟨p,0,none⟩),zO op a y n v4 v5 v6] w (endO N p (A.v m) lv w sv fv (jE E op a s)):=by
 obtain⟨w1,hw1,h1,hx1,ho1,t1⟩:=rbox h op a y n v4 v5 v6;unfold zO;obtain⟨B,hB⟩:∃B,B=w.heap.size:=⟨_,rfl⟩
 obtain⟨y0,y1,y2,y3,y4,y5,y6,y7,y8,y9⟩:=h1.t.c10;have hl:m.mems.length=0:=(by rw[<-h.e4];exact hm)
 replace y4:w1.cell? ⟨p,4,none⟩=some (.slice A.a4 m.mems.length A.k4):=y4;rw[hl]at y4;have e0:jE E op a s=zQ 61 s:=(by unfold jE;rw[if_pos hm])
 rw[e0];clear hm;go_enter Tryz.func113,Tryz.ntmps113
 go_upto_region 1 with(fail)
 rw[<-hw1];clear hw1 hB;go_wp2_with fail;refine(j8 h1.t 61).mono ?_;rintro e w3 ⟨rfl,h3,t3⟩;go_wp2;go_end0;exact⟨rfl,_,h3,t1.trans t3⟩
theorem Rx.memc(h:Rx wa N p A lv m E w sv fv s)(hm:0<E.mems):∃k:Nat,w.cell? ⟨p,4,none⟩=some (.slice A.a4 k A.k4)/\((k:Int)==0)=false:=by refine⟨m.mems.length,(h.t.c10).2.2.2.2.1,?_⟩;rw[h.e4]at hm;simp;intro e;rw[e]at hm;simp at hm
theorem rmem_63(h:Rx wa N p A lv m E w sv fv s)(op a y n:Int)(v4 v5 v6:Value)(hop:op=63\/op=64)(hm:0<E.mems)(hb:Lh s):Calls Tryz.prog 113 #[.pointer (some ⟨p,0,none⟩),zO op a y n v4 v5 v6] w (endO N p (A.v m) lv w sv fv (jE E op a s)):=by
 obtain⟨w1,hw1,h1,hx1,ho1,t1⟩:=rbox h op a y n v4 v5 v6;unfold zO;obtain⟨B,hB⟩:∃B,B=w.heap.size:=⟨_,rfl⟩
 obtain⟨k,y4,hk⟩:=h1.memc hm;obtain⟨x0,x1,x2,x3,x4,x5,x6⟩:=hx1.c
 rcases hop with rfl |rfl
 . have e0:jE E 63 a s=zW [127] s:=(by unfold jE;rw[if_neg (by omega),if_pos rfl])
   rw[e0];have hpu:=zh (yQ h1.t 127 hb);clear hm;go_enter Tryz.func113,Tryz.ntmps113
   go_upto_region 1 with(fail)
   rw[<-hw1];rw[<-hB]at x0 x1 x2 x3 x4 x5 x6 hx1 ho1 ⊢;clear hw1 hB;go_wp2_with fail;refine hpu.out.mono ?_;rintro e wz ⟨rfl,svz,hz,tz⟩;go_wp2;go_end0;exact⟨rfl,svz,hz,t1.trans tz⟩
 . have e0:jE E 64 a s=zW [127] (zP 127 s).2:=(by unfold jE;rw[if_neg (by omega),if_neg (by decide),if_pos rfl])
   rw[e0];clear hm;go_enter Tryz.func113,Tryz.ntmps113
   go_upto_region 1 with(fail)
   rw[<-hw1];rw[<-hB]at x0 x1 x2 x3 x4 x5 x6 hx1 ho1 ⊢;clear hw1 hB;go_wp2_with fail;refine(qL h1.t h1.wf 127).mono ?_;rintro e w4 ⟨rfl,sv4,h4,t4⟩;have g4:=jA h1.wf 127;have hpu:=zh (yQ h4 127 (g4.lh hb));go_wp2_with fail;refine hpu.out.mono ?_;rintro e wz ⟨rfl,svz,hz,tz⟩;go_wp2;go_end0;exact⟨rfl,svz,hz,(t1.trans t4).trans tz⟩
theorem rmem_ls(h:Rx wa N p A lv m E w sv fv s)(op a y n:Int)(v4 v5 v6:Value)(ha:0<=a)(h63:op≠63)(h64:op≠64)(hm:0<E.mems)(hb:Lh s):Calls Tryz.prog 113 #[.pointer (some ⟨p,0,none⟩),zO op a y n v4 v5 v6] w (endO N p (A.v m) lv w sv fv (jE E op a s)):=by
 obtain⟨w1,hw1,h1,hx1,ho1,t1⟩:=rbox h op a y n v4 v5 v6;unfold zO;obtain⟨B,hB⟩:∃B,B=w.heap.size:=⟨_,rfl⟩
 obtain⟨k,y4,hk⟩:=h1.memc hm;obtain⟨x0,x1,x2,x3,x4,x5,x6⟩:=hx1.c
 have e0:∀W T:Int,wideN op=W->wideT op=T->jE E op a s=(if 54<=op then(zP 127 (zP T (if 3<a\/W<2^a.toNat then zQ 60 s else s)).2).2 else zW [T] (zP 127 (if 3<a\/W<2^a.toNat then zQ 60 s else s)).2):=λW T hW hT=>by
  subst hW;subst hT;unfold jE;rw[if_neg (by omega),if_neg h63,if_neg h64];rfl
 have hWd:=λw=>wide_any op w;generalize jE E op a s=X at e0 ⊢;replace e0:=e0 _ _ rfl rfl;generalize wideN op=W at e0 hWd;generalize wideT op=T at e0 hWd;replace e0:=zh e0;have b63:(op==63)=false:=(by simp[h63])
 have b64:(op==64)=false:=(by simp[h64])
 clear hm h63 h64
 have hcase:(3<a)\/((a=0\/a=1\/a=2\/a=3)/\W<2^a.toNat)\/((a=0\/a=1\/a=2\/a=3)/\¬W<2^a.toNat):=by
  by_cases c1:3<a
  . exact .inl c1
  . by_cases c2:W<2^a.toNat
    . exact .inr (.inl ⟨by omega,c2⟩)
    . exact .inr (.inr ⟨by omega,c2⟩)
 rcases hcase with hc |⟨hc,hl⟩ |⟨hc,hl⟩
 . replace e0:=e0.out;rw[if_pos (show 3<a\/W<2^a.toNat from .inl hc)]at e0
   by_cases hst:54<=op
   . rw[if_pos hst]at e0;replace e0:=zh e0;go_enter Tryz.func113,Tryz.ntmps113
     go_upto_region 1 with(fail)
     rw[<-hw1];rw[<-hB]at x0 x1 x2 x3 x4 x5 x6 hx1 ho1 ⊢;clear hw1 hB;go_wp2_with fail;refine(hWd _).mono ?_;rintro e w' ⟨rfl,rfl⟩;go_wp2_with fail;refine(j8 h1.t 60).mono ?_;rintro e w2 ⟨rfl,h2,t2⟩;have hx2:=hx1.tw ho1 t2;have g2:=jK h1.wf (e:=60) (by decide);have hwf:=g2.wf;have hb2:=g2.lh hb;have t12:=t1.trans t2;clear x0 x1 x2 x3 x4 x5 x6;obtain⟨x0,x1,x2,x3,x4,x5,x6⟩:=hx2.c;go_wp2_with fail;refine(qL h2 hwf T).mono ?_;rintro e w5 ⟨rfl,sv5,h5,t5⟩;have g5:=jA hwf T;go_wp2_with fail;refine(qL h5 g5.wf 127).mono ?_;rintro e w6 ⟨rfl,sv6,h6,t6⟩;go_wp2;go_end0;rw[e0.out];exact⟨rfl,sv6,h6,(t12.trans t5).trans t6⟩
   . rw[if_neg hst]at e0;replace e0:=zh e0;go_enter Tryz.func113,Tryz.ntmps113
     go_upto_region 1 with(fail)
     rw[<-hw1];rw[<-hB]at x0 x1 x2 x3 x4 x5 x6 hx1 ho1 ⊢;clear hw1 hB;go_wp2_with fail;refine(hWd _).mono ?_;rintro e w' ⟨rfl,rfl⟩;go_wp2_with fail;refine(j8 h1.t 60).mono ?_;rintro e w2 ⟨rfl,h2,t2⟩;have hx2:=hx1.tw ho1 t2;have g2:=jK h1.wf (e:=60) (by decide);have hwf:=g2.wf;have hb2:=g2.lh hb;have t12:=t1.trans t2;clear x0 x1 x2 x3 x4 x5 x6;obtain⟨x0,x1,x2,x3,x4,x5,x6⟩:=hx2.c;go_wp2_with fail;refine(qL h2 hwf 127).mono ?_;rintro e w5 ⟨rfl,sv5,h5,t5⟩;have g5:=jA hwf 127;have hpu:=zh (yQ h5 T (g5.lh hb2));go_wp2_with fail;refine hpu.out.mono ?_;rintro e w6 ⟨rfl,sv6,h6,t6⟩;go_wp2;go_end0;rw[e0.out];exact⟨rfl,sv6,h6,(t12.trans t5).trans t6⟩
 . replace e0:=e0.out;rw[if_pos (show 3<a\/W<2^a.toNat from .inr hl)]at e0
   rcases hc with rfl |rfl |rfl |rfl
   all_goals(
    simp at hl
    by_cases hst:54<=op
    . rw[if_pos hst]at e0;replace e0:=zh e0;go_enter Tryz.func113,Tryz.ntmps113
      go_upto_region 1 with(fail)
      rw[<-hw1];rw[<-hB]at x0 x1 x2 x3 x4 x5 x6 hx1 ho1 ⊢;clear hw1 hB;go_wp2_with fail;refine(hWd _).mono ?_;rintro e w' ⟨rfl,rfl⟩;go_wp2_with fail;refine(j8 h1.t 60).mono ?_;rintro e w2 ⟨rfl,h2,t2⟩;have hx2:=hx1.tw ho1 t2;have g2:=jK h1.wf (e:=60) (by decide);have hwf:=g2.wf;have hb2:=g2.lh hb;have t12:=t1.trans t2;clear x0 x1 x2 x3 x4 x5 x6;obtain⟨x0,x1,x2,x3,x4,x5,x6⟩:=hx2.c;go_wp2_with fail;refine(qL h2 hwf T).mono ?_;rintro e w5 ⟨rfl,sv5,h5,t5⟩;have g5:=jA hwf T;go_wp2_with fail;refine(qL h5 g5.wf 127).mono ?_;rintro e w6 ⟨rfl,sv6,h6,t6⟩;go_wp2;go_end0;rw[e0.out];exact⟨rfl,sv6,h6,(t12.trans t5).trans t6⟩
    . rw[if_neg hst]at e0;replace e0:=zh e0;go_enter Tryz.func113,Tryz.ntmps113
      go_upto_region 1 with(fail)
      rw[<-hw1];rw[<-hB]at x0 x1 x2 x3 x4 x5 x6 hx1 ho1 ⊢;clear hw1 hB;go_wp2_with fail;refine(hWd _).mono ?_;rintro e w' ⟨rfl,rfl⟩;go_wp2_with fail;refine(j8 h1.t 60).mono ?_;rintro e w2 ⟨rfl,h2,t2⟩;have hx2:=hx1.tw ho1 t2;have g2:=jK h1.wf (e:=60) (by decide);have hwf:=g2.wf;have hb2:=g2.lh hb;have t12:=t1.trans t2;clear x0 x1 x2 x3 x4 x5 x6;obtain⟨x0,x1,x2,x3,x4,x5,x6⟩:=hx2.c;go_wp2_with fail;refine(qL h2 hwf 127).mono ?_;rintro e w5 ⟨rfl,sv5,h5,t5⟩;have g5:=jA hwf 127;have hpu:=zh (yQ h5 T (g5.lh hb2));go_wp2_with fail;refine hpu.out.mono ?_;rintro e w6 ⟨rfl,sv6,h6,t6⟩;go_wp2;go_end0;rw[e0.out];exact⟨rfl,sv6,h6,(t12.trans t5).trans t6⟩)
 . replace e0:=e0.out;rw[if_neg (show¬(3<a\/W<2^a.toNat) fromλq=>q.elim (λq=>by omega) hl)]at e0
   rcases hc with rfl |rfl |rfl |rfl
   all_goals(
    simp at hl
    by_cases hst:54<=op
    . rw[if_pos hst]at e0;replace e0:=zh e0;go_enter Tryz.func113,Tryz.ntmps113
      go_upto_region 1 with(fail)
      rw[<-hw1];rw[<-hB]at x0 x1 x2 x3 x4 x5 x6 hx1 ho1 ⊢;clear hw1 hB;go_wp2_with fail;refine(hWd _).mono ?_;rintro e w' ⟨rfl,rfl⟩;go_wp2_with fail;refine(qL h1.t h1.wf T).mono ?_;rintro e w5 ⟨rfl,sv5,h5,t5⟩;have g5:=jA h1.wf T;go_wp2_with fail;refine(qL h5 g5.wf 127).mono ?_;rintro e w6 ⟨rfl,sv6,h6,t6⟩;go_wp2;go_end0;rw[e0.out];exact⟨rfl,sv6,h6,(t1.trans t5).trans t6⟩
    . rw[if_neg hst]at e0;replace e0:=zh e0;go_enter Tryz.func113,Tryz.ntmps113
      go_upto_region 1 with(fail)
      rw[<-hw1];rw[<-hB]at x0 x1 x2 x3 x4 x5 x6 hx1 ho1 ⊢;clear hw1 hB;go_wp2_with fail;refine(hWd _).mono ?_;rintro e w' ⟨rfl,rfl⟩;go_wp2_with fail;refine(qL h1.t h1.wf 127).mono ?_;rintro e w5 ⟨rfl,sv5,h5,t5⟩;have g5:=jA h1.wf 127;have hpu:=zh (yQ h5 T (g5.lh hb));go_wp2_with fail;refine hpu.out.mono ?_;rintro e w6 ⟨rfl,sv6,h6,t6⟩;go_wp2;go_end0;rw[e0.out];exact⟨rfl,sv6,h6,(t1.trans t5).trans t6⟩)
end
end Go.Proofs.YtacohbllbjgdgaaGreatDoor
