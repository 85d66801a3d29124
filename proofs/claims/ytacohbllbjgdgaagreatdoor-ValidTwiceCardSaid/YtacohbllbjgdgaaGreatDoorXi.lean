/- The typer: what has an index. -/
import Derived.Test.YtacohbllbjgdgaaGreatDoorXh
import Derived.Deep.RegionWith
set_option linter.all false
set_option maxRecDepth 100000
set_option maxHeartbeats 4000000
namespace Go.Proofs.YtacohbllbjgdgaaGreatDoor
open Go.RowKit
structure EvR (E:Ev):Prop where
 types:∀t∈E.types,t.2.length<=1
 funcs:∀t∈E.funcs,t.2.length<=1
section
variable {w0:World} {N p c:Nat} {lv:Value} {E:Ev} {w:World} {sv fv:Value} {s:Ts}
theorem type_row(h:Cx w0 N p c lv E w sv fv s){l:List (List Int×List Int)}{ao:Option Addr}(hr:RowsIn TypeAt 2 w0 ao l){i:Nat}{t:List Int×List Int}(hx:l[i]? =some t):∃b o pa pc ra rc,ao=some ⟨b,o,none⟩/\w.cell? ⟨b,o+i*2,none⟩=some (.slice pa t.1.length pc)/\w.cell? ⟨b,o+i*2+1,none⟩=some (.slice ra t.2.length rc)/\LiB w p sv fv pa t.1/\LiB w p sv fv ra t.2:=by
 obtain⟨b,o,rfl,⟨pa,pc,h1,i1⟩,⟨ra,rc,h2,i2⟩⟩:=hr.row hx;exact⟨b,o,pa,pc,ra,rc,rfl,zA h.b _ _ h1,zA h.b _ _ h2,h.old i1,h.old i2⟩
theorem zU(h:Cx w0 N p c lv E w sv fv s):Cx w0 N p c lv E w.drew sv fv s/\Tw p sv fv sv fv w w.drew:=⟨h.step (zB (w:=w) 1),.of_below (zB (w:=w) 1)⟩
theorem named_16(h:Cx w0 N p c lv E w sv fv s)(hR:EvR E)(a y n:Int)(v4 v5 v6:Value)(ha:0<=a)(hb:s.st.length+1<=1099511627776):Calls Tryz.prog 98 #[.pointer (some ⟨p,0,none⟩),zO 16 a y n v4 v5 v6] w (xJ N p (.pointer (some ⟨c,0,none⟩)) lv w sv fv (jJ E 16 a s)):=by
 obtain⟨w1,hw1,h1,hx1,ho1,t1⟩:=zS h 16 a y n v4 v5 v6;obtain⟨i,rfl⟩:∃i:Nat,a=i:=⟨a.toNat,by omega⟩
 have e0:jJ E 16 (i:Int) s=match E.funcs[i]? with |some t=>vW t s |none=>.error 61:=rfl
 generalize jJ E 16 (i:Int) s=X at e0 ⊢;obtain⟨fa,fk,hf0,hrow⟩:=h1.e0.funcs;have hf:=zA h1.b _ _ hf0;unfold zO;obtain⟨B,hB⟩:∃B,B=w.heap.size:=⟨_,rfl⟩
 obtain⟨k0,k1,k2,k3,z2,z3'⟩:=h1.t.c;obtain⟨x0,x1,x2,x3,x4,x5,x6⟩:=hx1.c
 by_cases hi:i<E.funcs.length
 . obtain⟨t,ht⟩:∃t,E.funcs[i]? =some t:=⟨_,List.getElem?_eq_getElem hi⟩
   rw[ht]at e0;have hmem:=List.mem_of_getElem? ht;have i1:(i:Int)<(E.funcs.length:Int):=(by omega)
   have i0:(0:Int)<=(i:Int):=(by omega)
   have hHY:=λw=>zh (qB i1 w);replace e0:=zh e0;clear ha;go_enter Tryz.func98,Tryz.ntmps98
   go_upto_region 1 with(fail)
   rw[<-hw1];rw[<-hB]at x0 x1 x2 x3 x4 x5 x6 hx1 ho1 ⊢;clear hw1 hB;go_wp2_with fail;refine wp_region_still_tail 10 (by kernel_rfl) (by kernel_rfl) ?_;simp only[List.take_succ_cons,List.take_zero,List.drop_succ_cons,List.drop_zero]
   repeat still_step
   refine wpStill_nil ?_;change wpList _ _ _ _ _ w1.drew;obtain⟨h2,d2⟩:=zU h1;have t2:=t1.trans d2;have hx2:=hx1.tw ho1 d2;have ho2:=(ho1.tw d2).1;obtain⟨w2,hw2⟩:∃w2,w2=w1.drew:=⟨_,rfl⟩
   rw[<-hw2]at h2 d2 t2 hx2 ho2 ⊢;clear hw2 k0 k1 k2 k3 z2 z3' x0 x1 x2 x3 x4 x5 x6 hf;go_wp2_with fail;refine((hHY _).out).mono ?_;rintro e w' ⟨rfl,rfl⟩;obtain⟨k0,k1,k2,k3,z2,z3'⟩:=h2.t.c;obtain⟨x0,x1,x2,x3,x4,x5,x6⟩:=hx2.c;have hf:=zA h2.b _ _ hf0;obtain⟨b,o,pa,pc,ra,rc,rfl,c1,c2,l1,l2⟩:=type_row h2 hrow ht;go_wp2_with fail;refine wp_region_still_tail 12 (by kernel_rfl) (by kernel_rfl) ?_;simp only[List.take_succ_cons,List.take_zero,List.drop_succ_cons,List.drop_zero]
   repeat still_step
   refine wpStill_nil ?_;change wpList _ _ _ _ _ w2.drew;obtain⟨h3,d3⟩:=zU h2;have t3:=t2.trans d3;have hx3:=hx2.tw ho2 d3;have ho3:=(ho2.tw d3).1;obtain⟨w3,hw3⟩:∃w3,w3=w2.drew:=⟨_,rfl⟩
   rw[<-hw3]at h3 d3 t3 hx3 ho3 ⊢;clear hw3 k0 k1 k2 k3 z2 z3' x0 x1 x2 x3 x4 x5 x6 hf c1 c2;have hc:=calls_any (pc:=pc) (rc:=rc) h3.t h.wf (l1.tw d3) (l2.tw d3) (h.ok.funcs t hmem).1 (h.ok.funcs t hmem).2 (by have:=hR.funcs t hmem;omega);cases hq:vW t s with
   |error m=>rw[hq]at hc;replace e0:=zh (e0.out.trans hq);clear hq;go_wp2_with fail;refine hc.mono ?_;rintro e w4 ⟨rfl,sv2,fv2,t4⟩;go_wp2;exact⟨rfl,by rw[e0.out];exact⟨rfl,sv2,fv2,t3.trans t4⟩⟩
   |ok u=>rw[hq]at hc;replace e0:=zh (e0.out.trans hq);clear hq;go_wp2_with fail;refine hc.mono ?_;rintro e w4 ⟨rfl,sv2,h4,t4⟩;go_wp2;go_end0;rw[e0.out];exact⟨rfl,sv2,h4,t3.trans t4⟩
 . have ht:E.funcs[i]? =none:=List.getElem?_eq_none (by omega);rw[ht]at e0;have hHN:=λw=>zh (vA (show¬(i:Int)<(E.funcs.length:Int) by omega) w);replace e0:=zh e0;clear ha;go_enter Tryz.func98,Tryz.ntmps98
   go_upto_region 1 with(fail)
   rw[<-hw1];rw[<-hB]at x0 x1 x2 x3 x4 x5 x6 hx1 ho1 ⊢;clear hw1 hB;go_wp2_with fail;refine wp_region_still_tail 10 (by kernel_rfl) (by kernel_rfl) ?_;simp only[List.take_succ_cons,List.take_zero,List.drop_succ_cons,List.drop_zero]
   repeat still_step
   refine wpStill_nil ?_;change wpList _ _ _ _ _ w1.drew;obtain⟨h2,d2⟩:=zU h1;have t2:=t1.trans d2;have hx2:=hx1.tw ho1 d2;have ho2:=(ho1.tw d2).1;obtain⟨w2,hw2⟩:∃w2,w2=w1.drew:=⟨_,rfl⟩
   rw[<-hw2]at h2 d2 t2 hx2 ho2 ⊢;clear hw2 k0 k1 k2 k3 z2 z3' x0 x1 x2 x3 x4 x5 x6 hf;go_wp2_with fail;refine((hHN _).out).mono ?_;rintro e w' ⟨rfl,rfl⟩;go_wp2;exact⟨rfl,by rw[e0.out];exact⟨rfl,_,_,t2⟩⟩
theorem glob_row(h:Cx w0 N p c lv E w sv fv s):∃(ga:Option Addr) (gk:Nat),w.cell? ⟨c,5,none⟩=some (.slice ga E.globals.length gk)/\∀(i:Nat) (g:Int×Bool),E.globals[i]? =some g->∃b o,ga=some ⟨b,o,none⟩/\w.cell? ⟨b,o+i*9,none⟩=some (.int .i64 g.1)/\w.cell? ⟨b,o+i*9+1,none⟩=some (.bool g.2):=by
 obtain⟨ga,gk,gl,h1,h2,h3⟩:=h.env.globals;refine⟨ga,gk,by rw[h3,List.length_map];exact h1,λi g hg=> ?_⟩;rw[h3,List.getElem?_map]at hg;cases hq:gl[i]? with
 |none=>rw[hq]at hg;cases hg
 |some x=>rw[hq]at hg;cases hg;obtain⟨b,o,e,hx,hy,_⟩:=h2.row hq;exact⟨b,o,e,hx,hy⟩
theorem named_35(h:Cx w0 N p c lv E w sv fv s)(a y n:Int)(v4 v5 v6:Value)(ha:0<=a)(hb:s.st.length+1<=1099511627776):Calls Tryz.prog 98 #[.pointer (some ⟨p,0,none⟩),zO 35 a y n v4 v5 v6] w (xJ N p (.pointer (some ⟨c,0,none⟩)) lv w sv fv (jJ E 35 a s)):=by
 obtain⟨w1,hw1,h1,hx1,ho1,t1⟩:=zS h 35 a y n v4 v5 v6;obtain⟨i,rfl⟩:∃i:Nat,a=i:=⟨a.toNat,by omega⟩
 have e0:jJ E 35 (i:Int) s=match E.globals[i]? with |some g=>.ok (zN [g.1] s) |none=>.error 61:=rfl
 generalize jJ E 35 (i:Int) s=X at e0 ⊢;obtain⟨ga,gk,hf,hrow⟩:=glob_row h1;unfold zO;obtain⟨B,hB⟩:∃B,B=w.heap.size:=⟨_,rfl⟩
 obtain⟨k0,k1,k2,k3,z2,z3'⟩:=h1.t.c;obtain⟨x0,x1,x2,x3,x4,x5,x6⟩:=hx1.c
 by_cases hi:i<E.globals.length
 . obtain⟨t,ht⟩:∃t,E.globals[i]? =some t:=⟨_,List.getElem?_eq_getElem hi⟩
   rw[ht]at e0;have hmem:=h.ok.globals t (List.mem_of_getElem? ht);have i1:(i:Int)<(E.globals.length:Int):=(by omega)
   have i0:(0:Int)<=(i:Int):=(by omega)
   have hHY:=λw=>zh (qB i1 w);replace e0:=zh e0;clear ha;go_enter Tryz.func98,Tryz.ntmps98
   go_upto_region 1 with(fail)
   rw[<-hw1];rw[<-hB]at x0 x1 x2 x3 x4 x5 x6 hx1 ho1 ⊢;clear hw1 hB;go_wp2_with fail;refine wp_region_still_tail 11 (by kernel_rfl) (by kernel_rfl) ?_;simp only[List.take_succ_cons,List.take_zero,List.drop_succ_cons,List.drop_zero]
   repeat still_step
   refine wpStill_nil ?_;change wpList _ _ _ _ _ w1.drew;obtain⟨h2,d2⟩:=zU h1;have t2:=t1.trans d2;have hx2:=hx1.tw ho1 d2;have ho2:=(ho1.tw d2).1;obtain⟨w2,hw2⟩:∃w2,w2=w1.drew:=⟨_,rfl⟩
   rw[<-hw2]at h2 d2 t2 hx2 ho2 ⊢;clear hw2 k0 k1 k2 k3 z2 z3' x0 x1 x2 x3 x4 x5 x6 hf hrow;go_wp2_with fail;refine((hHY _).out).mono ?_;rintro e w' ⟨rfl,rfl⟩;obtain⟨k0,k1,k2,k3,z2,z3'⟩:=h2.t.c;obtain⟨x0,x1,x2,x3,x4,x5,x6⟩:=hx2.c;obtain⟨ga,gk,hf,hrow⟩:=glob_row h2;obtain⟨b,o,rfl,c1,c2⟩:=hrow i t ht;obtain⟨h3,d3⟩:=zU h2;have hpu:=zh (vS h3.t (t:=t.1) (v:=t.1) (enc_tyo hmem).symm hb);have t3:=zh (t2.trans d3);clear h1 t1 hx1 ho1;go_wp2_with fail
   go_region_with (first |(go_at_call 95;refine hpu.out.mono ?_;rintro e wz ⟨rfl,svz,hz,tz⟩))
   all_goals
    go_wp2;go_end0;rw[e0.out];exact⟨rfl,svz,hz,t3.out.trans tz⟩
 . have ht:E.globals[i]? =none:=List.getElem?_eq_none (by omega);rw[ht]at e0;have hHN:=λw=>zh (vA (show¬(i:Int)<(E.globals.length:Int) by omega) w);replace e0:=zh e0;clear ha;go_enter Tryz.func98,Tryz.ntmps98
   go_upto_region 1 with(fail)
   rw[<-hw1];rw[<-hB]at x0 x1 x2 x3 x4 x5 x6 hx1 ho1 ⊢;clear hw1 hB;go_wp2_with fail;refine wp_region_still_tail 11 (by kernel_rfl) (by kernel_rfl) ?_;simp only[List.take_succ_cons,List.take_zero,List.drop_succ_cons,List.drop_zero]
   repeat still_step
   refine wpStill_nil ?_;change wpList _ _ _ _ _ w1.drew;obtain⟨h2,d2⟩:=zU h1;have t2:=t1.trans d2;have hx2:=hx1.tw ho1 d2;have ho2:=(ho1.tw d2).1;obtain⟨w2,hw2⟩:∃w2,w2=w1.drew:=⟨_,rfl⟩
   rw[<-hw2]at h2 d2 t2 hx2 ho2 ⊢;clear hw2 k0 k1 k2 k3 z2 z3' x0 x1 x2 x3 x4 x5 x6 hf hrow;go_wp2_with fail;refine((hHN _).out).mono ?_;rintro e w' ⟨rfl,rfl⟩;go_wp2;exact⟨rfl,by rw[e0.out];exact⟨rfl,_,_,t2⟩⟩
theorem named_36(h:Cx w0 N p c lv E w sv fv s)(a y n:Int)(v4 v5 v6:Value)(ha:0<=a)(hb:s.st.length+1<=1099511627776):Calls Tryz.prog 98 #[.pointer (some ⟨p,0,none⟩),zO 36 a y n v4 v5 v6] w (xJ N p (.pointer (some ⟨c,0,none⟩)) lv w sv fv (jJ E 36 a s)):=by
 obtain⟨w1,hw1,h1,hx1,ho1,t1⟩:=zS h 36 a y n v4 v5 v6;obtain⟨i,rfl⟩:∃i:Nat,a=i:=⟨a.toNat,by omega⟩
 have e0:jJ E 36 (i:Int) s=match E.globals[i]? with |some g=>if g.2=true then(zK g.1 s).bind λq=>.ok q.2 else .error 62 |none=>.error 61:=rfl
 generalize jJ E 36 (i:Int) s=X at e0 ⊢;obtain⟨ga,gk,hf,hrow⟩:=glob_row h1;unfold zO;obtain⟨B,hB⟩:∃B,B=w.heap.size:=⟨_,rfl⟩
 obtain⟨k0,k1,k2,k3,z2,z3'⟩:=h1.t.c;obtain⟨x0,x1,x2,x3,x4,x5,x6⟩:=hx1.c
 by_cases hi:i<E.globals.length
 . obtain⟨t,ht⟩:∃t,E.globals[i]? =some t:=⟨_,List.getElem?_eq_getElem hi⟩
   rw[ht]at e0;have hmem:=h.ok.globals t (List.mem_of_getElem? ht);have i1:(i:Int)<(E.globals.length:Int):=(by omega)
   have i0:(0:Int)<=(i:Int):=(by omega)
   have hHY:=λw=>zh (qB i1 w);replace e0:=zh e0;clear ha;go_enter Tryz.func98,Tryz.ntmps98
   go_upto_region 1 with(fail)
   rw[<-hw1];rw[<-hB]at x0 x1 x2 x3 x4 x5 x6 hx1 ho1 ⊢;clear hw1 hB;go_wp2_with fail;refine wp_region_still_tail 11 (by kernel_rfl) (by kernel_rfl) ?_;simp only[List.take_succ_cons,List.take_zero,List.drop_succ_cons,List.drop_zero]
   repeat still_step
   refine wpStill_nil ?_;change wpList _ _ _ _ _ w1.drew;obtain⟨h2,d2⟩:=zU h1;have t2:=t1.trans d2;have hx2:=hx1.tw ho1 d2;have ho2:=(ho1.tw d2).1;obtain⟨w2,hw2⟩:∃w2,w2=w1.drew:=⟨_,rfl⟩
   rw[<-hw2]at h2 d2 t2 hx2 ho2 ⊢;clear hw2 k0 k1 k2 k3 z2 z3' x0 x1 x2 x3 x4 x5 x6 hf hrow;go_wp2_with fail;refine((hHY _).out).mono ?_;rintro e w' ⟨rfl,rfl⟩;obtain⟨k0,k1,k2,k3,z2,z3'⟩:=h2.t.c;obtain⟨x0,x1,x2,x3,x4,x5,x6⟩:=hx2.c;obtain⟨ga,gk,hf,hrow⟩:=glob_row h2;obtain⟨b,o,rfl,c1,c2⟩:=hrow i t ht
   by_cases hmu:t.2=true
   . rw[hmu]at c2;replace e0:=zh (e0.out.trans (if_pos hmu));go_wp2_with fail;refine wp_region_still_tail 13 (by kernel_rfl) (by kernel_rfl) ?_;simp only[List.take_succ_cons,List.take_zero,List.drop_succ_cons,List.drop_zero]
     repeat still_step
     refine wpStill_nil ?_;change wpList _ _ _ _ _ w2.drew;obtain⟨h3,d3⟩:=zU h2;have t3:=t2.trans d3;have hx3:=hx2.tw ho2 d3;have ho3:=(ho2.tw d3).1;obtain⟨w3,hw3⟩:∃w3,w3=w2.drew:=⟨_,rfl⟩
     rw[<-hw3]at h3 d3 t3 hx3 ho3 ⊢;clear hw3 k0 k1 k2 k3 z2 z3' x0 x1 x2 x3 x4 x5 x6 hf hrow c1 c2;go_wp2_with fail;refine(zJ 62 _).mono ?_;rintro e w' ⟨rfl,rfl⟩;obtain⟨k0,k1,k2,k3,z2,z3'⟩:=h3.t.c;obtain⟨x0,x1,x2,x3,x4,x5,x6⟩:=hx3.c;obtain⟨ga,gk,hf,hrow⟩:=glob_row h3;obtain⟨b,o,rfl,c1,c2⟩:=hrow i t ht;cases hq:zK t.1 s with
     |error m=>
       replace e0:=zh (e0.out.trans (by rw[hq];rfl:_=Except.error m));go_wp2_with fail;refine wp_region_still_tail 14 (by kernel_rfl) (by kernel_rfl) ?_;simp only[List.take_succ_cons,List.take_zero,List.drop_succ_cons,List.drop_zero]
       repeat still_step
       refine wpStill_nil ?_;change wpList _ _ _ _ _ w3.drew;obtain⟨h4,d4⟩:=zU h3;have t4:=t3.trans d4;have hx4:=hx3.tw ho3 d4;have ho4:=(ho3.tw d4).1;obtain⟨w4,hw4⟩:∃w4,w4=w3.drew:=⟨_,rfl⟩
       rw[<-hw4]at h4 d4 t4 hx4 ho4 ⊢;clear hw4 k0 k1 k2 k3 z2 z3' x0 x1 x2 x3 x4 x5 x6 hf hrow c1 c2;have hc:=qN h4.t h.wf (.inr ⟨hmem,rfl⟩) hq;clear hq;go_wp2_with fail;refine hc.mono ?_;rintro e w5 ⟨rfl,sv2,fv2,t5⟩;go_wp2;exact⟨rfl,by rw[e0.out];exact⟨rfl,sv2,fv2,t4.trans t5⟩⟩
     |ok q=>
       replace e0:=zh (e0.out.trans (by rw[hq];rfl:_=Except.ok q.2));go_wp2_with fail;refine wp_region_still_tail 14 (by kernel_rfl) (by kernel_rfl) ?_;simp only[List.take_succ_cons,List.take_zero,List.drop_succ_cons,List.drop_zero]
       repeat still_step
       refine wpStill_nil ?_;change wpList _ _ _ _ _ w3.drew;obtain⟨h4,d4⟩:=zU h3;have t4:=t3.trans d4;have hx4:=hx3.tw ho3 d4;have ho4:=(ho3.tw d4).1;obtain⟨w4,hw4⟩:∃w4,w4=w3.drew:=⟨_,rfl⟩
       rw[<-hw4]at h4 d4 t4 hx4 ho4 ⊢;clear hw4 k0 k1 k2 k3 z2 z3' x0 x1 x2 x3 x4 x5 x6 hf hrow c1 c2;have hc:=qH h4.t h.wf (.inr ⟨hmem,rfl⟩) hq;clear hq;go_wp2_with fail;refine hc.mono ?_;rintro e w5 ⟨rfl,sv2,h5,t5⟩;go_wp2;go_end0;rw[e0.out];exact⟨rfl,sv2,h5,t4.trans t5⟩
   . replace e0:=zh (e0.out.trans (if_neg hmu));rw[Bool.not_eq_true]at hmu;rw[hmu]at c2;go_wp2_with fail;refine wp_region_still_tail 13 (by kernel_rfl) (by kernel_rfl) ?_;simp only[List.take_succ_cons,List.take_zero,List.drop_succ_cons,List.drop_zero]
     repeat still_step
     refine wpStill_nil ?_;change wpList _ _ _ _ _ w2.drew;obtain⟨h3,d3⟩:=zU h2;have t3:=t2.trans d3;have hx3:=hx2.tw ho2 d3;have ho3:=(ho2.tw d3).1;obtain⟨w3,hw3⟩:∃w3,w3=w2.drew:=⟨_,rfl⟩
     rw[<-hw3]at h3 d3 t3 hx3 ho3 ⊢;clear hw3 k0 k1 k2 k3 z2 z3' x0 x1 x2 x3 x4 x5 x6 hf hrow c1 c2;go_wp2_with fail;refine(qG 62 _).mono ?_;rintro e w' ⟨rfl,rfl⟩;go_wp2;exact⟨rfl,by rw[e0.out];exact⟨rfl,_,_,t3⟩⟩
 . have ht:E.globals[i]? =none:=List.getElem?_eq_none (by omega);rw[ht]at e0;have hHN:=λw=>zh (vA (show¬(i:Int)<(E.globals.length:Int) by omega) w);replace e0:=zh e0;clear ha;go_enter Tryz.func98,Tryz.ntmps98
   go_upto_region 1 with(fail)
   rw[<-hw1];rw[<-hB]at x0 x1 x2 x3 x4 x5 x6 hx1 ho1 ⊢;clear hw1 hB;go_wp2_with fail;refine wp_region_still_tail 11 (by kernel_rfl) (by kernel_rfl) ?_;simp only[List.take_succ_cons,List.take_zero,List.drop_succ_cons,List.drop_zero]
   repeat still_step
   refine wpStill_nil ?_;change wpList _ _ _ _ _ w1.drew;obtain⟨h2,d2⟩:=zU h1;have t2:=t1.trans d2;have hx2:=hx1.tw ho1 d2;have ho2:=(ho1.tw d2).1;obtain⟨w2,hw2⟩:∃w2,w2=w1.drew:=⟨_,rfl⟩
   rw[<-hw2]at h2 d2 t2 hx2 ho2 ⊢;clear hw2 k0 k1 k2 k3 z2 z3' x0 x1 x2 x3 x4 x5 x6 hf hrow;go_wp2_with fail;refine((hHN _).out).mono ?_;rintro e w' ⟨rfl,rfl⟩;go_wp2;exact⟨rfl,by rw[e0.out];exact⟨rfl,_,_,t2⟩⟩
theorem loc_row(h:Cx w0 N p c lv E w sv fv s):∃(ga:Option Addr) (gk:Nat),w.cell? ⟨p,1,none⟩=some (.slice ga E.locals.length gk)/\∀(i:Nat) (g:Int),E.locals[i]? =some g->∃b o,ga=some ⟨b,o,none⟩/\w.cell? ⟨b,o+i,none⟩=some (.int .i64 g):=by
 obtain⟨ga,gk,h1,h2⟩:=h.env.locals;exact⟨ga,gk,h1▸h.t.c.2.1,λi g hg=>h2.at hg⟩
theorem named_32(h:Cx w0 N p c lv E w sv fv s)(a y n:Int)(v4 v5 v6:Value)(ha:0<=a)(hb:s.st.length+1<=1099511627776):Calls Tryz.prog 98 #[.pointer (some ⟨p,0,none⟩),zO 32 a y n v4 v5 v6] w (xJ N p (.pointer (some ⟨c,0,none⟩)) lv w sv fv (jJ E 32 a s)):=by
 obtain⟨w1,hw1,h1,hx1,ho1,t1⟩:=zS h 32 a y n v4 v5 v6;obtain⟨i,rfl⟩:∃i:Nat,a=i:=⟨a.toNat,by omega⟩
 have e0:jJ E 32 (i:Int) s=match E.locals[i]? with |some t=>.ok (zN [t] s) |none=>.error 61:=by
  show(match E.locals[i]? with |some t=>_ |none=>_)=_
  cases E.locals[i]? with
  |none=>rfl
  |some t=>rfl
 generalize jJ E 32 (i:Int) s=X at e0 ⊢;obtain⟨ga,gk,hf,hrow⟩:=loc_row h1;unfold zO;obtain⟨B,hB⟩:∃B,B=w.heap.size:=⟨_,rfl⟩
 obtain⟨k0,-,k2,k3,z2,z3'⟩:=h1.t.c;obtain⟨x0,x1,x2,x3,x4,x5,x6⟩:=hx1.c
 by_cases hi:i<E.locals.length
 . obtain⟨t,ht⟩:∃t,E.locals[i]? =some t:=⟨_,List.getElem?_eq_getElem hi⟩
   rw[ht]at e0;have hmem:=h.ok.locals t (List.mem_of_getElem? ht);have i1:(i:Int)<(E.locals.length:Int):=(by omega)
   have i0:(0:Int)<=(i:Int):=(by omega)
   have hHY:=λw=>zh (qB i1 w);replace e0:=zh e0;clear ha;go_enter Tryz.func98,Tryz.ntmps98
   go_upto_region 1 with(fail)
   rw[<-hw1];rw[<-hB]at x0 x1 x2 x3 x4 x5 x6 hx1 ho1 ⊢;clear hw1 hB;go_wp2_with fail;refine wp_region_still_tail 7 (by kernel_rfl) (by kernel_rfl) ?_;simp only[List.take_succ_cons,List.take_zero,List.drop_succ_cons,List.drop_zero]
   repeat still_step
   refine wpStill_nil ?_;change wpList _ _ _ _ _ w1.drew;obtain⟨h2,d2⟩:=zU h1;have t2:=t1.trans d2;have hx2:=hx1.tw ho1 d2;have ho2:=(ho1.tw d2).1;obtain⟨w2,hw2⟩:∃w2,w2=w1.drew:=⟨_,rfl⟩
   rw[<-hw2]at h2 d2 t2 hx2 ho2 ⊢;clear hw2 k0 k2 k3 z2 z3' x0 x1 x2 x3 x4 x5 x6 hf hrow;go_wp2_with fail;refine((hHY _).out).mono ?_;rintro e w' ⟨rfl,rfl⟩;obtain⟨k0,-,k2,k3,z2,z3'⟩:=h2.t.c;obtain⟨x0,x1,x2,x3,x4,x5,x6⟩:=hx2.c;obtain⟨ga,gk,hf,hrow⟩:=loc_row h2;obtain⟨b,o,rfl,c1⟩:=hrow i t ht;obtain⟨h3,d3⟩:=zU h2;have hpu:=zh (vS h3.t (t:=t) (v:=t) (enc_tyo hmem).symm hb);have t3:=zh (t2.trans d3);clear h1 t1 hx1 ho1;go_wp2_with fail
   go_region_with (first |(go_at_call 95;refine hpu.out.mono ?_;rintro e wz ⟨rfl,svz,hz,tz⟩))
   all_goals
    go_wp2;go_end0;rw[e0.out];exact⟨rfl,svz,hz,t3.out.trans tz⟩
 . have ht:E.locals[i]? =none:=List.getElem?_eq_none (by omega);rw[ht]at e0;have hHN:=λw=>zh (vA (show¬(i:Int)<(E.locals.length:Int) by omega) w);replace e0:=zh e0;clear ha;go_enter Tryz.func98,Tryz.ntmps98
   go_upto_region 1 with(fail)
   rw[<-hw1];rw[<-hB]at x0 x1 x2 x3 x4 x5 x6 hx1 ho1 ⊢;clear hw1 hB;go_wp2_with fail;refine wp_region_still_tail 7 (by kernel_rfl) (by kernel_rfl) ?_;simp only[List.take_succ_cons,List.take_zero,List.drop_succ_cons,List.drop_zero]
   repeat still_step
   refine wpStill_nil ?_;change wpList _ _ _ _ _ w1.drew;obtain⟨h2,d2⟩:=zU h1;have t2:=t1.trans d2;have hx2:=hx1.tw ho1 d2;have ho2:=(ho1.tw d2).1;obtain⟨w2,hw2⟩:∃w2,w2=w1.drew:=⟨_,rfl⟩
   rw[<-hw2]at h2 d2 t2 hx2 ho2 ⊢;clear hw2 k0 k2 k3 z2 z3' x0 x1 x2 x3 x4 x5 x6 hf hrow;go_wp2_with fail;refine((hHN _).out).mono ?_;rintro e w' ⟨rfl,rfl⟩;go_wp2;exact⟨rfl,by rw[e0.out];exact⟨rfl,_,_,t2⟩⟩
theorem named_33(h:Cx w0 N p c lv E w sv fv s)(a y n:Int)(v4 v5 v6:Value)(ha:0<=a)(hb:s.st.length+1<=1099511627776):Calls Tryz.prog 98 #[.pointer (some ⟨p,0,none⟩),zO 33 a y n v4 v5 v6] w (xJ N p (.pointer (some ⟨c,0,none⟩)) lv w sv fv (jJ E 33 a s)):=by
 obtain⟨w1,hw1,h1,hx1,ho1,t1⟩:=zS h 33 a y n v4 v5 v6;obtain⟨i,rfl⟩:∃i:Nat,a=i:=⟨a.toNat,by omega⟩
 have e0:jJ E 33 (i:Int) s=match E.locals[i]? with |some t=>(zK t s).bind λq=>.ok q.2 |none=>.error 61:=by
  show(match E.locals[i]? with |some t=>_ |none=>_)=_
  cases E.locals[i]? with
  |none=>rfl
  |some t=>(show((zK t s).bind λq=>.ok q.2).bind _=(zK t s).bind λq=>.ok q.2;cases zK t s<;>rfl)
 generalize jJ E 33 (i:Int) s=X at e0 ⊢;obtain⟨ga,gk,hf,hrow⟩:=loc_row h1;unfold zO;obtain⟨B,hB⟩:∃B,B=w.heap.size:=⟨_,rfl⟩
 obtain⟨k0,-,k2,k3,z2,z3'⟩:=h1.t.c;obtain⟨x0,x1,x2,x3,x4,x5,x6⟩:=hx1.c
 by_cases hi:i<E.locals.length
 . obtain⟨t,ht⟩:∃t,E.locals[i]? =some t:=⟨_,List.getElem?_eq_getElem hi⟩
   rw[ht]at e0;have hmem:=h.ok.locals t (List.mem_of_getElem? ht);have i1:(i:Int)<(E.locals.length:Int):=(by omega)
   have i0:(0:Int)<=(i:Int):=(by omega)
   have hHY:=λw=>zh (qB i1 w);replace e0:=zh e0;clear ha;go_enter Tryz.func98,Tryz.ntmps98
   go_upto_region 1 with(fail)
   rw[<-hw1];rw[<-hB]at x0 x1 x2 x3 x4 x5 x6 hx1 ho1 ⊢;clear hw1 hB;go_wp2_with fail;refine wp_region_still_tail 7 (by kernel_rfl) (by kernel_rfl) ?_;simp only[List.take_succ_cons,List.take_zero,List.drop_succ_cons,List.drop_zero]
   repeat still_step
   refine wpStill_nil ?_;change wpList _ _ _ _ _ w1.drew;obtain⟨h2,d2⟩:=zU h1;have t2:=t1.trans d2;have hx2:=hx1.tw ho1 d2;have ho2:=(ho1.tw d2).1;obtain⟨w2,hw2⟩:∃w2,w2=w1.drew:=⟨_,rfl⟩
   rw[<-hw2]at h2 d2 t2 hx2 ho2 ⊢;clear hw2 k0 k2 k3 z2 z3' x0 x1 x2 x3 x4 x5 x6 hf hrow;go_wp2_with fail;refine((hHY _).out).mono ?_;rintro e w' ⟨rfl,rfl⟩;obtain⟨k0,-,k2,k3,z2,z3'⟩:=h2.t.c;obtain⟨x0,x1,x2,x3,x4,x5,x6⟩:=hx2.c;obtain⟨ga,gk,hf,hrow⟩:=loc_row h2;obtain⟨b,o,rfl,c1⟩:=hrow i t ht;cases hq:zK t s with
   |error m=>
     replace e0:=zh (e0.out.trans (by rw[hq];rfl:_=Except.error m));go_wp2_with fail;refine wp_region_still_tail 9 (by kernel_rfl) (by kernel_rfl) ?_;simp only[List.take_succ_cons,List.take_zero,List.drop_succ_cons,List.drop_zero]
     repeat still_step
     refine wpStill_nil ?_;change wpList _ _ _ _ _ w2.drew;obtain⟨h3,d3⟩:=zU h2;have t3:=t2.trans d3;have hx3:=hx2.tw ho2 d3;have ho3:=(ho2.tw d3).1;obtain⟨w3,hw3⟩:∃w3,w3=w2.drew:=⟨_,rfl⟩
     rw[<-hw3]at h3 d3 t3 hx3 ho3 ⊢;clear hw3 k0 k2 k3 z2 z3' x0 x1 x2 x3 x4 x5 x6 hf hrow c1;have hc:=qN h3.t h.wf (.inr ⟨hmem,rfl⟩) hq;clear hq;go_wp2_with fail;refine hc.mono ?_;rintro e w5 ⟨rfl,sv2,fv2,t5⟩;go_wp2;exact⟨rfl,by rw[e0.out];exact⟨rfl,sv2,fv2,t3.trans t5⟩⟩
   |ok q=>
     replace e0:=zh (e0.out.trans (by rw[hq];rfl:_=Except.ok q.2));go_wp2_with fail;refine wp_region_still_tail 9 (by kernel_rfl) (by kernel_rfl) ?_;simp only[List.take_succ_cons,List.take_zero,List.drop_succ_cons,List.drop_zero]
     repeat still_step
     refine wpStill_nil ?_;change wpList _ _ _ _ _ w2.drew;obtain⟨h3,d3⟩:=zU h2;have t3:=t2.trans d3;have hx3:=hx2.tw ho2 d3;have ho3:=(ho2.tw d3).1;obtain⟨w3,hw3⟩:∃w3,w3=w2.drew:=⟨_,rfl⟩
     rw[<-hw3]at h3 d3 t3 hx3 ho3 ⊢;clear hw3 k0 k2 k3 z2 z3' x0 x1 x2 x3 x4 x5 x6 hf hrow c1;have hc:=qH h3.t h.wf (.inr ⟨hmem,rfl⟩) hq;have hwq:=(qO h.wf hq).1;clear hq;go_wp2_with fail;refine hc.mono ?_;rintro e w4 ⟨rfl,sv2,h4',d4⟩;have h4:=h3.go hwq h4' d4;have t4:=t3.trans d4;have hx4:=hx3.tw ho3 d4;have ho4:=(ho3.tw d4).1;obtain⟨k0,-,k2,k3,z2,z3'⟩:=h4.t.c;obtain⟨x0,x1,x2,x3,x4,x5,x6⟩:=hx4.c;go_wp2;go_end0;rw[e0.out];exact⟨rfl,sv2,h4',t4⟩
 . have ht:E.locals[i]? =none:=List.getElem?_eq_none (by omega);rw[ht]at e0;have hHN:=λw=>zh (vA (show¬(i:Int)<(E.locals.length:Int) by omega) w);replace e0:=zh e0;clear ha;go_enter Tryz.func98,Tryz.ntmps98
   go_upto_region 1 with(fail)
   rw[<-hw1];rw[<-hB]at x0 x1 x2 x3 x4 x5 x6 hx1 ho1 ⊢;clear hw1 hB;go_wp2_with fail;refine wp_region_still_tail 7 (by kernel_rfl) (by kernel_rfl) ?_;simp only[List.take_succ_cons,List.take_zero,List.drop_succ_cons,List.drop_zero]
   repeat still_step
   refine wpStill_nil ?_;change wpList _ _ _ _ _ w1.drew;obtain⟨h2,d2⟩:=zU h1;have t2:=t1.trans d2;have hx2:=hx1.tw ho1 d2;have ho2:=(ho1.tw d2).1;obtain⟨w2,hw2⟩:∃w2,w2=w1.drew:=⟨_,rfl⟩
   rw[<-hw2]at h2 d2 t2 hx2 ho2 ⊢;clear hw2 k0 k2 k3 z2 z3' x0 x1 x2 x3 x4 x5 x6 hf hrow;go_wp2_with fail;refine((hHN _).out).mono ?_;rintro e w' ⟨rfl,rfl⟩;go_wp2;exact⟨rfl,by rw[e0.out];exact⟨rfl,_,_,t2⟩⟩
theorem named_34(h:Cx w0 N p c lv E w sv fv s)(a y n:Int)(v4 v5 v6:Value)(ha:0<=a)(hb:s.st.length+1<=1099511627776):Calls Tryz.prog 98 #[.pointer (some ⟨p,0,none⟩),zO 34 a y n v4 v5 v6] w (xJ N p (.pointer (some ⟨c,0,none⟩)) lv w sv fv (jJ E 34 a s)):=by
 obtain⟨w1,hw1,h1,hx1,ho1,t1⟩:=zS h 34 a y n v4 v5 v6;obtain⟨i,rfl⟩:∃i:Nat,a=i:=⟨a.toNat,by omega⟩
 have e0:jJ E 34 (i:Int) s=match E.locals[i]? with |some t=>(zK t s).bind λq=>.ok (zN [t] q.2) |none=>.error 61:=by
  show(match E.locals[i]? with |some t=>_ |none=>_)=_
  cases E.locals[i]? with
  |none=>rfl
  |some t=>(show((zK t s).bind λq=>.ok q.2).bind _=(zK t s).bind λq=>.ok (zN [t] q.2);cases zK t s<;>rfl)
 generalize jJ E 34 (i:Int) s=X at e0 ⊢;obtain⟨ga,gk,hf,hrow⟩:=loc_row h1;unfold zO;obtain⟨B,hB⟩:∃B,B=w.heap.size:=⟨_,rfl⟩
 obtain⟨k0,-,k2,k3,z2,z3'⟩:=h1.t.c;obtain⟨x0,x1,x2,x3,x4,x5,x6⟩:=hx1.c
 by_cases hi:i<E.locals.length
 . obtain⟨t,ht⟩:∃t,E.locals[i]? =some t:=⟨_,List.getElem?_eq_getElem hi⟩
   rw[ht]at e0;have hmem:=h.ok.locals t (List.mem_of_getElem? ht);have i1:(i:Int)<(E.locals.length:Int):=(by omega)
   have i0:(0:Int)<=(i:Int):=(by omega)
   have hHY:=λw=>zh (qB i1 w);replace e0:=zh e0;clear ha;go_enter Tryz.func98,Tryz.ntmps98
   go_upto_region 1 with(fail)
   rw[<-hw1];rw[<-hB]at x0 x1 x2 x3 x4 x5 x6 hx1 ho1 ⊢;clear hw1 hB;go_wp2_with fail;refine wp_region_still_tail 7 (by kernel_rfl) (by kernel_rfl) ?_;simp only[List.take_succ_cons,List.take_zero,List.drop_succ_cons,List.drop_zero]
   repeat still_step
   refine wpStill_nil ?_;change wpList _ _ _ _ _ w1.drew;obtain⟨h2,d2⟩:=zU h1;have t2:=t1.trans d2;have hx2:=hx1.tw ho1 d2;have ho2:=(ho1.tw d2).1;obtain⟨w2,hw2⟩:∃w2,w2=w1.drew:=⟨_,rfl⟩
   rw[<-hw2]at h2 d2 t2 hx2 ho2 ⊢;clear hw2 k0 k2 k3 z2 z3' x0 x1 x2 x3 x4 x5 x6 hf hrow;go_wp2_with fail;refine((hHY _).out).mono ?_;rintro e w' ⟨rfl,rfl⟩;obtain⟨k0,-,k2,k3,z2,z3'⟩:=h2.t.c;obtain⟨x0,x1,x2,x3,x4,x5,x6⟩:=hx2.c;obtain⟨ga,gk,hf,hrow⟩:=loc_row h2;obtain⟨b,o,rfl,c1⟩:=hrow i t ht;cases hq:zK t s with
   |error m=>
     replace e0:=zh (e0.out.trans (by rw[hq];rfl:_=Except.error m));go_wp2_with fail;refine wp_region_still_tail 9 (by kernel_rfl) (by kernel_rfl) ?_;simp only[List.take_succ_cons,List.take_zero,List.drop_succ_cons,List.drop_zero]
     repeat still_step
     refine wpStill_nil ?_;change wpList _ _ _ _ _ w2.drew;obtain⟨h3,d3⟩:=zU h2;have t3:=t2.trans d3;have hx3:=hx2.tw ho2 d3;have ho3:=(ho2.tw d3).1;obtain⟨w3,hw3⟩:∃w3,w3=w2.drew:=⟨_,rfl⟩
     rw[<-hw3]at h3 d3 t3 hx3 ho3 ⊢;clear hw3 k0 k2 k3 z2 z3' x0 x1 x2 x3 x4 x5 x6 hf hrow c1;have hc:=qN h3.t h.wf (.inr ⟨hmem,rfl⟩) hq;clear hq;go_wp2_with fail;refine hc.mono ?_;rintro e w5 ⟨rfl,sv2,fv2,t5⟩;go_wp2;exact⟨rfl,by rw[e0.out];exact⟨rfl,sv2,fv2,t3.trans t5⟩⟩
   |ok q=>
     replace e0:=zh (e0.out.trans (by rw[hq];rfl:_=Except.ok (zN [t] q.2)));have hle:=zR hq;go_wp2_with fail;refine wp_region_still_tail 9 (by kernel_rfl) (by kernel_rfl) ?_;simp only[List.take_succ_cons,List.take_zero,List.drop_succ_cons,List.drop_zero]
     repeat still_step
     refine wpStill_nil ?_;change wpList _ _ _ _ _ w2.drew;obtain⟨h3,d3⟩:=zU h2;have t3:=t2.trans d3;have hx3:=hx2.tw ho2 d3;have ho3:=(ho2.tw d3).1;obtain⟨w3,hw3⟩:∃w3,w3=w2.drew:=⟨_,rfl⟩
     rw[<-hw3]at h3 d3 t3 hx3 ho3 ⊢;clear hw3 k0 k2 k3 z2 z3' x0 x1 x2 x3 x4 x5 x6 hf hrow c1;have hc:=qH h3.t h.wf (.inr ⟨hmem,rfl⟩) hq;have hwq:=(qO h.wf hq).1;clear hq;go_wp2_with fail;refine hc.mono ?_;rintro e w4 ⟨rfl,sv2,h4',d4⟩;have h4:=h3.go hwq h4' d4;have t4:=t3.trans d4;have hx4:=hx3.tw ho3 d4;have ho4:=(ho3.tw d4).1;obtain⟨k0,-,k2,k3,z2,z3'⟩:=h4.t.c;obtain⟨x0,x1,x2,x3,x4,x5,x6⟩:=hx4.c;obtain⟨ga,gk,hf,hrow⟩:=loc_row h4;obtain⟨b,o,rfl,c1⟩:=hrow i t ht;obtain⟨h5,d5⟩:=zU h4;have hpu:=zh (vS h5.t (t:=t) (v:=t) (enc_tyo hmem).symm (by omega));have t5:=zh (t4.trans d5);clear h1 t1 hx1 ho1;go_wp2_with fail
     go_region_with (first |(go_at_call 95;refine hpu.out.mono ?_;rintro e wz ⟨rfl,svz,hz,tz⟩))
     all_goals
      go_wp2;go_end0;rw[e0.out];exact⟨rfl,svz,hz,t5.out.trans tz⟩
 . have ht:E.locals[i]? =none:=List.getElem?_eq_none (by omega);rw[ht]at e0;have hHN:=λw=>zh (vA (show¬(i:Int)<(E.locals.length:Int) by omega) w);replace e0:=zh e0;clear ha;go_enter Tryz.func98,Tryz.ntmps98
   go_upto_region 1 with(fail)
   rw[<-hw1];rw[<-hB]at x0 x1 x2 x3 x4 x5 x6 hx1 ho1 ⊢;clear hw1 hB;go_wp2_with fail;refine wp_region_still_tail 7 (by kernel_rfl) (by kernel_rfl) ?_;simp only[List.take_succ_cons,List.take_zero,List.drop_succ_cons,List.drop_zero]
   repeat still_step
   refine wpStill_nil ?_;change wpList _ _ _ _ _ w1.drew;obtain⟨h2,d2⟩:=zU h1;have t2:=t1.trans d2;have hx2:=hx1.tw ho1 d2;have ho2:=(ho1.tw d2).1;obtain⟨w2,hw2⟩:∃w2,w2=w1.drew:=⟨_,rfl⟩
   rw[<-hw2]at h2 d2 t2 hx2 ho2 ⊢;clear hw2 k0 k2 k3 z2 z3' x0 x1 x2 x3 x4 x5 x6 hf hrow;go_wp2_with fail;refine((hHN _).out).mono ?_;rintro e w' ⟨rfl,rfl⟩;go_wp2;exact⟨rfl,by rw[e0.out];exact⟨rfl,_,_,t2⟩⟩
theorem named_any(h:Cx w0 N p c lv E w sv fv s)(hR:EvR E)(op a y n:Int)(v4 v5 v6:Value)(ho:op=16\/(32<=op/\op<=36))(ha:0<=a)(hb:s.st.length+1<=1099511627776):Calls Tryz.prog 98 #[.pointer (some ⟨p,0,none⟩),zO op a y n v4 v5 v6] w (xJ N p (.pointer (some ⟨c,0,none⟩)) lv w sv fv (jJ E op a s)):=by
 have:op=16\/op=32\/op=33\/op=34\/op=35\/op=36:=(by omega)
 rcases this with rfl |rfl |rfl |rfl |rfl |rfl
 . exact named_16 h hR a y n v4 v5 v6 ha hb
 . exact named_32 h a y n v4 v5 v6 ha hb
 . exact named_33 h a y n v4 v5 v6 ha hb
 . exact named_34 h a y n v4 v5 v6 ha hb
 . exact named_35 h a y n v4 v5 v6 ha hb
 . exact named_36 h a y n v4 v5 v6 ha hb
end
end Go.Proofs.YtacohbllbjgdgaaGreatDoor
