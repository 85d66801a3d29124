/- The typer: loads and stores. -/
import Derived.Test.YtacohbllbjgdgaaGreatDoorXi
import Derived.Deep.RegionWith
set_option linter.all false
set_option maxRecDepth 100000
set_option maxHeartbeats 4000000
namespace Go.Proofs.YtacohbllbjgdgaaGreatDoor
open Go.RowKit
section
variable {w0:World} {N p c:Nat} {lv:Value} {E:Ev} {w:World} {sv fv:Value} {s:Ts}
theorem vwant_no'(n:Int)(w:World):Calls Tryz.prog 49 #[.bool false,.int .i64 n] w λe w'=>(e=.returned (.tuple #[])/\Hid False)\/(e=.panicked (jS n)/\w=w'):=(qG n w).mono λ_ _ q=>.inr q
theorem memory_61e(h:Cx w0 N p c lv E w sv fv s)(op a y n:Int)(v4 v5 v6:Value)(hm0:¬0<E.mems):Calls Tryz.prog 101 #[.pointer (some ⟨p,0,none⟩),zO op a y n v4 v5 v6] w (xJ N p (.pointer (some ⟨c,0,none⟩)) lv w sv fv (.error 61)):=by
 obtain⟨w1,hw1,h1,hx1,ho1,t1⟩:=zS h op a y n v4 v5 v6;obtain⟨ma,mk,hm⟩:=h1.env.mems;unfold zO;obtain⟨B,hB⟩:∃B,B=w.heap.size:=⟨_,rfl⟩
 obtain⟨k0,k1,k2,k3,z2,z3'⟩:=h1.t.c;obtain⟨x0,x1,x2,x3,x4,x5,x6⟩:=hx1.c;have hHN:=λw=>zh (vA (show¬(0:Int)<(E.mems:Int) by omega) w);clear hm0;go_enter Tryz.func101,Tryz.ntmps101
 go_upto_region 1 with(fail)
 rw[<-hw1];rw[<-hB]at x0 x1 x2 x3 x4 x5 x6 hx1 ho1 ⊢;clear hw1 hB;go_wp2_with fail;refine((hHN _).out).mono ?_;rintro e w' ⟨rfl,rfl⟩;go_wp2;exact⟨rfl,rfl,_,_,t1⟩
theorem memory_60e(h:Cx w0 N p c lv E w sv fv s)(op a y n:Int)(v4 v5 v6:Value)(hm0:0<E.mems)(hle:¬a<=qA op):Calls Tryz.prog 101 #[.pointer (some ⟨p,0,none⟩),zO op a y n v4 v5 v6] w (xJ N p (.pointer (some ⟨c,0,none⟩)) lv w sv fv (.error 60)):=by
 obtain⟨w1,hw1,h1,hx1,ho1,t1⟩:=zS h op a y n v4 v5 v6;obtain⟨ma,mk,hm⟩:=h1.env.mems;unfold zO;obtain⟨B,hB⟩:∃B,B=w.heap.size:=⟨_,rfl⟩
 obtain⟨k0,k1,k2,k3,z2,z3'⟩:=h1.t.c;obtain⟨x0,x1,x2,x3,x4,x5,x6⟩:=hx1.c;have hHY:=λw=>zh (qB (show(0:Int)<(E.mems:Int) by omega) w);have hBy:=λw=>zh (qR op w);generalize qA op=bv at hle hBy;have hld:decide (a<=bv)=false:=decide_eq_false hle;have hlt:bv<a:=(by omega)
 clear hm0;go_enter Tryz.func101,Tryz.ntmps101
 go_upto_region 1 with(fail)
 rw[<-hw1];rw[<-hB]at x0 x1 x2 x3 x4 x5 x6 hx1 ho1 ⊢;clear hw1 hB;go_wp2_with fail;refine((hHY _).out).mono ?_;rintro e w' ⟨rfl,rfl⟩;obtain⟨h2,d2⟩:=zU h1;have t2:=zh (t1.trans d2);clear t1 d2 h2 hm;go_wp2_with fail
 go_region_with (first |(go_at_call 121;refine(hBy _).out.mono ?_;rintro e w' ⟨rfl,rfl⟩) |(go_at_call 49;refine(vwant_no' 60 _).mono ?_;rintro e w' (⟨rfl,hF⟩ |⟨rfl,rfl⟩);rotate_left;exact⟨rfl,rfl,_,_,t2.out⟩))
 all_goals exact hF.out.elim
theorem memory_40(h:Cx w0 N p c lv E w sv fv s)(a y n:Int)(v4 v5 v6:Value)(hm0:0<E.mems)(hle:a<=qA 40)(hb:s.st.length+1<=1099511627776):Calls Tryz.prog 101 #[.pointer (some ⟨p,0,none⟩),zO 40 a y n v4 v5 v6] w (xJ N p (.pointer (some ⟨c,0,none⟩)) lv w sv fv (zF E 40 a s)):=by
 obtain⟨w1,hw1,h1,hx1,ho1,t1⟩:=zS h 40 a y n v4 v5 v6;obtain⟨ma,mk,hm⟩:=h1.env.mems;unfold zO;obtain⟨B,hB⟩:∃B,B=w.heap.size:=⟨_,rfl⟩
 obtain⟨k0,k1,k2,k3,z2,z3'⟩:=h1.t.c;obtain⟨x0,x1,x2,x3,x4,x5,x6⟩:=hx1.c
 have e0:zF E 40 a s=(zK 127 s).bind λq=>.ok (zN [127] q.2):=by unfold zF;rw[if_pos hm0,if_pos hle];rfl
 generalize zF E 40 a s=X at e0 ⊢;have hHY:=λw=>zh (qB (show(0:Int)<(E.mems:Int) by omega) w);have hBy:=λw=>zh (qR 40 w);generalize qA 40=bv at hle hBy;have hld:decide (a<=bv)=true:=decide_eq_true hle;replace e0:=zh e0;clear hm0;have hB2:∀w,Calls Tryz.prog 121 #[.int .i64 40] w λe w'=>e=.returned (.int .i64 bv)/\w'=w:=λw=>(hBy w).out.mono λ_ _ q=>⟨q.1,q.2.symm⟩
 have hW2:∀w,Calls Tryz.prog 49 #[.bool true,.int .i64 60] w λe w'=>e=.returned (.tuple #[])/\w'=w:=λw=>(zJ 60 w).mono λ_ _ q=>⟨q.1,q.2.symm⟩
 clear hBy;go_enter Tryz.func101,Tryz.ntmps101
 go_upto_region 1 with(fail)
 rw[<-hw1];rw[<-hB]at x0 x1 x2 x3 x4 x5 x6 hx1 ho1 ⊢;clear hw1 hB;go_wp2_with fail;refine((hHY _).out).mono ?_;rintro e w' ⟨rfl,rfl⟩;go_wp2_with fail
 go_quiet (first |(go_at_call 121;exact Calls.quiet_of_same (hB2 _)) |(go_at_call 49;exact Calls.quiet_of_same (hW2 _)))
 have h2:=h1.step (zB nq);have d2:Tw p sv fv sv fv w1 (w1.drewN nq):=.of_below (zB nq);have t2:=t1.trans d2;have hx2:=hx1.tw ho1 d2;have ho2:=(ho1.tw d2).1;obtain⟨w2,hw2⟩:∃w2,w2=w1.drewN nq:=⟨_,rfl⟩
 rw[<-hw2]at h2 t2 d2 hx2 ho2 ⊢;clear hw2 h1 d2 t1 hx1 ho1 hm hB2 hW2 k0 k1 k2 k3 z2 z3' x0 x1 x2 x3 x4 x5 x6;obtain⟨x0,x1,x2,x3,x4,x5,x6⟩:=hx2.c;cases hq:zK 127 s with
 |error m=>replace e0:=zh (e0.out.trans (by rw[hq];rfl:_=Except.error m));have hc:=qN h2.t h.wf (.inr ⟨.inr rfl,rfl⟩) hq;clear hq;go_wp2_with fail;refine hc.mono ?_;rintro e wz ⟨rfl,svz,fvz,tz⟩;go_wp2;exact⟨rfl,by rw[e0.out];exact⟨rfl,svz,fvz,t2.trans tz⟩⟩
 |ok q=>replace e0:=zh (e0.out.trans (by rw[hq];rfl:_=Except.ok (zN [127] q.2)));have hc:=qH h2.t h.wf (.inr ⟨.inr rfl,rfl⟩) hq;have hwq:=(qO h.wf hq).1;have hle2:=zR hq;clear hq;go_wp2_with fail;refine hc.mono ?_;rintro e w3 ⟨rfl,sv3,h3,d3⟩;have t3:=t2.trans d3;have hx3:=hx2.tw ho2 d3;have ho3:=(ho2.tw d3).1;clear x0 x1 x2 x3 x4 x5 x6;obtain⟨x0,x1,x2,x3,x4,x5,x6⟩:=hx3.c;have hpu:=vS h3 (t:=127) (v:=127) rfl (by omega);go_wp2_with fail;refine hpu.mono ?_;rintro e w4 ⟨rfl,sv4,h4,d4⟩;go_wp2;go_end0;rw[e0.out];exact⟨rfl,sv4,h4,t3.trans d4⟩
theorem memory_41(h:Cx w0 N p c lv E w sv fv s)(a y n:Int)(v4 v5 v6:Value)(hm0:0<E.mems)(hle:a<=qA 41)(hb:s.st.length+1<=1099511627776):Calls Tryz.prog 101 #[.pointer (some ⟨p,0,none⟩),zO 41 a y n v4 v5 v6] w (xJ N p (.pointer (some ⟨c,0,none⟩)) lv w sv fv (zF E 41 a s)):=by
 obtain⟨w1,hw1,h1,hx1,ho1,t1⟩:=zS h 41 a y n v4 v5 v6;obtain⟨ma,mk,hm⟩:=h1.env.mems;unfold zO;obtain⟨B,hB⟩:∃B,B=w.heap.size:=⟨_,rfl⟩
 obtain⟨k0,k1,k2,k3,z2,z3'⟩:=h1.t.c;obtain⟨x0,x1,x2,x3,x4,x5,x6⟩:=hx1.c
 have e0:zF E 41 a s=(zK 127 s).bind λq=>.ok (zN [126] q.2):=by unfold zF;rw[if_pos hm0,if_pos hle];rfl
 generalize zF E 41 a s=X at e0 ⊢;have hHY:=λw=>zh (qB (show(0:Int)<(E.mems:Int) by omega) w);have hBy:=λw=>zh (qR 41 w);generalize qA 41=bv at hle hBy;have hld:decide (a<=bv)=true:=decide_eq_true hle;replace e0:=zh e0;clear hm0;have hB2:∀w,Calls Tryz.prog 121 #[.int .i64 41] w λe w'=>e=.returned (.int .i64 bv)/\w'=w:=λw=>(hBy w).out.mono λ_ _ q=>⟨q.1,q.2.symm⟩
 have hW2:∀w,Calls Tryz.prog 49 #[.bool true,.int .i64 60] w λe w'=>e=.returned (.tuple #[])/\w'=w:=λw=>(zJ 60 w).mono λ_ _ q=>⟨q.1,q.2.symm⟩
 clear hBy;go_enter Tryz.func101,Tryz.ntmps101
 go_upto_region 1 with(fail)
 rw[<-hw1];rw[<-hB]at x0 x1 x2 x3 x4 x5 x6 hx1 ho1 ⊢;clear hw1 hB;go_wp2_with fail;refine((hHY _).out).mono ?_;rintro e w' ⟨rfl,rfl⟩;go_wp2_with fail
 go_quiet (first |(go_at_call 121;exact Calls.quiet_of_same (hB2 _)) |(go_at_call 49;exact Calls.quiet_of_same (hW2 _)))
 have h2:=h1.step (zB nq);have d2:Tw p sv fv sv fv w1 (w1.drewN nq):=.of_below (zB nq);have t2:=t1.trans d2;have hx2:=hx1.tw ho1 d2;have ho2:=(ho1.tw d2).1;obtain⟨w2,hw2⟩:∃w2,w2=w1.drewN nq:=⟨_,rfl⟩
 rw[<-hw2]at h2 t2 d2 hx2 ho2 ⊢;clear hw2 h1 d2 t1 hx1 ho1 hm hB2 hW2 k0 k1 k2 k3 z2 z3' x0 x1 x2 x3 x4 x5 x6;obtain⟨x0,x1,x2,x3,x4,x5,x6⟩:=hx2.c;cases hq:zK 127 s with
 |error m=>replace e0:=zh (e0.out.trans (by rw[hq];rfl:_=Except.error m));have hc:=qN h2.t h.wf (.inr ⟨.inr rfl,rfl⟩) hq;clear hq;go_wp2_with fail;refine hc.mono ?_;rintro e wz ⟨rfl,svz,fvz,tz⟩;go_wp2;exact⟨rfl,by rw[e0.out];exact⟨rfl,svz,fvz,t2.trans tz⟩⟩
 |ok q=>replace e0:=zh (e0.out.trans (by rw[hq];rfl:_=Except.ok (zN [126] q.2)));have hc:=qH h2.t h.wf (.inr ⟨.inr rfl,rfl⟩) hq;have hwq:=(qO h.wf hq).1;have hle2:=zR hq;clear hq;go_wp2_with fail;refine hc.mono ?_;rintro e w3 ⟨rfl,sv3,h3,d3⟩;have t3:=t2.trans d3;have hx3:=hx2.tw ho2 d3;have ho3:=(ho2.tw d3).1;clear x0 x1 x2 x3 x4 x5 x6;obtain⟨x0,x1,x2,x3,x4,x5,x6⟩:=hx3.c;have hpu:=vS h3 (t:=126) (v:=126) rfl (by omega);go_wp2_with fail;refine hpu.mono ?_;rintro e w4 ⟨rfl,sv4,h4,d4⟩;go_wp2;go_end0;rw[e0.out];exact⟨rfl,sv4,h4,t3.trans d4⟩
theorem memory_44(h:Cx w0 N p c lv E w sv fv s)(a y n:Int)(v4 v5 v6:Value)(hm0:0<E.mems)(hle:a<=qA 44)(hb:s.st.length+1<=1099511627776):Calls Tryz.prog 101 #[.pointer (some ⟨p,0,none⟩),zO 44 a y n v4 v5 v6] w (xJ N p (.pointer (some ⟨c,0,none⟩)) lv w sv fv (zF E 44 a s)):=by
 obtain⟨w1,hw1,h1,hx1,ho1,t1⟩:=zS h 44 a y n v4 v5 v6;obtain⟨ma,mk,hm⟩:=h1.env.mems;unfold zO;obtain⟨B,hB⟩:∃B,B=w.heap.size:=⟨_,rfl⟩
 obtain⟨k0,k1,k2,k3,z2,z3'⟩:=h1.t.c;obtain⟨x0,x1,x2,x3,x4,x5,x6⟩:=hx1.c
 have e0:zF E 44 a s=(zK 127 s).bind λq=>.ok (zN [127] q.2):=by unfold zF;rw[if_pos hm0,if_pos hle];rfl
 generalize zF E 44 a s=X at e0 ⊢;have hHY:=λw=>zh (qB (show(0:Int)<(E.mems:Int) by omega) w);have hBy:=λw=>zh (qR 44 w);generalize qA 44=bv at hle hBy;have hld:decide (a<=bv)=true:=decide_eq_true hle;replace e0:=zh e0;clear hm0;have hB2:∀w,Calls Tryz.prog 121 #[.int .i64 44] w λe w'=>e=.returned (.int .i64 bv)/\w'=w:=λw=>(hBy w).out.mono λ_ _ q=>⟨q.1,q.2.symm⟩
 have hW2:∀w,Calls Tryz.prog 49 #[.bool true,.int .i64 60] w λe w'=>e=.returned (.tuple #[])/\w'=w:=λw=>(zJ 60 w).mono λ_ _ q=>⟨q.1,q.2.symm⟩
 clear hBy;go_enter Tryz.func101,Tryz.ntmps101
 go_upto_region 1 with(fail)
 rw[<-hw1];rw[<-hB]at x0 x1 x2 x3 x4 x5 x6 hx1 ho1 ⊢;clear hw1 hB;go_wp2_with fail;refine((hHY _).out).mono ?_;rintro e w' ⟨rfl,rfl⟩;go_wp2_with fail
 go_quiet (first |(go_at_call 121;exact Calls.quiet_of_same (hB2 _)) |(go_at_call 49;exact Calls.quiet_of_same (hW2 _)))
 have h2:=h1.step (zB nq);have d2:Tw p sv fv sv fv w1 (w1.drewN nq):=.of_below (zB nq);have t2:=t1.trans d2;have hx2:=hx1.tw ho1 d2;have ho2:=(ho1.tw d2).1;obtain⟨w2,hw2⟩:∃w2,w2=w1.drewN nq:=⟨_,rfl⟩
 rw[<-hw2]at h2 t2 d2 hx2 ho2 ⊢;clear hw2 h1 d2 t1 hx1 ho1 hm hB2 hW2 k0 k1 k2 k3 z2 z3' x0 x1 x2 x3 x4 x5 x6;obtain⟨x0,x1,x2,x3,x4,x5,x6⟩:=hx2.c;cases hq:zK 127 s with
 |error m=>replace e0:=zh (e0.out.trans (by rw[hq];rfl:_=Except.error m));have hc:=qN h2.t h.wf (.inr ⟨.inr rfl,rfl⟩) hq;clear hq;go_wp2_with fail;refine hc.mono ?_;rintro e wz ⟨rfl,svz,fvz,tz⟩;go_wp2;exact⟨rfl,by rw[e0.out];exact⟨rfl,svz,fvz,t2.trans tz⟩⟩
 |ok q=>replace e0:=zh (e0.out.trans (by rw[hq];rfl:_=Except.ok (zN [127] q.2)));have hc:=qH h2.t h.wf (.inr ⟨.inr rfl,rfl⟩) hq;have hwq:=(qO h.wf hq).1;have hle2:=zR hq;clear hq;go_wp2_with fail;refine hc.mono ?_;rintro e w3 ⟨rfl,sv3,h3,d3⟩;have t3:=t2.trans d3;have hx3:=hx2.tw ho2 d3;have ho3:=(ho2.tw d3).1;clear x0 x1 x2 x3 x4 x5 x6;obtain⟨x0,x1,x2,x3,x4,x5,x6⟩:=hx3.c;have hpu:=vS h3 (t:=127) (v:=127) rfl (by omega);go_wp2_with fail;refine hpu.mono ?_;rintro e w4 ⟨rfl,sv4,h4,d4⟩;go_wp2;go_end0;rw[e0.out];exact⟨rfl,sv4,h4,t3.trans d4⟩
theorem memory_45(h:Cx w0 N p c lv E w sv fv s)(a y n:Int)(v4 v5 v6:Value)(hm0:0<E.mems)(hle:a<=qA 45)(hb:s.st.length+1<=1099511627776):Calls Tryz.prog 101 #[.pointer (some ⟨p,0,none⟩),zO 45 a y n v4 v5 v6] w (xJ N p (.pointer (some ⟨c,0,none⟩)) lv w sv fv (zF E 45 a s)):=by
 obtain⟨w1,hw1,h1,hx1,ho1,t1⟩:=zS h 45 a y n v4 v5 v6;obtain⟨ma,mk,hm⟩:=h1.env.mems;unfold zO;obtain⟨B,hB⟩:∃B,B=w.heap.size:=⟨_,rfl⟩
 obtain⟨k0,k1,k2,k3,z2,z3'⟩:=h1.t.c;obtain⟨x0,x1,x2,x3,x4,x5,x6⟩:=hx1.c
 have e0:zF E 45 a s=(zK 127 s).bind λq=>.ok (zN [127] q.2):=by unfold zF;rw[if_pos hm0,if_pos hle];rfl
 generalize zF E 45 a s=X at e0 ⊢;have hHY:=λw=>zh (qB (show(0:Int)<(E.mems:Int) by omega) w);have hBy:=λw=>zh (qR 45 w);generalize qA 45=bv at hle hBy;have hld:decide (a<=bv)=true:=decide_eq_true hle;replace e0:=zh e0;clear hm0;have hB2:∀w,Calls Tryz.prog 121 #[.int .i64 45] w λe w'=>e=.returned (.int .i64 bv)/\w'=w:=λw=>(hBy w).out.mono λ_ _ q=>⟨q.1,q.2.symm⟩
 have hW2:∀w,Calls Tryz.prog 49 #[.bool true,.int .i64 60] w λe w'=>e=.returned (.tuple #[])/\w'=w:=λw=>(zJ 60 w).mono λ_ _ q=>⟨q.1,q.2.symm⟩
 clear hBy;go_enter Tryz.func101,Tryz.ntmps101
 go_upto_region 1 with(fail)
 rw[<-hw1];rw[<-hB]at x0 x1 x2 x3 x4 x5 x6 hx1 ho1 ⊢;clear hw1 hB;go_wp2_with fail;refine((hHY _).out).mono ?_;rintro e w' ⟨rfl,rfl⟩;go_wp2_with fail
 go_quiet (first |(go_at_call 121;exact Calls.quiet_of_same (hB2 _)) |(go_at_call 49;exact Calls.quiet_of_same (hW2 _)))
 have h2:=h1.step (zB nq);have d2:Tw p sv fv sv fv w1 (w1.drewN nq):=.of_below (zB nq);have t2:=t1.trans d2;have hx2:=hx1.tw ho1 d2;have ho2:=(ho1.tw d2).1;obtain⟨w2,hw2⟩:∃w2,w2=w1.drewN nq:=⟨_,rfl⟩
 rw[<-hw2]at h2 t2 d2 hx2 ho2 ⊢;clear hw2 h1 d2 t1 hx1 ho1 hm hB2 hW2 k0 k1 k2 k3 z2 z3' x0 x1 x2 x3 x4 x5 x6;obtain⟨x0,x1,x2,x3,x4,x5,x6⟩:=hx2.c;cases hq:zK 127 s with
 |error m=>replace e0:=zh (e0.out.trans (by rw[hq];rfl:_=Except.error m));have hc:=qN h2.t h.wf (.inr ⟨.inr rfl,rfl⟩) hq;clear hq;go_wp2_with fail;refine hc.mono ?_;rintro e wz ⟨rfl,svz,fvz,tz⟩;go_wp2;exact⟨rfl,by rw[e0.out];exact⟨rfl,svz,fvz,t2.trans tz⟩⟩
 |ok q=>replace e0:=zh (e0.out.trans (by rw[hq];rfl:_=Except.ok (zN [127] q.2)));have hc:=qH h2.t h.wf (.inr ⟨.inr rfl,rfl⟩) hq;have hwq:=(qO h.wf hq).1;have hle2:=zR hq;clear hq;go_wp2_with fail;refine hc.mono ?_;rintro e w3 ⟨rfl,sv3,h3,d3⟩;have t3:=t2.trans d3;have hx3:=hx2.tw ho2 d3;have ho3:=(ho2.tw d3).1;clear x0 x1 x2 x3 x4 x5 x6;obtain⟨x0,x1,x2,x3,x4,x5,x6⟩:=hx3.c;have hpu:=vS h3 (t:=127) (v:=127) rfl (by omega);go_wp2_with fail;refine hpu.mono ?_;rintro e w4 ⟨rfl,sv4,h4,d4⟩;go_wp2;go_end0;rw[e0.out];exact⟨rfl,sv4,h4,t3.trans d4⟩
theorem memory_46(h:Cx w0 N p c lv E w sv fv s)(a y n:Int)(v4 v5 v6:Value)(hm0:0<E.mems)(hle:a<=qA 46)(hb:s.st.length+1<=1099511627776):Calls Tryz.prog 101 #[.pointer (some ⟨p,0,none⟩),zO 46 a y n v4 v5 v6] w (xJ N p (.pointer (some ⟨c,0,none⟩)) lv w sv fv (zF E 46 a s)):=by
 obtain⟨w1,hw1,h1,hx1,ho1,t1⟩:=zS h 46 a y n v4 v5 v6;obtain⟨ma,mk,hm⟩:=h1.env.mems;unfold zO;obtain⟨B,hB⟩:∃B,B=w.heap.size:=⟨_,rfl⟩
 obtain⟨k0,k1,k2,k3,z2,z3'⟩:=h1.t.c;obtain⟨x0,x1,x2,x3,x4,x5,x6⟩:=hx1.c
 have e0:zF E 46 a s=(zK 127 s).bind λq=>.ok (zN [127] q.2):=by unfold zF;rw[if_pos hm0,if_pos hle];rfl
 generalize zF E 46 a s=X at e0 ⊢;have hHY:=λw=>zh (qB (show(0:Int)<(E.mems:Int) by omega) w);have hBy:=λw=>zh (qR 46 w);generalize qA 46=bv at hle hBy;have hld:decide (a<=bv)=true:=decide_eq_true hle;replace e0:=zh e0;clear hm0;have hB2:∀w,Calls Tryz.prog 121 #[.int .i64 46] w λe w'=>e=.returned (.int .i64 bv)/\w'=w:=λw=>(hBy w).out.mono λ_ _ q=>⟨q.1,q.2.symm⟩
 have hW2:∀w,Calls Tryz.prog 49 #[.bool true,.int .i64 60] w λe w'=>e=.returned (.tuple #[])/\w'=w:=λw=>(zJ 60 w).mono λ_ _ q=>⟨q.1,q.2.symm⟩
 clear hBy;go_enter Tryz.func101,Tryz.ntmps101
 go_upto_region 1 with(fail)
 rw[<-hw1];rw[<-hB]at x0 x1 x2 x3 x4 x5 x6 hx1 ho1 ⊢;clear hw1 hB;go_wp2_with fail;refine((hHY _).out).mono ?_;rintro e w' ⟨rfl,rfl⟩;go_wp2_with fail
 go_quiet (first |(go_at_call 121;exact Calls.quiet_of_same (hB2 _)) |(go_at_call 49;exact Calls.quiet_of_same (hW2 _)))
 have h2:=h1.step (zB nq);have d2:Tw p sv fv sv fv w1 (w1.drewN nq):=.of_below (zB nq);have t2:=t1.trans d2;have hx2:=hx1.tw ho1 d2;have ho2:=(ho1.tw d2).1;obtain⟨w2,hw2⟩:∃w2,w2=w1.drewN nq:=⟨_,rfl⟩
 rw[<-hw2]at h2 t2 d2 hx2 ho2 ⊢;clear hw2 h1 d2 t1 hx1 ho1 hm hB2 hW2 k0 k1 k2 k3 z2 z3' x0 x1 x2 x3 x4 x5 x6;obtain⟨x0,x1,x2,x3,x4,x5,x6⟩:=hx2.c;cases hq:zK 127 s with
 |error m=>replace e0:=zh (e0.out.trans (by rw[hq];rfl:_=Except.error m));have hc:=qN h2.t h.wf (.inr ⟨.inr rfl,rfl⟩) hq;clear hq;go_wp2_with fail;refine hc.mono ?_;rintro e wz ⟨rfl,svz,fvz,tz⟩;go_wp2;exact⟨rfl,by rw[e0.out];exact⟨rfl,svz,fvz,t2.trans tz⟩⟩
 |ok q=>replace e0:=zh (e0.out.trans (by rw[hq];rfl:_=Except.ok (zN [127] q.2)));have hc:=qH h2.t h.wf (.inr ⟨.inr rfl,rfl⟩) hq;have hwq:=(qO h.wf hq).1;have hle2:=zR hq;clear hq;go_wp2_with fail;refine hc.mono ?_;rintro e w3 ⟨rfl,sv3,h3,d3⟩;have t3:=t2.trans d3;have hx3:=hx2.tw ho2 d3;have ho3:=(ho2.tw d3).1;clear x0 x1 x2 x3 x4 x5 x6;obtain⟨x0,x1,x2,x3,x4,x5,x6⟩:=hx3.c;have hpu:=vS h3 (t:=127) (v:=127) rfl (by omega);go_wp2_with fail;refine hpu.mono ?_;rintro e w4 ⟨rfl,sv4,h4,d4⟩;go_wp2;go_end0;rw[e0.out];exact⟨rfl,sv4,h4,t3.trans d4⟩
theorem memory_47(h:Cx w0 N p c lv E w sv fv s)(a y n:Int)(v4 v5 v6:Value)(hm0:0<E.mems)(hle:a<=qA 47)(hb:s.st.length+1<=1099511627776):Calls Tryz.prog 101 #[.pointer (some ⟨p,0,none⟩),zO 47 a y n v4 v5 v6] w (xJ N p (.pointer (some ⟨c,0,none⟩)) lv w sv fv (zF E 47 a s)):=by
 obtain⟨w1,hw1,h1,hx1,ho1,t1⟩:=zS h 47 a y n v4 v5 v6;obtain⟨ma,mk,hm⟩:=h1.env.mems;unfold zO;obtain⟨B,hB⟩:∃B,B=w.heap.size:=⟨_,rfl⟩
 obtain⟨k0,k1,k2,k3,z2,z3'⟩:=h1.t.c;obtain⟨x0,x1,x2,x3,x4,x5,x6⟩:=hx1.c
 have e0:zF E 47 a s=(zK 127 s).bind λq=>.ok (zN [127] q.2):=by unfold zF;rw[if_pos hm0,if_pos hle];rfl
 generalize zF E 47 a s=X at e0 ⊢;have hHY:=λw=>zh (qB (show(0:Int)<(E.mems:Int) by omega) w);have hBy:=λw=>zh (qR 47 w);generalize qA 47=bv at hle hBy;have hld:decide (a<=bv)=true:=decide_eq_true hle;replace e0:=zh e0;clear hm0;have hB2:∀w,Calls Tryz.prog 121 #[.int .i64 47] w λe w'=>e=.returned (.int .i64 bv)/\w'=w:=λw=>(hBy w).out.mono λ_ _ q=>⟨q.1,q.2.symm⟩
 have hW2:∀w,Calls Tryz.prog 49 #[.bool true,.int .i64 60] w λe w'=>e=.returned (.tuple #[])/\w'=w:=λw=>(zJ 60 w).mono λ_ _ q=>⟨q.1,q.2.symm⟩
 clear hBy;go_enter Tryz.func101,Tryz.ntmps101
 go_upto_region 1 with(fail)
 rw[<-hw1];rw[<-hB]at x0 x1 x2 x3 x4 x5 x6 hx1 ho1 ⊢;clear hw1 hB;go_wp2_with fail;refine((hHY _).out).mono ?_;rintro e w' ⟨rfl,rfl⟩;go_wp2_with fail
 go_quiet (first |(go_at_call 121;exact Calls.quiet_of_same (hB2 _)) |(go_at_call 49;exact Calls.quiet_of_same (hW2 _)))
 have h2:=h1.step (zB nq);have d2:Tw p sv fv sv fv w1 (w1.drewN nq):=.of_below (zB nq);have t2:=t1.trans d2;have hx2:=hx1.tw ho1 d2;have ho2:=(ho1.tw d2).1;obtain⟨w2,hw2⟩:∃w2,w2=w1.drewN nq:=⟨_,rfl⟩
 rw[<-hw2]at h2 t2 d2 hx2 ho2 ⊢;clear hw2 h1 d2 t1 hx1 ho1 hm hB2 hW2 k0 k1 k2 k3 z2 z3' x0 x1 x2 x3 x4 x5 x6;obtain⟨x0,x1,x2,x3,x4,x5,x6⟩:=hx2.c;cases hq:zK 127 s with
 |error m=>replace e0:=zh (e0.out.trans (by rw[hq];rfl:_=Except.error m));have hc:=qN h2.t h.wf (.inr ⟨.inr rfl,rfl⟩) hq;clear hq;go_wp2_with fail;refine hc.mono ?_;rintro e wz ⟨rfl,svz,fvz,tz⟩;go_wp2;exact⟨rfl,by rw[e0.out];exact⟨rfl,svz,fvz,t2.trans tz⟩⟩
 |ok q=>replace e0:=zh (e0.out.trans (by rw[hq];rfl:_=Except.ok (zN [127] q.2)));have hc:=qH h2.t h.wf (.inr ⟨.inr rfl,rfl⟩) hq;have hwq:=(qO h.wf hq).1;have hle2:=zR hq;clear hq;go_wp2_with fail;refine hc.mono ?_;rintro e w3 ⟨rfl,sv3,h3,d3⟩;have t3:=t2.trans d3;have hx3:=hx2.tw ho2 d3;have ho3:=(ho2.tw d3).1;clear x0 x1 x2 x3 x4 x5 x6;obtain⟨x0,x1,x2,x3,x4,x5,x6⟩:=hx3.c;have hpu:=vS h3 (t:=127) (v:=127) rfl (by omega);go_wp2_with fail;refine hpu.mono ?_;rintro e w4 ⟨rfl,sv4,h4,d4⟩;go_wp2;go_end0;rw[e0.out];exact⟨rfl,sv4,h4,t3.trans d4⟩
theorem memory_48(h:Cx w0 N p c lv E w sv fv s)(a y n:Int)(v4 v5 v6:Value)(hm0:0<E.mems)(hle:a<=qA 48)(hb:s.st.length+1<=1099511627776):Calls Tryz.prog 101 #[.pointer (some ⟨p,0,none⟩),zO 48 a y n v4 v5 v6] w (xJ N p (.pointer (some ⟨c,0,none⟩)) lv w sv fv (zF E 48 a s)):=by
 obtain⟨w1,hw1,h1,hx1,ho1,t1⟩:=zS h 48 a y n v4 v5 v6;obtain⟨ma,mk,hm⟩:=h1.env.mems;unfold zO;obtain⟨B,hB⟩:∃B,B=w.heap.size:=⟨_,rfl⟩
 obtain⟨k0,k1,k2,k3,z2,z3'⟩:=h1.t.c;obtain⟨x0,x1,x2,x3,x4,x5,x6⟩:=hx1.c
 have e0:zF E 48 a s=(zK 127 s).bind λq=>.ok (zN [126] q.2):=by unfold zF;rw[if_pos hm0,if_pos hle];rfl
 generalize zF E 48 a s=X at e0 ⊢;have hHY:=λw=>zh (qB (show(0:Int)<(E.mems:Int) by omega) w);have hBy:=λw=>zh (qR 48 w);generalize qA 48=bv at hle hBy;have hld:decide (a<=bv)=true:=decide_eq_true hle;replace e0:=zh e0;clear hm0;have hB2:∀w,Calls Tryz.prog 121 #[.int .i64 48] w λe w'=>e=.returned (.int .i64 bv)/\w'=w:=λw=>(hBy w).out.mono λ_ _ q=>⟨q.1,q.2.symm⟩
 have hW2:∀w,Calls Tryz.prog 49 #[.bool true,.int .i64 60] w λe w'=>e=.returned (.tuple #[])/\w'=w:=λw=>(zJ 60 w).mono λ_ _ q=>⟨q.1,q.2.symm⟩
 clear hBy;go_enter Tryz.func101,Tryz.ntmps101
 go_upto_region 1 with(fail)
 rw[<-hw1];rw[<-hB]at x0 x1 x2 x3 x4 x5 x6 hx1 ho1 ⊢;clear hw1 hB;go_wp2_with fail;refine((hHY _).out).mono ?_;rintro e w' ⟨rfl,rfl⟩;go_wp2_with fail
 go_quiet (first |(go_at_call 121;exact Calls.quiet_of_same (hB2 _)) |(go_at_call 49;exact Calls.quiet_of_same (hW2 _)))
 have h2:=h1.step (zB nq);have d2:Tw p sv fv sv fv w1 (w1.drewN nq):=.of_below (zB nq);have t2:=t1.trans d2;have hx2:=hx1.tw ho1 d2;have ho2:=(ho1.tw d2).1;obtain⟨w2,hw2⟩:∃w2,w2=w1.drewN nq:=⟨_,rfl⟩
 rw[<-hw2]at h2 t2 d2 hx2 ho2 ⊢;clear hw2 h1 d2 t1 hx1 ho1 hm hB2 hW2 k0 k1 k2 k3 z2 z3' x0 x1 x2 x3 x4 x5 x6;obtain⟨x0,x1,x2,x3,x4,x5,x6⟩:=hx2.c;cases hq:zK 127 s with
 |error m=>replace e0:=zh (e0.out.trans (by rw[hq];rfl:_=Except.error m));have hc:=qN h2.t h.wf (.inr ⟨.inr rfl,rfl⟩) hq;clear hq;go_wp2_with fail;refine hc.mono ?_;rintro e wz ⟨rfl,svz,fvz,tz⟩;go_wp2;exact⟨rfl,by rw[e0.out];exact⟨rfl,svz,fvz,t2.trans tz⟩⟩
 |ok q=>replace e0:=zh (e0.out.trans (by rw[hq];rfl:_=Except.ok (zN [126] q.2)));have hc:=qH h2.t h.wf (.inr ⟨.inr rfl,rfl⟩) hq;have hwq:=(qO h.wf hq).1;have hle2:=zR hq;clear hq;go_wp2_with fail;refine hc.mono ?_;rintro e w3 ⟨rfl,sv3,h3,d3⟩;have t3:=t2.trans d3;have hx3:=hx2.tw ho2 d3;have ho3:=(ho2.tw d3).1;clear x0 x1 x2 x3 x4 x5 x6;obtain⟨x0,x1,x2,x3,x4,x5,x6⟩:=hx3.c;have hpu:=vS h3 (t:=126) (v:=126) rfl (by omega);go_wp2_with fail;refine hpu.mono ?_;rintro e w4 ⟨rfl,sv4,h4,d4⟩;go_wp2;go_end0;rw[e0.out];exact⟨rfl,sv4,h4,t3.trans d4⟩
theorem memory_49(h:Cx w0 N p c lv E w sv fv s)(a y n:Int)(v4 v5 v6:Value)(hm0:0<E.mems)(hle:a<=qA 49)(hb:s.st.length+1<=1099511627776):Calls Tryz.prog 101 #[.pointer (some ⟨p,0,none⟩),zO 49 a y n v4 v5 v6] w (xJ N p (.pointer (some ⟨c,0,none⟩)) lv w sv fv (zF E 49 a s)):=by
 obtain⟨w1,hw1,h1,hx1,ho1,t1⟩:=zS h 49 a y n v4 v5 v6;obtain⟨ma,mk,hm⟩:=h1.env.mems;unfold zO;obtain⟨B,hB⟩:∃B,B=w.heap.size:=⟨_,rfl⟩
 obtain⟨k0,k1,k2,k3,z2,z3'⟩:=h1.t.c;obtain⟨x0,x1,x2,x3,x4,x5,x6⟩:=hx1.c
 have e0:zF E 49 a s=(zK 127 s).bind λq=>.ok (zN [126] q.2):=by unfold zF;rw[if_pos hm0,if_pos hle];rfl
 generalize zF E 49 a s=X at e0 ⊢;have hHY:=λw=>zh (qB (show(0:Int)<(E.mems:Int) by omega) w);have hBy:=λw=>zh (qR 49 w);generalize qA 49=bv at hle hBy;have hld:decide (a<=bv)=true:=decide_eq_true hle;replace e0:=zh e0;clear hm0;have hB2:∀w,Calls Tryz.prog 121 #[.int .i64 49] w λe w'=>e=.returned (.int .i64 bv)/\w'=w:=λw=>(hBy w).out.mono λ_ _ q=>⟨q.1,q.2.symm⟩
 have hW2:∀w,Calls Tryz.prog 49 #[.bool true,.int .i64 60] w λe w'=>e=.returned (.tuple #[])/\w'=w:=λw=>(zJ 60 w).mono λ_ _ q=>⟨q.1,q.2.symm⟩
 clear hBy;go_enter Tryz.func101,Tryz.ntmps101
 go_upto_region 1 with(fail)
 rw[<-hw1];rw[<-hB]at x0 x1 x2 x3 x4 x5 x6 hx1 ho1 ⊢;clear hw1 hB;go_wp2_with fail;refine((hHY _).out).mono ?_;rintro e w' ⟨rfl,rfl⟩;go_wp2_with fail
 go_quiet (first |(go_at_call 121;exact Calls.quiet_of_same (hB2 _)) |(go_at_call 49;exact Calls.quiet_of_same (hW2 _)))
 have h2:=h1.step (zB nq);have d2:Tw p sv fv sv fv w1 (w1.drewN nq):=.of_below (zB nq);have t2:=t1.trans d2;have hx2:=hx1.tw ho1 d2;have ho2:=(ho1.tw d2).1;obtain⟨w2,hw2⟩:∃w2,w2=w1.drewN nq:=⟨_,rfl⟩
 rw[<-hw2]at h2 t2 d2 hx2 ho2 ⊢;clear hw2 h1 d2 t1 hx1 ho1 hm hB2 hW2 k0 k1 k2 k3 z2 z3' x0 x1 x2 x3 x4 x5 x6;obtain⟨x0,x1,x2,x3,x4,x5,x6⟩:=hx2.c;cases hq:zK 127 s with
 |error m=>replace e0:=zh (e0.out.trans (by rw[hq];rfl:_=Except.error m));have hc:=qN h2.t h.wf (.inr ⟨.inr rfl,rfl⟩) hq;clear hq;go_wp2_with fail;refine hc.mono ?_;rintro e wz ⟨rfl,svz,fvz,tz⟩;go_wp2;exact⟨rfl,by rw[e0.out];exact⟨rfl,svz,fvz,t2.trans tz⟩⟩
 |ok q=>replace e0:=zh (e0.out.trans (by rw[hq];rfl:_=Except.ok (zN [126] q.2)));have hc:=qH h2.t h.wf (.inr ⟨.inr rfl,rfl⟩) hq;have hwq:=(qO h.wf hq).1;have hle2:=zR hq;clear hq;go_wp2_with fail;refine hc.mono ?_;rintro e w3 ⟨rfl,sv3,h3,d3⟩;have t3:=t2.trans d3;have hx3:=hx2.tw ho2 d3;have ho3:=(ho2.tw d3).1;clear x0 x1 x2 x3 x4 x5 x6;obtain⟨x0,x1,x2,x3,x4,x5,x6⟩:=hx3.c;have hpu:=vS h3 (t:=126) (v:=126) rfl (by omega);go_wp2_with fail;refine hpu.mono ?_;rintro e w4 ⟨rfl,sv4,h4,d4⟩;go_wp2;go_end0;rw[e0.out];exact⟨rfl,sv4,h4,t3.trans d4⟩
theorem memory_50(h:Cx w0 N p c lv E w sv fv s)(a y n:Int)(v4 v5 v6:Value)(hm0:0<E.mems)(hle:a<=qA 50)(hb:s.st.length+1<=1099511627776):Calls Tryz.prog 101 #[.pointer (some ⟨p,0,none⟩),zO 50 a y n v4 v5 v6] w (xJ N p (.pointer (some ⟨c,0,none⟩)) lv w sv fv (zF E 50 a s)):=by
 obtain⟨w1,hw1,h1,hx1,ho1,t1⟩:=zS h 50 a y n v4 v5 v6;obtain⟨ma,mk,hm⟩:=h1.env.mems;unfold zO;obtain⟨B,hB⟩:∃B,B=w.heap.size:=⟨_,rfl⟩
 obtain⟨k0,k1,k2,k3,z2,z3'⟩:=h1.t.c;obtain⟨x0,x1,x2,x3,x4,x5,x6⟩:=hx1.c
 have e0:zF E 50 a s=(zK 127 s).bind λq=>.ok (zN [126] q.2):=by unfold zF;rw[if_pos hm0,if_pos hle];rfl
 generalize zF E 50 a s=X at e0 ⊢;have hHY:=λw=>zh (qB (show(0:Int)<(E.mems:Int) by omega) w);have hBy:=λw=>zh (qR 50 w);generalize qA 50=bv at hle hBy;have hld:decide (a<=bv)=true:=decide_eq_true hle;replace e0:=zh e0;clear hm0;have hB2:∀w,Calls Tryz.prog 121 #[.int .i64 50] w λe w'=>e=.returned (.int .i64 bv)/\w'=w:=λw=>(hBy w).out.mono λ_ _ q=>⟨q.1,q.2.symm⟩
 have hW2:∀w,Calls Tryz.prog 49 #[.bool true,.int .i64 60] w λe w'=>e=.returned (.tuple #[])/\w'=w:=λw=>(zJ 60 w).mono λ_ _ q=>⟨q.1,q.2.symm⟩
 clear hBy;go_enter Tryz.func101,Tryz.ntmps101
 go_upto_region 1 with(fail)
 rw[<-hw1];rw[<-hB]at x0 x1 x2 x3 x4 x5 x6 hx1 ho1 ⊢;clear hw1 hB;go_wp2_with fail;refine((hHY _).out).mono ?_;rintro e w' ⟨rfl,rfl⟩;go_wp2_with fail
 go_quiet (first |(go_at_call 121;exact Calls.quiet_of_same (hB2 _)) |(go_at_call 49;exact Calls.quiet_of_same (hW2 _)))
 have h2:=h1.step (zB nq);have d2:Tw p sv fv sv fv w1 (w1.drewN nq):=.of_below (zB nq);have t2:=t1.trans d2;have hx2:=hx1.tw ho1 d2;have ho2:=(ho1.tw d2).1;obtain⟨w2,hw2⟩:∃w2,w2=w1.drewN nq:=⟨_,rfl⟩
 rw[<-hw2]at h2 t2 d2 hx2 ho2 ⊢;clear hw2 h1 d2 t1 hx1 ho1 hm hB2 hW2 k0 k1 k2 k3 z2 z3' x0 x1 x2 x3 x4 x5 x6;obtain⟨x0,x1,x2,x3,x4,x5,x6⟩:=hx2.c;cases hq:zK 127 s with
 |error m=>replace e0:=zh (e0.out.trans (by rw[hq];rfl:_=Except.error m));have hc:=qN h2.t h.wf (.inr ⟨.inr rfl,rfl⟩) hq;clear hq;go_wp2_with fail;refine hc.mono ?_;rintro e wz ⟨rfl,svz,fvz,tz⟩;go_wp2;exact⟨rfl,by rw[e0.out];exact⟨rfl,svz,fvz,t2.trans tz⟩⟩
 |ok q=>replace e0:=zh (e0.out.trans (by rw[hq];rfl:_=Except.ok (zN [126] q.2)));have hc:=qH h2.t h.wf (.inr ⟨.inr rfl,rfl⟩) hq;have hwq:=(qO h.wf hq).1;have hle2:=zR hq;clear hq;go_wp2_with fail;refine hc.mono ?_;rintro e w3 ⟨rfl,sv3,h3,d3⟩;have t3:=t2.trans d3;have hx3:=hx2.tw ho2 d3;have ho3:=(ho2.tw d3).1;clear x0 x1 x2 x3 x4 x5 x6;obtain⟨x0,x1,x2,x3,x4,x5,x6⟩:=hx3.c;have hpu:=vS h3 (t:=126) (v:=126) rfl (by omega);go_wp2_with fail;refine hpu.mono ?_;rintro e w4 ⟨rfl,sv4,h4,d4⟩;go_wp2;go_end0;rw[e0.out];exact⟨rfl,sv4,h4,t3.trans d4⟩
theorem memory_51(h:Cx w0 N p c lv E w sv fv s)(a y n:Int)(v4 v5 v6:Value)(hm0:0<E.mems)(hle:a<=qA 51)(hb:s.st.length+1<=1099511627776):Calls Tryz.prog 101 #[.pointer (some ⟨p,0,none⟩),zO 51 a y n v4 v5 v6] w (xJ N p (.pointer (some ⟨c,0,none⟩)) lv w sv fv (zF E 51 a s)):=by
 obtain⟨w1,hw1,h1,hx1,ho1,t1⟩:=zS h 51 a y n v4 v5 v6;obtain⟨ma,mk,hm⟩:=h1.env.mems;unfold zO;obtain⟨B,hB⟩:∃B,B=w.heap.size:=⟨_,rfl⟩
 obtain⟨k0,k1,k2,k3,z2,z3'⟩:=h1.t.c;obtain⟨x0,x1,x2,x3,x4,x5,x6⟩:=hx1.c
 have e0:zF E 51 a s=(zK 127 s).bind λq=>.ok (zN [126] q.2):=by unfold zF;rw[if_pos hm0,if_pos hle];rfl
 generalize zF E 51 a s=X at e0 ⊢;have hHY:=λw=>zh (qB (show(0:Int)<(E.mems:Int) by omega) w);have hBy:=λw=>zh (qR 51 w);generalize qA 51=bv at hle hBy;have hld:decide (a<=bv)=true:=decide_eq_true hle;replace e0:=zh e0;clear hm0;have hB2:∀w,Calls Tryz.prog 121 #[.int .i64 51] w λe w'=>e=.returned (.int .i64 bv)/\w'=w:=λw=>(hBy w).out.mono λ_ _ q=>⟨q.1,q.2.symm⟩
 have hW2:∀w,Calls Tryz.prog 49 #[.bool true,.int .i64 60] w λe w'=>e=.returned (.tuple #[])/\w'=w:=λw=>(zJ 60 w).mono λ_ _ q=>⟨q.1,q.2.symm⟩
 clear hBy;go_enter Tryz.func101,Tryz.ntmps101
 go_upto_region 1 with(fail)
 rw[<-hw1];rw[<-hB]at x0 x1 x2 x3 x4 x5 x6 hx1 ho1 ⊢;clear hw1 hB;go_wp2_with fail;refine((hHY _).out).mono ?_;rintro e w' ⟨rfl,rfl⟩;go_wp2_with fail
 go_quiet (first |(go_at_call 121;exact Calls.quiet_of_same (hB2 _)) |(go_at_call 49;exact Calls.quiet_of_same (hW2 _)))
 have h2:=h1.step (zB nq);have d2:Tw p sv fv sv fv w1 (w1.drewN nq):=.of_below (zB nq);have t2:=t1.trans d2;have hx2:=hx1.tw ho1 d2;have ho2:=(ho1.tw d2).1;obtain⟨w2,hw2⟩:∃w2,w2=w1.drewN nq:=⟨_,rfl⟩
 rw[<-hw2]at h2 t2 d2 hx2 ho2 ⊢;clear hw2 h1 d2 t1 hx1 ho1 hm hB2 hW2 k0 k1 k2 k3 z2 z3' x0 x1 x2 x3 x4 x5 x6;obtain⟨x0,x1,x2,x3,x4,x5,x6⟩:=hx2.c;cases hq:zK 127 s with
 |error m=>replace e0:=zh (e0.out.trans (by rw[hq];rfl:_=Except.error m));have hc:=qN h2.t h.wf (.inr ⟨.inr rfl,rfl⟩) hq;clear hq;go_wp2_with fail;refine hc.mono ?_;rintro e wz ⟨rfl,svz,fvz,tz⟩;go_wp2;exact⟨rfl,by rw[e0.out];exact⟨rfl,svz,fvz,t2.trans tz⟩⟩
 |ok q=>replace e0:=zh (e0.out.trans (by rw[hq];rfl:_=Except.ok (zN [126] q.2)));have hc:=qH h2.t h.wf (.inr ⟨.inr rfl,rfl⟩) hq;have hwq:=(qO h.wf hq).1;have hle2:=zR hq;clear hq;go_wp2_with fail;refine hc.mono ?_;rintro e w3 ⟨rfl,sv3,h3,d3⟩;have t3:=t2.trans d3;have hx3:=hx2.tw ho2 d3;have ho3:=(ho2.tw d3).1;clear x0 x1 x2 x3 x4 x5 x6;obtain⟨x0,x1,x2,x3,x4,x5,x6⟩:=hx3.c;have hpu:=vS h3 (t:=126) (v:=126) rfl (by omega);go_wp2_with fail;refine hpu.mono ?_;rintro e w4 ⟨rfl,sv4,h4,d4⟩;go_wp2;go_end0;rw[e0.out];exact⟨rfl,sv4,h4,t3.trans d4⟩
theorem memory_52(h:Cx w0 N p c lv E w sv fv s)(a y n:Int)(v4 v5 v6:Value)(hm0:0<E.mems)(hle:a<=qA 52)(hb:s.st.length+1<=1099511627776):Calls Tryz.prog 101 #[.pointer (some ⟨p,0,none⟩),zO 52 a y n v4 v5 v6] w (xJ N p (.pointer (some ⟨c,0,none⟩)) lv w sv fv (zF E 52 a s)):=by
 obtain⟨w1,hw1,h1,hx1,ho1,t1⟩:=zS h 52 a y n v4 v5 v6;obtain⟨ma,mk,hm⟩:=h1.env.mems;unfold zO;obtain⟨B,hB⟩:∃B,B=w.heap.size:=⟨_,rfl⟩
 obtain⟨k0,k1,k2,k3,z2,z3'⟩:=h1.t.c;obtain⟨x0,x1,x2,x3,x4,x5,x6⟩:=hx1.c
 have e0:zF E 52 a s=(zK 127 s).bind λq=>.ok (zN [126] q.2):=by unfold zF;rw[if_pos hm0,if_pos hle];rfl
 generalize zF E 52 a s=X at e0 ⊢;have hHY:=λw=>zh (qB (show(0:Int)<(E.mems:Int) by omega) w);have hBy:=λw=>zh (qR 52 w);generalize qA 52=bv at hle hBy;have hld:decide (a<=bv)=true:=decide_eq_true hle;replace e0:=zh e0;clear hm0;have hB2:∀w,Calls Tryz.prog 121 #[.int .i64 52] w λe w'=>e=.returned (.int .i64 bv)/\w'=w:=λw=>(hBy w).out.mono λ_ _ q=>⟨q.1,q.2.symm⟩
 have hW2:∀w,Calls Tryz.prog 49 #[.bool true,.int .i64 60] w λe w'=>e=.returned (.tuple #[])/\w'=w:=λw=>(zJ 60 w).mono λ_ _ q=>⟨q.1,q.2.symm⟩
 clear hBy;go_enter Tryz.func101,Tryz.ntmps101
 go_upto_region 1 with(fail)
 rw[<-hw1];rw[<-hB]at x0 x1 x2 x3 x4 x5 x6 hx1 ho1 ⊢;clear hw1 hB;go_wp2_with fail;refine((hHY _).out).mono ?_;rintro e w' ⟨rfl,rfl⟩;go_wp2_with fail
 go_quiet (first |(go_at_call 121;exact Calls.quiet_of_same (hB2 _)) |(go_at_call 49;exact Calls.quiet_of_same (hW2 _)))
 have h2:=h1.step (zB nq);have d2:Tw p sv fv sv fv w1 (w1.drewN nq):=.of_below (zB nq);have t2:=t1.trans d2;have hx2:=hx1.tw ho1 d2;have ho2:=(ho1.tw d2).1;obtain⟨w2,hw2⟩:∃w2,w2=w1.drewN nq:=⟨_,rfl⟩
 rw[<-hw2]at h2 t2 d2 hx2 ho2 ⊢;clear hw2 h1 d2 t1 hx1 ho1 hm hB2 hW2 k0 k1 k2 k3 z2 z3' x0 x1 x2 x3 x4 x5 x6;obtain⟨x0,x1,x2,x3,x4,x5,x6⟩:=hx2.c;cases hq:zK 127 s with
 |error m=>replace e0:=zh (e0.out.trans (by rw[hq];rfl:_=Except.error m));have hc:=qN h2.t h.wf (.inr ⟨.inr rfl,rfl⟩) hq;clear hq;go_wp2_with fail;refine hc.mono ?_;rintro e wz ⟨rfl,svz,fvz,tz⟩;go_wp2;exact⟨rfl,by rw[e0.out];exact⟨rfl,svz,fvz,t2.trans tz⟩⟩
 |ok q=>replace e0:=zh (e0.out.trans (by rw[hq];rfl:_=Except.ok (zN [126] q.2)));have hc:=qH h2.t h.wf (.inr ⟨.inr rfl,rfl⟩) hq;have hwq:=(qO h.wf hq).1;have hle2:=zR hq;clear hq;go_wp2_with fail;refine hc.mono ?_;rintro e w3 ⟨rfl,sv3,h3,d3⟩;have t3:=t2.trans d3;have hx3:=hx2.tw ho2 d3;have ho3:=(ho2.tw d3).1;clear x0 x1 x2 x3 x4 x5 x6;obtain⟨x0,x1,x2,x3,x4,x5,x6⟩:=hx3.c;have hpu:=vS h3 (t:=126) (v:=126) rfl (by omega);go_wp2_with fail;refine hpu.mono ?_;rintro e w4 ⟨rfl,sv4,h4,d4⟩;go_wp2;go_end0;rw[e0.out];exact⟨rfl,sv4,h4,t3.trans d4⟩
theorem memory_53(h:Cx w0 N p c lv E w sv fv s)(a y n:Int)(v4 v5 v6:Value)(hm0:0<E.mems)(hle:a<=qA 53)(hb:s.st.length+1<=1099511627776):Calls Tryz.prog 101 #[.pointer (some ⟨p,0,none⟩),zO 53 a y n v4 v5 v6] w (xJ N p (.pointer (some ⟨c,0,none⟩)) lv w sv fv (zF E 53 a s)):=by
 obtain⟨w1,hw1,h1,hx1,ho1,t1⟩:=zS h 53 a y n v4 v5 v6;obtain⟨ma,mk,hm⟩:=h1.env.mems;unfold zO;obtain⟨B,hB⟩:∃B,B=w.heap.size:=⟨_,rfl⟩
 obtain⟨k0,k1,k2,k3,z2,z3'⟩:=h1.t.c;obtain⟨x0,x1,x2,x3,x4,x5,x6⟩:=hx1.c
 have e0:zF E 53 a s=(zK 127 s).bind λq=>.ok (zN [126] q.2):=by unfold zF;rw[if_pos hm0,if_pos hle];rfl
 generalize zF E 53 a s=X at e0 ⊢;have hHY:=λw=>zh (qB (show(0:Int)<(E.mems:Int) by omega) w);have hBy:=λw=>zh (qR 53 w);generalize qA 53=bv at hle hBy;have hld:decide (a<=bv)=true:=decide_eq_true hle;replace e0:=zh e0;clear hm0;have hB2:∀w,Calls Tryz.prog 121 #[.int .i64 53] w λe w'=>e=.returned (.int .i64 bv)/\w'=w:=λw=>(hBy w).out.mono λ_ _ q=>⟨q.1,q.2.symm⟩
 have hW2:∀w,Calls Tryz.prog 49 #[.bool true,.int .i64 60] w λe w'=>e=.returned (.tuple #[])/\w'=w:=λw=>(zJ 60 w).mono λ_ _ q=>⟨q.1,q.2.symm⟩
 clear hBy;go_enter Tryz.func101,Tryz.ntmps101
 go_upto_region 1 with(fail)
 rw[<-hw1];rw[<-hB]at x0 x1 x2 x3 x4 x5 x6 hx1 ho1 ⊢;clear hw1 hB;go_wp2_with fail;refine((hHY _).out).mono ?_;rintro e w' ⟨rfl,rfl⟩;go_wp2_with fail
 go_quiet (first |(go_at_call 121;exact Calls.quiet_of_same (hB2 _)) |(go_at_call 49;exact Calls.quiet_of_same (hW2 _)))
 have h2:=h1.step (zB nq);have d2:Tw p sv fv sv fv w1 (w1.drewN nq):=.of_below (zB nq);have t2:=t1.trans d2;have hx2:=hx1.tw ho1 d2;have ho2:=(ho1.tw d2).1;obtain⟨w2,hw2⟩:∃w2,w2=w1.drewN nq:=⟨_,rfl⟩
 rw[<-hw2]at h2 t2 d2 hx2 ho2 ⊢;clear hw2 h1 d2 t1 hx1 ho1 hm hB2 hW2 k0 k1 k2 k3 z2 z3' x0 x1 x2 x3 x4 x5 x6;obtain⟨x0,x1,x2,x3,x4,x5,x6⟩:=hx2.c;cases hq:zK 127 s with
 |error m=>replace e0:=zh (e0.out.trans (by rw[hq];rfl:_=Except.error m));have hc:=qN h2.t h.wf (.inr ⟨.inr rfl,rfl⟩) hq;clear hq;go_wp2_with fail;refine hc.mono ?_;rintro e wz ⟨rfl,svz,fvz,tz⟩;go_wp2;exact⟨rfl,by rw[e0.out];exact⟨rfl,svz,fvz,t2.trans tz⟩⟩
 |ok q=>replace e0:=zh (e0.out.trans (by rw[hq];rfl:_=Except.ok (zN [126] q.2)));have hc:=qH h2.t h.wf (.inr ⟨.inr rfl,rfl⟩) hq;have hwq:=(qO h.wf hq).1;have hle2:=zR hq;clear hq;go_wp2_with fail;refine hc.mono ?_;rintro e w3 ⟨rfl,sv3,h3,d3⟩;have t3:=t2.trans d3;have hx3:=hx2.tw ho2 d3;have ho3:=(ho2.tw d3).1;clear x0 x1 x2 x3 x4 x5 x6;obtain⟨x0,x1,x2,x3,x4,x5,x6⟩:=hx3.c;have hpu:=vS h3 (t:=126) (v:=126) rfl (by omega);go_wp2_with fail;refine hpu.mono ?_;rintro e w4 ⟨rfl,sv4,h4,d4⟩;go_wp2;go_end0;rw[e0.out];exact⟨rfl,sv4,h4,t3.trans d4⟩
theorem memory_54(h:Cx w0 N p c lv E w sv fv s)(a y n:Int)(v4 v5 v6:Value)(hm0:0<E.mems)(hle:a<=qA 54)(hb:s.st.length+1<=1099511627776):Calls Tryz.prog 101 #[.pointer (some ⟨p,0,none⟩),zO 54 a y n v4 v5 v6] w (xJ N p (.pointer (some ⟨c,0,none⟩)) lv w sv fv (zF E 54 a s)):=by
 obtain⟨w1,hw1,h1,hx1,ho1,t1⟩:=zS h 54 a y n v4 v5 v6;obtain⟨ma,mk,hm⟩:=h1.env.mems;unfold zO;obtain⟨B,hB⟩:∃B,B=w.heap.size:=⟨_,rfl⟩
 obtain⟨k0,k1,k2,k3,z2,z3'⟩:=h1.t.c;obtain⟨x0,x1,x2,x3,x4,x5,x6⟩:=hx1.c
 have e0:zF E 54 a s=(zK 127 s).bind λq=>(zK 127 q.2).bind λr=>.ok r.2:=by
  unfold zF;rw[if_pos hm0,if_pos hle]
  show((zK 127 s).bind λq=>.ok q.2).bind _=_;cases zK 127 s<;>rfl
 generalize zF E 54 a s=X at e0 ⊢;have hHY:=λw=>zh (qB (show(0:Int)<(E.mems:Int) by omega) w);have hBy:=λw=>zh (qR 54 w);generalize qA 54=bv at hle hBy;have hld:decide (a<=bv)=true:=decide_eq_true hle;replace e0:=zh e0;clear hm0;have hB2:∀w,Calls Tryz.prog 121 #[.int .i64 54] w λe w'=>e=.returned (.int .i64 bv)/\w'=w:=λw=>(hBy w).out.mono λ_ _ q=>⟨q.1,q.2.symm⟩
 have hW2:∀w,Calls Tryz.prog 49 #[.bool true,.int .i64 60] w λe w'=>e=.returned (.tuple #[])/\w'=w:=λw=>(zJ 60 w).mono λ_ _ q=>⟨q.1,q.2.symm⟩
 clear hBy;go_enter Tryz.func101,Tryz.ntmps101
 go_upto_region 1 with(fail)
 rw[<-hw1];rw[<-hB]at x0 x1 x2 x3 x4 x5 x6 hx1 ho1 ⊢;clear hw1 hB;go_wp2_with fail;refine((hHY _).out).mono ?_;rintro e w' ⟨rfl,rfl⟩;go_wp2_with fail
 go_quiet (first |(go_at_call 121;exact Calls.quiet_of_same (hB2 _)) |(go_at_call 49;exact Calls.quiet_of_same (hW2 _)))
 have h2:=h1.step (zB nq);have d2:Tw p sv fv sv fv w1 (w1.drewN nq):=.of_below (zB nq);have t2:=t1.trans d2;have hx2:=hx1.tw ho1 d2;have ho2:=(ho1.tw d2).1;obtain⟨w2,hw2⟩:∃w2,w2=w1.drewN nq:=⟨_,rfl⟩
 rw[<-hw2]at h2 t2 d2 hx2 ho2 ⊢;clear hw2 h1 d2 t1 hx1 ho1 hm hB2 hW2 k0 k1 k2 k3 z2 z3' x0 x1 x2 x3 x4 x5 x6;obtain⟨x0,x1,x2,x3,x4,x5,x6⟩:=hx2.c;cases hq:zK 127 s with
 |error m=>replace e0:=zh (e0.out.trans (by rw[hq];rfl:_=Except.error m));have hc:=qN h2.t h.wf (.inr ⟨.inr rfl,rfl⟩) hq;clear hq;go_wp2_with fail;refine hc.mono ?_;rintro e wz ⟨rfl,svz,fvz,tz⟩;go_wp2;exact⟨rfl,by rw[e0.out];exact⟨rfl,svz,fvz,t2.trans tz⟩⟩
 |ok q=>
   replace e0:=zh (e0.out.trans (by rw[hq];rfl:_=(zK 127 q.2).bind λr=>.ok r.2));have hc:=qH h2.t h.wf (.inr ⟨.inr rfl,rfl⟩) hq;have hwq:=(qO h.wf hq).1;have hle2:=zR hq;clear hq;go_wp2_with fail;refine hc.mono ?_;rintro e w3 ⟨rfl,sv3,h3,d3⟩;have t3:=t2.trans d3;have hx3:=hx2.tw ho2 d3;have ho3:=(ho2.tw d3).1;clear x0 x1 x2 x3 x4 x5 x6;obtain⟨x0,x1,x2,x3,x4,x5,x6⟩:=hx3.c;cases hq:zK 127 q.2 with
   |error m=>replace e0:=zh (e0.out.trans (by rw[hq];rfl:_=Except.error m));have hc:=qN h3 hwq (.inr ⟨.inr rfl,rfl⟩) hq;clear hq;go_wp2_with fail;refine hc.mono ?_;rintro e wz ⟨rfl,svz,fvz,tz⟩;go_wp2;exact⟨rfl,by rw[e0.out];exact⟨rfl,svz,fvz,t3.trans tz⟩⟩
   |ok r=>replace e0:=zh (e0.out.trans (by rw[hq];rfl:_=Except.ok r.2));have hc:=qH h3 hwq (.inr ⟨.inr rfl,rfl⟩) hq;clear hq;go_wp2_with fail;refine hc.mono ?_;rintro e w4 ⟨rfl,sv4,h4,d4⟩;have hx4:=hx3.tw ho3 d4;clear x0 x1 x2 x3 x4 x5 x6;obtain⟨x0,x1,x2,x3,x4,x5,x6⟩:=hx4.c;go_wp2;go_end0;rw[e0.out];exact⟨rfl,sv4,h4,t3.trans d4⟩
theorem memory_55(h:Cx w0 N p c lv E w sv fv s)(a y n:Int)(v4 v5 v6:Value)(hm0:0<E.mems)(hle:a<=qA 55)(hb:s.st.length+1<=1099511627776):Calls Tryz.prog 101 #[.pointer (some ⟨p,0,none⟩),zO 55 a y n v4 v5 v6] w (xJ N p (.pointer (some ⟨c,0,none⟩)) lv w sv fv (zF E 55 a s)):=by
 obtain⟨w1,hw1,h1,hx1,ho1,t1⟩:=zS h 55 a y n v4 v5 v6;obtain⟨ma,mk,hm⟩:=h1.env.mems;unfold zO;obtain⟨B,hB⟩:∃B,B=w.heap.size:=⟨_,rfl⟩
 obtain⟨k0,k1,k2,k3,z2,z3'⟩:=h1.t.c;obtain⟨x0,x1,x2,x3,x4,x5,x6⟩:=hx1.c
 have e0:zF E 55 a s=(zK 126 s).bind λq=>(zK 127 q.2).bind λr=>.ok r.2:=by
  unfold zF;rw[if_pos hm0,if_pos hle]
  show((zK 126 s).bind λq=>.ok q.2).bind _=_;cases zK 126 s<;>rfl
 generalize zF E 55 a s=X at e0 ⊢;have hHY:=λw=>zh (qB (show(0:Int)<(E.mems:Int) by omega) w);have hBy:=λw=>zh (qR 55 w);generalize qA 55=bv at hle hBy;have hld:decide (a<=bv)=true:=decide_eq_true hle;replace e0:=zh e0;clear hm0;have hB2:∀w,Calls Tryz.prog 121 #[.int .i64 55] w λe w'=>e=.returned (.int .i64 bv)/\w'=w:=λw=>(hBy w).out.mono λ_ _ q=>⟨q.1,q.2.symm⟩
 have hW2:∀w,Calls Tryz.prog 49 #[.bool true,.int .i64 60] w λe w'=>e=.returned (.tuple #[])/\w'=w:=λw=>(zJ 60 w).mono λ_ _ q=>⟨q.1,q.2.symm⟩
 clear hBy;go_enter Tryz.func101,Tryz.ntmps101
 go_upto_region 1 with(fail)
 rw[<-hw1];rw[<-hB]at x0 x1 x2 x3 x4 x5 x6 hx1 ho1 ⊢;clear hw1 hB;go_wp2_with fail;refine((hHY _).out).mono ?_;rintro e w' ⟨rfl,rfl⟩;go_wp2_with fail
 go_quiet (first |(go_at_call 121;exact Calls.quiet_of_same (hB2 _)) |(go_at_call 49;exact Calls.quiet_of_same (hW2 _)))
 have h2:=h1.step (zB nq);have d2:Tw p sv fv sv fv w1 (w1.drewN nq):=.of_below (zB nq);have t2:=t1.trans d2;have hx2:=hx1.tw ho1 d2;have ho2:=(ho1.tw d2).1;obtain⟨w2,hw2⟩:∃w2,w2=w1.drewN nq:=⟨_,rfl⟩
 rw[<-hw2]at h2 t2 d2 hx2 ho2 ⊢;clear hw2 h1 d2 t1 hx1 ho1 hm hB2 hW2 k0 k1 k2 k3 z2 z3' x0 x1 x2 x3 x4 x5 x6;obtain⟨x0,x1,x2,x3,x4,x5,x6⟩:=hx2.c;cases hq:zK 126 s with
 |error m=>replace e0:=zh (e0.out.trans (by rw[hq];rfl:_=Except.error m));have hc:=qN h2.t h.wf (.inr ⟨.inl rfl,rfl⟩) hq;clear hq;go_wp2_with fail;refine hc.mono ?_;rintro e wz ⟨rfl,svz,fvz,tz⟩;go_wp2;exact⟨rfl,by rw[e0.out];exact⟨rfl,svz,fvz,t2.trans tz⟩⟩
 |ok q=>
   replace e0:=zh (e0.out.trans (by rw[hq];rfl:_=(zK 127 q.2).bind λr=>.ok r.2));have hc:=qH h2.t h.wf (.inr ⟨.inl rfl,rfl⟩) hq;have hwq:=(qO h.wf hq).1;have hle2:=zR hq;clear hq;go_wp2_with fail;refine hc.mono ?_;rintro e w3 ⟨rfl,sv3,h3,d3⟩;have t3:=t2.trans d3;have hx3:=hx2.tw ho2 d3;have ho3:=(ho2.tw d3).1;clear x0 x1 x2 x3 x4 x5 x6;obtain⟨x0,x1,x2,x3,x4,x5,x6⟩:=hx3.c;cases hq:zK 127 q.2 with
   |error m=>replace e0:=zh (e0.out.trans (by rw[hq];rfl:_=Except.error m));have hc:=qN h3 hwq (.inr ⟨.inr rfl,rfl⟩) hq;clear hq;go_wp2_with fail;refine hc.mono ?_;rintro e wz ⟨rfl,svz,fvz,tz⟩;go_wp2;exact⟨rfl,by rw[e0.out];exact⟨rfl,svz,fvz,t3.trans tz⟩⟩
   |ok r=>replace e0:=zh (e0.out.trans (by rw[hq];rfl:_=Except.ok r.2));have hc:=qH h3 hwq (.inr ⟨.inr rfl,rfl⟩) hq;clear hq;go_wp2_with fail;refine hc.mono ?_;rintro e w4 ⟨rfl,sv4,h4,d4⟩;have hx4:=hx3.tw ho3 d4;clear x0 x1 x2 x3 x4 x5 x6;obtain⟨x0,x1,x2,x3,x4,x5,x6⟩:=hx4.c;go_wp2;go_end0;rw[e0.out];exact⟨rfl,sv4,h4,t3.trans d4⟩
theorem memory_58(h:Cx w0 N p c lv E w sv fv s)(a y n:Int)(v4 v5 v6:Value)(hm0:0<E.mems)(hle:a<=qA 58)(hb:s.st.length+1<=1099511627776):Calls Tryz.prog 101 #[.pointer (some ⟨p,0,none⟩),zO 58 a y n v4 v5 v6] w (xJ N p (.pointer (some ⟨c,0,none⟩)) lv w sv fv (zF E 58 a s)):=by
 obtain⟨w1,hw1,h1,hx1,ho1,t1⟩:=zS h 58 a y n v4 v5 v6;obtain⟨ma,mk,hm⟩:=h1.env.mems;unfold zO;obtain⟨B,hB⟩:∃B,B=w.heap.size:=⟨_,rfl⟩
 obtain⟨k0,k1,k2,k3,z2,z3'⟩:=h1.t.c;obtain⟨x0,x1,x2,x3,x4,x5,x6⟩:=hx1.c
 have e0:zF E 58 a s=(zK 127 s).bind λq=>(zK 127 q.2).bind λr=>.ok r.2:=by
  unfold zF;rw[if_pos hm0,if_pos hle]
  show((zK 127 s).bind λq=>.ok q.2).bind _=_;cases zK 127 s<;>rfl
 generalize zF E 58 a s=X at e0 ⊢;have hHY:=λw=>zh (qB (show(0:Int)<(E.mems:Int) by omega) w);have hBy:=λw=>zh (qR 58 w);generalize qA 58=bv at hle hBy;have hld:decide (a<=bv)=true:=decide_eq_true hle;replace e0:=zh e0;clear hm0;have hB2:∀w,Calls Tryz.prog 121 #[.int .i64 58] w λe w'=>e=.returned (.int .i64 bv)/\w'=w:=λw=>(hBy w).out.mono λ_ _ q=>⟨q.1,q.2.symm⟩
 have hW2:∀w,Calls Tryz.prog 49 #[.bool true,.int .i64 60] w λe w'=>e=.returned (.tuple #[])/\w'=w:=λw=>(zJ 60 w).mono λ_ _ q=>⟨q.1,q.2.symm⟩
 clear hBy;go_enter Tryz.func101,Tryz.ntmps101
 go_upto_region 1 with(fail)
 rw[<-hw1];rw[<-hB]at x0 x1 x2 x3 x4 x5 x6 hx1 ho1 ⊢;clear hw1 hB;go_wp2_with fail;refine((hHY _).out).mono ?_;rintro e w' ⟨rfl,rfl⟩;go_wp2_with fail
 go_quiet (first |(go_at_call 121;exact Calls.quiet_of_same (hB2 _)) |(go_at_call 49;exact Calls.quiet_of_same (hW2 _)))
 have h2:=h1.step (zB nq);have d2:Tw p sv fv sv fv w1 (w1.drewN nq):=.of_below (zB nq);have t2:=t1.trans d2;have hx2:=hx1.tw ho1 d2;have ho2:=(ho1.tw d2).1;obtain⟨w2,hw2⟩:∃w2,w2=w1.drewN nq:=⟨_,rfl⟩
 rw[<-hw2]at h2 t2 d2 hx2 ho2 ⊢;clear hw2 h1 d2 t1 hx1 ho1 hm hB2 hW2 k0 k1 k2 k3 z2 z3' x0 x1 x2 x3 x4 x5 x6;obtain⟨x0,x1,x2,x3,x4,x5,x6⟩:=hx2.c;cases hq:zK 127 s with
 |error m=>replace e0:=zh (e0.out.trans (by rw[hq];rfl:_=Except.error m));have hc:=qN h2.t h.wf (.inr ⟨.inr rfl,rfl⟩) hq;clear hq;go_wp2_with fail;refine hc.mono ?_;rintro e wz ⟨rfl,svz,fvz,tz⟩;go_wp2;exact⟨rfl,by rw[e0.out];exact⟨rfl,svz,fvz,t2.trans tz⟩⟩
 |ok q=>
   replace e0:=zh (e0.out.trans (by rw[hq];rfl:_=(zK 127 q.2).bind λr=>.ok r.2));have hc:=qH h2.t h.wf (.inr ⟨.inr rfl,rfl⟩) hq;have hwq:=(qO h.wf hq).1;have hle2:=zR hq;clear hq;go_wp2_with fail;refine hc.mono ?_;rintro e w3 ⟨rfl,sv3,h3,d3⟩;have t3:=t2.trans d3;have hx3:=hx2.tw ho2 d3;have ho3:=(ho2.tw d3).1;clear x0 x1 x2 x3 x4 x5 x6;obtain⟨x0,x1,x2,x3,x4,x5,x6⟩:=hx3.c;cases hq:zK 127 q.2 with
   |error m=>replace e0:=zh (e0.out.trans (by rw[hq];rfl:_=Except.error m));have hc:=qN h3 hwq (.inr ⟨.inr rfl,rfl⟩) hq;clear hq;go_wp2_with fail;refine hc.mono ?_;rintro e wz ⟨rfl,svz,fvz,tz⟩;go_wp2;exact⟨rfl,by rw[e0.out];exact⟨rfl,svz,fvz,t3.trans tz⟩⟩
   |ok r=>replace e0:=zh (e0.out.trans (by rw[hq];rfl:_=Except.ok r.2));have hc:=qH h3 hwq (.inr ⟨.inr rfl,rfl⟩) hq;clear hq;go_wp2_with fail;refine hc.mono ?_;rintro e w4 ⟨rfl,sv4,h4,d4⟩;have hx4:=hx3.tw ho3 d4;clear x0 x1 x2 x3 x4 x5 x6;obtain⟨x0,x1,x2,x3,x4,x5,x6⟩:=hx4.c;go_wp2;go_end0;rw[e0.out];exact⟨rfl,sv4,h4,t3.trans d4⟩
theorem memory_59(h:Cx w0 N p c lv E w sv fv s)(a y n:Int)(v4 v5 v6:Value)(hm0:0<E.mems)(hle:a<=qA 59)(hb:s.st.length+1<=1099511627776):Calls Tryz.prog 101 #[.pointer (some ⟨p,0,none⟩),zO 59 a y n v4 v5 v6] w (xJ N p (.pointer (some ⟨c,0,none⟩)) lv w sv fv (zF E 59 a s)):=by
 obtain⟨w1,hw1,h1,hx1,ho1,t1⟩:=zS h 59 a y n v4 v5 v6;obtain⟨ma,mk,hm⟩:=h1.env.mems;unfold zO;obtain⟨B,hB⟩:∃B,B=w.heap.size:=⟨_,rfl⟩
 obtain⟨k0,k1,k2,k3,z2,z3'⟩:=h1.t.c;obtain⟨x0,x1,x2,x3,x4,x5,x6⟩:=hx1.c
 have e0:zF E 59 a s=(zK 127 s).bind λq=>(zK 127 q.2).bind λr=>.ok r.2:=by
  unfold zF;rw[if_pos hm0,if_pos hle]
  show((zK 127 s).bind λq=>.ok q.2).bind _=_;cases zK 127 s<;>rfl
 generalize zF E 59 a s=X at e0 ⊢;have hHY:=λw=>zh (qB (show(0:Int)<(E.mems:Int) by omega) w);have hBy:=λw=>zh (qR 59 w);generalize qA 59=bv at hle hBy;have hld:decide (a<=bv)=true:=decide_eq_true hle;replace e0:=zh e0;clear hm0;have hB2:∀w,Calls Tryz.prog 121 #[.int .i64 59] w λe w'=>e=.returned (.int .i64 bv)/\w'=w:=λw=>(hBy w).out.mono λ_ _ q=>⟨q.1,q.2.symm⟩
 have hW2:∀w,Calls Tryz.prog 49 #[.bool true,.int .i64 60] w λe w'=>e=.returned (.tuple #[])/\w'=w:=λw=>(zJ 60 w).mono λ_ _ q=>⟨q.1,q.2.symm⟩
 clear hBy;go_enter Tryz.func101,Tryz.ntmps101
 go_upto_region 1 with(fail)
 rw[<-hw1];rw[<-hB]at x0 x1 x2 x3 x4 x5 x6 hx1 ho1 ⊢;clear hw1 hB;go_wp2_with fail;refine((hHY _).out).mono ?_;rintro e w' ⟨rfl,rfl⟩;go_wp2_with fail
 go_quiet (first |(go_at_call 121;exact Calls.quiet_of_same (hB2 _)) |(go_at_call 49;exact Calls.quiet_of_same (hW2 _)))
 have h2:=h1.step (zB nq);have d2:Tw p sv fv sv fv w1 (w1.drewN nq):=.of_below (zB nq);have t2:=t1.trans d2;have hx2:=hx1.tw ho1 d2;have ho2:=(ho1.tw d2).1;obtain⟨w2,hw2⟩:∃w2,w2=w1.drewN nq:=⟨_,rfl⟩
 rw[<-hw2]at h2 t2 d2 hx2 ho2 ⊢;clear hw2 h1 d2 t1 hx1 ho1 hm hB2 hW2 k0 k1 k2 k3 z2 z3' x0 x1 x2 x3 x4 x5 x6;obtain⟨x0,x1,x2,x3,x4,x5,x6⟩:=hx2.c;cases hq:zK 127 s with
 |error m=>replace e0:=zh (e0.out.trans (by rw[hq];rfl:_=Except.error m));have hc:=qN h2.t h.wf (.inr ⟨.inr rfl,rfl⟩) hq;clear hq;go_wp2_with fail;refine hc.mono ?_;rintro e wz ⟨rfl,svz,fvz,tz⟩;go_wp2;exact⟨rfl,by rw[e0.out];exact⟨rfl,svz,fvz,t2.trans tz⟩⟩
 |ok q=>
   replace e0:=zh (e0.out.trans (by rw[hq];rfl:_=(zK 127 q.2).bind λr=>.ok r.2));have hc:=qH h2.t h.wf (.inr ⟨.inr rfl,rfl⟩) hq;have hwq:=(qO h.wf hq).1;have hle2:=zR hq;clear hq;go_wp2_with fail;refine hc.mono ?_;rintro e w3 ⟨rfl,sv3,h3,d3⟩;have t3:=t2.trans d3;have hx3:=hx2.tw ho2 d3;have ho3:=(ho2.tw d3).1;clear x0 x1 x2 x3 x4 x5 x6;obtain⟨x0,x1,x2,x3,x4,x5,x6⟩:=hx3.c;cases hq:zK 127 q.2 with
   |error m=>replace e0:=zh (e0.out.trans (by rw[hq];rfl:_=Except.error m));have hc:=qN h3 hwq (.inr ⟨.inr rfl,rfl⟩) hq;clear hq;go_wp2_with fail;refine hc.mono ?_;rintro e wz ⟨rfl,svz,fvz,tz⟩;go_wp2;exact⟨rfl,by rw[e0.out];exact⟨rfl,svz,fvz,t3.trans tz⟩⟩
   |ok r=>replace e0:=zh (e0.out.trans (by rw[hq];rfl:_=Except.ok r.2));have hc:=qH h3 hwq (.inr ⟨.inr rfl,rfl⟩) hq;clear hq;go_wp2_with fail;refine hc.mono ?_;rintro e w4 ⟨rfl,sv4,h4,d4⟩;have hx4:=hx3.tw ho3 d4;clear x0 x1 x2 x3 x4 x5 x6;obtain⟨x0,x1,x2,x3,x4,x5,x6⟩:=hx4.c;go_wp2;go_end0;rw[e0.out];exact⟨rfl,sv4,h4,t3.trans d4⟩
theorem memory_60(h:Cx w0 N p c lv E w sv fv s)(a y n:Int)(v4 v5 v6:Value)(hm0:0<E.mems)(hle:a<=qA 60)(hb:s.st.length+1<=1099511627776):Calls Tryz.prog 101 #[.pointer (some ⟨p,0,none⟩),zO 60 a y n v4 v5 v6] w (xJ N p (.pointer (some ⟨c,0,none⟩)) lv w sv fv (zF E 60 a s)):=by
 obtain⟨w1,hw1,h1,hx1,ho1,t1⟩:=zS h 60 a y n v4 v5 v6;obtain⟨ma,mk,hm⟩:=h1.env.mems;unfold zO;obtain⟨B,hB⟩:∃B,B=w.heap.size:=⟨_,rfl⟩
 obtain⟨k0,k1,k2,k3,z2,z3'⟩:=h1.t.c;obtain⟨x0,x1,x2,x3,x4,x5,x6⟩:=hx1.c
 have e0:zF E 60 a s=(zK 126 s).bind λq=>(zK 127 q.2).bind λr=>.ok r.2:=by
  unfold zF;rw[if_pos hm0,if_pos hle]
  show((zK 126 s).bind λq=>.ok q.2).bind _=_;cases zK 126 s<;>rfl
 generalize zF E 60 a s=X at e0 ⊢;have hHY:=λw=>zh (qB (show(0:Int)<(E.mems:Int) by omega) w);have hBy:=λw=>zh (qR 60 w);generalize qA 60=bv at hle hBy;have hld:decide (a<=bv)=true:=decide_eq_true hle;replace e0:=zh e0;clear hm0;have hB2:∀w,Calls Tryz.prog 121 #[.int .i64 60] w λe w'=>e=.returned (.int .i64 bv)/\w'=w:=λw=>(hBy w).out.mono λ_ _ q=>⟨q.1,q.2.symm⟩
 have hW2:∀w,Calls Tryz.prog 49 #[.bool true,.int .i64 60] w λe w'=>e=.returned (.tuple #[])/\w'=w:=λw=>(zJ 60 w).mono λ_ _ q=>⟨q.1,q.2.symm⟩
 clear hBy;go_enter Tryz.func101,Tryz.ntmps101
 go_upto_region 1 with(fail)
 rw[<-hw1];rw[<-hB]at x0 x1 x2 x3 x4 x5 x6 hx1 ho1 ⊢;clear hw1 hB;go_wp2_with fail;refine((hHY _).out).mono ?_;rintro e w' ⟨rfl,rfl⟩;go_wp2_with fail
 go_quiet (first |(go_at_call 121;exact Calls.quiet_of_same (hB2 _)) |(go_at_call 49;exact Calls.quiet_of_same (hW2 _)))
 have h2:=h1.step (zB nq);have d2:Tw p sv fv sv fv w1 (w1.drewN nq):=.of_below (zB nq);have t2:=t1.trans d2;have hx2:=hx1.tw ho1 d2;have ho2:=(ho1.tw d2).1;obtain⟨w2,hw2⟩:∃w2,w2=w1.drewN nq:=⟨_,rfl⟩
 rw[<-hw2]at h2 t2 d2 hx2 ho2 ⊢;clear hw2 h1 d2 t1 hx1 ho1 hm hB2 hW2 k0 k1 k2 k3 z2 z3' x0 x1 x2 x3 x4 x5 x6;obtain⟨x0,x1,x2,x3,x4,x5,x6⟩:=hx2.c;cases hq:zK 126 s with
 |error m=>replace e0:=zh (e0.out.trans (by rw[hq];rfl:_=Except.error m));have hc:=qN h2.t h.wf (.inr ⟨.inl rfl,rfl⟩) hq;clear hq;go_wp2_with fail;refine hc.mono ?_;rintro e wz ⟨rfl,svz,fvz,tz⟩;go_wp2;exact⟨rfl,by rw[e0.out];exact⟨rfl,svz,fvz,t2.trans tz⟩⟩
 |ok q=>
   replace e0:=zh (e0.out.trans (by rw[hq];rfl:_=(zK 127 q.2).bind λr=>.ok r.2));have hc:=qH h2.t h.wf (.inr ⟨.inl rfl,rfl⟩) hq;have hwq:=(qO h.wf hq).1;have hle2:=zR hq;clear hq;go_wp2_with fail;refine hc.mono ?_;rintro e w3 ⟨rfl,sv3,h3,d3⟩;have t3:=t2.trans d3;have hx3:=hx2.tw ho2 d3;have ho3:=(ho2.tw d3).1;clear x0 x1 x2 x3 x4 x5 x6;obtain⟨x0,x1,x2,x3,x4,x5,x6⟩:=hx3.c;cases hq:zK 127 q.2 with
   |error m=>replace e0:=zh (e0.out.trans (by rw[hq];rfl:_=Except.error m));have hc:=qN h3 hwq (.inr ⟨.inr rfl,rfl⟩) hq;clear hq;go_wp2_with fail;refine hc.mono ?_;rintro e wz ⟨rfl,svz,fvz,tz⟩;go_wp2;exact⟨rfl,by rw[e0.out];exact⟨rfl,svz,fvz,t3.trans tz⟩⟩
   |ok r=>replace e0:=zh (e0.out.trans (by rw[hq];rfl:_=Except.ok r.2));have hc:=qH h3 hwq (.inr ⟨.inr rfl,rfl⟩) hq;clear hq;go_wp2_with fail;refine hc.mono ?_;rintro e w4 ⟨rfl,sv4,h4,d4⟩;have hx4:=hx3.tw ho3 d4;clear x0 x1 x2 x3 x4 x5 x6;obtain⟨x0,x1,x2,x3,x4,x5,x6⟩:=hx4.c;go_wp2;go_end0;rw[e0.out];exact⟨rfl,sv4,h4,t3.trans d4⟩
theorem memory_61(h:Cx w0 N p c lv E w sv fv s)(a y n:Int)(v4 v5 v6:Value)(hm0:0<E.mems)(hle:a<=qA 61)(hb:s.st.length+1<=1099511627776):Calls Tryz.prog 101 #[.pointer (some ⟨p,0,none⟩),zO 61 a y n v4 v5 v6] w (xJ N p (.pointer (some ⟨c,0,none⟩)) lv w sv fv (zF E 61 a s)):=by
 obtain⟨w1,hw1,h1,hx1,ho1,t1⟩:=zS h 61 a y n v4 v5 v6;obtain⟨ma,mk,hm⟩:=h1.env.mems;unfold zO;obtain⟨B,hB⟩:∃B,B=w.heap.size:=⟨_,rfl⟩
 obtain⟨k0,k1,k2,k3,z2,z3'⟩:=h1.t.c;obtain⟨x0,x1,x2,x3,x4,x5,x6⟩:=hx1.c
 have e0:zF E 61 a s=(zK 126 s).bind λq=>(zK 127 q.2).bind λr=>.ok r.2:=by
  unfold zF;rw[if_pos hm0,if_pos hle]
  show((zK 126 s).bind λq=>.ok q.2).bind _=_;cases zK 126 s<;>rfl
 generalize zF E 61 a s=X at e0 ⊢;have hHY:=λw=>zh (qB (show(0:Int)<(E.mems:Int) by omega) w);have hBy:=λw=>zh (qR 61 w);generalize qA 61=bv at hle hBy;have hld:decide (a<=bv)=true:=decide_eq_true hle;replace e0:=zh e0;clear hm0;have hB2:∀w,Calls Tryz.prog 121 #[.int .i64 61] w λe w'=>e=.returned (.int .i64 bv)/\w'=w:=λw=>(hBy w).out.mono λ_ _ q=>⟨q.1,q.2.symm⟩
 have hW2:∀w,Calls Tryz.prog 49 #[.bool true,.int .i64 60] w λe w'=>e=.returned (.tuple #[])/\w'=w:=λw=>(zJ 60 w).mono λ_ _ q=>⟨q.1,q.2.symm⟩
 clear hBy;go_enter Tryz.func101,Tryz.ntmps101
 go_upto_region 1 with(fail)
 rw[<-hw1];rw[<-hB]at x0 x1 x2 x3 x4 x5 x6 hx1 ho1 ⊢;clear hw1 hB;go_wp2_with fail;refine((hHY _).out).mono ?_;rintro e w' ⟨rfl,rfl⟩;go_wp2_with fail
 go_quiet (first |(go_at_call 121;exact Calls.quiet_of_same (hB2 _)) |(go_at_call 49;exact Calls.quiet_of_same (hW2 _)))
 have h2:=h1.step (zB nq);have d2:Tw p sv fv sv fv w1 (w1.drewN nq):=.of_below (zB nq);have t2:=t1.trans d2;have hx2:=hx1.tw ho1 d2;have ho2:=(ho1.tw d2).1;obtain⟨w2,hw2⟩:∃w2,w2=w1.drewN nq:=⟨_,rfl⟩
 rw[<-hw2]at h2 t2 d2 hx2 ho2 ⊢;clear hw2 h1 d2 t1 hx1 ho1 hm hB2 hW2 k0 k1 k2 k3 z2 z3' x0 x1 x2 x3 x4 x5 x6;obtain⟨x0,x1,x2,x3,x4,x5,x6⟩:=hx2.c;cases hq:zK 126 s with
 |error m=>replace e0:=zh (e0.out.trans (by rw[hq];rfl:_=Except.error m));have hc:=qN h2.t h.wf (.inr ⟨.inl rfl,rfl⟩) hq;clear hq;go_wp2_with fail;refine hc.mono ?_;rintro e wz ⟨rfl,svz,fvz,tz⟩;go_wp2;exact⟨rfl,by rw[e0.out];exact⟨rfl,svz,fvz,t2.trans tz⟩⟩
 |ok q=>
   replace e0:=zh (e0.out.trans (by rw[hq];rfl:_=(zK 127 q.2).bind λr=>.ok r.2));have hc:=qH h2.t h.wf (.inr ⟨.inl rfl,rfl⟩) hq;have hwq:=(qO h.wf hq).1;have hle2:=zR hq;clear hq;go_wp2_with fail;refine hc.mono ?_;rintro e w3 ⟨rfl,sv3,h3,d3⟩;have t3:=t2.trans d3;have hx3:=hx2.tw ho2 d3;have ho3:=(ho2.tw d3).1;clear x0 x1 x2 x3 x4 x5 x6;obtain⟨x0,x1,x2,x3,x4,x5,x6⟩:=hx3.c;cases hq:zK 127 q.2 with
   |error m=>replace e0:=zh (e0.out.trans (by rw[hq];rfl:_=Except.error m));have hc:=qN h3 hwq (.inr ⟨.inr rfl,rfl⟩) hq;clear hq;go_wp2_with fail;refine hc.mono ?_;rintro e wz ⟨rfl,svz,fvz,tz⟩;go_wp2;exact⟨rfl,by rw[e0.out];exact⟨rfl,svz,fvz,t3.trans tz⟩⟩
   |ok r=>replace e0:=zh (e0.out.trans (by rw[hq];rfl:_=Except.ok r.2));have hc:=qH h3 hwq (.inr ⟨.inr rfl,rfl⟩) hq;clear hq;go_wp2_with fail;refine hc.mono ?_;rintro e w4 ⟨rfl,sv4,h4,d4⟩;have hx4:=hx3.tw ho3 d4;clear x0 x1 x2 x3 x4 x5 x6;obtain⟨x0,x1,x2,x3,x4,x5,x6⟩:=hx4.c;go_wp2;go_end0;rw[e0.out];exact⟨rfl,sv4,h4,t3.trans d4⟩
theorem memory_62(h:Cx w0 N p c lv E w sv fv s)(a y n:Int)(v4 v5 v6:Value)(hm0:0<E.mems)(hle:a<=qA 62)(hb:s.st.length+1<=1099511627776):Calls Tryz.prog 101 #[.pointer (some ⟨p,0,none⟩),zO 62 a y n v4 v5 v6] w (xJ N p (.pointer (some ⟨c,0,none⟩)) lv w sv fv (zF E 62 a s)):=by
 obtain⟨w1,hw1,h1,hx1,ho1,t1⟩:=zS h 62 a y n v4 v5 v6;obtain⟨ma,mk,hm⟩:=h1.env.mems;unfold zO;obtain⟨B,hB⟩:∃B,B=w.heap.size:=⟨_,rfl⟩
 obtain⟨k0,k1,k2,k3,z2,z3'⟩:=h1.t.c;obtain⟨x0,x1,x2,x3,x4,x5,x6⟩:=hx1.c
 have e0:zF E 62 a s=(zK 126 s).bind λq=>(zK 127 q.2).bind λr=>.ok r.2:=by
  unfold zF;rw[if_pos hm0,if_pos hle]
  show((zK 126 s).bind λq=>.ok q.2).bind _=_;cases zK 126 s<;>rfl
 generalize zF E 62 a s=X at e0 ⊢;have hHY:=λw=>zh (qB (show(0:Int)<(E.mems:Int) by omega) w);have hBy:=λw=>zh (qR 62 w);generalize qA 62=bv at hle hBy;have hld:decide (a<=bv)=true:=decide_eq_true hle;replace e0:=zh e0;clear hm0;have hB2:∀w,Calls Tryz.prog 121 #[.int .i64 62] w λe w'=>e=.returned (.int .i64 bv)/\w'=w:=λw=>(hBy w).out.mono λ_ _ q=>⟨q.1,q.2.symm⟩
 have hW2:∀w,Calls Tryz.prog 49 #[.bool true,.int .i64 60] w λe w'=>e=.returned (.tuple #[])/\w'=w:=λw=>(zJ 60 w).mono λ_ _ q=>⟨q.1,q.2.symm⟩
 clear hBy;go_enter Tryz.func101,Tryz.ntmps101
 go_upto_region 1 with(fail)
 rw[<-hw1];rw[<-hB]at x0 x1 x2 x3 x4 x5 x6 hx1 ho1 ⊢;clear hw1 hB;go_wp2_with fail;refine((hHY _).out).mono ?_;rintro e w' ⟨rfl,rfl⟩;go_wp2_with fail
 go_quiet (first |(go_at_call 121;exact Calls.quiet_of_same (hB2 _)) |(go_at_call 49;exact Calls.quiet_of_same (hW2 _)))
 have h2:=h1.step (zB nq);have d2:Tw p sv fv sv fv w1 (w1.drewN nq):=.of_below (zB nq);have t2:=t1.trans d2;have hx2:=hx1.tw ho1 d2;have ho2:=(ho1.tw d2).1;obtain⟨w2,hw2⟩:∃w2,w2=w1.drewN nq:=⟨_,rfl⟩
 rw[<-hw2]at h2 t2 d2 hx2 ho2 ⊢;clear hw2 h1 d2 t1 hx1 ho1 hm hB2 hW2 k0 k1 k2 k3 z2 z3' x0 x1 x2 x3 x4 x5 x6;obtain⟨x0,x1,x2,x3,x4,x5,x6⟩:=hx2.c;cases hq:zK 126 s with
 |error m=>replace e0:=zh (e0.out.trans (by rw[hq];rfl:_=Except.error m));have hc:=qN h2.t h.wf (.inr ⟨.inl rfl,rfl⟩) hq;clear hq;go_wp2_with fail;refine hc.mono ?_;rintro e wz ⟨rfl,svz,fvz,tz⟩;go_wp2;exact⟨rfl,by rw[e0.out];exact⟨rfl,svz,fvz,t2.trans tz⟩⟩
 |ok q=>
   replace e0:=zh (e0.out.trans (by rw[hq];rfl:_=(zK 127 q.2).bind λr=>.ok r.2));have hc:=qH h2.t h.wf (.inr ⟨.inl rfl,rfl⟩) hq;have hwq:=(qO h.wf hq).1;have hle2:=zR hq;clear hq;go_wp2_with fail;refine hc.mono ?_;rintro e w3 ⟨rfl,sv3,h3,d3⟩;have t3:=t2.trans d3;have hx3:=hx2.tw ho2 d3;have ho3:=(ho2.tw d3).1;clear x0 x1 x2 x3 x4 x5 x6;obtain⟨x0,x1,x2,x3,x4,x5,x6⟩:=hx3.c;cases hq:zK 127 q.2 with
   |error m=>replace e0:=zh (e0.out.trans (by rw[hq];rfl:_=Except.error m));have hc:=qN h3 hwq (.inr ⟨.inr rfl,rfl⟩) hq;clear hq;go_wp2_with fail;refine hc.mono ?_;rintro e wz ⟨rfl,svz,fvz,tz⟩;go_wp2;exact⟨rfl,by rw[e0.out];exact⟨rfl,svz,fvz,t3.trans tz⟩⟩
   |ok r=>replace e0:=zh (e0.out.trans (by rw[hq];rfl:_=Except.ok r.2));have hc:=qH h3 hwq (.inr ⟨.inr rfl,rfl⟩) hq;clear hq;go_wp2_with fail;refine hc.mono ?_;rintro e w4 ⟨rfl,sv4,h4,d4⟩;have hx4:=hx3.tw ho3 d4;clear x0 x1 x2 x3 x4 x5 x6;obtain⟨x0,x1,x2,x3,x4,x5,x6⟩:=hx4.c;go_wp2;go_end0;rw[e0.out];exact⟨rfl,sv4,h4,t3.trans d4⟩
theorem memory_any(h:Cx w0 N p c lv E w sv fv s)(op a y n:Int)(v4 v5 v6:Value)(ho:40<=op/\op<=62/\op≠42/\op≠43/\op≠56/\op≠57)(hb:s.st.length+1<=1099511627776):Calls Tryz.prog 101 #[.pointer (some ⟨p,0,none⟩),zO op a y n v4 v5 v6] w (xJ N p (.pointer (some ⟨c,0,none⟩)) lv w sv fv (zF E op a s)):=by
 by_cases hm0:0<E.mems
 . by_cases hle:a<=qA op
   . rcases op8 ho with rfl |rfl |rfl |rfl |rfl |rfl |rfl |rfl |rfl |rfl |rfl |rfl |rfl |rfl |rfl |rfl |rfl |rfl |rfl
     . exact memory_40 h a y n v4 v5 v6 hm0 hle hb
     . exact memory_41 h a y n v4 v5 v6 hm0 hle hb
     . exact memory_44 h a y n v4 v5 v6 hm0 hle hb
     . exact memory_45 h a y n v4 v5 v6 hm0 hle hb
     . exact memory_46 h a y n v4 v5 v6 hm0 hle hb
     . exact memory_47 h a y n v4 v5 v6 hm0 hle hb
     . exact memory_48 h a y n v4 v5 v6 hm0 hle hb
     . exact memory_49 h a y n v4 v5 v6 hm0 hle hb
     . exact memory_50 h a y n v4 v5 v6 hm0 hle hb
     . exact memory_51 h a y n v4 v5 v6 hm0 hle hb
     . exact memory_52 h a y n v4 v5 v6 hm0 hle hb
     . exact memory_53 h a y n v4 v5 v6 hm0 hle hb
     . exact memory_54 h a y n v4 v5 v6 hm0 hle hb
     . exact memory_55 h a y n v4 v5 v6 hm0 hle hb
     . exact memory_58 h a y n v4 v5 v6 hm0 hle hb
     . exact memory_59 h a y n v4 v5 v6 hm0 hle hb
     . exact memory_60 h a y n v4 v5 v6 hm0 hle hb
     . exact memory_61 h a y n v4 v5 v6 hm0 hle hb
     . exact memory_62 h a y n v4 v5 v6 hm0 hle hb
   . have e:zF E op a s=.error 60:=(by unfold zF;rw[if_pos hm0,if_neg hle])
     rw[e];exact memory_60e h op a y n v4 v5 v6 hm0 hle
 . have e:zF E op a s=.error 61:=(by unfold zF;rw[if_neg hm0])
   rw[e];exact memory_61e h op a y n v4 v5 v6 hm0
end
end Go.Proofs.YtacohbllbjgdgaaGreatDoor
