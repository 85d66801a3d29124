/- The typer: what has nothing. -/
import Derived.Test.YtacohbllbjgdgaaGreatDoorXf
set_option linter.all false
set_option maxRecDepth 100000
set_option maxHeartbeats 4000000
namespace Go.Proofs.YtacohbllbjgdgaaGreatDoor
open Go.RowKit
def zO (op a y n:Int) (v4 v5 v6:Value):Value:=.agg #[.int .i64 op,.int .i64 a,.int .i64 y,.int .i64 n,v4,v5,v6]
def insO (op a y n:Int) (v4 v5 v6:Value):Obj:=.cells #[.int .i64 op,.int .i64 a,.int .i64 y,.int .i64 n,v4,v5,v6] 49
theorem ins_c(w:World)(op a y n:Int)(v4 v5 v6:Value):(w.alloc (insO op a y n v4 v5 v6)).heap[w.heap.size]? =some (insO op a y n v4 v5 v6):=World.alloc_heap_new w _
structure Bx (w:World) (b:Nat) (op a y n:Int) (v4 v5 v6:Value):Prop where
 h:w.heap[b]? =some (insO op a y n v4 v5 v6)
theorem Bx.c{w:World}{b:Nat}{op a y n:Int}{v4 v5 v6:Value}(h:Bx w b op a y n v4 v5 v6):w.cell? ⟨b,0,none⟩=some (.int .i64 op)/\w.cell? ⟨b,1,none⟩=some (.int .i64 a)/\w.cell? ⟨b,2,none⟩=some (.int .i64 y)/\w.cell? ⟨b,3,none⟩=some (.int .i64 n)/\w.cell? ⟨b,4,none⟩=some v4/\w.cell? ⟨b,5,none⟩=some v5/\w.cell? ⟨b,6,none⟩=some v6:=by
 have:=h.h;unfold insO at this;refine⟨?_,?_,?_,?_,?_,?_,?_⟩;all_goals rw[cell_of_row w b _ _ _ _ this];rfl
theorem Bx.tw{w w':World}{p:Nat}{sv fv sv' fv':Value}{b:Nat}{op a y n:Int}{v4 v5 v6:Value}(h:Bx w b op a y n v4 v5 v6)(o:Off w p sv fv b)(t:Tw p sv fv sv' fv' w w'):Bx w' b op a y n v4 v5 v6:=⟨(o.tw t).2.trans h.h⟩
section
variable {w0:World} {N p c:Nat} {lv:Value} {E:Ev} {w:World} {sv fv:Value} {s:Ts}
theorem zS(h:Cx w0 N p c lv E w sv fv s)(op a y n:Int)(v4 v5 v6:Value):∃w1,w1=w.alloc (.cells #[.int .i64 op,.int .i64 a,.int .i64 y,.int .i64 n,v4,v5,v6] 49)/\Cx w0 N p c lv E w1 sv fv s/\Bx w1 w.heap.size op a y n v4 v5 v6/\Off w1 p sv fv w.heap.size/\Tw p sv fv sv fv w w1:=
 ⟨_,rfl,h.step (Below.of_alloc w _),⟨ins_c w op a y n v4 v5 v6⟩,h.t.off _,.of_below (Below.of_alloc w _)⟩
theorem ret_at{s:Ts}(hw:Wf s):∃f,s.fs[s.fs.length-1]? =some f/\tRet s=f.ends:=by
 obtain⟨f,r,e,_⟩:=hw.fs;have h1:s.fs.getLast? =s.fs[s.fs.length-1]? :=List.getLast?_eq_getElem? ..;have h2:s.fs.length-1<s.fs.length:=(by rw[e];simp)
 refine⟨s.fs[s.fs.length-1],List.getElem?_eq_getElem h2,?_⟩;unfold tRet;rw[h1,List.getElem?_eq_getElem h2]
theorem plain_0(h:Cx w0 N p c lv E w sv fv s)(a y n:Int)(v4 v5 v6:Value):Calls Tryz.prog 102 #[.pointer (some ⟨p,0,none⟩),zO 0 a y n v4 v5 v6] w (xJ N p (.pointer (some ⟨c,0,none⟩)) lv w sv fv (.ok (vC s))):=by
 obtain⟨w1,hw1,h1,hx,ho,t1⟩:=zS h 0 a y n v4 v5 v6;obtain⟨x0,x1,x2,x3,x4,x5,x6⟩:=hx.c;unfold zO;go_enter Tryz.func102,Tryz.ntmps102;go_wp2_with fail;refine(dies_any (hw1▸h1.t) h.wf).mono ?_;rintro e w2 ⟨rfl,sv2,h2,t2⟩;go_wp2;go_end0;exact⟨rfl,sv2,h2,t1.trans (hw1▸t2)⟩
theorem plain_15(h:Cx w0 N p c lv E w sv fv s)(a y n:Int)(v4 v5 v6:Value):Calls Tryz.prog 102 #[.pointer (some ⟨p,0,none⟩),zO 15 a y n v4 v5 v6] w (xJ N p (.pointer (some ⟨c,0,none⟩)) lv w sv fv ((qZ (tRet s) s).bind λs=>.ok (vC s))):=by
 obtain⟨w1,hw1,h1,hx,ho,t1⟩:=zS h 15 a y n v4 v5 v6;obtain⟨fl,hfl,hret⟩:=ret_at h.wf;obtain⟨g,cap,fa,hfv,hg,c0,c1,c2,c3,z3,l1,l2,hn,hm⟩:=h1.t.o.frame hfl;have e0:s.fs.length-1-(s.fs.length-1)=0:=(by omega)
 have hpos:0<s.fs.length:=(by have:=(List.getElem?_eq_some_iff.1 hfl).1;omega)
 rw[e0]at c1;have hty:=(h.wf.ty fl (List.mem_of_getElem? hfl)).2;obtain⟨k0,k1,k2,k3,z2,z3'⟩:=h1.t.c;rw[hfv]at k3;rw[hret];unfold zO;rw[hw1]at h1 l2 k3 c1 t1;clear hfl hret e0 c0 c2 c3 z3 l1 hw1 k0 k1 k2;cases hq:qZ fl.ends s with
 |error m=>have hc:=pops_er (lc:=fa.ec) h1.t h.wf l2 hty hq;clear hq;go_enter Tryz.func102,Tryz.ntmps102;go_wp2_with fail;refine hc.mono ?_;rintro e w2 ⟨rfl,sv2,fv2,t2⟩;go_wp2;exact⟨rfl,rfl,sv2,fv2,t1.trans t2⟩
 |ok u=>have hc:=pops_ok (lc:=fa.ec) h1.t h.wf l2 hty hq;have hu:=(tPopL_wf h.wf hq).1;clear hq;go_enter Tryz.func102,Tryz.ntmps102;go_wp2_with fail;refine hc.mono ?_;rintro e w2 ⟨rfl,sv2,h2,t2⟩;go_wp2_with fail;refine(dies_any h2 hu).mono ?_;rintro e w3 ⟨rfl,sv3,h3,t3⟩;go_wp2;go_end0;exact⟨rfl,sv3,h3,(t1.trans t2).trans t3⟩
theorem plain_26(h:Cx w0 N p c lv E w sv fv s)(a y n:Int)(v4 v5 v6:Value):Calls Tryz.prog 102 #[.pointer (some ⟨p,0,none⟩),zO 26 a y n v4 v5 v6] w (xJ N p (.pointer (some ⟨c,0,none⟩)) lv w sv fv ((zK 0 s).bind λq=>.ok q.2)):=by
 obtain⟨w1,hw1,h1,hx,ho,t1⟩:=zS h 26 a y n v4 v5 v6;unfold zO;rw[hw1]at h1 t1;clear hw1;cases hq:zK 0 s with
 |error m=>have hc:=qN h1.t h.wf (.inl ⟨rfl,rfl⟩) hq;clear hq;go_enter Tryz.func102,Tryz.ntmps102;go_wp2_with fail;refine hc.mono ?_;rintro e w2 ⟨rfl,sv2,fv2,t2⟩;go_wp2;exact⟨rfl,rfl,sv2,fv2,t1.trans t2⟩
 |ok q=>have hc:=qH h1.t h.wf (.inl ⟨rfl,rfl⟩) hq;clear hq;go_enter Tryz.func102,Tryz.ntmps102;go_wp2_with fail;refine hc.mono ?_;rintro e w2 ⟨rfl,sv2,h2,t2⟩;go_wp2;go_end0;exact⟨rfl,sv2,h2,t1.trans t2⟩
theorem plain_27(h:Cx w0 N p c lv E w sv fv s)(a y n:Int)(v4 v5 v6:Value)(hb:s.st.length+1<=1099511627776):Calls Tryz.prog 102 #[.pointer (some ⟨p,0,none⟩),zO 27 a y n v4 v5 v6] w (xJ N p (.pointer (some ⟨c,0,none⟩)) lv w sv fv (xZ E 27 s)):=by
 obtain⟨w1,hw1,h1,hx,ho,t1⟩:=zS h 27 a y n v4 v5 v6;unfold zO;rw[hw1]at h1 t1;clear hw1;have e0:xZ E 27 s=(zK 127 s).bind λq=>(zK 0 q.2).bind λa=>(zK 0 a.2).bind λb=>if a.1=b.1\/a.1=0\/b.1=0 then .ok (zN [if a.1=0 then b.1 else a.1] b.2)else .error 60:=rfl
 generalize xZ E 27 s=X at e0 ⊢;cases hq:zK 127 s with
 |error m=>rw[hq]at e0;have hc:=qN h1.t h.wf (.inr ⟨.inr rfl,rfl⟩) hq;clear hq;replace e0:=zh e0;go_enter Tryz.func102,Tryz.ntmps102;go_wp2_with fail;refine hc.mono ?_;rintro e w2 ⟨rfl,sv2,fv2,t2⟩;go_wp2;exact⟨rfl,by rw[e0.out];exact⟨rfl,sv2,fv2,t1.trans t2⟩⟩
 |ok q=>
   rw[hq]at e0;have hc:=qH h1.t h.wf (.inr ⟨.inr rfl,rfl⟩) hq;have l1:=zR hq;have wq:=(qO h.wf hq).1;clear hq;change X=(zK 0 q.2).bind _ at e0;cases hq2:zK 0 q.2 with
   |error m=>rw[hq2]at e0;replace e0:=zh e0;go_enter Tryz.func102,Tryz.ntmps102;go_wp2_with fail;refine hc.mono ?_;rintro e w2 ⟨rfl,sv2,h2,t2⟩;have hc2:=qN h2 wq (.inl ⟨rfl,rfl⟩) hq2;clear hq2;go_wp2_with fail;refine hc2.mono ?_;rintro e w3 ⟨rfl,sv3,fv3,t3⟩;go_wp2;exact⟨rfl,by rw[e0.out];exact⟨rfl,sv3,fv3,(t1.trans t2).trans t3⟩⟩
   |ok r=>
     rw[hq2]at e0;have l2:=zR hq2;obtain⟨wr,_,or⟩:=qO wq hq2;change X=(zK 0 r.2).bind _ at e0;cases hq3:zK 0 r.2 with
     |error m=>rw[hq3]at e0;replace e0:=zh e0;go_enter Tryz.func102,Tryz.ntmps102;go_wp2_with fail;refine hc.mono ?_;rintro e w2 ⟨rfl,sv2,h2,t2⟩;have hc2:=qH h2 wq (.inl ⟨rfl,rfl⟩) hq2;clear hq2;go_wp2_with fail;refine hc2.mono ?_;rintro e w3 ⟨rfl,sv3,h3,t3⟩;have hc3:=qN h3 wr (.inl ⟨rfl,rfl⟩) hq3;clear hq3;go_wp2_with fail;refine hc3.mono ?_;rintro e w4 ⟨rfl,sv4,fv4,t4⟩;go_wp2;exact⟨rfl,by rw[e0.out];exact⟨rfl,sv4,fv4,((t1.trans t2).trans t3).trans t4⟩⟩
     |ok z=>
       rw[hq3]at e0;have l3:=zR hq3;obtain⟨wz,_,oz⟩:=qO wr hq3;change X=(if r.1=z.1\/r.1=0\/z.1=0 then .ok (zN [if r.1=0 then z.1 else r.1] z.2)else .error 60)at e0;unfold ok01 at or oz
       by_cases hb1:r.1=z.1\/r.1=0\/z.1=0
       . rw[if_pos hb1]at e0;replace e0:=zh e0
         have y4:((jG 1 r.1==jG 1 z.1)=true/\(jG 1 r.1==1)=true)\/((jG 1 r.1==jG 1 z.1)=true/\(jG 1 r.1==1)=false)\/((jG 1 r.1==jG 1 z.1)=false/\(jG 1 r.1==1)=true)\/((jG 1 r.1==jG 1 z.1)=false/\(jG 1 r.1==1)=false/\(jG 1 z.1==1)=true):=by unfold jG;simp;omega
         have hen:jG 1 (if r.1=0 then z.1 else r.1)=if(jG 1 r.1==1)=true then jG 1 z.1 else jG 1 r.1:=by unfold jG;simp;split<;>omega
         replace hb1:=zh hb1;have hlen:z.2.st.length+1<=1099511627776:=(by omega)
         rcases y4 with⟨y1,y2⟩ |⟨y1,y2⟩ |⟨y1,y2⟩ |⟨y1,y2,y3⟩
         all_goals first |rw[if_pos y2]at hen |rw[if_neg (show¬(jG 1 r.1==1)=true by rw[y2];exact Bool.false_ne_true)]at hen
         all_goals replace hen:=zh hen.symm
         all_goals clear or oz
         all_goals(
          go_enter Tryz.func102,Tryz.ntmps102;go_wp2_with fail;refine hc.mono ?_;rintro e w2 ⟨rfl,sv2,h2,t2⟩;have hc2:=qH h2 wq (.inl ⟨rfl,rfl⟩) hq2;clear hq2;go_wp2_with fail;refine hc2.mono ?_;rintro e w3 ⟨rfl,sv3,h3,t3⟩;have hc3:=qH h3 wr (.inl ⟨rfl,rfl⟩) hq3;clear hq3;go_wp2_with fail;refine hc3.mono ?_;rintro e w4 ⟨rfl,sv4,h4,t4⟩;go_wp2_with fail;refine(zJ 60 _).mono ?_;rintro e w' ⟨rfl,rfl⟩;go_wp2_with fail;refine(vS h4 hen.out hlen).mono ?_;rintro e w5 ⟨rfl,sv5,h5,t5⟩;go_wp2;go_end0;rw[e0.out];exact⟨rfl,sv5,h5,(((t1.trans t2).trans t3).trans t4).trans t5⟩)
       . rw[if_neg hb1]at e0;replace e0:=zh e0;have y1:(jG 1 r.1==jG 1 z.1)=false:=(by unfold jG;simp;omega)
         have y2:(jG 1 r.1==1)=false:=(by unfold jG;simp;omega)
         have y3:(jG 1 z.1==1)=false:=(by unfold jG;simp;omega)
         clear hb1 or oz;go_enter Tryz.func102,Tryz.ntmps102;go_wp2_with fail;refine hc.mono ?_;rintro e w2 ⟨rfl,sv2,h2,t2⟩;have hc2:=qH h2 wq (.inl ⟨rfl,rfl⟩) hq2;clear hq2;go_wp2_with fail;refine hc2.mono ?_;rintro e w3 ⟨rfl,sv3,h3,t3⟩;have hc3:=qH h3 wr (.inl ⟨rfl,rfl⟩) hq3;clear hq3;go_wp2_with fail;refine hc3.mono ?_;rintro e w4 ⟨rfl,sv4,h4,t4⟩;go_wp2_with fail;refine(qG 60 _).mono ?_;rintro e w' ⟨rfl,rfl⟩;go_wp2;exact⟨rfl,by rw[e0.out];exact⟨rfl,sv4,fv,((t1.trans t2).trans t3).trans t4⟩⟩
theorem plain_63(h:Cx w0 N p c lv E w sv fv s)(a y n:Int)(v4 v5 v6:Value)(hb:s.st.length+1<=1099511627776):Calls Tryz.prog 102 #[.pointer (some ⟨p,0,none⟩),zO 63 a y n v4 v5 v6] w (xJ N p (.pointer (some ⟨c,0,none⟩)) lv w sv fv (xZ E 63 s)):=by
 obtain⟨w1,hw1,h1,hx,ho,t1⟩:=zS h 63 a y n v4 v5 v6;obtain⟨ma,mk,hm⟩:=h1.env.mems;obtain⟨k0,k1,k2,k3,z2,z3'⟩:=h1.t.c;unfold zO;obtain⟨x0,x1,x2,x3,x4,x5,x6⟩:=hx.c;clear k1 k2 k3 z2 z3';have e0:xZ E 63 s=if 0<E.mems then .ok (zN [127] s)else .error 61:=rfl
 generalize xZ E 63 s=X at e0 ⊢
 by_cases hm0:0<E.mems
 . rw[if_pos hm0]at e0;replace e0:=zh e0;have hm1:(0:Int)<(E.mems:Int):=(by omega)
   clear hm0;go_enter Tryz.func102,Tryz.ntmps102
   go_upto_region 1 with(fail)
   rw[<-hw1];clear hw1;go_wp2_with fail;refine(qB hm1 _).mono ?_;rintro e w2 ⟨rfl,rfl⟩;have hpu:=vS h1.t (t:=127) (v:=127) rfl hb;go_wp2_with fail;refine hpu.mono ?_;rintro e w5 ⟨rfl,sv5,h5,t5⟩;go_wp2;go_end0;rw[e0.out];exact⟨rfl,sv5,h5,t1.trans t5⟩
 . rw[if_neg hm0]at e0;replace e0:=zh e0;have hm1:¬(0:Int)<(E.mems:Int):=(by omega)
   have hHN:=λw=>zh (vA hm1 w);clear hm0 hm1;go_enter Tryz.func102,Tryz.ntmps102
   go_upto_region 1 with(fail)
   rw[<-hw1];clear hw1;go_wp2_with fail;refine(hHN _).out.mono ?_;rintro e w2 ⟨rfl,rfl⟩;go_wp2;exact⟨rfl,by rw[e0.out];exact⟨rfl,sv,fv,t1⟩⟩
theorem plain_64(h:Cx w0 N p c lv E w sv fv s)(a y n:Int)(v4 v5 v6:Value)(hb:s.st.length+1<=1099511627776):Calls Tryz.prog 102 #[.pointer (some ⟨p,0,none⟩),zO 64 a y n v4 v5 v6] w (xJ N p (.pointer (some ⟨c,0,none⟩)) lv w sv fv (xZ E 64 s)):=by
 obtain⟨w1,hw1,h1,hx,ho,t1⟩:=zS h 64 a y n v4 v5 v6;obtain⟨ma,mk,hm⟩:=h1.env.mems;obtain⟨k0,k1,k2,k3,z2,z3'⟩:=h1.t.c;unfold zO;rw[hw1]at h1 t1 k0 hm;clear hw1 k1 k2 k3 z2 z3';have e0:xZ E 64 s=if 0<E.mems then(zK 127 s).bind λq=>.ok (zN [127] q.2)else .error 61:=rfl
 generalize xZ E 64 s=X at e0 ⊢
 by_cases hm0:0<E.mems
 . rw[if_pos hm0]at e0;have hm1:(0:Int)<(E.mems:Int):=(by omega)
   clear hm0;cases hq:zK 127 s with
   |error m=>rw[hq]at e0;replace e0:=zh e0;have hc:=qN h1.t h.wf (.inr ⟨.inr rfl,rfl⟩) hq;clear hq;go_enter Tryz.func102,Tryz.ntmps102;go_wp2_with fail;refine(qB hm1 _).mono ?_;rintro e w2 ⟨rfl,rfl⟩;go_wp2_with fail;refine hc.mono ?_;rintro e w2 ⟨rfl,sv2,fv2,t2⟩;go_wp2;exact⟨rfl,by rw[e0.out];exact⟨rfl,sv2,fv2,t1.trans t2⟩⟩
   |ok q=>rw[hq]at e0;replace e0:=zh e0;have hc:=qH h1.t h.wf (.inr ⟨.inr rfl,rfl⟩) hq;have hlen:=zR hq;clear hq;go_enter Tryz.func102,Tryz.ntmps102;go_wp2_with fail;refine(qB hm1 _).mono ?_;rintro e w2 ⟨rfl,rfl⟩;go_wp2_with fail;refine hc.mono ?_;rintro e w2 ⟨rfl,sv2,h2,t2⟩;have hpu:=vS h2 (t:=127) (v:=127) rfl (by omega);go_wp2_with fail;refine hpu.mono ?_;rintro e w5 ⟨rfl,sv5,h5,t5⟩;go_wp2;go_end0;rw[e0.out];exact⟨rfl,sv5,h5,(t1.trans t2).trans t5⟩
 . rw[if_neg hm0]at e0;replace e0:=zh e0;have hm1:¬(0:Int)<(E.mems:Int):=(by omega)
   have hHN:=λw=>zh (vA hm1 w);clear hm0 hm1;go_enter Tryz.func102,Tryz.ntmps102;go_wp2_with fail;refine(hHN _).out.mono ?_;rintro e w2 ⟨rfl,rfl⟩;go_wp2;exact⟨rfl,by rw[e0.out];exact⟨rfl,sv,fv,t1⟩⟩
theorem plain_no(h:Cx w0 N p c lv E w sv fv s)(op a y n:Int)(v4 v5 v6:Value)(g0:op≠0)(g15:op≠15)(g26:op≠26)(g27:op≠27)(g63:op≠63)(g64:op≠64):Calls Tryz.prog 102 #[.pointer (some ⟨p,0,none⟩),zO op a y n v4 v5 v6] w (xJ N p (.pointer (some ⟨c,0,none⟩)) lv w sv fv (.ok s)):=by
 obtain⟨w1,hw1,h1,hx,ho,t1⟩:=zS h op a y n v4 v5 v6;unfold zO;rw[hw1]at h1 t1;clear hw1;have f0:(op==0)=false:=(by simp[g0])
 have f15:(op==15)=false:=(by simp[g15])
 have f26:(op==26)=false:=(by simp[g26])
 have f27:(op==27)=false:=(by simp[g27])
 have f63:(op==63)=false:=(by simp[g63])
 have f64:(op==64)=false:=(by simp[g64])
 go_enter Tryz.func102,Tryz.ntmps102;go_wp2;go_end0;exact⟨rfl,sv,h1.t,t1⟩
theorem plain_any(h:Cx w0 N p c lv E w sv fv s)(op a y n:Int)(v4 v5 v6:Value)(hb:s.st.length+1<=1099511627776):Calls Tryz.prog 102 #[.pointer (some ⟨p,0,none⟩),zO op a y n v4 v5 v6] w (xJ N p (.pointer (some ⟨c,0,none⟩)) lv w sv fv (xZ E op s)):=by
 by_cases g0:op=0
 . subst g0;exact plain_0 h a y n v4 v5 v6
 by_cases g15:op=15
 . subst g15;exact plain_15 h a y n v4 v5 v6
 by_cases g26:op=26
 . subst g26;exact plain_26 h a y n v4 v5 v6
 by_cases g27:op=27
 . subst g27;exact plain_27 h a y n v4 v5 v6 hb
 by_cases g63:op=63
 . subst g63;exact plain_63 h a y n v4 v5 v6 hb
 by_cases g64:op=64
 . subst g64;exact plain_64 h a y n v4 v5 v6 hb
 have e:xZ E op s=.ok s:=by unfold xZ;rw[if_neg g0,if_neg g15,if_neg g26,if_neg g27,if_neg g63,if_neg g64]
 rw[e];exact plain_no h op a y n v4 v5 v6 g0 g15 g26 g27 g63 g64
end
end Go.Proofs.YtacohbllbjgdgaaGreatDoor
