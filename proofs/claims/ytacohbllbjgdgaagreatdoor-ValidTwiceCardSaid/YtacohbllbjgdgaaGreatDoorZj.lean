/- The reference's checker of a body: an instruction that holds no others. -/
import Derived.Test.YtacohbllbjgdgaaGreatDoorZh
import Derived.Test.YtacohbllbjgdgaaGreatDoorZi
import Derived.Test.YtacohbllbjgdgaaGreatDoorZa
import Derived.Lib.MinMax
set_option linter.all false
set_option maxRecDepth 100000
set_option maxHeartbeats 4000000
namespace Go.Proofs.YtacohbllbjgdgaaGreatDoor
open Go.RowKit
section
variable {wa:World} {N p:Nat} {A:MA} {lv:Value} {m:Md} {E:Ev} {w w':World} {sv fv sv' fv':Value} {s u:Rs}
theorem endO.toS{M:M10}{x:Rs}{e:Ending}(h:endO N p M lv w sv fv x e w'):endS N p M lv w sv fv x e w':=by obtain⟨h1,sv',h2,h3⟩:=h;exact⟨h1,sv',fv,h2,h3⟩
theorem rret_at{s:Rs}(hw:RWf s):∃f,s.fs[s.fs.length-1]? =some f/\rRet s=f.ends:=by
 obtain⟨f,r,e⟩:=List.exists_cons_of_ne_nil hw.fs;have h1:s.fs.getLast? =s.fs[s.fs.length-1]? :=List.getLast?_eq_getElem? ..;have h2:s.fs.length-1<s.fs.length:=(by rw[e];simp)
 refine⟨s.fs[s.fs.length-1],List.getElem?_eq_getElem h2,?_⟩;unfold rRet;rw[h1,List.getElem?_eq_getElem h2]
theorem ri_0(h:Rx wa N p A lv m E w sv fv s)(a y n:Int)(v4 v5 v6:Value):Calls Tryz.prog 84 #[.pointer (some ⟨p,0,none⟩),zO 0 a y n v4 v5 v6] w (endO N p (A.v m) lv w sv fv (jP s)):=by
 obtain⟨w1,hw1,h1,hx1,ho1,t1⟩:=rbox h 0 a y n v4 v5 v6;unfold zO;obtain⟨B,hB⟩:∃B,B=w.heap.size:=⟨_,rfl⟩
 obtain⟨x0,x1,x2,x3,x4,x5,x6⟩:=hx1.c;go_enter Tryz.func84,Tryz.ntmps84
 go_upto_region 1 with(fail)
 rw[<-hw1];rw[<-hB]at x0 x1 x2 x3 x4 x5 x6 hx1 ho1 ⊢;clear hw1 hB;go_wp2_with fail;refine(rdead_any h1.t h1.wf).mono ?_;rintro e w2 ⟨rfl,sv2,h2,d2⟩;go_wp2;go_end0;exact⟨rfl,_,h2,t1.trans d2⟩
theorem ri_1(h:Rx wa N p A lv m E w sv fv s)(a y n:Int)(v4 v5 v6:Value):Calls Tryz.prog 84 #[.pointer (some ⟨p,0,none⟩),zO 1 a y n v4 v5 v6] w (endO N p (A.v m) lv w sv fv (s)):=by
 obtain⟨w1,hw1,h1,hx1,ho1,t1⟩:=rbox h 1 a y n v4 v5 v6;unfold zO;obtain⟨B,hB⟩:∃B,B=w.heap.size:=⟨_,rfl⟩
 obtain⟨x0,x1,x2,x3,x4,x5,x6⟩:=hx1.c;go_enter Tryz.func84,Tryz.ntmps84
 go_upto_region 1 with(fail)
 rw[<-hw1];rw[<-hB]at x0 x1 x2 x3 x4 x5 x6 hx1 ho1 ⊢;clear hw1 hB;go_wp2;go_end0;exact⟨rfl,_,h1.t,t1⟩
theorem ri_12(h:Rx wa N p A lv m E w sv fv s)(a y n:Int)(v4 v5 v6:Value):Calls Tryz.prog 84 #[.pointer (some ⟨p,0,none⟩),zO 12 a y n v4 v5 v6] w (endO N p (A.v m) lv w sv fv (if qT a s then jP (jC (qP a s) s)else zQ 61 s)):=by
 obtain⟨w1,hw1,h1,hx1,ho1,t1⟩:=rbox h 12 a y n v4 v5 v6;unfold zO;obtain⟨B,hB⟩:∃B,B=w.heap.size:=⟨_,rfl⟩
 obtain⟨x0,x1,x2,x3,x4,x5,x6⟩:=hx1.c;generalize hX:(if qT a s then jP (jC (qP a s) s)else zQ 61 s)=X;replace hX:=zh hX;go_enter Tryz.func84,Tryz.ntmps84
 go_upto_region 1 with(fail)
 rw[<-hw1];rw[<-hB]at x0 x1 x2 x3 x4 x5 x6 hx1 ho1 ⊢;clear hw1 hB;go_wp2_with fail;refine(rlabel_any h1.t a).mono ?_;rintro e w2 ⟨hh,d2⟩;have hx2:=hx1.tw ho1 d2;clear x0 x1 x2 x3 x4 x5 x6;obtain⟨x0,x1,x2,x3,x4,x5,x6⟩:=hx2.c
 by_cases hr:qT a s
 . rw[if_pos hr]at hh;have e1:Hid (X=_):=zh (hX.out.symm.trans (if_pos hr));obtain⟨⟨ga,gc,rfl,l⟩,h2⟩:=hh;have hc:=rpops_any (lc:=gc) h2 h1.wf l;have g:=yG h1.wf (qP a s);replace hr:=zh hr;go_wp2_with fail;refine hc.mono ?_;rintro e w3 ⟨rfl,sv3,h3,d3⟩;go_wp2_with fail;refine(rdead_any h3 g.wf).mono ?_;rintro e w4 ⟨rfl,sv4,h4,d4⟩;go_wp2;go_end0;rw[e1.out];exact⟨rfl,_,h4,((t1.trans d2).trans d3).trans d4⟩
 . rw[if_neg hr]at hh;have e1:Hid (X=_):=zh (hX.out.symm.trans (if_neg hr));obtain⟨rfl,h2⟩:=hh;replace hr:=zh hr;go_wp2;go_end0;rw[e1.out];exact⟨rfl,_,h2,t1.trans d2⟩
theorem ri_13(h:Rx wa N p A lv m E w sv fv s)(a y n:Int)(v4 v5 v6:Value)(hf:RRf s)(hb:Lh s):Calls Tryz.prog 84 #[.pointer (some ⟨p,0,none⟩),zO 13 a y n v4 v5 v6] w (endO N p (A.v m) lv w sv fv (if qT a s then zW (qP a s) (jC (qP a s) (zP 127 s).2)else zQ 61 s)):=by
 obtain⟨w1,hw1,h1,hx1,ho1,t1⟩:=rbox h 13 a y n v4 v5 v6;unfold zO;obtain⟨B,hB⟩:∃B,B=w.heap.size:=⟨_,rfl⟩
 obtain⟨x0,x1,x2,x3,x4,x5,x6⟩:=hx1.c;generalize hX:(if qT a s then zW (qP a s) (jC (qP a s) (zP 127 s).2)else zQ 61 s)=X;replace hX:=zh hX;go_enter Tryz.func84,Tryz.ntmps84
 go_upto_region 1 with(fail)
 rw[<-hw1];rw[<-hB]at x0 x1 x2 x3 x4 x5 x6 hx1 ho1 ⊢;clear hw1 hB;go_wp2_with fail;refine(rlabel_any h1.t a).mono ?_;rintro e w2 ⟨hh,d2⟩;have hx2:=hx1.tw ho1 d2;clear x0 x1 x2 x3 x4 x5 x6;obtain⟨x0,x1,x2,x3,x4,x5,x6⟩:=hx2.c
 by_cases hr:qT a s
 . rw[if_pos hr]at hh;have e1:Hid (X=_):=zh (hX.out.symm.trans (if_pos hr));obtain⟨⟨ga,gc,rfl,l⟩,h2⟩:=hh;have hp:=qL h2 h1.wf 127;have gp:=jA h1.wf 127;have hlen:=rLab_len hf a;replace hr:=zh hr;go_wp2_with fail;refine hp.mono ?_;rintro e w3 ⟨rfl,sv3,h3,d3⟩;have l3:=l.tw d3;have g:=yG gp.wf (qP a s);go_wp2_with fail;refine(rpops_any (lc:=gc) h3 gp.wf l3).mono ?_;rintro e w4 ⟨rfl,sv4,h4,d4⟩;go_wp2_with fail;refine(vZ (lc:=gc) h4 (l3.tw d4).1 ((g.lh (gp.lh hb)).l hlen)).mono ?_;rintro e w5 ⟨rfl,sv5,h5,d5⟩;go_wp2;go_end0;rw[e1.out];exact⟨rfl,_,h5,(((t1.trans d2).trans d3).trans d4).trans d5⟩
 . rw[if_neg hr]at hh;have e1:Hid (X=_):=zh (hX.out.symm.trans (if_neg hr));obtain⟨rfl,h2⟩:=hh;replace hr:=zh hr;go_wp2;go_end0;rw[e1.out];exact⟨rfl,_,h2,t1.trans d2⟩
theorem ri_14(h:Rx wa N p A lv m E w sv fv s)(a y n:Int){ls:List Int}{la:Option Addr}{lc:Nat}(hl:LiB w p sv fv la ls)(v5 v6:Value):Calls Tryz.prog 84 #[.pointer (some ⟨p,0,none⟩),zO 14 a y n (.slice la ls.length lc) v5 v6] w (endO N p (A.v m) lv w sv fv (rTable a ls s)):=by
 obtain⟨w1,hw1,h1,hx1,ho1,t1⟩:=rbox h 14 a y n (.slice la ls.length lc) v5 v6;unfold zO;obtain⟨B,hB⟩:∃B,B=w.heap.size:=⟨_,rfl⟩
 obtain⟨x0,x1,x2,x3,x4,x5,x6⟩:=hx1.c;have ht:=rtable_any h1 14 a y n (hl.tw t1) v5 v6 (lc:=lc);unfold zO at ht;go_enter Tryz.func84,Tryz.ntmps84
 go_upto_region 1 with(fail)
 rw[<-hw1];rw[<-hB]at x0 x1 x2 x3 x4 x5 x6 hx1 ho1 ⊢;clear hw1 hB;go_wp2_with fail;refine(ht).mono ?_;rintro e w2 ⟨rfl,sv2,h2,d2⟩;go_wp2;go_end0;exact⟨rfl,_,h2,t1.trans d2⟩
theorem ri_15(h:Rx wa N p A lv m E w sv fv s)(a y n:Int)(v4 v5 v6:Value):Calls Tryz.prog 84 #[.pointer (some ⟨p,0,none⟩),zO 15 a y n v4 v5 v6] w (endO N p (A.v m) lv w sv fv (jP (jC (rRet s) s))):=by
 obtain⟨w1,hw1,h1,hx1,ho1,t1⟩:=rbox h 15 a y n v4 v5 v6;unfold zO;obtain⟨B,hB⟩:∃B,B=w.heap.size:=⟨_,rfl⟩
 obtain⟨x0,x1,x2,x3,x4,x5,x6⟩:=hx1.c;obtain⟨fl,hfl,hret⟩:=rret_at h.wf;obtain⟨g0,cap,fa,hfv,hg,c0,c1,c2,c3,z3,l1,l2,hn,hm⟩:=h1.t.o.frame (n:=s.fs.length-1) (f:=fl) hfl;replace hfl:s.fs[s.fs.length-1]? =some fl:=hfl;have e0:s.fs.length-1-(s.fs.length-1)=0:=(by omega)
 have hpos:0<s.fs.length:=(by have:=(List.getElem?_eq_some_iff.1 hfl).1;omega)
 replace c1:w1.cell? ⟨g0,(s.fs.length-1-(s.fs.length-1))*4+1,none⟩=some (.slice fa.ea fl.ends.length fa.ec):=c1;rw[e0]at c1;simp only[Nat.zero_mul,Nat.zero_add]at c1;obtain⟨k0,k1,k2,k3,z1,z2,z3'⟩:=h1.t.c;rw[hfv]at k2;rw[hret];have hc:=rpops_any (lc:=fa.ec) h1.t h1.wf l2;have g:=yG h1.wf fl.ends;have i1:(0:Int)<(s.fs.length:Int):=(by omega)
 clear hfl hret e0 c0 c2 c3 z3 l1;go_enter Tryz.func84,Tryz.ntmps84
 go_upto_region 1 with(fail)
 rw[<-hw1];rw[<-hB]at x0 x1 x2 x3 x4 x5 x6 hx1 ho1 ⊢;clear hw1 hB;go_wp2_with fail;refine hc.mono ?_;rintro e w3 ⟨rfl,sv3,h3,d3⟩;go_wp2_with fail;refine(rdead_any h3 g.wf).mono ?_;rintro e w4 ⟨rfl,sv4,h4,d4⟩;go_wp2;go_end0;exact⟨rfl,_,h4,(t1.trans d3).trans d4⟩
theorem ri_26(h:Rx wa N p A lv m E w sv fv s)(a y n:Int)(v4 v5 v6:Value):Calls Tryz.prog 84 #[.pointer (some ⟨p,0,none⟩),zO 26 a y n v4 v5 v6] w (endO N p (A.v m) lv w sv fv ((zP 0 s).2)):=by
 obtain⟨w1,hw1,h1,hx1,ho1,t1⟩:=rbox h 26 a y n v4 v5 v6;unfold zO;obtain⟨B,hB⟩:∃B,B=w.heap.size:=⟨_,rfl⟩
 obtain⟨x0,x1,x2,x3,x4,x5,x6⟩:=hx1.c;go_enter Tryz.func84,Tryz.ntmps84
 go_upto_region 1 with(fail)
 rw[<-hw1];rw[<-hB]at x0 x1 x2 x3 x4 x5 x6 hx1 ho1 ⊢;clear hw1 hB;go_wp2_with fail;refine(qL h1.t h1.wf 0).mono ?_;rintro e w2 ⟨rfl,sv2,h2,d2⟩;go_wp2;go_end0;exact⟨rfl,_,h2,t1.trans d2⟩
theorem ri_65(h:Rx wa N p A lv m E w sv fv s)(a y n:Int)(v4 v5 v6:Value)(hb:Lh s):Calls Tryz.prog 84 #[.pointer (some ⟨p,0,none⟩),zO 65 a y n v4 v5 v6] w (endO N p (A.v m) lv w sv fv (zW [127] s)):=by
 obtain⟨w1,hw1,h1,hx1,ho1,t1⟩:=rbox h 65 a y n v4 v5 v6;unfold zO;obtain⟨B,hB⟩:∃B,B=w.heap.size:=⟨_,rfl⟩
 obtain⟨x0,x1,x2,x3,x4,x5,x6⟩:=hx1.c;have hpu:=zh (yQ h1.t 127 hb);go_enter Tryz.func84,Tryz.ntmps84
 go_upto_region 1 with(fail)
 rw[<-hw1];rw[<-hB]at x0 x1 x2 x3 x4 x5 x6 hx1 ho1 ⊢;clear hw1 hB;go_wp2_with fail;refine(hpu.out).mono ?_;rintro e w2 ⟨rfl,sv2,h2,d2⟩;go_wp2;go_end0;exact⟨rfl,_,h2,t1.trans d2⟩
theorem ri_66(h:Rx wa N p A lv m E w sv fv s)(a y n:Int)(v4 v5 v6:Value)(hb:Lh s):Calls Tryz.prog 84 #[.pointer (some ⟨p,0,none⟩),zO 66 a y n v4 v5 v6] w (endO N p (A.v m) lv w sv fv (zW [126] s)):=by
 obtain⟨w1,hw1,h1,hx1,ho1,t1⟩:=rbox h 66 a y n v4 v5 v6;unfold zO;obtain⟨B,hB⟩:∃B,B=w.heap.size:=⟨_,rfl⟩
 obtain⟨x0,x1,x2,x3,x4,x5,x6⟩:=hx1.c;have hpu:=zh (yQ h1.t 126 hb);go_enter Tryz.func84,Tryz.ntmps84
 go_upto_region 1 with(fail)
 rw[<-hw1];rw[<-hB]at x0 x1 x2 x3 x4 x5 x6 hx1 ho1 ⊢;clear hw1 hB;go_wp2_with fail;refine(hpu.out).mono ?_;rintro e w2 ⟨rfl,sv2,h2,d2⟩;go_wp2;go_end0;exact⟨rfl,_,h2,t1.trans d2⟩
theorem ri_27(h:Rx wa N p A lv m E w sv fv s)(a y n:Int)(v4 v5 v6:Value)(hb:Lh s):Calls Tryz.prog 84 #[.pointer (some ⟨p,0,none⟩),zO 27 a y n v4 v5 v6] w (endO N p (A.v m) lv w sv fv (rSel (zP 127 s).2)):=by
 obtain⟨w1,hw1,h1,hx1,ho1,t1⟩:=rbox h 27 a y n v4 v5 v6;unfold zO;obtain⟨B,hB⟩:∃B,B=w.heap.size:=⟨_,rfl⟩
 obtain⟨x0,x1,x2,x3,x4,x5,x6⟩:=hx1.c;have g1:=jA h1.wf 127;have g2:=jA g1.wf 0;have g3:=jA g2.wf 0;have hb3:=g3.lh (g2.lh (g1.lh hb));generalize hX0:rSel (zP 127 s).2=X;replace hX0:=zh hX0;go_enter Tryz.func84,Tryz.ntmps84
 go_upto_region 1 with(fail)
 rw[<-hw1];rw[<-hB]at x0 x1 x2 x3 x4 x5 x6 hx1 ho1 ⊢;clear hw1 hB;go_wp2_with fail;refine(qL h1.t h1.wf 127).mono ?_;rintro e w2 ⟨rfl,sv2,h2,d2⟩;go_wp2_with fail;refine(qL h2 g1.wf 0).mono ?_;rintro e w3 ⟨rfl,sv3,h3,d3⟩;go_wp2_with fail;refine(qL h3 g2.wf 0).mono ?_;rintro e w4 ⟨rfl,sv4,h4,d4⟩;have t4:=((t1.trans d2).trans d3).trans d4;have hX:rSel (zP 127 s).2=zW [max (zP 0 (zP 127 s).2).1 (zP 0 (zP 0 (zP 127 s).2).2).1] (if(zP 0 (zP 127 s).2).1≠0/\(zP 0 (zP 0 (zP 127 s).2).2).1≠0/\(zP 0 (zP 127 s).2).1≠(zP 0 (zP 0 (zP 127 s).2).2).1 then zQ 60 (zP 0 (zP 0 (zP 127 s).2).2).2 else(zP 0 (zP 0 (zP 127 s).2).2).2):=rfl;have e0:=hX0.out.symm.trans hX;clear hX hX0 d2 d3 d4 h2 h3;generalize zP 0 (zP 0 (zP 127 s).2).2=Y at h4 g3 e0 hb3;generalize zP 0 (zP 127 s).2=Z at g2 e0;obtain⟨x,zs⟩:=Z;obtain⟨y',ys⟩:=Y
 dsimp only at h4 g3 g2 e0 hb3
 have hmax:((max x y':Int))=max x y':=rfl
 by_cases hc:x≠0/\y'≠0/\x≠y'
 . rw[if_pos hc]at e0;replace e0:=zh e0;obtain⟨y1,y2,y3⟩:=hc;have u1:(x !=0)=true:=(by simp[y1])
   have u2:(y' !=0)=true:=(by simp[y2])
   have u3:(x !=y')=true:=(by simp[y3])
   have gb:=jK g3.wf (e:=60) (by decide);clear y1 y2 y3;go_wp2_with fail;refine(j8 h4 60).mono ?_;rintro e w5 ⟨rfl,h5,d5⟩;have hpu:=zh (yQ h5 (max x y') (gb.lh hb3));go_wp2_with fail;refine hpu.out.mono ?_;rintro e w6 ⟨rfl,sv6,h6,d6⟩;go_wp2;go_end0;rw[e0.out];exact⟨rfl,_,h6,(t4.trans d5).trans d6⟩
 . rw[if_neg hc]at e0;replace e0:=zh e0;have hpu:=zh (yQ h4 (max x y') hb3);have y4:(x !=0)=false\/((x !=0)=true/\(y' !=0)=false)\/((x !=0)=true/\(y' !=0)=true/\(x !=y')=false):=(by simp;omega)
   clear hc
   rcases y4 with y1 |⟨y1,y2⟩ |⟨y1,y2,y3⟩
   all_goals(
    go_wp2_with fail;refine hpu.out.mono ?_;rintro e w6 ⟨rfl,sv6,h6,d6⟩;go_wp2;go_end0;rw[e0.out];exact⟨rfl,_,h6,t4.trans d6⟩)
end
end Go.Proofs.YtacohbllbjgdgaaGreatDoor
namespace Go.Proofs.YtacohbllbjgdgaaGreatDoor
open Go.RowKit
structure EnvM (m:Md) (E:Ev):Prop where
 r:EvR E
 f:∀k:Nat,typV m (k:Int)=E.funcs[k]?
 sz:m.imports.length+m.funcs.length<=1099511627776
theorem newcells{w w3:World}(b:Below (w.alloc (.cells #[.slice none 0 0,.slice none 0 0] 44)).drew.heap.size (w.alloc (.cells #[.slice none 0 0,.slice none 0 0] 44)).drew w3):w3.cell? ⟨w.heap.size,0,none⟩=some (.slice none 0 0)/\w3.cell? ⟨w.heap.size,1,none⟩=some (.slice none 0 0)/\w3.frozen? ⟨w.heap.size,0,none⟩=false/\w3.frozen? ⟨w.heap.size,1,none⟩=false/\Hid (w3.heap[w.heap.size]? =some (.cells #[.slice none 0 0,.slice none 0 0] 44 (0,0))/\Below w.heap.size w w3):=by
 have hz:w3.heap[w.heap.size]? =some (.cells #[.slice none 0 0,.slice none 0 0] 44 (0,0)):=(b.block _ (by simp)).trans (heap_alloc_new w _);have hb:Below w.heap.size w (w.alloc (.cells #[.slice none 0 0,.slice none 0 0] 44)).drew:=(Below.of_alloc w _).trans ((zB (w:=w.alloc (.cells #[.slice none 0 0,.slice none 0 0] 44)) 1).mono (by simp));exact⟨by rw[cell_of_row w3 _ 0 _ _ _ hz];rfl,by rw[cell_of_row w3 _ 1 _ _ _ hz];rfl,frozen_of_row w3 _ 0 _ _ hz,frozen_of_row w3 _ 1 _ _ hz,zh ⟨hz,hb.trans (b.mono hb.size)⟩⟩
theorem newdrew{w w3:World}(b:Below w.drew.heap.size w.drew w3):Hid (Below w.heap.size w w3):=zh ((zB (w:=w) 1).trans b)
theorem Below.setAt{M b j:Nat}{w:World}{u:Value}(h:M<=b):Below M w (w.setCell ⟨b,j,none⟩ u):=⟨rfl,rfl,rfl,by simp[World.setCell],λk hk=>Below.heap_setCell _ _ _ _ (by show k≠b;omega)⟩
theorem set2{w:World}{b t:Nat}{x y u v:Value}(h:w.heap[b]? =some (.cells #[x,y] t (0,0))):((w.setCell ⟨b,0,none⟩ u).setCell ⟨b,1,none⟩ v).heap[b]? =some (.cells #[u,v] t (0,0)):=by
 have h1:(w.setCell ⟨b,0,none⟩ u).heap[b]? =some (.cells #[u,y] t (0,0)):=(by rw[heap_setCell_same w b 0 _ _ _ h];rfl)
 rw[heap_setCell_same _ b 1 _ _ _ h1];rfl
theorem Rx.offNew{wa:World}{N p:Nat}{A:MA}{lv:Value}{m:Md}{E:Ev}{w w':World}{sv fv:Value}{s:Rs}(h:Rx wa N p A lv m E w sv fv s){b:Nat}(hb:w.heap.size<=b)(hl:b<w'.heap.size):Off w' p sv fv b:=by obtain⟨L,_,hL,_⟩:=h.t.o.fs;have e2:=lt_of_block h.t.b;exact⟨hl,by omega,λe=>by have:=(h.t.o.st.lt _ e).2;omega,λe=>by have:=(hL.lt _ e).2;omega⟩
section
variable {wa:World} {N p:Nat} {A:MA} {lv:Value} {m:Md} {E:Ev} {w w':World} {sv fv sv' fv':Value} {s u:Rs}
theorem ri_16(h:Rx wa N p A lv m E w sv fv s)(hE:EnvM m E)(a y n:Int)(v4 v5 v6:Value)(ha:0<=a)(hb:Lh s):Calls Tryz.prog 84 #[.pointer (some ⟨p,0,none⟩),zO 16 a y n v4 v5 v6] w (endO N p (A.v m) lv w sv fv (match E.funcs[a.toNat]? with |some t=>rCall t s |none=>zQ 61 s)):=by
 obtain⟨w1,hw1,h1,hx1,ho1,t1⟩:=rbox h 16 a y n v4 v5 v6;unfold zO;obtain⟨B,hB⟩:∃B,B=w.heap.size:=⟨_,rfl⟩
 obtain⟨x0,x1,x2,x3,x4,x5,x6⟩:=hx1.c;obtain⟨y0,y1,y2,y3,y4,y5,y6,y7,y8,y9⟩:=h1.t.c10;obtain⟨i,rfl⟩:∃i:Nat,a=i:=⟨a.toNat,by omega⟩
 have hTy:=λw' (b:Below wa.heap.size wa w')=>typ_any h.md b (i:Int) hE.sz;rw[hE.f]at hTy;rw[Int.toNat_natCast];replace hTy:=zh hTy;cases ht:E.funcs[i]? with
 |none=>
   rw[ht]at hTy
   dsimp only
   go_enter Tryz.func84,Tryz.ntmps84
   go_upto_region 1 with(fail)
   rw[<-hw1];rw[<-hB]at x0 x1 x2 x3 x4 x5 x6 hx1 ho1 ⊢;clear hw1 hB ha;go_wp2_with fail
   go_cut [9,10] from 174 to 183 (λv9 v10 wx=>∃b',v9=.pointer (some ⟨b',0,none⟩)/\v10=.bool false/\Hid (Below w1.heap.size w1 wx))
   case first=>
    have hb1:∀wz,Below w1.heap.size w1 wz->Below wa.heap.size wa wz:=λwz b=>h1.b.trans (b.mono h1.b.size);have bA:=hb1 _ (zB (w:=w1) 1);have bB:=hb1 _ ((Below.of_alloc w1 (.cells #[.slice none 0 0,.slice none 0 0] 44)).trans ((zB (w:=w1.alloc (.cells #[.slice none 0 0,.slice none 0 0] 44)) 1).mono (by simp)));replace bA:=zh bA;replace bB:=zh bB;clear hb1
    -- z
    have x1z:(w1.alloc (.cells #[.slice none 0 0,.slice none 0 0] 44)).cell? ⟨B,1,none⟩=some (.int .i64 (i:Int)):=zA (Below.of_alloc w1 _) _ _ x1;have x1d:(w1.alloc (.cells #[.slice none 0 0,.slice none 0 0] 44)).drew.cell? ⟨B,1,none⟩=some (.int .i64 (i:Int)):=x1z;have y0z:(w1.alloc (.cells #[.slice none 0 0,.slice none 0 0] 44)).cell? ⟨p,0,none⟩=some ((A.v m).v0):=zA (Below.of_alloc w1 _) _ _ y0;have y0d:(w1.alloc (.cells #[.slice none 0 0,.slice none 0 0] 44)).drew.cell? ⟨p,0,none⟩=some ((A.v m).v0):=y0z;have y1z:(w1.alloc (.cells #[.slice none 0 0,.slice none 0 0] 44)).cell? ⟨p,1,none⟩=some ((A.v m).v1):=zA (Below.of_alloc w1 _) _ _ y1;have y1d:(w1.alloc (.cells #[.slice none 0 0,.slice none 0 0] 44)).drew.cell? ⟨p,1,none⟩=some ((A.v m).v1):=y1z;have y2z:(w1.alloc (.cells #[.slice none 0 0,.slice none 0 0] 44)).cell? ⟨p,2,none⟩=some ((A.v m).v2):=zA (Below.of_alloc w1 _) _ _ y2;have y2d:(w1.alloc (.cells #[.slice none 0 0,.slice none 0 0] 44)).drew.cell? ⟨p,2,none⟩=some ((A.v m).v2):=y2z;have y3z:(w1.alloc (.cells #[.slice none 0 0,.slice none 0 0] 44)).cell? ⟨p,3,none⟩=some ((A.v m).v3):=zA (Below.of_alloc w1 _) _ _ y3;have y3d:(w1.alloc (.cells #[.slice none 0 0,.slice none 0 0] 44)).drew.cell? ⟨p,3,none⟩=some ((A.v m).v3):=y3z;have y4z:(w1.alloc (.cells #[.slice none 0 0,.slice none 0 0] 44)).cell? ⟨p,4,none⟩=some ((A.v m).v4):=zA (Below.of_alloc w1 _) _ _ y4
    have y4d:(w1.alloc (.cells #[.slice none 0 0,.slice none 0 0] 44)).drew.cell? ⟨p,4,none⟩=some ((A.v m).v4):=y4z;have y5z:(w1.alloc (.cells #[.slice none 0 0,.slice none 0 0] 44)).cell? ⟨p,5,none⟩=some ((A.v m).v5):=zA (Below.of_alloc w1 _) _ _ y5;have y5d:(w1.alloc (.cells #[.slice none 0 0,.slice none 0 0] 44)).drew.cell? ⟨p,5,none⟩=some ((A.v m).v5):=y5z;have y6z:(w1.alloc (.cells #[.slice none 0 0,.slice none 0 0] 44)).cell? ⟨p,6,none⟩=some ((A.v m).v6):=zA (Below.of_alloc w1 _) _ _ y6;have y6d:(w1.alloc (.cells #[.slice none 0 0,.slice none 0 0] 44)).drew.cell? ⟨p,6,none⟩=some ((A.v m).v6):=y6z;have y7z:(w1.alloc (.cells #[.slice none 0 0,.slice none 0 0] 44)).cell? ⟨p,7,none⟩=some ((A.v m).v7):=zA (Below.of_alloc w1 _) _ _ y7;have y7d:(w1.alloc (.cells #[.slice none 0 0,.slice none 0 0] 44)).drew.cell? ⟨p,7,none⟩=some ((A.v m).v7):=y7z;have y8z:(w1.alloc (.cells #[.slice none 0 0,.slice none 0 0] 44)).cell? ⟨p,8,none⟩=some ((A.v m).v8):=zA (Below.of_alloc w1 _) _ _ y8;have y8d:(w1.alloc (.cells #[.slice none 0 0,.slice none 0 0] 44)).drew.cell? ⟨p,8,none⟩=some ((A.v m).v8):=y8z;have y9z:(w1.alloc (.cells #[.slice none 0 0,.slice none 0 0] 44)).cell? ⟨p,9,none⟩=some ((A.v m).v9):=zA (Below.of_alloc w1 _) _ _ y9;have y9d:(w1.alloc (.cells #[.slice none 0 0,.slice none 0 0] 44)).drew.cell? ⟨p,9,none⟩=some ((A.v m).v9):=y9z
    go_region_with (first |(go_at_call 55;refine(hTy.out _ (by first |exact bA.out |exact bB.out)).mono ?_;rintro e w3 ⟨rfl,b3⟩;(first |(obtain⟨u1,u2,u3,u4,u5⟩:=newcells b3;clear b3) |(have u5:=newdrew b3;clear b3))))
    all_goals go_wp2_with fail
    all_goals go_meet
    all_goals first
     |exact⟨_,rfl,rfl,zh (u5.out.trans ((Below.of_alloc _ _).mono u5.out.size))⟩
     |exact⟨_,rfl,rfl,zh u5.out.2⟩
     |exact⟨_,rfl,rfl,zh (u5.out.2.trans ((Below.setAt (Nat.le_refl _)).trans (Below.setAt (Nat.le_refl _))))⟩
   case rest=>obtain⟨b',rfl,rfl,hbw⟩:=hcut;have h3:=h1.step hbw.out;have t3:=t1.step hbw.out;clear hbw y0 y1 y2 y3 y4 y5 y6 y7 y8 y9 x0 x1 x2 x3 x4 x5 x6 ht hTy;go_wp2_with fail;refine(j8 h3.t 61).mono ?_;rintro e w4 ⟨rfl,h4,d4⟩;go_wp2;go_end0;exact⟨rfl,_,h4,t3.trans d4⟩
 |some t=>
   rw[ht]at hTy
   dsimp only
   go_enter Tryz.func84,Tryz.ntmps84
   go_upto_region 1 with(fail)
   rw[<-hw1];rw[<-hB]at x0 x1 x2 x3 x4 x5 x6 hx1 ho1 ⊢;clear hw1 hB ha;go_wp2_with fail
   go_cut [9,10] from 174 to 183 (λv9 v10 wx=>∃b',∃pa ra:Option Addr,∃pc rc:Nat,v9=.pointer (some ⟨b',0,none⟩)/\v10=.bool true/\Hid (w1.heap.size<=b')/\Hid (wx.heap[b']? =some (.cells #[.slice pa t.1.length pc,.slice ra t.2.length rc] 44 (0,0)))/\Hid (IntsIn wa pa t.1/\IntsIn wa ra t.2)/\Hid (Below w1.heap.size w1 wx))
   case first=>
    have hb1:∀wz,Below w1.heap.size w1 wz->Below wa.heap.size wa wz:=λwz b=>h1.b.trans (b.mono h1.b.size);have bA:=hb1 _ (zB (w:=w1) 1);have bB:=hb1 _ ((Below.of_alloc w1 (.cells #[.slice none 0 0,.slice none 0 0] 44)).trans ((zB (w:=w1.alloc (.cells #[.slice none 0 0,.slice none 0 0] 44)) 1).mono (by simp)));replace bA:=zh bA;replace bB:=zh bB;clear hb1
    -- z
    have x1z:(w1.alloc (.cells #[.slice none 0 0,.slice none 0 0] 44)).cell? ⟨B,1,none⟩=some (.int .i64 (i:Int)):=zA (Below.of_alloc w1 _) _ _ x1;have x1d:(w1.alloc (.cells #[.slice none 0 0,.slice none 0 0] 44)).drew.cell? ⟨B,1,none⟩=some (.int .i64 (i:Int)):=x1z;have y0z:(w1.alloc (.cells #[.slice none 0 0,.slice none 0 0] 44)).cell? ⟨p,0,none⟩=some ((A.v m).v0):=zA (Below.of_alloc w1 _) _ _ y0;have y0d:(w1.alloc (.cells #[.slice none 0 0,.slice none 0 0] 44)).drew.cell? ⟨p,0,none⟩=some ((A.v m).v0):=y0z;have y1z:(w1.alloc (.cells #[.slice none 0 0,.slice none 0 0] 44)).cell? ⟨p,1,none⟩=some ((A.v m).v1):=zA (Below.of_alloc w1 _) _ _ y1;have y1d:(w1.alloc (.cells #[.slice none 0 0,.slice none 0 0] 44)).drew.cell? ⟨p,1,none⟩=some ((A.v m).v1):=y1z;have y2z:(w1.alloc (.cells #[.slice none 0 0,.slice none 0 0] 44)).cell? ⟨p,2,none⟩=some ((A.v m).v2):=zA (Below.of_alloc w1 _) _ _ y2;have y2d:(w1.alloc (.cells #[.slice none 0 0,.slice none 0 0] 44)).drew.cell? ⟨p,2,none⟩=some ((A.v m).v2):=y2z;have y3z:(w1.alloc (.cells #[.slice none 0 0,.slice none 0 0] 44)).cell? ⟨p,3,none⟩=some ((A.v m).v3):=zA (Below.of_alloc w1 _) _ _ y3;have y3d:(w1.alloc (.cells #[.slice none 0 0,.slice none 0 0] 44)).drew.cell? ⟨p,3,none⟩=some ((A.v m).v3):=y3z;have y4z:(w1.alloc (.cells #[.slice none 0 0,.slice none 0 0] 44)).cell? ⟨p,4,none⟩=some ((A.v m).v4):=zA (Below.of_alloc w1 _) _ _ y4
    have y4d:(w1.alloc (.cells #[.slice none 0 0,.slice none 0 0] 44)).drew.cell? ⟨p,4,none⟩=some ((A.v m).v4):=y4z;have y5z:(w1.alloc (.cells #[.slice none 0 0,.slice none 0 0] 44)).cell? ⟨p,5,none⟩=some ((A.v m).v5):=zA (Below.of_alloc w1 _) _ _ y5;have y5d:(w1.alloc (.cells #[.slice none 0 0,.slice none 0 0] 44)).drew.cell? ⟨p,5,none⟩=some ((A.v m).v5):=y5z;have y6z:(w1.alloc (.cells #[.slice none 0 0,.slice none 0 0] 44)).cell? ⟨p,6,none⟩=some ((A.v m).v6):=zA (Below.of_alloc w1 _) _ _ y6;have y6d:(w1.alloc (.cells #[.slice none 0 0,.slice none 0 0] 44)).drew.cell? ⟨p,6,none⟩=some ((A.v m).v6):=y6z;have y7z:(w1.alloc (.cells #[.slice none 0 0,.slice none 0 0] 44)).cell? ⟨p,7,none⟩=some ((A.v m).v7):=zA (Below.of_alloc w1 _) _ _ y7;have y7d:(w1.alloc (.cells #[.slice none 0 0,.slice none 0 0] 44)).drew.cell? ⟨p,7,none⟩=some ((A.v m).v7):=y7z;have y8z:(w1.alloc (.cells #[.slice none 0 0,.slice none 0 0] 44)).cell? ⟨p,8,none⟩=some ((A.v m).v8):=zA (Below.of_alloc w1 _) _ _ y8;have y8d:(w1.alloc (.cells #[.slice none 0 0,.slice none 0 0] 44)).drew.cell? ⟨p,8,none⟩=some ((A.v m).v8):=y8z;have y9z:(w1.alloc (.cells #[.slice none 0 0,.slice none 0 0] 44)).cell? ⟨p,9,none⟩=some ((A.v m).v9):=zA (Below.of_alloc w1 _) _ _ y9;have y9d:(w1.alloc (.cells #[.slice none 0 0,.slice none 0 0] 44)).drew.cell? ⟨p,9,none⟩=some ((A.v m).v9):=y9z
    go_region_with (first |(go_at_call 55;refine(hTy.out _ (by first |exact bA.out |exact bB.out)).mono ?_;rintro e w3 ⟨⟨pa,pc,ra,rc,rfl,j1,j2⟩,b3⟩;(first |(obtain⟨u1,u2,u3,u4,u5⟩:=newcells b3;clear b3) |(have u5:=newdrew b3;clear b3))))
    all_goals go_wp2_with fail
    all_goals go_meet
    all_goals first
     |exact⟨_,pa,ra,pc,rc,rfl,rfl,zh u5.out.size,zh (heap_alloc_new _ _),zh ⟨j1,j2⟩,zh (u5.out.trans ((Below.of_alloc _ _).mono u5.out.size))⟩
     |exact⟨_,pa,ra,pc,rc,rfl,rfl,zh (Nat.le_refl _),zh (set2 u5.out.1),zh ⟨j1,j2⟩,zh (u5.out.2.trans ((Below.setAt (Nat.le_refl _)).trans (Below.setAt (Nat.le_refl _))))⟩
   case rest=>
    obtain⟨b',pa,ra,pc,rc,rfl,rfl,hbl,hb44,hji,hbw⟩:=hcut;have h3:=h1.step hbw.out;have t3:=t1.step hbw.out;obtain⟨j1,j2⟩:=hji.out;have ho3:=h1.offNew hbl.out (lt_of_block hb44.out);have e0:wc.cell? ⟨b',0,none⟩=some (.slice pa t.1.length pc):=(by rw[cell_of_row _ b' 0 _ _ _ hb44.out];rfl)
    have e1:wc.cell? ⟨b',1,none⟩=some (.slice ra t.2.length rc):=(by rw[cell_of_row _ b' 1 _ _ _ hb44.out];rfl)
    have hcl:=rcall_any (pc:=pc) (rc:=rc) h3 (h3.old j1) (h3.old j2) (hE.r.funcs t (List.mem_of_getElem? ht)) hb;clear hbl hb44 hji hbw y0 y1 y2 y3 y4 y5 y6 y7 y8 y9 x0 x1 x2 x3 x4 x5 x6 ht hTy;go_wp2_with fail;refine hcl.mono ?_;rintro e w4 ⟨rfl,sv4,h4,d4⟩;go_wp2;go_end0;exact⟨rfl,_,h4,t3.trans d4⟩
end
end Go.Proofs.YtacohbllbjgdgaaGreatDoor
