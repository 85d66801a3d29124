/- The reference's checker of a body: variables. -/
import Derived.Test.YtacohbllbjgdgaaGreatDoorZc
import Derived.Test.YtacohbllbjgdgaaGreatDoorXf
import Derived.Test.YtacohbllbjgdgaaGreatDoorSa
set_option linter.all false
set_option maxRecDepth 100000
set_option maxHeartbeats 4000000
namespace Go.Proofs.YtacohbllbjgdgaaGreatDoor
open Go.RowKit
section
variable {wa:World} {N p:Nat} {A:MA} {lv:Value} {m:Md} {E:Ev} {w w':World} {sv fv sv' fv':Value} {s u:Rs}
theorem rbox(h:Rx wa N p A lv m E w sv fv s)(op a y n:Int)(v4 v5 v6:Value):∃w1,w1=w.alloc (.cells #[.int .i64 op,.int .i64 a,.int .i64 y,.int .i64 n,v4,v5,v6] 49)/\Rx wa N p A lv m E w1 sv fv s/\Bx w1 w.heap.size op a y n v4 v5 v6/\Off w1 p sv fv w.heap.size/\Tw p sv fv sv fv w w1:=
 ⟨_,rfl,h.step (Below.of_alloc w _),⟨ins_c w op a y n v4 v5 v6⟩,h.t.off _,.of_below (Below.of_alloc w _)⟩
theorem rpush1{M:M10}(h:RcP N p M lv w sv fv s)(t:Int)(hb:s.w=0->s.st.length+1<=1099511627776):Calls Tryz.prog 106 #[.pointer (some ⟨p,0,none⟩),.slice (some ⟨w.heap.size,0,none⟩) 1 1] (w.alloc (.cells #[.int .i64 t] 3)) λe w'=>e=.returned (.tuple #[])/\∃sv',RcP N p M lv w' sv' fv (zZ [t] s)/\Tw p sv fv sv' fv w w':=by
 have ha:=Below.of_alloc w (.cells #[.int .i64 t] 3);have:=rpush_any (l:=[t]) (la:=some ⟨w.heap.size,0,none⟩) (lc:=1) (h.step ha) (ints_one1 w t) hb;refine this.mono ?_;rintro e w' ⟨rfl,sv',h1,t1⟩;exact⟨rfl,sv',h1,(Tw.of_below ha).trans t1⟩
theorem Rx.lcw(h:Rx wa N p A lv m E w sv fv s):∃a k,lv=.slice a E.locals.length k/\E.locals.length<=9223372036854775807/\∀i x,E.locals[i]? =some x->∃b o,a=some ⟨b,o,none⟩/\w.cell? ⟨b,o+i,none⟩=some (.int .i64 x):=by obtain⟨a,k,e,l⟩:=h.lc;exact⟨a,k,e,l.1.1,λi x hx=>l.1.at hx⟩
theorem rvar_none{op:Int}(hp:op<35){E:Ev}{a:Nat}(ha:E.locals[a]? =none){s:Rs}:qU E op (a:Int) s=zR 61 s:=by unfold qU;rw[if_neg (by omega),Int.toNat_natCast,ha]
theorem rvar_some{op:Int}(hp:op<35){E:Ev}{a:Nat}{t:Int}(ha:E.locals[a]? =some t){s:Rs}:qU E op (a:Int) s=if op≠33 then zZ [t] (if op≠32 then(zQ t s).2 else s)else(if op≠32 then(zQ t s).2 else s):=by unfold qU;rw[if_neg (by omega),Int.toNat_natCast,ha]
theorem rvar_lo(h:Rx wa N p A lv m E w sv fv s)(op a y n:Int)(v4 v5 v6:Value)(hop:op=32\/op=33\/op=34)(ha:0<=a)(hb:Lh s):Calls Tryz.prog 112 #[.pointer (some ⟨p,0,none⟩),zO op a y n v4 v5 v6] w (endO N p (A.v m) lv w sv fv (qU E op a s)):=by
 obtain⟨w1,hw1,h1,hx1,ho1,t1⟩:=rbox h op a y n v4 v5 v6;obtain⟨i,rfl⟩:∃i:Nat,a=i:=⟨a.toNat,by omega⟩
 unfold zO;obtain⟨B,hB⟩:∃B,B=w.heap.size:=⟨_,rfl⟩
 obtain⟨la,lk,hlv,hl63,hloc⟩:=h1.lcw;obtain⟨k0,k1,k2,k3,z1,z2,z3⟩:=h1.t.c;rw[hlv]at k0;obtain⟨x0,x1,x2,x3,x4,x5,x6⟩:=hx1.c;have hlt:¬(35:Int)<=op:=(by omega)
 have hlt2:op<35:=(by omega)
 have i0:(0:Int)<=(i:Int):=(by omega)
 generalize hX:qU E op (i:Int) s=X
 by_cases hi:i<E.locals.length
 . obtain⟨t,ht⟩:∃t,E.locals[i]? =some t:=⟨_,List.getElem?_eq_getElem hi⟩
   have e0:=rvar_some hlt2 ht (s:=s);rw[hX]at e0;have i1:(i:Int)<(E.locals.length:Int):=(by omega)
   have i2:¬(E.locals.length:Int)<=(i:Int):=(by omega)
   obtain⟨b,o,hab,hct⟩:=hloc i t ht;subst hab;clear ha hX hloc;replace hlv:=zh hlv;replace ht:=zh ht;replace e0:=zh e0;have step1:∀w2,Below w1.heap.size w1 w2->Hid (Rx wa N p A lv m E w2 sv fv s/\Tw p sv fv sv fv w w2/\Bx w2 w.heap.size op (i:Int) y n v4 v5 v6/\Off w2 p sv fv w.heap.size/\w2.cell? ⟨b,o+i,none⟩=some (.int .i64 t)):=λw2 b=>zh ⟨h1.step b,t1.step b,hx1.tw ho1 (.of_below b),(ho1.tw (.of_below b)).1,zA b _ _ hct⟩;replace step1:=zh step1;go_enter Tryz.func112,Tryz.ntmps112
   go_upto_region 1 with(fail)
   rw[<-hw1];rw[<-hB]at x0 x1 x2 x3 x4 x5 x6 hx1 ho1 step1 ⊢;clear hw1 hB;go_wp2_with fail
   go_quiet (fail)
   have hq:=step1.out _ (zB nq);obtain⟨w2,hw2⟩:∃w2,w2=w1.drewN nq:=⟨_,rfl⟩
   rw[<-hw2]at hq ⊢;clear hw2 x0 x1 x2 x3 x4 x5 x6 k0 k1 k2 k3 z1 z2 z3 hct nq h1 t1 ho1 hx1 step1;obtain⟨h2,t2,hx2,ho2,hct⟩:=hq.out;obtain⟨k0,k1,k2,k3,z1,z2,z3⟩:=h2.t.c;rw[hlv.out]at k0;obtain⟨x0,x1,x2,x3,x4,x5,x6⟩:=hx2.c;go_wp2_with fail
   go_quiet (fail)
   have h3:=h2.step (zB nq);have t3:=t2.step (zB nq);have hx3:=hx2.tw ho2 (.of_below (zB nq));have ho3:=(ho2.tw (.of_below (zB nq))).1;obtain⟨w3,hw3⟩:∃w3,w3=w2.drewN nq:=⟨_,rfl⟩
   rw[<-hw3]at h3 t3 hx3 ho3 ⊢;clear hw3 x0 x1 x2 x3 x4 x5 x6 k0 k1 k2 k3 z1 z2 z3 hct nq h2 t2 ho2 hx2 hq;obtain⟨x0,x1,x2,x3,x4,x5,x6⟩:=hx3.c
   rcases hop with rfl |rfl |rfl
   . have hpu:=zh (rpush1 h3.t t hb);go_wp2_with fail;refine hpu.out.mono ?_;rintro e wz ⟨rfl,svz,hz,tz⟩;go_wp2;go_end0;rw[e0.out];exact⟨rfl,svz,hz,t3.trans tz⟩
   . go_wp2_with fail;refine(qQ h3.t h3.wf t).mono ?_;rintro e w4 ⟨rfl,sv4,h4,t4⟩;have hx4:=hx3.tw ho3 t4;obtain⟨x0,x1,x2,x3,x4,x5,x6⟩:=hx4.c;go_wp2;go_end0;rw[e0.out];exact⟨rfl,sv4,h4,t3.trans t4⟩
   . go_wp2_with fail;refine(qQ h3.t h3.wf t).mono ?_;rintro e w4 ⟨rfl,sv4,h4,t4⟩;have hx4:=hx3.tw ho3 t4;have g4:=jF h3.wf t;obtain⟨x0,x1,x2,x3,x4,x5,x6⟩:=hx4.c;have hpu:=zh (rpush1 h4 t (g4.lh hb));go_wp2_with fail;refine hpu.out.mono ?_;rintro e wz ⟨rfl,svz,hz,tz⟩;go_wp2;go_end0;rw[e0.out];exact⟨rfl,svz,hz,(t3.trans t4).trans tz⟩
 . have e0:=rvar_none hlt2 (E:=E) (a:=i) (s:=s) (List.getElem?_eq_none (by omega));rw[hX]at e0;subst e0;have i1:(E.locals.length:Int)<=(i:Int):=(by omega)
   clear ha hX hloc hi;go_enter Tryz.func112,Tryz.ntmps112
   go_upto_region 1 with(fail)
   rw[<-hw1];rw[<-hB]at x0 x1 x2 x3 x4 x5 x6 hx1 ho1 ⊢;clear hw1 hB;go_wp2_with fail
   go_quiet (fail)
   have h2:=h1.step (zB nq);have t2:=t1.step (zB nq);go_wp2_with fail;refine(xV h2.t 61).mono ?_;rintro e w3 ⟨rfl,h3,t3⟩;go_wp2;go_end0;exact⟨rfl,_,h3,t2.trans t3⟩
end
end Go.Proofs.YtacohbllbjgdgaaGreatDoor
namespace Go.Proofs.YtacohbllbjgdgaaGreatDoor
open Go.RowKit
section
variable {wa:World} {N p:Nat} {A:MA} {lv:Value} {m:Md} {E:Ev} {w w':World} {sv fv sv' fv':Value} {s u:Rs}
theorem rvarg_none{op:Int}(hp:35<=op){E:Ev}{a:Nat}(ha:E.globals[a]? =none){s:Rs}:qU E op (a:Int) s=zR 61 s:=by unfold qU;rw[if_pos hp,Int.toNat_natCast,ha]
theorem rvarg_some{op:Int}(hp:35<=op){E:Ev}{a:Nat}{g:Int×Bool}(ha:E.globals[a]? =some g){s:Rs}:qU E op (a:Int) s=if op=35 then zZ [g.1] s else(zQ g.1 (if g.2=true then s else zR 62 s)).2:=by unfold qU;rw[if_pos hp,Int.toNat_natCast,ha]
theorem Rx.glob(h:Rx wa N p A lv m E w sv fv s){i:Nat}{g:Int×Bool}(hg:E.globals[i]? =some g):∃b o,∃q:One,∃u4 c4 u5 c5 u6 c6,A.a5=some ⟨b,o,none⟩/\w.cell? ⟨b,o+i*9,none⟩=some (.int .i64 g.1)/\w.cell? ⟨b,o+i*9+1,none⟩=some (.bool g.2)/\w.cell? ⟨b,o+i*9+2,none⟩=some (.int .i64 q.op)/\w.cell? ⟨b,o+i*9+2+1,none⟩=some (.int .i64 q.x)/\w.cell? ⟨b,o+i*9+2+2,none⟩=some (.int .i64 q.y)/\w.cell? ⟨b,o+i*9+2+3,none⟩=some (.int .i64 q.n)/\w.cell? ⟨b,o+i*9+2+4,none⟩=some (.slice u4 q.ls.length c4)/\w.cell? ⟨b,o+i*9+2+5,none⟩=some (.slice u5 q.body.len c5)/\w.cell? ⟨b,o+i*9+2+6,none⟩=some (.slice u6 q.els.len c6):=by
 rw[h.e2,List.getElem?_map]at hg;cases hx:m.globals[i]? with
 |none=>rw[hx]at hg;cases hg
 |some x=>rw[hx]at hg;cases hg;obtain⟨b,o,e,r1,r2,r3⟩:=h.mdw.globals.row hx;obtain⟨⟨g0,g1,g2,g3⟩,⟨ga4,gk4,g4,_⟩,⟨ga5,gk5,g5,_⟩,⟨ga6,gk6,g6,_⟩,_⟩:=r3;exact⟨b,o,x.2.2,ga4,gk4,ga5,gk5,ga6,gk6,e,r1,r2,g0,g1,g2,g3,g4,g5,g6⟩
theorem rvar_hi(h:Rx wa N p A lv m E w sv fv s)(op a y n:Int)(v4 v5 v6:Value)(hop:op=35\/op=36)(ha:0<=a)(hb:Lh s):Calls Tryz.prog 112 #[.pointer (some ⟨p,0,none⟩),zO op a y n v4 v5 v6] w (endO N p (A.v m) lv w sv fv (qU E op a s)):=by
 obtain⟨w1,hw1,h1,hx1,ho1,t1⟩:=rbox h op a y n v4 v5 v6;obtain⟨i,rfl⟩:∃i:Nat,a=i:=⟨a.toNat,by omega⟩
 unfold zO;obtain⟨B,hB⟩:∃B,B=w.heap.size:=⟨_,rfl⟩
 obtain⟨y0,y1,y2,y3,y4,y5,y6,y7,y8,y9⟩:=h1.t.c10;obtain⟨k0,k1,k2,k3,z1,z2,z3⟩:=h1.t.c;replace y5:w1.cell? ⟨p,5,none⟩=some (.slice A.a5 m.globals.length A.k5):=y5;have hgl:E.globals.length=m.globals.length:=(by rw[h.e2,List.length_map])
 have hg63:m.globals.length<=9223372036854775807:=h.mdw.globals.1;obtain⟨x0,x1,x2,x3,x4,x5,x6⟩:=hx1.c;have hlt2:35<=op:=(by omega)
 have i0:(0:Int)<=(i:Int):=(by omega)
 generalize hX:qU E op (i:Int) s=X
 by_cases hi:i<m.globals.length
 . obtain⟨t,ht⟩:∃t,E.globals[i]? =some t:=⟨_,List.getElem?_eq_getElem (by omega)⟩
   have e0:=rvarg_some hlt2 ht (s:=s);rw[hX]at e0;have i1:(i:Int)<(m.globals.length:Int):=(by omega)
   have i2:¬(m.globals.length:Int)<=(i:Int):=(by omega)
   have i3:decide ((m.globals.length:Int)<=(i:Int))=false:=decide_eq_false i2;obtain⟨b,o,q,u4,c4,u5,c5,u6,c6,hA5,g0,g1,g2,g3,g4,g5,g6,g7,g8⟩:=h1.glob ht;rw[hA5]at y5;clear ha hX;replace ht:=zh ht;replace e0:=zh e0;replace hgl:=zh hgl;replace hA5:=zh hA5;have step1:∀w2,Below w1.heap.size w1 w2->Hid (Rx wa N p A lv m E w2 sv fv s/\Tw p sv fv sv fv w w2/\Bx w2 w.heap.size op (i:Int) y n v4 v5 v6/\Off w2 p sv fv w.heap.size):=λw2 b=>zh ⟨h1.step b,t1.step b,hx1.tw ho1 (.of_below b),(ho1.tw (.of_below b)).1⟩;replace step1:=zh step1;go_enter Tryz.func112,Tryz.ntmps112
   go_upto_region 1 with(fail)
   rw[<-hw1];rw[<-hB]at x0 x1 x2 x3 x4 x5 x6 hx1 ho1 step1 ⊢;clear hw1 hB;go_wp2_with fail
   go_quiet (fail)
   have hq:=step1.out _ (zB nq);obtain⟨w2,hw2⟩:∃w2,w2=w1.drewN nq:=⟨_,rfl⟩
   have kd:=zA (zB (w:=w1) nq);rw[<-hw2]at hq kd ⊢;replace g0:=kd _ _ g0;replace g1:=kd _ _ g1;replace g2:=kd _ _ g2;replace g3:=kd _ _ g3;replace g4:=kd _ _ g4;replace g5:=kd _ _ g5;replace g6:=kd _ _ g6;replace g7:=kd _ _ g7;replace g8:=kd _ _ g8;replace y5:=kd _ _ y5;replace x1:=kd _ _ x1;clear kd hw2 nq h1 t1 ho1 hx1 step1;obtain⟨h2,t2,hx2,ho2⟩:=hq.out;clear k0 k1 k2 k3 z1 z2 z3 x0 x2 x3 x4 x5 x6 y0 y1 y2 y3 y4 y6 y7 y8 y9;have g0z:(w2.alloc (.cells #[.int .i64 0,.bool false,.int .i64 0,.int .i64 0,.int .i64 0,.int .i64 0,.slice none 0 0,.slice none 0 0,.slice none 0 0] 51)).cell? ⟨b,o+i*9,none⟩=some (.int .i64 t.1):=zA (Below.of_alloc w2 _) _ _ g0;have g0d:(w2.alloc (.cells #[.int .i64 0,.bool false,.int .i64 0,.int .i64 0,.int .i64 0,.int .i64 0,.slice none 0 0,.slice none 0 0,.slice none 0 0] 51)).drew.cell? ⟨b,o+i*9,none⟩=some (.int .i64 t.1):=g0z;have g1z:(w2.alloc (.cells #[.int .i64 0,.bool false,.int .i64 0,.int .i64 0,.int .i64 0,.int .i64 0,.slice none 0 0,.slice none 0 0,.slice none 0 0] 51)).cell? ⟨b,o+i*9+1,none⟩=some (.bool t.2):=zA (Below.of_alloc w2 _) _ _ g1;have g1d:(w2.alloc (.cells #[.int .i64 0,.bool false,.int .i64 0,.int .i64 0,.int .i64 0,.int .i64 0,.slice none 0 0,.slice none 0 0,.slice none 0 0] 51)).drew.cell? ⟨b,o+i*9+1,none⟩=some (.bool t.2):=g1z;have g2z:(w2.alloc (.cells #[.int .i64 0,.bool false,.int .i64 0,.int .i64 0,.int .i64 0,.int .i64 0,.slice none 0 0,.slice none 0 0,.slice none 0 0] 51)).cell? ⟨b,o+i*9+2,none⟩=some (.int .i64 q.op):=zA (Below.of_alloc w2 _) _ _ g2
   have g2d:(w2.alloc (.cells #[.int .i64 0,.bool false,.int .i64 0,.int .i64 0,.int .i64 0,.int .i64 0,.slice none 0 0,.slice none 0 0,.slice none 0 0] 51)).drew.cell? ⟨b,o+i*9+2,none⟩=some (.int .i64 q.op):=g2z;have g3z:(w2.alloc (.cells #[.int .i64 0,.bool false,.int .i64 0,.int .i64 0,.int .i64 0,.int .i64 0,.slice none 0 0,.slice none 0 0,.slice none 0 0] 51)).cell? ⟨b,o+i*9+2+1,none⟩=some (.int .i64 q.x):=zA (Below.of_alloc w2 _) _ _ g3;have g3d:(w2.alloc (.cells #[.int .i64 0,.bool false,.int .i64 0,.int .i64 0,.int .i64 0,.int .i64 0,.slice none 0 0,.slice none 0 0,.slice none 0 0] 51)).drew.cell? ⟨b,o+i*9+2+1,none⟩=some (.int .i64 q.x):=g3z;have g4z:(w2.alloc (.cells #[.int .i64 0,.bool false,.int .i64 0,.int .i64 0,.int .i64 0,.int .i64 0,.slice none 0 0,.slice none 0 0,.slice none 0 0] 51)).cell? ⟨b,o+i*9+2+2,none⟩=some (.int .i64 q.y):=zA (Below.of_alloc w2 _) _ _ g4;have g4d:(w2.alloc (.cells #[.int .i64 0,.bool false,.int .i64 0,.int .i64 0,.int .i64 0,.int .i64 0,.slice none 0 0,.slice none 0 0,.slice none 0 0] 51)).drew.cell? ⟨b,o+i*9+2+2,none⟩=some (.int .i64 q.y):=g4z;have g5z:(w2.alloc (.cells #[.int .i64 0,.bool false,.int .i64 0,.int .i64 0,.int .i64 0,.int .i64 0,.slice none 0 0,.slice none 0 0,.slice none 0 0] 51)).cell? ⟨b,o+i*9+2+3,none⟩=some (.int .i64 q.n):=zA (Below.of_alloc w2 _) _ _ g5
   have g5d:(w2.alloc (.cells #[.int .i64 0,.bool false,.int .i64 0,.int .i64 0,.int .i64 0,.int .i64 0,.slice none 0 0,.slice none 0 0,.slice none 0 0] 51)).drew.cell? ⟨b,o+i*9+2+3,none⟩=some (.int .i64 q.n):=g5z;have g6z:(w2.alloc (.cells #[.int .i64 0,.bool false,.int .i64 0,.int .i64 0,.int .i64 0,.int .i64 0,.slice none 0 0,.slice none 0 0,.slice none 0 0] 51)).cell? ⟨b,o+i*9+2+4,none⟩=some (.slice u4 q.ls.length c4):=zA (Below.of_alloc w2 _) _ _ g6;have g6d:(w2.alloc (.cells #[.int .i64 0,.bool false,.int .i64 0,.int .i64 0,.int .i64 0,.int .i64 0,.slice none 0 0,.slice none 0 0,.slice none 0 0] 51)).drew.cell? ⟨b,o+i*9+2+4,none⟩=some (.slice u4 q.ls.length c4):=g6z;have g7z:(w2.alloc (.cells #[.int .i64 0,.bool false,.int .i64 0,.int .i64 0,.int .i64 0,.int .i64 0,.slice none 0 0,.slice none 0 0,.slice none 0 0] 51)).cell? ⟨b,o+i*9+2+5,none⟩=some (.slice u5 q.body.len c5):=zA (Below.of_alloc w2 _) _ _ g7;have g7d:(w2.alloc (.cells #[.int .i64 0,.bool false,.int .i64 0,.int .i64 0,.int .i64 0,.int .i64 0,.slice none 0 0,.slice none 0 0,.slice none 0 0] 51)).drew.cell? ⟨b,o+i*9+2+5,none⟩=some (.slice u5 q.body.len c5):=g7z;have g8z:(w2.alloc (.cells #[.int .i64 0,.bool false,.int .i64 0,.int .i64 0,.int .i64 0,.int .i64 0,.slice none 0 0,.slice none 0 0,.slice none 0 0] 51)).cell? ⟨b,o+i*9+2+6,none⟩=some (.slice u6 q.els.len c6):=zA (Below.of_alloc w2 _) _ _ g8
   have g8d:(w2.alloc (.cells #[.int .i64 0,.bool false,.int .i64 0,.int .i64 0,.int .i64 0,.int .i64 0,.slice none 0 0,.slice none 0 0,.slice none 0 0] 51)).drew.cell? ⟨b,o+i*9+2+6,none⟩=some (.slice u6 q.els.len c6):=g8z;have y5z:(w2.alloc (.cells #[.int .i64 0,.bool false,.int .i64 0,.int .i64 0,.int .i64 0,.int .i64 0,.slice none 0 0,.slice none 0 0,.slice none 0 0] 51)).cell? ⟨p,5,none⟩=some (.slice (some ⟨b,o,none⟩) m.globals.length A.k5):=zA (Below.of_alloc w2 _) _ _ y5;have y5d:(w2.alloc (.cells #[.int .i64 0,.bool false,.int .i64 0,.int .i64 0,.int .i64 0,.int .i64 0,.slice none 0 0,.slice none 0 0,.slice none 0 0] 51)).drew.cell? ⟨p,5,none⟩=some (.slice (some ⟨b,o,none⟩) m.globals.length A.k5):=y5z;have x1z:(w2.alloc (.cells #[.int .i64 0,.bool false,.int .i64 0,.int .i64 0,.int .i64 0,.int .i64 0,.slice none 0 0,.slice none 0 0,.slice none 0 0] 51)).cell? ⟨B,1,none⟩=some (.int .i64 (i:Int)):=zA (Below.of_alloc w2 _) _ _ x1;have x1d:(w2.alloc (.cells #[.int .i64 0,.bool false,.int .i64 0,.int .i64 0,.int .i64 0,.int .i64 0,.slice none 0 0,.slice none 0 0,.slice none 0 0] 51)).drew.cell? ⟨B,1,none⟩=some (.int .i64 (i:Int)):=x1z;replace hq:=zh hq;replace h2:=zh h2;go_wp2_with fail
   go_cut [4] from 20 to 28 (λv4 wx=>∃b',v4=.pointer (some ⟨b',0,none⟩)/\Hid (w2.heap.size<=b')/\Hid (wx.heap[b']? =some (.cells #[.int .i64 t.1,.bool t.2,.int .i64 q.op,.int .i64 q.x,.int .i64 q.y,.int .i64 q.n,.slice u4 q.ls.length c4,.slice u5 q.body.len c5,.slice u6 q.els.len c6] 51 (0,0)))/\Hid (Below w2.heap.size w2 wx))
   case first=>
    go_region
    all_goals go_wp2_with fail
    all_goals go_meet
    all_goals exact⟨_,rfl,zh (Nat.le_refl _),zh (heap_alloc_new _ _),zh (by first |exact(Below.of_alloc w2 _).trans ((zB (w:=w2.alloc _) 1).mono (by simp)) |exact(zB (w:=w2) 1).trans ((Below.of_alloc w2.drew _).mono (by simp)))⟩
   case rest=>
    obtain⟨b',rfl,hbl,hb51,hbw⟩:=hcut;have h3:=h2.out.step hbw.out;have t3:=t2.step hbw.out;have hx3:=hx2.tw ho2 (.of_below hbw.out);have ho3:=(ho2.tw (.of_below hbw.out)).1
    have hob:Off wc p sv fv b':=by obtain⟨L,_,hL,_⟩:=h2.out.t.o.fs;have e1:=hbl.out;have e2:=lt_of_block h2.out.t.b;exact⟨lt_of_block hb51.out,by omega,λe=>by have:=(h2.out.t.o.st.lt _ e).2;omega,λe=>by have:=(hL.lt _ e).2;omega⟩
    have hc51:∀(w4:World) (sv4 fv4:Value),Tw p sv fv sv4 fv4 wc w4->w4.cell? ⟨b',0,none⟩=some (.int .i64 t.1)/\w4.cell? ⟨b',1,none⟩=some (.bool t.2):=λw4 sv4 fv4 tw=>by
     have hh:=(hob.tw tw).2.trans hb51.out;exact⟨by rw[cell_of_row _ b' 0 _ _ _ hh];rfl,by rw[cell_of_row _ b' 1 _ _ _ hh];rfl⟩
    replace hc51:=zh hc51;obtain⟨x0,x1,x2,x3,x4,x5,x6⟩:=hx3.c;obtain⟨v0,v1⟩:=hc51.out _ _ _ (.refl p sv fv wc);clear hb51 hbw h2 t2 hx2 ho2 hq y5 g0 g1 g2 g3 g4 g5 g6 g7 g8 hbl;clear g0z g0d g1z g1d g2z g2d g3z g3d g4z g4d g5z g5d g6z g6d g7z g7d g8z g8d y5z y5d x1z x1d
    rcases hop with rfl |rfl
    . have hpu:=zh (rpush1 h3.t t.1 hb);go_wp2_with fail;refine hpu.out.mono ?_;rintro e wz ⟨rfl,svz,hz,tz⟩;go_wp2;go_end0;rw[e0.out];exact⟨rfl,svz,hz,t3.trans tz⟩
    . by_cases hm:t.2=true
      . have e1:Hid (X=(zQ t.1 s).2):=zh (by rw[e0.out,if_neg (by decide),if_pos hm]);rw[hm]at v1;go_wp2_with fail;refine(qQ h3.t h3.wf t.1).mono ?_;rintro e w4 ⟨rfl,sv4,h4,t4⟩;go_wp2;go_end0;rw[e1.out];exact⟨rfl,sv4,h4,t3.trans t4⟩
      . have e1:Hid (X=(zQ t.1 (zR 62 s)).2):=zh (by rw[e0.out,if_neg (by decide),if_neg hm]);rw[Bool.not_eq_true]at hm;rw[hm]at v1;go_wp2_with fail;refine(xV h3.t 62).mono ?_;rintro e w4 ⟨rfl,h4,t4⟩;have g4:=jV h3.wf (e:=62) (by decide);obtain⟨v0,_⟩:=hc51.out _ _ _ t4;go_wp2_with fail;refine(qQ h4 g4.wf t.1).mono ?_;rintro e w5 ⟨rfl,sv5,h5,t5⟩;go_wp2;go_end0;rw[e1.out];exact⟨rfl,sv5,h5,(t3.trans t4).trans t5⟩
 . have e0:=rvarg_none hlt2 (E:=E) (a:=i) (s:=s) (List.getElem?_eq_none (by omega));rw[hX]at e0;subst e0;have i1:(m.globals.length:Int)<=(i:Int):=(by omega)
   clear ha hX hi hgl;go_enter Tryz.func112,Tryz.ntmps112
   go_upto_region 1 with(fail)
   rw[<-hw1];rw[<-hB]at x0 x1 x2 x3 x4 x5 x6 hx1 ho1 ⊢;clear hw1 hB;go_wp2_with fail
   go_quiet (fail)
   have h2:=h1.step (zB nq);have t2:=t1.step (zB nq);go_wp2_with fail;refine(xV h2.t 61).mono ?_;rintro e w3 ⟨rfl,h3,t3⟩;go_wp2;go_end0;exact⟨rfl,_,h3,t2.trans t3⟩
end
end Go.Proofs.YtacohbllbjgdgaaGreatDoor
namespace Go.Proofs.YtacohbllbjgdgaaGreatDoor
open Go.RowKit
section
variable {wa:World} {N p:Nat} {A:MA} {lv:Value} {m:Md} {E:Ev} {w w':World} {sv fv sv' fv':Value} {s u:Rs}
theorem rmem_0(h:Rx wa N p A lv m E w sv fv s)(op a y n:Int)(v4 v5 v6:Value)(hm:E.mems=0):Calls Tryz.prog 113 #[.pointer (some ⟨p,0,none⟩),zO op a y n v4 v5 v6] w (endO N p (A.v m) lv w sv fv (jJ E op a s)):=by
 obtain⟨w1,hw1,h1,hx1,ho1,t1⟩:=rbox h op a y n v4 v5 v6;unfold zO;obtain⟨B,hB⟩:∃B,B=w.heap.size:=⟨_,rfl⟩
 obtain⟨y0,y1,y2,y3,y4,y5,y6,y7,y8,y9⟩:=h1.t.c10;have hl:m.mems.length=0:=(by rw[<-h.e4];exact hm)
 replace y4:w1.cell? ⟨p,4,none⟩=some (.slice A.a4 m.mems.length A.k4):=y4;rw[hl]at y4;have e0:jJ E op a s=zR 61 s:=(by unfold jJ;rw[if_pos hm])
 rw[e0];clear hm;go_enter Tryz.func113,Tryz.ntmps113
 go_upto_region 1 with(fail)
 rw[<-hw1];clear hw1 hB;go_wp2_with fail;refine(xV h1.t 61).mono ?_;rintro e w3 ⟨rfl,h3,t3⟩;go_wp2;go_end0;exact⟨rfl,_,h3,t1.trans t3⟩
theorem Rx.memc(h:Rx wa N p A lv m E w sv fv s)(hm:0<E.mems):∃k:Nat,w.cell? ⟨p,4,none⟩=some (.slice A.a4 k A.k4)/\((k:Int)==0)=false:=by refine⟨m.mems.length,(h.t.c10).2.2.2.2.1,?_⟩;rw[h.e4]at hm;simp;intro e;rw[e]at hm;simp at hm
theorem rmem_63(h:Rx wa N p A lv m E w sv fv s)(op a y n:Int)(v4 v5 v6:Value)(hop:op=63\/op=64)(hm:0<E.mems)(hb:Lh s):Calls Tryz.prog 113 #[.pointer (some ⟨p,0,none⟩),zO op a y n v4 v5 v6] w (endO N p (A.v m) lv w sv fv (jJ E op a s)):=by
 obtain⟨w1,hw1,h1,hx1,ho1,t1⟩:=rbox h op a y n v4 v5 v6;unfold zO;obtain⟨B,hB⟩:∃B,B=w.heap.size:=⟨_,rfl⟩
 obtain⟨k,y4,hk⟩:=h1.memc hm;obtain⟨x0,x1,x2,x3,x4,x5,x6⟩:=hx1.c
 rcases hop with rfl |rfl
 . have e0:jJ E 63 a s=zZ [127] s:=(by unfold jJ;rw[if_neg (by omega),if_pos rfl])
   rw[e0];have hpu:=zh (rpush1 h1.t 127 hb);clear hm;go_enter Tryz.func113,Tryz.ntmps113
   go_upto_region 1 with(fail)
   rw[<-hw1];rw[<-hB]at x0 x1 x2 x3 x4 x5 x6 hx1 ho1 ⊢;clear hw1 hB;go_wp2_with fail;refine hpu.out.mono ?_;rintro e wz ⟨rfl,svz,hz,tz⟩;go_wp2;go_end0;exact⟨rfl,svz,hz,t1.trans tz⟩
 . have e0:jJ E 64 a s=zZ [127] (zQ 127 s).2:=(by unfold jJ;rw[if_neg (by omega),if_neg (by decide),if_pos rfl])
   rw[e0];clear hm;go_enter Tryz.func113,Tryz.ntmps113
   go_upto_region 1 with(fail)
   rw[<-hw1];rw[<-hB]at x0 x1 x2 x3 x4 x5 x6 hx1 ho1 ⊢;clear hw1 hB;go_wp2_with fail;refine(qQ h1.t h1.wf 127).mono ?_;rintro e w4 ⟨rfl,sv4,h4,t4⟩;have g4:=jF h1.wf 127;have hpu:=zh (rpush1 h4 127 (g4.lh hb));go_wp2_with fail;refine hpu.out.mono ?_;rintro e wz ⟨rfl,svz,hz,tz⟩;go_wp2;go_end0;exact⟨rfl,svz,hz,(t1.trans t4).trans tz⟩
theorem rmem_ls(h:Rx wa N p A lv m E w sv fv s)(op a y n:Int)(v4 v5 v6:Value)(ha:0<=a)(h63:op≠63)(h64:op≠64)(hm:0<E.mems)(hb:Lh s):Calls Tryz.prog 113 #[.pointer (some ⟨p,0,none⟩),zO op a y n v4 v5 v6] w (endO N p (A.v m) lv w sv fv (jJ E op a s)):=by
 obtain⟨w1,hw1,h1,hx1,ho1,t1⟩:=rbox h op a y n v4 v5 v6;unfold zO;obtain⟨B,hB⟩:∃B,B=w.heap.size:=⟨_,rfl⟩
 obtain⟨k,y4,hk⟩:=h1.memc hm;obtain⟨x0,x1,x2,x3,x4,x5,x6⟩:=hx1.c
 have e0:∀W T:Int,wideN op=W->wideT op=T->jJ E op a s=(if 54<=op then(zQ 127 (zQ T (if 3<a\/W<2^a.toNat then zR 60 s else s)).2).2 else zZ [T] (zQ 127 (if 3<a\/W<2^a.toNat then zR 60 s else s)).2):=λW T hW hT=>by
  subst hW;subst hT;unfold jJ;rw[if_neg (by omega),if_neg h63,if_neg h64];rfl
 have hWd:=λw=>wide_any op w;generalize jJ E op a s=X at e0 ⊢;replace e0:=e0 _ _ rfl rfl;generalize wideN op=W at e0 hWd;generalize wideT op=T at e0 hWd;replace e0:=zh e0;have b63:(op==63)=false:=(by simp[h63])
 have b64:(op==64)=false:=(by simp[h64])
 clear hm h63 h64
 have hcase:(3<a)\/((a=0\/a=1\/a=2\/a=3)/\W<2^a.toNat)\/((a=0\/a=1\/a=2\/a=3)/\¬W<2^a.toNat):=by
  by_cases c1:3<a
  . exact .inl c1
  . by_cases c2:W<2^a.toNat
    . exact .inr (.inl ⟨by omega,c2⟩)
    . exact .inr (.inr ⟨by omega,c2⟩)
 rcases hcase with hc |⟨hc,hl⟩ |⟨hc,hl⟩
 . replace e0:=e0.out;rw[if_pos (show 3<a\/W<2^a.toNat from .inl hc)]at e0
   by_cases hst:54<=op
   . rw[if_pos hst]at e0;replace e0:=zh e0;go_enter Tryz.func113,Tryz.ntmps113
     go_upto_region 1 with(fail)
     rw[<-hw1];rw[<-hB]at x0 x1 x2 x3 x4 x5 x6 hx1 ho1 ⊢;clear hw1 hB;go_wp2_with fail;refine(hWd _).mono ?_;rintro e w' ⟨rfl,rfl⟩;go_wp2_with fail;refine(xV h1.t 60).mono ?_;rintro e w2 ⟨rfl,h2,t2⟩;have hx2:=hx1.tw ho1 t2;have g2:=jV h1.wf (e:=60) (by decide);have hwf:=g2.wf;have hb2:=g2.lh hb;have t12:=t1.trans t2;clear x0 x1 x2 x3 x4 x5 x6;obtain⟨x0,x1,x2,x3,x4,x5,x6⟩:=hx2.c;go_wp2_with fail;refine(qQ h2 hwf T).mono ?_;rintro e w5 ⟨rfl,sv5,h5,t5⟩;have g5:=jF hwf T;go_wp2_with fail;refine(qQ h5 g5.wf 127).mono ?_;rintro e w6 ⟨rfl,sv6,h6,t6⟩;go_wp2;go_end0;rw[e0.out];exact⟨rfl,sv6,h6,(t12.trans t5).trans t6⟩
   . rw[if_neg hst]at e0;replace e0:=zh e0;go_enter Tryz.func113,Tryz.ntmps113
     go_upto_region 1 with(fail)
     rw[<-hw1];rw[<-hB]at x0 x1 x2 x3 x4 x5 x6 hx1 ho1 ⊢;clear hw1 hB;go_wp2_with fail;refine(hWd _).mono ?_;rintro e w' ⟨rfl,rfl⟩;go_wp2_with fail;refine(xV h1.t 60).mono ?_;rintro e w2 ⟨rfl,h2,t2⟩;have hx2:=hx1.tw ho1 t2;have g2:=jV h1.wf (e:=60) (by decide);have hwf:=g2.wf;have hb2:=g2.lh hb;have t12:=t1.trans t2;clear x0 x1 x2 x3 x4 x5 x6;obtain⟨x0,x1,x2,x3,x4,x5,x6⟩:=hx2.c;go_wp2_with fail;refine(qQ h2 hwf 127).mono ?_;rintro e w5 ⟨rfl,sv5,h5,t5⟩;have g5:=jF hwf 127;have hpu:=zh (rpush1 h5 T (g5.lh hb2));go_wp2_with fail;refine hpu.out.mono ?_;rintro e w6 ⟨rfl,sv6,h6,t6⟩;go_wp2;go_end0;rw[e0.out];exact⟨rfl,sv6,h6,(t12.trans t5).trans t6⟩
 . replace e0:=e0.out;rw[if_pos (show 3<a\/W<2^a.toNat from .inr hl)]at e0
   rcases hc with rfl |rfl |rfl |rfl
   all_goals(
    simp at hl
    by_cases hst:54<=op
    . rw[if_pos hst]at e0;replace e0:=zh e0;go_enter Tryz.func113,Tryz.ntmps113
      go_upto_region 1 with(fail)
      rw[<-hw1];rw[<-hB]at x0 x1 x2 x3 x4 x5 x6 hx1 ho1 ⊢;clear hw1 hB;go_wp2_with fail;refine(hWd _).mono ?_;rintro e w' ⟨rfl,rfl⟩;go_wp2_with fail;refine(xV h1.t 60).mono ?_;rintro e w2 ⟨rfl,h2,t2⟩;have hx2:=hx1.tw ho1 t2;have g2:=jV h1.wf (e:=60) (by decide);have hwf:=g2.wf;have hb2:=g2.lh hb;have t12:=t1.trans t2;clear x0 x1 x2 x3 x4 x5 x6;obtain⟨x0,x1,x2,x3,x4,x5,x6⟩:=hx2.c;go_wp2_with fail;refine(qQ h2 hwf T).mono ?_;rintro e w5 ⟨rfl,sv5,h5,t5⟩;have g5:=jF hwf T;go_wp2_with fail;refine(qQ h5 g5.wf 127).mono ?_;rintro e w6 ⟨rfl,sv6,h6,t6⟩;go_wp2;go_end0;rw[e0.out];exact⟨rfl,sv6,h6,(t12.trans t5).trans t6⟩
    . rw[if_neg hst]at e0;replace e0:=zh e0;go_enter Tryz.func113,Tryz.ntmps113
      go_upto_region 1 with(fail)
      rw[<-hw1];rw[<-hB]at x0 x1 x2 x3 x4 x5 x6 hx1 ho1 ⊢;clear hw1 hB;go_wp2_with fail;refine(hWd _).mono ?_;rintro e w' ⟨rfl,rfl⟩;go_wp2_with fail;refine(xV h1.t 60).mono ?_;rintro e w2 ⟨rfl,h2,t2⟩;have hx2:=hx1.tw ho1 t2;have g2:=jV h1.wf (e:=60) (by decide);have hwf:=g2.wf;have hb2:=g2.lh hb;have t12:=t1.trans t2;clear x0 x1 x2 x3 x4 x5 x6;obtain⟨x0,x1,x2,x3,x4,x5,x6⟩:=hx2.c;go_wp2_with fail;refine(qQ h2 hwf 127).mono ?_;rintro e w5 ⟨rfl,sv5,h5,t5⟩;have g5:=jF hwf 127;have hpu:=zh (rpush1 h5 T (g5.lh hb2));go_wp2_with fail;refine hpu.out.mono ?_;rintro e w6 ⟨rfl,sv6,h6,t6⟩;go_wp2;go_end0;rw[e0.out];exact⟨rfl,sv6,h6,(t12.trans t5).trans t6⟩)
 . replace e0:=e0.out;rw[if_neg (show¬(3<a\/W<2^a.toNat) fromλq=>q.elim (λq=>by omega) hl)]at e0
   rcases hc with rfl |rfl |rfl |rfl
   all_goals(
    simp at hl
    by_cases hst:54<=op
    . rw[if_pos hst]at e0;replace e0:=zh e0;go_enter Tryz.func113,Tryz.ntmps113
      go_upto_region 1 with(fail)
      rw[<-hw1];rw[<-hB]at x0 x1 x2 x3 x4 x5 x6 hx1 ho1 ⊢;clear hw1 hB;go_wp2_with fail;refine(hWd _).mono ?_;rintro e w' ⟨rfl,rfl⟩;go_wp2_with fail;refine(qQ h1.t h1.wf T).mono ?_;rintro e w5 ⟨rfl,sv5,h5,t5⟩;have g5:=jF h1.wf T;go_wp2_with fail;refine(qQ h5 g5.wf 127).mono ?_;rintro e w6 ⟨rfl,sv6,h6,t6⟩;go_wp2;go_end0;rw[e0.out];exact⟨rfl,sv6,h6,(t1.trans t5).trans t6⟩
    . rw[if_neg hst]at e0;replace e0:=zh e0;go_enter Tryz.func113,Tryz.ntmps113
      go_upto_region 1 with(fail)
      rw[<-hw1];rw[<-hB]at x0 x1 x2 x3 x4 x5 x6 hx1 ho1 ⊢;clear hw1 hB;go_wp2_with fail;refine(hWd _).mono ?_;rintro e w' ⟨rfl,rfl⟩;go_wp2_with fail;refine(qQ h1.t h1.wf 127).mono ?_;rintro e w5 ⟨rfl,sv5,h5,t5⟩;have g5:=jF h1.wf 127;have hpu:=zh (rpush1 h5 T (g5.lh hb));go_wp2_with fail;refine hpu.out.mono ?_;rintro e w6 ⟨rfl,sv6,h6,t6⟩;go_wp2;go_end0;rw[e0.out];exact⟨rfl,sv6,h6,(t1.trans t5).trans t6⟩)
end
end Go.Proofs.YtacohbllbjgdgaaGreatDoor
namespace Go.Proofs.YtacohbllbjgdgaaGreatDoor
open Go.RowKit
section
variable {wa:World} {N p:Nat} {A:MA} {lv:Value} {m:Md} {E:Ev} {w w':World} {sv fv sv' fv':Value} {s u:Rs}
def endV2 (N p:Nat) (M:M10) (lv:Value) (w:World) (sv fv:Value) (s:Rs) (a:Int) (e:Ending) (w':World):Prop:=
 ∃v,e=.returned (.tuple #[v,.bool (decide (qX a s))])/\(qX a s->∃ga gc,v=.slice ga (qT a s).length gc/\LiB w' p sv fv ga (qT a s))/\RcP N p M lv w' sv fv (if qX a s then s else zR 61 s)/\Tw p sv fv sv fv w w'
theorem rlabel_v{M:M10}(h:RcP N p M lv w sv fv s)(a:Int):Calls Tryz.prog 108 #[.pointer (some ⟨p,0,none⟩),.int .i64 a] w (endV2 N p M lv w sv fv s a):=by
 refine(rlabel_any h a).mono ?_;rintro e w' ⟨h1,h2⟩
 by_cases hr:qX a s
 . rw[if_pos hr]at h1;obtain⟨⟨ga,gc,rfl,l⟩,h3⟩:=h1;exact⟨_,by rw[decide_eq_true hr],λ_=>⟨ga,gc,rfl,l⟩,by rw[if_pos hr];exact h3,h2⟩
 . rw[if_neg hr]at h1;obtain⟨rfl,h3⟩:=h1;exact⟨_,by rw[decide_eq_false hr],λq=>absurd q hr,by rw[if_neg hr];exact h3,h2⟩
theorem bad_fs(e:Int)(s:Rs):(zR e s).fs=s.fs:=by unfold zR;split<;>rfl
theorem has_fs{a:Int}{s u:Rs}(h:u.fs=s.fs):qX a u↔qX a s:=by unfold qX;rw[h]
theorem lab_fs{a:Int}{s u:Rs}(h:u.fs=s.fs):qT a u=qT a s:=by unfold qT;rw[h]
theorem oks_fs:∀(l:List Int) {s:Rs},(rOks l s).2.fs=s.fs
 | [],s=>rfl
 |n::r,s=>by
   show(rOks r (if qX n s then s else zR 61 s)).2.fs=s.fs
   rw[oks_fs r];split
   . rfl
   . exact bad_fs _ _
theorem pop_fs{t:Int}{s:Rs}(h:RWf s):(zQ t s).2.fs=s.fs:=by
 unfold zQ;split
 . split
   . rfl
   . split
     . dsimp only
       split
       . rfl
       . exact bad_fs _ _
     . split
       . rfl
       . dsimp only
         split
         . exact bad_fs _ _
         . rfl
 . rfl
theorem rtable_any(h:Rx wa N p A lv m E w sv fv s)(op a y n:Int){ls:List Int}{la:Option Addr}{lc:Nat}(hl:LiB w p sv fv la ls)(v5 v6:Value):Calls Tryz.prog 109 #[.pointer (some ⟨p,0,none⟩),zO op a y n (.slice la ls.length lc) v5 v6] w (endO N p (A.v m) lv w sv fv (rTable a ls s)):=by
 obtain⟨w1,hw1,h1,hx1,ho1,t1⟩:=rbox h op a y n (.slice la ls.length lc) v5 v6;unfold zO;obtain⟨B,hB⟩:∃B,B=w.heap.size:=⟨_,rfl⟩
 obtain⟨x0,x1,x2,x3,x4,x5,x6⟩:=hx1.c;have hl63:=hl.1.1;generalize hX:rTable a ls s=X;replace hX:=zh hX;replace hl:=zh hl;go_enter Tryz.func109,Tryz.ntmps109
 go_upto_region 1 with(fail)
 rw[<-hw1];rw[<-hB]at x0 x1 x2 x3 x4 x5 x6 hx1 ho1 ⊢;clear hw1 hB;go_wp2_with fail;refine(rlabel_v h1.t a).mono ?_;rintro e w2 ⟨v4,rfl,hv4,h2,d2⟩;have t2:=t1.trans d2;have hx2:=hx1.tw ho1 d2;have ho2:=(ho1.tw d2).1
 have g2:Gr 0 s (if qX a s then s else zR 61 s):=by
  split
  . exact .refl h.wf
  . exact jV h.wf (by decide)
 have hq0:Hid (X=if(decide (qX a s)&&(rOks (ls.drop 0) (if qX a s then s else zR 61 s)).1)=true then jY (jI (qT a s) (rLike (qT a s) ls (zQ 127 (rOks (ls.drop 0) (if qX a s then s else zR 61 s)).2).2))else(rOks (ls.drop 0) (if qX a s then s else zR 61 s)).2):=zh (by
  rw[<-hX.out];unfold rTable;have e:rOks (a::ls) s=(decide (qX a s)&&(rOks ls (if qX a s then s else zR 61 s)).1,(rOks ls (if qX a s then s else zR 61 s)).2):=rfl;have el:qT a (rOks (a::ls) s).2=qT a s:=lab_fs (oks_fs _)
  dsimp only
  rw[el,e,List.drop_zero])
 have hst0:Hid (Rx wa N p A lv m E w2 sv fv (if qX a s then s else zR 61 s)/\Tw p sv fv sv fv w w2/\Bx w2 B op a y n (.slice la ls.length lc) v5 v6/\Off w2 p sv fv B/\(if qX a s then s else zR 61 s).fs=s.fs/\(qX a s->∃ga gc,v4=.slice ga (qT a s).length gc/\LiB w2 p sv fv ga (qT a s))):=
  zh ⟨h1.go g2.wf h2 d2,t2,hx2,ho2,(by
   split
   . rfl
   . exact bad_fs _ _),hv4⟩
 generalize (if qX a s then s else zR 61 s)=s0 at hq0 hst0;generalize hok:decide (qX a s)=ok0 at hq0;replace hok:=zh hok;clear h1 hx1 ho1 t1 d2 t2 hx2 ho2 hv4 g2 h2 hX x0 x1 x2 x3 x4 x5 x6;go_wp2_with fail;go_loopw [5,6] (λvo vi wr=>∃(i:Nat) (ok:Bool) (si:Rs),vo=.bool ok/\vi=.int .i64 i/\i<=ls.length/\Hid (X=if(ok&&(rOks (ls.drop i) si).1)=true then jY (jI (qT a s) (rLike (qT a s) ls (zQ 127 (rOks (ls.drop i) si).2).2))else(rOks (ls.drop i) si).2)/\Hid (ok=true->qX a s/\∀x∈ls.take i,qX x s)/\Hid (Rx wa N p A lv m E wr sv fv si/\Tw p sv fv sv fv w wr/\Bx wr B op a y n (.slice la ls.length lc) v5 v6/\Off wr p sv fv B/\si.fs=s.fs/\(qX a s->∃ga gc,v4=.slice ga (qT a s).length gc/\LiB wr p sv fv ga (qT a s)))) (λ_ vi _=>ls.length-(intOf vi).toNat)
 case atStart=>exact⟨0,ok0,s0,rfl,rfl,Nat.zero_le _,hq0,zh (λq=>⟨of_decide_eq_true (hok.out.trans q),by simp⟩),hst0⟩
 case round=>
  clear hq0 hst0 hok;obtain⟨i,ok,si,rfl,rfl,hi,hq,hall,hst⟩:=hrel;obtain⟨h1,t1,hx1,ho1,hfs,hv4⟩:=hst.out;obtain⟨x0,x1,x2,x3,x4,x5,x6⟩:=hx1.c
  by_cases hlt:i<ls.length
  . obtain⟨x,hx⟩:∃x,ls[i]? =some x:=⟨_,List.getElem?_eq_getElem hlt⟩
    have hli:=hl.out.tw t1;obtain⟨b,o,rfl,hcx⟩:=hli.1.at hx;have hd:ls.drop i=x::ls.drop (i+1):=(by rw[List.drop_eq_getElem_cons hlt,(List.getElem?_eq_some_iff.1 hx).2])
    have i0:(0:Int)<=(i:Int):=(by omega)
    have hq1:Hid (X=if((ok&&decide (qX x si))&&(rOks (ls.drop (i+1)) (if qX x si then si else zR 61 si)).1)=true then jY (jI (qT a s) (rLike (qT a s) ls (zQ 127 (rOks (ls.drop (i+1)) (if qX x si then si else zR 61 si)).2).2))else(rOks (ls.drop (i+1)) (if qX x si then si else zR 61 si)).2):=zh (by
     have:=hq.out;rw[hd]at this;rw[this];have e:rOks (x::ls.drop (i+1)) si=(decide (qX x si)&&(rOks (ls.drop (i+1)) (if qX x si then si else zR 61 si)).1,(rOks (ls.drop (i+1)) (if qX x si then si else zR 61 si)).2):=rfl;rw[e]
     dsimp only
     rw[Bool.and_assoc])
    have hall1:Hid ((ok&&decide (qX x si))=true->qX a s/\∀x∈ls.take (i+1),qX x s):=zh (λq=>by
     rw[Bool.and_eq_true]at q;obtain⟨q1,q2⟩:=hall.out q.1;refine⟨q1,λz hz=> ?_⟩;rw[List.take_add_one,hx]at hz
     rcases List.mem_append.1 hz with hz |hz
     . exact q2 z hz
     . simp at hz;subst hz;exact(has_fs hfs).1 (of_decide_eq_true q.2))
    have gg:Gr 0 si (if qX x si then si else zR 61 si):=by
     split
     . exact .refl h1.wf
     . exact jV h1.wf (by decide)
    have hff:(if qX x si then si else zR 61 si).fs=s.fs:=by
     split
     . exact hfs
     . exact(bad_fs _ _).trans hfs
    have hlab:=rlabel_v h1.t x;clear hq hall hst hd hx;replace hlt:=zh hlt;unfold endV2 at hlab;generalize decide (qX x si)=dx at hq1 hall1 hlab;cases ok
    all_goals(
     go_wp2_with fail;refine hlab.mono ?_;rintro e w3 ⟨vx,rfl,_,h3,d3⟩;have hx3:=hx1.tw ho1 d3;have ho3:=(ho1.tw d3).1
     have hst3:Hid (Rx wa N p A lv m E w3 sv fv (if qX x si then si else zR 61 si)/\Tw p sv fv sv fv w w3/\Bx w3 B op a y n (.slice (some ⟨b,o,none⟩) ls.length lc) v5 v6/\Off w3 p sv fv B/\(if qX x si then si else zR 61 si).fs=s.fs/\(qX a s->∃ga gc,v4=.slice ga (qT a s).length gc/\LiB w3 p sv fv ga (qT a s))):=
      zh ⟨h1.go gg.wf h3 d3,t1.trans d3,hx3,ho3,hff,λq=>by obtain⟨ga,gc,e,l⟩:=hv4 q;exact⟨ga,gc,e,l.tw d3⟩⟩
     clear h1 t1 hx1 ho1 hv4 x0 x1 x2 x3 x4 x5 x6 h3 d3 hx3 ho3;go_wp2_with fail
     go_roundw
     case rel=>exact⟨i+1,_,_,rfl,by simp,by have:=hlt.out;omega,hq1,hall1,hst3⟩
     case measure=>simp[intOf];have:=hlt.out;omega)
  . obtain rfl:i=ls.length:=by omega
    have hq1:Hid (X=if ok=true then jY (jI (qT a s) (rLike (qT a s) ls (zQ 127 si).2))else si):=zh (by
     have:=hq.out;rw[List.drop_length]at this;rw[this]
     show(if(ok&&true)=true then _ else _)=_
     rw[Bool.and_true];rfl)
    clear hq;cases hok:ok with
    |false=>rw[hok]at hq1;have e1:X=si:=hq1.out;subst hok;go_wp2;go_end0;rw[e1];exact⟨rfl,_,h1.t,t1⟩
    |true=>
      subst hok;have e1:Hid (X=jY (jI (qT a s) (rLike (qT a s) ls (zQ 127 si).2))):=hq1;obtain⟨hra,hrl⟩:=hall.out rfl;rw[List.take_length]at hrl;obtain⟨ga,gc,rfl,hlg⟩:=hv4 hra;replace hrl:=zh hrl;clear hq1 hall hlt;go_wp2_with fail;refine(qQ h1.t h1.wf 127).mono ?_;rintro e w3 ⟨rfl,sv3,h3,d3⟩;have g3:=jF h1.wf 127;have hx3:=hx1.tw ho1 d3;have ho3:=(ho1.tw d3).1
      have hst3:Hid (Rx wa N p A lv m E w3 sv3 fv (zQ 127 si).2/\Tw p sv fv sv3 fv w w3/\Bx w3 B op a y n (.slice la ls.length lc) v5 v6/\Off w3 p sv3 fv B/\(zQ 127 si).2.fs=s.fs/\LiB w3 p sv3 fv ga (qT a s)):=
       zh ⟨h1.go g3.wf h3 d3,t1.trans d3,hx3,ho3,(pop_fs h1.wf).trans hfs,hlg.tw d3⟩
      have e2:Hid (X=jY (jI (qT a s) (rLike (qT a s) (ls.drop 0) (zQ 127 si).2))):=e1;generalize (zQ 127 si).2=s3 at hst3 e2;clear h1 t1 hx1 ho1 hlg x0 x1 x2 x3 x4 x5 x6 h3 d3 hx3 ho3 e1 hfs g3 hv4 hst;go_wp2_with fail;go_loopw [9] (λvi wr=>∃(i:Nat) (sj:Rs),vi=.int .i64 i/\i<=ls.length/\Hid (X=jY (jI (qT a s) (rLike (qT a s) (ls.drop i) sj)))/\Hid (Rx wa N p A lv m E wr sv3 fv sj/\Tw p sv fv sv3 fv w wr/\Bx wr B op a y n (.slice la ls.length lc) v5 v6/\Off wr p sv3 fv B/\sj.fs=s.fs/\LiB wr p sv3 fv ga (qT a s))) (λvi _=>ls.length-(intOf vi).toNat)
      case atStart=>exact⟨0,s3,rfl,Nat.zero_le _,e2,hst3⟩
      case round=>
       clear e2 hst3;obtain⟨i,sj,rfl,hi,hq,hst⟩:=hrel;obtain⟨h1,t1,hx1,ho1,hfs,hlg⟩:=hst.out;obtain⟨x0,x1,x2,x3,x4,x5,x6⟩:=hx1.c
       by_cases hlt:i<ls.length
       . obtain⟨x,hx⟩:∃x,ls[i]? =some x:=⟨_,List.getElem?_eq_getElem hlt⟩
         have hli:=hl.out.tw t1;obtain⟨b,o,rfl,hcx⟩:=hli.1.at hx;have hd:ls.drop i=x::ls.drop (i+1):=(by rw[List.drop_eq_getElem_cons hlt,(List.getElem?_eq_some_iff.1 hx).2])
         have hrx:qX x sj:=(has_fs hfs).2 (hrl.out x (List.mem_of_getElem? hx));have i0:(0:Int)<=(i:Int):=(by omega)
         have hq1:Hid (X=jY (jI (qT a s) (rLike (qT a s) (ls.drop (i+1)) (if qT x sj=qT a s then sj else zR 60 sj)))):=zh (by
          have:=hq.out;rw[hd]at this;exact this)
         have hlab:=rlabel_v h1.t x;unfold endV2 at hlab;rw[decide_eq_true hrx,if_pos hrx]at hlab;clear hq hst hd hx;replace hlt:=zh hlt;replace hfs:=zh hfs;go_wp2_with fail;refine hlab.mono ?_;rintro e w4 ⟨vx,rfl,hvx,h4,d4⟩;obtain⟨gx,gxc,rfl,hlx⟩:=hvx hrx;have hx4:=hx1.tw ho1 d4;have ho4:=(ho1.tw d4).1;have hlg4:=hlg.tw d4;clear hlab hvx x0 x1 x2 x3 x4 x5 x6 hcx;go_wp2_with fail;refine(vS _ _ _ _ _ _ _ hlx.1 hlg4.1).mono ?_;rintro e w5 ⟨rfl,k5,rfl⟩;have d5:Tw p sv3 fv sv3 fv w4 (w4.drewN k5):=.of_below (zB k5);have hx5:=hx4.tw ho4 d5;have ho5:=(ho4.tw d5).1;have h5:=(h1.go h1.wf h4 d4).step (zB k5);have hlg5:=hlg4.tw d5
         by_cases hsm:qT x sj=qT a s
         . rw[if_pos hsm]at hq1;rw[decide_eq_true hsm]
           have hst6:Hid (Rx wa N p A lv m E (w4.drewN k5) sv3 fv sj/\Tw p sv fv sv3 fv w (w4.drewN k5)/\Bx (w4.drewN k5) B op a y n (.slice (some ⟨b,o,none⟩) ls.length lc) v5 v6/\Off (w4.drewN k5) p sv3 fv B/\sj.fs=s.fs/\LiB (w4.drewN k5) p sv3 fv ga (qT a s)):=
            zh ⟨h5,(t1.trans d4).trans d5,hx5,ho5,hfs.out,hlg5⟩
           clear h1 t1 hx1 ho1 hlg h4 d4 hx4 ho4 hlg4 hlx d5 hx5 ho5 h5 hlg5 hsm;go_wp2
           go_roundw
           case rel=>exact⟨i+1,_,by simp,by have:=hlt.out;omega,hq1,hst6⟩
           case measure=>simp[intOf];have:=hlt.out;omega
         . rw[if_neg hsm]at hq1;rw[decide_eq_false hsm];have gb:=jV h1.wf (e:=60) (by decide);go_wp2_with fail;refine(xV h5.t 60).mono ?_;rintro e w6 ⟨rfl,h6,d6⟩
           have hst6:Hid (Rx wa N p A lv m E w6 sv3 fv (zR 60 sj)/\Tw p sv fv sv3 fv w w6/\Bx w6 B op a y n (.slice (some ⟨b,o,none⟩) ls.length lc) v5 v6/\Off w6 p sv3 fv B/\(zR 60 sj).fs=s.fs/\LiB w6 p sv3 fv ga (qT a s)):=
            zh ⟨h5.go gb.wf h6 d6,((t1.trans d4).trans d5).trans d6,hx5.tw ho5 d6,(ho5.tw d6).1,(bad_fs _ _).trans hfs.out,hlg5.tw d6⟩
           clear h1 t1 hx1 ho1 hlg h4 d4 hx4 ho4 hlg4 hlx d5 hx5 ho5 h5 hlg5 hsm h6 d6;go_wp2
           go_roundw
           case rel=>exact⟨i+1,_,by simp,by have:=hlt.out;omega,hq1,hst6⟩
           case measure=>simp[intOf];have:=hlt.out;omega
       . obtain rfl:i=ls.length:=by omega
         have e1:Hid (X=jY (jI (qT a s) sj)):=zh (by
          have:=hq.out;rw[List.drop_length]at this;exact this)
         clear hq hlt;have gp:=gr_popL h1.wf (qT a s);go_wp2_with fail;refine(rpops_any h1.t h1.wf hlg).mono ?_;rintro e w4 ⟨rfl,sv4,h4,d4⟩;go_wp2_with fail;refine(rdead_any h4 gp.wf).mono ?_;rintro e w5 ⟨rfl,sv5,h5,d5⟩;go_wp2;go_end0;rw[e1.out];exact⟨rfl,sv5,h5,(t1.trans d4).trans d5⟩
end
end Go.Proofs.YtacohbllbjgdgaaGreatDoor
