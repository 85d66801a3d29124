/- The reference's checker of a body: calls through a table; variables, memory, what reckons. -/
import Derived.Test.YtacohbllbjgdgaaGreatDoorZj
import Derived.Test.YtacohbllbjgdgaaGreatDoorXl
set_option linter.all false
set_option maxRecDepth 100000
set_option maxHeartbeats 8000000
namespace Go.Proofs.YtacohbllbjgdgaaGreatDoor
open Go.RowKit
section
variable {wa:World} {N p:Nat} {A:MA} {lv:Value} {m:Md} {E:Ev} {w w':World} {sv fv sv' fv':Value} {s u:Rs}
theorem ri_17 (h:Rx wa N p A lv m E w sv fv s) (hE:EnvM m E) (a y n:Int) (v4 v5 v6:Value) (ha:0<=a) (hb:Lh s):
 Calls Tryz.prog 84 #[.pointer (some ⟨p,0,none⟩),zO 17 a y n v4 v5 v6] w (endO N p (A.v m) lv w sv fv (if E.tables=0 then zQ 61 s else match E.types[a.toNat]? with |some t=>rCall t (zP 127 s).2 |none=>zQ 61 s)):=by
 obtain⟨w1,hw1,h1,hx1,ho1,t1⟩:=rbox h 17 a y n v4 v5 v6;unfold zO;obtain⟨B,hB⟩:∃B,B=w.heap.size:=⟨_,rfl⟩
 obtain⟨x0,x1,x2,x3,x4,x5,x6⟩:=hx1.c;obtain⟨y0,y1,y2,y3,y4,y5,y6,y7,y8,y9⟩:=h1.t.c10;obtain⟨i,rfl⟩:∃i:Nat,a=i:=⟨a.toNat,by omega⟩
 replace y3:w1.cell? ⟨p,3,none⟩=some (.slice A.a3 m.tables.length A.k3):=y3;replace y0:w1.cell? ⟨p,0,none⟩=some (.slice A.a0 m.types.length A.k0):=y0;rw[Int.toNat_natCast,h.e1,h.e3];have l63:=h.mdw.types.1
 by_cases h0:m.tables.length=0
 . rw[if_pos h0];rw[h0]at y3;go_enter Tryz.func84,Tryz.ntmps84
   go_upto_region 1 with(fail)
   rw[<-hw1];rw[<-hB]at x0 x1 x2 x3 x4 x5 x6 hx1 ho1 ⊢;clear hw1 hB ha;go_wp2_with fail
   go_quiet (fail)
   have h2:=h1.step (zB nq);have t2:=t1.step (zB nq);go_wp2_with fail;refine(j8 h2.t 61).mono ?_;rintro e w4 ⟨rfl,h4,d4⟩;go_wp2;go_end0;exact⟨rfl,_,h4,t2.trans d4⟩
 . rw[if_neg h0];have hk:((m.tables.length:Int)==0)=false:=(by simp[h0])
   by_cases hi:i<m.types.length
   . obtain⟨t,ht⟩:∃t,m.types[i]? =some t:=⟨_,List.getElem?_eq_getElem hi⟩
     rw[ht]
     dsimp only
     have i0:(0:Int)<=(i:Int):=(by omega)
     have i1:(i:Int)<(m.types.length:Int):=(by omega)
     have i2:¬(m.types.length:Int)<=(i:Int):=(by omega)
     have i3:decide ((m.types.length:Int)<=(i:Int))=false:=decide_eq_false i2;clear h0;go_enter Tryz.func84,Tryz.ntmps84
     go_upto_region 1 with(fail)
     rw[<-hw1];rw[<-hB]at x0 x1 x2 x3 x4 x5 x6 hx1 ho1 ⊢;clear hw1 hB ha;go_wp2_with fail
     go_quiet (fail)
     have h2:=h1.step (zB nq);have t2:=t1.step (zB nq);have hx2:=hx1.tw ho1 (.of_below (zB nq));have ho2:=(ho1.tw (.of_below (zB nq))).1;obtain⟨w2,hw2⟩:∃w2,w2=w1.drewN nq:=⟨_,rfl⟩
     rw[<-hw2]at h2 t2 hx2 ho2 ⊢;clear hw2 h1 t1 hx1 ho1 x0 x1 x2 x3 x4 x5 x6 y0 y1 y2 y3 y4 y5 y6 y7 y8 y9 i3 hk;go_wp2_with fail;refine(qL h2.t h2.wf 127).mono ?_;rintro e w3 ⟨rfl,sv3,h3',d3⟩;have g3:=jA h2.wf 127;have h3:=h2.go g3.wf h3' d3;have t3:=t2.trans d3;have hx3:=hx2.tw ho2 d3;have ho3:=(ho2.tw d3).1;have hb3:=g3.lh hb;clear h2 t2 hx2 ho2 h3' d3 g3;obtain⟨x0,x1,x2,x3,x4,x5,x6⟩:=hx3.c;have y0:w3.cell? ⟨p,0,none⟩=some (.slice A.a0 m.types.length A.k0):=h3.t.c10.1;obtain⟨b0,o0,hA0,⟨pa,pc,c0,j1⟩,⟨ra,rc,c1,j2⟩⟩:=h3.md.types.row ht;replace c0:=zA h3.b _ _ c0;replace c1:=zA h3.b _ _ c1;rw[hA0]at y0;replace hA0:=zh hA0;have h4:=h3.step (w':=w3.drew) (zB (w:=w3) 1);have t4:=t3.step (c:=w3.drew) (zB (w:=w3) 1);have hcl:=rcall_any (pc:=pc) (rc:=rc) h4 (h4.old j1) (h4.old j2) (hE.r.types t (by rw[h.e1];exact List.mem_of_getElem? ht)) hb3;replace hcl:=zh hcl;replace ht:=zh ht;go_wp2_with fail;refine wp_region_still_tail 10 (by kernel_rfl) (by kernel_rfl) ?_;simp only[List.take_succ_cons,List.take_zero,List.drop_succ_cons,List.drop_zero]
     repeat still_step
     refine wpStill_nil ?_;change wpList _ _ _ _ _ w3.drew;go_wp2_with fail;refine hcl.out.mono ?_;rintro e w5 ⟨rfl,sv5,h5,d5⟩;go_wp2;go_end0;exact⟨rfl,_,h5,t4.trans d5⟩
   . have ht:m.types[i]? =none:=List.getElem?_eq_none (by omega);rw[ht]
     dsimp only
     have i1:(m.types.length:Int)<=(i:Int):=(by omega)
     clear h0 ht hi;go_enter Tryz.func84,Tryz.ntmps84
     go_upto_region 1 with(fail)
     rw[<-hw1];rw[<-hB]at x0 x1 x2 x3 x4 x5 x6 hx1 ho1 ⊢;clear hw1 hB ha;go_wp2_with fail
     go_quiet (fail)
     have h2:=h1.step (zB nq);have t2:=t1.step (zB nq);go_wp2_with fail;refine(j8 h2.t 61).mono ?_;rintro e w4 ⟨rfl,h4,d4⟩;go_wp2;go_end0;exact⟨rfl,_,h4,t2.trans d4⟩
end
end Go.Proofs.YtacohbllbjgdgaaGreatDoor
namespace Go.Proofs.YtacohbllbjgdgaaGreatDoor
open Go.RowKit
structure Nots (op:Int):Prop where
 is:(op==0)=false/\(op==1)=false/\(op==2)=false/\(op==3)=false/\(op==4)=false/\(op==12)=false/\(op==13)=false/\(op==14)=false/\(op==15)=false/\(op==16)=false/\(op==17)=false/\(op==26)=false/\(op==27)=false/\(op==65)=false/\(op==66)=false
theorem nots_of{op:Int}(h:op≠0/\op≠1/\op≠2/\op≠3/\op≠4/\op≠12/\op≠13/\op≠14/\op≠15/\op≠16/\op≠17/\op≠26/\op≠27/\op≠65/\op≠66):Nots op:=by refine⟨?_⟩;simp only[beq_eq_false_iff_ne];exact h
section
variable {wa:World} {N p:Nat} {A:MA} {lv:Value} {m:Md} {E:Ev} {w w':World} {sv fv sv' fv':Value} {s u:Rs}
theorem ri_var(h:Rx wa N p A lv m E w sv fv s)(op a y n:Int)(v4 v5 v6:Value)(ha:0<=a)(hb:Lh s)(hop:32<=op/\op<=36)(hf:zG op=6):Calls Tryz.prog 84 #[.pointer (some ⟨p,0,none⟩),zO op a y n v4 v5 v6] w (endO N p (A.v m) lv w sv fv (qQ E op a s)):=by
 obtain⟨w1,hw1,h1,hx1,ho1,t1⟩:=rbox h op a y n v4 v5 v6
 have hc:Calls Tryz.prog 112 #[.pointer (some ⟨p,0,none⟩),zO op a y n v4 v5 v6] w1 (endO N p (A.v m) lv w1 sv fv (qQ E op a s)):=by
  by_cases h35:35<=op
  . exact rvar_hi h1 op a y n v4 v5 v6 (by omega) ha hb
  . exact rvar_lo h1 op a y n v4 v5 v6 (by omega) ha hb
 unfold zO at hc ⊢;obtain⟨B,hB⟩:∃B,B=w.heap.size:=⟨_,rfl⟩
 obtain⟨x0,x1,x2,x3,x4,x5,x6⟩:=hx1.c;obtain⟨⟨n0,n1,n2,n3,n4,n5,n6,n7,n8,n9,n10,n11,n12,n13,n14⟩⟩:=nots_of (op:=op) (by omega);have hF:=λw=>jY op w;rw[hf]at hF;go_enter Tryz.func84,Tryz.ntmps84
 go_upto_region 1 with(fail)
 rw[<-hw1];rw[<-hB]at x0 x1 x2 x3 x4 x5 x6 hx1 ho1 ⊢;clear hw1 hB;go_wp2_with fail;refine(hF _).mono ?_;rintro e w' ⟨rfl,rfl⟩;go_wp2_with fail;refine hc.mono ?_;rintro e w2 ⟨rfl,sv2,h2,d2⟩;go_wp2;go_end0;exact⟨rfl,_,h2,t1.trans d2⟩
theorem ri_mem(h:Rx wa N p A lv m E w sv fv s)(op a y n:Int)(v4 v5 v6:Value)(ha:0<=a)(hb:Lh s)(hop:(40<=op/\op<=62)\/op=63\/op=64)(h6:zG op≠6)(hf:zG op=8\/op=63\/op=64):Calls Tryz.prog 84 #[.pointer (some ⟨p,0,none⟩),zO op a y n v4 v5 v6] w (endO N p (A.v m) lv w sv fv (jE E op a s)):=by
 obtain⟨w1,hw1,h1,hx1,ho1,t1⟩:=rbox h op a y n v4 v5 v6
 have hc:Calls Tryz.prog 113 #[.pointer (some ⟨p,0,none⟩),zO op a y n v4 v5 v6] w1 (endO N p (A.v m) lv w1 sv fv (jE E op a s)):=by
  by_cases hm:E.mems=0
  . exact rmem_0 h1 op a y n v4 v5 v6 hm
  . by_cases h63:op=63\/op=64
    . exact rmem_63 h1 op a y n v4 v5 v6 h63 (by omega) hb
    . exact rmem_ls h1 op a y n v4 v5 v6 ha (by omega) (by omega) (by omega) hb
 unfold zO at hc ⊢;obtain⟨B,hB⟩:∃B,B=w.heap.size:=⟨_,rfl⟩
 obtain⟨x0,x1,x2,x3,x4,x5,x6⟩:=hx1.c;obtain⟨⟨n0,n1,n2,n3,n4,n5,n6,n7,n8,n9,n10,n11,n12,n13,n14⟩⟩:=nots_of (op:=op) (by omega);have hF:=λw=>jY op w;have f6:(zG op==6)=false:=(by simp[h6])
 have f8:(zG op==8)=true\/((zG op==8)=false/\(op==63)=true)\/((zG op==8)=false/\(op==63)=false/\(op==64)=true):=by simp only[beq_iff_eq,beq_eq_false_iff_ne];omega
 generalize zG op=F at hF f6 f8;clear h6 hf
 rcases f8 with f8 |⟨f8,o1⟩ |⟨f8,o1,o2⟩
 all_goals(
  go_enter Tryz.func84,Tryz.ntmps84
  go_upto_region 1 with(fail)
  rw[<-hw1];rw[<-hB]at x0 x1 x2 x3 x4 x5 x6 hx1 ho1 ⊢;clear hw1 hB;go_wp2_with fail;refine(hF _).mono ?_;rintro e w' ⟨rfl,rfl⟩;go_wp2_with fail;refine hc.mono ?_;rintro e w2 ⟨rfl,sv2,h2,d2⟩;go_wp2;go_end0;exact⟨rfl,_,h2,t1.trans d2⟩)
theorem ri_reck(h:Rx wa N p A lv m E w sv fv s)(op a y n:Int)(v4 v5 v6:Value)(hb:Lh s)(hr:reck op):Calls Tryz.prog 84 #[.pointer (some ⟨p,0,none⟩),zO op a y n v4 v5 v6] w (endO N p (A.v m) lv w sv fv (zW [sgR (sgV op).1 (sgV op).2.2] (rPops (List.replicate (sgN (sgV op).1) (sgV op).2.2) s))):=by
 obtain⟨w1,hw1,h1,hx1,ho1,t1⟩:=rbox h op a y n v4 v5 v6;unfold zO;obtain⟨B,hB⟩:∃B,B=w.heap.size:=⟨_,rfl⟩
 obtain⟨x0,x1,x2,x3,x4,x5,x6⟩:=hx1.c;obtain⟨⟨n0,n1,n2,n3,n4,n5,n6,n7,n8,n9,n10,n11,n12,n13,n14⟩⟩:=nots_of (op:=op) (by unfold reck at hr;omega);have b63:(op==63)=false:=(by unfold reck at hr;simp only[beq_eq_false_iff_ne];omega)
 have b64:(op==64)=false:=(by unfold reck at hr;simp only[beq_eq_false_iff_ne];omega)
 have hF:=λw=>jY op w;rw[fv_reck hr]at hF;obtain⟨k,kn,t,hof⟩:=of_ex op;obtain⟨e1,e2,e3⟩:=sg_of hof;have hS:=λw=>rsig_any op k kn t w hof;have hle:=(of_ty hof hr).2.2;have hge:0<=sN k:=(by unfold sN;split;omega;split;omega;split<;>omega)
 rw[e1]
 dsimp only
 rw[e2,e3];generalize sR k t=rt at hS ⊢;obtain⟨c,hc⟩:∃c:Nat,sN k=c:=⟨(sN k).toNat,by omega⟩
 rw[hc]at hS hle ⊢;rw[Int.toNat_natCast]at hle ⊢;generalize hX:zW [rt] (rPops (List.replicate c t) s)=X;have hq0:Hid (X=zW [rt] (rPops (List.replicate (c-0) t) s)):=zh hX.symm;clear hX e1 e2 e3 hof hc hge;go_enter Tryz.func84,Tryz.ntmps84
 go_upto_region 1 with(fail)
 rw[<-hw1];rw[<-hB]at x0 x1 x2 x3 x4 x5 x6 hx1 ho1 ⊢;clear hw1 hB;go_wp2_with fail;refine(hF _).mono ?_;rintro e w' ⟨rfl,rfl⟩;go_wp2_with fail;refine(hS _).mono ?_;rintro e w' ⟨rfl,rfl⟩;have hst0:Hid (RcP N p (A.v m) lv w1 sv fv s/\Tw p sv fv sv fv w w1/\RWf s/\Lh s):=zh ⟨h1.t,t1,h1.wf,hb⟩;clear h1 t1 hx1 ho1 x0 x1 x2 x3 x4 x5 x6 h hb;go_wp2_with fail;go_loopw [17] (λvi wr=>∃(i:Nat) (sv':Value) (si:Rs),vi=.int .i64 i/\i<=c/\Hid (X=zW [rt] (rPops (List.replicate (c-i) t) si))/\Hid (RcP N p (A.v m) lv wr sv' fv si/\Tw p sv fv sv' fv w wr/\RWf si/\Lh si)) (λvi _=>c-(intOf vi).toNat)
 case atStart=>exact⟨0,sv,s,rfl,Nat.zero_le _,hq0,hst0⟩
 case round=>
  clear hq0 hst0;obtain⟨i,svi,si,rfl,hi,hq,hst⟩:=hrel;obtain⟨h1,t1,hwf,hb⟩:=hst.out
  by_cases hlt:i<c
  . have hq1:Hid (X=zW [rt] (rPops (List.replicate (c-(i+1)) t) (zP t si).2)):=zh (by
     have:=hq.out;rw[show c-i=(c-(i+1))+1 by omega,List.replicate_succ]at this;exact this)
    have g:=jA hwf t;have hp:=qL h1 hwf t;clear hq hst;go_wp2_with fail;refine hp.mono ?_;rintro e w2 ⟨rfl,sv2,h2,d2⟩;go_wp2
    go_roundw
    case rel=>exact⟨i+1,sv2,_,by simp,by omega,hq1,zh ⟨h2,t1.trans d2,g.wf,g.lh hb⟩⟩
    case measure=>simp[intOf];omega
  . obtain rfl:i=c:=by omega
    have e1:Hid (X=zW [rt] si):=zh (by
     have:=hq.out;rw[Nat.sub_self]at this;exact this)
    clear hq hst hlt;have hpu:=zh (yQ h1 rt hb);go_wp2_with fail;refine hpu.out.mono ?_;rintro e w2 ⟨rfl,sv2,h2,d2⟩;go_wp2;go_end0;rw[e1.out];exact⟨rfl,_,h2,t1.trans d2⟩
end
end Go.Proofs.YtacohbllbjgdgaaGreatDoor
namespace Go.Proofs.YtacohbllbjgdgaaGreatDoor
open Go.RowKit
structure Rx0 (wa:World) (N p:Nat) (A:MA) (lv:Value) (m:Md) (E:Ev) (w:World) (sv fv:Value) (s:Rs):Prop where
 t:RcP N p (A.v m) lv w sv fv s
 b:Below wa.heap.size wa w
 p0:wa.heap.size<=p
 md:MdA wa m A
 lc:∃a k,lv=.slice a E.locals.length k/\LiB w p sv fv a E.locals
 e1:E.types=m.types
 e2:E.globals=m.globals.map λg=>(g.1,g.2.1)
 e3:E.tables=m.tables.length
 e4:E.mems=m.mems.length
section
variable {wa:World} {N p:Nat} {A:MA} {lv:Value} {m:Md} {E:Ev} {w w':World} {sv fv sv' fv':Value} {s u:Rs}
theorem Rx.r0(h:Rx wa N p A lv m E w sv fv s):Rx0 wa N p A lv m E w sv fv s:=⟨h.t,h.b,h.p0,h.md,h.lc,h.e1,h.e2,h.e3,h.e4⟩
theorem Rx0.r(h:Rx0 wa N p A lv m E w sv fv s)(hw:RWf s):Rx wa N p A lv m E w sv fv s:=⟨h.t,hw,h.b,h.p0,h.md,h.lc,h.e1,h.e2,h.e3,h.e4⟩
end
def BlkR (l:Il):Prop:=∀(wa:World) (N p:Nat) (A:MA) (lv:Value) (m:Md) (E:Ev) (w:World) (sv fv:Value) (s:Rs),Rx0 wa N p A lv m E w sv fv s->EnvM m E->RRf s->zZ l=true->
 ∀(goes ends:List Int) (ga:Option Addr) (gc:Nat) (ea:Option Addr) (ec:Nat),LiB w p sv fv ga goes->LiB w p sv fv ea ends->goes.length<=1->ends.length<=1->
 ∀(bo:Option Addr) (k:Nat),l.len<=9223372036854775807->IlIn wa bo 0 l->(s.w=0->s.st.length+szI l<=1099511627775)->s.fs.length+szI l<=1099511627775->
 Calls Tryz.prog 58 #[.pointer (some ⟨p,0,none⟩),.slice bo l.len k,.slice ga goes.length gc,.slice ea ends.length ec] w (endS N p (A.v m) lv w sv fv (zT (ryL E l) goes ends s))
section
variable {wa:World} {N p:Nat} {A:MA} {lv:Value} {m:Md} {E:Ev} {w w':World} {sv fv sv' fv':Value} {s u:Rs}
theorem Rx.newLi(h:Rx wa N p A lv m E w sv fv s)(b:Below w.heap.size w w'){l:List Int}{a:Option Addr}(hi:IntsIn w' a l)(hn:l=[]\/∀ad,a=some ad->w.heap.size<=ad.block):LiB w' p sv fv a l:=by
 refine⟨hi,?_⟩
 rcases hn with e |hn
 . exact .inl e
 . refine .inr λad e=> ?_;have hb:=hn ad e;obtain⟨L,_,hL,_⟩:=h.t.o.fs;have e2:=lt_of_block h.t.b;exact⟨by omega,λe=>by have:=(h.t.o.st.lt _ e).2;omega,λe=>by have:=(hL.lt _ e).2;omega⟩
theorem ri_23(h:Rx wa N p A lv m E w sv fv s)(hE:EnvM m E)(hRf:RRf s){op:Int}(hop:op=2\/op=3)(a y n:Int){body:Il}(hB:BlkR body)(hf:zZ body=true){bo:Option Addr}{k:Nat}(v4 v6:Value)(hbl:body.len<=9223372036854775807)(hbi:IlIn wa bo 0 body)(hs1:s.w=0->s.st.length+1+szI body<=1099511627775)(hs2:s.fs.length+szI body<=1099511627775):Calls Tryz.prog 84 #[.pointer (some ⟨p,0,none⟩),zO op a y n v4 (.slice bo body.len k) v6] w (endS N p (A.v m) lv w sv fv (zW (zL a) (zT (ryL E body) (if op=3 then[]else zL a) (zL a) s))):=by
 obtain⟨w1,hw1,h1,hx1,ho1,t1⟩:=rbox h op a y n v4 (.slice bo body.len k) v6;unfold zO;obtain⟨B,hB0⟩:∃B,B=w.heap.size:=⟨_,rfl⟩
 obtain⟨x0,x1,x2,x3,x4,x5,x6⟩:=hx1.c;have hres:=λw=>rresult_any a w;have hlen:=resV_len a;generalize zL a=ra at hres hlen ⊢
 rcases hop with rfl |rfl
 . go_enter Tryz.func84,Tryz.ntmps84
   go_upto_region 1 with(fail)
   rw[<-hw1];rw[<-hB0]at x0 x1 x2 x3 x4 x5 x6 hx1 ho1 ⊢;clear hw1 hB0;go_wp2_with fail;refine(hres _).mono ?_;rintro e w2 ⟨⟨la,lc,rfl,hli,hln⟩,b2⟩;have hla:=h1.newLi b2 hli hln;have h2:=h1.step b2;have d2:Tw p sv fv sv fv w1 w2:=.of_below b2;have hx2:=hx1.tw ho1 d2;have ho2:=(ho1.tw d2).1;have t2:=t1.trans d2;clear x0 x1 x2 x3 x4 x5 x6 hx1 ho1 t1 d2 h1 hli hln b2;obtain⟨x0,x1,x2,x3,x4,x5,x6⟩:=hx2.c;have g:=yI h2.wf hRf (yH hE.r body) (goes:=ra) (ends:=ra) (by first |exact hlen |simp) hlen;have hbk:=hB wa N p A lv m E w2 sv fv s h2.r0 hE hRf hf ra ra la lc la lc (by first |exact hla |exact⟨⟨by simp,.inl rfl⟩,.inl rfl⟩) hla (by first |exact hlen |simp) hlen bo k hbl hbi (λq=>by have:=hs1 q;omega) hs2;replace hbk:=zh hbk;go_wp2_with fail;refine hbk.out.mono ?_;rintro e w3 ⟨rfl,sv3,fv3,h3,d3⟩;go_wp2_with fail;refine(vZ (lc:=lc) h3 (hla.tw d3).1 (λq=>by have:=g.ok q;have:=hs1 this.1;omega)).mono ?_;rintro e w4 ⟨rfl,sv4,h4,d4⟩;go_wp2;go_end0;exact⟨rfl,_,_,h4,(t2.trans d3).trans d4⟩
 . go_enter Tryz.func84,Tryz.ntmps84
   go_upto_region 1 with(fail)
   rw[<-hw1];rw[<-hB0]at x0 x1 x2 x3 x4 x5 x6 hx1 ho1 ⊢;clear hw1 hB0;go_wp2_with fail;refine(hres _).mono ?_;rintro e w2 ⟨⟨la,lc,rfl,hli,hln⟩,b2⟩;have hla:=h1.newLi b2 hli hln;have h2:=h1.step b2;have d2:Tw p sv fv sv fv w1 w2:=.of_below b2;have hx2:=hx1.tw ho1 d2;have ho2:=(ho1.tw d2).1;have t2:=t1.trans d2;clear x0 x1 x2 x3 x4 x5 x6 hx1 ho1 t1 d2 h1 hli hln b2;obtain⟨x0,x1,x2,x3,x4,x5,x6⟩:=hx2.c;have g:=yI h2.wf hRf (yH hE.r body) (goes:=[]) (ends:=ra) (by first |exact hlen |simp) hlen;have hbk:=hB wa N p A lv m E w2 sv fv s h2.r0 hE hRf hf [] ra none 0 la lc (by first |exact hla |exact⟨⟨by simp,.inl rfl⟩,.inl rfl⟩) hla (by first |exact hlen |simp) hlen bo k hbl hbi (λq=>by have:=hs1 q;omega) hs2;replace hbk:=zh hbk;go_wp2_with fail;refine hbk.out.mono ?_;rintro e w3 ⟨rfl,sv3,fv3,h3,d3⟩;go_wp2_with fail;refine(vZ (lc:=lc) h3 (hla.tw d3).1 (λq=>by have:=g.ok q;have:=hs1 this.1;omega)).mono ?_;rintro e w4 ⟨rfl,sv4,h4,d4⟩;go_wp2;go_end0;exact⟨rfl,_,_,h4,(t2.trans d3).trans d4⟩
end
end Go.Proofs.YtacohbllbjgdgaaGreatDoor
namespace Go.Proofs.YtacohbllbjgdgaaGreatDoor
open Go.RowKit
section
variable {wa:World} {N p:Nat} {A:MA} {lv:Value} {m:Md} {E:Ev} {w w':World} {sv fv sv' fv':Value} {s u:Rs}
theorem ri_4(h:Rx wa N p A lv m E w sv fv s)(hE:EnvM m E)(hRf:RRf s)(a y n:Int){body els:Il}(hB:BlkR body)(hC:BlkR els)(hf:zZ body=true)(hfe:zZ els=true){bo eo:Option Addr}{k k2:Nat}(v4:Value)(hbl:body.len<=9223372036854775807)(hbi:IlIn wa bo 0 body)(hel:els.len<=9223372036854775807)(hei:IlIn wa eo 0 els)(hs1:s.w=0->s.st.length+1+szI body+szI els<=1099511627775)(hs2:s.fs.length+szI body+szI els<=1099511627775):Calls Tryz.prog 84 #[.pointer (some ⟨p,0,none⟩),zO 4 a y n v4 (.slice bo body.len k) (.slice eo els.len k2)] w (endS N p (A.v m) lv w sv fv (rIf (ryL E body) (ryL E els) a els.len s)):=by
 obtain⟨w1,hw1,h1,hx1,ho1,t1⟩:=rbox h 4 a y n v4 (.slice bo body.len k) (.slice eo els.len k2);unfold zO;obtain⟨B,hB0⟩:∃B,B=w.heap.size:=⟨_,rfl⟩
 obtain⟨x0,x1,x2,x3,x4,x5,x6⟩:=hx1.c;have hres:=λw=>rresult_any a w;have hlen:=resV_len a;have e0:rIf (ryL E body) (ryL E els) a els.len s=zW (zL a) (if 0<els.len then zT (ryL E els) (zL a) (zL a) (zT (ryL E body) (zL a) (zL a) (if els.len=0/\0<(zL a).length then zQ 60 (zP 127 s).2 else(zP 127 s).2))else zT (ryL E body) (zL a) (zL a) (if els.len=0/\0<(zL a).length then zQ 60 (zP 127 s).2 else(zP 127 s).2)):=rfl;generalize rIf (ryL E body) (ryL E els) a els.len s=X at e0 ⊢;generalize zL a=ra at hres hlen e0;have g1:=jA h1.wf 127;have hcase:(els.len=0/\0<ra.length)\/(els.len=0/\ra.length=0)\/0<els.len:=(by omega)
 rcases hcase with⟨c1,c2⟩ |⟨c1,c2⟩ |c1
 . rw[if_neg (show¬0<els.len by omega),if_pos (show els.len=0/\0<ra.length from⟨c1,c2⟩)]at e0;have b1:((els.len:Int)==0)=true:=(by simp[c1])
   have b2:¬0<els.len:=(by omega)
   have b3:0<ra.length:=(by omega)
   clear c1 c2;go_enter Tryz.func84,Tryz.ntmps84
   go_upto_region 1 with(fail)
   rw[<-hw1];rw[<-hB0]at x0 x1 x2 x3 x4 x5 x6 hx1 ho1 ⊢;clear hw1 hB0;go_wp2_with fail;refine(hres _).mono ?_;rintro e w2 ⟨⟨la,lc,rfl,hli,hln⟩,b2⟩;have hla:=h1.newLi b2 hli hln;have h2:=h1.step b2;have d2:Tw p sv fv sv fv w1 w2:=.of_below b2;have hx2:=hx1.tw ho1 d2;have ho2:=(ho1.tw d2).1;have t2:=t1.trans d2;clear x0 x1 x2 x3 x4 x5 x6 hx1 ho1 t1 d2 h1 hli hln b2;obtain⟨x0,x1,x2,x3,x4,x5,x6⟩:=hx2.c;go_wp2_with fail;refine(qL h2.t h2.wf 127).mono ?_;rintro e w3 ⟨rfl,sv3,h3',d3⟩;have h3:=h2.go g1.wf h3' d3;have t3:=t2.trans d3;have hx3:=hx2.tw ho2 d3;have ho3:=(ho2.tw d3).1;have hla3:=hla.tw d3;have hz3:(zP 127 s).2.w=0->(zP 127 s).2.st.length+1+szI body+szI els<=1099511627775:=λq=>by have:=g1.ok q;have:=hs1 this.1;omega
   have hf3:(zP 127 s).2.fs.length+szI body+szI els<=1099511627775:=(by rw[g1.len];exact hs2)
   have hr3:=g1.rf hRf;clear x0 x1 x2 x3 x4 x5 x6 hx2 ho2 t2 d3 h2 h3' hla hres;obtain⟨x0,x1,x2,x3,x4,x5,x6⟩:=hx3.c;generalize (zP 127 s).2=s3 at e0 h3 hz3 hf3 hr3 g1;go_wp2_with fail;refine(j8 h3.t 60).mono ?_;rintro e w4 ⟨rfl,h4',d4⟩;have g4:=jK h3.wf (e:=60) (by decide);have h4:=h3.go g4.wf h4' d4;have t4:=t3.trans d4;have hx4:=hx3.tw ho3 d4;have ho4:=(ho3.tw d4).1;have hla4:=hla3.tw d4;have hz4:(zQ 60 s3).w=0->(zQ 60 s3).st.length+1+szI body+szI els<=1099511627775:=λq=>by have:=g4.ok q;have:=hz3 this.1;omega
   have hf4:(zQ 60 s3).fs.length+szI body+szI els<=1099511627775:=(by rw[g4.len];exact hf3)
   have hr4:=g4.rf hr3;clear x0 x1 x2 x3 x4 x5 x6 hx3 ho3 t3 d4 h3 h4' hla3 hz3 hf3 hr3;obtain⟨x0,x1,x2,x3,x4,x5,x6⟩:=hx4.c;generalize zQ 60 s3=s4 at e0 h4 hz4 hf4 hr4 g4;have gb4:=yI h4.wf hr4 (yH hE.r body) hlen hlen;have hbk4:=hB wa N p A lv m E w4 _ _ s4 h4.r0 hE hr4 hf ra ra la lc la lc hla4 hla4 hlen hlen bo k hbl hbi (λq=>by have:=hz4 q;omega) (by omega);replace hbk4:=zh hbk4;go_wp2_with fail;refine hbk4.out.mono ?_;rintro e w5 ⟨rfl,sv5,fv5,h5',d5⟩;have h5:=h4.go gb4.wf h5' d5;have t5:=t4.trans d5;have hx5:=hx4.tw ho4 d5;have ho5:=(ho4.tw d5).1;have hla5:=hla4.tw d5;have hz5:(zT (ryL E body) ra ra s4).w=0->(zT (ryL E body) ra ra s4).st.length+1+szI body+szI els<=1099511627775:=λq=>by have:=gb4.ok q;have:=hz4 this.1;omega
   have hf5:(zT (ryL E body) ra ra s4).fs.length+szI body+szI els<=1099511627775:=(by rw[gb4.len];exact hf4)
   have hr5:=gb4.rf hr4;clear x0 x1 x2 x3 x4 x5 x6 hx4 ho4 t4 d5 h4 h5' hla4 hz4 hf4 hr4;obtain⟨x0,x1,x2,x3,x4,x5,x6⟩:=hx5.c;generalize zT (ryL E body) ra ra s4=s5 at e0 h5 hz5 hf5 hr5 gb4;replace e0:=zh e0;go_wp2_with fail;refine(vZ (lc:=lc) h5.t hla5.1 (λq=>by have:=hz5 q;omega)).mono ?_;rintro e w6 ⟨rfl,sv6,h6,d6⟩;go_wp2;go_end0;rw[e0.out];exact⟨rfl,_,_,h6,t5.trans d6⟩
 . rw[if_neg (show¬0<els.len by omega),if_neg (show¬(els.len=0/\0<ra.length) by omega)]at e0;have b1:((els.len:Int)==0)=true:=(by simp[c1])
   have b2:¬0<els.len:=(by omega)
   have b3:¬0<ra.length:=(by omega)
   clear c1 c2;go_enter Tryz.func84,Tryz.ntmps84
   go_upto_region 1 with(fail)
   rw[<-hw1];rw[<-hB0]at x0 x1 x2 x3 x4 x5 x6 hx1 ho1 ⊢;clear hw1 hB0;go_wp2_with fail;refine(hres _).mono ?_;rintro e w2 ⟨⟨la,lc,rfl,hli,hln⟩,b2⟩;have hla:=h1.newLi b2 hli hln;have h2:=h1.step b2;have d2:Tw p sv fv sv fv w1 w2:=.of_below b2;have hx2:=hx1.tw ho1 d2;have ho2:=(ho1.tw d2).1;have t2:=t1.trans d2;clear x0 x1 x2 x3 x4 x5 x6 hx1 ho1 t1 d2 h1 hli hln b2;obtain⟨x0,x1,x2,x3,x4,x5,x6⟩:=hx2.c;go_wp2_with fail;refine(qL h2.t h2.wf 127).mono ?_;rintro e w3 ⟨rfl,sv3,h3',d3⟩;have h3:=h2.go g1.wf h3' d3;have t3:=t2.trans d3;have hx3:=hx2.tw ho2 d3;have ho3:=(ho2.tw d3).1;have hla3:=hla.tw d3;have hz3:(zP 127 s).2.w=0->(zP 127 s).2.st.length+1+szI body+szI els<=1099511627775:=λq=>by have:=g1.ok q;have:=hs1 this.1;omega
   have hf3:(zP 127 s).2.fs.length+szI body+szI els<=1099511627775:=(by rw[g1.len];exact hs2)
   have hr3:=g1.rf hRf;clear x0 x1 x2 x3 x4 x5 x6 hx2 ho2 t2 d3 h2 h3' hla hres;obtain⟨x0,x1,x2,x3,x4,x5,x6⟩:=hx3.c;generalize (zP 127 s).2=s3 at e0 h3 hz3 hf3 hr3 g1;have gb3:=yI h3.wf hr3 (yH hE.r body) hlen hlen;have hbk3:=hB wa N p A lv m E w3 _ _ s3 h3.r0 hE hr3 hf ra ra la lc la lc hla3 hla3 hlen hlen bo k hbl hbi (λq=>by have:=hz3 q;omega) (by omega);replace hbk3:=zh hbk3;go_wp2_with fail;refine hbk3.out.mono ?_;rintro e w4 ⟨rfl,sv4,fv4,h4',d4⟩;have h4:=h3.go gb3.wf h4' d4;have t4:=t3.trans d4;have hx4:=hx3.tw ho3 d4;have ho4:=(ho3.tw d4).1;have hla4:=hla3.tw d4;have hz4:(zT (ryL E body) ra ra s3).w=0->(zT (ryL E body) ra ra s3).st.length+1+szI body+szI els<=1099511627775:=λq=>by have:=gb3.ok q;have:=hz3 this.1;omega
   have hf4:(zT (ryL E body) ra ra s3).fs.length+szI body+szI els<=1099511627775:=(by rw[gb3.len];exact hf3)
   have hr4:=gb3.rf hr3;clear x0 x1 x2 x3 x4 x5 x6 hx3 ho3 t3 d4 h3 h4' hla3 hz3 hf3 hr3;obtain⟨x0,x1,x2,x3,x4,x5,x6⟩:=hx4.c;generalize zT (ryL E body) ra ra s3=s4 at e0 h4 hz4 hf4 hr4 gb3;replace e0:=zh e0;go_wp2_with fail;refine(vZ (lc:=lc) h4.t hla4.1 (λq=>by have:=hz4 q;omega)).mono ?_;rintro e w5 ⟨rfl,sv5,h5,d5⟩;go_wp2;go_end0;rw[e0.out];exact⟨rfl,_,_,h5,t4.trans d5⟩
 . rw[if_pos c1,if_neg (show¬(els.len=0/\0<ra.length) by omega)]at e0;have b1:((els.len:Int)==0)=false:=(by simp;omega)
   have b2:0<els.len:=(by omega)
   go_enter Tryz.func84,Tryz.ntmps84
   go_upto_region 1 with(fail)
   rw[<-hw1];rw[<-hB0]at x0 x1 x2 x3 x4 x5 x6 hx1 ho1 ⊢;clear hw1 hB0;go_wp2_with fail;refine(hres _).mono ?_;rintro e w2 ⟨⟨la,lc,rfl,hli,hln⟩,b2⟩;have hla:=h1.newLi b2 hli hln;have h2:=h1.step b2;have d2:Tw p sv fv sv fv w1 w2:=.of_below b2;have hx2:=hx1.tw ho1 d2;have ho2:=(ho1.tw d2).1;have t2:=t1.trans d2;clear x0 x1 x2 x3 x4 x5 x6 hx1 ho1 t1 d2 h1 hli hln b2;obtain⟨x0,x1,x2,x3,x4,x5,x6⟩:=hx2.c;go_wp2_with fail;refine(qL h2.t h2.wf 127).mono ?_;rintro e w3 ⟨rfl,sv3,h3',d3⟩;have h3:=h2.go g1.wf h3' d3;have t3:=t2.trans d3;have hx3:=hx2.tw ho2 d3;have ho3:=(ho2.tw d3).1;have hla3:=hla.tw d3;have hz3:(zP 127 s).2.w=0->(zP 127 s).2.st.length+1+szI body+szI els<=1099511627775:=λq=>by have:=g1.ok q;have:=hs1 this.1;omega
   have hf3:(zP 127 s).2.fs.length+szI body+szI els<=1099511627775:=(by rw[g1.len];exact hs2)
   have hr3:=g1.rf hRf;clear x0 x1 x2 x3 x4 x5 x6 hx2 ho2 t2 d3 h2 h3' hla hres;obtain⟨x0,x1,x2,x3,x4,x5,x6⟩:=hx3.c;generalize (zP 127 s).2=s3 at e0 h3 hz3 hf3 hr3 g1;have gb3:=yI h3.wf hr3 (yH hE.r body) hlen hlen;have hbk3:=hB wa N p A lv m E w3 _ _ s3 h3.r0 hE hr3 hf ra ra la lc la lc hla3 hla3 hlen hlen bo k hbl hbi (λq=>by have:=hz3 q;omega) (by omega);replace hbk3:=zh hbk3;go_wp2_with fail;refine hbk3.out.mono ?_;rintro e w4 ⟨rfl,sv4,fv4,h4',d4⟩;have h4:=h3.go gb3.wf h4' d4;have t4:=t3.trans d4;have hx4:=hx3.tw ho3 d4;have ho4:=(ho3.tw d4).1;have hla4:=hla3.tw d4;have hz4:(zT (ryL E body) ra ra s3).w=0->(zT (ryL E body) ra ra s3).st.length+1+szI body+szI els<=1099511627775:=λq=>by have:=gb3.ok q;have:=hz3 this.1;omega
   have hf4:(zT (ryL E body) ra ra s3).fs.length+szI body+szI els<=1099511627775:=(by rw[gb3.len];exact hf3)
   have hr4:=gb3.rf hr3;clear x0 x1 x2 x3 x4 x5 x6 hx3 ho3 t3 d4 h3 h4' hla3 hz3 hf3 hr3;obtain⟨x0,x1,x2,x3,x4,x5,x6⟩:=hx4.c;generalize zT (ryL E body) ra ra s3=s4 at e0 h4 hz4 hf4 hr4 gb3;have gb4:=yI h4.wf hr4 (yH hE.r els) hlen hlen;have hbk4:=hC wa N p A lv m E w4 _ _ s4 h4.r0 hE hr4 hfe ra ra la lc la lc hla4 hla4 hlen hlen eo k2 hel hei (λq=>by have:=hz4 q;omega) (by omega);replace hbk4:=zh hbk4;go_wp2_with fail;refine hbk4.out.mono ?_;rintro e w5 ⟨rfl,sv5,fv5,h5',d5⟩;have h5:=h4.go gb4.wf h5' d5;have t5:=t4.trans d5;have hx5:=hx4.tw ho4 d5;have ho5:=(ho4.tw d5).1;have hla5:=hla4.tw d5;have hz5:(zT (ryL E els) ra ra s4).w=0->(zT (ryL E els) ra ra s4).st.length+1+szI body+szI els<=1099511627775:=λq=>by have:=gb4.ok q;have:=hz4 this.1;omega
   have hf5:(zT (ryL E els) ra ra s4).fs.length+szI body+szI els<=1099511627775:=(by rw[gb4.len];exact hf4)
   have hr5:=gb4.rf hr4;clear x0 x1 x2 x3 x4 x5 x6 hx4 ho4 t4 d5 h4 h5' hla4 hz4 hf4 hr4;obtain⟨x0,x1,x2,x3,x4,x5,x6⟩:=hx5.c;generalize zT (ryL E els) ra ra s4=s5 at e0 h5 hz5 hf5 hr5 gb4;replace e0:=zh e0;go_wp2_with fail;refine(vZ (lc:=lc) h5.t hla5.1 (λq=>by have:=hz5 q;omega)).mono ?_;rintro e w6 ⟨rfl,sv6,h6,d6⟩;go_wp2;go_end0;rw[e0.out];exact⟨rfl,_,_,h6,t5.trans d6⟩
end
end Go.Proofs.YtacohbllbjgdgaaGreatDoor
namespace Go.Proofs.YtacohbllbjgdgaaGreatDoor
open Go.RowKit
section
variable {wa:World} {N p:Nat} {A:MA} {lv:Value} {m:Md} {E:Ev} {w w':World} {sv fv sv' fv':Value} {s u:Rs}
theorem endO.toS'{M:M10}{x:Rs}{f:FuncId}{args:Array Value}(h:Calls Tryz.prog f args w (endO N p M lv w sv fv x)):Calls Tryz.prog f args w (endS N p M lv w sv fv x):=h.mono λ_ _ q=>q.toS
theorem yF{E:Ev}{op a:Int}{ls:List Int}{n:Nat}{B C:Rs->Rs}{s:Rs}(h:op≠0/\op≠1/\op≠2/\op≠3/\op≠4/\op≠12/\op≠13/\op≠14/\op≠15/\op≠16/\op≠17/\op≠26/\op≠27/\op≠65/\op≠66):vQ E op a ls n B C s=if zG op=6 then qQ E op a s else if zG op=8\/op=63\/op=64 then jE E op a s else zW [sgR (sgV op).1 (sgV op).2.2] (rPops (List.replicate (sgN (sgV op).1) (sgV op).2.2) s):=by
 unfold vQ;rw[if_neg (by omega),if_neg (by omega),if_neg (by omega),if_neg (by omega),if_neg (by omega),if_neg (by omega),if_neg (by omega),if_neg (by omega),if_neg (by omega),if_neg (by omega),if_neg (by omega),if_neg (by omega),if_neg (by omega)]
theorem ri_any(h:Rx wa N p A lv m E w sv fv s)(hE:EnvM m E)(hRf:RRf s){op a y n:Int}{ls:List Int}{body els:Il}(hf1:zC op a y n ls body.len els.len=true)(hB:BlkR body)(hC:BlkR els)(hf:zZ body=true)(hfe:zZ els=true){la:Option Addr}{lc:Nat}{ao:Option Addr}{k:Nat}{bo:Option Addr}{k2:Nat}(hls:IntsIn wa la ls)(hlen:body.len<=9223372036854775807)(hi:IlIn wa ao 0 body)(hlen2:els.len<=9223372036854775807)(hi2:IlIn wa bo 0 els)(b1:s.w=0->s.st.length+(1+szI body+szI els)<=1099511627775)(b2:s.fs.length+(szI body+szI els)<=1099511627775):Calls Tryz.prog 84 #[.pointer (some ⟨p,0,none⟩),zO op a y n (.slice la ls.length lc) (.slice ao body.len k) (.slice bo els.len k2)] w (endS N p (A.v m) lv w sv fv (vQ E op a ls els.len (ryL E body) (ryL E els) s)):=by
 have hb:Lh s:=λq=>by have:=b1 q;omega
 obtain⟨h0,h1,h2,h3,h4⟩:=plainfacts hf1;obtain⟨i1,i2,i3,i4,i5,i6,i7,i8,i9⟩:=fv_inv op
 rcases h0 with h0 |h0 |h0 |h0 |h0 |h0 |h0 |h0 |h0
 . rcases i1 h0 with hr |rfl |rfl |rfl |rfl |rfl |hop
   . rw[yF (by unfold reck at hr;omega),if_neg (by omega),if_neg (by unfold reck at hr;omega)];exact endO.toS' (ri_reck h op a y n _ _ _ hb hr)
   . exact endO.toS' (ri_0 h a y n _ _ _)
   . exact endO.toS' (ri_1 h a y n _ _ _)
   . exact endO.toS' (ri_15 h a y n _ _ _)
   . exact endO.toS' (ri_26 h a y n _ _ _)
   . exact endO.toS' (ri_27 h a y n _ _ _ hb)
   . have ha:0<=a:=by unfold zC at hf1;rw[if_pos h0]at hf1;simp only[Bool.and_eq_true,beq_iff_eq]at hf1;omega
     rw[yF (by omega),if_neg (by omega),if_pos (.inr hop)];exact endO.toS' (ri_mem h op a y n _ _ _ ha hb (.inr hop) (by omega) (.inr hop))
 . have hop:=i2 h0
   have e:vQ E op a ls els.len (ryL E body) (ryL E els) s=zW (zL a) (zT (ryL E body) (if op=3 then[]else zL a) (zL a) s):=by unfold vQ;rw[if_neg (by omega),if_neg (by omega),if_pos hop]
   rw[e];exact ri_23 h hE hRf hop a y n hB hf _ _ hlen hi (λq=>by have:=b1 q;omega) (by omega)
 . have hop:=i3 h0;subst hop;exact ri_4 h hE hRf a y n hB hC hf hfe _ hlen hi hlen2 hi2 (λq=>by have:=b1 q;omega) (by omega)
 . rcases i4 h0 with rfl |rfl
   . exact endO.toS' (ri_12 h a y n _ _ _)
   . exact endO.toS' (ri_13 h a y n _ _ _ hRf hb)
 . have hop:=i5 h0;subst hop;exact endO.toS' (ri_14 h a y n (h.old hls) _ _)
 . have ha:=h2 (by omega)
   rcases i6 h0 with rfl |hop
   . exact endO.toS' (ri_16 h hE a y n _ _ _ ha hb)
   . rw[yF (by omega),if_pos h0];exact endO.toS' (ri_var h op a y n _ _ _ ha hb hop h0)
 . have ha:=h2 (by omega);have hop:=i7 h0;subst hop;exact endO.toS' (ri_17 h hE a y n _ _ _ ha hb)
 . have ha:=h2 (by omega);have hop:=i8 h0;rw[yF (by omega),if_neg (by omega),if_pos (.inl h0)];exact endO.toS' (ri_mem h op a y n _ _ _ ha hb (.inl ⟨hop.1,hop.2.1⟩) (by omega) (.inl h0))
 . rcases i9 h0 with rfl |rfl
   . exact endO.toS' (ri_65 h a y n _ _ _ hb)
   . exact endO.toS' (ri_66 h a y n _ _ _ hb)
end
end Go.Proofs.YtacohbllbjgdgaaGreatDoor
