/- ValidNops. -/
import Derived.Test.YtacohbllbjgdgaaGreatDoorQd
import Derived.Test.YtacohbllbjgdgaaGreatDoorQo
import Derived.Test.YtacohbllbjgdgaaGreatDoorMk
import Derived.Test.YtacohbllbjgdgaaGreatDoorSa
set_option linter.all false
set_option maxRecDepth 100000
set_option maxHeartbeats 8000000
namespace Go.Proofs.YtacohbllbjgdgaaGreatDoor
open Go.RowKit
theorem nopw_any{w:World}{m:Md}{A:MA}{t k:Int}(hA:MdA w m A)(hT:TabU w)(hk64:k<=9223372036854775807):Calls Tryz.prog 6 #[A.g m,.int .i64 t,.int .i64 k] w λe w'=>e=.returned (.bool true)/\Below w.heap.size w w':=by
 have hbm:=bm_new hA;obtain⟨w1,hw1⟩:∃w1,w1=w.alloc (xR A m):=⟨_,rfl⟩
 obtain⟨B,hB⟩:∃B,B=w.heap.size:=⟨_,rfl⟩
 rw[<-hw1,<-hB]at hbm;have hlg:=largeA hbm.m;obtain⟨x0,x1,x2,x3,x4,x5,x6,x7,x8,x9⟩:=qO hbm.h;unfold xR MA.v at hw1;unfold MA.g;replace hlg:=zh hlg;replace hbm:=zh hbm;replace hT:=zh hT;go_enter Tryz.func6,Tryz.ntmps6
 go_upto_region 1 with(fail)
 rw[<-hw1,<-hB];clear hw1;replace hB:=zh hB;go_wp2_with fail;refine hlg.out.mono ?_;rintro e w2 ⟨L,rfl,hsm,b2⟩;have hb2:=zh (hbm.out.step b2);clear b2 hlg hbm x0 x1 x2 x3 x4 x5 x6 x7 x8 x9;obtain⟨x0,x1,x2,x3,x4,x5,x6,x7,x8,x9⟩:=qO hb2.out.h
 by_cases hL:L=true\/m.funcs.length=0\/k<0
 . have hc:L=true\/(L=false/\((m.funcs.length:Int)==0)=true)\/(L=false/\((m.funcs.length:Int)==0)=false/\decide (k<0)=true):=by
    cases L with
    |true=>exact .inl rfl
    |false=>
      by_cases h0:m.funcs.length=0
      . exact .inr (.inl ⟨rfl,beq_iff_eq.2 (by omega)⟩)
      . exact .inr (.inr ⟨rfl,beq_eq_false_iff_ne.2 (by omega),decide_eq_true (by rcases hL with h |h |h;cases h;exact absurd h h0;exact h)⟩)
   clear hL hsm;have hwk:=zh (jC (hT.out.below hb2.out.b));have hb3:=zh hb2.out.b;clear hb2
   rcases hc with rfl |⟨rfl,h1⟩ |⟨rfl,h1,h2⟩
   all_goals
    go_wp2_with fail;refine hwk.out.mono ?_;rintro e w3 ⟨rfl,b3⟩;have hb4:=zh (hb3.out.trans (b3.mono hb3.out.size));clear b3;go_wp2_with fail;go_ret;exact⟨rfl,hb4.out⟩
 obtain rfl:L=false:=by cases L with
  |true=>exact absurd (.inl rfl) hL
  |false=>rfl
 obtain⟨_,hL⟩:=not_or.1 hL;obtain⟨hn0,hn1⟩:=not_or.1 hL;replace hn0:1<=m.funcs.length:=by omega
 have h1:((m.funcs.length:Int)==0)=false:=beq_eq_false_iff_ne.2 (by omega);have h2:decide (k<0)=false:=decide_eq_false hn1;replace hsm:=zh (hsm rfl);clear hL;have hds:Hid (∀t∈m.datas,t.2.size<=300000):=zh λt ht=>(hsm.out.datas t ht).1;have hcp:=zh (copyA hsm.out hb2.out.m);unfold MA.g at hcp;go_wp2_with fail;refine hcp.out.mono ?_;rintro e w3 ⟨C,rfl,hC,_,_,b3⟩;have hb3:=zh (hb2.out.step b3);clear hcp b3 x0 x1 x2 x3 x4 x5 x6 x7 x8 x9 hb2 h1 h2;have hva:=zh (validA hC (hT.out.below hb3.out.b));unfold MA.g at hva;clear hC;go_wp2_with fail;refine hva.out.mono ?_;rintro e w4 ⟨rfl,b4⟩;have hb4:=zh (hb3.out.step b4);clear hva b4 hb3;obtain⟨x0,x1,x2,x3,x4,x5,x6,x7,x8,x9⟩:=qO hb4.out.h;obtain⟨E,hE⟩:∃E,E=(zW m).2:=⟨_,rfl⟩
 rw[<-hE];replace hE:=zh hE;have hcp:=zh (copyA hsm.out hb4.out.m);unfold MA.g at hcp;go_wp2_with fail;refine hcp.out.mono ?_;rintro e w5 ⟨D,rfl,hD,hF,_,b5⟩;have hb5:=zh (hb4.out.step b5);obtain⟨X,hX⟩:∃X,X=w5.heap.size:=⟨_,rfl⟩
 obtain⟨W6,hW6⟩:∃W6,W6=w5.alloc (xR D m):=⟨_,rfl⟩
 have bx:=bm_new hD;rw[<-hW6,<-hX]at bx;have hb6:Below w5.heap.size w5 W6:=(by rw[hW6];exact Below.of_alloc _ _)
 obtain⟨y0,y1,y2,y3,y4,y5,y6,y7,y8,y9⟩:=qO bx.h;have hbB:=zh (hb5.out.step hb6);have hsz:W6.heap.size=X+1:=(by rw[hW6,hX];simp)
 unfold xR MA.v at hW6
 go_upto_region 5 with(fail)
 rw[<-hW6,<-hX];have hb4':=hb4.out.b.size;have hb4B:=zh (lt_of_block hb4.out.h);have hb5':=hb5.out.b.size;have b5':=b5.size;clear hW6 x0 x1 x2 x3 x4 x5 x6 x7 x8 x9 hb5 hb4 b5;obtain⟨ts,hcf⟩:=hF;have hl2:=hsm.out.l2;obtain⟨J,hJ⟩:∃J,J=modN t m.funcs.length:=⟨_,rfl⟩
 have hJl:J<m.funcs.length:=(by rw[hJ];exact modN_lt t hn0)
 have hmd:=λw=>mod_any t m.funcs.length hn0 (by omega) w;rw[<-hJ]at hmd;replace hmd:=zh hmd;replace hJ:=zh hJ;obtain⟨⟨ty,lo,bo⟩,hfj⟩:∃f,m.funcs[J]? =some f:=⟨_,List.getElem?_eq_getElem hJl⟩
 obtain⟨g,hg2⟩:∃g,D.a2=some ⟨g,0,none⟩:=by
  rcases hcf.own.2 with⟨e,e2⟩ |⟨g,cap,cur,e,_⟩
  . omega
  . injection e with e1 e2 e3
    exact⟨g,e1⟩
 replace hX:=zh hX;replace hsz:=zh hsz;replace bx:=zh bx;replace hb6:=zh hb6;replace hcf:=zh hcf;replace hfj:=zh hfj;rw[hg2]at y2;rw[hg2];replace hg2:=zh hg2
 go_cut [9] from 28 to 35 (λv9 wx=>v9=.pointer (some ⟨g,J*3,none⟩)/\Hid (wx.heap=W6.heap/\Below W6.heap.size W6 wx))
 case first=>
  go_region_with (first |(go_simp;go_at_call 17;refine(hmd.out _).mono ?_;rintro e w' ⟨rfl,rfl⟩))
  all_goals go_wp2_with fail
  all_goals go_meet
  all_goals exact⟨by simp,zh ⟨rfl,(Below.refl _ _).drew⟩⟩
 case rest=>
  obtain⟨rfl,hwc⟩:=hcut;have hb7:Below w5.heap.size w5 wc:=hb6.out.trans (hwc.out.2.mono hb6.out.size);have hsc:wc.heap.size=X+1:=(by rw[hwc.out.1];exact hsz.out)
  obtain⟨ba,bc,ca,hsl,_⟩:=CopyF.at hcf.out hfj.out hg2.out;have ho:D.own2 m=some g:=(by unfold MA.own2;rw[hg2.out];rfl)
  have hgl:=hcf.out.own.lt g ho;have ca7:wc.cell? ⟨g,J*3+2,none⟩=some (.slice ba bo.len bc):=zA hb7 _ _ ca;have cf7:wc.frozen? ⟨g,J*3+2,none⟩=false:=(hb7.frozen (p:=⟨g,J*3+2,none⟩) hgl.2).trans (CopyF.free hcf.out hg2.out _);have hsl7:=hsl.keep (KeepsR.below hb7);have hmem:=List.mem_of_getElem? hfj.out;obtain⟨_,hbo1,hbo2⟩:=hsm.out.funcs _ hmem;have hwt:=wtF_mem _ _ hmem;have hws:=hsm.out.wts;have hno:=nops_any bo _ ba bc wc k hbo1 hbo2 hsl7 (by simp only at hwt;omega) hk64;obtain⟨Z,hZ⟩:∃Z,Z=qI bo k:=⟨_,rfl⟩
  rw[<-hZ]at hno;replace hno:=zh hno;replace hZ:=zh hZ;replace hb7:=zh hb7;replace hsc:=zh hsc;replace hgl:=zh hgl;replace ho:=zh ho;clear hsl hsl7 hbo2 hwt hws hmem ca;go_wp2_with fail;refine hno.out.mono ?_;rintro e u ⟨ao',c',rfl,hsZ,hZl,bu⟩;have cau:u.cell? ⟨g,J*3+2,none⟩=some (.slice ba bo.len bc):=zA bu _ _ ca7;have cfu:u.frozen? ⟨g,J*3+2,none⟩=false:=(bu.frozen (p:=⟨g,J*3+2,none⟩) (by show g<_;rw[hsc.out];have:=hgl.out.2;rw[<-hX.out]at this;omega)).trans cf7;obtain⟨W9,hW9⟩:∃q,q=u.setCell ⟨g,J*3+2,none⟩ (.slice ao' Z.1.len c'):=⟨_,rfl⟩
  have hb5u:Below w5.heap.size w5 u:=hb7.out.trans (bu.mono hb7.out.size);have hX8:X<u.heap.size:=(by have:=bu.size;have:=hsc.out;omega)
  have hgX:g<X:=(by rw[hX.out];exact hgl.out.2)
  have hM9:MdA W9 (vE m J (ty,lo,Z.1)) D:=by
   rw[hW9];refine CopyF.body hcf.out hsm.out hfj.out hg2.out ⟨λb hr hl=>hb5u.block b hl,λb hr _=>hr.2⟩ (hb5u.block g (by rw[<-hX.out];exact hgX)) (by omega) (R:=_) (λb hr=> ?_) hsZ
   rcases hr with⟨⟨_,h2⟩,_⟩ |h
   . intro e;exact h2 (by rw[ho.out,e])
   . rw[hsc.out]at h;omega
  have hwu:Below w.heap.size w u:=hbB.out.b.trans ((hwc.out.2.trans (bu.mono (by rw[hsc.out,<-hsz.out];exact Nat.le_refl _))).mono hbB.out.b.size);have hgw:w.heap.size<=g:=(by have:=hgl.out.1;omega)
  have hw9:Below w.heap.size w W9:=(by rw[hW9];exact hwu.setCell (p:=⟨g,J*3+2,none⟩) hgw _)
  have hbk:∀q,q≠g->W9.heap[q]? =u.heap[q]? :=λq hq=>by rw[hW9];exact Below.heap_setCell u ⟨g,J*3+2,none⟩ _ q hq
  have hu6:∀q,q<X+1->u.heap[q]? =W6.heap[q]? :=λq hq=>(bu.block q (by rw[hsc.out];exact hq)).trans (by rw[hwc.out.1]);have hBl:B<W6.heap.size:=lt_of_block hbB.out.h;have hBg:B<g:=(by have:=hgl.out.1;have:=hb4B.out;omega)
  have hB9:Bm A m B w W9:=⟨(hbk B (by omega)).trans ((hu6 B (by omega)).trans hbB.out.h),MdAt.keep (zA hw9) hA,hw9⟩
  have hX9:W9.heap[X]? =some (xR D m):=(hbk X (by omega)).trans ((hu6 X (by omega)).trans bx.out.h)
  go_upto_region 7 with(fail)
  rw[<-hW9];obtain⟨m',hm'⟩:∃m',m'=vE m J (ty,lo,Z.1):=⟨_,rfl⟩
  have hbe:xR D m=xR D m':=(by rw[hm'];unfold xR MA.v vE;simp)
  have hle:m'.funcs.length=m.funcs.length:=(by rw[hm'];unfold vE;simp)
  rw[<-hm']at hM9;rw[hbe]at hX9;have hx9:Hid (Bm D m' X W9 W9):=zh ⟨hX9,hM9,Below.refl _ _⟩;have hds':Hid (∀t∈m'.datas,t.2.size<=300000):=zh (by rw[hm'];exact hds.out)
  have hwv:Hid (zU m=0->zU m'=0->(zW m').2=E):=zh λh1 h2=>by
   rw[hm',hZ.out]at h2 ⊢;rw[nops_where hfj.out h1 h2,hE.out]
  have hEv:Hid ((zW m).2=E):=zh hE.out.symm;replace hB9:=zh hB9;clear y0 y1 y2 y3 y4 y5 y6 y7 y8 y9 hW9 hb5u hX8 hgX hM9 hwu hgw hw9 hbk hu6 hBl hBg hX9 hbe hm' hcf hfj hg2 hZ hsZ bu cau cfu ca7 cf7 hno hwc hbB hb6 bx hb7 hsc hgl ho hJ hmd hE hb4' hb5' b5' hD hcp hZl;obtain⟨x0,x1,x2,x3,x4,x5,x6,x7,x8,x9⟩:=qO hB9.out.h;have hrc:=zh (rcheckA hB9.out.m hds.out);unfold MA.g at hrc;go_wp2_with fail;refine hrc.out.mono ?_;rintro e v1 ⟨rfl,b1⟩;have hB1:=zh (hB9.out.step b1);have hx1:=zh (hx9.out.step b1);clear hrc b1 hB9 hx9 x0 x1 x2 x3 x4 x5 x6 x7 x8 x9;have hwrong:∀(v:World),Hid (Bm A m B w v)->Hid (Calls Tryz.prog 16 #[A.g m] v λe w'=>e=.returned (.int .i64 E)/\Below v.heap.size v w'):=λv hv=>zh (by have:=rvalidA hv.out.m hds.out;rw[hEv.out]at this;exact this);unfold MA.g at hwrong;replace hwrong:=zh hwrong;have ee:(E==E)=true:=beq_self_eq_true E
  by_cases c1:zU m=0
  case neg=>have n1:(zU m !=0)=true:=bne_iff_ne.2 c1;clear c1;obtain⟨x0,x1,x2,x3,x4,x5,x6,x7,x8,x9⟩:=qO hB1.out.h;go_wp2_with fail;refine(hwrong.out v1 hB1).out.mono ?_;rintro e v2 ⟨rfl,b2⟩;have hv2:=zh (hB1.out.b.trans (b2.mono hB1.out.b.size));have hwk:=zh (jC (hT.out.below hv2.out));clear b2 hB1 hx1 x0 x1 x2 x3 x4 x5 x6 x7 x8 x9;go_wp2_with fail;refine hwk.out.mono ?_;rintro e v3 ⟨rfl,b3⟩;have hv3:=zh (hv2.out.trans (b3.mono hv2.out.size));clear b3;go_wp2_with fail;go_ret;exact⟨rfl,hv3.out⟩
  case pos=>
   have hrc:=zh (rcheckA hx1.out.m hds'.out);unfold MA.g at hrc;rw[c1];have hc1:=zh c1;clear c1;obtain⟨x0,x1,x2,x3,x4,x5,x6,x7,x8,x9⟩:=qO hx1.out.h;rw[hle]at x2 hrc;go_wp2_with fail;refine hrc.out.mono ?_;rintro e v2 ⟨rfl,b2⟩;have hB2:=zh (hB1.out.step b2);have hx2:=zh (hx1.out.step b2);clear b2 hB1 hx1 hrc x0 x1 x2 x3 x4 x5 x6 x7 x8 x9
   by_cases c2:zU m'=0
   case neg=>have n1:(zU m' !=0)=true:=bne_iff_ne.2 c2;clear c2;obtain⟨x0,x1,x2,x3,x4,x5,x6,x7,x8,x9⟩:=qO hB2.out.h;go_wp2_with fail;refine(hwrong.out v2 hB2).out.mono ?_;rintro e v3 ⟨rfl,b2⟩;have hv2:=zh (hB2.out.b.trans (b2.mono hB2.out.b.size));have hwk:=zh (jC (hT.out.below hv2.out));clear b2 hB2 hx2 x0 x1 x2 x3 x4 x5 x6 x7 x8 x9;go_wp2_with fail;refine hwk.out.mono ?_;rintro e v4 ⟨rfl,b3⟩;have hv3:=zh (hv2.out.trans (b3.mono hv2.out.size));clear b3;go_wp2_with fail;go_ret;exact⟨rfl,hv3.out⟩
   case pos=>have hva:=validA hx2.out.m (hT.out.below hB2.out.b);rw[hwv.out hc1.out c2]at hva;unfold MA.g at hva;rw[hle]at hva;rw[c2];clear c2;replace hva:=zh hva;obtain⟨x0,x1,x2,x3,x4,x5,x6,x7,x8,x9⟩:=qO hx2.out.h;rw[hle]at x2;go_wp2_with fail;refine hva.out.mono ?_;rintro e v3 ⟨rfl,b2⟩;have hv2:=zh (hB2.out.b.trans (b2.mono hB2.out.b.size));have hwk:=zh (jC (hT.out.below hv2.out));clear b2 hB2 hx2 hva x0 x1 x2 x3 x4 x5 x6 x7 x8 x9;go_wp2_with fail;refine hwk.out.mono ?_;rintro e v4 ⟨rfl,b3⟩;have hv3:=zh (hv2.out.trans (b3.mono hv2.out.size));clear b3;go_wp2_with fail;go_ret;exact⟨rfl,hv3.out⟩
theorem nops_walk{H:Type}{enc:TypeId×Value->H}(W:World)(base:Nat)(hT:TabU W)(v0:Value)(d0:DataW H)(p0:List MemPlace)(o0:Value.okWide Tryz.prog W .any base 32 v0)(h0:DataW.Trod enc Tryz.prog W 0 (λ_=>true) true 32 v0 d0 p0)(v1:Value)(d1:DataW H)(p1:List MemPlace)(o1:Value.okWide Tryz.prog W .any base 3 v1)(h1:DataW.Trod enc Tryz.prog W 0 (λ_=>true) true 3 v1 d1 p1)(v2:Value)(d2:DataW H)(p2:List MemPlace)(o2:Value.okWide Tryz.prog W .any base 3 v2)(h2:DataW.Trod enc Tryz.prog W 0 (λ_=>true) true 3 v2 d2 p2):Calls Tryz.prog 6 #[v0,v1,v2] W λe W'=>e=.returned (.bool true)/\Below W.heap.size W W':=by
 obtain⟨m,a0,k0,a1,k1,a2,k2,a3,k3,a4,k4,a5,k5,a6,k6,a7,k7,a8,k8,a9,k9,rfl,hM⟩:=open_module o0 h0;obtain⟨n1,rfl,rfl,rfl,wb1⟩:=Go.ChangeShapes.open_int Tryz.underlying3 o1 h1;obtain⟨n2,rfl,rfl,rfl,wb2⟩:=Go.ChangeShapes.open_int Tryz.underlying3 o2 h2
 have hk:n2<=9223372036854775807:=by simp[Lit.wf,IntKind.min,IntKind.max,IntKind.signed,IntKind.bits]at wb2;omega
 exact nopw_any (A:=⟨a0,k0,a1,k1,a2,k2,a3,k3,a4,k4,a5,k5,a6,k6,a7,k7,a8,k8,a9,k9⟩) hM hT hk
end Go.Proofs.YtacohbllbjgdgaaGreatDoor
