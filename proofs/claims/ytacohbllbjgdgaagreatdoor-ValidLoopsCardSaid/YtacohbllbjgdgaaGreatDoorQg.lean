/- ValidLoops. -/
import Derived.Test.YtacohbllbjgdgaaGreatDoorQd
import Derived.Test.YtacohbllbjgdgaaGreatDoorQn
import Derived.Test.YtacohbllbjgdgaaGreatDoorMk
import Derived.Test.YtacohbllbjgdgaaGreatDoorSa
set_option linter.all false
set_option maxRecDepth 100000
set_option maxHeartbeats 8000000
namespace Go.Proofs.YtacohbllbjgdgaaGreatDoor
open Go.RowKit
theorem loopw_any{w:World}{m:Md}{A:MA}{t:Int}(hA:MdA w m A)(hT:TabU w):Calls Tryz.prog 8 #[A.g m,.int .i64 t] w λe w'=>e=.returned (.bool true)/\Below w.heap.size w w':=by
 have hbm:=bm_new hA;obtain⟨w1,hw1⟩:∃w1,w1=w.alloc (xR A m):=⟨_,rfl⟩
 obtain⟨B,hB⟩:∃B,B=w.heap.size:=⟨_,rfl⟩
 rw[<-hw1,<-hB]at hbm;have hlg:=largeA hbm.m;obtain⟨x0,x1,x2,x3,x4,x5,x6,x7,x8,x9⟩:=qO hbm.h;unfold xR MA.v at hw1;unfold MA.g;replace hlg:=zh hlg;replace hbm:=zh hbm;replace hT:=zh hT;have hmx:Tryz.prog.follows .mixedOrders=true:=(by kernel_rfl)
 go_enter Tryz.func8,Tryz.ntmps8
 go_upto_region 1 with(fail)
 rw[<-hw1,<-hB];clear hw1;replace hB:=zh hB;go_wp2_with fail;refine hlg.out.mono ?_;rintro e w2 ⟨L,rfl,hsm,b2⟩;have hb2:=zh (hbm.out.step b2);clear b2 hlg hbm x0 x1 x2 x3 x4 x5 x6 x7 x8 x9;obtain⟨x0,x1,x2,x3,x4,x5,x6,x7,x8,x9⟩:=qO hb2.out.h
 by_cases hL:L=true\/m.funcs.length=0
 . have hc:L=true\/(L=false/\((m.funcs.length:Int)==0)=true):=by
    cases L with
    |true=>exact .inl rfl
    |false=>exact .inr ⟨rfl,beq_iff_eq.2 (by rcases hL with h |h;cases h;omega)⟩
   clear hL hsm;have hwk:=zh (jC (hT.out.below hb2.out.b));have hb3:=zh hb2.out.b;clear hb2
   rcases hc with rfl |⟨rfl,h1⟩
   all_goals
    go_wp2_with fail;refine hwk.out.mono ?_;rintro e w3 ⟨rfl,b3⟩;have hb4:=zh (hb3.out.trans (b3.mono hb3.out.size));clear b3;go_wp2_with fail;go_ret;exact⟨rfl,hb4.out⟩
 obtain rfl:L=false:=by cases L with
  |true=>exact absurd (.inl rfl) hL
  |false=>rfl
 obtain⟨_,hn0⟩:=not_or.1 hL;replace hn0:1<=m.funcs.length:=by omega
 have h1:((m.funcs.length:Int)==0)=false:=beq_eq_false_iff_ne.2 (by omega);replace hsm:=zh (hsm rfl);clear hL;have hds:Hid (∀t∈m.datas,t.2.size<=300000):=zh λt ht=>(hsm.out.datas t ht).1;have hcp:=zh (copyA hsm.out hb2.out.m);unfold MA.g at hcp;go_wp2_with fail;refine hcp.out.mono ?_;rintro e w3 ⟨C,rfl,hC,_,_,b3⟩;have hb3:=zh (hb2.out.step b3);clear hcp b3 x0 x1 x2 x3 x4 x5 x6 x7 x8 x9 hb2 h1;have hva:=zh (validA hC (hT.out.below hb3.out.b));unfold MA.g at hva;clear hC;go_wp2_with fail;refine hva.out.mono ?_;rintro e w4 ⟨rfl,b4⟩;have hb4:=zh (hb3.out.step b4);clear hva b4 hb3;obtain⟨x0,x1,x2,x3,x4,x5,x6,x7,x8,x9⟩:=qO hb4.out.h;obtain⟨E,hE⟩:∃E,E=(zW m).2:=⟨_,rfl⟩
 rw[<-hE];have hrv:=zh (rvalidA hb4.out.m hds.out);rw[<-hE]at hrv;unfold MA.g at hrv
 by_cases hE0:E=0
 case neg=>
  have h1:(E==0)=false:=beq_eq_false_iff_ne.2 hE0;have h2:(E !=0)=true:=(by rw[bne,h1];rfl)
  have h3:(E==E)=true:=beq_self_eq_true E;clear hE hE0 hsm hn0;go_wp2_with fail;refine hrv.out.mono ?_;rintro e w5 ⟨rfl,b5⟩;have hb5:=zh (hb4.out.b.trans (b5.mono hb4.out.b.size));clear b5 hrv;have hwk:=zh (jC (hT.out.below hb5.out));clear x0 x1 x2 x3 x4 x5 x6 x7 x8 x9 hb4;go_wp2_with fail;refine hwk.out.mono ?_;rintro e w6 ⟨rfl,b6⟩;have hb6:=zh (hb5.out.trans (b6.mono hb5.out.size));clear b6;go_wp2_with fail;go_ret;exact⟨rfl,hb6.out⟩
 have hv:Hid (Vd m):=zh (vd_of (hE.symm.trans hE0));subst hE0;clear hE hrv;have hcp:=zh (copyA hsm.out hb4.out.m);unfold MA.g at hcp;go_wp2_with fail;refine hcp.out.mono ?_;rintro e w5 ⟨D,rfl,hD,hF,_,b5⟩;have hb5:=zh (hb4.out.step b5);obtain⟨X,hX⟩:∃X,X=w5.heap.size:=⟨_,rfl⟩
 obtain⟨W6,hW6⟩:∃W6,W6=w5.alloc (xR D m):=⟨_,rfl⟩
 have bx:=bm_new hD;rw[<-hW6,<-hX]at bx;have hb6:Below w5.heap.size w5 W6:=(by rw[hW6];exact Below.of_alloc _ _)
 obtain⟨y0,y1,y2,y3,y4,y5,y6,y7,y8,y9⟩:=qO bx.h;have hbB:=zh (hb5.out.step hb6);have hsz:W6.heap.size=X+1:=(by rw[hW6,hX];simp)
 unfold xR MA.v at hW6
 go_upto_region 7 with(fail)
 rw[<-hW6,<-hX];have hb4':=hb4.out.b.size;have hb4B:=zh (lt_of_block hb4.out.h);have hb5':=hb5.out.b.size;have b5':=b5.size;clear hW6 x0 x1 x2 x3 x4 x5 x6 x7 x8 x9 hb5 hb4 b5;obtain⟨ts,hcf⟩:=hF;have hl2:=hsm.out.l2;obtain⟨J,hJ⟩:∃J,J=modN t m.funcs.length:=⟨_,rfl⟩
 have hJl:J<m.funcs.length:=(by rw[hJ];exact modN_lt t hn0)
 have hmd:=λw=>mod_any t m.funcs.length hn0 (by omega) w;rw[<-hJ]at hmd;replace hmd:=zh hmd;replace hJ:=zh hJ;obtain⟨⟨ty,lo,bo⟩,hfj⟩:∃f,m.funcs[J]? =some f:=⟨_,List.getElem?_eq_getElem hJl⟩
 obtain⟨g,hg2⟩:∃g,D.a2=some ⟨g,0,none⟩:=by
  rcases hcf.own.2 with⟨e,e2⟩ |⟨g,cap,cur,e,_⟩
  . omega
  . injection e with e1 e2 e3
    exact⟨g,e1⟩
 replace hX:=zh hX;replace hsz:=zh hsz;replace bx:=zh bx;replace hb6:=zh hb6;replace hcf:=zh hcf;replace hfj:=zh hfj;rw[hg2]at y2;rw[hg2];replace hg2:=zh hg2
 go_cut [7] from 37 to 44 (λv7 wx=>v7=.pointer (some ⟨g,J*3,none⟩)/\Hid (wx.heap=W6.heap/\Below W6.heap.size W6 wx))
 case first=>
  go_region_with (first |(go_simp;go_at_call 17;refine(hmd.out _).mono ?_;rintro e w' ⟨rfl,rfl⟩))
  all_goals go_wp2_with fail
  all_goals go_meet
  all_goals exact⟨by simp,zh ⟨rfl,(Below.refl _ _).drew⟩⟩
 case rest=>
  obtain⟨rfl,hwc⟩:=hcut;have hb7:Below w5.heap.size w5 wc:=hb6.out.trans (hwc.out.2.mono hb6.out.size);have hsc:wc.heap.size=X+1:=(by rw[hwc.out.1];exact hsz.out)
  obtain⟨ba,bc,ca,hsl,cty⟩:=CopyF.at hcf.out hfj.out hg2.out;have ho:D.own2 m=some g:=(by unfold MA.own2;rw[hg2.out];rfl)
  have hgl:=hcf.out.own.lt g ho;have ca7:wc.cell? ⟨g,J*3+2,none⟩=some (.slice ba bo.len bc):=zA hb7 _ _ ca;have ct7:wc.cell? ⟨g,J*3,none⟩=some (.int .i64 ty):=zA hb7 _ _ cty;have cf7:wc.frozen? ⟨g,J*3+2,none⟩=false:=(hb7.frozen (p:=⟨g,J*3+2,none⟩) hgl.2).trans (CopyF.free hcf.out hg2.out _);have hmem:=List.mem_of_getElem? hfj.out;have hcm:=cm_of hv.out.c
  have hty:0<=ty/\ty<(m.types.length:Int):=by have h1:=(hcm.funcs _ hmem).1;have h2:=idx_lt hv.out.idx ty (by unfold vB;exact List.mem_append.2 (.inr (List.mem_map.2 ⟨_,hmem,rfl⟩)));unfold zN at h1;simp at h1;exact⟨h1.1,h2⟩
  obtain⟨T,rfl⟩:=Int.eq_ofNat_of_zero_le hty.1;have hTl:T<m.types.length:=(by omega)
  obtain⟨⟨ps,rs⟩,htt⟩:∃q,m.types[T]? =some q:=⟨_,List.getElem?_eq_getElem hTl⟩
  obtain⟨tb,tof,e0,⟨_,⟨ra,rc,cr,hri⟩⟩⟩:=(hD.types.keep λ_ _ _=>TypeAt.keep (zA hb7)).row htt;have z0:wc.cell? ⟨X,0,none⟩=some (.slice D.a0 m.types.length D.k0):=zA hwc.out.2 _ _ y0;rw[e0]at z0;simp only at cr hri;have hr1:rs.length<=1:=types_r hv.out.types _ (List.mem_of_getElem? htt);have hrl:(m.types.getD T ([],[])).2=rs:=(by rw[List.getD_eq_getElem?_getD,htt];rfl)
  replace hri:=zh hri;replace e0:=zh e0;replace htt:=zh htt;replace hrl:=zh hrl;replace hcm:=zh hcm;replace hty:=zh hty
  go_upto_region 9 with(fail)
  obtain⟨V,rfl⟩:∃q,q=wc:=⟨_,rfl⟩
  go_cut [9] from 45 to 53 (λv9 wx=>v9=.slice ra rs.length rc/\Hid (wx.heap=V.heap/\Below V.heap.size V wx))
  case first=>
   go_region_with (fail)
   all_goals go_wp2_with fail
   all_goals go_meet
   all_goals exact⟨by simp,zh ⟨rfl,(Below.refl _ _).drew⟩⟩
  case rest=>
  obtain⟨rfl,hwd⟩:=hcut;have hb7c:Below w5.heap.size w5 wc:=hb7.trans (hwd.out.2.mono hb7.size);have hscc:wc.heap.size=X+1:=(by rw[hwd.out.1];exact hsc)
  have ca8:wc.cell? ⟨g,J*3+2,none⟩=some (.slice ba bo.len bc):=zA hwd.out.2 _ _ ca7;have cf8:wc.frozen? ⟨g,J*3+2,none⟩=false:=(World.frozen?_of_block (w:=V) (w':=wc) (a:=⟨g,J*3+2,none⟩) (by rw[hwd.out.1])).trans cf7;have hrc:=hri.out.keep (zA hwd.out.2);have hslc:=hsl.keep (KeepsR.below hb7c);obtain⟨a,ha⟩:∃a,a=rs.headD 0:=⟨_,rfl⟩
  obtain⟨p,hp⟩:∃p,p=wc.heap.size:=⟨_,rfl⟩
  obtain⟨W8,hW8⟩:∃W8,W8=(wc.alloc (.cells #[.int .i64 2,.int .i64 a,.int .i64 0,.int .i64 0,.slice none 0 0,.slice ba bo.len bc,.slice none 0 0] 49)).alloc (.cells #[.int .i64 3,.int .i64 a,.int .i64 0,.int .i64 0,.slice none 0 0,.slice (some ⟨wc.heap.size,0,none⟩) 1 1,.slice none 0 0] 49):=⟨_,rfl⟩
  have hb8:Below wc.heap.size wc W8:=(by rw[hW8];exact((Below.refl _ _).alloc (Nat.le_refl _) _).alloc (by simp) _)
  have k1:W8.heap[p]? =some (.cells #[.int .i64 2,.int .i64 a,.int .i64 0,.int .i64 0,.slice none 0 0,.slice ba bo.len bc,.slice none 0 0] 49 (0,0)):=(by rw[hW8,hp];exact old_at (size_of rfl _) (by omega) (heap_alloc_new wc _))
  have k2:W8.heap[p+1]? =some (.cells #[.int .i64 3,.int .i64 a,.int .i64 0,.int .i64 0,.slice none 0 0,.slice (some ⟨p,0,none⟩) 1 1,.slice none 0 0] 49 (0,0)):=(by rw[hW8,hp];exact new_at (size_of rfl _) _)
  have c1:∀(j:Nat) (u:Value),(#[.int .i64 2,.int .i64 a,.int .i64 0,.int .i64 0,.slice none 0 0,.slice ba bo.len bc,.slice none 0 0]:Array Value)[j]? =some u->W8.cell? ⟨p,j,none⟩=some u:=λj u e=>by rw[cell_of_row _ _ _ _ _ _ k1];exact e
  have c2:∀(j:Nat) (u:Value),(#[.int .i64 3,.int .i64 a,.int .i64 0,.int .i64 0,.slice none 0 0,.slice (some ⟨p,0,none⟩) 1 1,.slice none 0 0]:Array Value)[j]? =some u->W8.cell? ⟨p+1,j,none⟩=some u:=λj u e=>by rw[cell_of_row _ _ _ _ _ _ k2];exact e
  have hlb:bo.len<=9223372036854775807:=small_bodies hsm.out _ hmem;have hgX:g<X:=(by rw[hX.out];exact hgl.2)
  have hsL:SlR (λb=>(w4.heap.size<=b/\b≠g)) W8 (some ⟨p+1,0,none⟩) (loopB a bo):=by refine .inr ⟨p+1,0,rfl,⟨by omega,by omega⟩,⟨c2 0 _ rfl,c2 1 _ rfl,c2 2 _ rfl,c2 3 _ rfl⟩,⟨none,0,c2 4 _ rfl,Nat.zero_le _,.inl rfl⟩,⟨_,1,c2 5 _ rfl,by show 0+1<=9223372036854775807;omega,.inr ⟨p,0,rfl,⟨by omega,by omega⟩,⟨c1 0 _ rfl,c1 1 _ rfl,c1 2 _ rfl,c1 3 _ rfl⟩,⟨none,0,c1 4 _ rfl,Nat.zero_le _,.inl rfl⟩,⟨ba,bc,c1 5 _ rfl,hlb,?_⟩,⟨none,0,c1 6 _ rfl,Nat.zero_le _,.inl rfl⟩,trivial⟩⟩,⟨none,0,c2 6 _ rfl,Nat.zero_le _,.inl rfl⟩,trivial⟩;exact(hslc.keep (KeepsR.below hb8)).keep ⟨λ_ _ _=>rfl,λb hb _=>⟨hb.1,λe=>hb.2 (by rw[ho,e])⟩⟩
  obtain⟨W9,hW9⟩:∃q,q=W8.setCell ⟨g,J*3+2,none⟩ (.slice (some ⟨p+1,0,none⟩) 1 1):=⟨_,rfl⟩
  have hb58:Below w5.heap.size w5 W8:=hb7c.trans (hb8.mono hb7c.size)
  have hM9:MdA W9 (vE m J ((T:Int),lo,loopB a bo)) D:=by rw[hW9];exact CopyF.body (b':=loopB a bo) hcf.out hsm.out hfj.out hg2.out ⟨λb hr hl=>hb58.block b hl,λb hr _=>hr.2⟩ (hb58.block g hgl.2) (by show 0+1<=9223372036854775807;omega) (λb hr=>hr.2) hsL
  have hw8:Below w.heap.size w W8:=hbB.out.b.trans ((hwc.out.2.trans ((hwd.out.2.trans (hb8.mono (by rw[hscc,hsc];exact Nat.le_refl _))).mono (by rw[hsc,<-hsz.out];exact Nat.le_refl _))).mono hbB.out.b.size);have hgw:w.heap.size<=g:=(by have:=hgl.1;omega)
  have hw9:Below w.heap.size w W9:=(by rw[hW9];exact hw8.setCell (p:=⟨g,J*3+2,none⟩) hgw _)
  have hbk:∀q,q≠g->W9.heap[q]? =W8.heap[q]? :=λq hq=>by rw[hW9];exact Below.heap_setCell W8 ⟨g,J*3+2,none⟩ _ q hq
  have hu6:∀q,q<X+1->W8.heap[q]? =W6.heap[q]? :=λq hq=>(hb8.block q (by omega)).trans (by rw[hwd.out.1,hwc.out.1]);have hBl:B<W6.heap.size:=lt_of_block hbB.out.h;have hBg:B<g:=(by have:=hgl.1;have:=hb4B.out;omega)
  have hB9:Bm A m B w W9:=⟨(hbk B (by omega)).trans ((hu6 B (by rw[<-hsz.out];exact hBl)).trans hbB.out.h),MdAt.keep (zA hw9) hA,hw9⟩
  have hX9:W9.heap[X]? =some (xR D m):=(hbk X (by omega)).trans ((hu6 X (by omega)).trans bx.out.h);obtain⟨m',hm'⟩:∃m',m'=vE m J ((T:Int),lo,loopB a bo):=⟨_,rfl⟩
  have hbe:xR D m=xR D m':=(by rw[hm'];unfold xR MA.v vE;simp)
  have hle:m'.funcs.length=m.funcs.length:=(by rw[hm'];unfold vE;simp)
  rw[<-hm']at hM9;rw[hbe]at hX9;have hx9:Hid (Bm D m' X W9 W9):=zh ⟨hX9,hM9,Below.refl _ _⟩;have hds':Hid (∀t∈m'.datas,t.2.size<=300000):=zh (by rw[hm'];exact hds.out)
  have hwv:Hid (zU m'=0->xF bo 0=false->(zW m').2=0):=zh λh1 h2=>by
   rw[hm',ha,<-hrl.out]at h1 ⊢;have hq:=(loop_where hfj.out hv.out (by rw[Int.toNat_natCast];exact h1) h2).where;rw[Int.toNat_natCast]at hq;rw[hq]
  replace hB9:=zh hB9;have hwt:=zh (wtF_mem _ _ hmem);have hws:=zh (hsm.out.wts);have ca9:=zA hb8 _ _ ca8;have cf9:=(hb8.frozen (p:=⟨g,J*3+2,none⟩) (by show g<_;omega)).trans cf8;rw[hp]at hW9;rw[hW8]at hW9 ca9 cf9;clear y0 y1 y2 y3 y4 y5 y6 y7 y8 y9 hb58 hM9 hw8 hgw hw9 hbk hu6 hBl hBg hX9 hbe hm' hcf hg2 hsL k1 k2 c1 c2 hb8 hslc ca7 cf7 ct7 hwc hwd hbB hb6 bx hb7 hb7c hsc hscc hgl ho hb4' hb5' b5' hD hcp hsl hW8 z0 cr hri e0 htt hrl hcm hty ca cty cf8 hv hgX hlb hp;replace hrc:=zh hrc
  rcases rs with _ |⟨r0,rs⟩
  case' nil=>
   obtain rfl:a=0:=ha
   go_upto_region 13 with(fail)
  case' cons=>
   obtain rfl:a=r0:=ha
   obtain⟨rb,ro,rfl,hr0⟩:∃b o,ra=some ⟨b,o,none⟩/\wc.cell? ⟨b,o,none⟩=some (.int .i64 a):=by
    rcases hrc.out.2 with h |⟨b,o,e,h⟩
    . cases h
    . exact⟨b,o,e,h 0 a rfl⟩
   obtain rfl:rs=[]:=List.eq_nil_of_length_eq_zero (by simp at hr1;exact hr1▸rfl)
   go_upto_region 13 with(fail)
  all_goals
   rw[<-hW9];clear hW9 ca9 cf9 ca8;obtain⟨x0,x1,x2,x3,x4,x5,x6,x7,x8,x9⟩:=qO hx9.out.h;have hrk:=zh (rcheckA hx9.out.m hds'.out);unfold MA.g at hrk;rw[hle]at x2 hrk;go_wp2_with fail;refine hrk.out.mono ?_;rintro e v1 ⟨rfl,b1⟩;have hB1:=zh (hB9.out.step b1);have hx1:=zh (hx9.out.step b1);clear hrk b1 hB9 hx9 x0 x1 x2 x3 x4 x5 x6 x7 x8 x9
   by_cases c1:zU m'=0
   case neg=>have n1:(zU m' !=0)=true:=bne_iff_ne.2 c1;clear c1;have hwk:=zh (jC (hT.out.below hB1.out.b));have hv1:=zh hB1.out.b;clear hB1 hx1;go_wp2_with fail;refine hwk.out.mono ?_;rintro e v2 ⟨rfl,b2⟩;have hv2:=zh (hv1.out.trans (b2.mono hv1.out.size));clear b2;go_wp2_with fail;go_ret;exact⟨rfl,hv2.out⟩
   case pos=>
    rw[c1];have hlz:=zh (hwv.out c1);clear c1 hwv;obtain⟨n',f',hnf⟩:∃n f,zW m'=(n,f):=⟨_,_,rfl⟩
    have hwh:=whereA hx1.out.m (hT.out.below hB1.out.b);rw[hnf]at hwh hlz;replace hnf:=zh hnf;unfold MA.g at hwh;rw[hle]at hwh;replace hwh:=zh hwh;obtain⟨x0,x1,x2,x3,x4,x5,x6,x7,x8,x9⟩:=qO hx1.out.h;rw[hle]at x2;go_wp2_with fail;refine hwh.out.mono ?_;rintro e v2 ⟨rfl,b2⟩;have hB2:=zh (hB1.out.step b2);have hx2:=zh (hx1.out.step b2);clear hwh b2 hB1 hx1 x0 x1 x2 x3 x4 x5 x6 x7 x8 x9;obtain⟨x0,x1,x2,x3,x4,x5,x6,x7,x8,x9⟩:=qO hx2.out.h;rw[hle]at x2;have hwh:=rwhereA hx2.out.m hds'.out;rw[hnf.out]at hwh;unfold MA.g at hwh;rw[hle]at hwh;replace hwh:=zh hwh;go_wp2_with fail;refine hwh.out.mono ?_;rintro e v3 ⟨rfl,b2⟩;have hB3:=zh (hB2.out.step b2);clear hwh b2 hB2 hx2 x0 x1 x2 x3 x4 x5 x6 x7 x8 x9;have en:(n'==n')=true:=beq_self_eq_true n'
    by_cases hf0:f'=0
    case pos=>
     have ef:(f'==0)=true:=beq_iff_eq.2 hf0;clear hf0;have hwk:Hid (∀v,Below v3.heap.size v3 v->Calls Tryz.prog 10 #[] v λe w'=>e=.returned (.bool true)/\Below v.heap.size v w'):=zh λv hv=>jC (hT.out.below (hB3.out.b.trans (hv.mono hB3.out.b.size)));have hv1:=zh hB3.out.b;clear hB3
     go_upto_region 17 with(fail)
     refine wp_fv _ 110 rfl (region_listL hmx 110 87 23 [.int .i64 n',.int .i64 n',.bool true,.bool true,.int .i64 f',.bool true,.bool true,undef,undef,undef,undef,undef,undef,undef,undef,undef,undef,undef,.bool true,.bool true,.bool true,.bool true,.bool true] rfl rfl (by decide) (by kernel_rfl) (by kernel_rfl) (by kernel_rfl) (by kernel_rfl) (by kernel_rfl) ?_ ?_)
     . intro f w' hbx ho;have e1:=ho 1 (by decide);have e2:=ho 2 (by decide);have e10:=ho 10 (by decide);have e12:=ho 12 (by decide);have e13:=ho 13 (by decide);clear ho
       iterate 23 (first |(refine .run rfl ?_ ?_;rotate_left) |(refine .runG rfl rfl ?_ ?_;rotate_left) |refine .skip rfl rfl rfl ?_)
       exact .nil
       all_goals
        intro hv K' hK';simp(disch:=decide)only[Needs,Region.binds,List.getD_cons_succ,List.getD_cons_zero,Nat.reduceAdd,true_imp_iff,and_true]at hv;go_simp;(try simp(disch:=decide)only[fv_t,hv,e1,e2,e10,e12,e13]);(try go_simp);first
        |exact hK' _ _ ⟨jZ _ _,Below.refl _ _⟩
        |(go_at_call 10;refine(hwk.out _ hbx).mono ?_;rintro e u ⟨rfl,hu⟩;go_simp;exact hK' _ _ ⟨jZ _ _,hu⟩)
     . intro f w' hbx ho hv;have e22:=hv 22 (by decide);refine⟨_,rfl,rfl,λK' hK'=> ?_⟩;go_simp;(try simp(disch:=decide)only[fv_t,e22]);(try go_simp);refine hK' _ _ ?_;go_wp2_with fail;rw[jZ];refine bodyPost_ret (results_tmp (t:=4) rfl _ _ _) rfl ?_;exact⟨congrArg Ending.returned (fv_ret (by decide)),hv1.out.trans (hbx.mono hv1.out.size)⟩
    case neg=>
     have ef:(f'==0)=false:=beq_eq_false_iff_ne.2 hf0
     have hld:xF bo 0=true:=by
      cases hq:xF bo 0 with
      |true=>rfl
      |false=>exact absurd (hlz.out hq) hf0
     clear hf0 hlz;obtain⟨x0,x1,x2,x3,x4,x5,x6,x7,x8,x9⟩:=qO hB3.out.h;obtain⟨fb,fo,e2,⟨_,_,⟨la,lk,cl,hll,hil⟩⟩⟩:=hB3.out.m.funcs.row hfj.out;rw[e2]at x2
     have hlead:Hid (∀v,Below v3.heap.size v3 v->Calls Tryz.prog 20 #[.slice la bo.len lk,.int .i64 0] v λe w'=>e=.returned (.bool true)/\Below v.heap.size v w'):=zh λv hv=>by
      have:=leads_any bo la lk v 0 hll (hil.keep (zA hv)) (by omega) (by have h1:wt bo<=wtF m.funcs:=hwt.out;have h2:=hws.out;omega);rw[hld]at this;exact this
     have hmd2:=λw=>mod_any t m.funcs.length hn0 (by omega) w;rw[<-hJ.out]at hmd2;replace hmd2:=zh hmd2;have hwk:Hid (∀v,Below v3.heap.size v3 v->Calls Tryz.prog 10 #[] v λe w'=>e=.returned (.bool true)/\Below v.heap.size v w'):=zh λv hv=>jC (hT.out.below (hB3.out.b.trans (hv.mono hB3.out.b.size)));have hv1:=zh hB3.out.b;have cl':v3.cell? ⟨fb,fo+J*3+2,none⟩=some (.slice la bo.len lk):=cl;clear hil hld e2 cl hB3
     go_upto_region 17 with(fail)
     refine wp_fv _ 110 rfl (region_listL hmx 110 87 23 [.int .i64 n',.int .i64 n',.bool true,.bool true,.int .i64 f',.bool false,.bool false,.pointer (some ⟨B,2,none⟩),.slice (some ⟨fb,fo,none⟩) m.funcs.length A.k2,.int .i64 t,.pointer (some ⟨B,2,none⟩),.slice (some ⟨fb,fo,none⟩) m.funcs.length A.k2,.int .i64 (m.funcs.length:Int),.int .i64 (J:Int),.pointer (some ⟨fb,fo+J*3,none⟩),.pointer (some ⟨fb,fo+J*3+2,none⟩),.slice la bo.len lk,.bool true,.bool true,.bool true,.bool true,.bool true,.bool true] rfl rfl (by decide) (by kernel_rfl) (by kernel_rfl) (by kernel_rfl) (by kernel_rfl) (by kernel_rfl) ?_ ?_)
     . intro f w' hbx ho;have e1:=ho 1 (by decide);have e2:=ho 2 (by decide);have e10:=ho 10 (by decide);have e12:=ho 12 (by decide);have e13:=ho 13 (by decide);have x2:=zA hbx _ _ x2;have cl':=zA hbx _ _ cl';clear ho
       iterate 23 (first |(refine .run rfl ?_ ?_;rotate_left) |(refine .runG rfl rfl ?_ ?_;rotate_left) |refine .skip rfl rfl rfl ?_)
       exact .nil
       all_goals
        intro hv K' hK';simp(disch:=decide)only[Needs,Region.binds,List.getD_cons_succ,List.getD_cons_zero,Nat.reduceAdd,true_imp_iff,and_true]at hv;go_simp;(try simp(disch:=decide)only[fv_t,hv,e1,e2,e10,e12,e13]);(try go_simp);first
        |exact hK' _ _ ⟨jZ _ _,Below.refl _ _⟩
        |(go_at_call 17;refine(hmd2.out _).mono ?_;rintro e u ⟨rfl,rfl⟩;go_simp;exact hK' _ _ ⟨jZ _ _,Below.refl _ _⟩)
        |(go_at_call 20;refine(hlead.out _ hbx).mono ?_;rintro e u ⟨rfl,hu⟩;go_simp;exact hK' _ _ ⟨jZ _ _,hu⟩)
        |(go_at_call 10;refine(hwk.out _ hbx).mono ?_;rintro e u ⟨rfl,hu⟩;go_simp;exact hK' _ _ ⟨jZ _ _,hu⟩)
     . intro f w' hbx ho hv;have e22:=hv 22 (by decide);refine⟨_,rfl,rfl,λK' hK'=> ?_⟩;go_simp;(try simp(disch:=decide)only[fv_t,e22]);(try go_simp);refine hK' _ _ ?_;go_wp2_with fail;rw[jZ];refine bodyPost_ret (results_tmp (t:=4) rfl _ _ _) rfl ?_;exact⟨congrArg Ending.returned (fv_ret (by decide)),hv1.out.trans (hbx.mono hv1.out.size)⟩
theorem loops_walk{H:Type}{enc:TypeId×Value->H}(W:World)(base:Nat)(hT:TabU W)(v0:Value)(d0:DataW H)(p0:List MemPlace)(o0:Value.okWide Tryz.prog W .any base 32 v0)(h0:DataW.Trod enc Tryz.prog W 0 (λ_=>true) true 32 v0 d0 p0)(v1:Value)(d1:DataW H)(p1:List MemPlace)(o1:Value.okWide Tryz.prog W .any base 3 v1)(h1:DataW.Trod enc Tryz.prog W 0 (λ_=>true) true 3 v1 d1 p1):Calls Tryz.prog 8 #[v0,v1] W λe W'=>e=.returned (.bool true)/\Below W.heap.size W W':=by
 obtain⟨m,a0,k0,a1,k1,a2,k2,a3,k3,a4,k4,a5,k5,a6,k6,a7,k7,a8,k8,a9,k9,rfl,hM⟩:=open_module o0 h0;obtain⟨n1,rfl,rfl,rfl,wb1⟩:=Go.ChangeShapes.open_int Tryz.underlying3 o1 h1;exact loopw_any (A:=⟨a0,k0,a1,k1,a2,k2,a3,k3,a4,k4,a5,k5,a6,k6,a7,k7,a8,k8,a9,k9⟩) hM hT
end Go.Proofs.YtacohbllbjgdgaaGreatDoor
