/- ValidSays. -/
import Derived.Test.YtacohbllbjgdgaaGreatDoorWx
import Derived.Test.YtacohbllbjgdgaaGreatDoorSs
import Derived.Test.YtacohbllbjgdgaaGreatDoorMk
import Derived.Test.YtacohbllbjgdgaaGreatDoorSa
set_option linter.all false
set_option maxRecDepth 100000
set_option maxHeartbeats 8000000
namespace Go.Proofs.YtacohbllbjgdgaaGreatDoor
open Go.RowKit
theorem says_any{w:World}{m:Md}{A:MA}(hA:MdA w m A)(hT:TabU w):Calls Tryz.prog 3 #[A.g m] w λe w'=>e=.returned (.bool true)/\Below w.heap.size w w':=by
 have hbm:=bm_new hA;obtain⟨w1,hw1⟩:∃w1,w1=w.alloc (xR A m):=⟨_,rfl⟩
 obtain⟨B,hB⟩:∃B,B=w.heap.size:=⟨_,rfl⟩
 rw[<-hw1,<-hB]at hbm;have hlg:=largeA hbm.m;obtain⟨x0,x1,x2,x3,x4,x5,x6,x7,x8,x9⟩:=qO hbm.h;unfold xR MA.v at hw1;unfold MA.g;replace hlg:=zh hlg;replace hbm:=zh hbm;replace hT:=zh hT;go_enter Tryz.func3,Tryz.ntmps3
 go_upto_region 1 with(fail)
 rw[<-hw1,<-hB];clear hw1;replace hB:=zh hB;go_wp2_with fail;refine hlg.out.mono ?_;rintro e w2 ⟨L,rfl,hsm,b2⟩;have hb2:=zh (hbm.out.step b2);clear b2 hlg hbm x0 x1 x2 x3 x4 x5 x6 x7 x8 x9;obtain⟨x0,x1,x2,x3,x4,x5,x6,x7,x8,x9⟩:=qO hb2.out.h;cases L with
 |true=>have hwk:=zh (jC (hT.out.below hb2.out.b));have hb3:=zh hb2.out.b;clear hb2;go_wp2_with fail;refine hwk.out.mono ?_;rintro e w3 ⟨rfl,b3⟩;have hb4:=zh (hb3.out.trans (b3.mono hb3.out.size));clear b3;go_wp2_with fail;go_ret;exact⟨rfl,hb4.out⟩
 |false=>
 replace hsm:=zh (hsm rfl);have hds:Hid (∀t∈m.datas,t.2.size<=300000):=zh λt ht=>(hsm.out.datas t ht).1;have hcp:=zh (copyA hsm.out hb2.out.m);unfold MA.g at hcp;go_wp2_with fail;refine hcp.out.mono ?_;rintro e w3 ⟨C,rfl,hC,_,_,b3⟩;have hb3:=zh (hb2.out.step b3);clear hcp b3 x0 x1 x2 x3 x4 x5 x6 x7 x8 x9 hb2;obtain⟨X,hX⟩:∃X,X=w3.heap.size:=⟨_,rfl⟩
 obtain⟨W4,hW4⟩:∃W4,W4=w3.alloc (xR C m):=⟨_,rfl⟩
 have bx:=bm_new hC;rw[<-hW4,<-hX]at bx;have b4:Below w3.heap.size w3 W4:=(by rw[hW4];exact Below.of_alloc _ _)
 have hb4:=zh (hb3.out.step b4);unfold xR MA.v at hW4
 go_upto_region 4 with(fail)
 rw[<-hW4,<-hX];clear hW4 hb3 b4 hC;replace hX:=zh hX;obtain⟨y0,y1,y2,y3,y4,y5,y6,y7,y8,y9⟩:=qO bx.h;replace bx:=zh bx;obtain⟨n,f,hnf⟩:∃n f,zW m=(n,f):=⟨_,_,rfl⟩
 replace hnf:=zh hnf;have hwh:=whereA bx.out.m (hT.out.below hb4.out.b);rw[hnf.out]at hwh;unfold MA.g at hwh;replace hwh:=zh hwh;go_wp2_with fail;refine hwh.out.mono ?_;rintro e w5 ⟨rfl,b5⟩;have hb5:=zh (hb4.out.step b5);have hx5:=zh (bx.out.step b5);clear hwh b5 hb4 bx y0 y1 y2 y3 y4 y5 y6 y7 y8 y9;obtain⟨x0,x1,x2,x3,x4,x5,x6,x7,x8,x9⟩:=qO hb5.out.h;have hwh:=rwhereA hb5.out.m hds.out;rw[hnf.out]at hwh;unfold MA.g at hwh;replace hwh:=zh hwh;go_wp2_with fail;refine hwh.out.mono ?_;rintro e w6 ⟨rfl,b6⟩;have hb6:=zh (hb5.out.step b6);have hx6:=zh (hx5.out.step b6);clear hwh b6 hb5 hx5 x0 x1 x2 x3 x4 x5 x6 x7 x8 x9;obtain⟨x0,x1,x2,x3,x4,x5,x6,x7,x8,x9⟩:=qO hb6.out.h;have hcp:=zh (copyA hsm.out hb6.out.m);unfold MA.g at hcp;have en:(n==n)=true:=beq_self_eq_true n;have ef:(f==f)=true:=beq_self_eq_true f;go_wp2_with fail;refine hcp.out.mono ?_;rintro e w7 ⟨D,rfl,hD,_,_,b7⟩;have hb7:=zh (hb6.out.step b7);have hx7:=zh (hx6.out.step b7);have hva:=validA hD (hT.out.below hb7.out.b);rw[hnf.out]at hva;unfold MA.g at hva;replace hva:=zh hva;clear hcp b7 hD hb6 hx6 x0 x1 x2 x3 x4 x5 x6 x7 x8 x9;go_wp2_with fail;refine hva.out.mono ?_;rintro e w8 ⟨rfl,b8⟩;have hb8:=zh (hb7.out.step b8);have hx8:=zh (hx7.out.step b8);clear hva b8 hb7 hx7;obtain⟨x0,x1,x2,x3,x4,x5,x6,x7,x8,x9⟩:=qO hb8.out.h
 obtain⟨y0,y1,y2,y3,y4,y5,y6,y7,y8,y9⟩:=qO hx8.out.h;have hsa:=zh (same_true m C.a0 C.k0 C.a1 C.k1 C.a2 C.k2 C.a3 C.k3 C.a4 C.k4 C.a5 C.k5 C.a6 C.k6 C.a7 C.k7 C.a8 C.k8 C.a9 C.k9 A.a0 A.k0 A.a1 A.k1 A.a2 A.k2 A.a3 A.k3 A.a4 A.k4 A.a5 A.k5 A.a6 A.k6 A.a7 A.k7 A.a8 A.k8 A.a9 A.k9 w8 (MdAt.s hx8.out.m) (MdAt.s hb8.out.m));unfold mdV at hsa;go_wp2_with fail;refine hsa.out.mono ?_;rintro e w9 ⟨rfl,b9⟩;have hb9:=zh (hb8.out.b.trans (b9.mono hb8.out.b.size));have hwk:=zh (jC (hT.out.below hb9.out));clear hsa b9 hb8 hx8 x0 x1 x2 x3 x4 x5 x6 x7 x8 x9 y0 y1 y2 y3 y4 y5 y6 y7 y8 y9;go_wp2_with fail;refine hwk.out.mono ?_;rintro e u1 ⟨rfl,b1⟩;have hu1:=zh (hb9.out.trans (b1.mono hb9.out.size));clear b1;go_wp2_with fail;go_ret;exact⟨rfl,hu1.out⟩
theorem says_walk{H:Type}{enc:TypeId×Value->H}(W:World)(base:Nat)(hT:TabU W)(v0:Value)(d0:DataW H)(p0:List MemPlace)(o0:Value.okWide Tryz.prog W .any base 32 v0)(h0:DataW.Trod enc Tryz.prog W 0 (λ_=>true) true 32 v0 d0 p0):Calls Tryz.prog 3 #[v0] W λe W'=>e=.returned (.bool true)/\Below W.heap.size W W':=by
 obtain⟨m,a0,k0,a1,k1,a2,k2,a3,k3,a4,k4,a5,k5,a6,k6,a7,k7,a8,k8,a9,k9,rfl,hM⟩:=open_module o0 h0;exact says_any (A:=⟨a0,k0,a1,k1,a2,k2,a3,k3,a4,k4,a5,k5,a6,k6,a7,k7,a8,k8,a9,k9⟩) hM hT
end Go.Proofs.YtacohbllbjgdgaaGreatDoor
