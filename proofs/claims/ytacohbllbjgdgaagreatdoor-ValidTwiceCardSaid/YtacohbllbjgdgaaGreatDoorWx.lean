/- Validate, the program's and the reference's. -/
import Derived.Test.YtacohbllbjgdgaaGreatDoorRh
import Derived.Test.YtacohbllbjgdgaaGreatDoorXy
import Derived.Test.YtacohbllbjgdgaaGreatDoorCn
set_option linter.all false
set_option maxRecDepth 100000
set_option maxHeartbeats 4000000
namespace Go.Proofs.YtacohbllbjgdgaaGreatDoor
open Go.RowKit
section
variable {w:World} {A:MA} {m:Md}
theorem rvalidate_any(hA:MdA w m A)(hds:∀t∈m.datas,t.2.size<=300000):Calls Tryz.prog 16 #[.agg #[(A.v m).v0,(A.v m).v1,(A.v m).v2,(A.v m).v3,(A.v m).v4,(A.v m).v5,(A.v m).v6,(A.v m).v7,(A.v m).v8,(A.v m).v9]] w λe w'=>e=.returned (.int .i64 (qM m).2)/\Below w.heap.size w w':=by
 have hbm:=bm_new hA;have hwh:=rwhere_any hbm.m hds;rw[whereR_eq]at hwh;obtain⟨w1,hw1⟩:∃w1,w1=w.alloc (yU A m):=⟨_,rfl⟩
 obtain⟨B,hB⟩:∃B,B=w.heap.size:=⟨_,rfl⟩
 rw[<-hw1,<-hB]at hbm;rw[<-hw1]at hwh;unfold yU at hw1;unfold MA.v at hwh
 dsimp only at hwh
 obtain⟨x0,x1,x2,x3,x4,x5,x6,x7,x8,x9⟩:=xH hbm.h;go_enter Tryz.func16,Tryz.ntmps16
 go_upto_region 1 with(fail)
 rw[<-hw1];rw[<-hB];clear hw1;replace hB:=zh hB;replace hbm:=zh hbm;replace hwh:=zh hwh;go_wp2_with fail;refine hwh.out.mono ?_;rintro e w2 ⟨rfl,b2⟩;have hbm2:=zh (hbm.out.step b2);clear hwh x0 x1 x2 x3 x4 x5 x6 x7 x8 x9 hbm;go_wp2;go_ret;exact⟨rfl,hbm2.out.b⟩
theorem validate_any(hA:MdA w m A)(hT:TabU w):Calls Tryz.prog 14 #[.agg #[(A.v m).v0,(A.v m).v1,(A.v m).v2,(A.v m).v3,(A.v m).v4,(A.v m).v5,(A.v m).v6,(A.v m).v7,(A.v m).v8,(A.v m).v9]] w λe w'=>e=.returned (.int .i64 (qM m).2)/\Below w.heap.size w w':=by
 have hbm:=bm_new hA;have hwh:=where_any hbm.m (hT.below (Below.of_alloc w _));obtain⟨w1,hw1⟩:∃w1,w1=w.alloc (yU A m):=⟨_,rfl⟩
 obtain⟨B,hB⟩:∃B,B=w.heap.size:=⟨_,rfl⟩
 rw[<-hw1,<-hB]at hbm;rw[<-hw1]at hwh;unfold yU at hw1;unfold MA.v at hwh
 dsimp only at hwh
 obtain⟨x0,x1,x2,x3,x4,x5,x6,x7,x8,x9⟩:=xH hbm.h;go_enter Tryz.func14,Tryz.ntmps14
 go_upto_region 1 with(fail)
 rw[<-hw1];rw[<-hB];clear hw1;replace hB:=zh hB;replace hbm:=zh hbm;replace hwh:=zh hwh;go_wp2_with fail;refine hwh.out.mono ?_;rintro e w2 ⟨rfl,b2⟩;have hbm2:=zh (hbm.out.step b2);clear hwh x0 x1 x2 x3 x4 x5 x6 x7 x8 x9 hbm;go_wp2;go_ret;exact⟨rfl,hbm2.out.b⟩
end
end Go.Proofs.YtacohbllbjgdgaaGreatDoor
namespace Go.Proofs.YtacohbllbjgdgaaGreatDoor
open Go.RowKit
def vT (l:Il):Md:=mdTF [([],[127])] [(0,[],l)]
def cE (op x n:Int):ERec:=⟨op,x,0,n,[],.nil,.nil,none,0,none,0,none,0⟩
theorem cE_ok(R:Nat->Prop)(w:World)(op x n:Int):EOk R w (cE op x n):=⟨⟨Nat.zero_le _,.inl rfl⟩,Nat.zero_le _,.inl rfl,Nat.zero_le _,.inl rfl⟩
theorem lit_il{w:World}{h:Nat}{ts:List (Int×Int×Int)}(hc:∀j u,((ts.map λt=>cE t.1 t.2.1 t.2.2).flatMap eV)[j]? =some u->w.cell? ⟨h,j,none⟩=some u):IlIn w (some ⟨h,0,none⟩) 0 (vU (ts.map λt=>cE t.1 t.2.1 t.2.2) .nil):=
 .inr ⟨h,0,rfl,IlR.at (R:=λ_=>True) _ _ _ (row_il _ 0 (λj u hj=>by rw[Nat.zero_add];exact hc j u hj) λt ht=>by
  obtain⟨q,_,rfl⟩:=List.mem_map.1 ht;exact cE_ok _ _ _ _ _)⟩
theorem new_at{w:World}{h:Nat}(hh:w.heap.size=h)(o:Obj):(w.alloc o).heap[h]? =some o:=by rw[<-hh];exact heap_alloc_new w o
theorem old_at{w:World}{h k:Nat}(hh:w.heap.size=h)(hk:k<h){o u:Obj}(hu:w.heap[k]? =some u):(w.alloc o).heap[k]? =some u:=(Below.heap_alloc _ _ _ (by omega)).trans hu
theorem four(w:World){h:Nat}(hh:w.heap.size=h)(o0 o1 o2 o3:Obj):((((w.alloc o0).alloc o1).alloc o2).alloc o3).heap[h]? =some o0/\((((w.alloc o0).alloc o1).alloc o2).alloc o3).heap[h+1]? =some o1/\((((w.alloc o0).alloc o1).alloc o2).alloc o3).heap[h+1+1]? =some o2/\((((w.alloc o0).alloc o1).alloc o2).alloc o3).heap[h+1+1+1]? =some o3:=by
 have s1:=size_of hh o0;have s2:=size_of s1 o1;have s3:=size_of s2 o2;exact⟨old_at s3 (by omega) (old_at s2 (by omega) (old_at s1 (by omega) (new_at hh o0))),old_at s3 (by omega) (old_at s2 (by omega) (new_at s1 o1)),old_at s3 (by omega) (new_at s2 o2),new_at s3 o3⟩
theorem onem_any{w:World}{a:Option Addr}{l:Il}{c:Nat}(hl:l.len<=9223372036854775807)(hi:IlIn w a 0 l):Calls Tryz.prog 22 #[.slice a l.len c] w λe w'=>∃A:MA,e=.returned (.agg #[(A.v (vT l)).v0,(A.v (vT l)).v1,(A.v (vT l)).v2,(A.v (vT l)).v3,(A.v (vT l)).v4,(A.v (vT l)).v5,(A.v (vT l)).v6,(A.v (vT l)).v7,(A.v (vT l)).v8,(A.v (vT l)).v9])/\MdA w' (vT l) A/\Below w.heap.size w w':=by
 obtain⟨W,hW⟩:∃W,W=(((w.alloc (.cells #[.slice (some ⟨w.heap.size+1+1,0,none⟩) 1 1,.slice none 0 0,.slice (some ⟨w.heap.size+1+1+1,0,none⟩) 1 1,.slice none 0 0,.slice none 0 0,.slice none 0 0,.slice none 0 0,.slice none 0 0,.slice none 0 0,.slice none 0 0] 32)).alloc
  (.cells #[.int .i64 127] 3)).alloc (.cells #[.slice none 0 0,.slice (some ⟨w.heap.size+1,0,none⟩) 1 1] 44)).alloc (.cells #[.int .i64 0,.slice none 0 0,.slice a l.len c] 53):=⟨_,rfl⟩
 have hb:Below w.heap.size w W:=(by rw[hW];exact((((Below.refl _ _).alloc (Nat.le_refl _) _).alloc (by simp) _).alloc (by simp;omega) _).alloc (by simp;omega) _)
 obtain⟨h,hh⟩:∃h,w.heap.size=h:=⟨_,rfl⟩
 rw[hh]at hW;obtain⟨k0,k1,k2,k3⟩:=four w hh (.cells #[.slice (some ⟨h+1+1,0,none⟩) 1 1,.slice none 0 0,.slice (some ⟨h+1+1+1,0,none⟩) 1 1,.slice none 0 0,.slice none 0 0,.slice none 0 0,.slice none 0 0,.slice none 0 0,.slice none 0 0,.slice none 0 0] 32) (.cells #[.int .i64 127] 3) (.cells #[.slice none 0 0,.slice (some ⟨h+1,0,none⟩) 1 1] 44) (.cells #[.int .i64 0,.slice none 0 0,.slice a l.len c] 53);rw[<-hW]at k0 k1 k2 k3
 have hm:MdA W (vT l) ⟨some ⟨h+1+1,0,none⟩,1,none,0,some ⟨h+1+1+1,0,none⟩,1,none,0,none,0,none,0,none,0,none,0,none,0,none,0⟩:=by
  refine md_TF (rows_one ⟨⟨none,0,?_,ints_nil _⟩,⟨some ⟨h+1,0,none⟩,1,?_,ints_one ?_⟩⟩) (rows_one ⟨?_,⟨none,0,?_,ints_nil _⟩,⟨a,c,?_,hl,?_⟩⟩)
  . rw[cell_of_row W _ _ _ _ _ k2];rfl
  . rw[cell_of_row W _ _ _ _ _ k2];rfl
  . rw[cell_of_row W _ _ _ _ _ k1];rfl
  . show W.cell? _=_
    rw[cell_of_row W _ _ _ _ _ k3];rfl
  . rw[cell_of_row W _ _ _ _ _ k3];rfl
  . rw[cell_of_row W _ _ _ _ _ k3];rfl
  . exact hi.keep (zA hb)
 go_enter Tryz.func22,Tryz.ntmps22;go_wp2_with fail;rw[hh,<-hW];(try simp only[Exit.inBlock,Exit.then]);refine bodyPost_ret (results_cell_row (P:=Tryz.prog) rfl _ _ h 32 _ (0,0) _ rfl k0 Tryz.underlying32 rfl info36s) rfl ?_;exact⟨_,rfl,hm,by rw[<-hh];exact hb⟩
def wkL (ts:List (Int×Int×Int)):Il:=vU (ts.map λt=>cE t.1 t.2.1 t.2.2) .nil
theorem wk1_where:qM (vT (wkL [(66,0,0)]))=(0,60):=by decide+kernel
theorem wk2_where:qM (vT (wkL [(65,0,1)]))=(-1,0):=by decide+kernel
theorem wk3_where:qM (vT (wkL [(0,0,0),(26,0,0),(65,0,1)]))=(-1,0):=by decide+kernel
theorem wk4_where:qM (vT (wkL [(12,1,0)]))=(0,61):=by decide+kernel
theorem lit_new(w:World)(ts:List (Int×Int×Int))(cs:Array Value)(ty:TypeId)(h:cs.toList=(ts.map λt=>cE t.1 t.2.1 t.2.2).flatMap eV):IlIn (w.alloc (.cells cs ty)) (some ⟨w.heap.size,0,none⟩) 0 (wkL ts):=
 lit_il λj u e=>(World.cell?_alloc_at _ _ _ j rfl).trans (by rw[<-Array.getElem?_toList,h];exact e)
theorem onem'{w:World}{a:Option Addr}{l:Il}{n c:Nat}{m:Md}(hm:vT l=m)(hn:l.len=n)(hl:n<=9223372036854775807)(hi:IlIn w a 0 l):Calls Tryz.prog 22 #[.slice a n c] w λe w'=>∃A:MA,e=.returned (.agg #[(A.v m).v0,(A.v m).v1,(A.v m).v2,(A.v m).v3,(A.v m).v4,(A.v m).v5,(A.v m).v6,(A.v m).v7,(A.v m).v8,(A.v m).v9])/\MdA w' m A/\Below w.heap.size w w':=by
 subst hm hn;exact onem_any hl hi
theorem vwakes_any{w:World}(hT:TabU w):Calls Tryz.prog 10 #[] w λe w'=>e=.returned (.bool true)/\Below w.heap.size w w':=by
 obtain⟨W1,hW1⟩:∃W1,W1=w.alloc (.cells #[.int .i64 65,.int .i64 0,.int .i64 0,.int .i64 1,.slice none 0 0,.slice none 0 0,.slice none 0 0] 49):=⟨_,rfl⟩
 obtain⟨p,hp⟩:∃p,p=w.heap.size:=⟨_,rfl⟩
 have hb1:Below w.heap.size w W1:=(by rw[hW1];exact Below.of_alloc _ _)
 have hz:∀j v,(#[.int .i64 65,.int .i64 0,.int .i64 0,.int .i64 1,.slice none 0 0,.slice none 0 0,.slice none 0 0]:Array Value)[j]? =some v->W1.cell? ⟨p,j,none⟩=some v:=λj v e=>by rw[hW1,hp];exact(World.cell?_alloc_at _ _ _ j rfl).trans e
 obtain⟨m1,hm1⟩:∃m,vT (wkL [(66,0,0)])=m:=⟨_,rfl⟩
 have v1:Hid (qM m1=(0,60)):=zh (by rw[<-hm1];exact wk1_where);obtain⟨m2,hm2⟩:∃m,vT (wkL [(65,0,1)])=m:=⟨_,rfl⟩
 have v2:Hid (qM m2=(-1,0)):=zh (by rw[<-hm2];exact wk2_where);obtain⟨m3,hm3⟩:∃m,vT (wkL [(0,0,0),(26,0,0),(65,0,1)])=m:=⟨_,rfl⟩
 have v3:Hid (qM m3=(-1,0)):=zh (by rw[<-hm3];exact wk3_where);obtain⟨m4,hm4⟩:∃m,vT (wkL [(12,1,0)])=m:=⟨_,rfl⟩
 have v4:Hid (qM m4=(0,61)):=zh (by rw[<-hm4];exact wk4_where);replace hm1:=zh hm1;replace hm2:=zh hm2;replace hm3:=zh hm3;replace hm4:=zh hm4;replace hT:=zh hT;replace hz:=zh hz;replace hb1:=zh hb1;go_enter Tryz.func10,Tryz.ntmps10
 go_upto_region 2 with(fail)
 rw[<-hW1,<-hp];clear hW1;replace hp:=zh hp;go_wp2_with fail;have hx:=hb1.out.trans ((Below.of_alloc W1 (.cells #[.int .i64 66,.int .i64 0,.int .i64 0,.int .i64 0,.slice none 0 0,.slice none 0 0,.slice none 0 0] 49)).mono hb1.out.size);refine(onem' hm1.out rfl (by decide) (lit_new W1 [(66,0,0)] _ 49 rfl)).mono ?_;rintro e w2 ⟨A1,rfl,hM,b2⟩;have hb2:=zh (hx.trans (b2.mono hx.size));have hq2:=(Below.of_alloc W1 (.cells #[.int .i64 66,.int .i64 0,.int .i64 0,.int .i64 0,.slice none 0 0,.slice none 0 0,.slice none 0 0] 49)).trans (b2.mono (by simp));have hc:=where_any hM (hT.out.below hb2.out);rw[v1.out]at hc;unfold MA.v at hc ⊢
 dsimp only at hc
 replace hc:=zh hc;replace hq2:=zh hq2;clear hx b2 hM;go_wp2_with fail;refine hc.out.mono ?_;rintro e w3 ⟨rfl,b3⟩;have hb3:=zh (hb2.out.trans (b3.mono hb2.out.size));have hk3:=hq2.out.trans (b3.mono hq2.out.size);have z0:w3.cell? ⟨p,0,none⟩=some (.int .i64 65):=zA hk3 _ _ (hz.out 0 _ rfl);have z1:w3.cell? ⟨p,1,none⟩=some (.int .i64 0):=zA hk3 _ _ (hz.out 1 _ rfl);have z2:w3.cell? ⟨p,2,none⟩=some (.int .i64 0):=zA hk3 _ _ (hz.out 2 _ rfl);have z3:w3.cell? ⟨p,3,none⟩=some (.int .i64 1):=zA hk3 _ _ (hz.out 3 _ rfl);have z4:w3.cell? ⟨p,4,none⟩=some (.slice none 0 0):=zA hk3 _ _ (hz.out 4 _ rfl);have z5:w3.cell? ⟨p,5,none⟩=some (.slice none 0 0):=zA hk3 _ _ (hz.out 5 _ rfl);have z6:w3.cell? ⟨p,6,none⟩=some (.slice none 0 0):=zA hk3 _ _ (hz.out 6 _ rfl);clear b3 hc hb2 hk3 hq2;go_wp2_with fail;have hx:=hb3.out.trans ((Below.of_alloc w3 (.cells #[.int .i64 65,.int .i64 0,.int .i64 0,.int .i64 1,.slice none 0 0,.slice none 0 0,.slice none 0 0] 49)).mono hb3.out.size);refine(onem' hm2.out rfl (by decide) (lit_new w3 [(65,0,1)] _ 49 rfl)).mono ?_;rintro e u2 ⟨A2,rfl,hM,bb⟩;have hbu:=zh (hx.trans (bb.mono hx.size));have hq:=zh ((Below.of_alloc w3 (.cells #[.int .i64 65,.int .i64 0,.int .i64 0,.int .i64 1,.slice none 0 0,.slice none 0 0,.slice none 0 0] 49)).trans (bb.mono (by simp)));have hc:=validate_any hM (hT.out.below hbu.out)
 rw[v2.out]at hc;unfold MA.v at hc ⊢
 dsimp only at hc
 replace hc:=zh hc;clear hx bb hM hb3;go_wp2_with fail;refine hc.out.mono ?_;rintro e w4 ⟨rfl,b4⟩;have hb4:=zh (hbu.out.trans (b4.mono hbu.out.size));have hk4:=hq.out.trans (b4.mono hq.out.size);replace z0:=zA hk4 _ _ z0;replace z1:=zA hk4 _ _ z1;replace z2:=zA hk4 _ _ z2;replace z3:=zA hk4 _ _ z3;replace z4:=zA hk4 _ _ z4;replace z5:=zA hk4 _ _ z5;replace z6:=zA hk4 _ _ z6;clear b4 hc hbu hk4 hq;go_wp2_with fail;have hx:=hb4.out.trans ((Below.of_alloc w4 (.cells #[.int .i64 0,.int .i64 0,.int .i64 0,.int .i64 0,.slice none 0 0,.slice none 0 0,.slice none 0 0,.int .i64 26,.int .i64 0,.int .i64 0,.int .i64 0,.slice none 0 0,.slice none 0 0,.slice none 0 0,.int .i64 65,.int .i64 0,.int .i64 0,.int .i64 1,.slice none 0 0,.slice none 0 0,.slice none 0 0] 49)).mono hb4.out.size);refine(onem' hm3.out rfl (by decide) (lit_new w4 [(0,0,0),(26,0,0),(65,0,1)] _ 49 rfl)).mono ?_;rintro e u3 ⟨A3,rfl,hM,bb⟩;have hbu:=zh (hx.trans (bb.mono hx.size));have hc:=validate_any hM (hT.out.below hbu.out);rw[v3.out]at hc;unfold MA.v at hc ⊢
 dsimp only at hc
 replace hc:=zh hc;clear hx bb hM hb4;go_wp2_with fail;refine hc.out.mono ?_;rintro e w5 ⟨rfl,b4⟩;have hb5:=zh (hbu.out.trans (b4.mono hbu.out.size));clear b4 hc hbu;go_wp2_with fail;have hx:=hb5.out.trans ((Below.of_alloc w5 (.cells #[.int .i64 12,.int .i64 1,.int .i64 0,.int .i64 0,.slice none 0 0,.slice none 0 0,.slice none 0 0] 49)).mono hb5.out.size);refine(onem' hm4.out rfl (by decide) (lit_new w5 [(12,1,0)] _ 49 rfl)).mono ?_;rintro e u4 ⟨A4,rfl,hM,bb⟩;have hbu:=zh (hx.trans (bb.mono hx.size));have hc:=validate_any hM (hT.out.below hbu.out);rw[v4.out]at hc;unfold MA.v at hc ⊢
 dsimp only at hc
 replace hc:=zh hc;clear hx bb hM hb5;go_wp2_with fail;refine hc.out.mono ?_;rintro e w6 ⟨rfl,b4⟩;have hb6:=zh (hbu.out.trans (b4.mono hbu.out.size));clear b4 hc hbu;go_wp2_with fail;go_ret;exact⟨rfl,hb6.out⟩
theorem largeA{w:World}{m:Md}{A:MA}(h:MdA w m A):Calls Tryz.prog 9 #[.agg #[.slice A.a0 m.types.length A.k0,.slice A.a1 m.imports.length A.k1,.slice A.a2 m.funcs.length A.k2,.slice A.a3 m.tables.length A.k3,.slice A.a4 m.mems.length A.k4,.slice A.a5 m.globals.length A.k5,.slice A.a6 m.exports.length A.k6,.slice A.a7 m.start.length A.k7,.slice A.a8 m.elems.length A.k8,.slice A.a9 m.datas.length A.k9]] w λe w'=>∃L,e=.returned (.bool L)/\(L=false->Small m)/\Below w.heap.size w w':=
 large_any m A.a0 A.k0 A.a1 A.k1 A.a2 A.k2 A.a3 A.k3 A.a4 A.k4 A.a5 A.k5 A.a6 A.k6 A.a7 A.k7 A.a8 A.k8 A.a9 A.k9 w h
def MA.g (A:MA) (m:Md):Value:=.agg #[.slice A.a0 m.types.length A.k0,.slice A.a1 m.imports.length A.k1,.slice A.a2 m.funcs.length A.k2,.slice A.a3 m.tables.length A.k3,.slice A.a4 m.mems.length A.k4,.slice A.a5 m.globals.length A.k5,.slice A.a6 m.exports.length A.k6,.slice A.a7 m.start.length A.k7,.slice A.a8 m.elems.length A.k8,.slice A.a9 m.datas.length A.k9]
def CpF (m:Md) (A:MA) (B:Nat) (w:World):Prop:=∃ts,CopyF m B A.a0 A.k0 A.a1 A.k1 A.a2 A.k2 A.a3 A.k3 A.a4 A.k4 A.a5 A.k5 A.a6 A.k6 A.a7 A.k7 A.a8 A.k8 A.a9 A.k9 w ts
def CpE (m:Md) (A:MA) (B:Nat) (w:World):Prop:=CopyE m B A.a0 A.k0 A.a1 A.k1 A.a2 A.k2 A.a3 A.k3 A.a4 A.k4 A.a5 A.k5 A.a6 A.k6 A.a7 A.k7 A.a8 A.k8 A.a9 A.k9 w
theorem copyA{w:World}{m:Md}{A:MA}(hsm:Small m)(h:MdA w m A):Calls Tryz.prog 11 #[A.g m] w λe w'=>∃C:MA,e=.returned (C.g m)/\MdA w' m C/\CpF m C w.heap.size w'/\CpE m C w.heap.size w'/\Below w.heap.size w w':=by refine(copy_own m hsm w h).mono ?_;rintro e w' ⟨b0,q0,b1,q1,b2,q2,b3,q3,b4,q4,b5,q5,b6,q6,b7,q7,b8,q8,b9,q9,rfl,⟨h1,h2,h3⟩,h4⟩;exact⟨⟨b0,q0,b1,q1,b2,q2,b3,q3,b4,q4,b5,q5,b6,q6,b7,q7,b8,q8,b9,q9⟩,rfl,h1,h2,h3,h4⟩
theorem validA{w:World}{m:Md}{A:MA}(h:MdA w m A)(hT:TabU w):Calls Tryz.prog 14 #[A.g m] w λe w'=>e=.returned (.int .i64 (qM m).2)/\Below w.heap.size w w':=validate_any h hT
theorem rvalidA{w:World}{m:Md}{A:MA}(h:MdA w m A)(hds:∀t∈m.datas,t.2.size<=300000):Calls Tryz.prog 16 #[A.g m] w λe w'=>e=.returned (.int .i64 (qM m).2)/\Below w.heap.size w w':=rvalidate_any h hds
end Go.Proofs.YtacohbllbjgdgaaGreatDoor
