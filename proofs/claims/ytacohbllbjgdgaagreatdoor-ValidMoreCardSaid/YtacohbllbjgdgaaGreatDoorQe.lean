/- ValidMore. -/
import Derived.Test.YtacohbllbjgdgaaGreatDoorQd
import Derived.Test.YtacohbllbjgdgaaGreatDoorPa
import Derived.Test.YtacohbllbjgdgaaGreatDoorMk
import Derived.Test.YtacohbllbjgdgaaGreatDoorSa
set_option linter.all false
set_option maxRecDepth 100000
set_option maxHeartbeats 8000000
namespace Go.Proofs.YtacohbllbjgdgaaGreatDoor
open Go.RowKit
theorem more_any{w:World}{m:Md}{A:MA}{t:Int}(hA:MdA w m A)(hT:TabU w):Calls Tryz.prog 5 #[A.g m,.int .i64 t] w λe w'=>e=.returned (.bool true)/\Below w.heap.size w w':=by
 have hbm:=bm_new hA;obtain⟨w1,hw1⟩:∃w1,w1=w.alloc (xR A m):=⟨_,rfl⟩
 obtain⟨B,hB⟩:∃B,B=w.heap.size:=⟨_,rfl⟩
 rw[<-hw1,<-hB]at hbm;have hlg:=largeA hbm.m;obtain⟨x0,x1,x2,x3,x4,x5,x6,x7,x8,x9⟩:=qO hbm.h;unfold xR MA.v at hw1;unfold MA.g;replace hlg:=zh hlg;replace hbm:=zh hbm;replace hT:=zh hT;go_enter Tryz.func5,Tryz.ntmps5
 go_upto_region 1 with(fail)
 rw[<-hw1,<-hB];clear hw1;replace hB:=zh hB;go_wp2_with fail;refine hlg.out.mono ?_;rintro e w2 ⟨L,rfl,hsm,b2⟩;have hb2:=zh (hbm.out.step b2);clear b2 hlg hbm x0 x1 x2 x3 x4 x5 x6 x7 x8 x9;obtain⟨x0,x1,x2,x3,x4,x5,x6,x7,x8,x9⟩:=qO hb2.out.h
 by_cases hL:L=true\/m.types.length=0\/1000<m.funcs.length
 . have hc:L=true\/(L=false/\((m.types.length:Int)==0)=true)\/(L=false/\((m.types.length:Int)==0)=false/\decide ((1000:Int)<(m.funcs.length:Int))=true):=by
    cases L with
    |true=>exact .inl rfl
    |false=>
      by_cases h0:m.types.length=0
      . exact .inr (.inl ⟨rfl,beq_iff_eq.2 (by omega)⟩)
      . exact .inr (.inr ⟨rfl,beq_eq_false_iff_ne.2 (by omega),decide_eq_true (by rcases hL with h |h |h;cases h;exact absurd h h0;omega)⟩)
   clear hL hsm;have hwk:=zh (jC (hT.out.below hb2.out.b));have hb3:=zh hb2.out.b;clear hb2
   rcases hc with rfl |⟨rfl,h1⟩ |⟨rfl,h1,h2⟩
   all_goals
    go_wp2_with fail;refine hwk.out.mono ?_;rintro e w3 ⟨rfl,b3⟩;have hb4:=zh (hb3.out.trans (b3.mono hb3.out.size));clear b3;go_wp2_with fail;go_ret;exact⟨rfl,hb4.out⟩
 obtain rfl:L=false:=by cases L with
  |true=>exact absurd (.inl rfl) hL
  |false=>rfl
 obtain⟨_,hL⟩:=not_or.1 hL;obtain⟨hn0,hn1⟩:=not_or.1 hL;replace hn0:1<=m.types.length:=by omega
 replace hn1:m.funcs.length<=1000:=by omega
 have h1:((m.types.length:Int)==0)=false:=beq_eq_false_iff_ne.2 (by omega);have h2:decide ((1000:Int)<(m.funcs.length:Int))=false:=decide_eq_false (by omega);replace hsm:=zh (hsm rfl);clear hL;have hds:Hid (∀t∈m.datas,t.2.size<=300000):=zh λt ht=>(hsm.out.datas t ht).1;have hcp:=zh (copyA hsm.out hb2.out.m);unfold MA.g at hcp;go_wp2_with fail;refine hcp.out.mono ?_;rintro e w3 ⟨C,rfl,hC,_,_,b3⟩;have hb3:=zh (hb2.out.step b3);clear hcp b3 x0 x1 x2 x3 x4 x5 x6 x7 x8 x9 hb2 h1 h2;have hva:=zh (validA hC (hT.out.below hb3.out.b));unfold MA.g at hva;clear hC;go_wp2_with fail;refine hva.out.mono ?_;rintro e w4 ⟨rfl,b4⟩;have hb4:=zh (hb3.out.step b4);clear hva b4 hb3;obtain⟨x0,x1,x2,x3,x4,x5,x6,x7,x8,x9⟩:=qO hb4.out.h;obtain⟨E,hE⟩:∃E,E=(zW m).2:=⟨_,rfl⟩
 rw[<-hE];have hrv:=zh (rvalidA hb4.out.m hds.out);rw[<-hE]at hrv;unfold MA.g at hrv
 by_cases hE0:E=0
 case neg=>
  have h1:(E==0)=false:=beq_eq_false_iff_ne.2 hE0;have h2:(E !=0)=true:=(by rw[bne,h1];rfl)
  have h3:(E==E)=true:=beq_self_eq_true E;clear hE hE0 hsm hn0 hn1;go_wp2_with fail;refine hrv.out.mono ?_;rintro e w5 ⟨rfl,b5⟩;have hb5:=zh (hb4.out.b.trans (b5.mono hb4.out.b.size));clear b5 hrv;have hwk:=zh (jC (hT.out.below hb5.out));clear x0 x1 x2 x3 x4 x5 x6 x7 x8 x9 hb4;go_wp2_with fail;refine hwk.out.mono ?_;rintro e w6 ⟨rfl,b6⟩;have hb6:=zh (hb5.out.trans (b6.mono hb5.out.size));clear b6;go_wp2_with fail;go_ret;exact⟨rfl,hb6.out⟩
 have hv:Hid (Vd m):=zh (vd_of (hE.symm.trans hE0));subst hE0;clear hE hrv;have hcp:=zh (copyA hsm.out hb4.out.m);unfold MA.g at hcp;go_wp2_with fail;refine hcp.out.mono ?_;rintro e w5 ⟨D,rfl,hD,hF,_,b5⟩;have hb5:=zh (hb4.out.step b5);obtain⟨X,hX⟩:∃X,X=w5.heap.size:=⟨_,rfl⟩
 obtain⟨W6,hW6⟩:∃W6,W6=w5.alloc (xR D m):=⟨_,rfl⟩
 have bx:=(bm_new hD).step (Below.refl _ _);rw[<-hW6,<-hX]at bx;have hb6:Below w5.heap.size w5 W6:=(by rw[hW6];exact Below.of_alloc _ _)
 have hfz:∀j,W6.frozen? ⟨X,j,none⟩=false:=λj=>by rw[hW6,hX];exact World.frozen?_alloc_at _ _ _ _ (by simp)
 have hfz2:=hfz 2;obtain⟨y0,y1,y2,y3,y4,y5,y6,y7,y8,y9⟩:=qO bx.h;have hbB:=zh (hb5.out.step hb6);obtain⟨z0,z1,z2,z3,z4,z5,z6,z7,z8,z9⟩:=qO hbB.out.h;have hsz:W6.heap.size=X+1:=(by rw[hW6,hX];simp)
 unfold xR MA.v at hW6
 go_upto_region 7 with(fail)
 rw[<-hW6,<-hX];have hb4':=hb4.out.b;have hb5':=hb5.out.b;have b5':=b5.size;clear hW6 x0 x1 x2 x3 x4 x5 x6 x7 x8 x9 hb5 hb4 b5;obtain⟨ts,hcf⟩:=hF;have hmd:=zh (λw=>mod_any t m.types.length hn0 (by have:=hsm.out.l0;omega) w);have hkk:=modN_lt t hn0;obtain⟨K,hK⟩:∃K,K=modN t m.types.length:=⟨_,rfl⟩
 rw[<-hK]at hkk hmd;replace hK:=zh hK;have how:W6.ownsRow w4.heap.size 53 3 (.slice D.a2 m.funcs.length D.k2) m.funcs.length (ts.flatMap vC.enc):=own_below hcf.own hb6;have hs4':Hid (w.heap.size<=w4.heap.size):=zh hb4'.size;have hs5':Hid (w.heap.size<=w5.heap.size):=zh hb5'.size;have hbase:w4.heap.size<W6.heap.size:=(by have:=b5';have:=hb6.size;rw[hsz];omega)
 replace hX:=zh hX;replace hsz:=zh hsz;replace how:=zh how;replace bx:=zh bx;replace hb6:=zh hb6;replace hcf:=zh hcf;obtain⟨i53,hi53,hz53,hs53,hbb53⟩:=info_parts info49;have hb8:Below W6.heap.size W6 (((W6.alloc (.cells #[.int .i64 0,.int .i64 0,.int .i64 0,.int .i64 0,.slice none 0 0,.slice none 0 0,.slice none 0 0] 49)).alloc (.cells #[.int .i64 (K:Int),.slice none 0 0,.slice (some ⟨W6.heap.size,0,none⟩) 1 1] 53)).drew):=(((Below.refl _ _).alloc (Nat.le_refl _) _).alloc (by simp) _).drew;have hs8:(((W6.alloc (.cells #[.int .i64 0,.int .i64 0,.int .i64 0,.int .i64 0,.slice none 0 0,.slice none 0 0,.slice none 0 0] 49)).alloc (.cells #[.int .i64 (K:Int),.slice none 0 0,.slice (some ⟨W6.heap.size,0,none⟩) 1 1] 53)).drew).heap.size=W6.heap.size+1+1:=(by show(W6.alloc _ |>.alloc _).heap.size=_;simp)
 have hbase8:w4.heap.size<=(((W6.alloc (.cells #[.int .i64 0,.int .i64 0,.int .i64 0,.int .i64 0,.slice none 0 0,.slice none 0 0,.slice none 0 0] 49)).alloc (.cells #[.int .i64 (K:Int),.slice none 0 0,.slice (some ⟨W6.heap.size,0,none⟩) 1 1] 53)).drew).heap.size:=(by rw[hs8];omega)
 have hown8:=zh (own_below how.out hb8);have hnews:(((W6.alloc (.cells #[.int .i64 0,.int .i64 0,.int .i64 0,.int .i64 0,.slice none 0 0,.slice none 0 0,.slice none 0 0] 49)).alloc (.cells #[.int .i64 (K:Int),.slice none 0 0,.slice (some ⟨W6.heap.size,0,none⟩) 1 1] 53)).drew).heap[W6.heap.size+1]? =some (.cells #[.int .i64 (K:Int),.slice none 0 0,.slice (some ⟨W6.heap.size,0,none⟩) 1 1] 53 (0,0)):=new_at (size_of rfl _) _
 have hIl:IlR (λb=>b=W6.heap.size) (((W6.alloc (.cells #[.int .i64 0,.int .i64 0,.int .i64 0,.int .i64 0,.slice none 0 0,.slice none 0 0,.slice none 0 0] 49)).alloc (.cells #[.int .i64 (K:Int),.slice none 0 0,.slice (some ⟨W6.heap.size,0,none⟩) 1 1] 53)).drew) W6.heap.size 0 un1:=by
  have hin:(((W6.alloc (.cells #[.int .i64 0,.int .i64 0,.int .i64 0,.int .i64 0,.slice none 0 0,.slice none 0 0,.slice none 0 0] 49)).alloc (.cells #[.int .i64 (K:Int),.slice none 0 0,.slice (some ⟨W6.heap.size,0,none⟩) 1 1] 53)).drew).heap[W6.heap.size]? =some (.cells #[.int .i64 0,.int .i64 0,.int .i64 0,.int .i64 0,.slice none 0 0,.slice none 0 0,.slice none 0 0] 49 (0,0)):=old_at (size_of rfl _) (by omega) (heap_alloc_new W6 _);have hcl:∀(j:Nat) (u:Value),(#[.int .i64 0,.int .i64 0,.int .i64 0,.int .i64 0,.slice none 0 0,.slice none 0 0,.slice none 0 0]:Array Value)[j]? =some u->(((W6.alloc (.cells #[.int .i64 0,.int .i64 0,.int .i64 0,.int .i64 0,.slice none 0 0,.slice none 0 0,.slice none 0 0] 49)).alloc (.cells #[.int .i64 (K:Int),.slice none 0 0,.slice (some ⟨W6.heap.size,0,none⟩) 1 1] 53)).drew).cell? ⟨W6.heap.size,j,none⟩=some u:=λj u e=>by rw[cell_of_row _ _ _ _ _ _ hin];exact e
  exact⟨⟨hcl 0 _ rfl,hcl 1 _ rfl,hcl 2 _ rfl,hcl 3 _ rfl⟩,⟨none,0,hcl 4 _ rfl,Nat.zero_le _,.inl rfl⟩,⟨none,0,hcl 5 _ rfl,Nat.zero_le _,.inl rfl⟩,⟨none,0,hcl 6 _ rfl,Nat.zero_le _,.inl rfl⟩,trivial⟩
 have fin:∀(g cap:Nat) (w9:World),w9.ownsRow w4.heap.size 53 3 (.slice (some ⟨g,0,none⟩) (m.funcs.length+1) cap) (m.funcs.length+1) (ts.flatMap vC.enc++[.int .i64 (K:Int),.slice none 0 0,.slice (some ⟨W6.heap.size,0,none⟩) 1 1])->
  (((W6.alloc (.cells #[.int .i64 0,.int .i64 0,.int .i64 0,.int .i64 0,.slice none 0 0,.slice none 0 0,.slice none 0 0] 49)).alloc (.cells #[.int .i64 (K:Int),.slice none 0 0,.slice (some ⟨W6.heap.size,0,none⟩) 1 1] 53)).drew).grownBy w9 (Value.slice D.a2 m.funcs.length D.k2).ownBlock->((Value.slice D.a2 m.funcs.length D.k2).ownBlock=some g\/g=W6.heap.size+1+1)->
  Hid (MdA (w9.setCell ⟨X,2,none⟩ (.slice (some ⟨g,0,none⟩) (m.funcs.length+1) cap)) (vJ m K) (D.f (some ⟨g,0,none⟩) cap))/\w9.cell? ⟨X,2,none⟩=some (.slice D.a2 m.funcs.length D.k2)/\w9.frozen? ⟨X,2,none⟩=false/\
  Hid (Below w.heap.size w (w9.setCell ⟨X,2,none⟩ (.slice (some ⟨g,0,none⟩) (m.funcs.length+1) cap)))/\Hid (∀j u,j≠2->W6.cell? ⟨X,j,none⟩=some u->(w9.setCell ⟨X,2,none⟩ (.slice (some ⟨g,0,none⟩) (m.funcs.length+1) cap)).cell? ⟨X,j,none⟩=some u)/\Hid ((w9.setCell ⟨X,2,none⟩ (.slice (some ⟨g,0,none⟩) (m.funcs.length+1) cap)).cell? ⟨X,2,none⟩=some (.slice (some ⟨g,0,none⟩) (m.funcs.length+1) cap)):=by
  intro g cap w9 ho hg hat;replace hat:=hat.imp_right λe=>e.trans (show W6.heap.size+1+1=_ from hs8.symm);have hlt:∀q,(Value.slice D.a2 m.funcs.length D.k2).ownBlock=some q->w4.heap.size<=q/\q<X:=λq e=>by rw[hX.out];exact hcf.out.own.lt q e
  have hXn:some X≠(Value.slice D.a2 m.funcs.length D.k2).ownBlock:=λe=>by have:=hlt X e.symm;omega
  have hX8:X<(((W6.alloc (.cells #[.int .i64 0,.int .i64 0,.int .i64 0,.int .i64 0,.slice none 0 0,.slice none 0 0,.slice none 0 0] 49)).alloc (.cells #[.int .i64 (K:Int),.slice none 0 0,.slice (some ⟨W6.heap.size,0,none⟩) 1 1] 53)).drew).heap.size:=(by have h1:=hb8.size;have h2:=hsz.out;omega)
  have hblk:=(hg.block X hX8 hXn).trans (hb8.block X (by rw[hsz.out];omega));refine⟨zh (CopyF.push hcf.out hsm.out (hb6.out.trans (hb8.mono hb6.out.size)) (by rw[hX.out];exact Nat.le_refl _) hX8 hb6.out.size (by rw[hsz.out];omega) (by show W6.heap.size<(W6.alloc _ |>.alloc _).heap.size;simp;omega) hIl ho hg hat),(World.cell?_of_block (a:=⟨X,2,none⟩) hblk).trans y2,(World.frozen?_of_block (a:=⟨X,2,none⟩) hblk).trans hfz2,zh ?_,zh λj u hj hu=>zE ((World.cell?_of_block (a:=⟨X,j,none⟩) hblk).trans hu) (.inr λe=>hj e.symm),zh (xM ((World.cell?_of_block (a:=⟨X,2,none⟩) hblk).trans y2))⟩;have hs4:w.heap.size<=w4.heap.size:=hs4'.out;exact((hbB.out.b.trans (hb8.mono hbB.out.b.size)).grown hg (by have:=hb8.size;have:=hbB.out.b.size;omega) (λq e=>by have:=(hlt q e).1;omega)).setCell (p:=⟨X,2,none⟩) (by show w.heap.size<=X;rw[hX.out];have:=hs5'.out;omega) _
 have z0a:(W6.alloc (.cells #[.int .i64 0,.int .i64 0,.int .i64 0,.int .i64 0,.slice none 0 0,.slice none 0 0,.slice none 0 0] 49)).cell? ⟨B,0,none⟩=some (.slice A.a0 m.types.length A.k0):=zA (Below.of_alloc W6 _) _ _ z0;have y2a:(W6.alloc (.cells #[.int .i64 0,.int .i64 0,.int .i64 0,.int .i64 0,.slice none 0 0,.slice none 0 0,.slice none 0 0] 49)).cell? ⟨X,2,none⟩=some (.slice D.a2 m.funcs.length D.k2):=zA (Below.of_alloc W6 _) _ _ y2;have y2b:((W6.alloc (.cells #[.int .i64 0,.int .i64 0,.int .i64 0,.int .i64 0,.slice none 0 0,.slice none 0 0,.slice none 0 0] 49)).alloc (.cells #[.int .i64 (K:Int),.slice none 0 0,.slice (some ⟨W6.heap.size,0,none⟩) 1 1] 53)).cell? ⟨X,2,none⟩=some (.slice D.a2 m.funcs.length D.k2):=zA (((Below.refl _ _).alloc (Nat.le_refl _) _).alloc (by simp) _:Below W6.heap.size W6 ((W6.alloc (.cells #[.int .i64 0,.int .i64 0,.int .i64 0,.int .i64 0,.slice none 0 0,.slice none 0 0,.slice none 0 0] 49)).alloc (.cells #[.int .i64 (K:Int),.slice none 0 0,.slice (some ⟨W6.heap.size,0,none⟩) 1 1] 53))) _ _ y2;replace hb8:=zh hb8;replace hs8:=zh hs8;replace hbase8:=zh hbase8;replace hIl:=zh hIl;replace hnews:=zh hnews
 go_cut [] from 36 to 48 (λwx=>∃(g cap:Nat),Hid (MdA wx (vJ m K) (D.f (some ⟨g,0,none⟩) cap))/\Hid (∀j u,j≠2->W6.cell? ⟨X,j,none⟩=some u->wx.cell? ⟨X,j,none⟩=some u)/\Hid (wx.cell? ⟨X,2,none⟩=some (.slice (some ⟨g,0,none⟩) (m.funcs.length+1) cap))/\Hid (Below w.heap.size w wx))
 case first=>
  go_region_law ((first
   |(go_simp;go_at_call 17;refine(hmd.out _).mono ?_;rintro e w' ⟨rfl,rfl⟩)
   |(refine step_append_lies _ rfl _ _ _ rfl w4.heap.size 53 i53 _ 3 56 Tryz.underlying24 hi53 hz53 hs53 hbb53 rfl (by omega) (.slice D.a2 m.funcs.length D.k2) m.funcs.length (ts.flatMap vC.enc) (by rfl) hown8.out ⟨W6.heap.size+1,0,none⟩ 1 1 [.int .i64 (K:Int),.slice none 0 0,.slice (some ⟨W6.heap.size,0,none⟩) 1 1] (by rfl) (by rfl) (World.news_of_block (cs:= #[.int .i64 (K:Int),.slice none 0 0,.slice (some ⟨W6.heap.size,0,none⟩) 1 1]) (t:=53) (fr:=(0,0)) hnews.out) (by intro u hu;simp only[List.mem_cons,List.mem_nil_iff,or_false]at hu;rcases hu with rfl |rfl |rfl<;>rfl) (by omega) (by unfold maxLen;omega) (by omega) hbase8.out (W6.heap.size+1+1) (by simp) ?_;intro g cap w9 own9 hgrow hat hlt9;obtain⟨f1,f2,f3,f4,f5,f6⟩:=fin g cap w9 own9 hgrow hat)))
  all_goals go_wp2_with fail
  all_goals go_meet
  all_goals exact⟨g,cap,f1,f5,f6,f4⟩
 case rest=>
  obtain⟨g,cap,hM,hcl,hc2,hbw⟩:=hcut;have e0:=hcl.out 0 _ (by decide) y0;have e1:=hcl.out 1 _ (by decide) y1;have e2:=hc2.out;have e3:=hcl.out 3 _ (by decide) y3;have e4:=hcl.out 4 _ (by decide) y4;have e5:=hcl.out 5 _ (by decide) y5;have e6:=hcl.out 6 _ (by decide) y6;have e7:=hcl.out 7 _ (by decide) y7;have e8:=hcl.out 8 _ (by decide) y8;have e9:=hcl.out 9 _ (by decide) y9;have hvm:(zW (vJ m K)).2=0:=(by rw[(more_valid hv.out ⟨by omega,by omega⟩ hn1 (small_cnt hsm.out)).where])
  have hva:=validA hM.out (hT.out.below hbw.out);rw[hvm]at hva;unfold MA.g MA.f at hva
  dsimp only at hva
  rw[show(vJ m K).funcs.length=m.funcs.length+1 by simp[vJ]]at hva;replace hva:Calls Tryz.prog 14 #[.agg #[.slice D.a0 m.types.length D.k0,.slice D.a1 m.imports.length D.k1,.slice (some ⟨g,0,none⟩) (m.funcs.length+1) cap,.slice D.a3 m.tables.length D.k3,.slice D.a4 m.mems.length D.k4,.slice D.a5 m.globals.length D.k5,.slice D.a6 m.exports.length D.k6,.slice D.a7 m.start.length D.k7,.slice D.a8 m.elems.length D.k8,.slice D.a9 m.datas.length D.k9]] wc λe w'=>e=.returned (.int .i64 0)/\Below wc.heap.size wc w':=hva;replace hva:=zh hva;clear y0 y1 y2 y3 y4 y5 y6 y7 y8 y9 z0 z1 z2 z3 z4 z5 z6 z7 z8 z9 hfz hfz2 hcl hc2 hM z0a y2a y2b fin hn0 hn1 hkk hvm;go_wp2_with fail;refine hva.out.mono ?_;rintro e u1 ⟨rfl,b1⟩;have hu1:=zh (hbw.out.trans (b1.mono hbw.out.size));have hwk:=zh (jC (hT.out.below hu1.out));clear b1 hva e0 e1 e2 e3 e4 e5 e6 e7 e8 e9;go_wp2_with fail;refine hwk.out.mono ?_;rintro e u2 ⟨rfl,b2⟩;have hu2:=zh (hu1.out.trans (b2.mono hu1.out.size));clear b2;go_wp2_with fail;go_ret;exact⟨rfl,hu2.out⟩
theorem more_walk{H:Type}{enc:TypeId×Value->H}(W:World)(base:Nat)(hT:TabU W)(v0:Value)(d0:DataW H)(p0:List MemPlace)(o0:Value.okWide Tryz.prog W .any base 32 v0)(h0:DataW.Trod enc Tryz.prog W 0 (λ_=>true) true 32 v0 d0 p0)(v1:Value)(d1:DataW H)(p1:List MemPlace)(o1:Value.okWide Tryz.prog W .any base 3 v1)(h1:DataW.Trod enc Tryz.prog W 0 (λ_=>true) true 3 v1 d1 p1):Calls Tryz.prog 5 #[v0,v1] W λe W'=>e=.returned (.bool true)/\Below W.heap.size W W':=by
 obtain⟨m,a0,k0,a1,k1,a2,k2,a3,k3,a4,k4,a5,k5,a6,k6,a7,k7,a8,k8,a9,k9,rfl,hM⟩:=open_module o0 h0;obtain⟨n1,rfl,rfl,rfl,wb1⟩:=Go.ChangeShapes.open_int Tryz.underlying3 o1 h1;exact more_any (A:=⟨a0,k0,a1,k1,a2,k2,a3,k3,a4,k4,a5,k5,a6,k6,a7,k7,a8,k8,a9,k9⟩) hM hT
end Go.Proofs.YtacohbllbjgdgaaGreatDoor
