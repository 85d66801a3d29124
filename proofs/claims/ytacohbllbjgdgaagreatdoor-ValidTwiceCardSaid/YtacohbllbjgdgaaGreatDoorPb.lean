/- A valid module with a function more, plainly. -/
import Derived.Test.YtacohbllbjgdgaaGreatDoorZv
import Derived.Test.YtacohbllbjgdgaaGreatDoorWx
import Derived.Test.YtacohbllbjgdgaaGreatDoorWe
import Derived.Test.YtacohbllbjgdgaaGreatDoorOp
set_option linter.all false
namespace Go.Proofs.YtacohbllbjgdgaaGreatDoor
open Go.RowKit
section
variable {E E':Ev} {B B' C C':Ts->Except Int Ts}
end
end Go.Proofs.YtacohbllbjgdgaaGreatDoor
namespace Go.Proofs.YtacohbllbjgdgaaGreatDoor
open Go.RowKit
end Go.Proofs.YtacohbllbjgdgaaGreatDoor

set_option linter.all false
namespace Go.Proofs.YtacohbllbjgdgaaGreatDoor
open Go.RowKit
def MA.e (A:MA) (a:Option Addr) (k:Nat):MA:={A with a6:=a,k6:=k}
def MA.own6 (D:MA) (m:Md):Option Nat:=(Value.slice D.a6 m.exports.length D.k6).ownBlock
theorem CopyE.push{m:Md}{D:MA}{B:Nat}{w5 W w1:World}(hc:CpE m D B w5)(hM:MdA w5 m D)(hsm:Small m)(hn:0<m.exports.length){X g cap:Nat}{d:ByteArray×Int×Int}{v:Value}(hdn:d.1.size<=9223372036854775807)(hb:Below w5.heap.size w5 W)(hX:w5.heap.size<=X)(hXW:X<W.heap.size)(own:w1.ownsRow B 63 3 (.slice (some ⟨g,0,none⟩) (m.exports.length+1) cap) (m.exports.length+1) (m.exports.flatMap jU++[.string d.1,.int .i64 d.2.1,.int .i64 d.2.2]))(hg:W.grownBy w1 (D.own6 m))(hat:D.own6 m=some g\/g=W.heap.size):MdA (w1.setCell ⟨X,6,none⟩ v) (mExp m d) (D.e (some ⟨g,0,none⟩) cap):=by
 have hown:=hc.own hn;have hlt:∀q,D.own6 m=some q->q<w5.heap.size:=λq e=>(hown.lt q e).2
 have hgX:g≠X:=by
  rcases hat with e |e
  . have:=hlt g e;omega
  . omega
 have ownx:(w1.setCell ⟨X,6,none⟩ v).ownsRow B 63 3 (.slice (some ⟨g,0,none⟩) (m.exports.length+1) cap) (m.exports.length+1) ((m.exports++[d]).flatMap jU):=by have:=ownsRow_setCell_other own (a:=⟨X,6,none⟩) (λe=>hgX (Option.some.inj e)) v;rw[List.flatMap_append];simpa[jU]using this
 have hk:KeepsR (λb=>B<=b/\¬bl D.a6 (m.exports.flatMap jU) b) (λ_=>True) w5 (w1.setCell ⟨X,6,none⟩ v):=
  ⟨λb hr hl=>(Below.heap_setCell w1 ⟨X,6,none⟩ v b (by show b≠X;omega)).trans ((hg.block b (Nat.lt_of_lt_of_le hl hb.size) λe=>hr.2 (own_bl hn (by decide) hown e.symm)).trans (hb.block b hl)),λ_ _ _=>trivial⟩
 have hE:RowsIn ExportAt 3 w5 D.a6 m.exports:=hM.exports;refine hc.rest _ _ _ _ hk (rows_of (C:=cellC jU) (R:=λ_=>True) (dec:=id) (by decide) (λ_=>rfl) (λb o t ht _ hj=>cells_exp b o t ?_ hj) ⟨.inr ⟨g,rfl,trivial,λj u hj=> ?_⟩,λ_ _=>trivial⟩ (List.map_id _) ?_)
 . rcases List.mem_append.1 ht with q |q
   . obtain⟨_,_,h0⟩:=rows_mem hE q;exact h0.1.2
   . obtain rfl:=List.mem_singleton.1 q;exact hdn
 . have:=ownx.cells (g:=g) rfl j u hj;rw[add_cell]at this;exact this
 . have:=hsm.l6;simp;omega
end Go.Proofs.YtacohbllbjgdgaaGreatDoor

set_option linter.all false
set_option maxRecDepth 100000
set_option maxHeartbeats 8000000
namespace Go.Proofs.YtacohbllbjgdgaaGreatDoor
open Go.RowKit
theorem exp_name{m:Md}{d0:ByteArray×Int×Int}(hv:Vd m)(h:d0∈m.exports):jD d0.1=true:=by
 have hc:=hv.c;unfold qI at hc;split at hc
 . cases hc
 split at hc
 . cases hc
 split at hc
 . cases hc
 rename_i hs;replace hs:qX m=true:=by simpa using hs
 unfold qX sh1 sh2 sh3 sh4 sh5 at hs;simp only[Bool.and_eq_true]at hs;have:=List.all_eq_true.1 hs.2.2.2.2.2.1 d0 h;unfold yZ at this;simp only[Bool.and_eq_true]at this;exact this.1
theorem exp_new{m:Md}{d0:ByteArray×Int×Int}(hv:Vd m)(h:d0∈m.exports){K:Nat}(hK:K<4):yZ (d0.1,(K:Int),0)=true:=by
 unfold yZ;rw[exp_name hv h];have h1:decide ((0:Int)<=(K:Int))=true:=decide_eq_true (by omega);have h2:decide ((K:Int)<=3)=true:=decide_eq_true (by omega)
 show(true&&((decide ((0:Int)<=(K:Int))&&decide ((K:Int)<=3))&&zM 0))=true
 rw[h1,h2];rfl
theorem twice_any{w:World}{m:Md}{A:MA}{t:Int}(hA:MdA w m A)(hT:TabU w):Calls Tryz.prog 7 #[A.g m,.int .i64 t] w λe w'=>e=.returned (.bool true)/\Below w.heap.size w w':=by
 have hbm:=bm_new hA;obtain⟨w1,hw1⟩:∃w1,w1=w.alloc (yU A m):=⟨_,rfl⟩
 obtain⟨B,hB⟩:∃B,B=w.heap.size:=⟨_,rfl⟩
 rw[<-hw1,<-hB]at hbm;have hlg:=largeA hbm.m;obtain⟨x0,x1,x2,x3,x4,x5,x6,x7,x8,x9⟩:=xH hbm.h;unfold yU MA.v at hw1;unfold MA.g;replace hlg:=zh hlg;replace hbm:=zh hbm;replace hT:=zh hT;go_enter Tryz.func7,Tryz.ntmps7
 go_upto_region 1 with(fail)
 rw[<-hw1,<-hB];clear hw1;replace hB:=zh hB;go_wp2_with fail;refine hlg.out.mono ?_;rintro e w2 ⟨L,rfl,hsm,b2⟩;have hb2:=zh (hbm.out.step b2);clear b2 hlg hbm x0 x1 x2 x3 x4 x5 x6 x7 x8 x9;obtain⟨x0,x1,x2,x3,x4,x5,x6,x7,x8,x9⟩:=xH hb2.out.h
 by_cases hL:L=true\/m.exports.length=0\/1000<m.exports.length
 . have hc:L=true\/(L=false/\((m.exports.length:Int)==0)=true)\/(L=false/\((m.exports.length:Int)==0)=false/\decide ((1000:Int)<(m.exports.length:Int))=true):=by
    cases L with
    |true=>exact .inl rfl
    |false=>
      by_cases h0:m.exports.length=0
      . exact .inr (.inl ⟨rfl,beq_iff_eq.2 (by omega)⟩)
      . exact .inr (.inr ⟨rfl,beq_eq_false_iff_ne.2 (by omega),decide_eq_true (by rcases hL with h |h |h;cases h;exact absurd h h0;omega)⟩)
   clear hL hsm;have hwk:=zh (vwakes_any (hT.out.below hb2.out.b));have hb3:=zh hb2.out.b;clear hb2
   rcases hc with rfl |⟨rfl,h1⟩ |⟨rfl,h1,h2⟩
   all_goals
    go_wp2_with fail;refine hwk.out.mono ?_;rintro e w3 ⟨rfl,b3⟩;have hb4:=zh (hb3.out.trans (b3.mono hb3.out.size));clear b3;go_wp2_with fail;go_ret;exact⟨rfl,hb4.out⟩
 obtain rfl:L=false:=by cases L with
  |true=>exact absurd (.inl rfl) hL
  |false=>rfl
 obtain⟨_,hL⟩:=not_or.1 hL;obtain⟨hn0,hn1⟩:=not_or.1 hL;replace hn0:1<=m.exports.length:=by omega
 replace hn1:m.exports.length<=1000:=by omega
 have h1:((m.exports.length:Int)==0)=false:=beq_eq_false_iff_ne.2 (by omega);have h2:decide ((1000:Int)<(m.exports.length:Int))=false:=decide_eq_false (by omega);replace hsm:=zh (hsm rfl);clear hL;have hds:Hid (∀t∈m.datas,t.2.size<=300000):=zh λt ht=>(hsm.out.datas t ht).1;have hcp:=zh (copyA hsm.out hb2.out.m);unfold MA.g at hcp;go_wp2_with fail;refine hcp.out.mono ?_;rintro e w3 ⟨C,rfl,hC,_,_,b3⟩;have hb3:=zh (hb2.out.step b3);clear hcp b3 x0 x1 x2 x3 x4 x5 x6 x7 x8 x9 hb2 h1 h2;have hva:=zh (validA hC (hT.out.below hb3.out.b));unfold MA.g at hva;clear hC;go_wp2_with fail;refine hva.out.mono ?_;rintro e w4 ⟨rfl,b4⟩;have hb4:=zh (hb3.out.step b4);clear hva b4 hb3;obtain⟨x0,x1,x2,x3,x4,x5,x6,x7,x8,x9⟩:=xH hb4.out.h;obtain⟨E,hE⟩:∃E,E=(qM m).2:=⟨_,rfl⟩
 rw[<-hE];replace hE:=zh hE;have hcp:=zh (copyA hsm.out hb4.out.m);unfold MA.g at hcp;go_wp2_with fail;refine hcp.out.mono ?_;rintro e w5 ⟨D,rfl,hD,_,hF,b5⟩;have hb5:=zh (hb4.out.step b5);obtain⟨X,hX⟩:∃X,X=w5.heap.size:=⟨_,rfl⟩
 obtain⟨W6,hW6⟩:∃W6,W6=w5.alloc (yU D m):=⟨_,rfl⟩
 have bx:=(bm_new hD).step (Below.refl _ _);rw[<-hW6,<-hX]at bx;have hb6:Below w5.heap.size w5 W6:=(by rw[hW6];exact Below.of_alloc _ _)
 have hfz:∀j,W6.frozen? ⟨X,j,none⟩=false:=λj=>by rw[hW6,hX];exact World.frozen?_alloc_at _ _ _ _ (by simp)
 have hfz6:=hfz 6;obtain⟨y0,y1,y2,y3,y4,y5,y6,y7,y8,y9⟩:=xH bx.h;have hbB:=zh (hb5.out.step hb6);obtain⟨z0,z1,z2,z3,z4,z5,z6,z7,z8,z9⟩:=xH hbB.out.h;have hsz:W6.heap.size=X+1:=(by rw[hW6,hX];simp)
 unfold yU MA.v at hW6
 go_upto_region 5 with(fail)
 rw[<-hW6,<-hX];have b5':=b5.size;clear hW6 x0 x1 x2 x3 x4 x5 x6 x7 x8 x9 hb5;obtain⟨d0,hd0⟩:∃d,m.exports[0]? =some d:=⟨_,List.getElem?_eq_getElem (by omega)⟩
 obtain⟨bE,oE,eA,hrow⟩:=RowsIn.row (F:=ExportAt) (k:=3) hbB.out.m.exports hd0;have hd0m:=List.mem_of_getElem? hd0;have hnmS:=hrow.1.2;have hnm:=hrow.1.1;rw[Nat.zero_mul,Nat.add_zero]at hnm;rw[eA]at z6 ⊢;replace eA:=zh eA;obtain⟨nm,hnmE⟩:∃nm,nm=d0.1:=⟨_,rfl⟩
 rw[<-hnmE]at hnm hnmS;replace hnmE:=zh hnmE;have hkk:=modN_lt t (n:=4) (by decide);have hmd0:=λw=>mod_any t 4 (by decide) (by decide) w;obtain⟨K,hK⟩:∃K,K=modN t 4:=⟨_,rfl⟩
 rw[<-hK]at hkk hmd0;replace hK:=zh hK;have hmd:Hid (∀w,Calls Tryz.prog 17 #[.int .i64 t,.int .i64 4] w λe w'=>e=.returned (.int .i64 (K:Int))/\w'=w):=zh hmd0;clear hmd0 hrow;have how:W6.ownsRow w4.heap.size 63 3 (.slice D.a6 m.exports.length D.k6) m.exports.length (m.exports.flatMap jU):=own_below (hF.own hn0) hb6;have hs4':Hid (w.heap.size<=w4.heap.size):=zh hb4.out.b.size;have hbase:w4.heap.size<W6.heap.size:=(by have:=b5';have:=hb6.size;rw[hsz];omega)
 have hb46:Hid (Below w4.heap.size w4 W6):=zh (b5.trans (hb6.mono b5.size));have hX4:Hid (w4.heap.size<=X):=zh (by rw[hX];exact b5.size);clear b5;replace hX:=zh hX;replace hsz:=zh hsz;replace how:=zh how;replace bx:=zh bx;replace hb6:=zh hb6;replace hF:=zh hF;replace hD:=zh hD;obtain⟨i63,hi63,hz63,hs63,hbb63⟩:=info_parts info79;have hb8:Below W6.heap.size W6 ((W6.alloc (.cells #[.string nm,.int .i64 (K:Int),.int .i64 0] 63)).drew):=((Below.refl _ _).alloc (Nat.le_refl _) _).drew;have hs8:((W6.alloc (.cells #[.string nm,.int .i64 (K:Int),.int .i64 0] 63)).drew).heap.size=W6.heap.size+1:=(by show(W6.alloc _).heap.size=_;simp)
 have hbase8:w4.heap.size<=((W6.alloc (.cells #[.string nm,.int .i64 (K:Int),.int .i64 0] 63)).drew).heap.size:=(by rw[hs8];omega)
 have hown8:=zh (own_below how.out hb8);have hnews:((W6.alloc (.cells #[.string nm,.int .i64 (K:Int),.int .i64 0] 63)).drew).heap[W6.heap.size]? =some (.cells #[.string nm,.int .i64 (K:Int),.int .i64 0] 63 (0,0)):=new_at rfl _
 have fin:∀(g cap:Nat) (w9:World),w9.ownsRow w4.heap.size 63 3 (.slice (some ⟨g,0,none⟩) (m.exports.length+1) cap) (m.exports.length+1) (m.exports.flatMap jU++[.string nm,.int .i64 (K:Int),.int .i64 0])->
  ((W6.alloc (.cells #[.string nm,.int .i64 (K:Int),.int .i64 0] 63)).drew).grownBy w9 (Value.slice D.a6 m.exports.length D.k6).ownBlock->((Value.slice D.a6 m.exports.length D.k6).ownBlock=some g\/g=W6.heap.size+1)->
  Hid (MdA (w9.setCell ⟨X,6,none⟩ (.slice (some ⟨g,0,none⟩) (m.exports.length+1) cap)) (mExp m (nm,(K:Int),0)) (D.e (some ⟨g,0,none⟩) cap))/\w9.cell? ⟨X,6,none⟩=some (.slice D.a6 m.exports.length D.k6)/\w9.frozen? ⟨X,6,none⟩=false/\
  Hid (Below w4.heap.size w4 (w9.setCell ⟨X,6,none⟩ (.slice (some ⟨g,0,none⟩) (m.exports.length+1) cap)))/\Hid (∀j u,j≠6->W6.cell? ⟨X,j,none⟩=some u->(w9.setCell ⟨X,6,none⟩ (.slice (some ⟨g,0,none⟩) (m.exports.length+1) cap)).cell? ⟨X,j,none⟩=some u)/\Hid ((w9.setCell ⟨X,6,none⟩ (.slice (some ⟨g,0,none⟩) (m.exports.length+1) cap)).cell? ⟨X,6,none⟩=some (.slice (some ⟨g,0,none⟩) (m.exports.length+1) cap)):=by
  intro g cap w9 ho hg hat;replace hat:=hat.imp_right λe=>e.trans (show W6.heap.size+1=_ from hs8.symm);have hlt:∀q,(Value.slice D.a6 m.exports.length D.k6).ownBlock=some q->w4.heap.size<=q/\q<X:=λq e=>by rw[hX.out];exact(hF.out.own hn0).lt q e
  have hXn:some X≠(Value.slice D.a6 m.exports.length D.k6).ownBlock:=λe=>by have:=hlt X e.symm;omega
  have hX8:X<((W6.alloc (.cells #[.string nm,.int .i64 (K:Int),.int .i64 0] 63)).drew).heap.size:=(by have h1:=hb8.size;have h2:=hsz.out;omega)
  have hblk:=(hg.block X hX8 hXn).trans (hb8.block X (by rw[hsz.out];omega));have y6':=(World.cell?_of_block (a:=⟨X,6,none⟩) hblk).trans y6;refine⟨zh (CopyE.push (d:=(nm,(K:Int),0)) hF.out hD.out hsm.out hn0 hnmS (hb6.out.trans (hb8.mono hb6.out.size)) (by rw[hX.out];exact Nat.le_refl _) hX8 ho hg hat),y6',(World.frozen?_of_block (a:=⟨X,6,none⟩) hblk).trans hfz6,zh ?_,zh λj u hj hu=>zE ((World.cell?_of_block (a:=⟨X,j,none⟩) hblk).trans hu) (.inr λe=>hj e.symm),zh (xK y6')⟩;exact((hb46.out.trans (hb8.mono hb46.out.size)).grown hg (by have:=hb8.size;have:=hb46.out.size;omega) (λq e=>by have:=(hlt q e).1;omega)).setCell (p:=⟨X,6,none⟩) (by show w4.heap.size<=X;exact hX4.out) _
 have y6a:(W6.alloc (.cells #[.string nm,.int .i64 (K:Int),.int .i64 0] 63)).cell? ⟨X,6,none⟩=some (.slice D.a6 m.exports.length D.k6):=zA (Below.of_alloc W6 _) _ _ y6;have hi0:(0:Int)<(m.exports.length:Int):=(by omega)
 have hi1:0<m.exports.length:=hn0;have hi2:decide ((0:Int)<(m.exports.length:Int))=true:=decide_eq_true hi0;replace hb8:=zh hb8;replace hs8:=zh hs8;replace hbase8:=zh hbase8;replace hnews:=zh hnews
 go_cut [] from 28 to 40 (λwx=>∃(g cap:Nat),Hid (MdA wx (mExp m (nm,(K:Int),0)) (D.e (some ⟨g,0,none⟩) cap))/\Hid (∀j u,j≠6->W6.cell? ⟨X,j,none⟩=some u->wx.cell? ⟨X,j,none⟩=some u)/\Hid (wx.cell? ⟨X,6,none⟩=some (.slice (some ⟨g,0,none⟩) (m.exports.length+1) cap))/\Hid (Below w4.heap.size w4 wx))
 case first=>
  go_region_law ((first
   |(go_simp;go_at_call 17;refine(hmd.out _).mono ?_;rintro e w' ⟨rfl,rfl⟩)
   |(refine step_append_lies _ rfl _ _ _ rfl w4.heap.size 63 i63 _ 3 32 Tryz.underlying27 hi63 hz63 hs63 hbb63 rfl (by omega) (.slice D.a6 m.exports.length D.k6) m.exports.length (m.exports.flatMap jU) (by rfl) hown8.out ⟨W6.heap.size,0,none⟩ 1 1 [.string nm,.int .i64 (K:Int),.int .i64 0] (by rfl) (by rfl) (World.news_of_block (cs:= #[.string nm,.int .i64 (K:Int),.int .i64 0]) (t:=63) (fr:=(0,0)) hnews.out) (by intro u hu;simp only[List.mem_cons,List.mem_nil_iff,or_false]at hu;rcases hu with rfl |rfl |rfl<;>rfl) (by omega) (by unfold maxLen;omega) (by omega) hbase8.out (W6.heap.size+1) (by simp) ?_;intro g cap w9 own9 hgrow hat hlt9;obtain⟨f1,f2,f3,f4,f5,f6⟩:=fin g cap w9 own9 hgrow hat)))
  all_goals go_wp2_with fail
  all_goals go_meet
  all_goals exact⟨g,cap,f1,f5,f6,f4⟩
 case rest=>
  obtain⟨g,cap,hM,hcl,hc2,hbw⟩:=hcut;have e0:=hcl.out 0 _ (by decide) y0;have e1:=hcl.out 1 _ (by decide) y1;have e2:=hcl.out 2 _ (by decide) y2;have e3:=hcl.out 3 _ (by decide) y3;have e4:=hcl.out 4 _ (by decide) y4;have e5:=hcl.out 5 _ (by decide) y5;have e6:=hc2.out;have e7:=hcl.out 7 _ (by decide) y7;have e8:=hcl.out 8 _ (by decide) y8;have e9:=hcl.out 9 _ (by decide) y9;have hbc:=zh (hb4.out.step hbw.out);obtain⟨F,hFv⟩:∃F,F=(qM (mExp m (nm,(K:Int),0))).2:=⟨_,rfl⟩
  have hex:∃x∈m.exports,x.1=((nm,(K:Int),(0:Int)):ByteArray×Int×Int).1:=⟨d0,hd0m,hnmE.out.symm⟩
  have hF0:F≠0:=(by rw[hFv];exact twice_never hex)
  have hF63:E=0->F=63:=λh0=>by
   rw[hFv];have hv:=vd_of (hE.out.symm.trans h0);refine twice_bad hex hv ?_ hn1;rw[hnmE.out];exact exp_new hv hd0m hkk
  have hva:=validA hM.out (hT.out.below hbc.out.b);rw[<-hFv]at hva;unfold MA.g MA.e at hva
  dsimp only at hva
  rw[show(mExp m (nm,(K:Int),0)).exports.length=m.exports.length+1 by simp[mExp]]at hva;replace hva:Calls Tryz.prog 14 #[.agg #[.slice D.a0 m.types.length D.k0,.slice D.a1 m.imports.length D.k1,.slice D.a2 m.funcs.length D.k2,.slice D.a3 m.tables.length D.k3,.slice D.a4 m.mems.length D.k4,.slice D.a5 m.globals.length D.k5,.slice (some ⟨g,0,none⟩) (m.exports.length+1) cap,.slice D.a7 m.start.length D.k7,.slice D.a8 m.elems.length D.k8,.slice D.a9 m.datas.length D.k9]] wc λe w'=>e=.returned (.int .i64 F)/\Below wc.heap.size wc w':=hva;replace hva:=zh hva;replace hFv:=zh hFv;clear y0 y1 y2 y3 y4 y5 y6 y7 y8 y9 z0 z1 z2 z3 z4 z5 z6 z7 z8 z9 hfz hfz6 hcl hc2 hM y6a fin hn0 hn1 hkk hnm hex hd0m hd0;go_wp2_with fail;refine hva.out.mono ?_;rintro e u1 ⟨rfl,b1⟩;have hu1:=zh (hbc.out.step b1);have hwk1:=zh (vwakes_any (hT.out.below hu1.out.b));clear b1 hva e0 e1 e2 e3 e4 e5 e6 e7 e8 e9;obtain⟨x0,x1,x2,x3,x4,x5,x6,x7,x8,x9⟩:=xH hu1.out.h
  by_cases hE0:E=0
  . obtain rfl:=hF63 hE0;subst hE0;clear hF0 hF63 x0 x1 x2 x3 x4 x5 x6 x7 x8 x9;go_wp2_with fail;refine hwk1.out.mono ?_;rintro e u2 ⟨rfl,b2⟩;have hu2:=zh (hu1.out.b.trans (b2.mono hu1.out.b.size));clear b2;go_wp2_with fail;go_ret;exact⟨rfl,hu2.out⟩
  . have h1:(E==0)=false:=beq_eq_false_iff_ne.2 hE0;have h2:(E !=0)=true:=(by rw[bne,h1];rfl)
    have h3:(E==E)=true:=beq_self_eq_true E;have f1:(F==0)=false:=beq_eq_false_iff_ne.2 hF0;have f2:(F !=0)=true:=(by rw[bne,f1];rfl)
    have hrv:=rvalidA hu1.out.m hds.out;rw[<-hE.out]at hrv;unfold MA.g at hrv;replace hrv:=zh hrv;clear hE0 hF0 hF63;go_wp2_with fail;refine hrv.out.mono ?_;rintro e u2 ⟨rfl,b2⟩;have hu2:=zh (hu1.out.b.trans (b2.mono hu1.out.b.size));have hwk:=zh (vwakes_any (hT.out.below hu2.out));clear b2 hrv x0 x1 x2 x3 x4 x5 x6 x7 x8 x9;go_wp2_with fail;refine hwk.out.mono ?_;rintro e u3 ⟨rfl,b3⟩;have hu3:=zh (hu2.out.trans (b3.mono hu2.out.size));clear b3;go_wp2_with fail;go_ret;exact⟨rfl,hu3.out⟩
theorem twice_walk{H:Type}{enc:TypeId×Value->H}(W:World)(base:Nat)(hT:TabU W)(v0:Value)(d0:DataW H)(p0:List MemPlace)(o0:Value.okWide Tryz.prog W .any base 32 v0)(h0:DataW.Trod enc Tryz.prog W 0 (λ_=>true) true 32 v0 d0 p0)(v1:Value)(d1:DataW H)(p1:List MemPlace)(o1:Value.okWide Tryz.prog W .any base 3 v1)(h1:DataW.Trod enc Tryz.prog W 0 (λ_=>true) true 3 v1 d1 p1):Calls Tryz.prog 7 #[v0,v1] W λe W'=>e=.returned (.bool true)/\Below W.heap.size W W':=by
 obtain⟨m,a0,k0,a1,k1,a2,k2,a3,k3,a4,k4,a5,k5,a6,k6,a7,k7,a8,k8,a9,k9,rfl,hM⟩:=open_module o0 h0;obtain⟨n1,rfl,rfl,rfl,_⟩:=Go.ChangeShapes.open_int Tryz.underlying3 o1 h1;exact twice_any (A:=⟨a0,k0,a1,k1,a2,k2,a3,k3,a4,k4,a5,k5,a6,k6,a7,k7,a8,k8,a9,k9⟩) hM hT
end Go.Proofs.YtacohbllbjgdgaaGreatDoor
