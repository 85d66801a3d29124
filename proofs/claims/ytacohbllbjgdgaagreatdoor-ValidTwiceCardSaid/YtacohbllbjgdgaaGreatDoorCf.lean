/- The first statement of the reference's Copy: five slices copied, in whatever order. -/
import Derived.Test.YtacohbllbjgdgaaGreatDoorCa
set_option linter.all false
set_option maxRecDepth 100000
namespace Go.Proofs.YtacohbllbjgdgaaGreatDoor
open Go.RowKit
def qK:Array Oper:= #[⟨some 10,.buildSlice 23 0 #[],23,"ref.go:373", #[],none⟩,⟨some 11,.fieldAddr 32 (.tmp 1) 1,0,"ref.go:373", #[],none⟩,⟨some 12,.load 23 (.tmp 11),23,"ref.go:373", #[⟨1,.data⟩],none⟩,⟨some 13,.call ⟨.builtin .append, #[.tmp 10,.tmp 12], #[23,23]⟩,23,"ref.go:373", #[⟨0,.data⟩,⟨2,.data⟩],none⟩,⟨some 14,.buildSlice 25 0 #[],25,"ref.go:373", #[],none⟩,⟨some 15,.fieldAddr 32 (.tmp 1) 3,0,"ref.go:373", #[],none⟩,⟨some 16,.load 25 (.tmp 15),25,"ref.go:373", #[⟨5,.data⟩],none⟩,⟨some 17,.call ⟨.builtin .append, #[.tmp 14,.tmp 16], #[25,25]⟩,25,"ref.go:373", #[⟨4,.data⟩,⟨6,.data⟩,⟨3,.chain⟩],none⟩,⟨some 18,.buildSlice 25 0 #[],25,"ref.go:373", #[],none⟩,⟨some 19,.fieldAddr 32 (.tmp 1) 4,0,"ref.go:373", #[],none⟩,⟨some 20,.load 25 (.tmp 19),25,"ref.go:373", #[⟨9,.data⟩],none⟩,⟨some 21,.call ⟨.builtin .append, #[.tmp 18,.tmp 20], #[25,25]⟩,25,"ref.go:373", #[⟨8,.data⟩,⟨10,.data⟩,⟨7,.chain⟩],none⟩,⟨some 22,.buildSlice 27 0 #[],27,"ref.go:373", #[],none⟩,⟨some 23,.fieldAddr 32 (.tmp 1) 6,0,"ref.go:373", #[],none⟩,⟨some 24,.load 27 (.tmp 23),27,"ref.go:373", #[⟨13,.data⟩],none⟩,⟨some 25,.call ⟨.builtin .append, #[.tmp 22,.tmp 24], #[27,27]⟩,27,"ref.go:373", #[⟨12,.data⟩,⟨14,.data⟩,⟨11,.chain⟩],none⟩,⟨some 26,.buildSlice 28 0 #[],28,"ref.go:373", #[],none⟩,⟨some 27,.fieldAddr 32 (.tmp 1) 7,0,"ref.go:373", #[],none⟩,⟨some 28,.load 28 (.tmp 27),28,"ref.go:373", #[⟨17,.data⟩],none⟩,⟨some 29,.call ⟨.builtin .append, #[.tmp 26,.tmp 28], #[28,28]⟩,28,"ref.go:373", #[⟨16,.data⟩,⟨18,.data⟩,⟨15,.chain⟩],none⟩,⟨some 30,.build 32 #[(1,.tmp 13),(3,.tmp 17),(4,.tmp 21),(6,.tmp 25),(7,.tmp 29)],32,"ref.go:373", #[⟨3,.data⟩,⟨7,.data⟩,⟨11,.data⟩,⟨15,.data⟩,⟨19,.data⟩],none⟩,⟨some 3,.alloc 32,0,"ref.go:373", #[],none⟩,⟨none,.store 32 (.tmp 3) (.tmp 30),0,"ref.go:373", #[⟨21,.data⟩,⟨20,.data⟩,⟨19,.chain⟩,⟨0,.phase⟩,⟨1,.phase⟩,⟨2,.phase⟩,⟨3,.phase⟩,⟨4,.phase⟩,⟨5,.phase⟩,⟨6,.phase⟩,⟨7,.phase⟩,⟨8,.phase⟩,⟨9,.phase⟩,⟨10,.phase⟩,⟨11,.phase⟩,⟨12,.phase⟩,⟨13,.phase⟩,⟨14,.phase⟩,⟨15,.phase⟩,⟨16,.phase⟩,⟨17,.phase⟩,⟨18,.phase⟩,⟨19,.phase⟩,⟨20,.phase⟩,⟨21,.phase⟩],none⟩]
def dstC:Nat->Nat
 |21=>3
 |i=>i+10
theorem dst_inj:∀i j:Fin 22,dstC i.val=dstC j.val->i=j:=by decide+kernel
def RC (m:Md) (a1:Option Addr) (k1:Nat) (a3:Option Addr) (k3:Nat) (a4:Option Addr) (k4:Nat) (a6:Option Addr) (k6:Nat) (a7:Option Addr) (k7:Nat) (B H:Nat) (i:Nat) (v:Value) (w:World):Prop:=
 match i with
 |0=>∃h,v=.slice (some ⟨h,0,none⟩) 0 0/\B<=h
 |1=>v=.pointer (some ⟨H,1,none⟩)
 |2=>v=.slice a1 m.imports.length k1
 |3=>NewRow B w m.imports.length (m.imports.flatMap impC) v
 |4=>∃h,v=.slice (some ⟨h,0,none⟩) 0 0/\B<=h
 |5=>v=.pointer (some ⟨H,3,none⟩)
 |6=>v=.slice a3 m.tables.length k3
 |7=>NewRow B w m.tables.length (m.tables.flatMap limC) v
 |8=>∃h,v=.slice (some ⟨h,0,none⟩) 0 0/\B<=h
 |9=>v=.pointer (some ⟨H,4,none⟩)
 |10=>v=.slice a4 m.mems.length k4
 |11=>NewRow B w m.mems.length (m.mems.flatMap limC) v
 |12=>∃h,v=.slice (some ⟨h,0,none⟩) 0 0/\B<=h
 |13=>v=.pointer (some ⟨H,6,none⟩)
 |14=>v=.slice a6 m.exports.length k6
 |15=>NewRow B w m.exports.length (m.exports.flatMap jU) v/\(0<m.exports.length->w.ownsRow 0 63 3 v m.exports.length (m.exports.flatMap jU))
 |16=>∃h,v=.slice (some ⟨h,0,none⟩) 0 0/\B<=h
 |17=>v=.pointer (some ⟨H,7,none⟩)
 |18=>v=.slice a7 m.start.length k7
 |19=>NewRow B w m.start.length (qU m.start) v
 |20=>∃x1 x3 x4 x6 x7,v=.agg #[.slice none 0 0,x1,.slice none 0 0,x3,x4,.slice none 0 0,x6,x7,.slice none 0 0,.slice none 0 0]/\NewRow B w m.imports.length (m.imports.flatMap impC) x1/\NewRow B w m.tables.length (m.tables.flatMap limC) x3/\
  NewRow B w m.mems.length (m.mems.flatMap limC) x4/\NewRow B w m.exports.length (m.exports.flatMap jU) x6/\NewRow B w m.start.length (qU m.start) x7/\(0<m.exports.length->w.ownsRow 0 63 3 x6 m.exports.length (m.exports.flatMap jU))
 |_=>∃M,v=.pointer (some ⟨M,0,none⟩)/\B<=M/\M<w.heap.size/\(∀j,j<10->w.cell? ⟨M,j,none⟩=some (.slice none 0 0))/\∀j,w.frozen? ⟨M,j,none⟩=false
theorem RC.mono{m:Md}{a1:Option Addr}{k1:Nat}{a3:Option Addr}{k3:Nat}{a4:Option Addr}{k4:Nat}{a6:Option Addr}{k6:Nat}{a7:Option Addr}{k7:Nat}{B H:Nat}{i:Nat}{v:Value}{w w':World}(hb:Below w.heap.size w w')(h:RC m a1 k1 a3 k3 a4 k4 a6 k6 a7 k7 B H i v w):RC m a1 k1 a3 k3 a4 k4 a6 k6 a7 k7 B H i v w':=by
 have f:=zA hb;unfold RC at*
 split at h;all_goals try exact h
 . exact h.mono f
 . exact h.mono f
 . exact h.mono f
 . exact⟨h.1.mono f,λhp=>own_below (h.2 hp) hb⟩
 . exact h.mono f
 . obtain⟨x1,x3,x4,x6,x7,e,h1,h3,h4,h6,h7,h8⟩:=h;exact⟨x1,x3,x4,x6,x7,e,h1.mono f,h3.mono f,h4.mono f,h6.mono f,h7.mono f,λhp=>own_below (h8 hp) hb⟩
 . obtain⟨M,e,h1,h2,h3,h4⟩:=h;exact⟨M,e,h1,Nat.lt_of_lt_of_le h2 hb.size,λj hj=>f _ _ (h3 j hj),λj=>(hb.frozen (p:=⟨M,j,none⟩) h2).trans (h4 j)⟩
structure CJ (m:Md) (a1:Option Addr) (k1:Nat) (a3:Option Addr) (k3:Nat) (a4:Option Addr) (k4:Nat) (a6:Option Addr) (k6:Nat) (a7:Option Addr) (k7:Nat) (B H:Nat) (w1:World) (listed:Array Bool) (f:Nat->Value) (w:World):Prop where
 below:Below B w1 w
 size:B<=w.heap.size
 r:∀i,i<22->listed.getD i false=true->RC m a1 k1 a3 k3 a4 k4 a6 k6 a7 k7 B H i (f (dstC i)) w
theorem CJ.next{m:Md}{a1:Option Addr}{k1:Nat}{a3:Option Addr}{k3:Nat}{a4:Option Addr}{k4:Nat}{a6:Option Addr}{k6:Nat}{a7:Option Addr}{k7:Nat}{B H:Nat}{w1:World}{listed:Array Bool}{f:Nat->Value}{w w':World}{i:Nat}{v:Value}(h:CJ m a1 k1 a3 k3 a4 k4 a6 k6 a7 k7 B H w1 listed f w)(hi:i<22)(hb:Below w.heap.size w w')(hv:RC m a1 k1 a3 k3 a4 k4 a6 k6 a7 k7 B H i v w'):CJ m a1 k1 a3 k3 a4 k4 a6 k6 a7 k7 B H w1 (listed.setIfInBounds i true) (upd f (dstC i) v) w':=by
 refine⟨h.below.trans (hb.mono h.size),Nat.le_trans h.size hb.size,λj hj hl=> ?_⟩
 by_cases hij:i=j
 . subst hij;have e:upd f (dstC i) v (dstC i)=v:=if_pos rfl;rw[e];exact hv
 . have hne:dstC j≠dstC i:=λe=>hij (by have:=dst_inj ⟨j,hj⟩ ⟨i,hi⟩ e;exact(Fin.mk.inj this).symm);have e:upd f (dstC i) v (dstC j)=f (dstC j):=if_neg hne;rw[e];exact(h.r j hj (getD_set_ne2 hij hl)).mono hb
structure CH (m:Md) (a1:Option Addr) (k1:Nat) (a3:Option Addr) (k3:Nat) (a4:Option Addr) (k4:Nat) (a6:Option Addr) (k6:Nat) (a7:Option Addr) (k7:Nat) (B H:Nat) (w1:World):Prop where
 size:w1.heap.size=B
 c1:w1.cell? ⟨H,1,none⟩=some (.slice a1 m.imports.length k1)
 c3:w1.cell? ⟨H,3,none⟩=some (.slice a3 m.tables.length k3)
 c4:w1.cell? ⟨H,4,none⟩=some (.slice a4 m.mems.length k4)
 c6:w1.cell? ⟨H,6,none⟩=some (.slice a6 m.exports.length k6)
 c7:w1.cell? ⟨H,7,none⟩=some (.slice a7 m.start.length k7)
 r1:RowsIn ImportAt 3 w1 a1 m.imports
 r3:RowsIn LimitsAt 3 w1 a3 m.tables
 r4:RowsIn LimitsAt 3 w1 a4 m.mems
 r6:RowsIn ExportAt 3 w1 a6 m.exports
 r7:IntsIn w1 a7 m.start
 n1:m.imports.length<=5000
 n3:m.tables.length<=5000
 n4:m.mems.length<=5000
 n6:m.exports.length<=5000
 n7:m.start.length<=5000
theorem CJ.keeps{m:Md}{a1:Option Addr}{k1:Nat}{a3:Option Addr}{k3:Nat}{a4:Option Addr}{k4:Nat}{a6:Option Addr}{k6:Nat}{a7:Option Addr}{k7:Nat}{B H:Nat}{w1:World}{listed:Array Bool}{f:Nat->Value}{w:World}(h:CJ m a1 k1 a3 k3 a4 k4 a6 k6 a7 k7 B H w1 listed f w)(hh:CH m a1 k1 a3 k3 a4 k4 a6 k6 a7 k7 B H w1):Keeps w1 w:=zA (by rw[hh.size];exact h.below)
theorem frt_1(A B C:Value)(f:Nat->Value):(fr A B C f).tmps[1]?.getD undef=B:=rfl
theorem frt_3(A B C:Value)(f:Nat->Value):(fr A B C f).tmps[3]?.getD undef=f 3:=rfl
theorem frt_10(A B C:Value)(f:Nat->Value):(fr A B C f).tmps[10]?.getD undef=f 10:=rfl
theorem frt_11(A B C:Value)(f:Nat->Value):(fr A B C f).tmps[11]?.getD undef=f 11:=rfl
theorem frt_12(A B C:Value)(f:Nat->Value):(fr A B C f).tmps[12]?.getD undef=f 12:=rfl
theorem frt_13(A B C:Value)(f:Nat->Value):(fr A B C f).tmps[13]?.getD undef=f 13:=rfl
theorem frt_14(A B C:Value)(f:Nat->Value):(fr A B C f).tmps[14]?.getD undef=f 14:=rfl
theorem frt_15(A B C:Value)(f:Nat->Value):(fr A B C f).tmps[15]?.getD undef=f 15:=rfl
theorem frt_16(A B C:Value)(f:Nat->Value):(fr A B C f).tmps[16]?.getD undef=f 16:=rfl
theorem frt_17(A B C:Value)(f:Nat->Value):(fr A B C f).tmps[17]?.getD undef=f 17:=rfl
theorem frt_18(A B C:Value)(f:Nat->Value):(fr A B C f).tmps[18]?.getD undef=f 18:=rfl
theorem frt_19(A B C:Value)(f:Nat->Value):(fr A B C f).tmps[19]?.getD undef=f 19:=rfl
theorem frt_20(A B C:Value)(f:Nat->Value):(fr A B C f).tmps[20]?.getD undef=f 20:=rfl
theorem frt_21(A B C:Value)(f:Nat->Value):(fr A B C f).tmps[21]?.getD undef=f 21:=rfl
theorem frt_22(A B C:Value)(f:Nat->Value):(fr A B C f).tmps[22]?.getD undef=f 22:=rfl
theorem frt_23(A B C:Value)(f:Nat->Value):(fr A B C f).tmps[23]?.getD undef=f 23:=rfl
theorem frt_24(A B C:Value)(f:Nat->Value):(fr A B C f).tmps[24]?.getD undef=f 24:=rfl
theorem frt_25(A B C:Value)(f:Nat->Value):(fr A B C f).tmps[25]?.getD undef=f 25:=rfl
theorem frt_26(A B C:Value)(f:Nat->Value):(fr A B C f).tmps[26]?.getD undef=f 26:=rfl
theorem frt_27(A B C:Value)(f:Nat->Value):(fr A B C f).tmps[27]?.getD undef=f 27:=rfl
theorem frt_28(A B C:Value)(f:Nat->Value):(fr A B C f).tmps[28]?.getD undef=f 28:=rfl
theorem frt_29(A B C:Value)(f:Nat->Value):(fr A B C f).tmps[29]?.getD undef=f 29:=rfl
theorem frt_30(A B C:Value)(f:Nat->Value):(fr A B C f).tmps[30]?.getD undef=f 30:=rfl
theorem cstep_0{m:Md}{a1:Option Addr}{k1:Nat}{a3:Option Addr}{k3:Nat}{a4:Option Addr}{k4:Nat}{a6:Option Addr}{k6:Nat}{a7:Option Addr}{k7:Nat}{B H:Nat}{w1:World}{Q:Exit->Act->World->Prop}{A C:Value}{listed:Array Bool}{f:Nat->Value}{w:World}(hh:CH m a1 k1 a3 k3 a4 k4 a6 k6 a7 k7 B H w1)(h:CJ m a1 k1 a3 k3 a4 k4 a6 k6 a7 k7 B H w1 listed f w):wpOp Tryz.prog qK Q 0 (λa' w'=>∃f',a'=fr A (.pointer (some ⟨H,0,none⟩)) C f'/\CJ m a1 k1 a3 k3 a4 k4 a6 k6 a7 k7 B H w1 (listed.setIfInBounds 0 true) f' w') (fr A (.pointer (some ⟨H,0,none⟩)) C f) w:=by
 refine wpOp_step (o:=⟨some 10,.buildSlice 23 0 #[],23,_,_,none⟩) rfl ?_;intro K' hK';rw[if_pos (by rfl)];go_simp;exact hK' _ _ ⟨upd f 10 _,rfl,h.next (i:=0) (by decide) ((Below.refl _ _).alloc (Nat.le_refl _) _) ⟨_,rfl,h.size⟩⟩
theorem cstep_1{m:Md}{a1:Option Addr}{k1:Nat}{a3:Option Addr}{k3:Nat}{a4:Option Addr}{k4:Nat}{a6:Option Addr}{k6:Nat}{a7:Option Addr}{k7:Nat}{B H:Nat}{w1:World}{Q:Exit->Act->World->Prop}{A C:Value}{listed:Array Bool}{f:Nat->Value}{w:World}(hh:CH m a1 k1 a3 k3 a4 k4 a6 k6 a7 k7 B H w1)(h:CJ m a1 k1 a3 k3 a4 k4 a6 k6 a7 k7 B H w1 listed f w):wpOp Tryz.prog qK Q 1 (λa' w'=>∃f',a'=fr A (.pointer (some ⟨H,0,none⟩)) C f'/\CJ m a1 k1 a3 k3 a4 k4 a6 k6 a7 k7 B H w1 (listed.setIfInBounds 1 true) f' w') (fr A (.pointer (some ⟨H,0,none⟩)) C f) w:=by
 refine wpOp_step (o:=⟨some 11,.fieldAddr 32 (.tmp 1) 1,0,_,_,none⟩) rfl ?_;intro K' hK';rw[if_pos (by rfl)];go_simp;simp only[frt_1,frt_3,frt_10,frt_11,frt_12,frt_13,frt_14,frt_15,frt_16,frt_17,frt_18,frt_19,frt_20,frt_21,frt_22,frt_23,frt_24,frt_25,frt_26,frt_27,frt_28,frt_29,frt_30];go_simp;exact hK' _ _ ⟨upd f 11 _,rfl,h.next (i:=1) (by decide) (Below.refl _ _) rfl⟩
theorem cstep_2{m:Md}{a1:Option Addr}{k1:Nat}{a3:Option Addr}{k3:Nat}{a4:Option Addr}{k4:Nat}{a6:Option Addr}{k6:Nat}{a7:Option Addr}{k7:Nat}{B H:Nat}{w1:World}{Q:Exit->Act->World->Prop}{A C:Value}{listed:Array Bool}{f:Nat->Value}{w:World}(hh:CH m a1 k1 a3 k3 a4 k4 a6 k6 a7 k7 B H w1)(h:CJ m a1 k1 a3 k3 a4 k4 a6 k6 a7 k7 B H w1 listed f w)(l1:listed.getD 1 false=true):wpOp Tryz.prog qK Q 2 (λa' w'=>∃f',a'=fr A (.pointer (some ⟨H,0,none⟩)) C f'/\CJ m a1 k1 a3 k3 a4 k4 a6 k6 a7 k7 B H w1 (listed.setIfInBounds 2 true) f' w') (fr A (.pointer (some ⟨H,0,none⟩)) C f) w:=by
 refine wpOp_step (o:=⟨some 12,.load 23 (.tmp 11),23,_,_,none⟩) rfl ?_;intro K' hK';have e:f 11=.pointer (some ⟨H,1,none⟩):=h.r 1 (by decide) l1;have hc:=h.keeps hh _ _ hh.c1;rw[if_pos (by rfl)];go_simp;simp only[frt_1,frt_3,frt_10,frt_11,frt_12,frt_13,frt_14,frt_15,frt_16,frt_17,frt_18,frt_19,frt_20,frt_21,frt_22,frt_23,frt_24,frt_25,frt_26,frt_27,frt_28,frt_29,frt_30,e];go_simp;exact hK' _ _ ⟨upd f 12 _,rfl,h.next (i:=2) (by decide) (Below.refl _ _) rfl⟩
theorem cstep_3{m:Md}{a1:Option Addr}{k1:Nat}{a3:Option Addr}{k3:Nat}{a4:Option Addr}{k4:Nat}{a6:Option Addr}{k6:Nat}{a7:Option Addr}{k7:Nat}{B H:Nat}{w1:World}{Q:Exit->Act->World->Prop}{A C:Value}{listed:Array Bool}{f:Nat->Value}{w:World}(hh:CH m a1 k1 a3 k3 a4 k4 a6 k6 a7 k7 B H w1)(h:CJ m a1 k1 a3 k3 a4 k4 a6 k6 a7 k7 B H w1 listed f w)(l0:listed.getD 0 false=true)(l2:listed.getD 2 false=true):wpOp Tryz.prog qK Q 3 (λa' w'=>∃f',a'=fr A (.pointer (some ⟨H,0,none⟩)) C f'/\CJ m a1 k1 a3 k3 a4 k4 a6 k6 a7 k7 B H w1 (listed.setIfInBounds 3 true) f' w') (fr A (.pointer (some ⟨H,0,none⟩)) C f) w:=by
 refine wpOp_step (o:=⟨some 13,.call ⟨.builtin .append, #[.tmp 10,.tmp 12], #[23,23]⟩,23,_,_,none⟩) rfl ?_;intro K' hK';obtain⟨h0,e0,hbb⟩:=h.r 0 (by decide) l0;have e2:f 12=.slice a1 m.imports.length k1:=h.r 2 (by decide) l2;have hr:=hh.r1.keep λ_ _ _=>.keep (h.keeps hh);obtain⟨i,hi,he⟩:=Option.map_eq_some_iff.1 info73;obtain⟨hz,hsz,hby⟩:=Prod.mk.inj he |>.imp id Prod.mk.inj
 refine jO _ rfl _ _ _ rfl 82 i _ 3 40 Tryz.underlying23 hi hz hsz hby h0 _ m.imports.length (m.imports.flatMap impC) (by exact e0) (by exact e2) (rows_src Tryz.underlying23 (λ_=>rfl) impC_one imp_cells hr) hr.1 (by have:=hh.n1;omega) ?_;intro v w' hn hb;exact hK' _ _ ⟨upd f 13 _,rfl,h.next (i:=3) (by decide) hb (hn.le (Nat.le_min.2 ⟨hbb,h.size⟩))⟩
theorem cstep_4{m:Md}{a1:Option Addr}{k1:Nat}{a3:Option Addr}{k3:Nat}{a4:Option Addr}{k4:Nat}{a6:Option Addr}{k6:Nat}{a7:Option Addr}{k7:Nat}{B H:Nat}{w1:World}{Q:Exit->Act->World->Prop}{A C:Value}{listed:Array Bool}{f:Nat->Value}{w:World}(hh:CH m a1 k1 a3 k3 a4 k4 a6 k6 a7 k7 B H w1)(h:CJ m a1 k1 a3 k3 a4 k4 a6 k6 a7 k7 B H w1 listed f w):wpOp Tryz.prog qK Q 4 (λa' w'=>∃f',a'=fr A (.pointer (some ⟨H,0,none⟩)) C f'/\CJ m a1 k1 a3 k3 a4 k4 a6 k6 a7 k7 B H w1 (listed.setIfInBounds 4 true) f' w') (fr A (.pointer (some ⟨H,0,none⟩)) C f) w:=by
 refine wpOp_step (o:=⟨some 14,.buildSlice 25 0 #[],25,_,_,none⟩) rfl ?_;intro K' hK';rw[if_pos (by rfl)];go_simp;exact hK' _ _ ⟨upd f 14 _,rfl,h.next (i:=4) (by decide) ((Below.refl _ _).alloc (Nat.le_refl _) _) ⟨_,rfl,h.size⟩⟩
theorem cstep_5{m:Md}{a1:Option Addr}{k1:Nat}{a3:Option Addr}{k3:Nat}{a4:Option Addr}{k4:Nat}{a6:Option Addr}{k6:Nat}{a7:Option Addr}{k7:Nat}{B H:Nat}{w1:World}{Q:Exit->Act->World->Prop}{A C:Value}{listed:Array Bool}{f:Nat->Value}{w:World}(hh:CH m a1 k1 a3 k3 a4 k4 a6 k6 a7 k7 B H w1)(h:CJ m a1 k1 a3 k3 a4 k4 a6 k6 a7 k7 B H w1 listed f w):wpOp Tryz.prog qK Q 5 (λa' w'=>∃f',a'=fr A (.pointer (some ⟨H,0,none⟩)) C f'/\CJ m a1 k1 a3 k3 a4 k4 a6 k6 a7 k7 B H w1 (listed.setIfInBounds 5 true) f' w') (fr A (.pointer (some ⟨H,0,none⟩)) C f) w:=by
 refine wpOp_step (o:=⟨some 15,.fieldAddr 32 (.tmp 1) 3,0,_,_,none⟩) rfl ?_;intro K' hK';rw[if_pos (by rfl)];go_simp;simp only[frt_1,frt_3,frt_10,frt_11,frt_12,frt_13,frt_14,frt_15,frt_16,frt_17,frt_18,frt_19,frt_20,frt_21,frt_22,frt_23,frt_24,frt_25,frt_26,frt_27,frt_28,frt_29,frt_30];go_simp;exact hK' _ _ ⟨upd f 15 _,rfl,h.next (i:=5) (by decide) (Below.refl _ _) rfl⟩
theorem cstep_6{m:Md}{a1:Option Addr}{k1:Nat}{a3:Option Addr}{k3:Nat}{a4:Option Addr}{k4:Nat}{a6:Option Addr}{k6:Nat}{a7:Option Addr}{k7:Nat}{B H:Nat}{w1:World}{Q:Exit->Act->World->Prop}{A C:Value}{listed:Array Bool}{f:Nat->Value}{w:World}(hh:CH m a1 k1 a3 k3 a4 k4 a6 k6 a7 k7 B H w1)(h:CJ m a1 k1 a3 k3 a4 k4 a6 k6 a7 k7 B H w1 listed f w)(l5:listed.getD 5 false=true):wpOp Tryz.prog qK Q 6 (λa' w'=>∃f',a'=fr A (.pointer (some ⟨H,0,none⟩)) C f'/\CJ m a1 k1 a3 k3 a4 k4 a6 k6 a7 k7 B H w1 (listed.setIfInBounds 6 true) f' w') (fr A (.pointer (some ⟨H,0,none⟩)) C f) w:=by
 refine wpOp_step (o:=⟨some 16,.load 25 (.tmp 15),25,_,_,none⟩) rfl ?_;intro K' hK';have e:f 15=.pointer (some ⟨H,3,none⟩):=h.r 5 (by decide) l5;have hc:=h.keeps hh _ _ hh.c3;rw[if_pos (by rfl)];go_simp;simp only[frt_1,frt_3,frt_10,frt_11,frt_12,frt_13,frt_14,frt_15,frt_16,frt_17,frt_18,frt_19,frt_20,frt_21,frt_22,frt_23,frt_24,frt_25,frt_26,frt_27,frt_28,frt_29,frt_30,e];go_simp;exact hK' _ _ ⟨upd f 16 _,rfl,h.next (i:=6) (by decide) (Below.refl _ _) rfl⟩
theorem cstep_7{m:Md}{a1:Option Addr}{k1:Nat}{a3:Option Addr}{k3:Nat}{a4:Option Addr}{k4:Nat}{a6:Option Addr}{k6:Nat}{a7:Option Addr}{k7:Nat}{B H:Nat}{w1:World}{Q:Exit->Act->World->Prop}{A C:Value}{listed:Array Bool}{f:Nat->Value}{w:World}(hh:CH m a1 k1 a3 k3 a4 k4 a6 k6 a7 k7 B H w1)(h:CJ m a1 k1 a3 k3 a4 k4 a6 k6 a7 k7 B H w1 listed f w)(l4:listed.getD 4 false=true)(l6:listed.getD 6 false=true):wpOp Tryz.prog qK Q 7 (λa' w'=>∃f',a'=fr A (.pointer (some ⟨H,0,none⟩)) C f'/\CJ m a1 k1 a3 k3 a4 k4 a6 k6 a7 k7 B H w1 (listed.setIfInBounds 7 true) f' w') (fr A (.pointer (some ⟨H,0,none⟩)) C f) w:=by
 refine wpOp_step (o:=⟨some 17,.call ⟨.builtin .append, #[.tmp 14,.tmp 16], #[25,25]⟩,25,_,_,none⟩) rfl ?_;intro K' hK';obtain⟨h0,e0,hbb⟩:=h.r 4 (by decide) l4;have e2:f 16=.slice a3 m.tables.length k3:=h.r 6 (by decide) l6;have hr:=hh.r3.keep λ_ _ _=>.keep (h.keeps hh);obtain⟨i,hi,he⟩:=Option.map_eq_some_iff.1 info76;obtain⟨hz,hsz,hby⟩:=Prod.mk.inj he |>.imp id Prod.mk.inj
 refine jO _ rfl _ _ _ rfl 47 i _ 3 24 Tryz.underlying25 hi hz hsz hby h0 _ m.tables.length (m.tables.flatMap limC) (by exact e0) (by exact e2) (rows_src Tryz.underlying25 (λ_=>rfl) limC_one lim_cells hr) hr.1 (by have:=hh.n3;omega) ?_;intro v w' hn hb;exact hK' _ _ ⟨upd f 17 _,rfl,h.next (i:=7) (by decide) hb (hn.le (Nat.le_min.2 ⟨hbb,h.size⟩))⟩
theorem cstep_8{m:Md}{a1:Option Addr}{k1:Nat}{a3:Option Addr}{k3:Nat}{a4:Option Addr}{k4:Nat}{a6:Option Addr}{k6:Nat}{a7:Option Addr}{k7:Nat}{B H:Nat}{w1:World}{Q:Exit->Act->World->Prop}{A C:Value}{listed:Array Bool}{f:Nat->Value}{w:World}(hh:CH m a1 k1 a3 k3 a4 k4 a6 k6 a7 k7 B H w1)(h:CJ m a1 k1 a3 k3 a4 k4 a6 k6 a7 k7 B H w1 listed f w):wpOp Tryz.prog qK Q 8 (λa' w'=>∃f',a'=fr A (.pointer (some ⟨H,0,none⟩)) C f'/\CJ m a1 k1 a3 k3 a4 k4 a6 k6 a7 k7 B H w1 (listed.setIfInBounds 8 true) f' w') (fr A (.pointer (some ⟨H,0,none⟩)) C f) w:=by
 refine wpOp_step (o:=⟨some 18,.buildSlice 25 0 #[],25,_,_,none⟩) rfl ?_;intro K' hK';rw[if_pos (by rfl)];go_simp;exact hK' _ _ ⟨upd f 18 _,rfl,h.next (i:=8) (by decide) ((Below.refl _ _).alloc (Nat.le_refl _) _) ⟨_,rfl,h.size⟩⟩
theorem cstep_9{m:Md}{a1:Option Addr}{k1:Nat}{a3:Option Addr}{k3:Nat}{a4:Option Addr}{k4:Nat}{a6:Option Addr}{k6:Nat}{a7:Option Addr}{k7:Nat}{B H:Nat}{w1:World}{Q:Exit->Act->World->Prop}{A C:Value}{listed:Array Bool}{f:Nat->Value}{w:World}(hh:CH m a1 k1 a3 k3 a4 k4 a6 k6 a7 k7 B H w1)(h:CJ m a1 k1 a3 k3 a4 k4 a6 k6 a7 k7 B H w1 listed f w):wpOp Tryz.prog qK Q 9 (λa' w'=>∃f',a'=fr A (.pointer (some ⟨H,0,none⟩)) C f'/\CJ m a1 k1 a3 k3 a4 k4 a6 k6 a7 k7 B H w1 (listed.setIfInBounds 9 true) f' w') (fr A (.pointer (some ⟨H,0,none⟩)) C f) w:=by
 refine wpOp_step (o:=⟨some 19,.fieldAddr 32 (.tmp 1) 4,0,_,_,none⟩) rfl ?_;intro K' hK';rw[if_pos (by rfl)];go_simp;simp only[frt_1,frt_3,frt_10,frt_11,frt_12,frt_13,frt_14,frt_15,frt_16,frt_17,frt_18,frt_19,frt_20,frt_21,frt_22,frt_23,frt_24,frt_25,frt_26,frt_27,frt_28,frt_29,frt_30];go_simp;exact hK' _ _ ⟨upd f 19 _,rfl,h.next (i:=9) (by decide) (Below.refl _ _) rfl⟩
theorem cstep_10{m:Md}{a1:Option Addr}{k1:Nat}{a3:Option Addr}{k3:Nat}{a4:Option Addr}{k4:Nat}{a6:Option Addr}{k6:Nat}{a7:Option Addr}{k7:Nat}{B H:Nat}{w1:World}{Q:Exit->Act->World->Prop}{A C:Value}{listed:Array Bool}{f:Nat->Value}{w:World}(hh:CH m a1 k1 a3 k3 a4 k4 a6 k6 a7 k7 B H w1)(h:CJ m a1 k1 a3 k3 a4 k4 a6 k6 a7 k7 B H w1 listed f w)(l9:listed.getD 9 false=true):wpOp Tryz.prog qK Q 10 (λa' w'=>∃f',a'=fr A (.pointer (some ⟨H,0,none⟩)) C f'/\CJ m a1 k1 a3 k3 a4 k4 a6 k6 a7 k7 B H w1 (listed.setIfInBounds 10 true) f' w') (fr A (.pointer (some ⟨H,0,none⟩)) C f) w:=by
 refine wpOp_step (o:=⟨some 20,.load 25 (.tmp 19),25,_,_,none⟩) rfl ?_;intro K' hK';have e:f 19=.pointer (some ⟨H,4,none⟩):=h.r 9 (by decide) l9;have hc:=h.keeps hh _ _ hh.c4;rw[if_pos (by rfl)];go_simp;simp only[frt_1,frt_3,frt_10,frt_11,frt_12,frt_13,frt_14,frt_15,frt_16,frt_17,frt_18,frt_19,frt_20,frt_21,frt_22,frt_23,frt_24,frt_25,frt_26,frt_27,frt_28,frt_29,frt_30,e];go_simp;exact hK' _ _ ⟨upd f 20 _,rfl,h.next (i:=10) (by decide) (Below.refl _ _) rfl⟩
theorem cstep_11{m:Md}{a1:Option Addr}{k1:Nat}{a3:Option Addr}{k3:Nat}{a4:Option Addr}{k4:Nat}{a6:Option Addr}{k6:Nat}{a7:Option Addr}{k7:Nat}{B H:Nat}{w1:World}{Q:Exit->Act->World->Prop}{A C:Value}{listed:Array Bool}{f:Nat->Value}{w:World}(hh:CH m a1 k1 a3 k3 a4 k4 a6 k6 a7 k7 B H w1)(h:CJ m a1 k1 a3 k3 a4 k4 a6 k6 a7 k7 B H w1 listed f w)(l8:listed.getD 8 false=true)(l10:listed.getD 10 false=true):wpOp Tryz.prog qK Q 11 (λa' w'=>∃f',a'=fr A (.pointer (some ⟨H,0,none⟩)) C f'/\CJ m a1 k1 a3 k3 a4 k4 a6 k6 a7 k7 B H w1 (listed.setIfInBounds 11 true) f' w') (fr A (.pointer (some ⟨H,0,none⟩)) C f) w:=by
 refine wpOp_step (o:=⟨some 21,.call ⟨.builtin .append, #[.tmp 18,.tmp 20], #[25,25]⟩,25,_,_,none⟩) rfl ?_;intro K' hK';obtain⟨h0,e0,hbb⟩:=h.r 8 (by decide) l8;have e2:f 20=.slice a4 m.mems.length k4:=h.r 10 (by decide) l10;have hr:=hh.r4.keep λ_ _ _=>.keep (h.keeps hh);obtain⟨i,hi,he⟩:=Option.map_eq_some_iff.1 info76;obtain⟨hz,hsz,hby⟩:=Prod.mk.inj he |>.imp id Prod.mk.inj
 refine jO _ rfl _ _ _ rfl 47 i _ 3 24 Tryz.underlying25 hi hz hsz hby h0 _ m.mems.length (m.mems.flatMap limC) (by exact e0) (by exact e2) (rows_src Tryz.underlying25 (λ_=>rfl) limC_one lim_cells hr) hr.1 (by have:=hh.n4;omega) ?_;intro v w' hn hb;exact hK' _ _ ⟨upd f 21 _,rfl,h.next (i:=11) (by decide) hb (hn.le (Nat.le_min.2 ⟨hbb,h.size⟩))⟩
theorem cstep_12{m:Md}{a1:Option Addr}{k1:Nat}{a3:Option Addr}{k3:Nat}{a4:Option Addr}{k4:Nat}{a6:Option Addr}{k6:Nat}{a7:Option Addr}{k7:Nat}{B H:Nat}{w1:World}{Q:Exit->Act->World->Prop}{A C:Value}{listed:Array Bool}{f:Nat->Value}{w:World}(hh:CH m a1 k1 a3 k3 a4 k4 a6 k6 a7 k7 B H w1)(h:CJ m a1 k1 a3 k3 a4 k4 a6 k6 a7 k7 B H w1 listed f w):wpOp Tryz.prog qK Q 12 (λa' w'=>∃f',a'=fr A (.pointer (some ⟨H,0,none⟩)) C f'/\CJ m a1 k1 a3 k3 a4 k4 a6 k6 a7 k7 B H w1 (listed.setIfInBounds 12 true) f' w') (fr A (.pointer (some ⟨H,0,none⟩)) C f) w:=by
 refine wpOp_step (o:=⟨some 22,.buildSlice 27 0 #[],27,_,_,none⟩) rfl ?_;intro K' hK';rw[if_pos (by rfl)];go_simp;exact hK' _ _ ⟨upd f 22 _,rfl,h.next (i:=12) (by decide) ((Below.refl _ _).alloc (Nat.le_refl _) _) ⟨_,rfl,h.size⟩⟩
theorem cstep_13{m:Md}{a1:Option Addr}{k1:Nat}{a3:Option Addr}{k3:Nat}{a4:Option Addr}{k4:Nat}{a6:Option Addr}{k6:Nat}{a7:Option Addr}{k7:Nat}{B H:Nat}{w1:World}{Q:Exit->Act->World->Prop}{A C:Value}{listed:Array Bool}{f:Nat->Value}{w:World}(hh:CH m a1 k1 a3 k3 a4 k4 a6 k6 a7 k7 B H w1)(h:CJ m a1 k1 a3 k3 a4 k4 a6 k6 a7 k7 B H w1 listed f w):wpOp Tryz.prog qK Q 13 (λa' w'=>∃f',a'=fr A (.pointer (some ⟨H,0,none⟩)) C f'/\CJ m a1 k1 a3 k3 a4 k4 a6 k6 a7 k7 B H w1 (listed.setIfInBounds 13 true) f' w') (fr A (.pointer (some ⟨H,0,none⟩)) C f) w:=by
 refine wpOp_step (o:=⟨some 23,.fieldAddr 32 (.tmp 1) 6,0,_,_,none⟩) rfl ?_;intro K' hK';rw[if_pos (by rfl)];go_simp;simp only[frt_1,frt_3,frt_10,frt_11,frt_12,frt_13,frt_14,frt_15,frt_16,frt_17,frt_18,frt_19,frt_20,frt_21,frt_22,frt_23,frt_24,frt_25,frt_26,frt_27,frt_28,frt_29,frt_30];go_simp;exact hK' _ _ ⟨upd f 23 _,rfl,h.next (i:=13) (by decide) (Below.refl _ _) rfl⟩
theorem cstep_14{m:Md}{a1:Option Addr}{k1:Nat}{a3:Option Addr}{k3:Nat}{a4:Option Addr}{k4:Nat}{a6:Option Addr}{k6:Nat}{a7:Option Addr}{k7:Nat}{B H:Nat}{w1:World}{Q:Exit->Act->World->Prop}{A C:Value}{listed:Array Bool}{f:Nat->Value}{w:World}(hh:CH m a1 k1 a3 k3 a4 k4 a6 k6 a7 k7 B H w1)(h:CJ m a1 k1 a3 k3 a4 k4 a6 k6 a7 k7 B H w1 listed f w)(l13:listed.getD 13 false=true):wpOp Tryz.prog qK Q 14 (λa' w'=>∃f',a'=fr A (.pointer (some ⟨H,0,none⟩)) C f'/\CJ m a1 k1 a3 k3 a4 k4 a6 k6 a7 k7 B H w1 (listed.setIfInBounds 14 true) f' w') (fr A (.pointer (some ⟨H,0,none⟩)) C f) w:=by
 refine wpOp_step (o:=⟨some 24,.load 27 (.tmp 23),27,_,_,none⟩) rfl ?_;intro K' hK';have e:f 23=.pointer (some ⟨H,6,none⟩):=h.r 13 (by decide) l13;have hc:=h.keeps hh _ _ hh.c6;rw[if_pos (by rfl)];go_simp;simp only[frt_1,frt_3,frt_10,frt_11,frt_12,frt_13,frt_14,frt_15,frt_16,frt_17,frt_18,frt_19,frt_20,frt_21,frt_22,frt_23,frt_24,frt_25,frt_26,frt_27,frt_28,frt_29,frt_30,e];go_simp;exact hK' _ _ ⟨upd f 24 _,rfl,h.next (i:=14) (by decide) (Below.refl _ _) rfl⟩
theorem cstep_15{m:Md}{a1:Option Addr}{k1:Nat}{a3:Option Addr}{k3:Nat}{a4:Option Addr}{k4:Nat}{a6:Option Addr}{k6:Nat}{a7:Option Addr}{k7:Nat}{B H:Nat}{w1:World}{Q:Exit->Act->World->Prop}{A C:Value}{listed:Array Bool}{f:Nat->Value}{w:World}(hh:CH m a1 k1 a3 k3 a4 k4 a6 k6 a7 k7 B H w1)(h:CJ m a1 k1 a3 k3 a4 k4 a6 k6 a7 k7 B H w1 listed f w)(l12:listed.getD 12 false=true)(l14:listed.getD 14 false=true):wpOp Tryz.prog qK Q 15 (λa' w'=>∃f',a'=fr A (.pointer (some ⟨H,0,none⟩)) C f'/\CJ m a1 k1 a3 k3 a4 k4 a6 k6 a7 k7 B H w1 (listed.setIfInBounds 15 true) f' w') (fr A (.pointer (some ⟨H,0,none⟩)) C f) w:=by
 refine wpOp_step (o:=⟨some 25,.call ⟨.builtin .append, #[.tmp 22,.tmp 24], #[27,27]⟩,27,_,_,none⟩) rfl ?_;intro K' hK';obtain⟨h0,e0,hbb⟩:=h.r 12 (by decide) l12;have e2:f 24=.slice a6 m.exports.length k6:=h.r 14 (by decide) l14;have hr:=hh.r6.keep λ_ _ _=>.keep (h.keeps hh);obtain⟨i,hi,he⟩:=Option.map_eq_some_iff.1 info79;obtain⟨hz,hsz,hby⟩:=Prod.mk.inj he |>.imp id Prod.mk.inj
 refine step_app_own _ rfl _ _ _ rfl 63 i _ 3 32 Tryz.underlying27 hi hz hsz hby h0 _ m.exports.length (m.exports.flatMap jU) (by exact e0) (by exact e2) (rows_src Tryz.underlying27 (λ_=>rfl) expC_one exp_cells hr) hr.1 (by have:=hh.n6;omega) ?_;intro v w' hn hb ho;exact hK' _ _ ⟨upd f 25 _,rfl,h.next (i:=15) (by decide) hb ⟨hn.le (Nat.le_min.2 ⟨hbb,h.size⟩),ho rfl⟩⟩
theorem cstep_16{m:Md}{a1:Option Addr}{k1:Nat}{a3:Option Addr}{k3:Nat}{a4:Option Addr}{k4:Nat}{a6:Option Addr}{k6:Nat}{a7:Option Addr}{k7:Nat}{B H:Nat}{w1:World}{Q:Exit->Act->World->Prop}{A C:Value}{listed:Array Bool}{f:Nat->Value}{w:World}(hh:CH m a1 k1 a3 k3 a4 k4 a6 k6 a7 k7 B H w1)(h:CJ m a1 k1 a3 k3 a4 k4 a6 k6 a7 k7 B H w1 listed f w):wpOp Tryz.prog qK Q 16 (λa' w'=>∃f',a'=fr A (.pointer (some ⟨H,0,none⟩)) C f'/\CJ m a1 k1 a3 k3 a4 k4 a6 k6 a7 k7 B H w1 (listed.setIfInBounds 16 true) f' w') (fr A (.pointer (some ⟨H,0,none⟩)) C f) w:=by
 refine wpOp_step (o:=⟨some 26,.buildSlice 28 0 #[],28,_,_,none⟩) rfl ?_;intro K' hK';rw[if_pos (by rfl)];go_simp;exact hK' _ _ ⟨upd f 26 _,rfl,h.next (i:=16) (by decide) ((Below.refl _ _).alloc (Nat.le_refl _) _) ⟨_,rfl,h.size⟩⟩
theorem cstep_17{m:Md}{a1:Option Addr}{k1:Nat}{a3:Option Addr}{k3:Nat}{a4:Option Addr}{k4:Nat}{a6:Option Addr}{k6:Nat}{a7:Option Addr}{k7:Nat}{B H:Nat}{w1:World}{Q:Exit->Act->World->Prop}{A C:Value}{listed:Array Bool}{f:Nat->Value}{w:World}(hh:CH m a1 k1 a3 k3 a4 k4 a6 k6 a7 k7 B H w1)(h:CJ m a1 k1 a3 k3 a4 k4 a6 k6 a7 k7 B H w1 listed f w):wpOp Tryz.prog qK Q 17 (λa' w'=>∃f',a'=fr A (.pointer (some ⟨H,0,none⟩)) C f'/\CJ m a1 k1 a3 k3 a4 k4 a6 k6 a7 k7 B H w1 (listed.setIfInBounds 17 true) f' w') (fr A (.pointer (some ⟨H,0,none⟩)) C f) w:=by
 refine wpOp_step (o:=⟨some 27,.fieldAddr 32 (.tmp 1) 7,0,_,_,none⟩) rfl ?_;intro K' hK';rw[if_pos (by rfl)];go_simp;simp only[frt_1,frt_3,frt_10,frt_11,frt_12,frt_13,frt_14,frt_15,frt_16,frt_17,frt_18,frt_19,frt_20,frt_21,frt_22,frt_23,frt_24,frt_25,frt_26,frt_27,frt_28,frt_29,frt_30];go_simp;exact hK' _ _ ⟨upd f 27 _,rfl,h.next (i:=17) (by decide) (Below.refl _ _) rfl⟩
theorem cstep_18{m:Md}{a1:Option Addr}{k1:Nat}{a3:Option Addr}{k3:Nat}{a4:Option Addr}{k4:Nat}{a6:Option Addr}{k6:Nat}{a7:Option Addr}{k7:Nat}{B H:Nat}{w1:World}{Q:Exit->Act->World->Prop}{A C:Value}{listed:Array Bool}{f:Nat->Value}{w:World}(hh:CH m a1 k1 a3 k3 a4 k4 a6 k6 a7 k7 B H w1)(h:CJ m a1 k1 a3 k3 a4 k4 a6 k6 a7 k7 B H w1 listed f w)(l17:listed.getD 17 false=true):wpOp Tryz.prog qK Q 18 (λa' w'=>∃f',a'=fr A (.pointer (some ⟨H,0,none⟩)) C f'/\CJ m a1 k1 a3 k3 a4 k4 a6 k6 a7 k7 B H w1 (listed.setIfInBounds 18 true) f' w') (fr A (.pointer (some ⟨H,0,none⟩)) C f) w:=by
 refine wpOp_step (o:=⟨some 28,.load 28 (.tmp 27),28,_,_,none⟩) rfl ?_;intro K' hK';have e:f 27=.pointer (some ⟨H,7,none⟩):=h.r 17 (by decide) l17;have hc:=h.keeps hh _ _ hh.c7;rw[if_pos (by rfl)];go_simp;simp only[frt_1,frt_3,frt_10,frt_11,frt_12,frt_13,frt_14,frt_15,frt_16,frt_17,frt_18,frt_19,frt_20,frt_21,frt_22,frt_23,frt_24,frt_25,frt_26,frt_27,frt_28,frt_29,frt_30,e];go_simp;exact hK' _ _ ⟨upd f 28 _,rfl,h.next (i:=18) (by decide) (Below.refl _ _) rfl⟩
theorem cstep_19{m:Md}{a1:Option Addr}{k1:Nat}{a3:Option Addr}{k3:Nat}{a4:Option Addr}{k4:Nat}{a6:Option Addr}{k6:Nat}{a7:Option Addr}{k7:Nat}{B H:Nat}{w1:World}{Q:Exit->Act->World->Prop}{A C:Value}{listed:Array Bool}{f:Nat->Value}{w:World}(hh:CH m a1 k1 a3 k3 a4 k4 a6 k6 a7 k7 B H w1)(h:CJ m a1 k1 a3 k3 a4 k4 a6 k6 a7 k7 B H w1 listed f w)(l16:listed.getD 16 false=true)(l18:listed.getD 18 false=true):wpOp Tryz.prog qK Q 19 (λa' w'=>∃f',a'=fr A (.pointer (some ⟨H,0,none⟩)) C f'/\CJ m a1 k1 a3 k3 a4 k4 a6 k6 a7 k7 B H w1 (listed.setIfInBounds 19 true) f' w') (fr A (.pointer (some ⟨H,0,none⟩)) C f) w:=by
 refine wpOp_step (o:=⟨some 29,.call ⟨.builtin .append, #[.tmp 26,.tmp 28], #[28,28]⟩,28,_,_,none⟩) rfl ?_;intro K' hK';obtain⟨h0,e0,hbb⟩:=h.r 16 (by decide) l16;have e2:f 28=.slice a7 m.start.length k7:=h.r 18 (by decide) l18;have hr:=hh.r7.keep (h.keeps hh);obtain⟨i,hi,he⟩:=Option.map_eq_some_iff.1 info3;obtain⟨hz,hsz,hby⟩:=Prod.mk.inj he |>.imp id Prod.mk.inj
 refine jO _ rfl _ _ _ rfl 3 i _ 1 8 Tryz.underlying28 hi hz hsz hby h0 _ m.start.length (qU m.start) (by exact e0) (by exact e2) (src_ints hr) hr.1 (by have:=hh.n7;omega) ?_;intro v w' hn hb;exact hK' _ _ ⟨upd f 29 _,rfl,h.next (i:=19) (by decide) hb (hn.le (Nat.le_min.2 ⟨hbb,h.size⟩))⟩
theorem cstep_20{m:Md}{a1:Option Addr}{k1:Nat}{a3:Option Addr}{k3:Nat}{a4:Option Addr}{k4:Nat}{a6:Option Addr}{k6:Nat}{a7:Option Addr}{k7:Nat}{B H:Nat}{w1:World}{Q:Exit->Act->World->Prop}{A C:Value}{listed:Array Bool}{f:Nat->Value}{w:World}(hh:CH m a1 k1 a3 k3 a4 k4 a6 k6 a7 k7 B H w1)(h:CJ m a1 k1 a3 k3 a4 k4 a6 k6 a7 k7 B H w1 listed f w)(l3:listed.getD 3 false=true)(l7:listed.getD 7 false=true)(l11:listed.getD 11 false=true)(l15:listed.getD 15 false=true)(l19:listed.getD 19 false=true):wpOp Tryz.prog qK Q 20 (λa' w'=>∃f',a'=fr A (.pointer (some ⟨H,0,none⟩)) C f'/\CJ m a1 k1 a3 k3 a4 k4 a6 k6 a7 k7 B H w1 (listed.setIfInBounds 20 true) f' w') (fr A (.pointer (some ⟨H,0,none⟩)) C f) w:=by
 refine wpOp_step (o:=⟨some 30,.build 32 #[(1,.tmp 13),(3,.tmp 17),(4,.tmp 21),(6,.tmp 25),(7,.tmp 29)],32,_,_,none⟩) rfl ?_;intro K' hK';obtain⟨b1,q1,e1,z1⟩:NewRow B w m.imports.length (m.imports.flatMap impC) (f 13):=h.r 3 (by decide) l3;obtain⟨b3,q3,e3,z3⟩:NewRow B w m.tables.length (m.tables.flatMap limC) (f 17):=h.r 7 (by decide) l7;obtain⟨b4,q4,e4,z4⟩:NewRow B w m.mems.length (m.mems.flatMap limC) (f 21):=h.r 11 (by decide) l11;obtain⟨⟨b6,q6,e6,z6⟩,o6⟩:NewRow B w m.exports.length (m.exports.flatMap jU) (f 25)/\(0<m.exports.length->w.ownsRow 0 63 3 (f 25) m.exports.length (m.exports.flatMap jU)):=h.r 15 (by decide) l15;rw[e6]at o6;obtain⟨b7,q7,e7,z7⟩:NewRow B w m.start.length (qU m.start) (f 29):=h.r 19 (by decide) l19;rw[if_pos (by rfl)];go_simp;simp only[frt_1,frt_3,frt_10,frt_11,frt_12,frt_13,frt_14,frt_15,frt_16,frt_17,frt_18,frt_19,frt_20,frt_21,frt_22,frt_23,frt_24,frt_25,frt_26,frt_27,frt_28,frt_29,frt_30,e1,e3,e4,e6,e7];go_simp;exact hK' _ _ ⟨upd f 30 _,rfl,h.next (i:=20) (by decide) (Below.refl _ _) ⟨_,_,_,_,_,rfl,⟨_,_,rfl,z1⟩,⟨_,_,rfl,z3⟩,⟨_,_,rfl,z4⟩,⟨_,_,rfl,z6⟩,⟨_,_,rfl,z7⟩,o6⟩⟩
theorem cstep_21{m:Md}{a1:Option Addr}{k1:Nat}{a3:Option Addr}{k3:Nat}{a4:Option Addr}{k4:Nat}{a6:Option Addr}{k6:Nat}{a7:Option Addr}{k7:Nat}{B H:Nat}{w1:World}{Q:Exit->Act->World->Prop}{A C:Value}{listed:Array Bool}{f:Nat->Value}{w:World}(hh:CH m a1 k1 a3 k3 a4 k4 a6 k6 a7 k7 B H w1)(h:CJ m a1 k1 a3 k3 a4 k4 a6 k6 a7 k7 B H w1 listed f w):wpOp Tryz.prog qK Q 21 (λa' w'=>∃f',a'=fr A (.pointer (some ⟨H,0,none⟩)) C f'/\CJ m a1 k1 a3 k3 a4 k4 a6 k6 a7 k7 B H w1 (listed.setIfInBounds 21 true) f' w') (fr A (.pointer (some ⟨H,0,none⟩)) C f) w:=by
 refine wpOp_step (o:=⟨some 3,.alloc 32,0,_,_,none⟩) rfl ?_;intro K' hK';rw[if_pos (by rfl)];go_simp;refine hK' _ _ ⟨upd f 3 _,rfl,h.next (i:=21) (by decide) ((Below.refl _ _).alloc (Nat.le_refl _) _) ⟨w.heap.size,rfl,h.size,?_,λj hj=> ?_,λj=>World.frozen?_alloc_at _ _ _ _ rfl⟩⟩
 . show w.heap.size<(w.heap.push _).size
   rw[Array.size_push];exact Nat.lt_succ_self _
 . refine(World.cell?_alloc_at _ _ _ j rfl).trans ?_
   rcases j with _ |_ |_ |_ |_ |_ |_ |_ |_ |_ |j
   all_goals first |rfl |omega
def setAll (M:Nat):Nat->List Value->World->World
 |_,[],w=>w
 |o,v::r,w=>setAll M (o+1) r (w.setCell ⟨M,o,none⟩ v)
structure SetAll (M o:Nat) (vs:List Value) (w w':World):Prop where
 cells:∀j v,vs[j]? =some v->w'.cell? ⟨M,o+j,none⟩=some v
 lo:∀j v,j<o->w.cell? ⟨M,j,none⟩=some v->w'.cell? ⟨M,j,none⟩=some v
 far:∀p v,p.block≠M->w.cell? p=some v->w'.cell? p=some v
 size:w'.heap.size=w.heap.size
 frozen:∀p,w'.frozen? p=w.frozen? p
 below:∀B a,B<=M->Below B a w->Below B a w'
 block:∀b,b≠M->w'.heap[b]? =w.heap[b]?
theorem set_all (M:Nat):∀(vs:List Value) (o:Nat) (w:World),(∀j,j<vs.length->∃x,w.cell? ⟨M,o+j,none⟩=some x)->SetAll M o vs w (setAll M o vs w)
 | [],o,w,_=>⟨λj v h=>by simp at h,λ_ _ _ h=>h,λ_ _ _ h=>h,rfl,λ_=>rfl,λ_ _ _ h=>h,λ_ _=>rfl⟩
 |v::r,o,w,h=>by
   obtain⟨x,hx⟩:=h 0 (by simp)
   have ih:=set_all M r (o+1) (w.setCell ⟨M,o,none⟩ v) (λj hj=>by
    obtain⟨y,hy⟩:=h (j+1) (by simpa using hj);exact⟨y,zE (by rw[<-hy];congr 2;omega) (.inr (by show o≠o+1+j;omega))⟩)
   refine⟨λj u hu=> ?_,λj u hj hu=>ih.lo j u (by omega) (zE hu (.inr (by show o≠j;omega))),λp u hp hu=>ih.far p u hp (by rw[World.cell?_setCell_far w ⟨M,o,none⟩ p _ (λe=>hp e.symm)];exact hu),by rw[show setAll M o (v::r) w=setAll M (o+1) r (w.setCell ⟨M,o,none⟩ v) from rfl,ih.size];simp[World.setCell],λp=>(ih.frozen p).trans (World.frozen?_setCell ..),λB a hB hb=>ih.below B a hB (hb.setCell (p:=⟨M,o,none⟩) hB _),λb hb=>(ih.block b hb).trans (Below.heap_setCell w ⟨M,o,none⟩ v b hb)⟩;cases j with
   |zero=>simp at hu;subst hu;exact ih.lo o _ (by omega) (xK hx)
   |succ j=>have:=ih.cells j u (by simpa using hu);rw[show o+1+j=o+(j+1) by omega]at this;exact this
def RowB (R:Nat->Prop) (w:World) (a:Option Addr) (news:List Value):Prop:=news=[]\/∃g,a=some ⟨g,0,none⟩/\R g/\∀j u,news[j]? =some u->w.cell? ⟨g,j,none⟩=some u
theorem RowB.keep{R S:Nat->Prop}{w w':World}{a:Option Addr}{news:List Value}(f:KeepsR R S w w')(h:RowB R w a news):RowB S w' a news:=by
 rcases h with h |⟨g,e,hg,h⟩
 . exact .inl h
 . cases news with
   |nil=>exact .inl rfl
   |cons x r=>exact .inr ⟨g,e,f.2 g hg (World.block_lt_of_cell? w _ (h 0 x rfl)),λj u hj=>f.c _ _ hg (h j u hj)⟩
theorem newrow_b{B M:Nat}{w:World}{n:Nat}{news:List Value}{a:Option Addr}(hn:n=0->news=[])(hne:∀u,news[0]? =some u->u≠ .slice none 0 0)(hM:w.cell? ⟨M,0,none⟩=some (.slice none 0 0))(h:n=0\/∃g,a=some ⟨g,0,none⟩/\B<=g/\∀j u,news[j]? =some u->w.cell? ⟨g,j,none⟩=some u):RowB (λb=>B<=b/\b≠M) w a news:=by
 rcases h with h |⟨g,e,hg,hc⟩
 . exact .inl (hn h)
 . cases news with
   |nil=>exact .inl rfl
   |cons x r=>refine .inr ⟨g,e,⟨hg,λe=> ?_⟩,hc⟩;subst e;have:=hc 0 x rfl;rw[hM]at this;exact hne x rfl (Option.some.inj this).symm
theorem flat_ne{α:Type}{enc:α->List Value}(henc:∀x,∃y r,enc x=y::r/\y≠ .slice none 0 0)(xs:List α):∀u,(xs.flatMap enc)[0]? =some u->u≠ .slice none 0 0:=by
 intro u hu;cases xs with
 |nil=>simp at hu
 |cons x r=>obtain⟨y,t,e,hy⟩:=henc x;rw[List.flatMap_cons,e]at hu;simp at hu;exact hu▸hy
structure CE (m:Md) (B M:Nat) (w1 w:World) (b1:Option Addr) (q1:Nat) (b3:Option Addr) (q3:Nat) (b4:Option Addr) (q4:Nat) (b6:Option Addr) (q6:Nat) (b7:Option Addr) (q7:Nat):Prop where
 below:Below B w1 w
 lo:B<=M
 hi:M<w.heap.size
 frozen:∀j,w.frozen? ⟨M,j,none⟩=false
 cells:∀j v,(#[Value.slice none 0 0,.slice b1 m.imports.length q1,.slice none 0 0,.slice b3 m.tables.length q3,.slice b4 m.mems.length q4,.slice none 0 0,.slice b6 m.exports.length q6,.slice b7 m.start.length q7,.slice none 0 0,.slice none 0 0]:Array Value)[j]? =some v->w.cell? ⟨M,j,none⟩=some v
 r1:RowB (λb=>B<=b/\b≠M) w b1 (m.imports.flatMap impC)
 r3:RowB (λb=>B<=b/\b≠M) w b3 (m.tables.flatMap limC)
 r4:RowB (λb=>B<=b/\b≠M) w b4 (m.mems.flatMap limC)
 r6:RowB (λb=>B<=b/\b≠M) w b6 (m.exports.flatMap jU)
 r7:RowB (λb=>B<=b/\b≠M) w b7 (qU m.start)
 o6:0<m.exports.length->w.ownsRow 0 63 3 (.slice b6 m.exports.length q6) m.exports.length (m.exports.flatMap jU)
theorem cstep_22{m:Md}{a1:Option Addr}{k1:Nat}{a3:Option Addr}{k3:Nat}{a4:Option Addr}{k4:Nat}{a6:Option Addr}{k6:Nat}{a7:Option Addr}{k7:Nat}{B H:Nat}{w1:World}{Q:Exit->Act->World->Prop}{A C:Value}{listed:Array Bool}{f:Nat->Value}{w:World}(hh:CH m a1 k1 a3 k3 a4 k4 a6 k6 a7 k7 B H w1)(h:CJ m a1 k1 a3 k3 a4 k4 a6 k6 a7 k7 B H w1 listed f w)(l20:listed.getD 20 false=true)(l21:listed.getD 21 false=true):wpOp Tryz.prog qK Q 22 (λa' w'=>∃f' M b1 q1 b3 q3 b4 q4 b6 q6 b7 q7,a'=fr A (.pointer (some ⟨H,0,none⟩)) C f'/\f' 3=.pointer (some ⟨M,0,none⟩)/\CE m B M w1 w' b1 q1 b3 q3 b4 q4 b6 q6 b7 q7) (fr A (.pointer (some ⟨H,0,none⟩)) C f) w:=by
 refine wpOp_step (o:=⟨none,.store 32 (.tmp 3) (.tmp 30),0,_,_,none⟩) rfl ?_;intro K' hK';obtain⟨x1,x3,x4,x6,x7,e30,⟨b1,q1,rfl,z1⟩,⟨b3,q3,rfl,z3⟩,⟨b4,q4,rfl,z4⟩,⟨b6,q6,rfl,z6⟩,⟨b7,q7,rfl,z7⟩,o6⟩:=h.r 20 (by decide) l20;obtain⟨M,e3,hBM,hM,hc,hfr⟩:=h.r 21 (by decide) l21;have e3:f 3=_:=e3;have e30:f 30=_:=e30;have g0:=hc 0 (by decide);have g1:=hc 1 (by decide);have g2:=hc 2 (by decide);have g3:=hc 3 (by decide);have g4:=hc 4 (by decide)
 have g5:=hc 5 (by decide);have g6:=hc 6 (by decide);have g7:=hc 7 (by decide);have g8:=hc 8 (by decide);have g9:=hc 9 (by decide);have p1:=newrow_b (λe=>by rw[List.eq_nil_of_length_eq_zero e];rfl) (flat_ne (λx=>⟨_,_,rfl,by simp⟩) _) g0 z1;have p3:=newrow_b (λe=>by rw[List.eq_nil_of_length_eq_zero e];rfl) (flat_ne (λx=>⟨_,_,rfl,by simp⟩) _) g0 z3;have p4:=newrow_b (λe=>by rw[List.eq_nil_of_length_eq_zero e];rfl) (flat_ne (λx=>⟨_,_,rfl,by simp⟩) _) g0 z4;have p6:=newrow_b (λe=>by rw[List.eq_nil_of_length_eq_zero e];rfl) (flat_ne (λx=>⟨_,_,rfl,by simp⟩) _) g0 z6;have p7:=newrow_b (λe=>by rw[List.eq_nil_of_length_eq_zero e];rfl) (λu hu=>by unfold qU at hu;rw[List.getElem?_map]at hu;obtain⟨x,_,rfl⟩:=Option.map_eq_some_iff.1 hu;simp) g0 z7;have f0:=hfr 0;have f1:=hfr 1;have f2:=hfr 2;have f3:=hfr 3;have f4:=hfr 4;have f5:=hfr 5;have f6:=hfr 6;have f7:=hfr 7;have f8:=hfr 8;have f9:=hfr 9;rw[if_pos (by rfl)];go_simp;simp only[frt_1,frt_3,frt_10,frt_11,frt_12,frt_13,frt_14,frt_15,frt_16,frt_17,frt_18,frt_19,frt_20,frt_21,frt_22,frt_23,frt_24,frt_25,frt_26,frt_27,frt_28,frt_29,frt_30,e3,e30];go_simp;have hs:=set_all M [.slice none 0 0,.slice b1 m.imports.length q1,.slice none 0 0,.slice b3 m.tables.length q3,.slice b4 m.mems.length q4,.slice none 0 0,.slice b6 m.exports.length q6,.slice b7 m.start.length q7,.slice none 0 0,.slice none 0 0] 0 w (λj hj=>⟨_,by rw[Nat.zero_add];exact hc j hj⟩)
 have kr:KeepsR (λb=>B<=b/\b≠M) (λb=>B<=b/\b≠M) w _:=⟨λb hb _=>hs.block b hb.2,λb hb _=>hb⟩
 refine hK' _ _ ⟨f,M,b1,q1,b3,q3,b4,q4,b6,q6,b7,q7,rfl,e3,hs.below _ _ hBM h.below,hBM,Nat.lt_of_lt_of_eq hM hs.size.symm,λj=>(hs.frozen _).trans (hfr j),λj v hv=>by have:=hs.cells j v (by simpa using hv);rw[Nat.zero_add]at this;exact this,p1.keep kr,p3.keep kr,p4.keep kr,p6.keep kr,p7.keep kr,λhp=> ?_⟩;have o:=o6 hp;refine⟨o.1,o.2.imp id λ⟨g,cap,cur,e,hb,hg,r⟩=>⟨g,cap,cur,e,hb,(hs.block g λeM=> ?_).trans hg,r⟩⟩;cases e
 rcases p6 with h6 |⟨g6,e6,hg6,_⟩
 . have h6:m.exports.flatMap jU=[]:=h6;have:=o.1;rw[h6]at this;simp only[List.length_nil]at this;omega
 . cases e6;exact hg6.2 eM
theorem copy_lower:∀i,i<23->((qK[i]?).map λo=>o.after.all λe=>decide (e.on<i))=some true:=by
 have h:∀i:Fin 23,((qK[i.val]?).map λo=>o.after.all λe=>decide (e.on<i.val))=some true:=(by decide+kernel)
 exactλi hi=>h ⟨i,hi⟩
theorem copy_all{listed:Array Bool}(hr:Region.ready .any qK listed=[])(hs:listed.size=23):∀i,i<23->listed.getD i true=true:=by
 intro i
 induction i using Nat.strongRecOn with
 |ind i ih=>
   intro hi;cases hl:listed.getD i true with
   |true=>rfl
   |false=>
     exfalso;have hlow:=copy_lower i hi;obtain⟨o,ho,hall⟩:=Option.map_eq_some_iff.1 hlow
     have hm:i∈Region.ready .any qK listed:=mem_ready.2 ⟨hl,o,ho,λe he _=>by
      have hlt:e.on<i:=(by simpa using Array.all_eq_true_iff_forall_mem.1 hall e he)
      have:=ih e.on hlt (by omega);rw[Array.getD_eq_getD_getElem?]at this ⊢;rw[Array.getElem?_eq_getElem (by omega)]at this ⊢;exact this⟩
     rw[hr]at hm;cases hm
def CFin (m:Md) (B:Nat) (w1:World) (A P C:Value) (a:Act) (w:World):Prop:=∃f' M b1 q1 b3 q3 b4 q4 b6 q6 b7 q7,a=fr A P C f'/\f' 3=.pointer (some ⟨M,0,none⟩)/\CE m B M w1 w b1 q1 b3 q3 b4 q4 b6 q6 b7 q7
def CJJ (m:Md) (a1:Option Addr) (k1:Nat) (a3:Option Addr) (k3:Nat) (a4:Option Addr) (k4:Nat) (a6:Option Addr) (k6:Nat) (a7:Option Addr) (k7:Nat) (B H:Nat) (w1:World) (A C:Value) (listed:Array Bool) (a:Act) (w:World):Prop:=
 listed.size=23/\((listed.getD 22 false=false/\∃f,a=fr A (.pointer (some ⟨H,0,none⟩)) C f/\CJ m a1 k1 a3 k3 a4 k4 a6 k6 a7 k7 B H w1 listed f w)\/((∀i,i<23->listed.getD i false=true)/\CFin m B w1 A (.pointer (some ⟨H,0,none⟩)) C a w))
theorem CJJ.set{m:Md}{a1:Option Addr}{k1:Nat}{a3:Option Addr}{k3:Nat}{a4:Option Addr}{k4:Nat}{a6:Option Addr}{k6:Nat}{a7:Option Addr}{k7:Nat}{B H:Nat}{w1:World}{A C:Value}{listed:Array Bool}{a:Act}{w:World}(i:Nat)(hs:listed.size=23)(hi:i≠22)(h22:listed.getD 22 false=false)(h:∃f,a=fr A (.pointer (some ⟨H,0,none⟩)) C f/\CJ m a1 k1 a3 k3 a4 k4 a6 k6 a7 k7 B H w1 (listed.setIfInBounds i true) f w):CJJ m a1 k1 a3 k3 a4 k4 a6 k6 a7 k7 B H w1 A C (listed.setIfInBounds i true) a w:=
 ⟨by rw[Array.size_setIfInBounds];exact hs,.inl ⟨(getD_set_ne false hi).trans h22,h⟩⟩
theorem copy_step{m:Md}{a1:Option Addr}{k1:Nat}{a3:Option Addr}{k3:Nat}{a4:Option Addr}{k4:Nat}{a6:Option Addr}{k6:Nat}{a7:Option Addr}{k7:Nat}{B H:Nat}{w1:World}{Q:Exit->Act->World->Prop}{A C:Value}(hh:CH m a1 k1 a3 k3 a4 k4 a6 k6 a7 k7 B H w1)(listed:Array Bool)(a:Act)(w:World)(hJ:CJJ m a1 k1 a3 k3 a4 k4 a6 k6 a7 k7 B H w1 A C listed a w)(i:Nat)(o:Oper)(ho:qK[i]? =some o)(hl:listed.getD i true=false)(hall:∀e∈o.after,Region.binds .any e=true->listed.getD e.on false=true):wpOp Tryz.prog qK Q i (λa' w'=>CJJ m a1 k1 a3 k3 a4 k4 a6 k6 a7 k7 B H w1 A C (listed.setIfInBounds i true) a' w') a w:=by
 obtain⟨hs,⟨h22,f,rfl,hj⟩ |⟨hall',_⟩⟩:=hJ
 rotate_left
 . exfalso
   have hi:i<23:=by
    rcases Nat.lt_or_ge i 23 with h |h
    . exact h
    . rw[Array.getElem?_eq_none h]at ho;cases ho
   have:=hall' i hi;rw[Array.getD_eq_getD_getElem?]at this hl;rw[Array.getElem?_eq_getElem (by omega)]at this hl
   simp_all
 match i,ho with
 |0,ho=>obtain rfl:o=⟨some 10,.buildSlice 23 0 #[],23,"ref.go:373", #[],none⟩:=Option.some.inj (ho.symm.trans rfl);exact wpOp_mono (λa' w' h=>CJJ.set 0 hs (by decide) h22 h) (cstep_0 hh hj)
 |1,ho=>obtain rfl:o=⟨some 11,.fieldAddr 32 (.tmp 1) 1,0,"ref.go:373", #[],none⟩:=Option.some.inj (ho.symm.trans rfl);exact wpOp_mono (λa' w' h=>CJJ.set 1 hs (by decide) h22 h) (cstep_1 hh hj)
 |2,ho=>obtain rfl:o=⟨some 12,.load 23 (.tmp 11),23,"ref.go:373", #[⟨1,.data⟩],none⟩:=Option.some.inj (ho.symm.trans rfl);have l1:listed.getD 1 false=true:=hall ⟨1,.data⟩ (by simp) rfl;exact wpOp_mono (λa' w' h=>CJJ.set 2 hs (by decide) h22 h) (cstep_2 hh hj l1)
 |3,ho=>obtain rfl:o=⟨some 13,.call ⟨.builtin .append, #[.tmp 10,.tmp 12], #[23,23]⟩,23,"ref.go:373", #[⟨0,.data⟩,⟨2,.data⟩],none⟩:=Option.some.inj (ho.symm.trans rfl);have l0:listed.getD 0 false=true:=hall ⟨0,.data⟩ (by simp) rfl;have l2:listed.getD 2 false=true:=hall ⟨2,.data⟩ (by simp) rfl;exact wpOp_mono (λa' w' h=>CJJ.set 3 hs (by decide) h22 h) (cstep_3 hh hj l0 l2)
 |4,ho=>obtain rfl:o=⟨some 14,.buildSlice 25 0 #[],25,"ref.go:373", #[],none⟩:=Option.some.inj (ho.symm.trans rfl);exact wpOp_mono (λa' w' h=>CJJ.set 4 hs (by decide) h22 h) (cstep_4 hh hj)
 |5,ho=>obtain rfl:o=⟨some 15,.fieldAddr 32 (.tmp 1) 3,0,"ref.go:373", #[],none⟩:=Option.some.inj (ho.symm.trans rfl);exact wpOp_mono (λa' w' h=>CJJ.set 5 hs (by decide) h22 h) (cstep_5 hh hj)
 |6,ho=>obtain rfl:o=⟨some 16,.load 25 (.tmp 15),25,"ref.go:373", #[⟨5,.data⟩],none⟩:=Option.some.inj (ho.symm.trans rfl);have l5:listed.getD 5 false=true:=hall ⟨5,.data⟩ (by simp) rfl;exact wpOp_mono (λa' w' h=>CJJ.set 6 hs (by decide) h22 h) (cstep_6 hh hj l5)
 |7,ho=>obtain rfl:o=⟨some 17,.call ⟨.builtin .append, #[.tmp 14,.tmp 16], #[25,25]⟩,25,"ref.go:373", #[⟨4,.data⟩,⟨6,.data⟩,⟨3,.chain⟩],none⟩:=Option.some.inj (ho.symm.trans rfl);have l4:listed.getD 4 false=true:=hall ⟨4,.data⟩ (by simp) rfl;have l6:listed.getD 6 false=true:=hall ⟨6,.data⟩ (by simp) rfl;exact wpOp_mono (λa' w' h=>CJJ.set 7 hs (by decide) h22 h) (cstep_7 hh hj l4 l6)
 |8,ho=>obtain rfl:o=⟨some 18,.buildSlice 25 0 #[],25,"ref.go:373", #[],none⟩:=Option.some.inj (ho.symm.trans rfl);exact wpOp_mono (λa' w' h=>CJJ.set 8 hs (by decide) h22 h) (cstep_8 hh hj)
 |9,ho=>obtain rfl:o=⟨some 19,.fieldAddr 32 (.tmp 1) 4,0,"ref.go:373", #[],none⟩:=Option.some.inj (ho.symm.trans rfl);exact wpOp_mono (λa' w' h=>CJJ.set 9 hs (by decide) h22 h) (cstep_9 hh hj)
 |10,ho=>obtain rfl:o=⟨some 20,.load 25 (.tmp 19),25,"ref.go:373", #[⟨9,.data⟩],none⟩:=Option.some.inj (ho.symm.trans rfl);have l9:listed.getD 9 false=true:=hall ⟨9,.data⟩ (by simp) rfl;exact wpOp_mono (λa' w' h=>CJJ.set 10 hs (by decide) h22 h) (cstep_10 hh hj l9)
 |11,ho=>obtain rfl:o=⟨some 21,.call ⟨.builtin .append, #[.tmp 18,.tmp 20], #[25,25]⟩,25,"ref.go:373", #[⟨8,.data⟩,⟨10,.data⟩,⟨7,.chain⟩],none⟩:=Option.some.inj (ho.symm.trans rfl);have l8:listed.getD 8 false=true:=hall ⟨8,.data⟩ (by simp) rfl;have l10:listed.getD 10 false=true:=hall ⟨10,.data⟩ (by simp) rfl;exact wpOp_mono (λa' w' h=>CJJ.set 11 hs (by decide) h22 h) (cstep_11 hh hj l8 l10)
 |12,ho=>obtain rfl:o=⟨some 22,.buildSlice 27 0 #[],27,"ref.go:373", #[],none⟩:=Option.some.inj (ho.symm.trans rfl);exact wpOp_mono (λa' w' h=>CJJ.set 12 hs (by decide) h22 h) (cstep_12 hh hj)
 |13,ho=>obtain rfl:o=⟨some 23,.fieldAddr 32 (.tmp 1) 6,0,"ref.go:373", #[],none⟩:=Option.some.inj (ho.symm.trans rfl);exact wpOp_mono (λa' w' h=>CJJ.set 13 hs (by decide) h22 h) (cstep_13 hh hj)
 |14,ho=>obtain rfl:o=⟨some 24,.load 27 (.tmp 23),27,"ref.go:373", #[⟨13,.data⟩],none⟩:=Option.some.inj (ho.symm.trans rfl);have l13:listed.getD 13 false=true:=hall ⟨13,.data⟩ (by simp) rfl;exact wpOp_mono (λa' w' h=>CJJ.set 14 hs (by decide) h22 h) (cstep_14 hh hj l13)
 |15,ho=>obtain rfl:o=⟨some 25,.call ⟨.builtin .append, #[.tmp 22,.tmp 24], #[27,27]⟩,27,"ref.go:373", #[⟨12,.data⟩,⟨14,.data⟩,⟨11,.chain⟩],none⟩:=Option.some.inj (ho.symm.trans rfl);have l12:listed.getD 12 false=true:=hall ⟨12,.data⟩ (by simp) rfl;have l14:listed.getD 14 false=true:=hall ⟨14,.data⟩ (by simp) rfl;exact wpOp_mono (λa' w' h=>CJJ.set 15 hs (by decide) h22 h) (cstep_15 hh hj l12 l14)
 |16,ho=>obtain rfl:o=⟨some 26,.buildSlice 28 0 #[],28,"ref.go:373", #[],none⟩:=Option.some.inj (ho.symm.trans rfl);exact wpOp_mono (λa' w' h=>CJJ.set 16 hs (by decide) h22 h) (cstep_16 hh hj)
 |17,ho=>obtain rfl:o=⟨some 27,.fieldAddr 32 (.tmp 1) 7,0,"ref.go:373", #[],none⟩:=Option.some.inj (ho.symm.trans rfl);exact wpOp_mono (λa' w' h=>CJJ.set 17 hs (by decide) h22 h) (cstep_17 hh hj)
 |18,ho=>obtain rfl:o=⟨some 28,.load 28 (.tmp 27),28,"ref.go:373", #[⟨17,.data⟩],none⟩:=Option.some.inj (ho.symm.trans rfl);have l17:listed.getD 17 false=true:=hall ⟨17,.data⟩ (by simp) rfl;exact wpOp_mono (λa' w' h=>CJJ.set 18 hs (by decide) h22 h) (cstep_18 hh hj l17)
 |19,ho=>obtain rfl:o=⟨some 29,.call ⟨.builtin .append, #[.tmp 26,.tmp 28], #[28,28]⟩,28,"ref.go:373", #[⟨16,.data⟩,⟨18,.data⟩,⟨15,.chain⟩],none⟩:=Option.some.inj (ho.symm.trans rfl);have l16:listed.getD 16 false=true:=hall ⟨16,.data⟩ (by simp) rfl;have l18:listed.getD 18 false=true:=hall ⟨18,.data⟩ (by simp) rfl;exact wpOp_mono (λa' w' h=>CJJ.set 19 hs (by decide) h22 h) (cstep_19 hh hj l16 l18)
 |20,ho=>obtain rfl:o=⟨some 30,.build 32 #[(1,.tmp 13),(3,.tmp 17),(4,.tmp 21),(6,.tmp 25),(7,.tmp 29)],32,"ref.go:373", #[⟨3,.data⟩,⟨7,.data⟩,⟨11,.data⟩,⟨15,.data⟩,⟨19,.data⟩],none⟩:=Option.some.inj (ho.symm.trans rfl);have l3:listed.getD 3 false=true:=hall ⟨3,.data⟩ (by simp) rfl;have l7:listed.getD 7 false=true:=hall ⟨7,.data⟩ (by simp) rfl;have l11:listed.getD 11 false=true:=hall ⟨11,.data⟩ (by simp) rfl;have l15:listed.getD 15 false=true:=hall ⟨15,.data⟩ (by simp) rfl;have l19:listed.getD 19 false=true:=hall ⟨19,.data⟩ (by simp) rfl;exact wpOp_mono (λa' w' h=>CJJ.set 20 hs (by decide) h22 h) (cstep_20 hh hj l3 l7 l11 l15 l19)
 |21,ho=>obtain rfl:o=⟨some 3,.alloc 32,0,"ref.go:373", #[],none⟩:=Option.some.inj (ho.symm.trans rfl);exact wpOp_mono (λa' w' h=>CJJ.set 21 hs (by decide) h22 h) (cstep_21 hh hj)
 |22,ho=>
   obtain rfl:o=⟨none,.store 32 (.tmp 3) (.tmp 30),0,"ref.go:373", #[⟨21,.data⟩,⟨20,.data⟩,⟨19,.chain⟩,⟨0,.phase⟩,⟨1,.phase⟩,⟨2,.phase⟩,⟨3,.phase⟩,⟨4,.phase⟩,⟨5,.phase⟩,⟨6,.phase⟩,⟨7,.phase⟩,⟨8,.phase⟩,⟨9,.phase⟩,⟨10,.phase⟩,⟨11,.phase⟩,⟨12,.phase⟩,⟨13,.phase⟩,⟨14,.phase⟩,⟨15,.phase⟩,⟨16,.phase⟩,⟨17,.phase⟩,⟨18,.phase⟩,⟨19,.phase⟩,⟨20,.phase⟩,⟨21,.phase⟩],none⟩:=Option.some.inj (ho.symm.trans rfl);have l0:listed.getD 0 false=true:=hall ⟨0,.phase⟩ (by simp) rfl;have l1:listed.getD 1 false=true:=hall ⟨1,.phase⟩ (by simp) rfl;have l2:listed.getD 2 false=true:=hall ⟨2,.phase⟩ (by simp) rfl;have l3:listed.getD 3 false=true:=hall ⟨3,.phase⟩ (by simp) rfl;have l4:listed.getD 4 false=true:=hall ⟨4,.phase⟩ (by simp) rfl;have l5:listed.getD 5 false=true:=hall ⟨5,.phase⟩ (by simp) rfl
   have l6:listed.getD 6 false=true:=hall ⟨6,.phase⟩ (by simp) rfl;have l7:listed.getD 7 false=true:=hall ⟨7,.phase⟩ (by simp) rfl;have l8:listed.getD 8 false=true:=hall ⟨8,.phase⟩ (by simp) rfl;have l9:listed.getD 9 false=true:=hall ⟨9,.phase⟩ (by simp) rfl;have l10:listed.getD 10 false=true:=hall ⟨10,.phase⟩ (by simp) rfl;have l11:listed.getD 11 false=true:=hall ⟨11,.phase⟩ (by simp) rfl;have l12:listed.getD 12 false=true:=hall ⟨12,.phase⟩ (by simp) rfl;have l13:listed.getD 13 false=true:=hall ⟨13,.phase⟩ (by simp) rfl;have l14:listed.getD 14 false=true:=hall ⟨14,.phase⟩ (by simp) rfl;have l15:listed.getD 15 false=true:=hall ⟨15,.phase⟩ (by simp) rfl;have l16:listed.getD 16 false=true:=hall ⟨16,.phase⟩ (by simp) rfl;have l17:listed.getD 17 false=true:=hall ⟨17,.phase⟩ (by simp) rfl;have l18:listed.getD 18 false=true:=hall ⟨18,.phase⟩ (by simp) rfl;have l19:listed.getD 19 false=true:=hall ⟨19,.phase⟩ (by simp) rfl;have l20:listed.getD 20 false=true:=hall ⟨20,.phase⟩ (by simp) rfl;have l21:listed.getD 21 false=true:=hall ⟨21,.phase⟩ (by simp) rfl;refine wpOp_mono (λa' w' h=>⟨by rw[Array.size_setIfInBounds];exact hs,.inr ⟨λk hk=> ?_,h⟩⟩) (cstep_22 hh hj l20 l21)
   rcases Nat.lt_or_ge k 22 with h |h
   . have hne:(22:Nat)≠k:=(by omega)
     rw[getD_set_ne false hne]
     match k,h with
     |0,_=>exact l0
     |1,_=>exact l1
     |2,_=>exact l2
     |3,_=>exact l3
     |4,_=>exact l4
     |5,_=>exact l5
     |6,_=>exact l6
     |7,_=>exact l7
     |8,_=>exact l8
     |9,_=>exact l9
     |10,_=>exact l10
     |11,_=>exact l11
     |12,_=>exact l12
     |13,_=>exact l13
     |14,_=>exact l14
     |15,_=>exact l15
     |16,_=>exact l16
     |17,_=>exact l17
     |18,_=>exact l18
     |19,_=>exact l19
     |20,_=>exact l20
     |21,_=>exact l21
     |n+22,hn=>exact absurd hn (by omega)
   . have:k=22:=(by omega)
     subst this;rw[Array.getD_eq_getD_getElem?,Array.getElem?_setIfInBounds_self_of_lt (by omega)];rfl
 |n+23,ho=>rw[Array.getElem?_eq_none (by show 23<=n+23;omega)]at ho;cases ho
theorem copy_region1(hmix:Tryz.prog.follows .mixedOrders=true){m:Md}{a1:Option Addr}{k1:Nat}{a3:Option Addr}{k3:Nat}{a4:Option Addr}{k4:Nat}{a6:Option Addr}{k6:Nat}{a7:Option Addr}{k7:Nat}{B H:Nat}{w:World}{Q:Exit->Act->World->Prop}{A C:Value}{f:Nat->Value}(hh:CH m a1 k1 a3 k3 a4 k4 a6 k6 a7 k7 B H w)(h:∀f' M b1 q1 b3 q3 b4 q4 b6 q6 b7 q7 w',f' 3=.pointer (some ⟨M,0,none⟩)->CE m B M w w' b1 q1 b3 q3 b4 q4 b6 q6 b7 q7->Q .normal (fr A (.pointer (some ⟨H,0,none⟩)) C f') w'):(Code.region 1 qK true).wp Tryz.prog Q (fr A (.pointer (some ⟨H,0,none⟩)) C f) w:=by
 refine wp_region_any hmix ?_;have hlen:qK.size=23:=(by decide+kernel)
 refine wpAny_inv (CJJ m a1 k1 a3 k3 a4 k4 a6 k6 a7 k7 B H w A C) (λlisted a w' hJ i o ho hl hall=>copy_step hh listed a w' hJ i o ho hl hall) (λlisted a w' hJ hr=> ?_) qK.size _ _ _ ?_ ?_
 . obtain⟨hs,⟨h22,f',rfl,hj⟩ |⟨_,f',M,b1,q1,b3,q3,b4,q4,b6,q6,b7,q7,rfl,e3,hce⟩⟩:=hJ
   . exfalso;have:=copy_all hr hs 22 (by decide);rw[Array.getD_eq_getD_getElem?]at this h22;rw[Array.getElem?_eq_getElem (by omega)]at this h22
     simp_all
   . exact h _ _ _ _ _ _ _ _ _ _ _ _ _ e3 hce
 . rw[hlen];refine⟨by rw[Array.size_replicate],.inl ⟨by decide,f,rfl,⟨(Below.refl _ _).drew,by rw[<-hh.size];exact Nat.le_refl _,λi hi hl=> ?_⟩⟩⟩;rw[Array.getD_eq_getD_getElem?,Array.getElem?_replicate]at hl;split at hl<;>cases hl
 . rw[hlen];decide
end Go.Proofs.YtacohbllbjgdgaaGreatDoor
