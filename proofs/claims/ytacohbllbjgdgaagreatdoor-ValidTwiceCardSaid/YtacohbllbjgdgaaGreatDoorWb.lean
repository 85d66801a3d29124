/- What a module that may be written is, plainly. -/
import Derived.Test.YtacohbllbjgdgaaGreatDoorOa
import Derived.Test.YtacohbllbjgdgaaGreatDoorXo
import Derived.Test.YtacohbllbjgdgaaGreatDoorZt
import Derived.Test.YtacohbllbjgdgaaGreatDoorXt
set_option linter.all false
set_option maxRecDepth 100000
set_option maxHeartbeats 3000000
namespace Go.Proofs.YtacohbllbjgdgaaGreatDoor
open Go.RowKit
structure Cm (m:Md):Prop where
 l0:m.types.length<=4096
 l1:m.imports.length<=4096
 l2:m.funcs.length<=4096
 l3:m.tables.length<=4096
 l4:m.mems.length<=4096
 l5:m.globals.length<=4096
 l6:m.exports.length<=4096
 l7:m.start.length<=1
 l8:m.elems.length<=4096
 l9:m.datas.length<=4096
 types:∀t∈m.types,t.1.length<=4096/\t.2.length<=4096/\t.1.all xG=true/\t.2.all xG=true
 imports:∀t∈m.imports,jD t.1=true/\jD t.2.1=true/\zM t.2.2=true
 funcs:∀t∈m.funcs,zM t.1=true/\t.2.1.length<=256/\t.2.1.all xG=true/\lab t.2.2=true/\zZ t.2.2=true/\xN t.2.2 0=true
 tables:∀t∈m.tables,vM t=true
 mems:∀t∈m.mems,vM t=true
 globals:∀t∈m.globals,xG t.1=true/\yM t.2.2=true
 exports:∀t∈m.exports,jD t.1=true/\(0<=t.2.1/\t.2.1<=3)/\zM t.2.2=true
 start:∀n∈m.start,zM n=true
 elems:∀t∈m.elems,yM t.1=true/\t.2.length<=4096/\t.2.all zM=true
 datas:∀t∈m.datas,yM t.1=true/\t.2.size<=1048576
 cnt:0<=vB m.funcs 65536
theorem cntF_bd:∀(l:List (Int×List Int×Il)) (left:Int),0<=left→-1<=vB l left
 | [],left,h=>by unfold vB;omega
 |f::r,left,h=>by
   have:=cnt_bd f.2.2 left h;unfold vB;split
   . omega
   . exact cntF_bd r _ (by omega)
theorem data_all:∀(l:List (One×ByteArray)) (left:Int),j7 l left=true->∀d∈l,(d.2.size:Int)<=left
 |d::r,left,h,x,hx=>by
   unfold j7 at h;rw[Bool.and_eq_true,decide_eq_true_eq]at h
   rcases List.mem_cons.1 hx with rfl |hx
   . exact h.1
   . have:=data_all r _ h.2 x hx;omega
theorem allm{α:Type}{f:α->Bool}{l:List α}(h:l.all f=true):∀x∈l,f x=true:=List.all_eq_true.1 h
theorem cm_of{m:Md}(hc:qI m=0):Cm m:=by
 unfold qI at hc;split at hc
 . cases hc
 rename_i hf;split at hc
 . cases hc
 rename_i hm;split at hc
 . cases hc
 rename_i hs;have hf2:fewB m=true:=(by simpa using hf)
 have hm2:flatM m=true:=(by simpa using hm)
 have hs2:qX m=true:=(by simpa using hs)
 unfold fewB few0 few1 few2 few3 few4 few5 vY at hf2;simp only[Bool.and_eq_true,decide_eq_true_eq,List.all_cons,List.all_nil,le4,List.all_eq_true]at hf2;obtain⟨⟨l0,l1,l2,l3,l4,l5,l6,l8,l9,_⟩,f0,f1,f2,f3,f4,f5⟩:=hf2;unfold qX sh1 sh2 sh3 sh4 sh5 sh6 sh7 sh8 sh9 at hs2;rw[Bool.and_eq_true,Bool.and_eq_true,Bool.and_eq_true,Bool.and_eq_true,Bool.and_eq_true,Bool.and_eq_true,Bool.and_eq_true,Bool.and_eq_true,Bool.and_eq_true]at hs2;obtain⟨s0,s1,s2,s3,s4,s5,s6,s7,s8,s9⟩:=hs2;refine⟨by omega,by omega,by omega,by omega,by omega,by omega,by omega,by omega,by omega,by omega,λt ht=> ?_,λt ht=> ?_,λt ht=> ?_,allm s2,allm s3,λt ht=> ?_,λt ht=> ?_,allm s6,λt ht=> ?_,λt ht=> ?_,?_⟩
 . have h1:=f1 t ht;unfold vP at h1;rw[Bool.and_eq_true,decide_eq_true_eq,decide_eq_true_eq]at h1;have h2:=allm s0 t ht;unfold typS at h2;rw[Bool.and_eq_true]at h2;exact⟨by omega,by omega,h2.1,h2.2⟩
 . have h2:=allm s1 t ht;unfold impS at h2;rw[Bool.and_eq_true,Bool.and_eq_true]at h2;exact h2
 . have h1:=f5 t ht;unfold funFew at h1;rw[Bool.and_eq_true,decide_eq_true_eq]at h1;have h2:=allm s9 t ht;unfold funS at h2;rw[Bool.and_eq_true,Bool.and_eq_true]at h2;have h3:=allm hm2 t ht;exact⟨h2.1,by omega,h2.2.1,h1.2,h2.2.2,h3⟩
 . have h2:=allm s4 t ht;unfold gloS at h2;rw[Bool.and_eq_true]at h2;exact h2
 . have h2:=allm s5 t ht;unfold yZ at h2;rw[Bool.and_eq_true,Bool.and_eq_true,Bool.and_eq_true,decide_eq_true_eq,decide_eq_true_eq]at h2;exact h2
 . have h1:=f2 t ht;unfold yK at h1;rw[decide_eq_true_eq]at h1;have h2:=allm s7 t ht;unfold elmS at h2;rw[Bool.and_eq_true]at h2;exact⟨h2.1,by omega,h2.2⟩
 . have h2:=allm s8 t ht;unfold datS at h2;have h3:=data_all m.datas 262144 f3 t ht;exact⟨h2,by omega⟩
 . have:=cntF_bd m.funcs 65536 (by omega);omega
theorem typ1_tyo{t:Int}(h:xG t=true):tyo t:=by unfold xG at h;unfold tyo;simp only[Bool.or_eq_true,beq_iff_eq]at h;omega
theorem cnt_sz:∀(l:Il) (left:Int),0<=cnt l left->(szI l:Int)+cnt l left<=left
 |.nil,left,h=>by unfold szI cnt;omega
 |.cons op x y n ls body els rest,left,h=>by
   have hs:szI (.cons op x y n ls body els rest)=1+szI body+szI els+szI rest:=rfl;unfold cnt at h ⊢
   dsimp only at h ⊢
   generalize hl2:(if 0<=left-1 then cnt body (left-1)else left-1)=l2 at h ⊢;generalize hl3:(if 0<=l2 then cnt els l2 else l2)=l3 at h ⊢
   by_cases h3:l3<0
   . rw[if_pos h3]at h;omega
   . rw[if_neg h3]at h ⊢;have r3:=cnt_sz rest l3 h
     by_cases h2:0<=l2
     . rw[if_pos h2]at hl3;have r2:=cnt_sz els l2 (by omega)
       by_cases h1:0<=left-1
       . rw[if_pos h1]at hl2;have r1:=cnt_sz body (left-1) (by omega);rw[hs];omega
       . rw[if_neg h1]at hl2;omega
     . rw[if_neg h2]at hl3;omega
theorem cntF_sz:∀(l:List (Int×List Int×Il)) (left:Int),0<=vB l left->∀f∈l,(szI f.2.2:Int)<=left
 | [],left,h,f,hf=>by cases hf
 |g::r,left,h,f,hf=>by
   unfold vB at h
   by_cases h1:cnt g.2.2 left<0
   . rw[if_pos h1]at h;omega
   . rw[if_neg h1]at h;have h2:=cnt_sz g.2.2 left (by omega)
     rcases List.mem_cons.1 hf with rfl |hf
     . omega
     . have:=cntF_sz r _ h f hf;omega
end Go.Proofs.YtacohbllbjgdgaaGreatDoor
namespace Go.Proofs.YtacohbllbjgdgaaGreatDoor
open Go.RowKit
def eTyp (t:List Int×List Int):Int:=if t.2.length<=1 then 0 else 60
def eIdx (m:Md) (i:Nat):Int:=if(typV m (i:Int)).isSome=true then 0 else 61
def eGloR (g:Int×Bool×One):Int:=if g.2.2.op=35 then 62 else if(g.2.2.op=65↔g.1=127)then 0 else 60
def headsR (m:Md):Int:=zX (zD eTyp m.types) (zX (zD (eIdx m) (List.range (m.imports.length+m.funcs.length))) (zX (zX (limV 4294967296 m.tables) (limV 65536 m.mems)) (zD eGloR m.globals)))
def yU (A:MA) (m:Md):Obj:=.cells #[(A.v m).v0,(A.v m).v1,(A.v m).v2,(A.v m).v3,(A.v m).v4,(A.v m).v5,(A.v m).v6,(A.v m).v7,(A.v m).v8,(A.v m).v9] 32
theorem xH{w:World}{A:MA}{m:Md}{B:Nat}(h:w.heap[B]? =some (yU A m)):w.cell? ⟨B,0,none⟩=some (.slice A.a0 m.types.length A.k0)/\w.cell? ⟨B,1,none⟩=some (.slice A.a1 m.imports.length A.k1)/\w.cell? ⟨B,2,none⟩=some (.slice A.a2 m.funcs.length A.k2)/\w.cell? ⟨B,3,none⟩=some (.slice A.a3 m.tables.length A.k3)/\w.cell? ⟨B,4,none⟩=some (.slice A.a4 m.mems.length A.k4)/\w.cell? ⟨B,5,none⟩=some (.slice A.a5 m.globals.length A.k5)/\w.cell? ⟨B,6,none⟩=some (.slice A.a6 m.exports.length A.k6)/\w.cell? ⟨B,7,none⟩=some (.slice A.a7 m.start.length A.k7)/\w.cell? ⟨B,8,none⟩=some (.slice A.a8 m.elems.length A.k8)/\w.cell? ⟨B,9,none⟩=some (.slice A.a9 m.datas.length A.k9):=by
 unfold yU at h;refine⟨?_,?_,?_,?_,?_,?_,?_,?_,?_,?_⟩;all_goals rw[cell_of_row w B _ _ _ _ h];rfl
structure Bm (A:MA) (m:Md) (B:Nat) (w0 w:World):Prop where
 h:w.heap[B]? =some (yU A m)
 m:MdA w m A
 b:Below w0.heap.size w0 w
theorem Bm.step{A:MA}{m:Md}{B:Nat}{w0 w w':World}(h:Bm A m B w0 w)(b:Below w.heap.size w w'):Bm A m B w0 w':=
 ⟨(b.block B (lt_of_block h.h)).trans h.h,MdAt.keep (zA b) h.m,h.b.trans (b.mono h.b.size)⟩
theorem bm_new{A:MA}{m:Md}{w:World}(h:MdA w m A):Bm A m w.heap.size w (w.alloc (yU A m)):=
 ⟨heap_alloc_new w _,MdAt.keep (zA (Below.of_alloc w _)) h,Below.of_alloc w _⟩
theorem ints_two(w:World)(x y:Int):IntsIn (w.alloc (.cells #[.int .i64 x,.int .i64 y] 3)) (some ⟨w.heap.size,0,none⟩) [x,y]:=by
 refine⟨by simp,.inr ⟨_,_,rfl,λi z hz=> ?_⟩⟩
 rcases i with _ |_ |i
 . simp at hz;subst hz;exact World.cell?_alloc_at _ _ _ 0 (by simp)
 . simp at hz;subst hz;exact World.cell?_alloc_at _ _ _ 1 (by simp)
 . simp at hz
theorem first_two(a b:Int):zD (λx:Int=>x) [a,b]=zX a b:=by
 unfold zD zX zD zD
 by_cases ha:a=0
 . rw[if_pos ha,if_pos ha];split
   . rename_i h;exact h.symm
   . rfl
 . rw[if_neg ha,if_neg ha]
section
variable {w:World} {A:MA} {m:Md}
theorem rheads_any(hA:MdA w m A)(hsz:m.imports.length+m.funcs.length<=1099511627776):Calls Tryz.prog 31 #[.agg #[(A.v m).v0,(A.v m).v1,(A.v m).v2,(A.v m).v3,(A.v m).v4,(A.v m).v5,(A.v m).v6,(A.v m).v7,(A.v m).v8,(A.v m).v9]] w λe w'=>e=.returned (.int .i64 (headsR m))/\Below w.heap.size w w':=by
 generalize hX:headsR m=X;have hX1:Hid (X=zX (zD eTyp m.types) (zX (zD (eIdx m) (List.range (m.imports.length+m.funcs.length))) (zX (zX (limV 4294967296 m.tables) (limV 65536 m.mems)) (zD eGloR m.globals)))):=zh hX.symm;clear hX;have hbm:=bm_new hA;have l0:=hA.types.1;have l1:=hA.imports.1;have l2:=hA.funcs.1;have l5:=hA.globals.1;obtain⟨w1,hw1⟩:∃w1,w1=w.alloc (yU A m):=⟨_,rfl⟩
 obtain⟨B,hB⟩:∃B,B=w.heap.size:=⟨_,rfl⟩
 rw[<-hw1,<-hB]at hbm;unfold yU at hw1;go_enter Tryz.func31,Tryz.ntmps31
 go_upto_region 1 with(fail)
 rw[<-hw1];rw[<-hB];clear hw1;replace hB:=zh hB;replace hbm:=zh hbm;go_wp2_with fail;go_loopw [3] (λvi wr=>∃i:Nat,vi=.int .i64 i/\i<=m.types.length/\Hid (zD eTyp m.types=zD eTyp (m.types.drop i))/\Hid (Bm A m B w wr)) (λvi _=>m.types.length-(intOf vi).toNat)
 case atStart=>exact⟨0,rfl,Nat.zero_le _,zh rfl,hbm⟩
 case round=>
  clear hbm;obtain⟨i,rfl,hi,hf,hbm⟩:=hrel;obtain⟨x0,x1,x2,x3,x4,x5,x6,x7,x8,x9⟩:=xH hbm.out.h
  by_cases hlt:i<m.types.length
  . obtain⟨x,hx⟩:∃x,m.types[i]? =some x:=⟨_,List.getElem?_eq_getElem hlt⟩
    obtain⟨b,o,hab,_,⟨ra,rc,r2,_⟩⟩:=hbm.out.m.types.row hx;replace r2:wr.cell? ⟨b,o+i*2+1,none⟩=some (.slice ra x.2.length rc):=r2;rw[hab]at x0;replace hab:=zh hab;have hf1:=hf.out.trans (qE hx);have i0:(0:Int)<=(i:Int):=(by omega)
    clear hf hx
    by_cases hc:x.2.length<=1
    . have e:eTyp x=0:=(by unfold eTyp;rw[if_pos hc])
      rw[e,if_pos rfl]at hf1;replace hf1:=zh hf1;have n1:¬1<x.2.length:=(by omega)
      clear hc e;go_wp2_with fail
      go_roundw
      case rel=>exact⟨i+1,by simp,by omega,hf1,hbm⟩
      case measure=>simp[intOf];omega
    . have e:eTyp x=60:=(by unfold eTyp;rw[if_neg hc])
      rw[e,if_neg (by decide)]at hf1;have e2:X=60:=(by rw[hX1.out,hf1];rfl)
      have n1:1<x.2.length:=(by omega)
      clear hc e hf1;replace e2:=zh e2;go_wp2;go_ret;rw[e2.out];exact⟨rfl,hbm.out.b⟩
  . obtain rfl:i=m.types.length:=by omega
    have e1:Hid (X=zX (zD (eIdx m) (List.range (m.imports.length+m.funcs.length))) (zX (zX (limV 4294967296 m.tables) (limV 65536 m.mems)) (zD eGloR m.globals))):=zh (by
     have:=hf.out;rw[List.drop_length]at this;rw[hX1.out,this];rfl)
    clear hf hlt hX1;have hwr:IntKind.i64.wrap ((m.imports.length:Int)+(m.funcs.length:Int))=(m.imports.length:Int)+(m.funcs.length:Int):=(by rw[IntKind.wrap_i64];omega)
    go_wp2_with fail;go_loopw [4] (λvi wr=>∃i:Nat,vi=.int .i64 i/\i<=m.imports.length+m.funcs.length/\Hid (zD (eIdx m) (List.range (m.imports.length+m.funcs.length))=zD (eIdx m) ((List.range (m.imports.length+m.funcs.length)).drop i))/\Hid (Bm A m B w wr)) (λvi _=>m.imports.length+m.funcs.length-(intOf vi).toNat)
    case atStart=>exact⟨0,rfl,Nat.zero_le _,zh rfl,hbm⟩
    case round=>
     clear hbm x0 x1 x2 x3 x4 x5 x6 x7 x8 x9;obtain⟨i,rfl,hi,hf,hbm⟩:=hrel;obtain⟨x0,x1,x2,x3,x4,x5,x6,x7,x8,x9⟩:=xH hbm.out.h
     by_cases hlt:i<m.imports.length+m.funcs.length
     . have hx:(List.range (m.imports.length+m.funcs.length))[i]? =some i:=(by rw[List.getElem?_range hlt])
       have hf1:=hf.out.trans (qE hx);have i0:(0:Int)<=(i:Int):=(by omega)
       have i1:(i:Int)<(m.imports.length:Int)+(m.funcs.length:Int):=(by omega)
       have hty:=typ_any hbm.out.m (Below.refl _ _) (i:Int) hsz;unfold MA.v at hty
       dsimp only at hty
       replace hlt:=zh hlt;clear hf hx;cases ht:typV m (i:Int)with
       |none=>
         rw[ht]at hty;have e:eIdx m i=61:=(by unfold eIdx;rw[ht];rfl)
         rw[e,if_neg (by decide)]at hf1;have e2:X=61:=(by rw[e1.out,hf1];rfl)
         clear hf1 e1 e;replace e2:=zh e2;replace ht:=zh ht;go_wp2_with fail;refine hty.mono ?_;rintro e w3 ⟨rfl,b3⟩;have hb4:=hbm.out.step b3;replace hb4:=zh hb4;go_wp2;go_ret;rw[e2.out];exact⟨rfl,hb4.out.b.trans ((Below.of_alloc _ _).mono hb4.out.b.size)⟩
       |some t=>
         rw[ht]at hty;have e:eIdx m i=0:=(by unfold eIdx;rw[ht];rfl)
         rw[e,if_pos rfl]at hf1;clear e;replace hf1:=zh hf1;replace ht:=zh ht;go_wp2_with fail;refine hty.mono ?_;rintro e w3 ⟨⟨pa,pc,ra,rc,rfl,j1,j2⟩,b3⟩;have hb4:=hbm.out.step b3;have hb5:∀o,Hid (Bm A m B w (w3.alloc o)):=λo=>zh (hb4.step (Below.of_alloc _ o));replace hb4:=zh hb4;clear j1 j2;go_wp2
         go_roundw
         case rel=>exact⟨i+1,by simp,by have:=hlt.out;omega,hf1,hb5 _⟩
         case measure=>simp[intOf];have:=hlt.out;omega
     . obtain rfl:i=m.imports.length+m.funcs.length:=by omega
       have e2:Hid (X=zX (zX (limV 4294967296 m.tables) (limV 65536 m.mems)) (zD eGloR m.globals)):=zh (by
        have:=hf.out;rw[List.drop_of_length_le (by simp)]at this;rw[e1.out,this];rfl)
       clear hf e1;have i2:¬((m.imports.length:Int)+(m.funcs.length:Int)<(m.imports.length:Int)+(m.funcs.length:Int)):=(by omega)
       go_wp2_with fail;have hT:=λw' (b:Below wr.heap.size wr w')=>rlimits_any' 4294967296 (w:=w') (c:=A.k3) ((hbm.out.step b).m.tables);have hM:=λw' (b:Below wr.heap.size wr w')=>rlimits_any' 65536 (w:=w') (c:=A.k4) ((hbm.out.step b).m.mems);have hx4:∀w',Below wr.heap.size wr w'->w'.cell? ⟨B,4,none⟩=some (.slice A.a4 m.mems.length A.k4):=λw' b=>(xH (hbm.out.step b).h).2.2.2.2.1;have bd:Below wr.heap.size wr wr.drew:=zB (w:=wr) 1;generalize hL1:limV 4294967296 m.tables=L1 at hT e2;generalize hL2:limV 65536 m.mems=L2 at hM e2;replace hT:=zh hT;replace hM:=zh hM;replace hx4:=zh hx4;replace bd:=zh bd
       go_cut [7] from 44 to 51 (λv7 wx=>v7=.int .i64 (zX L1 L2)/\Hid (Below wr.heap.size wr wx))
       case first=>
        go_region_with (first
         |(go_at_call 56;with_reducible refine(hT.out _ bd.out).mono ?_;rintro e w3 ⟨rfl,b3⟩;have q1:=zh (bd.out.trans (b3.mono bd.out.size));have u4:=hx4.out _ q1.out;clear b3)
         |(go_at_call 56;with_reducible refine(hM.out _ q1.out).mono ?_;rintro e w4 ⟨rfl,b4⟩;have q2:=zh (q1.out.trans (b4.mono q1.out.size));clear b4)
         |(go_at_call 32;refine(rfirst_any (ints_two w4 L1 L2)).mono ?_;rintro e w5 ⟨rfl,rfl⟩))
        all_goals go_wp2_with fail
        all_goals go_meet
        all_goals exact⟨by rw[first_two],zh (q2.out.trans ((Below.of_alloc w4 _).mono q2.out.size))⟩
       case rest=>
        obtain⟨rfl,hbc⟩:=hcut;have hbm2:=zh (hbm.out.step hbc.out);clear hT hM hx4 bd hbc hbm x0 x1 x2 x3 x4 x5 x6 x7 x8 x9 hL1 hL2 hlt i2;generalize zX L1 L2=L at e2 ⊢
        by_cases hz:L=0
        . have e3:Hid (X=zD eGloR m.globals):=zh (by rw[e2.out,hz];rfl);have hlb:(L !=0)=false:=(by simp[hz])
          clear e2 hz;go_wp2_with fail;go_loopw [8] (λvi wr=>∃i:Nat,vi=.int .i64 i/\i<=m.globals.length/\Hid (zD eGloR m.globals=zD eGloR (m.globals.drop i))/\Hid (Bm A m B w wr)) (λvi _=>m.globals.length-(intOf vi).toNat)
          case atStart=>exact⟨0,rfl,Nat.zero_le _,zh rfl,hbm2⟩
          case round=>
           clear hbm2;obtain⟨i,rfl,hi,hf,hbm⟩:=hrel;obtain⟨x0,x1,x2,x3,x4,x5,x6,x7,x8,x9⟩:=xH hbm.out.h
           by_cases hlt:i<m.globals.length
           . obtain⟨x,hx⟩:∃x,m.globals[i]? =some x:=⟨_,List.getElem?_eq_getElem hlt⟩
             obtain⟨b,o,hab,r1,r2,r3⟩:=hbm.out.m.globals.row hx;replace r1:wr.cell? ⟨b,o+i*9,none⟩=some (.int .i64 x.1):=r1;replace r2:wr.cell? ⟨b,o+i*9+1,none⟩=some (.bool x.2.1):=r2;obtain⟨⟨g0,g1,g2,g3⟩,⟨ga4,gk4,g4,_⟩,⟨ga5,gk5,g5,_⟩,⟨ga6,gk6,g6,_⟩,_⟩:=r3;rw[hab]at x5;replace hab:=zh hab;have hf1:=hf.out.trans (qE hx);have i0:(0:Int)<=(i:Int):=(by omega)
             have hal:∀o,Hid (Bm A m B w (wr.alloc o)):=λo=>zh (hbm.out.step (Below.of_alloc wr o));clear hf;replace hx:=zh hx;have good:eGloR x=0->Hid (zD eGloR m.globals=zD eGloR (m.globals.drop (i+1))):=λq=>zh (by rw[q,if_pos rfl]at hf1;exact hf1);have bad:∀k,k≠0->eGloR x=k->Hid (X=k):=λk hk q=>zh (by rw[q,if_neg hk]at hf1;rw[e3.out,hf1]);clear hf1;replace hlt:=zh hlt
             by_cases c35:x.2.2.op=35
             . have e4:=bad 62 (by decide) (by unfold eGloR;rw[if_pos c35]);rw[c35]at g0;clear good bad e3 c35;go_wp2;go_ret;rw[e4.out];exact⟨rfl,(hal _).out.b⟩
             . have b35:(x.2.2.op==35)=false:=(by simp[c35])
               by_cases c:(x.2.2.op=65↔x.1=127)
               . have e4:=good (by unfold eGloR;rw[if_neg c35,if_pos c])
                 have hcc:((x.2.2.op==65)=true/\(x.1==127)=true)\/((x.2.2.op==65)=false/\(x.1==127)=false):=by
                  by_cases c1:x.2.2.op=65
                  . exact .inl ⟨by simp[c1],by simp[c.1 c1]⟩
                  . exact .inr ⟨by simp[c1],by have h127:¬x.1=127:=λq=>c1 (c.2 q);simp[h127]⟩
                 clear good bad c35 c
                 rcases hcc with⟨b1,b2⟩ |⟨b1,b2⟩
                 all_goals(
                  go_wp2_with fail
                  go_roundw
                  case rel=>exact⟨i+1,by simp,by have:=hlt.out;omega,e4,hal _⟩
                  case measure=>simp[intOf];have:=hlt.out;omega)
               . have e4:=bad 60 (by decide) (by unfold eGloR;rw[if_neg c35,if_neg c])
                 have hcc:((x.2.2.op==65)=true/\(x.1==127)=false)\/((x.2.2.op==65)=false/\(x.1==127)=true):=by
                  by_cases c1:x.2.2.op=65
                  . exact .inl ⟨by simp[c1],by have:¬x.1=127:=λq=>c ⟨λ_=>q,λ_=>c1⟩;simp[this]⟩
                  . exact .inr ⟨by simp[c1],by
                     by_cases q:x.1=127
                     . simp[q]
                     . exact absurd ⟨λr=>absurd r c1,λr=>absurd r q⟩ c⟩
                 clear good bad c35 c e3
                 rcases hcc with⟨b1,b2⟩ |⟨b1,b2⟩
                 all_goals(
                  go_wp2;go_ret;rw[e4.out];exact⟨rfl,(hal _).out.b⟩)
           . obtain rfl:i=m.globals.length:=by omega
             have e4:X=0:=by have:=hf.out;rw[List.drop_length]at this;rw[e3.out,this];rfl
             clear hf hlt e3;replace e4:=zh e4;go_wp2;go_ret;rw[e4.out];exact⟨rfl,hbm.out.b⟩
        . have e3:Hid (X=L):=zh (by rw[e2.out];unfold zX;rw[if_neg hz]);have hlb:(L !=0)=true:=(by simp[hz])
          clear e2 hz;go_wp2;go_ret;rw[e3.out];exact⟨rfl,hbm2.out.b⟩
end
end Go.Proofs.YtacohbllbjgdgaaGreatDoor
namespace Go.Proofs.YtacohbllbjgdgaaGreatDoor
open Go.RowKit
theorem firstL_map {α β:Type} {f:α->Int} {g:β->Int}:∀{l:List α} {k:List β},l.map f=k.map g->zD f l=zD g k
 | [],[],_=>rfl
 | [],y::k,h=>by cases h
 |x::l,[],h=>by cases h
 |x::l,y::k,h=>by
   simp only[List.map_cons,List.cons.injEq]at h;unfold zD;rw[h.1,firstL_map h.2]
theorem firstL_congr{α:Type}{f g:α->Int}{l:List α}(h:∀x∈l,f x=g x):zD f l=zD g l:=firstL_map (List.map_congr_left h)
theorem idx_len(m:Md):(vD m).length=m.imports.length+m.funcs.length:=by unfold vD;simp
theorem idx_ok{m:Md}(c:Cm m):∀n∈vD m,0<=n:=λn hn=>by
 unfold vD at hn
 rcases List.mem_append.1 hn with hn |hn
 . obtain⟨t,ht,rfl⟩:=List.mem_map.1 hn;have:=(c.imports t ht).2.2;unfold zM at this;simp only[Bool.and_eq_true,decide_eq_true_eq]at this;exact this.1
 . obtain⟨t,ht,rfl⟩:=List.mem_map.1 hn;have:=(c.funcs t ht).1;unfold zM at this;simp only[Bool.and_eq_true,decide_eq_true_eq]at this;exact this.1
theorem idxR_eq{m:Md}(c:Cm m):zD (eIdx m) (List.range (m.imports.length+m.funcs.length))=idxV m:=by
 unfold idxV;refine firstL_map ?_;refine List.ext_getElem (by simp[idx_len]) λi h1 h2=> ?_;simp only[List.getElem_map,List.getElem_range];have hl:i<(vD m).length:=(by simpa using h2)
 have hi:(vD m)[i]? =some (vD m)[i]:=List.getElem?_eq_getElem hl;have h0:=idx_ok c _ (List.getElem_mem hl);unfold eIdx xT;rw[typ_at hi,if_pos h0]
 by_cases hlt:(vD m)[i]<(m.types.length:Int)
 . rw[if_pos hlt,List.getElem?_eq_getElem (by omega:(vD m)[i].toNat<m.types.length)];rfl
 . rw[if_neg hlt,List.getElem?_eq_none (by omega)];rfl
theorem yT(a b c:Int):zX (zX a b) c=zX a (zX b c):=by
 unfold zX
 by_cases ha:a=0
 . rw[if_pos ha]
   by_cases hb:b=0
   . rw[if_pos hb,ha];rfl
   . rw[if_neg hb,if_pos ha]
 . rw[if_neg ha,if_neg ha,if_neg ha]
theorem parts_eq{m:Md}(c:Cm m):zX (zX (limV 4294967296 m.tables) (limV 65536 m.mems)) (zD eGloR m.globals)=vX m:=by
 have h1:zD (eLim 4294967296) m.tables=zD eTab m.tables:=firstL_congr λt ht=>by
  have:=c.tables t ht;unfold vM zM at this;simp only[Bool.and_eq_true,decide_eq_true_eq]at this;unfold eLim eTab
  by_cases hq:t.2.2=true/\t.2.1<t.1
  . rw[if_pos (.inl hq),if_pos hq]
  . rw[if_neg (by rintro(q |q |q);exact hq q;omega;omega),if_neg hq]
 have h2:zD (eLim 65536) m.mems=zD eMem m.mems:=rfl
 have h3:zD eGloR m.globals=zD eGlo m.globals:=firstL_congr λg hg=>by
  obtain⟨a1,a2⟩:=c.globals g hg;have ht:=typ1_tyo a1;unfold tyo at ht;unfold yM at a2;simp only[Bool.and_eq_true,Bool.or_eq_true,beq_iff_eq]at a2;unfold eGloR eGlo
  by_cases h35:g.2.2.op=35
  . rw[if_pos h35,if_pos h35]
  . rw[if_neg h35,if_neg h35]
    by_cases hq:(g.2.2.op=65/\g.1=127)\/(g.2.2.op=66/\g.1=126)
    . rw[if_pos hq,if_pos (by omega)]
    . rw[if_neg hq,if_neg (by omega)]
 unfold vX limV;rw[h1,h2,h3,yT,yT,yT]
theorem headsR_eq{m:Md}(c:Cm m):headsR m=zX (xQ m) (zX (idxV m) (vX m)):=by unfold headsR;rw[idxR_eq c,parts_eq c];rfl
def Ag (x:Except Int Ts) (r:Rs):Prop:=match x with |.ok _=>r.w=0 |.error n=>n≠0/\r.w=n
def endF0 (ends:List Int) (r:Rs):Rs:=
 let s2:=jC ends r
 let s3:=if s2.w=0/\s2.st.length≠(s2.fs.headD fr0).h then zQ 60 s2 else s2
 {s3 with fs:=s3.fs.tail}
def endT0 (s1:Ts):Except Int Ts:=match s1.fs with | []=>.error 0 |f::r=>(qZ f.ends s1).bind λs2=>if s2.st.length=f.h then .ok ⟨s2.st,r⟩else .error 60
theorem endF0_st{ends:List Int}{r:Rs}(hr:r.w≠0):(endF0 ends r).w=r.w:=by
 have e:=popL_st ends r hr;unfold endF0
 dsimp only
 rw[if_neg (by rw[e];exactλq=>hr q.1)];exact e
theorem block0_sm{B:Ts->Except Int Ts}{C:Rs->Rs}(hB:BOk B C){goes ends:List Int}(hg:∀t∈goes,tyo t)(he:∀t∈ends,tyo t):Ag (qW B goes ends ⟨[],[]⟩) (zT C goes ends ⟨0,[],[]⟩):=by
 have hin:Wf ⟨[],[⟨goes,ends,0,false⟩]⟩:=⟨⟨_,_,rfl,Nat.le_refl _⟩,(by intro t ht;cases ht),λf hf=>by
  obtain rfl:=List.mem_singleton.1 hf;exact⟨hg,he⟩⟩
 have h1:=hB _ hin;change Sm ⟨[],[⟨goes,ends,0,false⟩]⟩ (B ⟨[],[⟨goes,ends,0,false⟩]⟩) (C ⟨0,[],[⟨goes,ends,0,false⟩]⟩)at h1;have eT:qW B goes ends ⟨[],[]⟩=(B ⟨[],[⟨goes,ends,0,false⟩]⟩).bind endT0:=rfl
 have eR:zT C goes ends ⟨0,[],[]⟩=endF0 ends (C ⟨0,[],[⟨goes,ends,0,false⟩]⟩):=by unfold zT;rw[if_pos (show((0:Int)=0) from rfl)];rfl
 rw[eT,eR];cases hb:B ⟨[],[⟨goes,ends,0,false⟩]⟩with
 |error n=>rw[hb]at h1;exact⟨h1.1,(endF0_st (by rw[h1.2];exact h1.1)).trans h1.2⟩
 |ok s1=>
   rw[hb]at h1;obtain⟨w1,k1,e1⟩:=h1;rw[e1];obtain⟨f,f',r,x1,x2,x3,x4,x5⟩:=k1;cases x1
   have e2:(Except.ok s1:Except Int Ts).bind endT0=(qZ ends s1).bind λs2=>if s2.st.length=0 then .ok ⟨s2.st,[]⟩else .error 60:=by
    show endT0 s1=_
    unfold endT0;rw[x2]
    dsimp only
    rw[show f'.ends=ends from x4,show f'.h=0 from x5]
   rw[e2];have hp:=popL_sm w1 ends;cases hq:qZ ends s1 with
   |error n=>
     rw[hq]at hp;refine⟨hp.1,?_⟩;unfold endF0
     dsimp only
     rw[if_neg (by rw[hp.2];exactλq=>hp.1 q.1)];exact hp.2
   |ok s2=>
     rw[hq]at hp;obtain⟨w2,k2,e3⟩:=hp;obtain⟨g,g',q,y1,y2,y3,y4,y5⟩:=k2;rw[x2]at y1;cases y1
     have hh:((up s2).fs.headD fr0).h=0:=by
      show(s2.fs.headD fr0).h=_
      rw[y2];exact y5.trans x5
     show Ag (if s2.st.length=0 then .ok ⟨s2.st,[]⟩else .error 60) _
     unfold endF0
     dsimp only
     rw[e3]
     by_cases hl:s2.st.length=0
     . rw[if_pos hl,if_neg (by rw[hh];exactλq=>q.2 hl)];rfl
     . rw[if_neg hl,if_pos ⟨rfl,by rw[hh];exact hl⟩];exact⟨by decide,bad_w (by decide) rfl⟩
end Go.Proofs.YtacohbllbjgdgaaGreatDoor
