/- What a module that may be written is, plainly. -/
import Derived.Test.YtacohbllbjgdgaaGreatDoorOa
import Derived.Test.YtacohbllbjgdgaaGreatDoorXo
import Derived.Test.YtacohbllbjgdgaaGreatDoorZc
import Derived.Maps.Own
import Derived.Maps.OwnOps
import Derived.Maps.OwnSet
import Derived.Maps.Views
import Derived.StringKeys
set_option linter.all false
set_option maxRecDepth 100000
set_option maxHeartbeats 40000000
namespace Go.Proofs.YtacohbllbjgdgaaGreatDoor
open Go.RowKit
structure Cm (m:Md):Prop where
 l0:m.types.length<=4096
 l1:m.imports.length<=4096
 l2:m.funcs.length<=4096
 l3:m.tables.length<=4096
 l4:m.mems.length<=4096
 l5:m.globals.length<=4096
 l6:m.exports.length<=4096
 l7:m.start.length<=1
 l8:m.elems.length<=4096
 l9:m.datas.length<=4096
 types:∀t∈m.types,t.1.length<=4096/\t.2.length<=4096/\t.1.all vA=true/\t.2.all vA=true
 imports:∀t∈m.imports,jM t.1=true/\jM t.2.1=true/\zN t.2.2=true
 funcs:∀t∈m.funcs,zN t.1=true/\t.2.1.length<=256/\t.2.1.all vA=true/\lab t.2.2=true/\qA t.2.2=true/\vK t.2.2 0=true
 tables:∀t∈m.tables,yN t=true
 mems:∀t∈m.mems,yN t=true
 globals:∀t∈m.globals,vA t.1=true/\beg1 t.2.2=true
 exports:∀t∈m.exports,jM t.1=true/\(0<=t.2.1/\t.2.1<=3)/\zN t.2.2=true
 start:∀n∈m.start,zN n=true
 elems:∀t∈m.elems,beg1 t.1=true/\t.2.length<=4096/\t.2.all zN=true
 datas:∀t∈m.datas,beg1 t.1=true/\t.2.size<=1048576
 cnt:0<=jS m.funcs 65536
theorem cntF_bd:∀(l:List (Int×List Int×Il)) (left:Int),0<=left→-1<=jS l left
 | [],left,h=>by unfold jS;omega
 |f::r,left,h=>by
   have:=cnt_bd f.2.2 left h;unfold jS;split
   . omega
   . exact cntF_bd r _ (by omega)
theorem data_all:∀(l:List (One×ByteArray)) (left:Int),xU l left=true->∀d∈l,(d.2.size:Int)<=left
 |d::r,left,h,x,hx=>by
   unfold xU at h;rw[Bool.and_eq_true,decide_eq_true_eq]at h
   rcases List.mem_cons.1 hx with rfl |hx
   . exact h.1
   . have:=data_all r _ h.2 x hx;omega
theorem allm{α:Type}{f:α->Bool}{l:List α}(h:l.all f=true):∀x∈l,f x=true:=List.all_eq_true.1 h
theorem cm_of{m:Md}(hc:zU m=0):Cm m:=by
 unfold zU at hc;split at hc
 . cases hc
 rename_i hf;split at hc
 . cases hc
 rename_i hm;split at hc
 . cases hc
 rename_i hs;have hf2:fewB m=true:=(by simpa using hf)
 have hm2:flatM m=true:=(by simpa using hm)
 have hs2:jG m=true:=(by simpa using hs)
 unfold fewB few0 few1 few2 few3 few4 few5 yZ at hf2;simp only[Bool.and_eq_true,decide_eq_true_eq,List.all_cons,List.all_nil,le4,List.all_eq_true]at hf2;obtain⟨⟨l0,l1,l2,l3,l4,l5,l6,l8,l9,_⟩,f0,f1,f2,f3,f4,f5⟩:=hf2;unfold jG sh1 sh2 sh3 sh4 sh5 sh6 sh7 sh8 sh9 at hs2;rw[Bool.and_eq_true,Bool.and_eq_true,Bool.and_eq_true,Bool.and_eq_true,Bool.and_eq_true,Bool.and_eq_true,Bool.and_eq_true,Bool.and_eq_true,Bool.and_eq_true]at hs2;obtain⟨s0,s1,s2,s3,s4,s5,s6,s7,s8,s9⟩:=hs2;refine⟨by omega,by omega,by omega,by omega,by omega,by omega,by omega,by omega,by omega,by omega,λt ht=> ?_,λt ht=> ?_,λt ht=> ?_,allm s2,allm s3,λt ht=> ?_,λt ht=> ?_,allm s6,λt ht=> ?_,λt ht=> ?_,?_⟩
 . have h1:=f1 t ht;unfold yT at h1;rw[Bool.and_eq_true,decide_eq_true_eq,decide_eq_true_eq]at h1;have h2:=allm s0 t ht;unfold typS at h2;rw[Bool.and_eq_true]at h2;exact⟨by omega,by omega,h2.1,h2.2⟩
 . have h2:=allm s1 t ht;unfold impS at h2;rw[Bool.and_eq_true,Bool.and_eq_true]at h2;exact h2
 . have h1:=f5 t ht;unfold funFew at h1;rw[Bool.and_eq_true,decide_eq_true_eq]at h1;have h2:=allm s9 t ht;unfold funS at h2;rw[Bool.and_eq_true,Bool.and_eq_true]at h2;have h3:=allm hm2 t ht;exact⟨h2.1,by omega,h2.2.1,h1.2,h2.2.2,h3⟩
 . have h2:=allm s4 t ht;unfold gloS at h2;rw[Bool.and_eq_true]at h2;exact h2
 . have h2:=allm s5 t ht;unfold expS at h2;rw[Bool.and_eq_true,Bool.and_eq_true,Bool.and_eq_true,decide_eq_true_eq,decide_eq_true_eq]at h2;exact h2
 . have h1:=f2 t ht;unfold elmFew at h1;rw[decide_eq_true_eq]at h1;have h2:=allm s7 t ht;unfold elmS at h2;rw[Bool.and_eq_true]at h2;exact⟨h2.1,by omega,h2.2⟩
 . have h2:=allm s8 t ht;unfold datS at h2;have h3:=data_all m.datas 262144 f3 t ht;exact⟨h2,by omega⟩
 . have:=cntF_bd m.funcs 65536 (by omega);omega
theorem typ1_tyo{t:Int}(h:vA t=true):tyo t:=by unfold vA at h;unfold tyo;simp only[Bool.or_eq_true,beq_iff_eq]at h;omega
theorem cnt_sz:∀(l:Il) (left:Int),0<=cnt l left->(szI l:Int)+cnt l left<=left
 |.nil,left,h=>by unfold szI cnt;omega
 |.cons op x y n ls body els rest,left,h=>by
   have hs:szI (.cons op x y n ls body els rest)=1+szI body+szI els+szI rest:=rfl;unfold cnt at h ⊢
   dsimp only at h ⊢
   generalize hl2:(if 0<=left-1 then cnt body (left-1)else left-1)=l2 at h ⊢;generalize hl3:(if 0<=l2 then cnt els l2 else l2)=l3 at h ⊢
   by_cases h3:l3<0
   . rw[if_pos h3]at h;omega
   . rw[if_neg h3]at h ⊢;have r3:=cnt_sz rest l3 h
     by_cases h2:0<=l2
     . rw[if_pos h2]at hl3;have r2:=cnt_sz els l2 (by omega)
       by_cases h1:0<=left-1
       . rw[if_pos h1]at hl2;have r1:=cnt_sz body (left-1) (by omega);rw[hs];omega
       . rw[if_neg h1]at hl2;omega
     . rw[if_neg h2]at hl3;omega
theorem cntF_sz:∀(l:List (Int×List Int×Il)) (left:Int),0<=jS l left->∀f∈l,(szI f.2.2:Int)<=left
 | [],left,h,f,hf=>by cases hf
 |g::r,left,h,f,hf=>by
   unfold jS at h
   by_cases h1:cnt g.2.2 left<0
   . rw[if_pos h1]at h;omega
   . rw[if_neg h1]at h;have h2:=cnt_sz g.2.2 left (by omega)
     rcases List.mem_cons.1 hf with rfl |hf
     . omega
     . have:=cntF_sz r _ h f hf;omega
end Go.Proofs.YtacohbllbjgdgaaGreatDoor
namespace Go.Proofs.YtacohbllbjgdgaaGreatDoor
open Go.RowKit
def eLim (most:Int) (x:Int×Int×Bool):Int:=if(x.2.2=true/\x.2.1<x.1)\/most<x.1\/most<x.2.1 then 60 else 0
def limV (most:Int) (l:List (Int×Int×Bool)):Int:=qC (eMany l.length) (zD (eLim most) l)
def offV (op:Int):Int:=if op=35 then 62 else if op=65 then 0 else 60
section
variable {w:World}
theorem roffset_any(op x y n:Int)(v4 v5 v6:Value)(w:World):Calls Tryz.prog 57 #[.agg #[.int .i64 op,.int .i64 x,.int .i64 y,.int .i64 n,v4,v5,v6]] w λe w'=>e=.returned (.int .i64 (offV op))/\Below w.heap.size w w':=by
 have hb:=Below.of_alloc w (.cells #[.int .i64 op,.int .i64 x,.int .i64 y,.int .i64 n,v4,v5,v6] 49)
 by_cases h1:op=35
 . subst h1;go_enter Tryz.func57,Tryz.ntmps57;go_wp2;go_ret;exact⟨rfl,hb⟩
 . by_cases h2:op=65
   . subst h2;go_enter Tryz.func57,Tryz.ntmps57;go_wp2;go_ret;exact⟨rfl,hb⟩
   . have e:offV op=60:=(by unfold offV;rw[if_neg h1,if_neg h2])
     have b1:(op==35)=false:=(by simp[h1])
     have b2:(op==65)=false:=(by simp[h2])
     rw[e];clear h1 h2;go_enter Tryz.func57,Tryz.ntmps57;go_wp2;go_ret;exact⟨rfl,hb⟩
theorem rfirst_any{l:List Int}{a:Option Addr}{c:Nat}(h:IntsIn w a l):Calls Tryz.prog 32 #[.slice a l.length c] w λe w'=>e=.returned (.int .i64 (zD (λx=>x) l))/\w'=w:=by
 have h63:=h.1;generalize hX:zD (λx:Int=>x) l=X;have hX0:Hid (X=zD (λx:Int=>x) (l.drop 0)):=zh hX.symm;clear hX;go_enter Tryz.func32,Tryz.ntmps32;go_wp2_with fail;go_loopw [3] (λvi wr=>wr=w/\∃i:Nat,vi=.int .i64 i/\i<=l.length/\Hid (X=zD (λx:Int=>x) (l.drop i))) (λvi _=>l.length-(intOf vi).toNat)
 case atStart=>exact⟨rfl,0,rfl,Nat.zero_le _,hX0⟩
 case round=>
  clear hX0;obtain⟨rfl,i,rfl,hi,hq⟩:=hrel
  by_cases hlt:i<l.length
  . obtain⟨x,hx⟩:∃x,l[i]? =some x:=⟨_,List.getElem?_eq_getElem hlt⟩
    obtain⟨b,o,rfl,hc⟩:=h.at hx;have i0:(0:Int)<=(i:Int):=(by omega)
    have hq1:=hq.out.trans (qH hx);clear hq
    by_cases hz:x=0
    . rw[if_pos hz]at hq1;replace hq1:=zh hq1;subst hz;go_wp2
      go_roundw
      case rel=>exact⟨trivial,i+1,by simp,by omega,hq1⟩
      case measure=>simp[intOf];omega
    . rw[if_neg hz]at hq1;have hne:(x !=0)=true:=(by simp[hz])
      subst hq1;go_wp2;go_ret;exact⟨rfl,rfl⟩
  . obtain rfl:i=l.length:=by omega
    have e:X=0:=(by have:=hq.out;rw[List.drop_length]at this;exact this)
    subst e;go_wp2;go_ret;exact⟨rfl,rfl⟩
theorem rlimits_any'(most:Int){l:List (Int×Int×Bool)}{a:Option Addr}{c:Nat}(h:RowsIn LimitsAt 3 w a l):Calls Tryz.prog 56 #[.slice a l.length c,.int .i64 most] w λe w'=>e=.returned (.int .i64 (limV most l))/\Below w.heap.size w w':=by
 have h63:=h.1
 by_cases hl:l.length<=1
 . have e1:limV most l=zD (eLim most) l:=by unfold limV;rw[show eMany l.length=0 by unfold eMany;rw[if_pos hl]];rfl
   rw[e1];generalize hX:zD (eLim most) l=X;have hX0:Hid (X=zD (eLim most) (l.drop 0)):=zh hX.symm;clear hX e1;have i1:¬(1:Int)<(l.length:Int):=(by omega)
   have i2:¬1<l.length:=(by omega)
   replace hl:=zh hl;go_enter Tryz.func56,Tryz.ntmps56;go_wp2_with fail;go_loopw [5] (λvi wr=>∃i:Nat,vi=.int .i64 i/\i<=l.length/\Hid (X=zD (eLim most) (l.drop i))/\Hid (Below w.heap.size w wr)) (λvi _=>l.length-(intOf vi).toNat)
   case atStart=>exact⟨0,rfl,Nat.zero_le _,hX0,zh (Below.refl _ _)⟩
   case round=>
    clear hX0;obtain⟨i,rfl,hi,hq,hb⟩:=hrel
    by_cases hlt:i<l.length
    . obtain⟨x,hx⟩:∃x,l[i]? =some x:=⟨_,List.getElem?_eq_getElem hlt⟩
      obtain⟨b,o,rfl,r1,r2,r3⟩:=h.row hx;replace r1:w.cell? ⟨b,o+i*3,none⟩=some (.int .i64 x.1):=r1;replace r2:w.cell? ⟨b,o+i*3+1,none⟩=some (.int .i64 x.2.1):=r2;replace r3:w.cell? ⟨b,o+i*3+2,none⟩=some (.bool x.2.2):=r3;replace r1:=zA hb.out _ _ r1;replace r2:=zA hb.out _ _ r2;replace r3:=zA hb.out _ _ r3;have hq1:=hq.out.trans (qH hx);have hdr:∀n,Hid (Below w.heap.size w (wr.drewN n)):=λn=>zh (hb.out.trans ((zB n).mono hb.out.size));have i0:(0:Int)<=(i:Int):=(by omega)
      have ilt:(i:Int)<(l.length:Int):=(by omega)
      clear hq hx;obtain⟨mn,mx,hs⟩:=x
      dsimp only at r1 r2 r3 hq1
      have bad:((hs=true/\mx<mn)\/most<mn\/most<mx)->Hid (X=60):=λq=>zh (by
       have e:eLim most (mn,mx,hs)=60:=(by unfold eLim;exact if_pos q)
       rw[hq1,e];rfl)
      have good:¬((hs=true/\mx<mn)\/most<mn\/most<mx)->Hid (X=zD (eLim most) ((l.drop (i+1)))):=λq=>zh (by
       have e:eLim most (mn,mx,hs)=0:=(by unfold eLim;exact if_neg q)
       rw[hq1,e];rfl)
      clear hq1
      have hcase:(hs=true/\mx<mn)\/((hs=false\/(hs=true/\¬mx<mn))/\most<mn)\/((hs=false\/(hs=true/\¬mx<mn))/\¬most<mn/\most<mx)\/((hs=false\/(hs=true/\¬mx<mn))/\¬most<mn/\¬most<mx):=by
       cases hs<;>simp<;>omega
      have h60:Hid (X=60)->X=60:=λq=>q.out
      rcases hcase with⟨rfl,c1⟩ |⟨rfl |⟨rfl,c1⟩,c2⟩ |⟨rfl |⟨rfl,c1⟩,c2,c3⟩ |⟨rfl |⟨rfl,c1⟩,c2,c3⟩
      . have e:=bad (.inl ⟨rfl,c1⟩);replace c1:decide (mx<mn)=true:=decide_eq_true (by omega);clear good bad h60;go_wp2_with fail
        go_quiet (fail)
        go_wp2;go_ret;rw[e.out];exact⟨rfl,(hdr _).out⟩
      . have e:=bad (.inr (.inl c2));replace c2:decide (most<mn)=true:=decide_eq_true (by omega);clear good bad h60;go_wp2_with fail
        go_quiet (fail)
        go_wp2;go_ret;rw[e.out];exact⟨rfl,(hdr _).out⟩
      . have e:=bad (.inr (.inl c2));replace c1:decide (mx<mn)=false:=decide_eq_false (by omega);replace c2:decide (most<mn)=true:=decide_eq_true (by omega);clear good bad h60;go_wp2_with fail
        go_quiet (fail)
        go_wp2;go_ret;rw[e.out];exact⟨rfl,(hdr _).out⟩
      . have e:=bad (.inr (.inr c3));replace c2:decide (most<mn)=false:=decide_eq_false (by omega);replace c3:decide (most<mx)=true:=decide_eq_true (by omega);clear good bad h60;go_wp2_with fail
        go_quiet (fail)
        go_wp2;go_ret;rw[e.out];exact⟨rfl,(hdr _).out⟩
      . have e:=bad (.inr (.inr c3));replace c1:decide (mx<mn)=false:=decide_eq_false (by omega);replace c2:decide (most<mn)=false:=decide_eq_false (by omega);replace c3:decide (most<mx)=true:=decide_eq_true (by omega);clear good bad h60;go_wp2_with fail
        go_quiet (fail)
        go_wp2;go_ret;rw[e.out];exact⟨rfl,(hdr _).out⟩
      . have e:=good (by simp;omega);replace c2:decide (most<mn)=false:=decide_eq_false (by omega);replace c3:decide (most<mx)=false:=decide_eq_false (by omega);clear good bad h60;go_wp2_with fail
        go_quiet (fail)
        have hb2:=hdr nq;go_wp2
        go_roundw
        case rel=>exact⟨i+1,by simp,by omega,e,hb2⟩
        case measure=>simp[intOf];omega
      . have e:=good (by simp;omega);replace c1:decide (mx<mn)=false:=decide_eq_false (by omega);replace c2:decide (most<mn)=false:=decide_eq_false (by omega);replace c3:decide (most<mx)=false:=decide_eq_false (by omega);clear good bad h60;go_wp2_with fail
        go_quiet (fail)
        have hb2:=hdr nq;go_wp2
        go_roundw
        case rel=>exact⟨i+1,by simp,by omega,e,hb2⟩
        case measure=>simp[intOf];omega
    . obtain rfl:i=l.length:=by omega
      have e:X=0:=(by have:=hq.out;rw[List.drop_length]at this;exact this)
      subst e;go_wp2;go_ret;exact⟨rfl,hb.out⟩
 . have e1:limV most l=3:=by unfold limV;rw[show eMany l.length=3 by unfold eMany;rw[if_neg hl]];rfl
   rw[e1];have i1:(1:Int)<(l.length:Int):=(by omega)
   have i2:1<l.length:=(by omega)
   clear e1 hl;go_enter Tryz.func56,Tryz.ntmps56;go_wp2;go_ret;exact⟨rfl,Below.refl _ _⟩
end
end Go.Proofs.YtacohbllbjgdgaaGreatDoor
namespace Go.Proofs.YtacohbllbjgdgaaGreatDoor
open Go.RowKit
def eTyp (t:List Int×List Int):Int:=if t.2.length<=1 then 0 else 60
def eIdx (m:Md) (i:Nat):Int:=if(typV m (i:Int)).isSome=true then 0 else 61
def eGloR (g:Int×Bool×One):Int:=if g.2.2.op=35 then 62 else if(g.2.2.op=65↔g.1=127)then 0 else 60
def headsR (m:Md):Int:=qC (zD eTyp m.types) (qC (zD (eIdx m) (List.range (m.imports.length+m.funcs.length))) (qC (qC (limV 4294967296 m.tables) (limV 65536 m.mems)) (zD eGloR m.globals)))
def xR (A:MA) (m:Md):Obj:=.cells #[(A.v m).v0,(A.v m).v1,(A.v m).v2,(A.v m).v3,(A.v m).v4,(A.v m).v5,(A.v m).v6,(A.v m).v7,(A.v m).v8,(A.v m).v9] 32
theorem qO{w:World}{A:MA}{m:Md}{B:Nat}(h:w.heap[B]? =some (xR A m)):w.cell? ⟨B,0,none⟩=some (.slice A.a0 m.types.length A.k0)/\w.cell? ⟨B,1,none⟩=some (.slice A.a1 m.imports.length A.k1)/\w.cell? ⟨B,2,none⟩=some (.slice A.a2 m.funcs.length A.k2)/\w.cell? ⟨B,3,none⟩=some (.slice A.a3 m.tables.length A.k3)/\w.cell? ⟨B,4,none⟩=some (.slice A.a4 m.mems.length A.k4)/\w.cell? ⟨B,5,none⟩=some (.slice A.a5 m.globals.length A.k5)/\w.cell? ⟨B,6,none⟩=some (.slice A.a6 m.exports.length A.k6)/\w.cell? ⟨B,7,none⟩=some (.slice A.a7 m.start.length A.k7)/\w.cell? ⟨B,8,none⟩=some (.slice A.a8 m.elems.length A.k8)/\w.cell? ⟨B,9,none⟩=some (.slice A.a9 m.datas.length A.k9):=by
 unfold xR at h;refine⟨?_,?_,?_,?_,?_,?_,?_,?_,?_,?_⟩;all_goals rw[cell_of_row w B _ _ _ _ h];rfl
structure Bm (A:MA) (m:Md) (B:Nat) (w0 w:World):Prop where
 h:w.heap[B]? =some (xR A m)
 m:MdA w m A
 b:Below w0.heap.size w0 w
theorem Bm.step{A:MA}{m:Md}{B:Nat}{w0 w w':World}(h:Bm A m B w0 w)(b:Below w.heap.size w w'):Bm A m B w0 w':=
 ⟨(b.block B (lt_of_block h.h)).trans h.h,MdAt.keep (zA b) h.m,h.b.trans (b.mono h.b.size)⟩
theorem bm_new{A:MA}{m:Md}{w:World}(h:MdA w m A):Bm A m w.heap.size w (w.alloc (xR A m)):=
 ⟨heap_alloc_new w _,MdAt.keep (zA (Below.of_alloc w _)) h,Below.of_alloc w _⟩
theorem ints_two(w:World)(x y:Int):IntsIn (w.alloc (.cells #[.int .i64 x,.int .i64 y] 3)) (some ⟨w.heap.size,0,none⟩) [x,y]:=by
 refine⟨by simp,.inr ⟨_,_,rfl,λi z hz=> ?_⟩⟩
 rcases i with _ |_ |i
 . simp at hz;subst hz;exact World.cell?_alloc_at _ _ _ 0 (by simp)
 . simp at hz;subst hz;exact World.cell?_alloc_at _ _ _ 1 (by simp)
 . simp at hz
theorem first_two(a b:Int):zD (λx:Int=>x) [a,b]=qC a b:=by
 unfold zD qC zD zD
 by_cases ha:a=0
 . rw[if_pos ha,if_pos ha];split
   . rename_i h;exact h.symm
   . rfl
 . rw[if_neg ha,if_neg ha]
section
variable {w:World} {A:MA} {m:Md}
theorem rheads_any(hA:MdA w m A)(hsz:m.imports.length+m.funcs.length<=1099511627776):Calls Tryz.prog 31 #[.agg #[(A.v m).v0,(A.v m).v1,(A.v m).v2,(A.v m).v3,(A.v m).v4,(A.v m).v5,(A.v m).v6,(A.v m).v7,(A.v m).v8,(A.v m).v9]] w λe w'=>e=.returned (.int .i64 (headsR m))/\Below w.heap.size w w':=by
 generalize hX:headsR m=X;have hX1:Hid (X=qC (zD eTyp m.types) (qC (zD (eIdx m) (List.range (m.imports.length+m.funcs.length))) (qC (qC (limV 4294967296 m.tables) (limV 65536 m.mems)) (zD eGloR m.globals)))):=zh hX.symm;clear hX;have hbm:=bm_new hA;have l0:=hA.types.1;have l1:=hA.imports.1;have l2:=hA.funcs.1;have l5:=hA.globals.1;obtain⟨w1,hw1⟩:∃w1,w1=w.alloc (xR A m):=⟨_,rfl⟩
 obtain⟨B,hB⟩:∃B,B=w.heap.size:=⟨_,rfl⟩
 rw[<-hw1,<-hB]at hbm;unfold xR at hw1;go_enter Tryz.func31,Tryz.ntmps31
 go_upto_region 1 with(fail)
 rw[<-hw1];rw[<-hB];clear hw1;replace hB:=zh hB;replace hbm:=zh hbm;go_wp2_with fail;go_loopw [3] (λvi wr=>∃i:Nat,vi=.int .i64 i/\i<=m.types.length/\Hid (zD eTyp m.types=zD eTyp (m.types.drop i))/\Hid (Bm A m B w wr)) (λvi _=>m.types.length-(intOf vi).toNat)
 case atStart=>exact⟨0,rfl,Nat.zero_le _,zh rfl,hbm⟩
 case round=>
  clear hbm;obtain⟨i,rfl,hi,hf,hbm⟩:=hrel;obtain⟨x0,x1,x2,x3,x4,x5,x6,x7,x8,x9⟩:=qO hbm.out.h
  by_cases hlt:i<m.types.length
  . obtain⟨x,hx⟩:∃x,m.types[i]? =some x:=⟨_,List.getElem?_eq_getElem hlt⟩
    obtain⟨b,o,hab,_,⟨ra,rc,r2,_⟩⟩:=hbm.out.m.types.row hx;replace r2:wr.cell? ⟨b,o+i*2+1,none⟩=some (.slice ra x.2.length rc):=r2;rw[hab]at x0;replace hab:=zh hab;have hf1:=hf.out.trans (qH hx);have i0:(0:Int)<=(i:Int):=(by omega)
    clear hf hx
    by_cases hc:x.2.length<=1
    . have e:eTyp x=0:=(by unfold eTyp;rw[if_pos hc])
      rw[e,if_pos rfl]at hf1;replace hf1:=zh hf1;have n1:¬1<x.2.length:=(by omega)
      clear hc e;go_wp2_with fail
      go_roundw
      case rel=>exact⟨i+1,by simp,by omega,hf1,hbm⟩
      case measure=>simp[intOf];omega
    . have e:eTyp x=60:=(by unfold eTyp;rw[if_neg hc])
      rw[e,if_neg (by decide)]at hf1;have e2:X=60:=(by rw[hX1.out,hf1];rfl)
      have n1:1<x.2.length:=(by omega)
      clear hc e hf1;replace e2:=zh e2;go_wp2;go_ret;rw[e2.out];exact⟨rfl,hbm.out.b⟩
  . obtain rfl:i=m.types.length:=by omega
    have e1:Hid (X=qC (zD (eIdx m) (List.range (m.imports.length+m.funcs.length))) (qC (qC (limV 4294967296 m.tables) (limV 65536 m.mems)) (zD eGloR m.globals))):=zh (by
     have:=hf.out;rw[List.drop_length]at this;rw[hX1.out,this];rfl)
    clear hf hlt hX1;have hwr:IntKind.i64.wrap ((m.imports.length:Int)+(m.funcs.length:Int))=(m.imports.length:Int)+(m.funcs.length:Int):=(by rw[IntKind.wrap_i64];omega)
    go_wp2_with fail;go_loopw [4] (λvi wr=>∃i:Nat,vi=.int .i64 i/\i<=m.imports.length+m.funcs.length/\Hid (zD (eIdx m) (List.range (m.imports.length+m.funcs.length))=zD (eIdx m) ((List.range (m.imports.length+m.funcs.length)).drop i))/\Hid (Bm A m B w wr)) (λvi _=>m.imports.length+m.funcs.length-(intOf vi).toNat)
    case atStart=>exact⟨0,rfl,Nat.zero_le _,zh rfl,hbm⟩
    case round=>
     clear hbm x0 x1 x2 x3 x4 x5 x6 x7 x8 x9;obtain⟨i,rfl,hi,hf,hbm⟩:=hrel;obtain⟨x0,x1,x2,x3,x4,x5,x6,x7,x8,x9⟩:=qO hbm.out.h
     by_cases hlt:i<m.imports.length+m.funcs.length
     . have hx:(List.range (m.imports.length+m.funcs.length))[i]? =some i:=(by rw[List.getElem?_range hlt])
       have hf1:=hf.out.trans (qH hx);have i0:(0:Int)<=(i:Int):=(by omega)
       have i1:(i:Int)<(m.imports.length:Int)+(m.funcs.length:Int):=(by omega)
       have hty:=typ_any hbm.out.m (Below.refl _ _) (i:Int) hsz;unfold MA.v at hty
       dsimp only at hty
       replace hlt:=zh hlt;clear hf hx;cases ht:typV m (i:Int)with
       |none=>
         rw[ht]at hty;have e:eIdx m i=61:=(by unfold eIdx;rw[ht];rfl)
         rw[e,if_neg (by decide)]at hf1;have e2:X=61:=(by rw[e1.out,hf1];rfl)
         clear hf1 e1 e;replace e2:=zh e2;replace ht:=zh ht;go_wp2_with fail;refine hty.mono ?_;rintro e w3 ⟨rfl,b3⟩;have hb4:=hbm.out.step b3;replace hb4:=zh hb4;go_wp2;go_ret;rw[e2.out];exact⟨rfl,hb4.out.b.trans ((Below.of_alloc _ _).mono hb4.out.b.size)⟩
       |some t=>
         rw[ht]at hty;have e:eIdx m i=0:=(by unfold eIdx;rw[ht];rfl)
         rw[e,if_pos rfl]at hf1;clear e;replace hf1:=zh hf1;replace ht:=zh ht;go_wp2_with fail;refine hty.mono ?_;rintro e w3 ⟨⟨pa,pc,ra,rc,rfl,j1,j2⟩,b3⟩;have hb4:=hbm.out.step b3;have hb5:∀o,Hid (Bm A m B w (w3.alloc o)):=λo=>zh (hb4.step (Below.of_alloc _ o));replace hb4:=zh hb4;clear j1 j2;go_wp2
         go_roundw
         case rel=>exact⟨i+1,by simp,by have:=hlt.out;omega,hf1,hb5 _⟩
         case measure=>simp[intOf];have:=hlt.out;omega
     . obtain rfl:i=m.imports.length+m.funcs.length:=by omega
       have e2:Hid (X=qC (qC (limV 4294967296 m.tables) (limV 65536 m.mems)) (zD eGloR m.globals)):=zh (by
        have:=hf.out;rw[List.drop_of_length_le (by simp)]at this;rw[e1.out,this];rfl)
       clear hf e1;have i2:¬((m.imports.length:Int)+(m.funcs.length:Int)<(m.imports.length:Int)+(m.funcs.length:Int)):=(by omega)
       go_wp2_with fail;have hT:=λw' (b:Below wr.heap.size wr w')=>rlimits_any' 4294967296 (w:=w') (c:=A.k3) ((hbm.out.step b).m.tables);have hM:=λw' (b:Below wr.heap.size wr w')=>rlimits_any' 65536 (w:=w') (c:=A.k4) ((hbm.out.step b).m.mems);have hx4:∀w',Below wr.heap.size wr w'->w'.cell? ⟨B,4,none⟩=some (.slice A.a4 m.mems.length A.k4):=λw' b=>(qO (hbm.out.step b).h).2.2.2.2.1;have bd:Below wr.heap.size wr wr.drew:=zB (w:=wr) 1;generalize hL1:limV 4294967296 m.tables=L1 at hT e2;generalize hL2:limV 65536 m.mems=L2 at hM e2;replace hT:=zh hT;replace hM:=zh hM;replace hx4:=zh hx4;replace bd:=zh bd
       go_cut [7] from 44 to 51 (λv7 wx=>v7=.int .i64 (qC L1 L2)/\Hid (Below wr.heap.size wr wx))
       case first=>
        go_region_with (first
         |(go_at_call 56;with_reducible refine(hT.out _ bd.out).mono ?_;rintro e w3 ⟨rfl,b3⟩;have q1:=zh (bd.out.trans (b3.mono bd.out.size));have u4:=hx4.out _ q1.out;clear b3)
         |(go_at_call 56;with_reducible refine(hM.out _ q1.out).mono ?_;rintro e w4 ⟨rfl,b4⟩;have q2:=zh (q1.out.trans (b4.mono q1.out.size));clear b4)
         |(go_at_call 32;refine(rfirst_any (ints_two w4 L1 L2)).mono ?_;rintro e w5 ⟨rfl,rfl⟩))
        all_goals go_wp2_with fail
        all_goals go_meet
        all_goals exact⟨by rw[first_two],zh (q2.out.trans ((Below.of_alloc w4 _).mono q2.out.size))⟩
       case rest=>
        obtain⟨rfl,hbc⟩:=hcut;have hbm2:=zh (hbm.out.step hbc.out);clear hT hM hx4 bd hbc hbm x0 x1 x2 x3 x4 x5 x6 x7 x8 x9 hL1 hL2 hlt i2;generalize qC L1 L2=L at e2 ⊢
        by_cases hz:L=0
        . have e3:Hid (X=zD eGloR m.globals):=zh (by rw[e2.out,hz];rfl);have hlb:(L !=0)=false:=(by simp[hz])
          clear e2 hz;go_wp2_with fail;go_loopw [8] (λvi wr=>∃i:Nat,vi=.int .i64 i/\i<=m.globals.length/\Hid (zD eGloR m.globals=zD eGloR (m.globals.drop i))/\Hid (Bm A m B w wr)) (λvi _=>m.globals.length-(intOf vi).toNat)
          case atStart=>exact⟨0,rfl,Nat.zero_le _,zh rfl,hbm2⟩
          case round=>
           clear hbm2;obtain⟨i,rfl,hi,hf,hbm⟩:=hrel;obtain⟨x0,x1,x2,x3,x4,x5,x6,x7,x8,x9⟩:=qO hbm.out.h
           by_cases hlt:i<m.globals.length
           . obtain⟨x,hx⟩:∃x,m.globals[i]? =some x:=⟨_,List.getElem?_eq_getElem hlt⟩
             obtain⟨b,o,hab,r1,r2,r3⟩:=hbm.out.m.globals.row hx;replace r1:wr.cell? ⟨b,o+i*9,none⟩=some (.int .i64 x.1):=r1;replace r2:wr.cell? ⟨b,o+i*9+1,none⟩=some (.bool x.2.1):=r2;obtain⟨⟨g0,g1,g2,g3⟩,⟨ga4,gk4,g4,_⟩,⟨ga5,gk5,g5,_⟩,⟨ga6,gk6,g6,_⟩,_⟩:=r3;rw[hab]at x5;replace hab:=zh hab;have hf1:=hf.out.trans (qH hx);have i0:(0:Int)<=(i:Int):=(by omega)
             have hal:∀o,Hid (Bm A m B w (wr.alloc o)):=λo=>zh (hbm.out.step (Below.of_alloc wr o));clear hf;replace hx:=zh hx;have good:eGloR x=0->Hid (zD eGloR m.globals=zD eGloR (m.globals.drop (i+1))):=λq=>zh (by rw[q,if_pos rfl]at hf1;exact hf1);have bad:∀k,k≠0->eGloR x=k->Hid (X=k):=λk hk q=>zh (by rw[q,if_neg hk]at hf1;rw[e3.out,hf1]);clear hf1;replace hlt:=zh hlt
             by_cases c35:x.2.2.op=35
             . have e4:=bad 62 (by decide) (by unfold eGloR;rw[if_pos c35]);rw[c35]at g0;clear good bad e3 c35;go_wp2;go_ret;rw[e4.out];exact⟨rfl,(hal _).out.b⟩
             . have b35:(x.2.2.op==35)=false:=(by simp[c35])
               by_cases c:(x.2.2.op=65↔x.1=127)
               . have e4:=good (by unfold eGloR;rw[if_neg c35,if_pos c])
                 have hcc:((x.2.2.op==65)=true/\(x.1==127)=true)\/((x.2.2.op==65)=false/\(x.1==127)=false):=by
                  by_cases c1:x.2.2.op=65
                  . exact .inl ⟨by simp[c1],by simp[c.1 c1]⟩
                  . exact .inr ⟨by simp[c1],by have h127:¬x.1=127:=λq=>c1 (c.2 q);simp[h127]⟩
                 clear good bad c35 c
                 rcases hcc with⟨b1,b2⟩ |⟨b1,b2⟩
                 all_goals(
                  go_wp2_with fail
                  go_roundw
                  case rel=>exact⟨i+1,by simp,by have:=hlt.out;omega,e4,hal _⟩
                  case measure=>simp[intOf];have:=hlt.out;omega)
               . have e4:=bad 60 (by decide) (by unfold eGloR;rw[if_neg c35,if_neg c])
                 have hcc:((x.2.2.op==65)=true/\(x.1==127)=false)\/((x.2.2.op==65)=false/\(x.1==127)=true):=by
                  by_cases c1:x.2.2.op=65
                  . exact .inl ⟨by simp[c1],by have:¬x.1=127:=λq=>c ⟨λ_=>q,λ_=>c1⟩;simp[this]⟩
                  . exact .inr ⟨by simp[c1],by
                     by_cases q:x.1=127
                     . simp[q]
                     . exact absurd ⟨λr=>absurd r c1,λr=>absurd r q⟩ c⟩
                 clear good bad c35 c e3
                 rcases hcc with⟨b1,b2⟩ |⟨b1,b2⟩
                 all_goals(
                  go_wp2;go_ret;rw[e4.out];exact⟨rfl,(hal _).out.b⟩)
           . obtain rfl:i=m.globals.length:=by omega
             have e4:X=0:=by have:=hf.out;rw[List.drop_length]at this;rw[e3.out,this];rfl
             clear hf hlt e3;replace e4:=zh e4;go_wp2;go_ret;rw[e4.out];exact⟨rfl,hbm.out.b⟩
        . have e3:Hid (X=L):=zh (by rw[e2.out];unfold qC;rw[if_neg hz]);have hlb:(L !=0)=true:=(by simp[hz])
          clear e2 hz;go_wp2;go_ret;rw[e3.out];exact⟨rfl,hbm2.out.b⟩
end
end Go.Proofs.YtacohbllbjgdgaaGreatDoor
namespace Go.Proofs.YtacohbllbjgdgaaGreatDoor
open Go.RowKit Go.Maps
theorem law92:Keyed Tryz.prog 9:=string_keyed Tryz.underlying9
theorem zero3(w:World):(zeroValue 3).run Tryz.prog w=.ok (.int .i64 0) w:=by kernel_rfl
def zi:DataW Unit:=.lit (.int .i64 0)
def metN (seen:List ByteArray) (l:List UInt8):Int:=if l∈seen.map (λs=>s.data.toList)then 1 else 0
def MapOf (w:World) (M n:Nat) (seen:List ByteArray):Prop:=∃D:DataW Unit,w.ownsMap Tryz.prog 9 (plainElem Tryz.prog 3) M n D/\∀l:List UInt8,D.atKey (.string l) zi=.lit (.int .i64 (metN seen l))
theorem mapOf_new(w:World):MapOf (w.alloc (.map #[] 0)) w.heap.size 0 []:=⟨.map [],World.ownsMap_made _ _ _ _,λl=>by
 have h:Maps.has (.map []:DataW Unit) (.string l)=false:=rfl;rw[atKey_of_not_has h];rfl⟩
theorem MapOf.kept{w w':World}{M n:Nat}{seen:List ByteArray}{row:Option Nat}(h:MapOf w M n seen)(g:w.grownBy w' row)(hne:some M≠row):MapOf w' M n seen:=by obtain⟨D,h1,h2⟩:=h;exact⟨D,h1.kept g hne,h2⟩
theorem below_grown{w w':World}(b:Below w.heap.size w w'):w.grownBy w' none:=⟨b.os,b.tape,b.output,b.size,λk hk _=>b.block k hk⟩
theorem MapOf.step{w w':World}{M n:Nat}{seen:List ByteArray}(h:MapOf w M n seen)(b:Below w.heap.size w w'):MapOf w' M n seen:=h.kept (below_grown b) (by simp)
theorem metN_cons(seen:List ByteArray)(s:ByteArray)(l:List UInt8):metN (s::seen) l=if l=s.data.toList then 1 else metN seen l:=by
 unfold metN
 by_cases h:l=s.data.toList
 . rw[if_pos h,if_pos (by rw[h];simp)]
 . rw[if_neg h];simp only[List.map_cons,List.mem_cons]
   by_cases h2:l∈seen.map (λs=>s.data.toList)
   . rw[if_pos (.inr h2),if_pos h2]
   . rw[if_neg (by rintro(q |q);exact h q;exact h2 q),if_neg h2]
theorem met_put{seen:List ByteArray}{D:DataW Unit}(hD:∀l:List UInt8,D.atKey (.string l) zi=.lit (.int .i64 (metN seen l)))(hm:IsMap D)(s:ByteArray)(l:List UInt8):(D.put (.string s.data.toList) (.lit (.int .i64 1))).atKey (.string l) zi=.lit (.int .i64 (metN (s::seen) l)):=by
 rw[metN_cons]
 by_cases h:l=s.data.toList
 . rw[if_pos h,h,atKey_put_same hm (by simp[WideAt.IsKeyLit])]
 . rw[if_neg h,atKey_put_other (by intro q;exact h (by simpa using q)),hD]
theorem expGo_step{m:Md}{x:ByteArray×Int×Int}{r:List (ByteArray×Int×Int)}{seen:List ByteArray}:expGo m (x::r) seen=if metN seen x.1.data.toList=1 then 63 else if x.2.2<yS m x.2.1 then expGo m r (x.1::seen)else 61:=by
 show(if x.1.data.toList∈seen.map (λs=>s.data.toList)then _ else _)=_
 unfold metN
 by_cases h:x.1.data.toList∈seen.map (λs=>s.data.toList)
 . rw[if_pos h,if_pos h,if_pos rfl]
 . rw[if_neg h,if_neg h,if_neg (show¬(0:Int)=1 by decide)]
theorem atone{D:DataW Unit}{l:List UInt8}{c v:Int}(h:D.atKey (.string l) zi=.lit (.int .i64 v))(k:D.atKey (.string l) (.lit (.int .i64 0))=.lit (.int .i64 c)):c=v:=by have:=k.symm.trans h;simpa using this
end Go.Proofs.YtacohbllbjgdgaaGreatDoor
