/- The reference's Count and Check. -/
import Derived.Test.YtacohbllbjgdgaaGreatDoorRg
import Derived.Test.YtacohbllbjgdgaaGreatDoorOa
import Derived.Test.YtacohbllbjgdgaaGreatDoorWe
import Derived.Test.YtacohbllbjgdgaaGreatDoorZr
import Derived.Test.YtacohbllbjgdgaaGreatDoorZv
set_option linter.all false
set_option maxRecDepth 100000
set_option maxHeartbeats 4000000
namespace Go.Proofs.YtacohbllbjgdgaaGreatDoor
open Go.RowKit
theorem cntF_neg:∀fs,vB fs (-1)= -1
 | []=>rfl
 |f::r=>by
   show(if cnt f.2.2 (-1)<0 then cnt f.2.2 (-1)else vB r (cnt f.2.2 (-1)))= -1
   rw[cnt_neg];rfl
theorem cntF_step(f:Int×List Int×Il)(r:List (Int×List Int×Il))(L:Int)(h: -1<=cnt f.2.2 L):vB (f::r) L=vB r (cnt f.2.2 L):=by
 show(if cnt f.2.2 L<0 then cnt f.2.2 L else vB r (cnt f.2.2 L))=_
 by_cases h0:cnt f.2.2 L<0
 . rw[if_pos h0,show cnt f.2.2 L= -1 by omega,cntF_neg]
 . rw[if_neg h0]
theorem rcountM_any(m:Md)(a0:Option Addr)(k0:Nat)(a1:Option Addr)(k1:Nat)(a2:Option Addr)(k2:Nat)(a3:Option Addr)(k3:Nat)(a4:Option Addr)(k4:Nat)(a5:Option Addr)(k5:Nat)(a6:Option Addr)(k6:Nat)(a7:Option Addr)(k7:Nat)(a8:Option Addr)(k8:Nat)(a9:Option Addr)(k9:Nat)(w:World)(h:MdAt w m a0 k0 a1 k1 a2 k2 a3 k3 a4 k4 a5 k5 a6 k6 a7 k7 a8 k8 a9 k9):Calls Tryz.prog 41 #[mdV m a0 k0 a1 k1 a2 k2 a3 k3 a4 k4 a5 k5 a6 k6 a7 k7 a8 k8 a9 k9] w λe w'=>e=.returned (.int .i64 (65536-vB m.funcs 65536))/\Below w.heap.size w w':=by
 have HM:=zh (h.keep (zA ((Below.refl w.heap.size w).alloc (Nat.le_refl _) (.cells #[.slice a0 m.types.length k0,.slice a1 m.imports.length k1,.slice a2 m.funcs.length k2,.slice a3 m.tables.length k3,.slice a4 m.mems.length k4,.slice a5 m.globals.length k5,.slice a6 m.exports.length k6,.slice a7 m.start.length k7,.slice a8 m.elems.length k8,.slice a9 m.datas.length k9] 32))));have n2:=h.funcs.1;have hB0:Hid (Below w.heap.size w (w.alloc (.cells #[.slice a0 m.types.length k0,.slice a1 m.imports.length k1,.slice a2 m.funcs.length k2,.slice a3 m.tables.length k3,.slice a4 m.mems.length k4,.slice a5 m.globals.length k5,.slice a6 m.exports.length k6,.slice a7 m.start.length k7,.slice a8 m.elems.length k8,.slice a9 m.datas.length k9] 32))):=zh ((Below.refl _ _).alloc (Nat.le_refl _) _);obtain⟨X,hX⟩:∃X,vB m.funcs 65536=X:=⟨_,rfl⟩
 rw[hX];have hX0:Hid (X=vB (m.funcs.drop 0) 65536):=zh hX.symm;clear hX;clear h;unfold mdV;go_enter Tryz.func41,Tryz.ntmps41;go_wp2_with fail;obtain⟨w0,hw0⟩:∃w0,w0=(w.alloc (.cells #[.slice a0 m.types.length k0,.slice a1 m.imports.length k1,.slice a2 m.funcs.length k2,.slice a3 m.tables.length k3,.slice a4 m.mems.length k4,.slice a5 m.globals.length k5,.slice a6 m.exports.length k6,.slice a7 m.start.length k7,.slice a8 m.elems.length k8,.slice a9 m.datas.length k9] 32)):=⟨_,rfl⟩
 rw[<-hw0];rw[<-hw0]at HM hB0;have hs0:w.heap.size<=w0.heap.size:=hB0.out.size;have y2:Hid (w0.cell? ⟨w.heap.size,2,none⟩=some (.slice a2 m.funcs.length k2)):=zh (by rw[hw0];exact World.cell?_alloc_at _ _ _ _ rfl);have hb:Hid (Below w0.heap.size w0 w0):=zh (Below.refl _ _);clear hw0;go_loopw [3,4] (λvn vi wr=>∃(i:Nat) (n L:Int),i<=m.funcs.length/\vi=.int .i64 i/\vn=.int .i64 n/\n+L=65536∧-1<=L/\L<=65536/\Hid (X=vB (m.funcs.drop i) L)/\Hid (Below w0.heap.size w0 wr)) (λ_ vi _=>m.funcs.length-(intOf vi).toNat)
 case atStart=>exact⟨0,0,65536,Nat.zero_le _,rfl,rfl,by omega,by omega,by omega,hX0,hb⟩
 case round=>
  clear hX0 hb;obtain⟨i,n,L,hi,rfl,rfl,hnL,hL0,hL1,hc,hb⟩:=hrel;have x2:wr.cell? ⟨w.heap.size,2,none⟩=some (.slice a2 m.funcs.length k2):=zA hb.out _ _ y2.out
  by_cases hneg:L= -1
  . have hv:X= -1:=(by rw[hc.out,hneg,cntF_neg])
    have hn7:n=65537:=(by omega)
    subst hn7;clear hc
    by_cases hiN:i<m.funcs.length
    . go_wp2;go_ret;exact⟨by rw[hv];rfl,hB0.out.trans (hb.out.mono hs0)⟩
    . go_wp2;go_ret;exact⟨by rw[hv];rfl,hB0.out.trans (hb.out.mono hs0)⟩
  by_cases hlt:i<m.funcs.length
  . obtain⟨f,hf⟩:∃f,m.funcs[i]? =some f:=⟨_,List.getElem?_eq_getElem hlt⟩
    obtain⟨b,o,e,hrow⟩:=(HM.out.funcs.keep λ_ _ _=>FuncAt.keep (zA hb.out)).row hf;subst e;obtain⟨c0,⟨a1',k1',c1,_⟩,⟨a2',k2',c2,l2,i2⟩⟩:=hrow;have hd:=drop_at hf;have hbd:=cnt_bd f.2.2 L (by omega);have hc2:Hid (X=vB (m.funcs.drop (i+1)) (cnt f.2.2 L)):=zh (by rw[hc.out,hd];exact cntF_step f _ L hbd.1);have hcb:=zh (rcount_any f.2.2 a2' k2' wr n L l2 i2 hnL hL0 hL1);clear hd hc hf i2 c0 c1
    generalize hY:cnt f.2.2 L=Y at*
    clear hY;go_wp2_with fail;refine hcb.out.mono ?_;rintro e w2 ⟨rfl,mm,hmm⟩;have hb2:Hid (Below w0.heap.size w0 w2):=zh (by rw[hmm];exact Go.below_drewN hb.out mm);clear hmm;go_wp2;exact⟨⟨i+1,65536-Y,Y,by omega,by simp,rfl,by omega,by omega,by omega,hc2,hb2⟩,by simp[intOf];omega⟩
  . have hiN:i=m.funcs.length:=(by omega)
    have hv:65536-X=min n 65537:=(by rw[hc.out,hiN,List.drop_length];show 65536-L=_;omega)
    clear hc;go_wp2;go_ret;exact⟨by rw[hv];rfl,hB0.out.trans (hb.out.mono hs0)⟩
def labF (t:Int×List Int×Il):Bool:=lab t.2.2
def flatF (t:Int×List Int×Il):Bool:=xN t.2.2 0
theorem flatM_F(m:Md):flatM m=m.funcs.all flatF:=rfl
theorem all_and {α:Type} (f g h:α->Bool) (hf:∀x,f x=(g x&&h x)):∀l:List α,l.all f=(l.all g&&l.all h)
 | []=>rfl
 |a::l=>by
   rw[List.all_cons,List.all_cons,List.all_cons,all_and f g h hf l,hf];cases g a<;>cases h a<;>cases l.all g<;>cases l.all h<;>rfl
theorem few_eq(m:Md):fewB m=(manyOk m&&(decide (65536-vB m.funcs 65536<=65536)&&m.funcs.all labF)):=by
 have h5:few5 m=(mo4 m&&m.funcs.all labF):=all_and funFew locFew labF (λt=>rfl) m.funcs
 show((vY m).all le4&&(decide ((m.start.length:Int)<=1)&&(m.types.all vP&&(m.elems.all yK&&(j7 m.datas 262144&&(decide (65536-vB m.funcs 65536<=65536)&&few5 m))))))=
  (((vY m).all le4&&(decide ((m.start.length:Int)<=1)&&(m.types.all vP&&(m.elems.all yK&&(j7 m.datas 262144&&mo4 m)))))&&(decide (65536-vB m.funcs 65536<=65536)&&m.funcs.all labF))
 rw[h5];cases (vY m).all le4<;>cases decide ((m.start.length:Int)<=1)<;>cases m.types.all vP<;>cases m.elems.all yK<;>cases j7 m.datas 262144<;>cases mo4 m<;>cases decide (65536-vB m.funcs 65536<=65536)<;>cases m.funcs.all labF<;>rfl
theorem shape_eq(m:Md):rshapeB m=qX m:=by
 have hi:m.imports.all impR=m.imports.all impS:=by
  congr 1;funext t
  show(zM t.2.2&&(jD t.1&&jD t.2.1))=(jD t.1&&(jD t.2.1&&zM t.2.2))
  cases zM t.2.2<;>cases jD t.1<;>cases jD t.2.1<;>rfl
 show(m.types.all typS&&(m.imports.all impR&&(m.funcs.all funS&&(m.globals.all gloS&&(m.exports.all yZ&&(m.elems.all elmS&&(m.datas.all datS&&(m.tables.all vM&&(m.mems.all vM&&m.start.all zM)))))))))=
  (m.types.all typS&&(m.imports.all impS&&(m.tables.all vM&&(m.mems.all vM&&(m.globals.all gloS&&(m.exports.all yZ&&(m.start.all zM&&(m.elems.all elmS&&(m.datas.all datS&&m.funcs.all funS)))))))))
 rw[hi];cases m.types.all typS<;>cases m.imports.all impS<;>cases m.funcs.all funS<;>cases m.globals.all gloS<;>cases m.exports.all yZ<;>cases m.elems.all elmS<;>cases m.datas.all datS<;>cases m.tables.all vM<;>cases m.mems.all vM<;>cases m.start.all zM<;>rfl
theorem ck_many{m:Md}(h:manyOk m=false):qI m=3:=by unfold qI;rw[few_eq,h];rfl
theorem ck_count{m:Md}(h:¬65536-vB m.funcs 65536<=65536):qI m=3:=by unfold qI;rw[few_eq,decide_eq_false h,Bool.false_and,Bool.and_false];rfl
theorem ck_lab{m:Md}(h:m.funcs.all labF=false):qI m=3:=by unfold qI;rw[few_eq,h,Bool.and_false,Bool.and_false];rfl
theorem ck_few{m:Md}(h1:manyOk m=true)(h2:65536-vB m.funcs 65536<=65536)(h3:m.funcs.all labF=true):qI m=if m.funcs.all flatF=false then 4 else if rshapeB m=false then 30 else 0:=by unfold qI;rw[few_eq,h1,decide_eq_true h2,h3,flatM_F,shape_eq];rfl
theorem rcheck_any(m:Md)(a0:Option Addr)(k0:Nat)(a1:Option Addr)(k1:Nat)(a2:Option Addr)(k2:Nat)(a3:Option Addr)(k3:Nat)(a4:Option Addr)(k4:Nat)(a5:Option Addr)(k5:Nat)(a6:Option Addr)(k6:Nat)(a7:Option Addr)(k7:Nat)(a8:Option Addr)(k8:Nat)(a9:Option Addr)(k9:Nat)(w:World)(h:MdAt w m a0 k0 a1 k1 a2 k2 a3 k3 a4 k4 a5 k5 a6 k6 a7 k7 a8 k8 a9 k9)(hds:∀t∈m.datas,t.2.size<=300000):Calls Tryz.prog 19 #[mdV m a0 k0 a1 k1 a2 k2 a3 k3 a4 k4 a5 k5 a6 k6 a7 k7 a8 k8 a9 k9] w λe w'=>e=.returned (.int .i64 (qI m))/\Below w.heap.size w w':=by
 have HM:=zh (h.keep (zA ((Below.refl w.heap.size w).alloc (Nat.le_refl _) (.cells #[.slice a0 m.types.length k0,.slice a1 m.imports.length k1,.slice a2 m.funcs.length k2,.slice a3 m.tables.length k3,.slice a4 m.mems.length k4,.slice a5 m.globals.length k5,.slice a6 m.exports.length k6,.slice a7 m.start.length k7,.slice a8 m.elems.length k8,.slice a9 m.datas.length k9] 32))));have n0:=h.types.1;have n1:=h.imports.1;have n2:=h.funcs.1;have n3:=h.tables.1;have n4:=h.mems.1;have n5:=h.globals.1;have n6:=h.exports.1;have n7:=h.start.1;have n8:=h.elems.1;have n9:=h.datas.1;have hB0:Hid (Below w.heap.size w (w.alloc (.cells #[.slice a0 m.types.length k0,.slice a1 m.imports.length k1,.slice a2 m.funcs.length k2,.slice a3 m.tables.length k3,.slice a4 m.mems.length k4,.slice a5 m.globals.length k5,.slice a6 m.exports.length k6,.slice a7 m.start.length k7,.slice a8 m.elems.length k8,.slice a9 m.datas.length k9] 32))):=zh ((Below.refl _ _).alloc (Nat.le_refl _) _);clear h;unfold mdV;go_enter Tryz.func19,Tryz.ntmps19
 go_upto_region 1 with fail
 obtain⟨w0,hw0⟩:∃w0,w0=(w.alloc (.cells #[.slice a0 m.types.length k0,.slice a1 m.imports.length k1,.slice a2 m.funcs.length k2,.slice a3 m.tables.length k3,.slice a4 m.mems.length k4,.slice a5 m.globals.length k5,.slice a6 m.exports.length k6,.slice a7 m.start.length k7,.slice a8 m.elems.length k8,.slice a9 m.datas.length k9] 32)):=⟨_,rfl⟩
 rw[<-hw0];rw[<-hw0]at HM hB0;have hs0:w.heap.size<=w0.heap.size:=hB0.out.size;have y0:Hid (w0.cell? ⟨w.heap.size,0,none⟩=some (.slice a0 m.types.length k0)):=zh (by rw[hw0];exact World.cell?_alloc_at _ _ _ _ rfl);have y1:Hid (w0.cell? ⟨w.heap.size,1,none⟩=some (.slice a1 m.imports.length k1)):=zh (by rw[hw0];exact World.cell?_alloc_at _ _ _ _ rfl);have y2:Hid (w0.cell? ⟨w.heap.size,2,none⟩=some (.slice a2 m.funcs.length k2)):=zh (by rw[hw0];exact World.cell?_alloc_at _ _ _ _ rfl);have y3:Hid (w0.cell? ⟨w.heap.size,3,none⟩=some (.slice a3 m.tables.length k3)):=zh (by rw[hw0];exact World.cell?_alloc_at _ _ _ _ rfl);have y4:Hid (w0.cell? ⟨w.heap.size,4,none⟩=some (.slice a4 m.mems.length k4)):=zh (by rw[hw0];exact World.cell?_alloc_at _ _ _ _ rfl);have y5:Hid (w0.cell? ⟨w.heap.size,5,none⟩=some (.slice a5 m.globals.length k5)):=zh (by rw[hw0];exact World.cell?_alloc_at _ _ _ _ rfl);have y6:Hid (w0.cell? ⟨w.heap.size,6,none⟩=some (.slice a6 m.exports.length k6)):=zh (by rw[hw0];exact World.cell?_alloc_at _ _ _ _ rfl);have y7:Hid (w0.cell? ⟨w.heap.size,7,none⟩=some (.slice a7 m.start.length k7)):=zh (by rw[hw0];exact World.cell?_alloc_at _ _ _ _ rfl);have y8:Hid (w0.cell? ⟨w.heap.size,8,none⟩=some (.slice a8 m.elems.length k8)):=zh (by rw[hw0];exact World.cell?_alloc_at _ _ _ _ rfl);have y9:Hid (w0.cell? ⟨w.heap.size,9,none⟩=some (.slice a9 m.datas.length k9)):=zh (by rw[hw0];exact World.cell?_alloc_at _ _ _ _ rfl)
 have hb:Hid (Below w0.heap.size w0 w0):=zh (Below.refl _ _);clear hw0;have x0:w0.cell? ⟨w.heap.size,0,none⟩=some (.slice a0 m.types.length k0):=zA hb.out _ _ y0.out;have x1:w0.cell? ⟨w.heap.size,1,none⟩=some (.slice a1 m.imports.length k1):=zA hb.out _ _ y1.out;have x2:w0.cell? ⟨w.heap.size,2,none⟩=some (.slice a2 m.funcs.length k2):=zA hb.out _ _ y2.out;have x3:w0.cell? ⟨w.heap.size,3,none⟩=some (.slice a3 m.tables.length k3):=zA hb.out _ _ y3.out;have x4:w0.cell? ⟨w.heap.size,4,none⟩=some (.slice a4 m.mems.length k4):=zA hb.out _ _ y4.out;have x5:w0.cell? ⟨w.heap.size,5,none⟩=some (.slice a5 m.globals.length k5):=zA hb.out _ _ y5.out;have x6:w0.cell? ⟨w.heap.size,6,none⟩=some (.slice a6 m.exports.length k6):=zA hb.out _ _ y6.out;have x7:w0.cell? ⟨w.heap.size,7,none⟩=some (.slice a7 m.start.length k7):=zA hb.out _ _ y7.out;have x8:w0.cell? ⟨w.heap.size,8,none⟩=some (.slice a8 m.elems.length k8):=zA hb.out _ _ y8.out;have x9:w0.cell? ⟨w.heap.size,9,none⟩=some (.slice a9 m.datas.length k9):=zA hb.out _ _ y9.out;go_wp2_with fail;refine(many_any m a0 k0 a1 k1 a2 k2 a3 k3 a4 k4 a5 k5 a6 k6 a7 k7 a8 k8 a9 k9 _ HM.out hds).mono ?_;rintro e w2 ⟨rfl,b2⟩;have hb:=zh (hb.out.trans (b2.mono hb.out.size));clear b2;clear x0 x1 x2 x3 x4 x5 x6 x7 x8 x9;cases hmo:manyOk m
 . have S':=zh (ck_many hmo);have x0:w2.cell? ⟨w.heap.size,0,none⟩=some (.slice a0 m.types.length k0):=zA hb.out _ _ y0.out;have x1:w2.cell? ⟨w.heap.size,1,none⟩=some (.slice a1 m.imports.length k1):=zA hb.out _ _ y1.out;have x2:w2.cell? ⟨w.heap.size,2,none⟩=some (.slice a2 m.funcs.length k2):=zA hb.out _ _ y2.out;have x3:w2.cell? ⟨w.heap.size,3,none⟩=some (.slice a3 m.tables.length k3):=zA hb.out _ _ y3.out;have x4:w2.cell? ⟨w.heap.size,4,none⟩=some (.slice a4 m.mems.length k4):=zA hb.out _ _ y4.out;have x5:w2.cell? ⟨w.heap.size,5,none⟩=some (.slice a5 m.globals.length k5):=zA hb.out _ _ y5.out;have x6:w2.cell? ⟨w.heap.size,6,none⟩=some (.slice a6 m.exports.length k6):=zA hb.out _ _ y6.out;have x7:w2.cell? ⟨w.heap.size,7,none⟩=some (.slice a7 m.start.length k7):=zA hb.out _ _ y7.out;have x8:w2.cell? ⟨w.heap.size,8,none⟩=some (.slice a8 m.elems.length k8):=zA hb.out _ _ y8.out;have x9:w2.cell? ⟨w.heap.size,9,none⟩=some (.slice a9 m.datas.length k9):=zA hb.out _ _ y9.out;go_wp2;go_ret;exact⟨by rw[S'.out];rfl,hB0.out.trans (hb.out.mono hs0)⟩
 . have x0:w2.cell? ⟨w.heap.size,0,none⟩=some (.slice a0 m.types.length k0):=zA hb.out _ _ y0.out;have x1:w2.cell? ⟨w.heap.size,1,none⟩=some (.slice a1 m.imports.length k1):=zA hb.out _ _ y1.out;have x2:w2.cell? ⟨w.heap.size,2,none⟩=some (.slice a2 m.funcs.length k2):=zA hb.out _ _ y2.out;have x3:w2.cell? ⟨w.heap.size,3,none⟩=some (.slice a3 m.tables.length k3):=zA hb.out _ _ y3.out;have x4:w2.cell? ⟨w.heap.size,4,none⟩=some (.slice a4 m.mems.length k4):=zA hb.out _ _ y4.out;have x5:w2.cell? ⟨w.heap.size,5,none⟩=some (.slice a5 m.globals.length k5):=zA hb.out _ _ y5.out;have x6:w2.cell? ⟨w.heap.size,6,none⟩=some (.slice a6 m.exports.length k6):=zA hb.out _ _ y6.out;have x7:w2.cell? ⟨w.heap.size,7,none⟩=some (.slice a7 m.start.length k7):=zA hb.out _ _ y7.out;have x8:w2.cell? ⟨w.heap.size,8,none⟩=some (.slice a8 m.elems.length k8):=zA hb.out _ _ y8.out;have x9:w2.cell? ⟨w.heap.size,9,none⟩=some (.slice a9 m.datas.length k9):=zA hb.out _ _ y9.out;go_wp2_with fail;refine(rcountM_any m a0 k0 a1 k1 a2 k2 a3 k3 a4 k4 a5 k5 a6 k6 a7 k7 a8 k8 a9 k9 _ (HM.out.keep (zA hb.out))).mono ?_;rintro e w3 ⟨rfl,b3⟩;have hb':=zh (hb.out.trans (b3.mono hb.out.size));clear b3 hb;have hb:=hb';clear hb';clear x0 x1 x2 x3 x4 x5 x6 x7 x8 x9
   by_cases hco:65536-vB m.funcs 65536<=65536
   . have qco:decide ((65536:Int)<65536-vB m.funcs 65536)=false:=decide_eq_false (by omega);go_wp2_with fail;clear qco;go_loopw [3] (λvi wr=>∃i:Nat,i<=m.funcs.length/\vi=.int .i64 i/\Hid ((m.funcs.take i).all labF=true)/\Hid (Below w0.heap.size w0 wr)) (λvi _=>m.funcs.length-(intOf vi).toNat)
     case atStart=>exact⟨0,Nat.zero_le _,rfl,zh rfl,hb⟩
     case round=>
      clear hb;obtain⟨i,hi,rfl,ha,hb⟩:=hrel
      by_cases hlt:i<m.funcs.length
      . obtain⟨t,ht⟩:∃t,m.funcs[i]? =some t:=⟨_,List.getElem?_eq_getElem hlt⟩
        obtain⟨b,o,e,hrow⟩:=(HM.out.funcs.keep λ_ _ _=>FuncAt.keep (zA hb.out)).row ht;have x2:wr.cell? ⟨w.heap.size,2,none⟩=some (.slice a2 m.funcs.length k2):=zA hb.out _ _ y2.out;subst e;have hn:=zh (jB ht ha.out);have hk0:=zh (Below.refl wr.heap.size wr);clear ht ha;obtain⟨ty,lo,bo⟩:=t;obtain⟨c0,_,⟨q2,r2,c2,l2,i2⟩⟩:=hrow;simp only at c2 i2 l2;have i2:=zh i2;clear c0;have hz:Hid (labF (ty,lo,bo)=lab bo):=zh rfl;go_wp2_with fail;refine(labels_any bo q2 r2 _ l2 (i2.out.below hk0.out)).mono ?_;rintro e w' ⟨rfl,rfl⟩;cases hX:lab bo
        . have hn2:=zh (hn.out.2 (by rw[hz.out,hX]));have S':=zh ((λ(h:m.funcs.all labF=false)=>ck_lab h) hn2.out);clear hX;go_wp2;go_ret;exact⟨by rw[S'.out];rfl,hB0.out.trans (hb.out.mono hs0)⟩
        . have hz:=zh (hz.out.trans (show _=true from by rw[hX]));clear hX;have hfb:=zh hb.out;go_wp2
          go_roundw
          case rel=>exact⟨i+1,by omega,by simp,zh (hn.out.1 hz.out),hfb⟩
          case measure=>simp[intOf];omega
      . have hiN:i=m.funcs.length:=(by omega)
        subst hiN;have ha2:m.funcs.all labF=true:=(by have:=ha.out;rwa [List.take_length]at this)
        have S2:=zh ((λ(h:m.funcs.all labF=true)=>ck_few hmo hco h) ha2);clear ha ha2 hi hlt;have x2:wr.cell? ⟨w.heap.size,2,none⟩=some (.slice a2 m.funcs.length k2):=zA hb.out _ _ y2.out;clear x2;have x2:wr.cell? ⟨w.heap.size,2,none⟩=some (.slice a2 m.funcs.length k2):=zA hb.out _ _ y2.out;go_wp2_with fail;go_loopw [4] (λvi wr=>∃i:Nat,i<=m.funcs.length/\vi=.int .i64 i/\Hid ((m.funcs.take i).all flatF=true)/\Hid (Below w0.heap.size w0 wr)) (λvi _=>m.funcs.length-(intOf vi).toNat)
        case atStart=>exact⟨0,Nat.zero_le _,rfl,zh rfl,hb⟩
        case round=>
         clear hb;obtain⟨i,hi,rfl,ha,hb⟩:=hrel
         by_cases hlt:i<m.funcs.length
         . obtain⟨t,ht⟩:∃t,m.funcs[i]? =some t:=⟨_,List.getElem?_eq_getElem hlt⟩
           obtain⟨b,o,e,hrow⟩:=(HM.out.funcs.keep λ_ _ _=>FuncAt.keep (zA hb.out)).row ht;have x2:wr.cell? ⟨w.heap.size,2,none⟩=some (.slice a2 m.funcs.length k2):=zA hb.out _ _ y2.out;subst e;have hn:=zh (jB ht ha.out);have hk0:=zh (Below.refl wr.heap.size wr);clear ht ha;obtain⟨ty,lo,bo⟩:=t;obtain⟨c0,_,⟨q2,r2,c2,l2,i2⟩⟩:=hrow;simp only at c2 i2 l2;have i2:=zh i2;clear c0;have hz:Hid (flatF (ty,lo,bo)=xN bo 0):=zh rfl;go_wp2_with fail;refine(deep_any bo q2 r2 _ 0 l2 (i2.out.below hk0.out) (by omega) (by omega)).mono ?_;rintro e w' ⟨rfl,rfl⟩;cases hX:xN bo 0
           . have hn2:=zh (hn.out.2 (by rw[hz.out,hX]));have S':=zh ((λ(h:m.funcs.all flatF=false)=>(S2.out.trans (if_pos h))) hn2.out);clear hX;go_wp2;go_ret;exact⟨by rw[S'.out];rfl,hB0.out.trans (hb.out.mono hs0)⟩
           . have hz:=zh (hz.out.trans (show _=true from by rw[hX]));clear hX;have hfb:=zh hb.out;go_wp2
             go_roundw
             case rel=>exact⟨i+1,by omega,by simp,zh (hn.out.1 hz.out),hfb⟩
             case measure=>simp[intOf];omega
         . have hiN:i=m.funcs.length:=(by omega)
           subst hiN;have ha2:m.funcs.all flatF=true:=(by have:=ha.out;rwa [List.take_length]at this)
           have S3:=zh ((λ(h:m.funcs.all flatF=true)=>(S2.out.trans (if_neg (by rw[h];decide)))) ha2);clear ha ha2 hi hlt;have x2:wr.cell? ⟨w.heap.size,2,none⟩=some (.slice a2 m.funcs.length k2):=zA hb.out _ _ y2.out;have x0:wr.cell? ⟨w.heap.size,0,none⟩=some (.slice a0 m.types.length k0):=zA hb.out _ _ y0.out;have x1:wr.cell? ⟨w.heap.size,1,none⟩=some (.slice a1 m.imports.length k1):=zA hb.out _ _ y1.out;have x2:wr.cell? ⟨w.heap.size,2,none⟩=some (.slice a2 m.funcs.length k2):=zA hb.out _ _ y2.out;have x3:wr.cell? ⟨w.heap.size,3,none⟩=some (.slice a3 m.tables.length k3):=zA hb.out _ _ y3.out;have x4:wr.cell? ⟨w.heap.size,4,none⟩=some (.slice a4 m.mems.length k4):=zA hb.out _ _ y4.out;have x5:wr.cell? ⟨w.heap.size,5,none⟩=some (.slice a5 m.globals.length k5):=zA hb.out _ _ y5.out;have x6:wr.cell? ⟨w.heap.size,6,none⟩=some (.slice a6 m.exports.length k6):=zA hb.out _ _ y6.out;have x7:wr.cell? ⟨w.heap.size,7,none⟩=some (.slice a7 m.start.length k7):=zA hb.out _ _ y7.out;have x8:wr.cell? ⟨w.heap.size,8,none⟩=some (.slice a8 m.elems.length k8):=zA hb.out _ _ y8.out;have x9:wr.cell? ⟨w.heap.size,9,none⟩=some (.slice a9 m.datas.length k9):=zA hb.out _ _ y9.out;go_wp2_with fail;refine(shape_any m a0 k0 a1 k1 a2 k2 a3 k3 a4 k4 a5 k5 a6 k6 a7 k7 a8 k8 a9 k9 _ (HM.out.keep (zA hb.out))).mono ?_
           rintro e v1 ⟨rfl,bb⟩;have hB1:=zh (hb.out.trans (bb.mono hb.out.size));clear bb;cases hX:rshapeB m
           . have S':Hid (qI m=30):=zh (by rw[S3.out,hX];rfl);go_wp2;go_ret;exact⟨by rw[S'.out];rfl,hB0.out.trans (hB1.out.mono hs0)⟩
           . have S':Hid (qI m=0):=zh (by rw[S3.out,hX];rfl);go_wp2;go_ret;exact⟨by rw[S'.out];rfl,hB0.out.trans (hB1.out.mono hs0)⟩
   . have S':=zh (ck_count hco);have qco:decide ((65536:Int)<65536-vB m.funcs 65536)=true:=decide_eq_true (by omega);go_wp2;go_ret;exact⟨by rw[S'.out];rfl,hB0.out.trans (hb.out.mono hs0)⟩
end Go.Proofs.YtacohbllbjgdgaaGreatDoor
namespace Go.Proofs.YtacohbllbjgdgaaGreatDoor
open Go.RowKit
section
variable {w:World} {A:MA} {m:Md}
theorem rwhere_any(hA:MdA w m A)(hds:∀t∈m.datas,t.2.size<=300000):Calls Tryz.prog 13 #[.agg #[(A.v m).v0,(A.v m).v1,(A.v m).v2,(A.v m).v3,(A.v m).v4,(A.v m).v5,(A.v m).v6,(A.v m).v7,(A.v m).v8,(A.v m).v9]] w λe w'=>e=.returned (.tuple #[.int .i64 (vE m).1,.int .i64 (vE m).2])/\Below w.heap.size w w':=by
 have hbm:=bm_new hA;have hck:=rcheck_any m A.a0 A.k0 A.a1 A.k1 A.a2 A.k2 A.a3 A.k3 A.a4 A.k4 A.a5 A.k5 A.a6 A.k6 A.a7 A.k7 A.a8 A.k8 A.a9 A.k9 _ hbm.m hds;obtain⟨w1,hw1⟩:∃w1,w1=w.alloc (yU A m):=⟨_,rfl⟩
 obtain⟨B,hB⟩:∃B,B=w.heap.size:=⟨_,rfl⟩
 rw[<-hw1,<-hB]at hbm;rw[<-hw1]at hck;unfold yU at hw1;unfold mdV at hck;obtain⟨x0,x1,x2,x3,x4,x5,x6,x7,x8,x9⟩:=xH hbm.h;go_enter Tryz.func13,Tryz.ntmps13
 go_upto_region 1 with(fail)
 rw[<-hw1];rw[<-hB];clear hw1;replace hB:=zh hB;replace hbm:=zh hbm;replace hck:=zh hck;go_wp2_with fail;refine hck.out.mono ?_;rintro e w2 ⟨rfl,b2⟩;have hbm2:=zh (hbm.out.step b2);clear hck x0 x1 x2 x3 x4 x5 x6 x7 x8 x9 hbm
 by_cases hc:qI m=0
 . have cm:=cm_of hc;have hsz:m.imports.length+m.funcs.length<=1099511627776:=(by have:=cm.l1;have:=cm.l2;omega)
   have hR0:headR m=zX (headsR m) (zX (exportsR m) (vH m (m.imports.length+m.funcs.length))):=(by unfold headR;rw[hc];rfl)
   rw[hc];have hhd:=rheads_any hbm2.out.m hsz;unfold MA.v at hhd
   dsimp only at hhd
   obtain⟨x0,x1,x2,x3,x4,x5,x6,x7,x8,x9⟩:=xH hbm2.out.h;generalize hH:headsR m=Hh at hhd hR0;replace hhd:=zh hhd;replace hR0:=zh hR0;replace hH:=zh hH;replace cm:=zh cm;replace hsz:=zh hsz;clear hc;go_wp2_with fail;refine hhd.out.mono ?_;rintro e w3 ⟨rfl,b3⟩;have hbm3:=zh (hbm2.out.step b3);clear hhd x0 x1 x2 x3 x4 x5 x6 x7 x8 x9 hbm2
   by_cases hz:Hh=0
   . subst hz
     have h12:xQ m=0/\idxV m=0:=by have h:=hH.out;rw[headsR_eq cm.out]at h;exact⟨(xD h).1,(xD (xD h).2).1⟩
     replace h12:=zh h12;have hE:=λw' (b:Below w3.heap.size w3 w')=>rexports_any (hbm3.out.step b).m hsz.out (by have:=cm.out.l6;omega) (λx hx=>(cm.out.exports x hx).2.1);have hF:=λw' (b:Below w3.heap.size w3 w')=>rfills_any (hbm3.out.step b).m hsz.out;unfold MA.v at hE hF
     dsimp only at hE hF
     have hxs:=λw' (b:Below w3.heap.size w3 w')=>xH (hbm3.out.step b).h;generalize exportsR m=E1 at hE hR0;generalize vH m (m.imports.length+m.funcs.length)=F1 at hF hR0;have bd:Below w3.heap.size w3 w3.drew:=zB (w:=w3) 1;obtain⟨x0,x1,x2,x3,x4,x5,x6,x7,x8,x9⟩:=xH hbm3.out.h;replace hE:=zh hE;replace hF:=zh hF;replace hxs:=zh hxs;replace bd:=zh bd
     go_upto_region 5 with(fail)
     go_cut [4] from 15 to 20 (λv4 wx=>v4=.int .i64 (zX E1 F1)/\Hid (Below w3.heap.size w3 wx))
     case first=>
      go_region_with (first
       |(go_at_call 33;refine(hE.out _ bd.out).mono ?_;rintro e w4 ⟨rfl,b4⟩;have q1:=zh (bd.out.trans (b4.mono bd.out.size));obtain⟨y0,y1,y2,y3,y4,y5,y6,y7,y8,y9⟩:=hxs.out _ q1.out;clear b4)
       |(go_at_call 34;refine(hF.out _ q1.out).mono ?_;rintro e w5 ⟨rfl,b5⟩;have q2:=zh (q1.out.trans (b5.mono q1.out.size));clear b5)
       |(go_at_call 32;refine(rfirst_any (ints_two w5 E1 F1)).mono ?_;rintro e w6 ⟨rfl,rfl⟩))
      all_goals go_wp2_with fail
      all_goals go_meet
      all_goals exact⟨by rw[first_two],zh (q2.out.trans ((Below.of_alloc w5 _).mono q2.out.size))⟩
     case rest=>
      obtain⟨rfl,hbc⟩:=hcut;have hbm4:=zh (hbm3.out.step hbc.out);clear hE hF hxs bd hbc hbm3 x0 x1 x2 x3 x4 x5 x6 x7 x8 x9;generalize zX E1 F1=L at hR0 ⊢
      by_cases hl:L=0
      . subst hl
        have hw0:Hid (vE m=bodiesR m (m.funcs.drop 0) (m.imports.length+0)):=zh (by
         unfold vE;rw[hR0.out];rfl)
        clear hR0 hH;go_wp2_with fail;go_loopw [5] (λvi wr=>∃i:Nat,vi=.int .i64 i/\i<=m.funcs.length/\Hid (vE m=bodiesR m (m.funcs.drop i) (m.imports.length+i))/\Hid (Bm A m B w wr)) (λvi _=>m.funcs.length-(intOf vi).toNat)
        case atStart=>exact⟨0,rfl,Nat.zero_le _,hw0,hbm4⟩
        case round=>
         clear hw0 hbm4;obtain⟨i,rfl,hi,hwq,hbm⟩:=hrel;obtain⟨x0,x1,x2,x3,x4,x5,x6,x7,x8,x9⟩:=xH hbm.out.h;have lfn:=hbm.out.m.funcs.1
         by_cases hlt:i<m.funcs.length
         . obtain⟨fn,hfn⟩:∃fn,m.funcs[i]? =some fn:=⟨_,List.getElem?_eq_getElem hlt⟩
           have hmem:=List.mem_of_getElem? hfn;obtain⟨b,o,hab,r1,⟨la,lk,r2,hls⟩,⟨ba,bk,r3,hbl⟩⟩:=hbm.out.m.funcs.row hfn;replace r1:wr.cell? ⟨b,o+i*3,none⟩=some (.int .i64 fn.1):=r1;replace r2:wr.cell? ⟨b,o+i*3+1,none⟩=some (.slice la fn.2.1.length lk):=r2;have hin:fn.1∈vD m:=List.mem_append.2 (.inr (List.mem_map.2 ⟨fn,hmem,rfl⟩));have n0:=idx_ok cm.out fn.1 hin;have n1:=idx_lt h12.out.2 fn.1 hin;have hcf:=cm.out.funcs fn hmem
           have ht:m.types[fn.1.toNat]? =some (tyF m fn):=by unfold tyF;rw[List.getD_eq_getElem?_getD,List.getElem?_eq_getElem (by omega:fn.1.toNat<m.types.length)];rfl
           have hE:=env_m cm.out h12.out.1 h12.out.2 (tyF m fn) fn.2.1;have htl:(tyF m fn).1.length<=4096:=xS (m:=m) (P:=λt=>t.1.length<=4096) (λt ht=>(cm.out.types t ht).1) (by simp) fn.1.toNat;have ht2l:(tyF m fn).2.length<=1:=xS (m:=m) (P:=λt=>t.2.length<=1) (types_r h12.out.1) (by simp) fn.1.toNat;have hszf:=cntF_sz m.funcs 65536 cm.out.cnt fn hmem;have bd:Below wr.heap.size wr wr.drew:=zB (w:=wr) 1;have hbd:=rbody_any (lk:=lk) (bk:=bk) (hbm.out.step bd).m ht (hls.below bd) hbl.1 (hbl.2.keep (zA bd)) hE hcf.2.2.2.2.1 (by omega) ht2l (by have:=hcf.2.1;omega);have hk:((fn.1.toNat:Nat):Int)=fn.1:=(by omega)
           rw[hk]at hbd;unfold MA.v at hbd
           dsimp only at hbd
           replace hbd:Calls Tryz.prog 35 _ _ (λe w'=>e=.returned (.int .i64 (bodyR m fn))/\Below wr.drew.heap.size wr.drew w'):=hbd;have hd:m.funcs.drop i=fn::m.funcs.drop (i+1):=(by rw[List.drop_eq_getElem_cons hlt,(List.getElem?_eq_some_iff.1 hfn).2])
           have hwq2:vE m=if bodyR m fn=0 then bodiesR m (m.funcs.drop (i+1)) (m.imports.length+i+1)else(((m.imports.length+i:Nat):Int),bodyR m fn):=by rw[hwq.out,hd];rfl
           generalize bodyR m fn=R at hbd hwq2;rw[hab]at x2 hbd;have hxs:=λw' (b:Below wr.heap.size wr w')=>hbm.out.step b;have lim:=hbm.out.m.imports.1;have i0:(0:Int)<=(i:Int):=(by omega)
           have ilt:(i:Int)<(m.funcs.length:Int):=(by omega)
           have hwr2:IntKind.i64.wrap ((m.imports.length:Int)+(i:Int))=((m.imports.length+i:Nat):Int):=(by rw[IntKind.wrap_i64];have:=cm.out.l1;have:=cm.out.l2;omega)
           replace hab:=zh hab;replace hlt:=zh hlt;replace hbd:=zh hbd;replace hwq2:=zh hwq2;replace hxs:=zh hxs;replace bd:=zh bd;clear hwq hd hfn hmem hszf htl ht2l hcf ht hE hin n0 n1 hk hls hbl hbm;go_wp2_with fail
           go_cut [6] from 31 to 37 (λv6 wx=>v6=.int .i64 R/\Hid (Below wr.heap.size wr wx))
           case first=>
            go_region_with (first |(go_at_call 35;refine hbd.out.mono ?_;rintro e w4 ⟨rfl,b4⟩;have q1:=zh (bd.out.trans (b4.mono bd.out.size));clear b4))
            all_goals go_wp2_with fail
            all_goals go_meet
            all_goals exact⟨rfl,q1⟩
           case rest=>
            obtain⟨rfl,hbc⟩:=hcut;have hbm9:=zh (hxs.out _ hbc.out);clear hbd hxs bd hbc x0 x1 x2 x3 x4 x5 x6 x7 x8 x9 r1 r2 r3;obtain⟨x0,x1,x2,x3,x4,x5,x6,x7,x8,x9⟩:=xH hbm9.out.h
            by_cases hr:R=0
            . have hw9:Hid (vE m=bodiesR m (m.funcs.drop (i+1)) (m.imports.length+(i+1))):=zh (by rw[hwq2.out,if_pos hr];rfl);have hlb:(R !=0)=false:=(by simp[hr])
              clear hwq2 hr;go_wp2_with fail
              go_roundw
              case rel=>exact⟨i+1,by simp,by have:=hlt.out;omega,hw9,hbm9⟩
              case measure=>simp[intOf];have:=hlt.out;omega
            . have hw9:Hid (vE m=(((m.imports.length+i:Nat):Int),R)):=zh (by rw[hwq2.out,if_neg hr]);have hlb:(R !=0)=true:=(by simp[hr])
              clear hwq2 hr;go_wp2;go_ret2;rw[hw9.out];exact⟨rfl,hbm9.out.b⟩
         . obtain rfl:i=m.funcs.length:=by omega
           have hw9:vE m=(-1,0):=by have:=hwq.out;rw[List.drop_length]at this;exact this
           replace hw9:=zh hw9;clear hlt hwq;go_wp2;go_ret2;rw[hw9.out];exact⟨rfl,hbm.out.b⟩
      . have hw9:Hid (vE m=(-1,L)):=zh (by
         have e:headR m=L:=(by rw[hR0.out];rfl)
         unfold vE;rw[e,if_neg hl])
        have hlb:(L !=0)=true:=(by simp[hl])
        clear hR0 hH hl;go_wp2;go_ret2;rw[hw9.out];exact⟨rfl,hbm4.out.b⟩
   . have hw9:Hid (vE m=(-1,Hh)):=zh (by
      have e:headR m=Hh:=(by rw[hR0.out];unfold zX;rw[if_neg hz])
      unfold vE;rw[e,if_neg hz])
     have hl1:(Hh==0)=false:=(by simp[hz])
     have hlb:(Hh !=0)=true:=(by simp[hz])
     clear hR0 hH hz;go_wp2;go_ret2;rw[hw9.out];exact⟨rfl,hbm3.out.b⟩
 . have hw9:Hid (vE m=(-1,qI m)):=zh (by
    have e:headR m=qI m:=(by unfold headR zX;rw[if_neg hc])
    unfold vE;rw[e,if_neg hc])
   generalize qI m=K at hw9 hc ⊢;have hl1:(K==0)=false:=(by simp[hc])
   have hlb:(K !=0)=true:=(by simp[hc])
   clear hc;go_wp2;go_ret2;rw[hw9.out];exact⟨rfl,hbm2.out.b⟩
end
end Go.Proofs.YtacohbllbjgdgaaGreatDoor
