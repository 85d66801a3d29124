/- The contract of few. -/
import Derived.Test.YtacohbllbjgdgaaGreatDoorMh
import Derived.Test.YtacohbllbjgdgaaGreatDoorMe
import Derived.ProofKit
import Derived.ChangeArms
import Derived.DataReads
import Derived.OpenShut
import Derived.KernelRfl
import Derived.SizedLaws
set_option linter.all false
set_option maxRecDepth 100000
set_option maxHeartbeats 8000000
namespace Go.Proofs.YtacohbllbjgdgaaGreatDoor
open Go.RowKit
def le4 (n:Int):Bool:=decide (n<=4096)
def yZ (m:Md):List Int:=[(m.types.length:Int),m.imports.length,m.funcs.length,m.tables.length,m.mems.length,m.globals.length,m.exports.length,m.elems.length,m.datas.length]
def xU:List (One×ByteArray)->Int->Bool
 | [],_=>true
 |d::r,left=>decide ((d.2.size:Int)<=left)&&xU r (left-d.2.size)
def yT (t:List Int×List Int):Bool:=decide ((t.1.length:Int)<=4096)&&decide ((t.2.length:Int)<=4096)
def elmFew (t:One×List Int):Bool:=decide ((t.2.length:Int)<=4096)
def funFew (t:Int×List Int×Il):Bool:=decide ((t.2.1.length:Int)<=256)&&lab t.2.2
def few5 (m:Md):Bool:=m.funcs.all funFew
def few4 (m:Md):Bool:=decide (65536-jS m.funcs 65536<=65536)&&few5 m
def few3 (m:Md):Bool:=xU m.datas 262144&&few4 m
def few2 (m:Md):Bool:=m.elems.all elmFew&&few3 m
def few1 (m:Md):Bool:=m.types.all yT&&few2 m
def few0 (m:Md):Bool:=decide ((m.start.length:Int)<=1)&&few1 m
def fewB (m:Md):Bool:=(yZ m).all le4&&few0 m
theorem few_any(m:Md)(a0:Option Addr)(k0:Nat)(a1:Option Addr)(k1:Nat)(a2:Option Addr)(k2:Nat)(a3:Option Addr)(k3:Nat)(a4:Option Addr)(k4:Nat)(a5:Option Addr)(k5:Nat)(a6:Option Addr)(k6:Nat)(a7:Option Addr)(k7:Nat)(a8:Option Addr)(k8:Nat)(a9:Option Addr)(k9:Nat)(w:World)(h:MdAt w m a0 k0 a1 k1 a2 k2 a3 k3 a4 k4 a5 k5 a6 k6 a7 k7 a8 k8 a9 k9):Calls Tryz.prog 46 #[mdV m a0 k0 a1 k1 a2 k2 a3 k3 a4 k4 a5 k5 a6 k6 a7 k7 a8 k8 a9 k9] w λe w'=>e=endE (fewB m) 3/\Below w.heap.size w w':=by
 have HM:=zh (h.keep (zA ((Below.refl w.heap.size w).alloc (Nat.le_refl _) (.cells #[.slice a0 m.types.length k0,.slice a1 m.imports.length k1,.slice a2 m.funcs.length k2,.slice a3 m.tables.length k3,.slice a4 m.mems.length k4,.slice a5 m.globals.length k5,.slice a6 m.exports.length k6,.slice a7 m.start.length k7,.slice a8 m.elems.length k8,.slice a9 m.datas.length k9] 32))));have n0:=h.types.1;have n1:=h.imports.1;have n2:=h.funcs.1;have n3:=h.tables.1;have n4:=h.mems.1;have n5:=h.globals.1;have n6:=h.exports.1;have n7:=h.start.1;have n8:=h.elems.1;have n9:=h.datas.1;have hB0:Hid (Below w.heap.size w (w.alloc (.cells #[.slice a0 m.types.length k0,.slice a1 m.imports.length k1,.slice a2 m.funcs.length k2,.slice a3 m.tables.length k3,.slice a4 m.mems.length k4,.slice a5 m.globals.length k5,.slice a6 m.exports.length k6,.slice a7 m.start.length k7,.slice a8 m.elems.length k8,.slice a9 m.datas.length k9] 32))):=zh ((Below.refl _ _).alloc (Nat.le_refl _) _);have hS:Hid (fewB m=((yZ m).all le4&&few0 m)):=zh rfl;clear h;unfold mdV;go_enter Tryz.func46,Tryz.ntmps46;go_wp2_with fail;obtain⟨w0,hw0⟩:∃w0,w0=(w.alloc (.cells #[.slice a0 m.types.length k0,.slice a1 m.imports.length k1,.slice a2 m.funcs.length k2,.slice a3 m.tables.length k3,.slice a4 m.mems.length k4,.slice a5 m.globals.length k5,.slice a6 m.exports.length k6,.slice a7 m.start.length k7,.slice a8 m.elems.length k8,.slice a9 m.datas.length k9] 32)):=⟨_,rfl⟩
 rw[<-hw0];rw[<-hw0]at HM hB0;have hs0:w.heap.size<=w0.heap.size:=hB0.out.size;have hs1:w0.heap.size=w.heap.size+1:=(by rw[hw0];simp)
 have y0:Hid (w0.cell? ⟨w.heap.size,0,none⟩=some (.slice a0 m.types.length k0)):=zh (by rw[hw0];exact World.cell?_alloc_at _ _ _ _ rfl);have y1:Hid (w0.cell? ⟨w.heap.size,1,none⟩=some (.slice a1 m.imports.length k1)):=zh (by rw[hw0];exact World.cell?_alloc_at _ _ _ _ rfl);have y2:Hid (w0.cell? ⟨w.heap.size,2,none⟩=some (.slice a2 m.funcs.length k2)):=zh (by rw[hw0];exact World.cell?_alloc_at _ _ _ _ rfl);have y3:Hid (w0.cell? ⟨w.heap.size,3,none⟩=some (.slice a3 m.tables.length k3)):=zh (by rw[hw0];exact World.cell?_alloc_at _ _ _ _ rfl);have y4:Hid (w0.cell? ⟨w.heap.size,4,none⟩=some (.slice a4 m.mems.length k4)):=zh (by rw[hw0];exact World.cell?_alloc_at _ _ _ _ rfl);have y5:Hid (w0.cell? ⟨w.heap.size,5,none⟩=some (.slice a5 m.globals.length k5)):=zh (by rw[hw0];exact World.cell?_alloc_at _ _ _ _ rfl);have y6:Hid (w0.cell? ⟨w.heap.size,6,none⟩=some (.slice a6 m.exports.length k6)):=zh (by rw[hw0];exact World.cell?_alloc_at _ _ _ _ rfl);have y7:Hid (w0.cell? ⟨w.heap.size,7,none⟩=some (.slice a7 m.start.length k7)):=zh (by rw[hw0];exact World.cell?_alloc_at _ _ _ _ rfl);have y8:Hid (w0.cell? ⟨w.heap.size,8,none⟩=some (.slice a8 m.elems.length k8)):=zh (by rw[hw0];exact World.cell?_alloc_at _ _ _ _ rfl);have y9:Hid (w0.cell? ⟨w.heap.size,9,none⟩=some (.slice a9 m.datas.length k9)):=zh (by rw[hw0];exact World.cell?_alloc_at _ _ _ _ rfl)
 obtain⟨wq,hwq⟩:∃wq,wq=w0.alloc (.cells #[.int .i64 m.types.length,.int .i64 m.imports.length,.int .i64 m.funcs.length,.int .i64 m.tables.length,.int .i64 m.mems.length,.int .i64 m.globals.length,.int .i64 m.exports.length,.int .i64 m.elems.length,.int .i64 m.datas.length] 3):=⟨_,rfl⟩
 have HI:Hid (IntsIn wq (some ⟨w.heap.size+1,0,none⟩) (yZ m)):=zh (by rw[hwq,<-hs1];have:=jU w0 (yZ m) (by simp[yZ]);simpa[yZ]using this);have hbq:Hid (Below w0.heap.size w0 wq):=zh (by rw[hwq];exact(Below.refl _ _).alloc (Nat.le_refl _) _);rw[<-hwq];clear hwq hw0 hs1;have hl9:(yZ m).length=9:=rfl
 go_loop [43] (λvi=>∃i:Nat,i<=9/\vi=.int .i64 i/\Hid (((yZ m).take i).all le4=true)) (λvi=>9-(intOf vi).toNat)
 case atStart=>exact⟨0,Nat.zero_le _,rfl,zh rfl⟩
 case round=>
  obtain⟨i,hi,rfl,ha⟩:=hrel
  by_cases hlt:i<9
  . obtain⟨x,hx⟩:∃x,(yZ m)[i]? =some x:=⟨_,List.getElem?_eq_getElem (by rw[hl9];exact hlt)⟩
    obtain⟨b,o,e,hcell⟩:=HI.out.cell hx;cases e;rw[Nat.zero_add]at hcell;have hn:=zh (all_drop hx ha.out);clear hx
    by_cases h1:x<=4096
    . have hn2:=zh (hn.out.1 (decide_eq_true h1));go_wp2_with fail;refine(cnt1_yes x _ h1).mono ?_;rintro e w' ⟨rfl,rfl⟩;go_wp2
      go_round
      case rel=>exact⟨i+1,by omega,by simp,hn2⟩
      case measure=>simp[intOf];omega
    . have hn2:=zh (hn.out.2 (decide_eq_false h1));go_wp2_with fail;refine(cnt1_no x _ (by omega)).mono ?_;rintro e w' ⟨rfl,rfl⟩;go_wp2;exact⟨rfl,by rw[hS.out,hn2.out];rfl,hB0.out.trans (hbq.out.mono hs0)⟩
  . obtain rfl:i=9:=by omega
    have ha2:(yZ m).all le4=true:=(by have:=ha.out;rwa [List.take_of_length_le (by rw[hl9];decide)]at this)
    have hS1:Hid (fewB m=(decide ((m.start.length:Int)<=1)&&few1 m)):=zh (by rw[hS.out,ha2];rfl);clear ha ha2 hi hlt hS HI;have x7:wq.cell? ⟨w.heap.size,7,none⟩=some (.slice a7 m.start.length k7):=zA hbq.out _ _ y7.out;have x0:wq.cell? ⟨w.heap.size,0,none⟩=some (.slice a0 m.types.length k0):=zA hbq.out _ _ y0.out
    by_cases h1:(m.start.length:Int)<=1
    . have d1:decide ((m.start.length:Int)<=1)=true:=decide_eq_true h1;have S1:Hid (fewB m=(m.types.all yT&&few2 m)):=zh (by rw[hS1.out,d1];rfl);clear hS1;go_wp2_with fail;refine(qJ 3 _).mono ?_;rintro e w' ⟨rfl,rfl⟩;go_wp2_with fail;go_loopw [59] (λvi wr=>∃i:Nat,i<=m.types.length/\vi=.int .i64 i/\Hid ((m.types.take i).all yT=true)/\Hid (Below w0.heap.size w0 wr)) (λvi _=>m.types.length-(intOf vi).toNat)
      case atStart=>exact⟨0,Nat.zero_le _,rfl,zh rfl,hbq⟩
      case round=>
       obtain⟨i,hi,rfl,ha,hb⟩:=hrel
       by_cases hlt:i<m.types.length
       . obtain⟨t,ht⟩:∃t,m.types[i]? =some t:=⟨_,List.getElem?_eq_getElem hlt⟩
         obtain⟨b,o,e,hrow⟩:=(HM.out.types.keep λ_ _ _=>TypeAt.keep (zA hb.out)).row ht;cases e;have hn:=zh (jH ht ha.out);have hal:=λo=>(Below.refl wr.heap.size wr).alloc (Nat.le_refl _) o;clear ht ha;obtain⟨ps,rs⟩:=t;obtain⟨⟨q0,r0,c0,i0⟩,⟨q1,r1,c1,i1⟩⟩:=hrow;simp only at c0 c1 i0 i1;have n0':=i0.1;have n1':=i1.1;have hb2:∀o,Below w0.heap.size w0 (wr.alloc o):=λo=>hb.out.trans ((hal o).mono hb.out.size);have hz:Hid (yT (ps,rs)=(decide ((ps.length:Int)<=4096)&&decide ((rs.length:Int)<=4096))):=zh rfl
         by_cases h1:(ps.length:Int)<=4096
         . have d1:decide ((ps.length:Int)<=4096)=true:=decide_eq_true h1
           by_cases h2:(rs.length:Int)<=4096
           . have d2:decide ((rs.length:Int)<=4096)=true:=decide_eq_true h2;have hn2:=zh (hn.out.1 (by rw[hz.out,d1,d2];rfl));go_wp2_with fail;refine(cnt1_yes _ _ h1).mono ?_;rintro e w' ⟨rfl,rfl⟩;go_wp2_with fail;refine(cnt1_yes _ _ h2).mono ?_;rintro e w' ⟨rfl,rfl⟩;go_wp2
             go_roundw
             case rel=>exact⟨i+1,by omega,by simp,hn2,zh (hb2 _)⟩
             case measure=>simp[intOf];omega
           . have d2:decide ((rs.length:Int)<=4096)=false:=decide_eq_false h2;have hn2:=zh (hn.out.2 (by rw[hz.out,d1,d2];rfl));go_wp2_with fail;refine(cnt1_yes _ _ h1).mono ?_;rintro e w' ⟨rfl,rfl⟩;go_wp2_with fail;refine(cnt1_no (rs.length:Int) _ (by omega)).mono ?_;rintro e w' ⟨rfl,rfl⟩;go_wp2;exact⟨rfl,by rw[S1.out,hn2.out];rfl,hB0.out.trans ((hb2 _).mono hs0)⟩
         . have d1:decide ((ps.length:Int)<=4096)=false:=decide_eq_false h1;have hn2:=zh (hn.out.2 (by rw[hz.out,d1];rfl));go_wp2_with fail;refine(cnt1_no (ps.length:Int) _ (by omega)).mono ?_;rintro e w' ⟨rfl,rfl⟩;go_wp2;exact⟨rfl,by rw[S1.out,hn2.out];rfl,hB0.out.trans ((hb2 _).mono hs0)⟩
       . have hiN:i=m.types.length:=(by omega)
         subst hiN;have ha2:m.types.all yT=true:=(by have:=ha.out;rwa [List.take_length]at this)
         have S2:Hid (fewB m=(m.elems.all elmFew&&few3 m)):=zh (by rw[S1.out,ha2];rfl);clear ha ha2 hi hlt;have x8:wr.cell? ⟨w.heap.size,8,none⟩=some (.slice a8 m.elems.length k8):=zA hb.out _ _ y8.out;go_wp2_with fail;go_loopw [77] (λvi wr=>∃i:Nat,i<=m.elems.length/\vi=.int .i64 i/\Hid ((m.elems.take i).all elmFew=true)/\Hid (Below w0.heap.size w0 wr)) (λvi _=>m.elems.length-(intOf vi).toNat)
         case atStart=>exact⟨0,Nat.zero_le _,rfl,zh rfl,hb⟩
         case round=>
          obtain⟨i,hi,rfl,ha,hb⟩:=hrel
          by_cases hlt:i<m.elems.length
          . obtain⟨t,ht⟩:∃t,m.elems[i]? =some t:=⟨_,List.getElem?_eq_getElem hlt⟩
            obtain⟨b,o,e,hrow⟩:=(HM.out.elems.keep λ_ _ _=>ElemAt.keep (zA hb.out)).row ht;cases e;have hn:=zh (jH ht ha.out);have hal:=λo=>(Below.refl wr.heap.size wr).alloc (Nat.le_refl _) o;clear ht ha;obtain⟨⟨op,ix,iy,iz,ls,body,els⟩,fl⟩:=t;obtain⟨⟨⟨c0,c1,c2,c3⟩,⟨q4,r4,c4,_⟩,⟨q5,r5,c5,_,_⟩,⟨q6,r6,c6,_,_⟩,_⟩,⟨q7,r7,c7,i7⟩⟩:=hrow;simp only at c7 i7;have n7':=i7.1;have hb2:∀o,Below w0.heap.size w0 (wr.alloc o):=λo=>hb.out.trans ((hal o).mono hb.out.size)
            by_cases h1:(fl.length:Int)<=4096
            . have hn2:=zh (hn.out.1 (decide_eq_true h1));go_wp2_with fail;refine(cnt1_yes _ _ h1).mono ?_;rintro e w' ⟨rfl,rfl⟩;go_wp2
              go_roundw
              case rel=>exact⟨i+1,by omega,by simp,hn2,zh (hb2 _)⟩
              case measure=>simp[intOf];omega
            . have hn2:=zh (hn.out.2 (decide_eq_false h1));go_wp2_with fail;refine(cnt1_no (fl.length:Int) _ (by omega)).mono ?_;rintro e w' ⟨rfl,rfl⟩;go_wp2;exact⟨rfl,by rw[S2.out,hn2.out];rfl,hB0.out.trans ((hb2 _).mono hs0)⟩
          . have hiN:i=m.elems.length:=(by omega)
            subst hiN;have ha2:m.elems.all elmFew=true:=(by have:=ha.out;rwa [List.take_length]at this)
            have S3:Hid (fewB m=(xU m.datas 262144&&few4 m)):=zh (by rw[S2.out,ha2];rfl);clear ha ha2 hi hlt;have x9:wr.cell? ⟨w.heap.size,9,none⟩=some (.slice a9 m.datas.length k9):=zA hb.out _ _ y9.out;go_wp2_with fail;go_loopw [9,90] (λvl vi wr=>∃(i:Nat) (Q:Int),i<=m.datas.length/\vi=.int .i64 i/\vl=.int .i64 Q/\0<=Q/\Q<=262144/\Hid (xU m.datas 262144=xU (m.datas.drop i) Q)/\Hid (Below w0.heap.size w0 wr)) (λ_ vi _=>m.datas.length-(intOf vi).toNat)
            case atStart=>exact⟨0,262144,Nat.zero_le _,rfl,rfl,by omega,by omega,zh rfl,hb⟩
            case round=>
             clear hb;obtain⟨i,Q,hi,rfl,rfl,hQ0,hQ1,ha,hb⟩:=hrel
             by_cases hlt:i<m.datas.length
             . obtain⟨t,ht⟩:∃t,m.datas[i]? =some t:=⟨_,List.getElem?_eq_getElem hlt⟩
               obtain⟨b,o,e,hrow⟩:=(HM.out.datas.keep λ_ _ _=>DataAt.keep (zA hb.out)).row ht;cases e;have hd:=drop_at ht;have hal:=λo=>(Below.refl wr.heap.size wr).alloc (Nat.le_refl _) o;obtain⟨⟨op,ix,iy,iz,ls,body,els⟩,sb⟩:=t;have ha2:Hid (xU m.datas 262144=(decide ((sb.size:Int)<=Q)&&xU (m.datas.drop (i+1)) (Q-sb.size))):=zh (by rw[ha.out,hd];rfl);clear hd ha ht;obtain⟨⟨⟨c0,c1,c2,c3⟩,⟨q4,r4,c4,_⟩,⟨q5,r5,c5,_,_⟩,⟨q6,r6,c6,_,_⟩,_⟩,c7,hsz⟩:=hrow;simp only at c7 hsz;have hb2:∀o,Below w0.heap.size w0 (wr.alloc o):=λo=>hb.out.trans ((hal o).mono hb.out.size)
               by_cases h1:(sb.size:Int)<=Q
               . have d1:decide ((sb.size:Int)<=Q)=true:=decide_eq_true h1;rw[d1,Bool.true_and]at ha2;go_wp2_with fail;refine(qJ 3 _).mono ?_;rintro e w' ⟨rfl,rfl⟩;go_wp2
                 go_roundw
                 case rel=>exact⟨i+1,Q-sb.size,by omega,by simp,by simp,by omega,by omega,ha2,zh (hb2 _)⟩
                 case measure=>simp[intOf];omega
               . have d1:decide ((sb.size:Int)<=Q)=false:=decide_eq_false h1;rw[d1,Bool.false_and]at ha2;go_wp2_with fail;refine(xJ 3 _).mono ?_;rintro e w' ⟨rfl,rfl⟩;go_wp2;exact⟨rfl,by rw[S3.out,ha2.out];rfl,hB0.out.trans ((hb2 _).mono hs0)⟩
             . have hiN:i=m.datas.length:=(by omega)
               subst hiN;have ha2:xU m.datas 262144=true:=(by have:=ha.out;rw[List.drop_length]at this;exact this)
               have S4:Hid (fewB m=few4 m):=zh (by rw[S3.out,ha2];rfl);clear ha ha2 hi hlt;have x0:wr.cell? ⟨w.heap.size,0,none⟩=some (.slice a0 m.types.length k0):=zA hb.out _ _ y0.out;have x1:wr.cell? ⟨w.heap.size,1,none⟩=some (.slice a1 m.imports.length k1):=zA hb.out _ _ y1.out;have x2:wr.cell? ⟨w.heap.size,2,none⟩=some (.slice a2 m.funcs.length k2):=zA hb.out _ _ y2.out;have x3:wr.cell? ⟨w.heap.size,3,none⟩=some (.slice a3 m.tables.length k3):=zA hb.out _ _ y3.out;have x4:wr.cell? ⟨w.heap.size,4,none⟩=some (.slice a4 m.mems.length k4):=zA hb.out _ _ y4.out;have x5:wr.cell? ⟨w.heap.size,5,none⟩=some (.slice a5 m.globals.length k5):=zA hb.out _ _ y5.out;have x6:wr.cell? ⟨w.heap.size,6,none⟩=some (.slice a6 m.exports.length k6):=zA hb.out _ _ y6.out;have x7:wr.cell? ⟨w.heap.size,7,none⟩=some (.slice a7 m.start.length k7):=zA hb.out _ _ y7.out;have x8:wr.cell? ⟨w.heap.size,8,none⟩=some (.slice a8 m.elems.length k8):=zA hb.out _ _ y8.out;have x9:wr.cell? ⟨w.heap.size,9,none⟩=some (.slice a9 m.datas.length k9):=zA hb.out _ _ y9.out;have hC:=λ(wq:World) h=>zh (count_core m (.slice a0 m.types.length k0) (.slice a1 m.imports.length k1) (.slice a3 m.tables.length k3) (.slice a4 m.mems.length k4) (.slice a5 m.globals.length k5) (.slice a6 m.exports.length k6) (.slice a7 m.start.length k7) (.slice a8 m.elems.length k8) (.slice a9 m.datas.length k9) a2 k2 wq h)
               go_wp2_with fail;refine(hC _ (HM.out.funcs.keep λ_ _ _=>FuncAt.keep (zA hb.out))).out.mono ?_;rintro e w3 ⟨rfl,b3⟩;have hb3:=zh (hb.out.trans (b3.mono hb.out.size));clear b3 hC hb x0 x1 x2 x3 x4 x5 x6 x7 x8 x9;have hb:=hb3;have x2:w3.cell? ⟨w.heap.size,2,none⟩=some (.slice a2 m.funcs.length k2):=zA hb.out _ _ y2.out
               by_cases hc:65536-jS m.funcs 65536<=65536
               . have d1:decide (65536-jS m.funcs 65536<=65536)=true:=decide_eq_true hc;have S5:Hid (fewB m=m.funcs.all funFew):=zh (by rw[S4.out];unfold few4 few5;rw[d1];rfl)
                 generalize 65536-jS m.funcs 65536=cc at*
                 go_wp2_with fail;refine(qJ 3 _).mono ?_;rintro e w' ⟨rfl,rfl⟩;go_wp2_with fail;go_loopw [113] (λvi wr=>∃i:Nat,i<=m.funcs.length/\vi=.int .i64 i/\Hid ((m.funcs.take i).all funFew=true)/\Hid (Below w0.heap.size w0 wr)) (λvi _=>m.funcs.length-(intOf vi).toNat)
                 case atStart=>exact⟨0,Nat.zero_le _,rfl,zh rfl,hb⟩
                 case round=>
                  obtain⟨i,hi,rfl,ha,hb⟩:=hrel
                  by_cases hlt:i<m.funcs.length
                  . obtain⟨t,ht⟩:∃t,m.funcs[i]? =some t:=⟨_,List.getElem?_eq_getElem hlt⟩
                    obtain⟨b,o,e,hrow⟩:=(HM.out.funcs.keep λ_ _ _=>FuncAt.keep (zA hb.out)).row ht;cases e;have hn:=zh (jH ht ha.out);have hal:=λo=>(Below.refl wr.heap.size wr).alloc (Nat.le_refl _) o;clear ht ha;obtain⟨ty,lo,bo⟩:=t;obtain⟨c0,⟨q1,r1,c1,i1⟩,⟨q2,r2,c2,l2,i2⟩⟩:=hrow;unfold jA at c0;have n1':=i1.1;have hi2:=zh i2;clear i1 i2;have hb2:∀o,Below w0.heap.size w0 (wr.alloc o):=λo=>hb.out.trans ((hal o).mono hb.out.size);have hcb:=λw h0=>zh (labelled_any bo q2 r2 w l2 h0);have hz:Hid (funFew (ty,lo,bo)=(decide ((lo.length:Int)<=256)&&lab bo)):=zh rfl;simp only at c1 c2
                    by_cases h1:(lo.length:Int)<=256
                    . have d1:decide ((lo.length:Int)<=256)=true:=decide_eq_true h1;rw[d1,Bool.true_and]at hz;go_wp2_with fail;refine(qJ 3 _).mono ?_;rintro e w' ⟨rfl,rfl⟩;go_wp2_with fail;refine(hcb _ (hi2.out.below (hal _))).out.mono ?_;rintro e w3 ⟨rfl,b3⟩;have hb3:=zh ((hb2 _).trans (b3.mono (hb2 _).size));clear b3 hcb;cases hX:lab bo
                      . have hn2:=zh (hn.out.2 (by rw[hz.out,hX]));rw[qF];clear hX;go_wp2;exact⟨rfl,by rw[S5.out,hn2.out];rfl,hB0.out.trans (hb3.out.mono hs0)⟩
                      . have hn2:=zh (hn.out.1 (by rw[hz.out,hX]));rw[zY];clear hX;go_wp2
                        go_roundw
                        case rel=>exact⟨i+1,by omega,by simp,hn2,zh hb3.out⟩
                        case measure=>simp[intOf];omega
                    . have d1:decide ((lo.length:Int)<=256)=false:=decide_eq_false h1;have hn2:=zh (hn.out.2 (by rw[hz.out,d1];rfl));go_wp2_with fail;refine(xJ 3 _).mono ?_;rintro e w' ⟨rfl,rfl⟩;go_wp2;exact⟨rfl,by rw[S5.out,hn2.out];rfl,hB0.out.trans ((hb2 _).mono hs0)⟩
                  . have hiN:i=m.funcs.length:=(by omega)
                    subst hiN;have ha2:m.funcs.all funFew=true:=(by have:=ha.out;rwa [List.take_length]at this)
                    have S6:Hid (fewB m=true):=zh (by rw[S5.out];exact ha2);clear ha ha2 hi hlt;go_wp2;go_end0;exact⟨by rw[S6.out];rfl,hB0.out.trans (hb.out.mono hs0)⟩
               . have d1:decide (65536-jS m.funcs 65536<=65536)=false:=decide_eq_false hc;have S5:Hid (fewB m=false):=zh (by rw[S4.out];unfold few4;rw[d1];rfl)
                 generalize 65536-jS m.funcs 65536=cc at*
                 go_wp2_with fail;refine(xJ 3 _).mono ?_;rintro e w' ⟨rfl,rfl⟩;go_wp2;exact⟨rfl,by rw[S5.out];rfl,hB0.out.trans (hb.out.mono hs0)⟩
    . have d1:decide ((m.start.length:Int)<=1)=false:=decide_eq_false h1;have S1:Hid (fewB m=false):=zh (by rw[hS1.out,d1];rfl);clear hS1;go_wp2_with fail;refine(xJ 3 _).mono ?_;rintro e w' ⟨rfl,rfl⟩;go_wp2;exact⟨rfl,by rw[S1.out];rfl,hB0.out.trans (hbq.out.mono hs0)⟩
end Go.Proofs.YtacohbllbjgdgaaGreatDoor
namespace Go.Proofs.YtacohbllbjgdgaaGreatDoor
open Go.ChangeShapes Go.WideShapes Go.ChangeAt Go.RowKit
section
variable {H:Type} {enc:TypeId×Value->H} {P:Program} {w:World} {base:Nat} {sp:Nat->Bool} {held:Bool}
theorem addr_add_add(a:Addr)(i j:Nat):(a.add i).add j=a.add (i+j):=by
 unfold Addr.add
 by_cases hi:i=0
 . subst hi;simp
 . by_cases hj:j=0
   . subst hj;simp[hi]
   . rw[if_neg hi,if_neg hj,if_neg (by omega)];simp[Nat.add_assoc]
theorem addr_add_none(b o j:Nat):(⟨b,o,none⟩:Addr).add j=⟨b,o+j,none⟩:=by
 unfold Addr.add;split
 . subst_vars;rfl
 . rfl
theorem slice_rows{t e:TypeId}{k fuel:Nat}{cs:List Value}{x:DataW H×List MemPlace}(ht:P.underlying t=some (.slice e))(hc:P.cellsOf e=k)(hk:0<k)(h:DataW.trod enc P w base sp held fuel t cs=some x):∃ao len cap,cs=[.slice ao len cap]/\len<=9223372036854775807/\(len=0\/∃b o,ao=some ⟨b,o,none⟩/\∀i,i<len->∃row n y,n<fuel/\row.length=k/\(∀j v,row[j]? =some v->w.cell? ⟨b,o+i*k+j,none⟩=some v)/\DataW.trod enc P w base sp held n e row=some y):=by
 rcases DataW.trod_slice ht h with⟨rfl,_⟩ |⟨a,len,cap,elems,rest,n,hn,rfl,_,_,hl,hm,hlen,hel,_⟩
 . exact⟨none,0,0,rfl,by omega,.inl rfl⟩
 . refine⟨some a,len,cap,rfl,by unfold maxLen at hm;omega,?_⟩
   by_cases h0:len=0
   . exact .inl h0
   . right
     have key:∀i,i<len->∃row y,row.length=k/\(∀j v,row[j]? =some v->w.cell? (a.add (i*k+j))=some v)/\DataW.trod enc P w base sp held n e row=some y:=by
      intro i hi;have hE:=hel i hi;have hs:∃y,elems[i]? =some y:=⟨_,List.getElem?_eq_getElem (by omega)⟩
      obtain⟨y,hy⟩:=hs;rw[hy,hc]at hE;obtain⟨row,hrow,hy2⟩:=Option.bind_eq_some_iff.1 hE;obtain⟨_,hlr,hg⟩:=World.cells?_some hrow;refine⟨row,y,hlr,λj v hj=> ?_,hy2⟩;have hjk:j<k:=(by rw[<-hlr];exact(List.getElem?_eq_some_iff.1 hj).1)
      have:=hg j hjk;rw[hj]at this
      rwa [addr_add_add]at this
     have hsp:a.spot=none:=by obtain⟨row,y,hlr,hg,_⟩:=key 0 (by omega);have:=World.cell?_spot (hg 0 _ (List.getElem?_eq_getElem (by omega)));simpa[Addr.add]using this
     obtain⟨b,o,s⟩:=a;simp only at hsp;subst hsp;refine⟨b,o,rfl,λi hi=> ?_⟩;obtain⟨row,y,hlr,hg,hy⟩:=key i hi;refine⟨row,n,y,by omega,hlr,λj v hj=> ?_,hy⟩;have:=hg j v hj
     rwa [addr_add_none,<-Nat.add_assoc]at this
theorem rows_pick {α:Type} {F:Nat->α->Prop}:∀len,(∀i,i<len->∃x,F i x)->∃xs:List α,xs.length=len/\∀i x,xs[i]? =some x->F i x
 |0,_=>⟨[],rfl,λi x h=>by simp at h⟩
 |n+1,h=>by
   obtain⟨xs,hl,hx⟩:=rows_pick n λi hi=>h i (by omega);obtain⟨y,hy⟩:=h n (by omega);refine⟨xs++[y],by simp[hl],λi x hi=> ?_⟩
   by_cases hin:i<n
   . rw[List.getElem?_append_left (by omega)]at hi;exact hx i x hi
   . rw[List.getElem?_append_right (by omega)]at hi;have hi1:i-xs.length<1:=(by simpa using(List.getElem?_eq_some_iff.1 hi).1)
     have:i=n:=(by omega)
     subst this;simp[hl]at hi;subst hi;exact hy
theorem vW{α:Type}{F:World->Nat->Nat->α->Prop}{t e:TypeId}{k fuel:Nat}{cs:List Value}{x:DataW H×List MemPlace}(ht:P.underlying t=some (.slice e))(hc:P.cellsOf e=k)(hk:0<k)(hF:∀n row y b o,n<fuel->row.length=k->(∀j v,row[j]? =some v->w.cell? ⟨b,o+j,none⟩=some v)->DataW.trod enc P w base sp held n e row=some y->∃q,F w b o q)(h:DataW.trod enc P w base sp held fuel t cs=some x):∃ao xs cap,cs=[.slice ao (List.length xs) cap]/\RowsIn F k w ao xs:=by
 obtain⟨ao,len,cap,rfl,hl,h0 |⟨b,o,rfl,hr⟩⟩:=slice_rows ht hc hk h
 . exact⟨ao,[],cap,by rw[h0];rfl,by simp,.inl rfl⟩
 . obtain⟨xs,hxl,hx⟩:=rows_pick (F:=λi q=>F w b (o+i*k) q) len λi hi=>by
    obtain⟨row,n,y,hn,hlr,hg,hy⟩:=hr i hi;exact hF n row y b (o+i*k) hn hlr hg hy
   exact⟨_,xs,cap,by rw[hxl],by omega,.inr ⟨b,o,rfl,hx⟩⟩
theorem qZ{t:TypeId}{k:IntKind}{fuel:Nat}{cs:List Value}{x:DataW H×List MemPlace}(ht:P.underlying t=some (.int k))(h:DataW.trod enc P w base sp held fuel t cs=some x):∃n,cs=[.int k n]:=by obtain⟨n,h,_⟩:=DataW.trod_int ht h;exact⟨n,h⟩
theorem open_str_cell{t:TypeId}{fuel:Nat}{cs:List Value}{x:DataW H×List MemPlace}(ht:P.underlying t=some .string)(h:DataW.trod enc P w base sp held fuel t cs=some x):∃s:ByteArray,cs=[.string s]/\s.size<=9223372036854775807:=by obtain⟨s,h,_,hs⟩:=DataW.trod_string ht h;exact⟨s,h,by unfold maxLen at hs;omega⟩
theorem open_bool_cell{t:TypeId}{fuel:Nat}{cs:List Value}{x:DataW H×List MemPlace}(ht:P.underlying t=some .bool)(h:DataW.trod enc P w base sp held fuel t cs=some x):∃c,cs=[.bool c]:=by obtain⟨c,h,_⟩:=DataW.trod_bool ht h;exact⟨c,h⟩
theorem xN{t e:TypeId}{fuel:Nat}{cs:List Value}{x:DataW H×List MemPlace}(ht:P.underlying t=some (.slice e))(he:P.underlying e=some (.int .i64))(hc:P.cellsOf e=1)(h:DataW.trod enc P w base sp held fuel t cs=some x):∃ao l cap,cs=[.slice ao (List.length l) cap]/\IntsIn w ao l:=by
 obtain⟨ao,xs,cap,hcs,hl,hr⟩:=vW (F:=λw b o (n:Int)=>w.cell? ⟨b,o,none⟩=some (.int .i64 n)) ht hc (by omega) (λn row y b o hn hlr hg hy=>by
  obtain⟨m,rfl⟩:=qZ he hy;exact⟨m,by simpa using hg 0 _ rfl⟩) h
 refine⟨ao,xs,cap,hcs,hl,?_⟩
 rcases hr with hr |⟨b,o,e,hr⟩
 . exact .inl hr
 . exact .inr ⟨b,o,e,λi x hx=>by simpa using hr i x hx⟩
theorem il_pick {w:World} {b:Nat}:∀n o,(∀i,i<n->∃q:One,IlAt w b (o+i*7) q.il)->∃l:Il,l.len=n/\IlAt w b o l
 |0,_,_=>⟨.nil,rfl,trivial⟩
 |n+1,o,h=>by
   obtain⟨q,hq⟩:=h 0 (by omega)
   obtain⟨r,hr,hi⟩:=il_pick n (o+7) λi hi=>by
    obtain⟨q,hq⟩:=h (i+1) (by omega);exact⟨q,by rwa [show o+7+i*7=o+(i+1)*7 by omega]⟩
   rw[Nat.zero_mul,Nat.add_zero]at hq;obtain⟨h0,h1,h2,h3,_⟩:=hq;exact⟨.cons q.op q.x q.y q.n q.ls q.body q.els r,by show r.len+1=n+1;omega,h0,h1,h2,h3,hi⟩
theorem open_il{t e:TypeId}{fuel:Nat}{cs:List Value}{x:DataW H×List MemPlace}(ht:P.underlying t=some (.slice e))(hc:P.cellsOf e=7)(hF:∀n row y b o,n<fuel->row.length=7->(∀j v,row[j]? =some v->w.cell? ⟨b,o+j,none⟩=some v)->DataW.trod enc P w base sp held n e row=some y->∃q:One,IlAt w b o q.il)(h:DataW.trod enc P w base sp held fuel t cs=some x):∃ao l cap,cs=[.slice ao (Il.len l) cap]/\l.len<=9223372036854775807/\IlIn w ao 0 l:=by
 obtain⟨ao,len,cap,rfl,hl,h0 |⟨b,o,rfl,hr⟩⟩:=slice_rows ht hc (by omega) h
 . exact⟨ao,.nil,cap,by rw[h0];rfl,by simp[Il.len],.inl rfl⟩
 . obtain⟨l,hll,hi⟩:=il_pick len o λi hi=>by
    obtain⟨row,n,y,hn,hlr,hg,hy⟩:=hr i hi;exact hF n row y b (o+i*7) hn hlr hg hy
   exact⟨_,l,cap,by rw[hll],by omega,.inr ⟨b,o,rfl,by simpa using hi⟩⟩
theorem jO{t:TypeId}{fs:Array Field}{fuel:Nat}{cs:List Value}{x:DataW H×List MemPlace}(ht:P.underlying t=some (.struct fs))(h:DataW.trod enc P w base sp held fuel t cs=some x):cs.length=P.cellsOf t/\∃n,n<fuel/\∀(i:Nat) (f:Field),fs[i]? =some f->∃y,DataW.trod enc P w base sp held n f.type ((cs.drop f.offset).take (P.cellsOf f.type))=some y:=by
 obtain⟨xs,n,hn,_,hl,hlen,hf⟩:=DataW.trod_struct ht h;refine⟨hl,n,by omega,λi f hi=> ?_⟩
 have hi2:i<xs.length:=by have:=(Array.getElem?_eq_some_iff.1 hi).1;omega
 exact⟨xs[i],by rw[hf i f hi];exact List.getElem?_eq_getElem hi2⟩
end
theorem qW{row l:List Value}{o k j:Nat}{v:Value}(h:(row.drop o).take k=l)(hj:l[j]? =some v):row[o+j]? =some v:=by
 subst h;rw[List.getElem?_take]at hj;split at hj
 . rwa [List.getElem?_drop]at hj
 . cases hj
theorem cells3:Tryz.prog.cellsOf 3=1:=by kernel_rfl
section
variable {H:Type} {enc:TypeId×Value->H} {w:World} {base:Nat} {sp:Nat->Bool} {held:Bool}
theorem cells45:Tryz.prog.cellsOf 49=7:=by kernel_rfl
theorem of0{w:World}{a:Option Addr}{l:Il}(h:IlIn w a 0 l):l=.nil\/∃b o,a=some ⟨b,o,none⟩/\IlAt w b o l:=by simpa[IlIn]using h
theorem open_one:∀(fuel:Nat) (row:List Value) (y:DataW H×List MemPlace) (b o:Nat),row.length=7->(∀j v,row[j]? =some v->w.cell? ⟨b,o+j,none⟩=some v)->DataW.trod enc Tryz.prog w base sp held fuel 49 row=some y->∃q:One,IlAt w b o q.il:=by
 intro fuel
 induction fuel using Nat.strongRecOn with
 |ind fuel ih=>
 intro row y b o hlr hg h;obtain⟨_,n,hn,hf⟩:=jO Tryz.underlying49 h;obtain⟨y0,f0⟩:=hf 0 _ rfl;obtain⟨v0,e0⟩:=qZ Tryz.underlying3 f0;have g0:=hg _ _ (qW e0 (j:=0) rfl);obtain⟨y1,f1⟩:=hf 1 _ rfl;obtain⟨v1,e1⟩:=qZ Tryz.underlying3 f1;have g1:=hg _ _ (qW e1 (j:=0) rfl);obtain⟨y2,f2⟩:=hf 2 _ rfl;obtain⟨v2,e2⟩:=qZ Tryz.underlying3 f2;have g2:=hg _ _ (qW e2 (j:=0) rfl);obtain⟨y3,f3⟩:=hf 3 _ rfl;obtain⟨v3,e3⟩:=qZ Tryz.underlying3 f3;have g3:=hg _ _ (qW e3 (j:=0) rfl);obtain⟨y4,f4⟩:=hf 4 _ rfl;obtain⟨a4,v4,c4,e4,i4⟩:=xN Tryz.underlying28 Tryz.underlying3 cells3 f4;have g4:=hg _ _ (qW e4 (j:=0) rfl);obtain⟨y5,f5⟩:=hf 5 _ rfl;obtain⟨a5,v5,c5,e5,l5,i5⟩:=open_il Tryz.underlying45 cells45 (λm r z b o hm=>ih m (by omega) r z b o) f5;have g5:=hg _ _ (qW e5 (j:=0) rfl);obtain⟨y6,f6⟩:=hf 6 _ rfl;obtain⟨a6,v6,c6,e6,l6,i6⟩:=open_il Tryz.underlying45 cells45 (λm r z b o hm=>ih m (by omega) r z b o) f6;have g6:=hg _ _ (qW e6 (j:=0) rfl);exact⟨⟨v0,v1,v2,v3,v4,v5,v6⟩,⟨g0,g1,g2,g3⟩,⟨a4,c4,g4,i4⟩,⟨a5,c5,g5,l5,of0 i5⟩,⟨a6,c6,g6,l6,of0 i6⟩,trivial⟩
theorem cells47:Tryz.prog.cellsOf 44=2:=by kernel_rfl
theorem open_type_row(fuel:Nat)(row:List Value)(y:DataW H×List MemPlace)(b o:Nat)(hlr:row.length=2)(hg:∀j v,row[j]? =some v->w.cell? ⟨b,o+j,none⟩=some v)(h:DataW.trod enc Tryz.prog w base sp held fuel 44 row=some y):∃q,TypeAt w b o q:=by
 obtain⟨_,n,hn,hf⟩:=jO Tryz.underlying44 h;obtain⟨y0,f0⟩:=hf 0 _ rfl;obtain⟨a0,v0,c0,e0,i0⟩:=xN Tryz.underlying28 Tryz.underlying3 cells3 f0;have g0:=hg _ _ (qW e0 (j:=0) rfl);obtain⟨y1,f1⟩:=hf 1 _ rfl;obtain⟨a1,v1,c1,e1,i1⟩:=xN Tryz.underlying28 Tryz.underlying3 cells3 f1;have g1:=hg _ _ (qW e1 (j:=0) rfl);exact⟨(v0,v1),⟨a0,c0,g0,i0⟩,⟨a1,c1,g1,i1⟩⟩
theorem cells73:Tryz.prog.cellsOf 82=3:=by kernel_rfl
theorem open_import_row(fuel:Nat)(row:List Value)(y:DataW H×List MemPlace)(b o:Nat)(hlr:row.length=3)(hg:∀j v,row[j]? =some v->w.cell? ⟨b,o+j,none⟩=some v)(h:DataW.trod enc Tryz.prog w base sp held fuel 82 row=some y):∃q,ImportAt w b o q:=by
 obtain⟨_,n,hn,hf⟩:=jO Tryz.underlying82 h;obtain⟨y0,f0⟩:=hf 0 _ rfl;obtain⟨v0,e0,s0⟩:=open_str_cell Tryz.underlying9 f0;have g0:=hg _ _ (qW e0 (j:=0) rfl);obtain⟨y1,f1⟩:=hf 1 _ rfl;obtain⟨v1,e1,s1⟩:=open_str_cell Tryz.underlying9 f1;have g1:=hg _ _ (qW e1 (j:=0) rfl);obtain⟨y2,f2⟩:=hf 2 _ rfl;obtain⟨v2,e2⟩:=qZ Tryz.underlying3 f2;have g2:=hg _ _ (qW e2 (j:=0) rfl);exact⟨(v0,v1,v2),⟨g0,s0⟩,⟨g1,s1⟩,g2⟩
theorem cells49:Tryz.prog.cellsOf 53=3:=by kernel_rfl
theorem open_func_row(fuel:Nat)(row:List Value)(y:DataW H×List MemPlace)(b o:Nat)(hlr:row.length=3)(hg:∀j v,row[j]? =some v->w.cell? ⟨b,o+j,none⟩=some v)(h:DataW.trod enc Tryz.prog w base sp held fuel 53 row=some y):∃q,FuncAt w b o q:=by
 obtain⟨_,n,hn,hf⟩:=jO Tryz.underlying53 h;obtain⟨y0,f0⟩:=hf 0 _ rfl;obtain⟨v0,e0⟩:=qZ Tryz.underlying3 f0;have g0:=hg _ _ (qW e0 (j:=0) rfl);obtain⟨y1,f1⟩:=hf 1 _ rfl;obtain⟨a1,v1,c1,e1,i1⟩:=xN Tryz.underlying28 Tryz.underlying3 cells3 f1;have g1:=hg _ _ (qW e1 (j:=0) rfl);obtain⟨y2,f2⟩:=hf 2 _ rfl;obtain⟨a2,v2,c2,e2,l2,i2⟩:=open_il Tryz.underlying45 cells45 (λm r z b o hm=>open_one m r z b o) f2;have g2:=hg _ _ (qW e2 (j:=0) rfl);exact⟨(v0,v1,v2),g0,⟨a1,c1,g1,i1⟩,⟨a2,c2,g2,l2,i2⟩⟩
theorem cells76:Tryz.prog.cellsOf 47=3:=by kernel_rfl
theorem open_limits_row(fuel:Nat)(row:List Value)(y:DataW H×List MemPlace)(b o:Nat)(hlr:row.length=3)(hg:∀j v,row[j]? =some v->w.cell? ⟨b,o+j,none⟩=some v)(h:DataW.trod enc Tryz.prog w base sp held fuel 47 row=some y):∃q,LimitsAt w b o q:=by
 obtain⟨_,n,hn,hf⟩:=jO Tryz.underlying47 h;obtain⟨y0,f0⟩:=hf 0 _ rfl;obtain⟨v0,e0⟩:=qZ Tryz.underlying3 f0;have g0:=hg _ _ (qW e0 (j:=0) rfl);obtain⟨y1,f1⟩:=hf 1 _ rfl;obtain⟨v1,e1⟩:=qZ Tryz.underlying3 f1;have g1:=hg _ _ (qW e1 (j:=0) rfl);obtain⟨y2,f2⟩:=hf 2 _ rfl;obtain⟨v2,e2⟩:=open_bool_cell Tryz.underlying4 f2;have g2:=hg _ _ (qW e2 (j:=0) rfl);exact⟨(v0,v1,v2),g0,g1,g2⟩
theorem cells62:Tryz.prog.cellsOf 51=9:=by kernel_rfl
theorem open_global_row(fuel:Nat)(row:List Value)(y:DataW H×List MemPlace)(b o:Nat)(hlr:row.length=9)(hg:∀j v,row[j]? =some v->w.cell? ⟨b,o+j,none⟩=some v)(h:DataW.trod enc Tryz.prog w base sp held fuel 51 row=some y):∃q,GlobalAt w b o q:=by
 obtain⟨_,n,hn,hf⟩:=jO Tryz.underlying51 h;obtain⟨y0,f0⟩:=hf 0 _ rfl;obtain⟨v0,e0⟩:=qZ Tryz.underlying3 f0;have g0:=hg _ _ (qW e0 (j:=0) rfl);obtain⟨y1,f1⟩:=hf 1 _ rfl;obtain⟨v1,e1⟩:=open_bool_cell Tryz.underlying4 f1;have g1:=hg _ _ (qW e1 (j:=0) rfl);obtain⟨y2,f2⟩:=hf 2 _ rfl;obtain⟨v2,i2⟩:=open_one _ _ _ b (o+2) (by simp[List.length_take,List.length_drop,hlr,cells45]) (λj v hj=>by have:=hg _ _ (qW rfl hj);rwa [<-Nat.add_assoc]at this) f2;exact⟨(v0,v1,v2),g0,g1,i2⟩
theorem cells79:Tryz.prog.cellsOf 63=3:=by kernel_rfl
theorem open_export_row(fuel:Nat)(row:List Value)(y:DataW H×List MemPlace)(b o:Nat)(hlr:row.length=3)(hg:∀j v,row[j]? =some v->w.cell? ⟨b,o+j,none⟩=some v)(h:DataW.trod enc Tryz.prog w base sp held fuel 63 row=some y):∃q,ExportAt w b o q:=by
 obtain⟨_,n,hn,hf⟩:=jO Tryz.underlying63 h;obtain⟨y0,f0⟩:=hf 0 _ rfl;obtain⟨v0,e0,s0⟩:=open_str_cell Tryz.underlying9 f0;have g0:=hg _ _ (qW e0 (j:=0) rfl);obtain⟨y1,f1⟩:=hf 1 _ rfl;obtain⟨v1,e1⟩:=qZ Tryz.underlying3 f1;have g1:=hg _ _ (qW e1 (j:=0) rfl);obtain⟨y2,f2⟩:=hf 2 _ rfl;obtain⟨v2,e2⟩:=qZ Tryz.underlying3 f2;have g2:=hg _ _ (qW e2 (j:=0) rfl);exact⟨(v0,v1,v2),⟨g0,s0⟩,g1,g2⟩
theorem cells58:Tryz.prog.cellsOf 67=8:=by kernel_rfl
theorem open_elem_row(fuel:Nat)(row:List Value)(y:DataW H×List MemPlace)(b o:Nat)(hlr:row.length=8)(hg:∀j v,row[j]? =some v->w.cell? ⟨b,o+j,none⟩=some v)(h:DataW.trod enc Tryz.prog w base sp held fuel 67 row=some y):∃q,ElemAt w b o q:=by
 obtain⟨_,n,hn,hf⟩:=jO Tryz.underlying67 h;obtain⟨y0,f0⟩:=hf 0 _ rfl;obtain⟨v0,i0⟩:=open_one _ _ _ b (o+0) (by simp[List.length_take,List.length_drop,hlr,cells45]) (λj v hj=>by have:=hg _ _ (qW rfl hj);rwa [<-Nat.add_assoc]at this) f0;obtain⟨y1,f1⟩:=hf 1 _ rfl;obtain⟨a1,v1,c1,e1,i1⟩:=xN Tryz.underlying28 Tryz.underlying3 cells3 f1;have g1:=hg _ _ (qW e1 (j:=0) rfl);exact⟨(v0,v1),i0,⟨a1,c1,g1,i1⟩⟩
theorem cells60:Tryz.prog.cellsOf 69=8:=by kernel_rfl
theorem open_data_row(fuel:Nat)(row:List Value)(y:DataW H×List MemPlace)(b o:Nat)(hlr:row.length=8)(hg:∀j v,row[j]? =some v->w.cell? ⟨b,o+j,none⟩=some v)(h:DataW.trod enc Tryz.prog w base sp held fuel 69 row=some y):∃q,DataAt w b o q:=by
 obtain⟨_,n,hn,hf⟩:=jO Tryz.underlying69 h;obtain⟨y0,f0⟩:=hf 0 _ rfl;obtain⟨v0,i0⟩:=open_one _ _ _ b (o+0) (by simp[List.length_take,List.length_drop,hlr,cells45]) (λj v hj=>by have:=hg _ _ (qW rfl hj);rwa [<-Nat.add_assoc]at this) f0;obtain⟨y1,f1⟩:=hf 1 _ rfl;obtain⟨v1,e1,s1⟩:=open_str_cell Tryz.underlying9 f1;have g1:=hg _ _ (qW e1 (j:=0) rfl);exact⟨(v0,v1),i0,⟨g1,s1⟩⟩
theorem cells36:Tryz.prog.cellsOf 32=10:=by kernel_rfl
theorem open_module{base0:Nat}{v:Value}{d:DataW H}{ps:List MemPlace}(hval:Value.okWide Tryz.prog w .any base0 32 v)(hd:DataW.Trod enc Tryz.prog w base sp held 32 v d ps):∃m a0 k0 a1 k1 a2 k2 a3 k3 a4 k4 a5 k5 a6 k6 a7 k7 a8 k8 a9 k9,v=mdV m a0 k0 a1 k1 a2 k2 a3 k3 a4 k4 a5 k5 a6 k6 a7 k7 a8 k8 a9 k9/\MdAt w m a0 k0 a1 k1 a2 k2 a3 k3 a4 k4 a5 k5 a6 k6 a7 k7 a8 k8 a9 k9:=by
 unfold Value.okWide at hval;rw[Tryz.underlying32]at hval;obtain⟨cs,rfl,hsz,_⟩:=hval;rw[cells36]at hsz;obtain⟨fuel,hf⟩:=hd;obtain⟨_,n,hn,hf⟩:=jO Tryz.underlying32 hf;obtain⟨cs⟩:=cs;rw[List.size_toArray]at hsz
 rcases cs with _ |⟨x0,_ |⟨x1,_ |⟨x2,_ |⟨x3,_ |⟨x4,_ |⟨x5,_ |⟨x6,_ |⟨x7,_ |⟨x8,_ |⟨x9,_ |⟨x10,cs⟩⟩⟩⟩⟩⟩⟩⟩⟩⟩⟩
 all_goals first |(exfalso;simp only[List.length_cons,List.length_nil]at hsz;omega) |skip
 obtain⟨y0,f0⟩:=hf 0 _ rfl;obtain⟨a0,l0,k0,e0,r0⟩:=vW (cs:=[x0]) Tryz.underlying22 cells47 (by omega) (λm r z b o hm=>open_type_row m r z b o) f0;obtain rfl:=List.head_eq_of_cons_eq e0;obtain⟨y1,f1⟩:=hf 1 _ rfl;obtain⟨a1,l1,k1,e1,r1⟩:=vW (cs:=[x1]) Tryz.underlying23 cells73 (by omega) (λm r z b o hm=>open_import_row m r z b o) f1;obtain rfl:=List.head_eq_of_cons_eq e1;obtain⟨y2,f2⟩:=hf 2 _ rfl;obtain⟨a2,l2,k2,e2,r2⟩:=vW (cs:=[x2]) Tryz.underlying24 cells49 (by omega) (λm r z b o hm=>open_func_row m r z b o) f2;obtain rfl:=List.head_eq_of_cons_eq e2;obtain⟨y3,f3⟩:=hf 3 _ rfl;obtain⟨a3,l3,k3,e3,r3⟩:=vW (cs:=[x3]) Tryz.underlying25 cells76 (by omega) (λm r z b o hm=>open_limits_row m r z b o) f3;obtain rfl:=List.head_eq_of_cons_eq e3;obtain⟨y4,f4⟩:=hf 4 _ rfl;obtain⟨a4,l4,k4,e4,r4⟩:=vW (cs:=[x4]) Tryz.underlying25 cells76 (by omega) (λm r z b o hm=>open_limits_row m r z b o) f4;obtain rfl:=List.head_eq_of_cons_eq e4;obtain⟨y5,f5⟩:=hf 5 _ rfl;obtain⟨a5,l5,k5,e5,r5⟩:=vW (cs:=[x5]) Tryz.underlying26 cells62 (by omega) (λm r z b o hm=>open_global_row m r z b o) f5;obtain rfl:=List.head_eq_of_cons_eq e5;obtain⟨y6,f6⟩:=hf 6 _ rfl;obtain⟨a6,l6,k6,e6,r6⟩:=vW (cs:=[x6]) Tryz.underlying27 cells79 (by omega) (λm r z b o hm=>open_export_row m r z b o) f6;obtain rfl:=List.head_eq_of_cons_eq e6
 obtain⟨y7,f7⟩:=hf 7 _ rfl;obtain⟨a7,l7,k7,e7,r7⟩:=xN (cs:=[x7]) Tryz.underlying28 Tryz.underlying3 cells3 f7;obtain rfl:=List.head_eq_of_cons_eq e7;obtain⟨y8,f8⟩:=hf 8 _ rfl;obtain⟨a8,l8,k8,e8,r8⟩:=vW (cs:=[x8]) Tryz.underlying29 cells58 (by omega) (λm r z b o hm=>open_elem_row m r z b o) f8;obtain rfl:=List.head_eq_of_cons_eq e8;obtain⟨y9,f9⟩:=hf 9 _ rfl;obtain⟨a9,l9,k9,e9,r9⟩:=vW (cs:=[x9]) Tryz.underlying30 cells60 (by omega) (λm r z b o hm=>open_data_row m r z b o) f9;obtain rfl:=List.head_eq_of_cons_eq e9;exact⟨⟨l0,l1,l2,l3,l4,l5,l6,l7,l8,l9⟩,a0,k0,a1,k1,a2,k2,a3,k3,a4,k4,a5,k5,a6,k6,a7,k7,a8,k8,a9,k9,rfl,r0,r1,r2,r3,r4,r5,r6,r7,r8,r9⟩
theorem open_instrs{base0:Nat}{v:Value}{d:DataW H}{ps:List MemPlace}(hval:Value.okWide Tryz.prog w .any base0 45 v)(hd:DataW.Trod enc Tryz.prog w base sp held 45 v d ps):∃ao l c,v=.slice ao (Il.len l) c/\l.len<=9223372036854775807/\IlIn w ao 0 l:=by
 obtain⟨fuel,hf⟩:=hd;obtain⟨a,len,cap,rfl⟩:=okWide_slice Tryz.underlying45 hval;obtain⟨ao,l,c,e,hl,hi⟩:=open_il (cs:=[.slice a len cap]) Tryz.underlying45 cells45 (λm r z b o hm=>open_one m r z b o) hf;exact⟨ao,l,c,List.head_eq_of_cons_eq e,hl,hi⟩
end
end Go.Proofs.YtacohbllbjgdgaaGreatDoor
