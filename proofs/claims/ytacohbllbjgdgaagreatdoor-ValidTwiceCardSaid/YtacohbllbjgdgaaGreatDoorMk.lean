/- The contract of few. -/
import Derived.Test.YtacohbllbjgdgaaGreatDoorMj
set_option linter.all false
set_option maxRecDepth 100000
set_option maxHeartbeats 8000000
namespace Go.Proofs.YtacohbllbjgdgaaGreatDoor
open Go.RowKit
def le4 (n:Int):Bool:=decide (n<=4096)
def vY (m:Md):List Int:=[(m.types.length:Int),m.imports.length,m.funcs.length,m.tables.length,m.mems.length,m.globals.length,m.exports.length,m.elems.length,m.datas.length]
def j7:List (One×ByteArray)->Int->Bool
 | [],_=>true
 |d::r,left=>decide ((d.2.size:Int)<=left)&&j7 r (left-d.2.size)
def vP (t:List Int×List Int):Bool:=decide ((t.1.length:Int)<=4096)&&decide ((t.2.length:Int)<=4096)
def yK (t:One×List Int):Bool:=decide ((t.2.length:Int)<=4096)
def funFew (t:Int×List Int×Il):Bool:=decide ((t.2.1.length:Int)<=256)&&lab t.2.2
def few5 (m:Md):Bool:=m.funcs.all funFew
def few4 (m:Md):Bool:=decide (65536-vB m.funcs 65536<=65536)&&few5 m
def few3 (m:Md):Bool:=j7 m.datas 262144&&few4 m
def few2 (m:Md):Bool:=m.elems.all yK&&few3 m
def few1 (m:Md):Bool:=m.types.all vP&&few2 m
def few0 (m:Md):Bool:=decide ((m.start.length:Int)<=1)&&few1 m
def fewB (m:Md):Bool:=(vY m).all le4&&few0 m
theorem few_any(m:Md)(a0:Option Addr)(k0:Nat)(a1:Option Addr)(k1:Nat)(a2:Option Addr)(k2:Nat)(a3:Option Addr)(k3:Nat)(a4:Option Addr)(k4:Nat)(a5:Option Addr)(k5:Nat)(a6:Option Addr)(k6:Nat)(a7:Option Addr)(k7:Nat)(a8:Option Addr)(k8:Nat)(a9:Option Addr)(k9:Nat)(w:World)(h:MdAt w m a0 k0 a1 k1 a2 k2 a3 k3 a4 k4 a5 k5 a6 k6 a7 k7 a8 k8 a9 k9):Calls Tryz.prog 46 #[mdV m a0 k0 a1 k1 a2 k2 a3 k3 a4 k4 a5 k5 a6 k6 a7 k7 a8 k8 a9 k9] w λe w'=>e=endE (fewB m) 3/\Below w.heap.size w w':=by
 have HM:=zh (h.keep (zA ((Below.refl w.heap.size w).alloc (Nat.le_refl _) (.cells #[.slice a0 m.types.length k0,.slice a1 m.imports.length k1,.slice a2 m.funcs.length k2,.slice a3 m.tables.length k3,.slice a4 m.mems.length k4,.slice a5 m.globals.length k5,.slice a6 m.exports.length k6,.slice a7 m.start.length k7,.slice a8 m.elems.length k8,.slice a9 m.datas.length k9] 32))));have n0:=h.types.1;have n1:=h.imports.1;have n2:=h.funcs.1;have n3:=h.tables.1;have n4:=h.mems.1;have n5:=h.globals.1;have n6:=h.exports.1;have n7:=h.start.1;have n8:=h.elems.1;have n9:=h.datas.1;have hB0:Hid (Below w.heap.size w (w.alloc (.cells #[.slice a0 m.types.length k0,.slice a1 m.imports.length k1,.slice a2 m.funcs.length k2,.slice a3 m.tables.length k3,.slice a4 m.mems.length k4,.slice a5 m.globals.length k5,.slice a6 m.exports.length k6,.slice a7 m.start.length k7,.slice a8 m.elems.length k8,.slice a9 m.datas.length k9] 32))):=zh ((Below.refl _ _).alloc (Nat.le_refl _) _);have hS:Hid (fewB m=((vY m).all le4&&few0 m)):=zh rfl;clear h;unfold mdV;go_enter Tryz.func46,Tryz.ntmps46;go_wp2_with fail;obtain⟨w0,hw0⟩:∃w0,w0=(w.alloc (.cells #[.slice a0 m.types.length k0,.slice a1 m.imports.length k1,.slice a2 m.funcs.length k2,.slice a3 m.tables.length k3,.slice a4 m.mems.length k4,.slice a5 m.globals.length k5,.slice a6 m.exports.length k6,.slice a7 m.start.length k7,.slice a8 m.elems.length k8,.slice a9 m.datas.length k9] 32)):=⟨_,rfl⟩
 rw[<-hw0];rw[<-hw0]at HM hB0;have hs0:w.heap.size<=w0.heap.size:=hB0.out.size;have hs1:w0.heap.size=w.heap.size+1:=(by rw[hw0];simp)
 have y0:Hid (w0.cell? ⟨w.heap.size,0,none⟩=some (.slice a0 m.types.length k0)):=zh (by rw[hw0];exact World.cell?_alloc_at _ _ _ _ rfl);have y1:Hid (w0.cell? ⟨w.heap.size,1,none⟩=some (.slice a1 m.imports.length k1)):=zh (by rw[hw0];exact World.cell?_alloc_at _ _ _ _ rfl);have y2:Hid (w0.cell? ⟨w.heap.size,2,none⟩=some (.slice a2 m.funcs.length k2)):=zh (by rw[hw0];exact World.cell?_alloc_at _ _ _ _ rfl);have y3:Hid (w0.cell? ⟨w.heap.size,3,none⟩=some (.slice a3 m.tables.length k3)):=zh (by rw[hw0];exact World.cell?_alloc_at _ _ _ _ rfl);have y4:Hid (w0.cell? ⟨w.heap.size,4,none⟩=some (.slice a4 m.mems.length k4)):=zh (by rw[hw0];exact World.cell?_alloc_at _ _ _ _ rfl);have y5:Hid (w0.cell? ⟨w.heap.size,5,none⟩=some (.slice a5 m.globals.length k5)):=zh (by rw[hw0];exact World.cell?_alloc_at _ _ _ _ rfl);have y6:Hid (w0.cell? ⟨w.heap.size,6,none⟩=some (.slice a6 m.exports.length k6)):=zh (by rw[hw0];exact World.cell?_alloc_at _ _ _ _ rfl);have y7:Hid (w0.cell? ⟨w.heap.size,7,none⟩=some (.slice a7 m.start.length k7)):=zh (by rw[hw0];exact World.cell?_alloc_at _ _ _ _ rfl);have y8:Hid (w0.cell? ⟨w.heap.size,8,none⟩=some (.slice a8 m.elems.length k8)):=zh (by rw[hw0];exact World.cell?_alloc_at _ _ _ _ rfl);have y9:Hid (w0.cell? ⟨w.heap.size,9,none⟩=some (.slice a9 m.datas.length k9)):=zh (by rw[hw0];exact World.cell?_alloc_at _ _ _ _ rfl)
 obtain⟨wq,hwq⟩:∃wq,wq=w0.alloc (.cells #[.int .i64 m.types.length,.int .i64 m.imports.length,.int .i64 m.funcs.length,.int .i64 m.tables.length,.int .i64 m.mems.length,.int .i64 m.globals.length,.int .i64 m.exports.length,.int .i64 m.elems.length,.int .i64 m.datas.length] 3):=⟨_,rfl⟩
 have HI:Hid (IntsIn wq (some ⟨w.heap.size+1,0,none⟩) (vY m)):=zh (by rw[hwq,<-hs1];have:=jI w0 (vY m) (by simp[vY]);simpa[vY]using this);have hbq:Hid (Below w0.heap.size w0 wq):=zh (by rw[hwq];exact(Below.refl _ _).alloc (Nat.le_refl _) _);rw[<-hwq];clear hwq hw0 hs1;have hl9:(vY m).length=9:=rfl
 go_loop [43] (λvi=>∃i:Nat,i<=9/\vi=.int .i64 i/\Hid (((vY m).take i).all le4=true)) (λvi=>9-(intOf vi).toNat)
 case atStart=>exact⟨0,Nat.zero_le _,rfl,zh rfl⟩
 case round=>
  obtain⟨i,hi,rfl,ha⟩:=hrel
  by_cases hlt:i<9
  . obtain⟨x,hx⟩:∃x,(vY m)[i]? =some x:=⟨_,List.getElem?_eq_getElem (by rw[hl9];exact hlt)⟩
    obtain⟨b,o,e,hcell⟩:=HI.out.cell hx;cases e;rw[Nat.zero_add]at hcell;have hn:=zh (all_drop hx ha.out);clear hx
    by_cases h1:x<=4096
    . have hn2:=zh (hn.out.1 (decide_eq_true h1));go_wp2_with fail;refine(cnt1_yes x _ h1).mono ?_;rintro e w' ⟨rfl,rfl⟩;go_wp2
      go_round
      case rel=>exact⟨i+1,by omega,by simp,hn2⟩
      case measure=>simp[intOf];omega
    . have hn2:=zh (hn.out.2 (decide_eq_false h1));go_wp2_with fail;refine(cnt1_no x _ (by omega)).mono ?_;rintro e w' ⟨rfl,rfl⟩;go_wp2;exact⟨rfl,by rw[hS.out,hn2.out];rfl,hB0.out.trans (hbq.out.mono hs0)⟩
  . obtain rfl:i=9:=by omega
    have ha2:(vY m).all le4=true:=(by have:=ha.out;rwa [List.take_of_length_le (by rw[hl9];decide)]at this)
    have hS1:Hid (fewB m=(decide ((m.start.length:Int)<=1)&&few1 m)):=zh (by rw[hS.out,ha2];rfl);clear ha ha2 hi hlt hS HI;have x7:wq.cell? ⟨w.heap.size,7,none⟩=some (.slice a7 m.start.length k7):=zA hbq.out _ _ y7.out;have x0:wq.cell? ⟨w.heap.size,0,none⟩=some (.slice a0 m.types.length k0):=zA hbq.out _ _ y0.out
    by_cases h1:(m.start.length:Int)<=1
    . have d1:decide ((m.start.length:Int)<=1)=true:=decide_eq_true h1;have S1:Hid (fewB m=(m.types.all vP&&few2 m)):=zh (by rw[hS1.out,d1];rfl);clear hS1;go_wp2_with fail;refine(qF 3 _).mono ?_;rintro e w' ⟨rfl,rfl⟩;go_wp2_with fail;go_loopw [59] (λvi wr=>∃i:Nat,i<=m.types.length/\vi=.int .i64 i/\Hid ((m.types.take i).all vP=true)/\Hid (Below w0.heap.size w0 wr)) (λvi _=>m.types.length-(intOf vi).toNat)
      case atStart=>exact⟨0,Nat.zero_le _,rfl,zh rfl,hbq⟩
      case round=>
       obtain⟨i,hi,rfl,ha,hb⟩:=hrel
       by_cases hlt:i<m.types.length
       . obtain⟨t,ht⟩:∃t,m.types[i]? =some t:=⟨_,List.getElem?_eq_getElem hlt⟩
         obtain⟨b,o,e,hrow⟩:=(HM.out.types.keep λ_ _ _=>TypeAt.keep (zA hb.out)).row ht;cases e;have hn:=zh (jB ht ha.out);have hal:=λo=>(Below.refl wr.heap.size wr).alloc (Nat.le_refl _) o;clear ht ha;obtain⟨ps,rs⟩:=t;obtain⟨⟨q0,r0,c0,i0⟩,⟨q1,r1,c1,i1⟩⟩:=hrow;simp only at c0 c1 i0 i1;have n0':=i0.1;have n1':=i1.1;have hb2:∀o,Below w0.heap.size w0 (wr.alloc o):=λo=>hb.out.trans ((hal o).mono hb.out.size);have hz:Hid (vP (ps,rs)=(decide ((ps.length:Int)<=4096)&&decide ((rs.length:Int)<=4096))):=zh rfl
         by_cases h1:(ps.length:Int)<=4096
         . have d1:decide ((ps.length:Int)<=4096)=true:=decide_eq_true h1
           by_cases h2:(rs.length:Int)<=4096
           . have d2:decide ((rs.length:Int)<=4096)=true:=decide_eq_true h2;have hn2:=zh (hn.out.1 (by rw[hz.out,d1,d2];rfl));go_wp2_with fail;refine(cnt1_yes _ _ h1).mono ?_;rintro e w' ⟨rfl,rfl⟩;go_wp2_with fail;refine(cnt1_yes _ _ h2).mono ?_;rintro e w' ⟨rfl,rfl⟩;go_wp2
             go_roundw
             case rel=>exact⟨i+1,by omega,by simp,hn2,zh (hb2 _)⟩
             case measure=>simp[intOf];omega
           . have d2:decide ((rs.length:Int)<=4096)=false:=decide_eq_false h2;have hn2:=zh (hn.out.2 (by rw[hz.out,d1,d2];rfl));go_wp2_with fail;refine(cnt1_yes _ _ h1).mono ?_;rintro e w' ⟨rfl,rfl⟩;go_wp2_with fail;refine(cnt1_no (rs.length:Int) _ (by omega)).mono ?_;rintro e w' ⟨rfl,rfl⟩;go_wp2;exact⟨rfl,by rw[S1.out,hn2.out];rfl,hB0.out.trans ((hb2 _).mono hs0)⟩
         . have d1:decide ((ps.length:Int)<=4096)=false:=decide_eq_false h1;have hn2:=zh (hn.out.2 (by rw[hz.out,d1];rfl));go_wp2_with fail;refine(cnt1_no (ps.length:Int) _ (by omega)).mono ?_;rintro e w' ⟨rfl,rfl⟩;go_wp2;exact⟨rfl,by rw[S1.out,hn2.out];rfl,hB0.out.trans ((hb2 _).mono hs0)⟩
       . have hiN:i=m.types.length:=(by omega)
         subst hiN;have ha2:m.types.all vP=true:=(by have:=ha.out;rwa [List.take_length]at this)
         have S2:Hid (fewB m=(m.elems.all yK&&few3 m)):=zh (by rw[S1.out,ha2];rfl);clear ha ha2 hi hlt;have x8:wr.cell? ⟨w.heap.size,8,none⟩=some (.slice a8 m.elems.length k8):=zA hb.out _ _ y8.out;go_wp2_with fail;go_loopw [77] (λvi wr=>∃i:Nat,i<=m.elems.length/\vi=.int .i64 i/\Hid ((m.elems.take i).all yK=true)/\Hid (Below w0.heap.size w0 wr)) (λvi _=>m.elems.length-(intOf vi).toNat)
         case atStart=>exact⟨0,Nat.zero_le _,rfl,zh rfl,hb⟩
         case round=>
          obtain⟨i,hi,rfl,ha,hb⟩:=hrel
          by_cases hlt:i<m.elems.length
          . obtain⟨t,ht⟩:∃t,m.elems[i]? =some t:=⟨_,List.getElem?_eq_getElem hlt⟩
            obtain⟨b,o,e,hrow⟩:=(HM.out.elems.keep λ_ _ _=>ElemAt.keep (zA hb.out)).row ht;cases e;have hn:=zh (jB ht ha.out);have hal:=λo=>(Below.refl wr.heap.size wr).alloc (Nat.le_refl _) o;clear ht ha;obtain⟨⟨op,ix,iy,iz,ls,body,els⟩,fl⟩:=t;obtain⟨⟨⟨c0,c1,c2,c3⟩,⟨q4,r4,c4,_⟩,⟨q5,r5,c5,_,_⟩,⟨q6,r6,c6,_,_⟩,_⟩,⟨q7,r7,c7,i7⟩⟩:=hrow;simp only at c7 i7;have n7':=i7.1;have hb2:∀o,Below w0.heap.size w0 (wr.alloc o):=λo=>hb.out.trans ((hal o).mono hb.out.size)
            by_cases h1:(fl.length:Int)<=4096
            . have hn2:=zh (hn.out.1 (decide_eq_true h1));go_wp2_with fail;refine(cnt1_yes _ _ h1).mono ?_;rintro e w' ⟨rfl,rfl⟩;go_wp2
              go_roundw
              case rel=>exact⟨i+1,by omega,by simp,hn2,zh (hb2 _)⟩
              case measure=>simp[intOf];omega
            . have hn2:=zh (hn.out.2 (decide_eq_false h1));go_wp2_with fail;refine(cnt1_no (fl.length:Int) _ (by omega)).mono ?_;rintro e w' ⟨rfl,rfl⟩;go_wp2;exact⟨rfl,by rw[S2.out,hn2.out];rfl,hB0.out.trans ((hb2 _).mono hs0)⟩
          . have hiN:i=m.elems.length:=(by omega)
            subst hiN;have ha2:m.elems.all yK=true:=(by have:=ha.out;rwa [List.take_length]at this)
            have S3:Hid (fewB m=(j7 m.datas 262144&&few4 m)):=zh (by rw[S2.out,ha2];rfl);clear ha ha2 hi hlt;have x9:wr.cell? ⟨w.heap.size,9,none⟩=some (.slice a9 m.datas.length k9):=zA hb.out _ _ y9.out;go_wp2_with fail;go_loopw [9,90] (λvl vi wr=>∃(i:Nat) (Q:Int),i<=m.datas.length/\vi=.int .i64 i/\vl=.int .i64 Q/\0<=Q/\Q<=262144/\Hid (j7 m.datas 262144=j7 (m.datas.drop i) Q)/\Hid (Below w0.heap.size w0 wr)) (λ_ vi _=>m.datas.length-(intOf vi).toNat)
            case atStart=>exact⟨0,262144,Nat.zero_le _,rfl,rfl,by omega,by omega,zh rfl,hb⟩
            case round=>
             clear hb;obtain⟨i,Q,hi,rfl,rfl,hQ0,hQ1,ha,hb⟩:=hrel
             by_cases hlt:i<m.datas.length
             . obtain⟨t,ht⟩:∃t,m.datas[i]? =some t:=⟨_,List.getElem?_eq_getElem hlt⟩
               obtain⟨b,o,e,hrow⟩:=(HM.out.datas.keep λ_ _ _=>DataAt.keep (zA hb.out)).row ht;cases e;have hd:=drop_at ht;have hal:=λo=>(Below.refl wr.heap.size wr).alloc (Nat.le_refl _) o;obtain⟨⟨op,ix,iy,iz,ls,body,els⟩,sb⟩:=t;have ha2:Hid (j7 m.datas 262144=(decide ((sb.size:Int)<=Q)&&j7 (m.datas.drop (i+1)) (Q-sb.size))):=zh (by rw[ha.out,hd];rfl);clear hd ha ht;obtain⟨⟨⟨c0,c1,c2,c3⟩,⟨q4,r4,c4,_⟩,⟨q5,r5,c5,_,_⟩,⟨q6,r6,c6,_,_⟩,_⟩,c7,hsz⟩:=hrow;simp only at c7 hsz;have hb2:∀o,Below w0.heap.size w0 (wr.alloc o):=λo=>hb.out.trans ((hal o).mono hb.out.size)
               by_cases h1:(sb.size:Int)<=Q
               . have d1:decide ((sb.size:Int)<=Q)=true:=decide_eq_true h1;rw[d1,Bool.true_and]at ha2;go_wp2_with fail;refine(qF 3 _).mono ?_;rintro e w' ⟨rfl,rfl⟩;go_wp2
                 go_roundw
                 case rel=>exact⟨i+1,Q-sb.size,by omega,by simp,by simp,by omega,by omega,ha2,zh (hb2 _)⟩
                 case measure=>simp[intOf];omega
               . have d1:decide ((sb.size:Int)<=Q)=false:=decide_eq_false h1;rw[d1,Bool.false_and]at ha2;go_wp2_with fail;refine(jV 3 _).mono ?_;rintro e w' ⟨rfl,rfl⟩;go_wp2;exact⟨rfl,by rw[S3.out,ha2.out];rfl,hB0.out.trans ((hb2 _).mono hs0)⟩
             . have hiN:i=m.datas.length:=(by omega)
               subst hiN;have ha2:j7 m.datas 262144=true:=(by have:=ha.out;rw[List.drop_length]at this;exact this)
               have S4:Hid (fewB m=few4 m):=zh (by rw[S3.out,ha2];rfl);clear ha ha2 hi hlt;have x0:wr.cell? ⟨w.heap.size,0,none⟩=some (.slice a0 m.types.length k0):=zA hb.out _ _ y0.out;have x1:wr.cell? ⟨w.heap.size,1,none⟩=some (.slice a1 m.imports.length k1):=zA hb.out _ _ y1.out;have x2:wr.cell? ⟨w.heap.size,2,none⟩=some (.slice a2 m.funcs.length k2):=zA hb.out _ _ y2.out;have x3:wr.cell? ⟨w.heap.size,3,none⟩=some (.slice a3 m.tables.length k3):=zA hb.out _ _ y3.out;have x4:wr.cell? ⟨w.heap.size,4,none⟩=some (.slice a4 m.mems.length k4):=zA hb.out _ _ y4.out;have x5:wr.cell? ⟨w.heap.size,5,none⟩=some (.slice a5 m.globals.length k5):=zA hb.out _ _ y5.out;have x6:wr.cell? ⟨w.heap.size,6,none⟩=some (.slice a6 m.exports.length k6):=zA hb.out _ _ y6.out;have x7:wr.cell? ⟨w.heap.size,7,none⟩=some (.slice a7 m.start.length k7):=zA hb.out _ _ y7.out;have x8:wr.cell? ⟨w.heap.size,8,none⟩=some (.slice a8 m.elems.length k8):=zA hb.out _ _ y8.out;have x9:wr.cell? ⟨w.heap.size,9,none⟩=some (.slice a9 m.datas.length k9):=zA hb.out _ _ y9.out;have hC:=λ(wq:World) h=>zh (count_core m (.slice a0 m.types.length k0) (.slice a1 m.imports.length k1) (.slice a3 m.tables.length k3) (.slice a4 m.mems.length k4) (.slice a5 m.globals.length k5) (.slice a6 m.exports.length k6) (.slice a7 m.start.length k7) (.slice a8 m.elems.length k8) (.slice a9 m.datas.length k9) a2 k2 wq h)
               go_wp2_with fail;refine(hC _ (HM.out.funcs.keep λ_ _ _=>FuncAt.keep (zA hb.out))).out.mono ?_;rintro e w3 ⟨rfl,b3⟩;have hb3:=zh (hb.out.trans (b3.mono hb.out.size));clear b3 hC hb x0 x1 x2 x3 x4 x5 x6 x7 x8 x9;have hb:=hb3;have x2:w3.cell? ⟨w.heap.size,2,none⟩=some (.slice a2 m.funcs.length k2):=zA hb.out _ _ y2.out
               by_cases hc:65536-vB m.funcs 65536<=65536
               . have d1:decide (65536-vB m.funcs 65536<=65536)=true:=decide_eq_true hc;have S5:Hid (fewB m=m.funcs.all funFew):=zh (by rw[S4.out];unfold few4 few5;rw[d1];rfl)
                 generalize 65536-vB m.funcs 65536=cc at*
                 go_wp2_with fail;refine(qF 3 _).mono ?_;rintro e w' ⟨rfl,rfl⟩;go_wp2_with fail;go_loopw [113] (λvi wr=>∃i:Nat,i<=m.funcs.length/\vi=.int .i64 i/\Hid ((m.funcs.take i).all funFew=true)/\Hid (Below w0.heap.size w0 wr)) (λvi _=>m.funcs.length-(intOf vi).toNat)
                 case atStart=>exact⟨0,Nat.zero_le _,rfl,zh rfl,hb⟩
                 case round=>
                  obtain⟨i,hi,rfl,ha,hb⟩:=hrel
                  by_cases hlt:i<m.funcs.length
                  . obtain⟨t,ht⟩:∃t,m.funcs[i]? =some t:=⟨_,List.getElem?_eq_getElem hlt⟩
                    obtain⟨b,o,e,hrow⟩:=(HM.out.funcs.keep λ_ _ _=>FuncAt.keep (zA hb.out)).row ht;cases e;have hn:=zh (jB ht ha.out);have hal:=λo=>(Below.refl wr.heap.size wr).alloc (Nat.le_refl _) o;clear ht ha;obtain⟨ty,lo,bo⟩:=t;obtain⟨c0,⟨q1,r1,c1,i1⟩,⟨q2,r2,c2,l2,i2⟩⟩:=hrow;unfold j9 at c0;have n1':=i1.1;have hi2:=zh i2;clear i1 i2;have hb2:∀o,Below w0.heap.size w0 (wr.alloc o):=λo=>hb.out.trans ((hal o).mono hb.out.size);have hcb:=λw h0=>zh (labelled_any bo q2 r2 w l2 h0);have hz:Hid (funFew (ty,lo,bo)=(decide ((lo.length:Int)<=256)&&lab bo)):=zh rfl;simp only at c1 c2
                    by_cases h1:(lo.length:Int)<=256
                    . have d1:decide ((lo.length:Int)<=256)=true:=decide_eq_true h1;rw[d1,Bool.true_and]at hz;go_wp2_with fail;refine(qF 3 _).mono ?_;rintro e w' ⟨rfl,rfl⟩;go_wp2_with fail;refine(hcb _ (hi2.out.below (hal _))).out.mono ?_;rintro e w3 ⟨rfl,b3⟩;have hb3:=zh ((hb2 _).trans (b3.mono (hb2 _).size));clear b3 hcb;cases hX:lab bo
                      . have hn2:=zh (hn.out.2 (by rw[hz.out,hX]));rw[qC];clear hX;go_wp2;exact⟨rfl,by rw[S5.out,hn2.out];rfl,hB0.out.trans (hb3.out.mono hs0)⟩
                      . have hn2:=zh (hn.out.1 (by rw[hz.out,hX]));rw[zV];clear hX;go_wp2
                        go_roundw
                        case rel=>exact⟨i+1,by omega,by simp,hn2,zh hb3.out⟩
                        case measure=>simp[intOf];omega
                    . have d1:decide ((lo.length:Int)<=256)=false:=decide_eq_false h1;have hn2:=zh (hn.out.2 (by rw[hz.out,d1];rfl));go_wp2_with fail;refine(jV 3 _).mono ?_;rintro e w' ⟨rfl,rfl⟩;go_wp2;exact⟨rfl,by rw[S5.out,hn2.out];rfl,hB0.out.trans ((hb2 _).mono hs0)⟩
                  . have hiN:i=m.funcs.length:=(by omega)
                    subst hiN;have ha2:m.funcs.all funFew=true:=(by have:=ha.out;rwa [List.take_length]at this)
                    have S6:Hid (fewB m=true):=zh (by rw[S5.out];exact ha2);clear ha ha2 hi hlt;go_wp2;go_end0;exact⟨by rw[S6.out];rfl,hB0.out.trans (hb.out.mono hs0)⟩
               . have d1:decide (65536-vB m.funcs 65536<=65536)=false:=decide_eq_false hc;have S5:Hid (fewB m=false):=zh (by rw[S4.out];unfold few4;rw[d1];rfl)
                 generalize 65536-vB m.funcs 65536=cc at*
                 go_wp2_with fail;refine(jV 3 _).mono ?_;rintro e w' ⟨rfl,rfl⟩;go_wp2;exact⟨rfl,by rw[S5.out];rfl,hB0.out.trans (hb.out.mono hs0)⟩
    . have d1:decide ((m.start.length:Int)<=1)=false:=decide_eq_false h1;have S1:Hid (fewB m=false):=zh (by rw[hS1.out,d1];rfl);clear hS1;go_wp2_with fail;refine(jV 3 _).mono ?_;rintro e w' ⟨rfl,rfl⟩;go_wp2;exact⟨rfl,by rw[S1.out];rfl,hB0.out.trans (hbq.out.mono hs0)⟩
end Go.Proofs.YtacohbllbjgdgaaGreatDoor
