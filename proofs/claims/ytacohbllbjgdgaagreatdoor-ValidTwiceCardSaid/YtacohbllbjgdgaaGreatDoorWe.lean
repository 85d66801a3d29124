/- Where the reference finds a module wrong is where the program does. -/
import Derived.Test.YtacohbllbjgdgaaGreatDoorWd
import Derived.Test.YtacohbllbjgdgaaGreatDoorRd
import Derived.Test.YtacohbllbjgdgaaGreatDoorMk
import Derived.Test.YtacohbllbjgdgaaGreatDoorMf
import Derived.Test.YtacohbllbjgdgaaGreatDoorWa
set_option linter.all false
set_option maxRecDepth 100000
set_option maxHeartbeats 2000000
namespace Go.Proofs.YtacohbllbjgdgaaGreatDoor
open Go.RowKit
def headR (m:Md):Int:=zX (qI m) (zX (headsR m) (zX (exportsR m) (vH m (m.imports.length+m.funcs.length))))
def vE (m:Md):Int×Int:=if headR m=0 then bodiesR m m.funcs m.imports.length else(-1,headR m)
theorem eStR_eq{m:Md}(c:Cm m)(h:idxV m=0){n:Int}(hn:n∈m.start):eStR m n=eStart m n:=by
 have h0:0<=n:=(by have:=c.start n hn;unfold zM at this;simp at this;exact this.1)
 obtain⟨k,rfl⟩:∃k:Nat,n=k:=⟨n.toNat,by omega⟩
 unfold eStR eStart;rw[typ_func c h k];cases hk:(zY m)[k]? with
 |none=>have:=List.getElem?_eq_none_iff.1 hk;rw[if_neg (by omega)]
 |some t=>
   have:=(List.getElem?_eq_some_iff.1 hk).1;rw[if_pos (by omega)]
   have e:(zY m).getD ((k:Int).toNat) ([],[])=t:=by rw[List.getD_eq_getElem?_getD,Int.toNat_natCast,hk];rfl
   rw[e]
theorem exportsR_eq{m:Md}(c:Cm m)(h:idxV m=0):exportsR m=jQ m:=by unfold exportsR jQ;rw[firstL_congr (λn hn=>eStR_eq c h hn)]
theorem headR_eq(m:Md):headR m=headV m:=by
 unfold headR headV
 by_cases hc:qI m=0
 . have c:=cm_of hc;rw[hc,headsR_eq c,yT,yT,funcT_length];unfold zX
   by_cases h1:xQ m=0
   . by_cases h2:idxV m=0
     . rw[exportsR_eq c h2]
     . simp[h1,h2]
   . simp[h1]
 . unfold zX;rw[if_neg hc,if_neg hc]
theorem whereR_eq(m:Md):vE m=qM m:=by
 unfold vE qM;rw[headR_eq]
 by_cases h:headV m=0
 . rw[if_pos h,if_pos h]
   have hc:qI m=0:=by unfold headV at h;exact(xD h).1
   have:=bodies_eq (cm_of hc) m.funcs.length 0 (by omega);simpa using this
 . rw[if_neg h,if_neg h]
def AllC (l:Il):Prop:=∀(ao:Option Addr) (c:Nat) (w:World),l.len<=9223372036854775807->IlIn w ao 0 l->
 Calls Tryz.prog 63 #[.slice ao l.len c] w λe w'=>e=.returned (.bool (zZ l))/\Below w.heap.size w w'
theorem all_step(l:Il)(hs:Sub AllC l):AllC l:=by
 intro ao c w hl hw;obtain⟨N,hN⟩:∃N,l.len=N:=⟨_,rfl⟩
 rw[hN]at hl ⊢;go_enter Tryz.func63,Tryz.ntmps63;go_wp2_with fail;go_loopw [3] (λvi wr=>∃(i:Nat) (r:Il),vi=.int .i64 i/\i+r.len=N/\Hid (Below w.heap.size w wr)/\Hid (IlIn wr ao i r)/\Hid (Sub AllC r)/\Hid (zZ l=zZ r)) (λvi _=>N-(intOf vi).toNat)
 case atStart=>exact⟨0,l,rfl,by omega,zh (Below.refl _ _),zh hw,zh hs,zh rfl⟩
 case round=>
  obtain⟨i,r,rfl,hi,hb,hr,hsub,hc⟩:=hrel;cases r with
  |nil=>
    have hiN:i=N:=(by simpa[Il.len]using hi)
    subst hiN;go_wp2;go_ret;exact⟨by rw[hc.out];rfl,hb.out⟩
  |cons op x y n ls body els rest=>
    have hlen:i+(rest.len+1)=N:=hi;have hlt:i<N:=(by omega)
    obtain⟨b,o,a4,k4,a5,k5,a6,k6,rfl,hh,hrest⟩:=hr.out.head;obtain⟨c0,c1,c2,c3,c4,c5,c6,i4,l5,i5,l6,i6⟩:=hh;have hr2:=zh hrest;have hi4:=zh i4;have hi5:=zh i5;have hi6:=zh i6;have hcb:=λw h=>zh (hsub.out.1 a5 k5 w l5 h);have hce:=λw h=>zh (hsub.out.2.1 a6 k6 w l6 h);have hsr:=zh hsub.out.2.2;have hc2:Hid (zZ l=(zC op x y n ls body.len els.len&&(zZ body&&(zZ els&&zZ rest)))):=zh (by rw[hc.out];rfl);clear hr hrest i4 i5 i6 hi hsub hc;go_wp2_with fail;refine(one_any op x y n ls body.len els.len a4 k4 a5 k5 a6 k6 _ hi4.out l5 l6).mono ?_;rintro e w2 ⟨rfl,b2⟩;have d5:=zA b2 _ _ c5;have d6:=zA b2 _ _ c6;have B2:=zh b2;clear b2 c0 c1 c2 c3 c4 c5 c6;cases hW:zC op x y n ls body.len els.len
    . rw[hW,Bool.false_and]at hc2;have hfin:=hb.out.trans (B2.out.mono hb.out.size);go_wp2;go_ret;exact⟨by rw[hc2.out];rfl,hfin⟩
    rw[hW,Bool.true_and]at hc2;go_wp2_with fail;refine(hcb _ (hi5.out.below B2.out)).out.mono ?_;rintro e w3 ⟨rfl,b3⟩;have e6:=zA b3 _ _ d6;have B3:=zh (B2.out.trans (b3.mono B2.out.size));clear b3 d5 d6 B2;cases hX:zZ body
    . rw[hX,Bool.false_and]at hc2;have hfin:=hb.out.trans (B3.out.mono hb.out.size);go_wp2;go_ret;exact⟨by rw[hc2.out];rfl,hfin⟩
    rw[hX,Bool.true_and]at hc2;go_wp2_with fail;refine(hce _ (hi6.out.below B3.out)).out.mono ?_;rintro e w4 ⟨rfl,b4⟩;have B4:=zh (B3.out.trans (b4.mono B3.out.size));clear b4 e6 B3;have hfin:=zh (hb.out.trans (B4.out.mono hb.out.size));cases hY:zZ els
    . rw[hY,Bool.false_and]at hc2;go_wp2;go_ret;exact⟨by rw[hc2.out];rfl,hfin.out⟩
    rw[hY,Bool.true_and]at hc2;go_wp2
    go_roundw
    case rel=>exact⟨i+1,rest,by simp,by omega,hfin,zh (hr2.out.below B4.out),hsr,hc2⟩
    case measure=>simp[intOf];omega
theorem all_any(l:Il):AllC l:=Il.each all_step l
theorem len_nil{l:Il}(h:l.len=0):l=.nil:=by
 cases l with
 |nil=>rfl
 |cons=>simp[Il.len]at h
theorem beg1_eq(op x y n:Int)(ls:List Int)(body els:Il)(hop:op=65\/op=66\/op=35):yM ⟨op,x,y,n,ls,body,els⟩=zC op x y n ls body.len els.len:=by
 have ho:(op==65||(op==66||op==35))=true:=by rcases hop with rfl |rfl |rfl<;>rfl
 show((op==65||(op==66||op==35))&&(zC op x y n ls body.len els.len&&(zZ body&&(zZ els&&true))))=_
 rw[ho,Bool.true_and];cases hW:zC op x y n ls body.len els.len
 . rfl
 have hz:body.len=0/\els.len=0:=by
  rcases hop with rfl |rfl |rfl
  . have e:zG 65=9:=(by decide)
    simp[zC,e]at hW;omega
  . have e:zG 66=9:=(by decide)
    simp[zC,e]at hW;omega
  . have e:zG 35=6:=(by decide)
    simp[zC,e]at hW;omega
 rw[len_nil hz.1,len_nil hz.2];rfl
theorem constant_any(op x y n:Int)(ls:List Int)(body els:Il)(a4:Option Addr)(k4:Nat)(a5:Option Addr)(k5:Nat)(a6:Option Addr)(k6:Nat)(w:World)(HI0:IntsIn w a4 ls)(l5:body.len<=9223372036854775807)(l6:els.len<=9223372036854775807):Calls Tryz.prog 64 #[.agg #[.int .i64 op,.int .i64 x,.int .i64 y,.int .i64 n,.slice a4 ls.length k4,.slice a5 body.len k5,.slice a6 els.len k6]] w λe w'=>e=.returned (.bool (yM ⟨op,x,y,n,ls,body,els⟩))/\Below w.heap.size w w':=by
 have hB:Below w.heap.size w (w.alloc (.cells #[.int .i64 op,.int .i64 x,.int .i64 y,.int .i64 n,.slice a4 ls.length k4,.slice a5 body.len k5,.slice a6 els.len k6] 49)):=(Below.refl _ _).alloc (Nat.le_refl _) _;have HI:=HI0.below hB;have l4:=HI0.1;clear HI0
 by_cases hop:op=65\/op=66\/op=35
 . have hv:=beg1_eq op x y n ls body els hop;rw[hv];clear hv;have HB:=zh hB;clear hB;go_enter Tryz.func64,Tryz.ntmps64
   rcases hop with rfl |rfl |rfl
   all_goals(
    go_wp2_with fail;refine(one_any _ x y n ls body.len els.len a4 k4 a5 k5 a6 k6 _ HI l5 l6).mono ?_;rintro e w2 ⟨rfl,b2⟩;have hfin:=HB.out.trans (b2.mono HB.out.size);clear b2;go_wp2;go_ret;exact⟨rfl,hfin⟩)
 . have q1:(op==65)=false:=(by simp;omega)
   have q2:(op==66)=false:=(by simp;omega)
   have q3:(op==35)=false:=(by simp;omega)
   have hv:yM ⟨op,x,y,n,ls,body,els⟩=false:=by
    show((op==65||(op==66||op==35))&&_)=false
    rw[q1,q2,q3];rfl
   go_enter Tryz.func64,Tryz.ntmps64;go_wp2;go_ret;exact⟨by rw[hv];rfl,hB⟩
def locFew (t:Int×List Int×Il):Bool:=decide ((t.2.1.length:Int)<=256)
def mo4 (m:Md):Bool:=m.funcs.all locFew
def mo3 (m:Md):Bool:=j7 m.datas 262144&&mo4 m
def mo2 (m:Md):Bool:=m.elems.all yK&&mo3 m
def mo1 (m:Md):Bool:=m.types.all vP&&mo2 m
def mo0 (m:Md):Bool:=decide ((m.start.length:Int)<=1)&&mo1 m
def manyOk (m:Md):Bool:=(vY m).all le4&&mo0 m
theorem mo_len{m:Md}{n:Int}(hm:n∈vY m)(h:¬n<=4096):manyOk m=false:=by
 have:(vY m).all le4=false:=by rw[List.all_eq_false];exact⟨n,hm,by simp[le4];omega⟩
 unfold manyOk;rw[this];rfl
theorem mo_start{m:Md}(hl:(vY m).all le4=true)(h:¬(m.start.length:Int)<=1):manyOk m=false:=by unfold manyOk mo0;rw[hl,decide_eq_false h];rfl
theorem mo_start'{m:Md}(hl:(vY m).all le4=true)(h:(m.start.length:Int)<=1):manyOk m=mo1 m:=by unfold manyOk mo0;rw[hl,decide_eq_true h];rfl
theorem many_any(m:Md)(a0:Option Addr)(k0:Nat)(a1:Option Addr)(k1:Nat)(a2:Option Addr)(k2:Nat)(a3:Option Addr)(k3:Nat)(a4:Option Addr)(k4:Nat)(a5:Option Addr)(k5:Nat)(a6:Option Addr)(k6:Nat)(a7:Option Addr)(k7:Nat)(a8:Option Addr)(k8:Nat)(a9:Option Addr)(k9:Nat)(w:World)(h:MdAt w m a0 k0 a1 k1 a2 k2 a3 k3 a4 k4 a5 k5 a6 k6 a7 k7 a8 k8 a9 k9)(hds:∀t∈m.datas,t.2.size<=300000):Calls Tryz.prog 40 #[mdV m a0 k0 a1 k1 a2 k2 a3 k3 a4 k4 a5 k5 a6 k6 a7 k7 a8 k8 a9 k9] w λe w'=>e=.returned (.bool (!manyOk m))/\Below w.heap.size w w':=by
 have HM:=zh (h.keep (zA ((Below.refl w.heap.size w).alloc (Nat.le_refl _) (.cells #[.slice a0 m.types.length k0,.slice a1 m.imports.length k1,.slice a2 m.funcs.length k2,.slice a3 m.tables.length k3,.slice a4 m.mems.length k4,.slice a5 m.globals.length k5,.slice a6 m.exports.length k6,.slice a7 m.start.length k7,.slice a8 m.elems.length k8,.slice a9 m.datas.length k9] 32))));have n0:=h.types.1;have n1:=h.imports.1;have n2:=h.funcs.1;have n3:=h.tables.1;have n4:=h.mems.1;have n5:=h.globals.1;have n6:=h.exports.1;have n7:=h.start.1;have n8:=h.elems.1;have n9:=h.datas.1;have hB0:Hid (Below w.heap.size w (w.alloc (.cells #[.slice a0 m.types.length k0,.slice a1 m.imports.length k1,.slice a2 m.funcs.length k2,.slice a3 m.tables.length k3,.slice a4 m.mems.length k4,.slice a5 m.globals.length k5,.slice a6 m.exports.length k6,.slice a7 m.start.length k7,.slice a8 m.elems.length k8,.slice a9 m.datas.length k9] 32))):=zh ((Below.refl _ _).alloc (Nat.le_refl _) _);clear h;unfold mdV;go_enter Tryz.func40,Tryz.ntmps40
 go_upto_region 1 with fail
 obtain⟨w0,hw0⟩:∃w0,w0=(w.alloc (.cells #[.slice a0 m.types.length k0,.slice a1 m.imports.length k1,.slice a2 m.funcs.length k2,.slice a3 m.tables.length k3,.slice a4 m.mems.length k4,.slice a5 m.globals.length k5,.slice a6 m.exports.length k6,.slice a7 m.start.length k7,.slice a8 m.elems.length k8,.slice a9 m.datas.length k9] 32)):=⟨_,rfl⟩
 rw[<-hw0];rw[<-hw0]at HM hB0;have hs0:w.heap.size<=w0.heap.size:=hB0.out.size;have y0:Hid (w0.cell? ⟨w.heap.size,0,none⟩=some (.slice a0 m.types.length k0)):=zh (by rw[hw0];exact World.cell?_alloc_at _ _ _ _ rfl);have y1:Hid (w0.cell? ⟨w.heap.size,1,none⟩=some (.slice a1 m.imports.length k1)):=zh (by rw[hw0];exact World.cell?_alloc_at _ _ _ _ rfl);have y2:Hid (w0.cell? ⟨w.heap.size,2,none⟩=some (.slice a2 m.funcs.length k2)):=zh (by rw[hw0];exact World.cell?_alloc_at _ _ _ _ rfl);have y3:Hid (w0.cell? ⟨w.heap.size,3,none⟩=some (.slice a3 m.tables.length k3)):=zh (by rw[hw0];exact World.cell?_alloc_at _ _ _ _ rfl);have y4:Hid (w0.cell? ⟨w.heap.size,4,none⟩=some (.slice a4 m.mems.length k4)):=zh (by rw[hw0];exact World.cell?_alloc_at _ _ _ _ rfl);have y5:Hid (w0.cell? ⟨w.heap.size,5,none⟩=some (.slice a5 m.globals.length k5)):=zh (by rw[hw0];exact World.cell?_alloc_at _ _ _ _ rfl);have y6:Hid (w0.cell? ⟨w.heap.size,6,none⟩=some (.slice a6 m.exports.length k6)):=zh (by rw[hw0];exact World.cell?_alloc_at _ _ _ _ rfl);have y7:Hid (w0.cell? ⟨w.heap.size,7,none⟩=some (.slice a7 m.start.length k7)):=zh (by rw[hw0];exact World.cell?_alloc_at _ _ _ _ rfl);have y8:Hid (w0.cell? ⟨w.heap.size,8,none⟩=some (.slice a8 m.elems.length k8)):=zh (by rw[hw0];exact World.cell?_alloc_at _ _ _ _ rfl);have y9:Hid (w0.cell? ⟨w.heap.size,9,none⟩=some (.slice a9 m.datas.length k9)):=zh (by rw[hw0];exact World.cell?_alloc_at _ _ _ _ rfl)
 have hb:Hid (Below w0.heap.size w0 w0):=zh (Below.refl _ _);clear hw0;have x0:w0.cell? ⟨w.heap.size,0,none⟩=some (.slice a0 m.types.length k0):=zA hb.out _ _ y0.out;have x1:w0.cell? ⟨w.heap.size,1,none⟩=some (.slice a1 m.imports.length k1):=zA hb.out _ _ y1.out;have x2:w0.cell? ⟨w.heap.size,2,none⟩=some (.slice a2 m.funcs.length k2):=zA hb.out _ _ y2.out;have x3:w0.cell? ⟨w.heap.size,3,none⟩=some (.slice a3 m.tables.length k3):=zA hb.out _ _ y3.out;have x4:w0.cell? ⟨w.heap.size,4,none⟩=some (.slice a4 m.mems.length k4):=zA hb.out _ _ y4.out;have x5:w0.cell? ⟨w.heap.size,5,none⟩=some (.slice a5 m.globals.length k5):=zA hb.out _ _ y5.out;have x6:w0.cell? ⟨w.heap.size,6,none⟩=some (.slice a6 m.exports.length k6):=zA hb.out _ _ y6.out;have x7:w0.cell? ⟨w.heap.size,7,none⟩=some (.slice a7 m.start.length k7):=zA hb.out _ _ y7.out;have x8:w0.cell? ⟨w.heap.size,8,none⟩=some (.slice a8 m.elems.length k8):=zA hb.out _ _ y8.out;have x9:w0.cell? ⟨w.heap.size,9,none⟩=some (.slice a9 m.datas.length k9):=zA hb.out _ _ y9.out
 by_cases g0:(m.types.length:Int)<=4096
 . have d0:decide ((4096:Int)<(m.types.length:Int))=false:=decide_eq_false (by omega)
   by_cases g1:(m.imports.length:Int)<=4096
   . have d1:decide ((4096:Int)<(m.imports.length:Int))=false:=decide_eq_false (by omega)
     by_cases g2:(m.funcs.length:Int)<=4096
     . have d2:decide ((4096:Int)<(m.funcs.length:Int))=false:=decide_eq_false (by omega)
       by_cases g3:(m.tables.length:Int)<=4096
       . have d3:decide ((4096:Int)<(m.tables.length:Int))=false:=decide_eq_false (by omega)
         by_cases g4:(m.mems.length:Int)<=4096
         . have d4:decide ((4096:Int)<(m.mems.length:Int))=false:=decide_eq_false (by omega)
           by_cases g5:(m.globals.length:Int)<=4096
           . have d5:decide ((4096:Int)<(m.globals.length:Int))=false:=decide_eq_false (by omega)
             by_cases g6:(m.exports.length:Int)<=4096
             . have d6:decide ((4096:Int)<(m.exports.length:Int))=false:=decide_eq_false (by omega)
               by_cases g8:(m.elems.length:Int)<=4096
               . have d8:decide ((4096:Int)<(m.elems.length:Int))=false:=decide_eq_false (by omega)
                 by_cases g9:(m.datas.length:Int)<=4096
                 . have d9:decide ((4096:Int)<(m.datas.length:Int))=false:=decide_eq_false (by omega)
                   have hl:(vY m).all le4=true:=by simp[vY,le4];omega
                   by_cases h7:(m.start.length:Int)<=1
                   . have S1:=zh (mo_start' hl h7);have d7:decide ((1:Int)<(m.start.length:Int))=false:=decide_eq_false (by omega);clear hl;go_wp2_with fail;clear d0 d1 d2 d3 d4 d5 d6 d7 d8 d9 x0 x1 x2 x3 x4 x5 x6 x7 x8 x9;go_loopw [3] (λvi wr=>∃i:Nat,i<=m.types.length/\vi=.int .i64 i/\Hid ((m.types.take i).all vP=true)/\Hid (Below w0.heap.size w0 wr)) (λvi _=>m.types.length-(intOf vi).toNat)
                     case atStart=>exact⟨0,Nat.zero_le _,rfl,zh rfl,hb⟩
                     case round=>
                      clear hb;obtain⟨i,hi,rfl,ha,hb⟩:=hrel
                      by_cases hlt:i<m.types.length
                      . obtain⟨t,ht⟩:∃t,m.types[i]? =some t:=⟨_,List.getElem?_eq_getElem hlt⟩
                        obtain⟨b,o,e,hrow⟩:=(HM.out.types.keep λ_ _ _=>TypeAt.keep (zA hb.out)).row ht;have x0:wr.cell? ⟨w.heap.size,0,none⟩=some (.slice a0 m.types.length k0):=zA hb.out _ _ y0.out;subst e;have hn:=zh (jB ht ha.out);have hk0:=zh (Below.refl wr.heap.size wr);clear ht ha;obtain⟨ps,rs⟩:=t;obtain⟨⟨q0,r0,c0,i0⟩,⟨q1,r1,c1,i1⟩⟩:=hrow;have l0:=i0.1;have l1:=i1.1;simp only at c0 c1 l0 l1;clear i0 i1;have hz:Hid (vP (ps,rs)=(decide ((ps.length:Int)<=4096)&&decide ((rs.length:Int)<=4096))):=zh rfl
                        by_cases hX:(ps.length:Int)<=4096
                        . have hz:=zh (hz.out.trans (show _=decide ((rs.length:Int)<=4096) from by rw[decide_eq_true hX];rfl))
                          by_cases hX:(rs.length:Int)<=4096
                          . have hz:=zh (hz.out.trans (show _=true from by rw[decide_eq_true hX]));have hfb:=zh hb.out;go_wp2
                            go_roundw
                            case rel=>exact⟨i+1,by omega,by simp,zh (hn.out.1 hz.out),hfb⟩
                            case measure=>simp[intOf];omega
                          . have hn2:=zh (hn.out.2 (by rw[hz.out,decide_eq_false hX]));have S':=zh ((λ(h:m.types.all vP=false)=>S1.out.trans (show mo1 m=false from by unfold mo1;rw[h];rfl)) hn2.out);go_wp2;go_ret;exact⟨by rw[S'.out];rfl,hB0.out.trans (hb.out.mono hs0)⟩
                        . have hn2:=zh (hn.out.2 (by rw[hz.out,decide_eq_false hX];rfl));have S':=zh ((λ(h:m.types.all vP=false)=>S1.out.trans (show mo1 m=false from by unfold mo1;rw[h];rfl)) hn2.out);go_wp2;go_ret;exact⟨by rw[S'.out];rfl,hB0.out.trans (hb.out.mono hs0)⟩
                      . have hiN:i=m.types.length:=(by omega)
                        subst hiN;have ha2:m.types.all vP=true:=(by have:=ha.out;rwa [List.take_length]at this)
                        have S2:=zh ((λ(h:m.types.all vP=true)=>S1.out.trans (show mo1 m=mo2 m from by unfold mo1;rw[h];rfl)) ha2);clear ha ha2 hi hlt;have x0:wr.cell? ⟨w.heap.size,0,none⟩=some (.slice a0 m.types.length k0):=zA hb.out _ _ y0.out;have x8:wr.cell? ⟨w.heap.size,8,none⟩=some (.slice a8 m.elems.length k8):=zA hb.out _ _ y8.out;go_wp2_with fail;go_loopw [4] (λvi wr=>∃i:Nat,i<=m.elems.length/\vi=.int .i64 i/\Hid ((m.elems.take i).all yK=true)/\Hid (Below w0.heap.size w0 wr)) (λvi _=>m.elems.length-(intOf vi).toNat)
                        case atStart=>exact⟨0,Nat.zero_le _,rfl,zh rfl,hb⟩
                        case round=>
                         clear hb;obtain⟨i,hi,rfl,ha,hb⟩:=hrel
                         by_cases hlt:i<m.elems.length
                         . obtain⟨t,ht⟩:∃t,m.elems[i]? =some t:=⟨_,List.getElem?_eq_getElem hlt⟩
                           obtain⟨b,o,e,hrow⟩:=(HM.out.elems.keep λ_ _ _=>ElemAt.keep (zA hb.out)).row ht;have x8:wr.cell? ⟨w.heap.size,8,none⟩=some (.slice a8 m.elems.length k8):=zA hb.out _ _ y8.out;subst e;have hn:=zh (jB ht ha.out);have hk0:=zh (Below.refl wr.heap.size wr);clear ht ha;obtain⟨q,fl⟩:=t;obtain⟨_,⟨q7,r7,c7,i7⟩⟩:=hrow;have l7:=i7.1;simp only at c7 l7;clear i7;have hz:Hid (yK (q,fl)=decide ((fl.length:Int)<=4096)):=zh rfl
                           by_cases hX:(fl.length:Int)<=4096
                           . have hz:=zh (hz.out.trans (show _=true from by rw[decide_eq_true hX]));have hfb:=zh hb.out;go_wp2
                             go_roundw
                             case rel=>exact⟨i+1,by omega,by simp,zh (hn.out.1 hz.out),hfb⟩
                             case measure=>simp[intOf];omega
                           . have hn2:=zh (hn.out.2 (by rw[hz.out,decide_eq_false hX]));have S':=zh ((λ(h:m.elems.all yK=false)=>S2.out.trans (show mo2 m=false from by unfold mo2;rw[h];rfl)) hn2.out);go_wp2;go_ret;exact⟨by rw[S'.out];rfl,hB0.out.trans (hb.out.mono hs0)⟩
                         . have hiN:i=m.elems.length:=(by omega)
                           subst hiN;have ha2:m.elems.all yK=true:=(by have:=ha.out;rwa [List.take_length]at this)
                           have S3:=zh ((λ(h:m.elems.all yK=true)=>S2.out.trans (show mo2 m=mo3 m from by unfold mo2;rw[h];rfl)) ha2);clear ha ha2 hi hlt;have x8:wr.cell? ⟨w.heap.size,8,none⟩=some (.slice a8 m.elems.length k8):=zA hb.out _ _ y8.out;have x9:wr.cell? ⟨w.heap.size,9,none⟩=some (.slice a9 m.datas.length k9):=zA hb.out _ _ y9.out;go_wp2_with fail;go_loopw [5,6] (λvn vi wr=>∃(i:Nat) (n:Int),i<=m.datas.length/\vi=.int .i64 i/\vn=.int .i64 n/\0<=n/\n<=262144/\Hid (j7 m.datas 262144=j7 (m.datas.drop i) (262144-n))/\Hid (Below w0.heap.size w0 wr)) (λ_ vi _=>m.datas.length-(intOf vi).toNat)
                           case atStart=>exact⟨0,0,Nat.zero_le _,rfl,rfl,by omega,by omega,zh rfl,hb⟩
                           case round=>
                            clear hb;obtain⟨i,n,hi,rfl,rfl,hn0,hn1,hd,hb⟩:=hrel;have x9:wr.cell? ⟨w.heap.size,9,none⟩=some (.slice a9 m.datas.length k9):=zA hb.out _ _ y9.out
                            by_cases hlt:i<m.datas.length
                            . obtain⟨t,ht⟩:∃t,m.datas[i]? =some t:=⟨_,List.getElem?_eq_getElem hlt⟩
                              obtain⟨b,o,e,hrow⟩:=(HM.out.datas.keep λ_ _ _=>DataAt.keep (zA hb.out)).row ht;subst e;have hdr:=drop_at ht;have hsz3:=hds _ (List.mem_of_getElem? ht);obtain⟨q,sb⟩:=t;obtain⟨_,c7,hsz⟩:=hrow;simp only at c7 hsz hsz3;have hd2:=zh (hd.out.trans (show _=(decide ((sb.size:Int)<=262144-n)&&j7 (m.datas.drop (i+1)) (262144-n-sb.size)) from by rw[hdr];rfl));clear hd hdr ht
                              by_cases hX:(sb.size:Int)<=262144-n
                              . have hd3:=zh (hd2.out.trans (show _=j7 (m.datas.drop (i+1)) (262144-(n+sb.size)) from by rw[decide_eq_true hX,show 262144-(n+(sb.size:Int))=262144-n-sb.size by omega];rfl));clear hd2;go_wp2;exact⟨⟨i+1,n+sb.size,by omega,by simp,by simp,by omega,by omega,hd3,hb⟩,by simp[intOf];omega⟩
                              . have S':=zh (S3.out.trans (show mo3 m=false from by unfold mo3;rw[hd2.out,decide_eq_false hX];rfl));clear hd2;go_wp2;go_ret;exact⟨by rw[S'.out];rfl,hB0.out.trans (hb.out.mono hs0)⟩
                            . have hiN:i=m.datas.length:=(by omega)
                              subst hiN;have S4:=zh (S3.out.trans (show mo3 m=mo4 m from by unfold mo3;rw[hd.out,List.drop_length];rfl));clear hd hi hlt;have x2:wr.cell? ⟨w.heap.size,2,none⟩=some (.slice a2 m.funcs.length k2):=zA hb.out _ _ y2.out;go_wp2_with fail;go_loopw [7] (λvi wr=>∃i:Nat,i<=m.funcs.length/\vi=.int .i64 i/\Hid ((m.funcs.take i).all locFew=true)/\Hid (Below w0.heap.size w0 wr)) (λvi _=>m.funcs.length-(intOf vi).toNat)
                              case atStart=>exact⟨0,Nat.zero_le _,rfl,zh rfl,hb⟩
                              case round=>
                               clear hb;obtain⟨i,hi,rfl,ha,hb⟩:=hrel
                               by_cases hlt:i<m.funcs.length
                               . obtain⟨t,ht⟩:∃t,m.funcs[i]? =some t:=⟨_,List.getElem?_eq_getElem hlt⟩
                                 obtain⟨b,o,e,hrow⟩:=(HM.out.funcs.keep λ_ _ _=>FuncAt.keep (zA hb.out)).row ht;have x2:wr.cell? ⟨w.heap.size,2,none⟩=some (.slice a2 m.funcs.length k2):=zA hb.out _ _ y2.out;subst e;have hn:=zh (jB ht ha.out);have hk0:=zh (Below.refl wr.heap.size wr);clear ht ha;obtain⟨ty,lo,bo⟩:=t;obtain⟨c0,⟨q1,r1,c1,i1⟩,⟨q2,r2,c2,l2,i2⟩⟩:=hrow;have l1:=i1.1;simp only at c1 l1;clear c0 c2 i1 i2;have hz:Hid (locFew (ty,lo,bo)=decide ((lo.length:Int)<=256)):=zh rfl
                                 by_cases hX:(lo.length:Int)<=256
                                 . have hz:=zh (hz.out.trans (show _=true from by rw[decide_eq_true hX]));have hfb:=zh hb.out;go_wp2
                                   go_roundw
                                   case rel=>exact⟨i+1,by omega,by simp,zh (hn.out.1 hz.out),hfb⟩
                                   case measure=>simp[intOf];omega
                                 . have hn2:=zh (hn.out.2 (by rw[hz.out,decide_eq_false hX]));have S':=zh ((λ(h:m.funcs.all locFew=false)=>S4.out.trans (show mo4 m=false from h)) hn2.out);go_wp2;go_ret;exact⟨by rw[S'.out];rfl,hB0.out.trans (hb.out.mono hs0)⟩
                               . have hiN:i=m.funcs.length:=(by omega)
                                 subst hiN;have ha2:m.funcs.all locFew=true:=(by have:=ha.out;rwa [List.take_length]at this)
                                 have S5:=zh ((λ(h:m.funcs.all locFew=true)=>S4.out.trans (show mo4 m=true from h)) ha2);clear ha ha2 hi hlt;have x2:wr.cell? ⟨w.heap.size,2,none⟩=some (.slice a2 m.funcs.length k2):=zA hb.out _ _ y2.out;go_wp2;go_ret;exact⟨by rw[S5.out];rfl,hB0.out.trans (hb.out.mono hs0)⟩
                   . have S':=zh (mo_start hl h7);have d7:decide ((1:Int)<(m.start.length:Int))=true:=decide_eq_true (by omega);go_wp2;go_ret;exact⟨by rw[S'.out];rfl,hB0.out.trans (hb.out.mono hs0)⟩
                 . have S':=zh (mo_len (m:=m) (n:=(m.datas.length:Int)) (by simp[vY]) g9);have d9:decide ((4096:Int)<(m.datas.length:Int))=true:=decide_eq_true (by omega);go_wp2;go_ret;exact⟨by rw[S'.out];rfl,hB0.out.trans (hb.out.mono hs0)⟩
               . have S':=zh (mo_len (m:=m) (n:=(m.elems.length:Int)) (by simp[vY]) g8);have d8:decide ((4096:Int)<(m.elems.length:Int))=true:=decide_eq_true (by omega);go_wp2;go_ret;exact⟨by rw[S'.out];rfl,hB0.out.trans (hb.out.mono hs0)⟩
             . have S':=zh (mo_len (m:=m) (n:=(m.exports.length:Int)) (by simp[vY]) g6);have d6:decide ((4096:Int)<(m.exports.length:Int))=true:=decide_eq_true (by omega);go_wp2;go_ret;exact⟨by rw[S'.out];rfl,hB0.out.trans (hb.out.mono hs0)⟩
           . have S':=zh (mo_len (m:=m) (n:=(m.globals.length:Int)) (by simp[vY]) g5);have d5:decide ((4096:Int)<(m.globals.length:Int))=true:=decide_eq_true (by omega);go_wp2;go_ret;exact⟨by rw[S'.out];rfl,hB0.out.trans (hb.out.mono hs0)⟩
         . have S':=zh (mo_len (m:=m) (n:=(m.mems.length:Int)) (by simp[vY]) g4);have d4:decide ((4096:Int)<(m.mems.length:Int))=true:=decide_eq_true (by omega);go_wp2;go_ret;exact⟨by rw[S'.out];rfl,hB0.out.trans (hb.out.mono hs0)⟩
       . have S':=zh (mo_len (m:=m) (n:=(m.tables.length:Int)) (by simp[vY]) g3);have d3:decide ((4096:Int)<(m.tables.length:Int))=true:=decide_eq_true (by omega);go_wp2;go_ret;exact⟨by rw[S'.out];rfl,hB0.out.trans (hb.out.mono hs0)⟩
     . have S':=zh (mo_len (m:=m) (n:=(m.funcs.length:Int)) (by simp[vY]) g2);have d2:decide ((4096:Int)<(m.funcs.length:Int))=true:=decide_eq_true (by omega);go_wp2;go_ret;exact⟨by rw[S'.out];rfl,hB0.out.trans (hb.out.mono hs0)⟩
   . have S':=zh (mo_len (m:=m) (n:=(m.imports.length:Int)) (by simp[vY]) g1);have d1:decide ((4096:Int)<(m.imports.length:Int))=true:=decide_eq_true (by omega);go_wp2;go_ret;exact⟨by rw[S'.out];rfl,hB0.out.trans (hb.out.mono hs0)⟩
 . have S':=zh (mo_len (m:=m) (n:=(m.types.length:Int)) (by simp[vY]) g0);have d0:decide ((4096:Int)<(m.types.length:Int))=true:=decide_eq_true (by omega);go_wp2;go_ret;exact⟨by rw[S'.out];rfl,hB0.out.trans (hb.out.mono hs0)⟩
theorem tmod_in(a:Int)(n:Nat)(hn:1<=n): -(n:Int)<Int.tmod a n/\Int.tmod a n<n:=by have h:=Int.natAbs_tmod a n;have h2:a.natAbs % n<n:=Nat.mod_lt _ (by omega);simp only[Int.natAbs_natCast]at h;omega
def modN (a:Int) (n:Nat):Nat:=(Int.tmod a n+n).toNat % n
theorem modN_lt(a:Int){n:Nat}(hn:1<=n):modN a n<n:=Nat.mod_lt _ (by omega)
theorem mod_any(a:Int)(n:Nat)(hn:1<=n)(hn2:n<=262144)(w:World):Calls Tryz.prog 17 #[.int .i64 a,.int .i64 (n:Int)] w λe w'=>e=.returned (.int .i64 (modN a n:Int))/\w'=w:=by
 obtain⟨r,hr⟩:∃r,r=Int.tmod a n:=⟨_,rfl⟩
 have h1:=tmod_in a n hn;rw[<-hr]at h1;obtain⟨m,hm⟩:∃m:Nat,(m:Int)=r+n:=⟨(r+n).toNat,by omega⟩
 have hw1:IntKind.i64.wrap (r+n)=(m:Int):=(by rw[<-hm];exact vJ _ (by omega) (by omega))
 have h2:Int.tmod (m:Int) (n:Int)=((m % n:Nat):Int):=by rw[Int.tmod_eq_emod_of_nonneg (by omega)];rfl
 have h3:m % n<n:=Nat.mod_lt _ (by omega);have hw2:IntKind.i64.wrap ((m % n:Nat):Int)=((m % n:Nat):Int):=vJ _ (by omega) (by omega);have hz:¬(n:Int)<1:=(by omega)
 have hz2:((n:Int)==0)=false:=beq_eq_false_iff_ne.2 (by omega);have hz3:(n:Int)≠0:=(by omega)
 obtain⟨k,hk⟩:∃k,k=m % n:=⟨_,rfl⟩
 have hkn:modN a n=k:=by unfold modN;rw[<-hr,<-hm,Int.toNat_natCast,hk]
 rw[hkn];rw[<-hk]at h2 h3 hw2
 have hs:IntKind.i64.wrap r=r:=by
  have hh:∀x:Int,-262144<=x->x<=262144->IntKind.i64.wrap x=x:=λx h1 h2=>by
   simp[IntKind.wrap,IntKind.bits,IntKind.signed];omega
  exact hh r (by omega) (by omega)
 replace hk:=zh hk;replace hm:=zh hm;replace hkn:=zh hkn;have hr':Int.tmod a n=r:=hr.symm;replace hr:=zh hr;go_enter Tryz.func17,Tryz.ntmps17;go_wp2_with fail;go_ret;exact⟨rfl,rfl⟩
end Go.Proofs.YtacohbllbjgdgaaGreatDoor
