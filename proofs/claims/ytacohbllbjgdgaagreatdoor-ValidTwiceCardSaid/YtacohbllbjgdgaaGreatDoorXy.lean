/- The checker: exports, and the start. -/
import Derived.Test.YtacohbllbjgdgaaGreatDoorXw
import Derived.Test.YtacohbllbjgdgaaGreatDoorWd
import Derived.Test.YtacohbllbjgdgaaGreatDoorXt
import Derived.Defers
import Derived.Recover
set_option linter.all false
set_option maxRecDepth 100000
set_option maxHeartbeats 8000000
namespace Go.Proofs.YtacohbllbjgdgaaGreatDoor
open Go.RowKit Go.Maps
def haveP (m:Md):Obj:=.cells #[.int .i64 ((zY m).length:Int),.int .i64 m.tables.length,.int .i64 m.mems.length,.int .i64 m.globals.length] 93
theorem haveP_c{w:World}{m:Md}{b:Nat}(h:w.heap[b]? =some (haveP m)){k:Nat}(hk:k<4):w.cell? ⟨b,k,none⟩=some (.int .i64 (manyV m (k:Int))):=by
 unfold haveP at h;have h4:k=0\/k=1\/k=2\/k=3:=(by omega)
 rcases h4 with rfl |rfl |rfl |rfl
 all_goals rw[cell_of_row w b _ _ _ _ h];rfl
theorem putone{D:DataW Unit}{l:List UInt8}{c v:Int}(hm:IsMap D)(k:(D.put (.string l) (.lit (.int .i64 v))).atKey (.string l) (.lit (.int .i64 0))=.lit (.int .i64 c)):c=v:=by rw[atKey_put_same hm (by simp[WideAt.IsKeyLit])]at k;simpa using k.symm
theorem box63'{w w':World}{Mb:Nat}{s:ByteArray}{k i:Int}(g:(w.alloc (.cells #[.string s,.int .i64 k,.int .i64 i] 63)).grownBy w' (some Mb))(hM:Mb<w.heap.size):w'.cell? ⟨w.heap.size,0,none⟩=some (.string s)/\w'.cell? ⟨w.heap.size,1,none⟩=some (.int .i64 k)/\w'.cell? ⟨w.heap.size,2,none⟩=some (.int .i64 i):=by
 have hh:=(g.block w.heap.size (by simp) (λe=>by simp at e;omega)).trans (heap_alloc_new w _);exact⟨by rw[cell_of_row _ _ 0 _ _ _ hh];rfl,by rw[cell_of_row _ _ 1 _ _ _ hh];rfl,by rw[cell_of_row _ _ 2 _ _ _ hh];rfl⟩
section
variable {w w':World} {c:Nat} {m:Md} {a0:Option Addr} {k0:Nat} {a1:Option Addr} {k1:Nat} {a2:Option Addr} {k2:Nat} {a3:Option Addr} {k3:Nat} {a4:Option Addr} {k4:Nat} {a5:Option Addr} {k5:Nat}
 {a6:Option Addr} {k6:Nat} {a7:Option Addr} {k7:Nat} {a8:Option Addr} {k8:Nat} {a9:Option Addr} {k9:Nat} {fa:Option Addr} {fk:Nat}
theorem exports_any(h:ChkAt w c m (zY m) a0 k0 a1 k1 a2 k2 a3 k3 a4 k4 a5 k5 a6 k6 a7 k7 a8 k8 a9 k9 fa fk)(hex:m.exports.length<=1099511627776)(hkd:∀x∈m.exports,0<=x.2.1/\x.2.1<=3)(hst:∀n∈m.start,0<=n):Calls Tryz.prog 28 #[.pointer (some ⟨c,0,none⟩)] w (endN w (jQ m)):=by
 generalize hX:jQ m=X;have hX1:Hid (X=zX (xO m m.exports []) (zD (eStart m) m.start)):=zh hX.symm;clear hX;obtain⟨y0,y1,y2,y3,y4,y5,y6,y7,y8,y9,y10,_⟩:=h.cc;have l6:=h.md.exports.1;have l7:=h.md.start.1;have lf:=h.fr.1;have hmm:= @run_makeMap Tryz.prog;have hcl:=lt_of_block h.b;obtain⟨S,hS⟩:∃S,S=w.heap.size:=⟨_,rfl⟩
 obtain⟨w1,hw1⟩:∃w1,w1=w.alloc (.map #[] 0):=⟨_,rfl⟩
 have hs1:w1.heap.size=S+1:=(by rw[hw1,hS];simp)
 have hM1:MapOf w1 S 0 []:=(by rw[hw1,hS];exact mapOf_new w)
 have hb1:Below w.heap.size w w1:=(by rw[hw1];exact Below.of_alloc w _)
 go_enter Tryz.func28,Tryz.ntmps28
 go_upto_region 1 with(fail)
 rw[<-hw1];rw[<-hS];have hch1:=h.step hb1;clear hw1 y0 y1 y2 y3 y4 y5 y6 y7 y8 y9 y10 hmm;obtain⟨y0,y1,y2,y3,y4,y5,y6,y7,y8,y9,y10,_⟩:=hch1.cc;go_wp2_with fail;have y10z:(w1.alloc (.cells #[.int .i64 0,.int .i64 0,.int .i64 0,.int .i64 0] 93)).cell? ⟨c,10,none⟩=some (.slice fa (zY m).length fk):=zA (Below.of_alloc w1 _) _ _ y10;have y10d:(w1.alloc (.cells #[.int .i64 0,.int .i64 0,.int .i64 0,.int .i64 0] 93)).drew.cell? ⟨c,10,none⟩=some (.slice fa (zY m).length fk):=y10z;have y3z:(w1.alloc (.cells #[.int .i64 0,.int .i64 0,.int .i64 0,.int .i64 0] 93)).cell? ⟨c,3,none⟩=some (.slice a3 m.tables.length k3):=zA (Below.of_alloc w1 _) _ _ y3;have y3d:(w1.alloc (.cells #[.int .i64 0,.int .i64 0,.int .i64 0,.int .i64 0] 93)).drew.cell? ⟨c,3,none⟩=some (.slice a3 m.tables.length k3):=y3z;have y4z:(w1.alloc (.cells #[.int .i64 0,.int .i64 0,.int .i64 0,.int .i64 0] 93)).cell? ⟨c,4,none⟩=some (.slice a4 m.mems.length k4):=zA (Below.of_alloc w1 _) _ _ y4;have y4d:(w1.alloc (.cells #[.int .i64 0,.int .i64 0,.int .i64 0,.int .i64 0] 93)).drew.cell? ⟨c,4,none⟩=some (.slice a4 m.mems.length k4):=y4z;have y5z:(w1.alloc (.cells #[.int .i64 0,.int .i64 0,.int .i64 0,.int .i64 0] 93)).cell? ⟨c,5,none⟩=some (.slice a5 m.globals.length k5):=zA (Below.of_alloc w1 _) _ _ y5;have y5d:(w1.alloc (.cells #[.int .i64 0,.int .i64 0,.int .i64 0,.int .i64 0] 93)).drew.cell? ⟨c,5,none⟩=some (.slice a5 m.globals.length k5):=y5z
 replace hs1:=zh hs1;clear y0 y1 y2 y6 y7 y8 y9;have hFL:∃FL:Nat,FL=(zY m).length:=⟨_,rfl⟩
 go_cut [3] from 9 to 32 (λv3 wx=>∃b',v3=.pointer (some ⟨b',0,none⟩)/\Hid (w1.heap.size<=b')/\Hid (wx.heap[b']? =some (haveP m))/\Hid (Below w1.heap.size w1 wx))
 case first=>
  go_region
  all_goals go_wp2_with fail
  all_goals go_meet
  all_goals exact⟨_,rfl,zh (Nat.le_refl _),zh (by unfold haveP;exact heap_alloc_new _ _),zh (by first |exact(Below.of_alloc w1 _).trans ((zB (w:=w1.alloc _) 1).mono (by simp)) |exact(zB (w:=w1) 1).trans ((Below.of_alloc w1.drew _).mono (by simp)))⟩
 case rest=>
  obtain⟨Hb,rfl,hHb,hhv,hbw⟩:=hcut;have hE0:Hid (Below w.heap.size w wc/\wc.heap[Hb]? =some (haveP m)/\MapOf wc S 0 []):=zh ⟨hb1.trans (hbw.out.mono hb1.size),hhv.out,hM1.step hbw.out⟩;have hSH:Hid (S≠Hb/\w.heap.size<=S):=zh ⟨by have:=hHb.out;have:=hs1.out;omega,by omega⟩;obtain⟨y0,y1,y2,y3,y4,y5,y6,y7,y8,y9,y10,_⟩:=(hch1.step hbw.out).cc;clear hhv hbw hM1 hb1 hch1 hHb hs1 hFL y3z y3d y4z y4d y5z y5d y10z y10d;replace hS:=zh hS;replace h:=zh h;go_wp2_with fail;go_loopw [39] (λvi wr=>∃(i n:Nat) (seen:List ByteArray),vi=.int .i64 i/\i<=m.exports.length/\n=i/\Hid (xO m m.exports []=xO m (m.exports.drop i) seen)/\Hid (Below w.heap.size w wr/\wr.heap[Hb]? =some (haveP m)/\MapOf wr S n seen)) (λvi _=>m.exports.length-(intOf vi).toNat)
  case atStart=>exact⟨0,0,[],rfl,Nat.zero_le _,rfl,zh rfl,hE0⟩
  case round=>
   clear hE0 y0 y1 y2 y3 y4 y5 y6 y7 y8 y9 y10;obtain⟨i,n,seen,rfl,hi,hni,hf,hE⟩:=hrel;obtain⟨hbw,hhv,D,hown,hDl⟩:=hE.out;have hch:=h.out.step hbw
   by_cases hlt:i<m.exports.length
   . obtain⟨x,hx⟩:∃x,m.exports[i]? =some x:=⟨_,List.getElem?_eq_getElem hlt⟩
     have hd:m.exports.drop i=x::m.exports.drop (i+1):=(by rw[List.drop_eq_getElem_cons hlt,(List.getElem?_eq_some_iff.1 hx).2])
     have hf1:=hf.out;rw[hd,expGo_step]at hf1;obtain⟨b,o,hab,⟨r1,r163⟩,r2,r3⟩:=hch.md.exports.row hx;replace r1:wr.cell? ⟨b,o+i*3,none⟩=some (.string x.1):=r1;replace r2:wr.cell? ⟨b,o+i*3+1,none⟩=some (.int .i64 x.2.1):=r2;replace r3:wr.cell? ⟨b,o+i*3+2,none⟩=some (.int .i64 x.2.2):=r3;rw[hab];replace hab:=zh hab;have hk:=hkd x (List.mem_of_getElem? hx);have i0:(0:Int)<=(i:Int):=(by omega)
     have hkey:keyOf Tryz.prog 9 (.string x.1)=some (.string x.1.data.toList):=Go.WideMaps.keyOf_string_mk Tryz.underlying9 r163;have hDx:=hDl x.1.data.toList;replace hDl:=zh hDl;clear hf hd;replace hx:=zh hx;replace hlt:=zh hlt;have ilt:(i:Int)<(m.exports.length:Int):=(by have:=hlt.out;omega)
     have hal:∀o,Hid (Below w.heap.size w (wr.alloc o)):=λo=>zh (hbw.trans ((Below.of_alloc wr o).mono hbw.size));have hS2:=hSH.out.2;have hgr:∀(wz w5:World),Below w.heap.size w wz->wz.grownBy w5 (some S)->Below w.heap.size w w5:=λ_ _ b g=>b.trans (gb_below g b.size (λq hq=>by cases hq;exact hS2));replace hgr:=zh hgr
     by_cases hs:metN seen x.1.data.toList=1
     . rw[if_pos hs]at hf1;rw[hs]at hDx;have e4:Hid (X=63):=zh (by rw[hX1.out,hf1];rfl);clear hf1 hs;replace hDx:=zh hDx
       go_wp2_with (first
        |(at_lookup;refine wpList_lookup_own_int _ rfl _ _ 92 rfl 9 3 .i64 law92 Tryz.underlying92 Tryz.underlying3 (zero3 _) S n D rfl (hown.alloc _) _ _ rfl hkey ?_;intro c1 hat hwc;obtain rfl:c1=1:=atone hDx.out hat)
        |(at_mapUpdate;refine wpList_mapUpdate_own _ rfl _ _ _ 92 rfl 9 3 law92 Tryz.underlying92 _ S n D rfl (hown.alloc _) (by unfold maxLen;omega) _ _ _ rfl rfl hkey _ [] (plainElem_int Tryz.underlying3 (by decide)) ?_;intro w5 hown5 hgrow5;have hb5:=zh (hgr.out _ _ (hal _).out hgrow5);obtain⟨u0,u1,u2⟩:=box63' hgrow5 hown.lt)
        |(at_lookup;refine wpList_lookup_own_int _ rfl _ _ 92 rfl 9 3 .i64 law92 Tryz.underlying92 Tryz.underlying3 (zero3 _) S (n+1) _ rfl hown5 _ _ rfl hkey ?_;intro c2 hat hwc2;obtain rfl:=putone hown.isMap hat)
        |fail)
       refine(qG 63 _).mono ?_;rintro e w' ⟨rfl,rfl⟩;go_wp2;exact⟨rfl,.inr (by rw[e4.out];exact⟨by decide,rfl⟩),hb5.out⟩
     . have hs0:metN seen x.1.data.toList=0:=by
        unfold metN at hs ⊢
        by_cases q:x.1.data.toList∈seen.map (λs=>s.data.toList)
        . rw[if_pos q]at hs;exact absurd rfl hs
        . rw[if_neg q]
       rw[if_neg hs]at hf1;rw[hs0]at hDx;replace hDx:=zh hDx;obtain⟨k,hkk⟩:∃k:Nat,x.2.1=k:=⟨x.2.1.toNat,by omega⟩
       have hk4:k<4:=(by omega)
       rw[hkk]at r2 hf1;clear hs hs0 hk;replace hkk:=zh hkk;have q0:(0:Int)<=(k:Int):=(by omega)
       have q4:(k:Int)<4:=(by omega)
       go_wp2_with (first
        |(at_lookup;refine wpList_lookup_own_int _ rfl _ _ 92 rfl 9 3 .i64 law92 Tryz.underlying92 Tryz.underlying3 (zero3 _) S n D rfl (hown.alloc _) _ _ rfl hkey ?_;intro c1 hat hwc;obtain rfl:c1=0:=atone hDx.out hat)
        |(at_mapUpdate;refine wpList_mapUpdate_own _ rfl _ _ _ 92 rfl 9 3 law92 Tryz.underlying92 _ S n D rfl (hown.alloc _) (by unfold maxLen;omega) _ _ _ rfl rfl hkey _ [] (plainElem_int Tryz.underlying3 (by decide)) ?_;intro w5 hown5 hgrow5;have hb5:=zh (hgr.out _ _ (hal _).out hgrow5);have hM5:Hid (MapOf w5 S (n+1) (x.1::seen)):=zh ⟨_,hown5,met_put hDl.out hown.isMap x.1⟩;have hv5:Hid (w5.heap[Hb]? =some (haveP m)):=zh ((hgrow5.block Hb (by have:=lt_of_block hhv;simp;omega) (λe=>hSH.out.1 (by simpa using e.symm))).trans (((Below.of_alloc wr _).block Hb (lt_of_block hhv)).trans hhv));obtain⟨u0,u1,u2⟩:=box63' hgrow5 hown.lt)
        |(at_lookup;refine wpList_lookup_own_int _ rfl _ _ 92 rfl 9 3 .i64 law92 Tryz.underlying92 Tryz.underlying3 (zero3 _) S (n+1) _ rfl hown5 _ _ rfl hkey ?_;intro c2 hat hwc2;obtain rfl:=putone hown.isMap hat)
        |fail)
       refine(zJ 63 _).mono ?_;rintro e w' ⟨rfl,rfl⟩;have hkc:=haveP_c hv5.out hk4;clear hown5 hgrow5 hat hwc2;go_wp2_with fail;refine wp_region_still_tail 6 (by kernel_rfl) (by kernel_rfl) ?_;simp only[List.take_succ_cons,List.take_zero,List.drop_succ_cons,List.drop_zero]
       repeat still_step
       refine wpStill_nil ?_;change wpList _ _ _ _ _ w5.drew;have hE6:Hid (Below w.heap.size w w5.drew/\w5.drew.heap[Hb]? =some (haveP m)/\MapOf w5.drew S (n+1) (x.1::seen)):=zh ⟨hb5.out.trans (zB (w:=w5) 1 |>.mono hb5.out.size),hv5.out,hM5.out.step (zB (w:=w5) 1)⟩;clear hkc u0 u1 u2
       by_cases hc:x.2.2<manyV m (k:Int)
       . rw[if_pos hc]at hf1;have hH:=λw=>zh (qB hc w);replace hf1:=zh hf1;generalize manyV m (k:Int)=V at hH ⊢;clear hc;go_wp2_with fail;refine(hH _).out.mono ?_;rintro e w' ⟨rfl,rfl⟩;go_wp2
         go_roundw
         case rel=>exact⟨i+1,n+1,x.1::seen,by simp,by have:=hlt.out;omega,by omega,hf1,hE6⟩
         case measure=>simp[intOf];have:=hlt.out;omega
       . rw[if_neg hc]at hf1;have e4:Hid (X=61):=zh (by rw[hX1.out,hf1];rfl);have hH:=λw=>zh (vA hc w);generalize manyV m (k:Int)=V at hH ⊢;clear hc hf1;go_wp2_with fail;refine(hH _).out.mono ?_;rintro e w' ⟨rfl,rfl⟩;go_wp2;exact⟨rfl,.inr (by rw[e4.out];exact⟨by decide,rfl⟩),hE6.out.1⟩
   . obtain rfl:i=m.exports.length:=by omega
     have e1:Hid (X=zD (eStart m) (m.start.drop 0)):=zh (by
      have:=hf.out;rw[List.drop_length]at this;rw[hX1.out,this];rfl)
     have hb0:Hid (Below w.heap.size w wr):=zh hbw;obtain⟨y0,y1,y2,y3,y4,y5,y6,y7,y8,y9,y10,_⟩:=hch.cc;clear hf hlt hX1 hE hown hDl hhv hbw;go_wp2_with fail;go_loopw [68] (λvi wr=>∃i:Nat,vi=.int .i64 i/\i<=m.start.length/\Hid (X=zD (eStart m) (m.start.drop i))/\Hid (Below w.heap.size w wr)) (λvi _=>m.start.length-(intOf vi).toNat)
     case atStart=>exact⟨0,rfl,Nat.zero_le _,e1,hb0⟩
     case round=>
      clear hb0 e1 y0 y1 y2 y3 y4 y5 y6 y7 y8 y9 y10 hch;obtain⟨i,rfl,hi,hf,hbw⟩:=hrel;have hch:=h.out.step hbw.out;obtain⟨y0,y1,y2,y3,y4,y5,y6,y7,y8,y9,y10,_⟩:=hch.cc
      by_cases hlt:i<m.start.length
      . obtain⟨x,hx⟩:∃x,m.start[i]? =some x:=⟨_,List.getElem?_eq_getElem hlt⟩
        obtain⟨b,o,hab,hcx⟩:=hch.md.start.at hx;have hx0:=hst x (List.mem_of_getElem? hx);have hf1:=hf.out.trans (qE hx);have i0:(0:Int)<=(i:Int):=(by omega)
        have ilt:(i:Int)<(m.start.length:Int):=(by omega)
        rw[hab];replace hab:=zh hab;replace hlt:=zh hlt;have good:eStart m x=0->Hid (X=zD (eStart m) (m.start.drop (i+1))):=λq=>zh (by rw[q,if_pos rfl]at hf1;exact hf1);have bad:∀k,k≠0->eStart m x=k->Hid (X=k):=λk hk q=>zh (by rw[q,if_neg hk]at hf1;exact hf1);clear hf hf1 hx
        by_cases hc:x<((zY m).length:Int)
        . obtain⟨j,rfl⟩:∃j:Nat,x=j:=⟨x.toNat,by omega⟩
          obtain⟨t,ht⟩:∃t,(zY m)[j]? =some t:=⟨_,List.getElem?_eq_getElem (by omega)⟩
          have hg:(zY m).getD ((j:Int).toNat) ([],[])=t:=(by rw[Int.toNat_natCast,List.getD_eq_getElem?_getD,ht];rfl)
          have est:eStart m (j:Int)=if t.1.length=0/\t.2.length=0 then 0 else 60:=(by unfold eStart;rw[if_pos hc,hg])
          rw[est]at good bad;obtain⟨b3,o3,hfa,⟨pa,pc,g0,_⟩,⟨ra,rc,g1,_⟩⟩:=hch.fr.row ht;rw[hfa]at y10;replace hfa:=zh hfa;have hH:=λw=>zh (qB hc w);replace ht:=zh ht;have j0:(0:Int)<=(j:Int):=(by omega)
          clear est hg hch;have hcase:(t.1.length=0/\t.2.length=0)\/(¬t.1.length=0)\/(t.1.length=0/\¬t.2.length=0):=(by omega)
          generalize t.1.length=L1 at g0 good bad hcase;generalize t.2.length=L2 at g1 good bad hcase
          rcases hcase with⟨rfl,rfl⟩ |hn |⟨rfl,hn⟩
          . have e4:=good (if_pos ⟨rfl,rfl⟩);clear good bad;go_wp2_with fail;refine(hH _).out.mono ?_;rintro e w' ⟨rfl,rfl⟩;go_wp2_with fail;refine(zJ 60 _).mono ?_;rintro e w' ⟨rfl,rfl⟩;go_wp2
            go_roundw
            case rel=>exact⟨i+1,by simp,by have:=hlt.out;omega,e4,hbw⟩
            case measure=>simp[intOf];have:=hlt.out;omega
          . have e4:=bad 60 (by decide) (if_neg (λq=>hn q.1));have hb1:((L1:Int)==0)=false:=(by simp[hn])
            clear good bad hn;go_wp2_with fail;refine(hH _).out.mono ?_;rintro e w' ⟨rfl,rfl⟩;go_wp2_with fail;refine(qG 60 _).mono ?_;rintro e w' ⟨rfl,rfl⟩;go_wp2;exact⟨rfl,.inr (by rw[e4.out];exact⟨by decide,rfl⟩),hbw.out⟩
          . have e4:=bad 60 (by decide) (if_neg (λq=>hn q.2));have hb1:((L2:Int)==0)=false:=(by simp[hn])
            clear good bad hn;go_wp2_with fail;refine(hH _).out.mono ?_;rintro e w' ⟨rfl,rfl⟩;go_wp2_with fail;refine(qG 60 _).mono ?_;rintro e w' ⟨rfl,rfl⟩;go_wp2;exact⟨rfl,.inr (by rw[e4.out];exact⟨by decide,rfl⟩),hbw.out⟩
        . have e4:=bad 61 (by decide) (by unfold eStart;rw[if_neg hc]);have hH:=λw=>zh (vA hc w);clear good bad hc hch;go_wp2_with fail;refine(hH _).out.mono ?_;rintro e w' ⟨rfl,rfl⟩;go_wp2;exact⟨rfl,.inr (by rw[e4.out];exact⟨by decide,rfl⟩),hbw.out⟩
      . obtain rfl:i=m.start.length:=by omega
        have e4:X=0:=by have:=hf.out;rw[List.drop_length]at this;exact this
        clear hf hlt hch;replace e4:=zh e4;go_wp2;go_end0;exact⟨.inl ⟨e4.out,rfl⟩,hbw.out⟩
end
end Go.Proofs.YtacohbllbjgdgaaGreatDoor
namespace Go.Proofs.YtacohbllbjgdgaaGreatDoor
open Go.RowKit
theorem vcatch_idle(p:Addr)(w:World):CallsD Tryz.prog 25 #[.pointer (some p)] .returning w λe u' w'=>e=.returned (.tuple #[])/\u'=.returning/\w'=w:=by
 refine callsD_of_wpS Tryz.func25 rfl λc₀ cs hu=> ?_;apply wpS_seq;apply wpS_region;simp[wpOpsS,go_sem,recoverD,hu,Tryz.ntmps25,Exit.thenS];refine wpS_of_wp ?_;go_wp2;cases c₀
 simp_all [bodyPostS,results,Tryz.results25]
theorem vassert_fault(n:Int)(w:World):(Instr.typeAssert (Value.iface 73 (.agg #[.int .i64 n])) 20 73 true).run Tryz.prog w=.ok (.tuple #[.agg #[.int .i64 n],.bool true]) w:=by kernel_rfl
theorem yD(p:Nat)(x n:Int)(older:List PanicEntry)(w:World)(hc:w.cell? ⟨p,0,none⟩=some (.int .i64 x))(hz:w.frozen? ⟨p,0,none⟩=false):CallsD Tryz.prog 25 #[.pointer (some ⟨p,0,none⟩)] (.panicking ({v:=.iface 73 (.agg #[.int .i64 n]),recovered:=false}::older)) w λe u' w'=>e=.returned (.tuple #[])/\u'=.panicking ({v:=.iface 73 (.agg #[.int .i64 n]),recovered:=true}::older)/\w'=(w.setCell ⟨p,0,none⟩ (.int .i64 n)).alloc (.cells #[.int .i64 n] 73):=by
 refine callsD_of_wpS Tryz.func25 rfl λc₀ cs hu=> ?_;apply wpS_seq;apply wpS_region;simp[wpOpsS,go_sem,recoverD,hu,Tryz.ntmps25,Exit.thenS];refine wpS_of_wp ?_;have hta:=vassert_fault n;have hp:p<w.heap.size:=World.block_lt_of_cell? _ _ hc;change Code.wp Tryz.prog _ _ {tmps:= #[.pointer (some ⟨p,0,none⟩),undef,undef,undef,.iface 73 (.agg #[.int .i64 n]),undef,undef,undef,undef,undef,undef,undef],defers:=[]} w;go_wp2;cases c₀
 simp_all [bodyPostS,results,Tryz.results25]
theorem ck_chk{N c:Nat}{A:MA}{m:Md}{w0 w:World}{fv:Value}(h:Ck N c A m w0 w fv (zY m)):∃fa fk,ChkAt w c m (zY m) A.a0 A.k0 A.a1 A.k1 A.a2 A.k2 A.a3 A.k3 A.a4 A.k4 A.a5 A.k5 A.a6 A.k6 A.a7 A.k7 A.a8 A.k8 A.a9 A.k9 fa fk:=by
 obtain⟨cs,hown,hl,htc⟩:=h.own;have hb:=h.b;have kb:=zA h.bw;have hmd:MdAt w m A.a0 A.k0 A.a1 A.k1 A.a2 A.k2 A.a3 A.k3 A.a4 A.k4 A.a5 A.k5 A.a6 A.k6 A.a7 A.k7 A.a8 A.k8 A.a9 A.k9:=MdAt.keep kb h.md;have hown2:=hown.2
 rcases hown2 with⟨rfl,h0⟩ |⟨g,cap,cur,rfl,hg,hgg,hnc,hcm,_⟩
 . refine⟨none,0,⟨by rw[h0];exact hb,hmd,?_⟩⟩;exact⟨by omega,.inl (List.eq_nil_of_length_eq_zero h0)⟩
 . refine⟨some ⟨g,0,none⟩,cap,⟨hb,hmd,?_⟩⟩;simp only[maxLen]at hcm;refine⟨by omega,.inr ⟨g,0,rfl,λi t ht=> ?_⟩⟩;obtain⟨pa,pc,ra,rc,e1,e2,i1,i2⟩:=htc i t ht;have hi:=(List.getElem?_eq_some_iff.1 ht).1;refine⟨⟨pa,pc,?_,i1.below h.bw⟩,⟨ra,rc,?_,i2.below h.bw⟩⟩
   . rw[Nat.zero_add,hown.cellAt _ (by omega)];exact e1
   . rw[Nat.zero_add,hown.cellAt _ (by omega)];exact e2
theorem where_head{m:Md}{k:Int}(h:headV m=k)(hk:k≠0):qM m=(-1,k):=by unfold qM;rw[h,if_neg hk]
section
variable {w:World} {A:MA} {m:Md}
theorem where_any(hA:MdA w m A)(hT:TabU w):Calls Tryz.prog 12 #[.agg #[(A.v m).v0,(A.v m).v1,(A.v m).v2,(A.v m).v3,(A.v m).v4,(A.v m).v5,(A.v m).v6,(A.v m).v7,(A.v m).v8,(A.v m).v9]] w λe w'=>e=.returned (.tuple #[.int .i64 (qM m).1,.int .i64 (qM m).2])/\Below w.heap.size w w':=by
 have hb2:=xM w (yU A m) (.cells #[.int .i64 0] 36);have hck:=check_any m A.a0 A.k0 A.a1 A.k1 A.a2 A.k2 A.a3 A.k3 A.a4 A.k4 A.a5 A.k5 A.a6 A.k6 A.a7 A.k7 A.a8 A.k8 A.a9 A.k9 _ (MdAt.keep (zA hb2) hA) (hT.below hb2);have hbx:((w.alloc (yU A m)).alloc (.cells #[.int .i64 0] 36)).heap[w.heap.size]? =some (yU A m):=(Below.heap_alloc _ _ _ (by simp)).trans (heap_alloc_new w _);have hrq:=yN w (yU A m) (.cells #[.int .i64 0] 36);obtain⟨w1,hw1⟩:∃w1,w1=(w.alloc (yU A m)).alloc (.cells #[.int .i64 0] 36):=⟨_,rfl⟩
 rw[<-hw1]at hb2 hck hbx hrq;have hsz1:w1.heap.size=w.heap.size+2:=(by rw[hw1];simp)
 unfold yU at hw1;unfold mdV at hck;obtain⟨S,hS⟩:∃S,S=w.heap.size:=⟨_,rfl⟩
 rw[<-hS]at hbx hrq hsz1;obtain⟨x0,x1,x2,x3,x4,x5,x6,x7,x8,x9⟩:=xH hbx
 go_enter_defers Tryz.func12,Tryz.ntmps12
 go_upto_region 1 with(fail)
 rw[<-hw1];rw[<-hS];clear hw1;replace hsz1:=zh hsz1;replace hS:=zh hS;replace hbx:=zh hbx;replace hrq:=zh hrq;go_wp2_with fail;refine hck.mono ?_;rintro e w2 ⟨rfl,b2⟩;have hbx2:=zh ((b2.block S (by rw[hsz1.out];omega)).trans hbx.out);have hrq2:=zh ((b2.block (S+1) (by rw[hsz1.out];omega)).trans hrq.out);have hB2:Hid (Below w.heap.size w w2):=zh (hb2.trans (b2.mono hb2.size));clear hck x0 x1 x2 x3 x4 x5 x6 x7 x8 x9 hbx hrq;have r0:w2.cell? ⟨S+1,0,none⟩=some (.int .i64 0):=(by rw[cell_of_row _ (S+1) 0 _ _ _ hrq2.out];rfl)
 have z0:=frozen_of_row w2 (S+1) 0 _ _ hrq2.out
 by_cases hc:qI m=0
 . have cm:=cm_of hc;have hok:=idx_ok cm;have hhd:headV m=zX (xQ m) (zX (idxV m) (zX (vX m) (zX (jQ m) (vH m (zY m).length)))):=(by unfold headV;rw[hc];rfl)
   rw[hc];obtain⟨x0,x1,x2,x3,x4,x5,x6,x7,x8,x9⟩:=xH hbx2.out;have hob:Hid (Below w.heap.size w (w2.alloc (.cells #[.slice A.a0 m.types.length A.k0,.slice A.a1 m.imports.length A.k1,.slice A.a2 m.funcs.length A.k2,.slice A.a3 m.tables.length A.k3,.slice A.a4 m.mems.length A.k4,.slice A.a5 m.globals.length A.k5,.slice A.a6 m.exports.length A.k6,.slice A.a7 m.start.length A.k7,.slice A.a8 m.elems.length A.k8,.slice A.a9 m.datas.length A.k9,.slice none 0 0] 76))/\(w2.alloc (.cells #[.slice A.a0 m.types.length A.k0,.slice A.a1 m.imports.length A.k1,.slice A.a2 m.funcs.length A.k2,.slice A.a3 m.tables.length A.k3,.slice A.a4 m.mems.length A.k4,.slice A.a5 m.globals.length A.k5,.slice A.a6 m.exports.length A.k6,.slice A.a7 m.start.length A.k7,.slice A.a8 m.elems.length A.k8,.slice A.a9 m.datas.length A.k9,.slice none 0 0] 76)).heap[w2.heap.size]? =some (.cells #[.slice A.a0 m.types.length A.k0,.slice A.a1 m.imports.length A.k1,.slice A.a2 m.funcs.length A.k2,.slice A.a3 m.tables.length A.k3,.slice A.a4 m.mems.length A.k4,.slice A.a5 m.globals.length A.k5,.slice A.a6 m.exports.length A.k6,.slice A.a7 m.start.length A.k7,.slice A.a8 m.elems.length A.k8,.slice A.a9 m.datas.length A.k9,.slice none 0 0] 76)):=zh ⟨hB2.out.trans ((Below.of_alloc w2 _).mono hB2.out.size),heap_alloc_new w2 _⟩;obtain⟨w3,hw3⟩:∃w3,w3=w2.alloc (.cells #[.slice A.a0 m.types.length A.k0,.slice A.a1 m.imports.length A.k1,.slice A.a2 m.funcs.length A.k2,.slice A.a3 m.tables.length A.k3,.slice A.a4 m.mems.length A.k4,.slice A.a5 m.globals.length A.k5,.slice A.a6 m.exports.length A.k6,.slice A.a7 m.start.length A.k7,.slice A.a8 m.elems.length A.k8,.slice A.a9 m.datas.length A.k9,.slice none 0 0] 76):=⟨_,rfl⟩
   rw[<-hw3]at hob;have hA2:MdA w2 m A:=MdAt.keep (zA hB2.out) hA;have hbo:Below w2.heap.size w2 w3:=(by rw[hw3];exact Below.of_alloc w2 _)
   have hSl:Hid (S+1<w2.heap.size):=zh (by have:=lt_of_block hrq2.out;omega);have l12:=cm.l1;have l22:=cm.l2;have htyp:=types_any (c:=w2.heap.size) (A:=A) hob.out.2 hbo hA2 (Nat.le_refl _) hok (by omega);replace htyp:=zh htyp;have hcl:=hob.out.2;replace hcl:=zh hcl;replace hob:=zh hob.out.1;have hkeepc:True:=trivial
   go_upto_region 7 with(fail)
   rw[<-hw3];clear hw3 x0 x1 x2 x3 x4 x5 x6 x7 x8 x9 r0 z0;generalize hcc:w2.heap.size=c at htyp hcl hSl hbo ⊢;replace hcc:=zh hcc;go_wp2_with fail;refine htyp.out.mono ?_;rintro e w4 ⟨hh,hbk⟩
   rcases hh with⟨hX,rfl,N,fv,hck4⟩ |⟨hX,rfl⟩
   . obtain⟨h1,h2⟩:=xD hX;replace hbk:=zh hbk;replace hbk:Hid (Below w2.heap.size w2 w4):=hbk;obtain⟨fa,fk,hch4⟩:=ck_chk hck4;clear hck4;have hs4:=parts_any hch4;replace hs4:=zh hs4;go_wp2_with fail;refine hs4.out.mono ?_;rintro e w5 ⟨⟨hX4,rfl⟩ |⟨hX4,rfl⟩,b5⟩
     rotate_left
     . have hbk5:=zh (hbk.out.trans (b5.mono hbk.out.size));go_wp2;unfold jS;have hpq:=((hbk5.out.block (S+1) (by have:=hSl.out;have:=hcc.out;omega)).trans hrq2.out)
       have hpc:w5.cell? ⟨S+1,0,none⟩=some (.int .i64 0):=(by rw[cell_of_row _ (S+1) 0 _ _ _ hpq];rfl)
       have hpz:=frozen_of_row w5 (S+1) 0 _ _ hpq;refine leaves_cons (f:=25) (args:= #[.pointer (some ⟨S+1,0,none⟩)]) (by simp) (by simp[go_sem]) ?_;refine(yD (S+1) 0 (vX m) [] _ hpc hpz).mono ?_;rintro e u' w'' ⟨rfl,rfl,rfl⟩;have hca:=xP (n:=vX m) (o:=.cells #[.int .i64 (vX m)] 73) hpc;have hcb:=xF (v:=.int .i64 (vX m)) (o:=.cells #[.int .i64 (vX m)] 73) (hB2.out.trans (hbk5.out.mono hB2.out.size)) (show w.heap.size<=S+1 by have:=hS.out;omega);have e9:qM m=(-1,vX m):=where_head (by rw[hhd,h1,h2];simp[zX,hX4]) hX4;simp[Leaves,settle,results,Tryz.results12,go_sem];rw[hca,e9];exact⟨_,rfl,rfl,hcb⟩
     have hbk5:=zh (hbk.out.trans (b5.mono hbk.out.size));have hch5:=hch4.step b5;have hs5:=exports_any hch5 (by have:=cm.l6;omega) (λx hx=>(cm.exports x hx).2.1) (λn hn=>by have:=cm.start n hn;unfold zM at this;simp only[Bool.and_eq_true,decide_eq_true_eq]at this;exact this.1);replace hs5:=zh hs5;go_wp2_with fail;refine hs5.out.mono ?_;rintro e w6 ⟨⟨hX5,rfl⟩ |⟨hX5,rfl⟩,b6⟩
     rotate_left
     . have hbk6:=zh (hbk5.out.trans (b6.mono hbk5.out.size));go_wp2;unfold jS;have hpq:=((hbk6.out.block (S+1) (by have:=hSl.out;have:=hcc.out;omega)).trans hrq2.out)
       have hpc:w6.cell? ⟨S+1,0,none⟩=some (.int .i64 0):=(by rw[cell_of_row _ (S+1) 0 _ _ _ hpq];rfl)
       have hpz:=frozen_of_row w6 (S+1) 0 _ _ hpq;refine leaves_cons (f:=25) (args:= #[.pointer (some ⟨S+1,0,none⟩)]) (by simp) (by simp[go_sem]) ?_;refine(yD (S+1) 0 (jQ m) [] _ hpc hpz).mono ?_;rintro e u' w'' ⟨rfl,rfl,rfl⟩;have hca:=xP (n:=jQ m) (o:=.cells #[.int .i64 (jQ m)] 73) hpc;have hcb:=xF (v:=.int .i64 (jQ m)) (o:=.cells #[.int .i64 (jQ m)] 73) (hB2.out.trans (hbk6.out.mono hB2.out.size)) (show w.heap.size<=S+1 by have:=hS.out;omega);have e9:qM m=(-1,jQ m):=where_head (by rw[hhd,h1,h2,hX4];simp[zX,hX5]) hX5;simp[Leaves,settle,results,Tryz.results12,go_sem];rw[hca,e9];exact⟨_,rfl,rfl,hcb⟩
     have hbk6:=zh (hbk5.out.trans (b6.mono hbk5.out.size));have hch6:=hch5.step b6;have hs6:=fills_any hch6;replace hs6:=zh hs6;go_wp2_with fail;refine hs6.out.mono ?_;rintro e w7 ⟨⟨hX6,rfl⟩ |⟨hX6,rfl⟩,b7⟩
     rotate_left
     . have hbk7:=zh (hbk6.out.trans (b7.mono hbk6.out.size));go_wp2;unfold jS;have hpq:=((hbk7.out.block (S+1) (by have:=hSl.out;have:=hcc.out;omega)).trans hrq2.out)
       have hpc:w7.cell? ⟨S+1,0,none⟩=some (.int .i64 0):=(by rw[cell_of_row _ (S+1) 0 _ _ _ hpq];rfl)
       have hpz:=frozen_of_row w7 (S+1) 0 _ _ hpq;refine leaves_cons (f:=25) (args:= #[.pointer (some ⟨S+1,0,none⟩)]) (by simp) (by simp[go_sem]) ?_;refine(yD (S+1) 0 (vH m (zY m).length) [] _ hpc hpz).mono ?_;rintro e u' w'' ⟨rfl,rfl,rfl⟩;have hca:=xP (n:=vH m (zY m).length) (o:=.cells #[.int .i64 (vH m (zY m).length)] 73) hpc;have hcb:=xF (v:=.int .i64 (vH m (zY m).length)) (o:=.cells #[.int .i64 (vH m (zY m).length)] 73) (hB2.out.trans (hbk7.out.mono hB2.out.size)) (show w.heap.size<=S+1 by have:=hS.out;omega);have e9:qM m=(-1,vH m (zY m).length):=where_head (by rw[hhd,h1,h2,hX4,hX5];simp[zX]) hX6;simp[Leaves,settle,results,Tryz.results12,go_sem];rw[hca,e9];exact⟨_,rfl,rfl,hcb⟩
     have hbk7:=zh (hbk6.out.trans (b7.mono hbk6.out.size));have hch7:=hch6.step b7
     have hw0:qM m=xV m (m.funcs.drop 0) (m.imports.length+0):=by
      have hz:headV m=0:=(by rw[hhd,h1,h2,hX4,hX5,hX6];rfl)
      unfold qM;rw[if_pos hz];rfl
     replace hw0:=zh hw0;have hEv:=λfn (hf:fn∈m.funcs)=>ev_ok cm (xS (m:=m) (P:=λt=>∀x∈t.1,tyo x) (λt ht=>(types_ok cm t ht).1) (by intro x hx;cases hx) fn.1.toNat) (cm.funcs fn hf).2.2.1;have hEr:=λt ls=>ev_r (m:=m) h1 t ls;have hcnt:=cntF_sz m.funcs 65536 cm.cnt;have hbx7:=zh ((hbk7.out.block S (by have:=hSl.out;have:=hcc.out;omega)).trans hbx2.out);have hch0:=zh hch7;replace hch0:Hid (ChkAt w7 c m (zY m) A.a0 A.k0 A.a1 A.k1 A.a2 A.k2 A.a3 A.k3 A.a4 A.k4 A.a5 A.k5 A.a6 A.k6 A.a7 A.k7 A.a8 A.k8 A.a9 A.k9 fa fk):=hch0;obtain⟨x0,x1,x2,x3,x4,x5,x6,x7,x8,x9⟩:=xH hbx7.out;have lfn:=hch7.md.funcs.1;replace hEv:=zh hEv;replace hEr:=zh hEr;replace hcnt:=zh hcnt;replace h1:=zh h1;replace h2:=zh h2;replace cm:=zh cm;have hb77:Hid (Below w7.heap.size w7 w7):=zh (Below.refl _ _);clear hch4 hch5 hch6 hch7 hs4 hs5 hs6 hX hhd hok hX4 hX5 hX6;go_wp2_with fail;go_loopw [2,27] (λva vi wr=>∃(i:Nat) (at0:Int),va=.int .i64 at0/\vi=.int .i64 i/\i<=m.funcs.length/\Hid (qM m=xV m (m.funcs.drop i) (m.imports.length+i))/\Hid (Below w7.heap.size w7 wr)) (λ_ vi _=>m.funcs.length-(intOf vi).toNat)
     case atStart=>exact⟨0,-1,rfl,rfl,Nat.zero_le _,hw0,hb77⟩
     case round=>
      clear hw0 hb77 x0 x1 x2 x3 x4 x5 x6 x7 x8 x9;obtain⟨i,at0,rfl,rfl,hi,hwq,hb7⟩:=hrel;have hbk8:=zh (hbk7.out.trans (hb7.out.mono hbk7.out.size));have hbx8:=zh ((hb7.out.block S (lt_of_block hbx7.out)).trans hbx7.out);obtain⟨x0,x1,x2,x3,x4,x5,x6,x7,x8,x9⟩:=xH hbx8.out
      by_cases hlt:i<m.funcs.length
      . obtain⟨fn,hfn⟩:∃fn,m.funcs[i]? =some fn:=⟨_,List.getElem?_eq_getElem hlt⟩
        have hmem:=List.mem_of_getElem? hfn;have hch8:=hch0.out.step hb7.out;have hd:m.funcs.drop i=fn::m.funcs.drop (i+1):=(by rw[List.drop_eq_getElem_cons hlt,(List.getElem?_eq_some_iff.1 hfn).2])
        have hft:(zY m).getD (m.imports.length+i) ([],[])=tyF m fn:=by rw[List.getD_eq_getElem?_getD,funcT_at hfn];rfl
        have hwq2:qM m=(match bodyT m (zY m) (tyF m fn) fn with |.ok _=>xV m (m.funcs.drop (i+1)) (m.imports.length+i+1) |.error e=>(((m.imports.length+i:Nat):Int),e)):=by
         rw[hwq.out,hd]
         show(match bodyT m (zY m) ((zY m).getD (m.imports.length+i) ([],[])) fn with |.ok _=>_ |.error e=>_)=_
         rw[hft]
        have hszf:=hcnt.out fn hmem;have htl:(tyF m fn).1.length<=4096:=xS (m:=m) (P:=λt=>t.1.length<=4096) (λt ht=>(cm.out.types t ht).1) (by simp) fn.1.toNat;have ht2l:(tyF m fn).2.length<=1:=xS (m:=m) (P:=λt=>t.2.length<=1) (types_r h1.out) (by simp) fn.1.toNat;have hty2:∀x∈(tyF m fn).2,tyo x:=xS (m:=m) (P:=λt=>∀x∈t.2,tyo x) (λt ht=>(types_ok cm.out t ht).2) (by intro x hx;cases hx) fn.1.toNat;have hbd:=body_any hch8 hfn (funcT_at hfn) (hEv.out fn hmem) (hEr.out (tyF m fn) fn.2.1) (cm.out.funcs fn hmem).2.2.2.2.1 (by omega) hty2 ht2l (by have:=(cm.out.funcs fn hmem).2.1;omega);have i0:(0:Int)<=(i:Int):=(by omega)
        have ilt:(i:Int)<(m.funcs.length:Int):=(by omega)
        have hwr2:IntKind.i64.wrap ((m.imports.length:Int)+(i:Int))=((m.imports.length+i:Nat):Int):=(by rw[IntKind.wrap_i64];omega)
        replace hlt:=zh hlt;replace hwq2:=zh hwq2;clear hwq hd hft hfn hmem hszf htl ht2l hty2 hch8;cases hb9:bodyT m (zY m) (tyF m fn) fn with
        |ok u=>
          rw[hb9]at hbd;have hw9:Hid (qM m=xV m (m.funcs.drop (i+1)) (m.imports.length+(i+1))):=zh (by rw[hwq2.out,hb9];rfl);replace hb9:=zh hb9;replace hbd:=zh hbd;go_wp2_with fail;refine hbd.out.mono ?_;rintro e w9 ⟨rfl,b9⟩;have hb10:=zh (hb7.out.trans (b9.mono hb7.out.size));go_wp2
          go_roundw
          case rel=>exact⟨i+1,_,rfl,by simp,by have:=hlt.out;omega,hw9,hb10⟩
          case measure=>simp[intOf];have:=hlt.out;omega
        |error k=>
          rw[hb9]at hbd;have hw9:qM m=(((m.imports.length+i:Nat):Int),k):=(by rw[hwq2.out,hb9])
          replace hb9:=zh hb9;replace hbd:=zh hbd;replace hw9:=zh hw9;go_wp2_with fail;refine hbd.out.mono ?_;rintro e w9 ⟨rfl,b9⟩;have hbk9:=zh (hbk8.out.trans (b9.mono hbk8.out.size));go_wp2;unfold jS;have hpq:=((hbk9.out.block (S+1) (by have:=hSl.out;have:=hcc.out;omega)).trans hrq2.out)
          have hpc:w9.cell? ⟨S+1,0,none⟩=some (.int .i64 0):=(by rw[cell_of_row _ (S+1) 0 _ _ _ hpq];rfl)
          have hpz:=frozen_of_row w9 (S+1) 0 _ _ hpq;refine leaves_cons (f:=25) (args:= #[.pointer (some ⟨S+1,0,none⟩)]) (by simp) (by simp[go_sem]) ?_;refine(yD (S+1) 0 (k) [] _ hpc hpz).mono ?_;rintro e u' w'' ⟨rfl,rfl,rfl⟩;have hca:=xP (n:=k) (o:=.cells #[.int .i64 (k)] 73) hpc;have hcb:=xF (v:=.int .i64 (k)) (o:=.cells #[.int .i64 (k)] 73) (hB2.out.trans (hbk9.out.mono hB2.out.size)) (show w.heap.size<=S+1 by have:=hS.out;omega);have e9:qM m=(((m.imports.length+i:Nat):Int),k):=hw9.out;simp[Leaves,settle,results,Tryz.results12,go_sem];rw[hca,e9];exact⟨_,rfl,rfl,hcb⟩
      . obtain rfl:i=m.funcs.length:=by omega
        have hw9:qM m=(-1,0):=by have:=hwq.out;rw[List.drop_length]at this;exact this
        have hpq:=(hbk8.out.block (S+1) (by have:=hSl.out;have:=hcc.out;omega)).trans hrq2.out;have hpc:wr.cell? ⟨S+1,0,none⟩=some (.int .i64 0):=(by rw[cell_of_row _ (S+1) 0 _ _ _ hpq];rfl)
        have hpz:=frozen_of_row wr (S+1) 0 _ _ hpq;replace hw9:=zh hw9;go_wp2_with fail;refine leaves_cons (f:=25) (args:= #[.pointer (some ⟨S+1,0,none⟩)]) (by simp) (by simp[go_sem]) ?_;refine(vcatch_idle ⟨S+1,0,none⟩ _).mono ?_;rintro e u' w'' ⟨rfl,rfl,rfl⟩;have hca:(wr.setCell ⟨S+1,0,none⟩ (.int .i64 0)).cell? ⟨S+1,0,none⟩=some (.int .i64 0):=xK hpc;have hcb:=(hB2.out.trans (hbk8.out.mono hB2.out.size)).trans (Below.setAt (j:=0) (u:=.int .i64 0) (show w.heap.size<=S+1 by have:=hS.out;omega));simp[Leaves,settle,results,Tryz.results12,go_sem,hca];rw[hw9.out];exact⟨⟨rfl,rfl⟩,hcb⟩
   . replace hbk:Hid (Below w2.heap.size w2 w4):=zh hbk;go_wp2;unfold jS;have hpq:=((hbk.out.block (S+1) (by have:=hSl.out;have:=hcc.out;omega)).trans hrq2.out)
     have hpc:w4.cell? ⟨S+1,0,none⟩=some (.int .i64 0):=(by rw[cell_of_row _ (S+1) 0 _ _ _ hpq];rfl)
     have hpz:=frozen_of_row w4 (S+1) 0 _ _ hpq;refine leaves_cons (f:=25) (args:= #[.pointer (some ⟨S+1,0,none⟩)]) (by simp) (by simp[go_sem]) ?_;refine(yD (S+1) 0 (zX (xQ m) (idxV m)) [] _ hpc hpz).mono ?_;rintro e u' w'' ⟨rfl,rfl,rfl⟩;have hca:=xP (n:=zX (xQ m) (idxV m)) (o:=.cells #[.int .i64 (zX (xQ m) (idxV m))] 73) hpc;have hcb:=xF (v:=.int .i64 (zX (xQ m) (idxV m))) (o:=.cells #[.int .i64 (zX (xQ m) (idxV m))] 73) (hB2.out.trans (hbk.out.mono hB2.out.size)) (show w.heap.size<=S+1 by have:=hS.out;omega);have e9:qM m=(-1,zX (xQ m) (idxV m)):=where_head (by rw[hhd,<-yT];generalize zX (xQ m) (idxV m)=Q at hX ⊢;unfold zX;rw[if_neg hX]) hX;simp[Leaves,settle,results,Tryz.results12,go_sem];rw[hca,e9];exact⟨_,rfl,rfl,hcb⟩
 . have e1:Hid (qM m=(-1,qI m)):=zh (by
    have hh:headV m=qI m:=(by unfold headV zX;rw[if_neg hc])
    unfold qM;rw[hh,if_neg hc])
   have hb:(qI m !=0)=true:=(by simp[hc])
   have b5:∀v,Hid (Below w.heap.size w (w2.setCell ⟨S+1,0,none⟩ v)):=λv=>zh (hB2.out.trans (Below.setAt (by have:=hS.out;omega)));have hca:∀v:Value,(w2.setCell ⟨S+1,0,none⟩ v).cell? ⟨S+1,0,none⟩=some v:=λv=>xK r0;generalize qI m=K at e1 hb ⊢;clear hc;go_wp2;replace e1:=e1.out;replace b5:=(b5 (.int .i64 K)).out;replace hca:=hca (.int .i64 K);simp[bodyPostD,Leaves,settle,results,Tryz.results12,go_sem,hca];rw[e1];exact⟨⟨rfl,rfl⟩,b5⟩
end
end Go.Proofs.YtacohbllbjgdgaaGreatDoor
