/- The reference: are lists of numbers alike? -/
import Derived.Test.YtacohbllbjgdgaaGreatDoorOa
import Derived.Test.YtacohbllbjgdgaaGreatDoorRd
import Derived.Deep.AppendLies
import Derived.Laws.MakeOwn
import Derived.Laws.AppendOwn
import Derived.OwnWalk
import Derived.KernelRfl
import Derived.Test.YtacohbllbjgdgaaGreatDoorMh
import Derived.RegionTactic
import Derived.BigRegion
import Derived.Deep.Cut
import Derived.Deep.CutRange
import Derived.Deep.RegionHeld3
import Derived.Test.YtacohbllbjgdgaaGreatDoorRows
import Derived.ProofKit
import Derived.LaidMore
import Derived.OpenShut
import Derived.MakeChecks
import Derived.LaidLaws
import Derived.Lib.LaidU8T
import Derived.Lay
set_option linter.all false
set_option maxRecDepth 100000
set_option maxHeartbeats 2000000
namespace Go.Proofs.YtacohbllbjgdgaaGreatDoor
open Go.RowKit
theorem IntsIn.drewN{w:World}{a:Option Addr}{l:List Int}(h:IntsIn w a l)(n:Nat):IntsIn (w.drewN n) a l:=h.below (Go.below_drewN (Below.refl _ _) n)
theorem take_eq_step{α:Type}{l l':List α}{i:Nat}{x y:α}(hx:l[i]? =some x)(hy:l'[i]? =some y)(h:l.take i=l'.take i):(x=y->l.take (i+1)=l'.take (i+1))/\(¬x=y->¬l=l'):=by
 constructor
 . intro e;rw[List.take_add_one,List.take_add_one,hx,hy,h,e]
 . intro e e2;subst e2;rw[hx]at hy;exact e (Option.some.inj hy)
theorem vS(l l':List Int)(a a':Option Addr)(c c':Nat)(w:World)(h:IntsIn w a l)(h':IntsIn w a' l'):Calls Tryz.prog 37 #[.slice a l.length c,.slice a' l'.length c'] w λe w'=>e=.returned (.bool (decide (l=l')))/\∃m,w'=w.drewN m:=by
 obtain⟨N,hN⟩:∃N,l.length=N:=⟨_,rfl⟩
 obtain⟨N',hN'⟩:∃N,l'.length=N:=⟨_,rfl⟩
 have hl:=h.1;have hl':=h'.1;have HI:=zh h;have HI':=zh h';clear h h';rw[hN]at hl ⊢;rw[hN']at hl' ⊢;go_enter Tryz.func37,Tryz.ntmps37
 by_cases hne:N=N'
 . subst hne;go_wp2_with fail;go_loopw [5] (λvi wr=>∃(i m:Nat),i<=N/\vi=.int .i64 i/\Hid (wr=w.drewN m)/\Hid (l.take i=l'.take i)) (λvi _=>N-(intOf vi).toNat)
   case atStart=>exact⟨0,0,Nat.zero_le _,rfl,zh rfl,zh rfl⟩
   case round=>
    obtain⟨i,m,hi,rfl,hwr,ha⟩:=hrel
    by_cases hlt:i<N
    . obtain⟨x,hx⟩:∃x,l[i]? =some x:=⟨_,List.getElem?_eq_getElem (by omega)⟩
      obtain⟨y,hy⟩:∃x,l'[i]? =some x:=⟨_,List.getElem?_eq_getElem (by omega)⟩
      have hi1:IntsIn wr a l:=(by rw[hwr.out];exact HI.out.drewN m)
      have hi2:IntsIn wr a' l':=(by rw[hwr.out];exact HI'.out.drewN m)
      obtain⟨b,o,rfl,hc⟩:=hi1.cell hx;obtain⟨b',o',rfl,hc'⟩:=hi2.cell hy;have hn:=zh (take_eq_step hx hy ha.out);clear hx hy ha hi1 hi2
      by_cases hxy:x=y
      . have hn2:=zh (hn.out.1 hxy);subst hxy;clear hn;go_wp2_with fail
        go_quiet (fail)
        go_wp2;exact⟨⟨i+1,m+nq,by omega,by simp,zh (by rw[hwr.out,World.drewN_drewN]),hn2⟩,by simp[intOf];omega⟩
      . have hn2:=zh (hn.out.2 hxy);have q:(x !=y)=true:=(by simp[hxy])
        clear hn;go_wp2_with fail
        go_quiet (fail)
        go_wp2;go_ret;exact⟨by rw[decide_eq_false hn2.out];rfl,m+nq,by rw[hwr.out,World.drewN_drewN]⟩
    . have hiN:i=N:=(by omega)
      have hv:l=l':=by
       have:=ha.out
       rwa [List.take_of_length_le (by omega),List.take_of_length_le (by omega)]at this
      clear ha;go_wp2;go_ret;exact⟨by rw[decide_eq_true hv];rfl,m,hwr.out⟩
 . have hv:¬l=l':=λe=>hne (by rw[<-hN,<-hN',e]);have q:((N:Int) !=(N':Int))=true:=(by simp;omega)
   go_wp2;go_ret;exact⟨by rw[decide_eq_false hv];rfl,0,rfl⟩
def AllC (l:Il):Prop:=∀(ao:Option Addr) (c:Nat) (w:World),l.len<=9223372036854775807->IlIn w ao 0 l->
 Calls Tryz.prog 63 #[.slice ao l.len c] w λe w'=>e=.returned (.bool (qA l))/\Below w.heap.size w w'
theorem all_step(l:Il)(hs:Sub AllC l):AllC l:=by
 intro ao c w hl hw;obtain⟨N,hN⟩:∃N,l.len=N:=⟨_,rfl⟩
 rw[hN]at hl ⊢;go_enter Tryz.func63,Tryz.ntmps63;go_wp2_with fail;go_loopw [3] (λvi wr=>∃(i:Nat) (r:Il),vi=.int .i64 i/\i+r.len=N/\Hid (Below w.heap.size w wr)/\Hid (IlIn wr ao i r)/\Hid (Sub AllC r)/\Hid (qA l=qA r)) (λvi _=>N-(intOf vi).toNat)
 case atStart=>exact⟨0,l,rfl,by omega,zh (Below.refl _ _),zh hw,zh hs,zh rfl⟩
 case round=>
  obtain⟨i,r,rfl,hi,hb,hr,hsub,hc⟩:=hrel;cases r with
  |nil=>
    have hiN:i=N:=(by simpa[Il.len]using hi)
    subst hiN;go_wp2;go_ret;exact⟨by rw[hc.out];rfl,hb.out⟩
  |cons op x y n ls body els rest=>
    have hlen:i+(rest.len+1)=N:=hi;have hlt:i<N:=(by omega)
    obtain⟨b,o,a4,k4,a5,k5,a6,k6,rfl,hh,hrest⟩:=hr.out.head;obtain⟨c0,c1,c2,c3,c4,c5,c6,i4,l5,i5,l6,i6⟩:=hh;have hr2:=zh hrest;have hi4:=zh i4;have hi5:=zh i5;have hi6:=zh i6;have hcb:=λw h=>zh (hsub.out.1 a5 k5 w l5 h);have hce:=λw h=>zh (hsub.out.2.1 a6 k6 w l6 h);have hsr:=zh hsub.out.2.2;have hc2:Hid (qA l=(zC op x y n ls body.len els.len&&(qA body&&(qA els&&qA rest)))):=zh (by rw[hc.out];rfl);clear hr hrest i4 i5 i6 hi hsub hc;go_wp2_with fail;refine(one_any op x y n ls body.len els.len a4 k4 a5 k5 a6 k6 _ hi4.out l5 l6).mono ?_;rintro e w2 ⟨rfl,b2⟩;have d5:=zA b2 _ _ c5;have d6:=zA b2 _ _ c6;have B2:=zh b2;clear b2 c0 c1 c2 c3 c4 c5 c6;cases hW:zC op x y n ls body.len els.len
    . rw[hW,Bool.false_and]at hc2;have hfin:=hb.out.trans (B2.out.mono hb.out.size);go_wp2;go_ret;exact⟨by rw[hc2.out];rfl,hfin⟩
    rw[hW,Bool.true_and]at hc2;go_wp2_with fail;refine(hcb _ (hi5.out.below B2.out)).out.mono ?_;rintro e w3 ⟨rfl,b3⟩;have e6:=zA b3 _ _ d6;have B3:=zh (B2.out.trans (b3.mono B2.out.size));clear b3 d5 d6 B2;cases hX:qA body
    . rw[hX,Bool.false_and]at hc2;have hfin:=hb.out.trans (B3.out.mono hb.out.size);go_wp2;go_ret;exact⟨by rw[hc2.out];rfl,hfin⟩
    rw[hX,Bool.true_and]at hc2;go_wp2_with fail;refine(hce _ (hi6.out.below B3.out)).out.mono ?_;rintro e w4 ⟨rfl,b4⟩;have B4:=zh (B3.out.trans (b4.mono B3.out.size));clear b4 e6 B3;have hfin:=zh (hb.out.trans (B4.out.mono hb.out.size));cases hY:qA els
    . rw[hY,Bool.false_and]at hc2;go_wp2;go_ret;exact⟨by rw[hc2.out];rfl,hfin.out⟩
    rw[hY,Bool.true_and]at hc2;go_wp2
    go_roundw
    case rel=>exact⟨i+1,rest,by simp,by omega,hfin,zh (hr2.out.below B4.out),hsr,hc2⟩
    case measure=>simp[intOf];omega
theorem all_any(l:Il):AllC l:=Il.each all_step l
theorem len_nil{l:Il}(h:l.len=0):l=.nil:=by
 cases l with
 |nil=>rfl
 |cons=>simp[Il.len]at h
theorem beg1_eq(op x y n:Int)(ls:List Int)(body els:Il)(hop:op=65\/op=66\/op=35):beg1 ⟨op,x,y,n,ls,body,els⟩=zC op x y n ls body.len els.len:=by
 have ho:(op==65||(op==66||op==35))=true:=by rcases hop with rfl |rfl |rfl<;>rfl
 show((op==65||(op==66||op==35))&&(zC op x y n ls body.len els.len&&(qA body&&(qA els&&true))))=_
 rw[ho,Bool.true_and];cases hW:zC op x y n ls body.len els.len
 . rfl
 have hz:body.len=0/\els.len=0:=by
  rcases hop with rfl |rfl |rfl
  . have e:zG 65=9:=(by decide)
    simp[zC,e]at hW;omega
  . have e:zG 66=9:=(by decide)
    simp[zC,e]at hW;omega
  . have e:zG 35=6:=(by decide)
    simp[zC,e]at hW;omega
 rw[len_nil hz.1,len_nil hz.2];rfl
theorem constant_any(op x y n:Int)(ls:List Int)(body els:Il)(a4:Option Addr)(k4:Nat)(a5:Option Addr)(k5:Nat)(a6:Option Addr)(k6:Nat)(w:World)(HI0:IntsIn w a4 ls)(l5:body.len<=9223372036854775807)(l6:els.len<=9223372036854775807):Calls Tryz.prog 64 #[.agg #[.int .i64 op,.int .i64 x,.int .i64 y,.int .i64 n,.slice a4 ls.length k4,.slice a5 body.len k5,.slice a6 els.len k6]] w λe w'=>e=.returned (.bool (beg1 ⟨op,x,y,n,ls,body,els⟩))/\Below w.heap.size w w':=by
 have hB:Below w.heap.size w (w.alloc (.cells #[.int .i64 op,.int .i64 x,.int .i64 y,.int .i64 n,.slice a4 ls.length k4,.slice a5 body.len k5,.slice a6 els.len k6] 49)):=(Below.refl _ _).alloc (Nat.le_refl _) _;have HI:=HI0.below hB;have l4:=HI0.1;clear HI0
 by_cases hop:op=65\/op=66\/op=35
 . have hv:=beg1_eq op x y n ls body els hop;rw[hv];clear hv;have HB:=zh hB;clear hB;go_enter Tryz.func64,Tryz.ntmps64
   rcases hop with rfl |rfl |rfl
   all_goals(
    go_wp2_with fail;refine(one_any _ x y n ls body.len els.len a4 k4 a5 k5 a6 k6 _ HI l5 l6).mono ?_;rintro e w2 ⟨rfl,b2⟩;have hfin:=HB.out.trans (b2.mono HB.out.size);clear b2;go_wp2;go_ret;exact⟨rfl,hfin⟩)
 . have q1:(op==65)=false:=(by simp;omega)
   have q2:(op==66)=false:=(by simp;omega)
   have q3:(op==35)=false:=(by simp;omega)
   have hv:beg1 ⟨op,x,y,n,ls,body,els⟩=false:=by
    show((op==65||(op==66||op==35))&&_)=false
    rw[q1,q2,q3];rfl
   go_enter Tryz.func64,Tryz.ntmps64;go_wp2;go_ret;exact⟨by rw[hv];rfl,hB⟩
def zero7:Array Value:= #[.int .i64 0,.int .i64 0,.int .i64 0,.int .i64 0,.slice none 0 0,.slice none 0 0,.slice none 0 0]
theorem info45:(Tryz.prog.info? 49).map (λi=>(i.zero,i.size,i.bytes))=some (some (.agg zero7),7,104):=by kernel_rfl
theorem info49:(Tryz.prog.info? 53).map (λi=>(i.zero,i.size,i.bytes))=some (some (.agg #[.int .i64 0,.slice none 0 0,.slice none 0 0]),3,56):=by kernel_rfl
def ilEq:Il->Il->Bool
 |.nil,.nil=>true
 |.cons op x y n ls b e r,.cons op' x' y' n' ls' b' e' r'=>op==op'&&(x==x'&&(y==y'&&(n==n'&&(decide (ls=ls')&&(ilEq b b'&&(ilEq e e'&&ilEq r r'))))))
 |.nil,.cons _ _ _ _ _ _ _ _=>false
 |.cons _ _ _ _ _ _ _ _,.nil=>false
theorem ilEq_self:∀l,ilEq l l=true
 |.nil=>rfl
 |.cons op x y n ls b e r=>by
   simp only[ilEq,ilEq_self b,ilEq_self e,ilEq_self r,beq_self_eq_true,decide_true,Bool.and_self]
theorem ilEq_len:∀l l',l.len≠l'.len->ilEq l l'=false
 |.nil,.nil,h=>absurd rfl h
 |.cons op x y n ls b e r,.cons op' x' y' n' ls' b' e' r',h=>by
   have hr:r.len≠r'.len:=λe=>h (by simp[Il.len,e]);simp only[ilEq,ilEq_len r r' hr,Bool.and_false]
 |.nil,.cons _ _ _ _ _ _ _ _,_=>rfl
 |.cons _ _ _ _ _ _ _ _,.nil,_=>rfl
def Box (w:World) (p:Nat) (vs:Array Value):Prop:=∀j v,vs[j]? =some v->w.cell? ⟨p,j,none⟩=some v
theorem Box.keep{w w':World}{p:Nat}{vs:Array Value}(f:Keeps w w')(h:Box w p vs):Box w' p vs:=λj v e=>f _ _ (h j v e)
theorem yH(w:World):Keeps w w.drew:=λ_ _ h=>h
theorem box_new(w:World)(vs:Array Value)(t:TypeId):Box (w.alloc (.cells vs t)) w.heap.size vs:=λj v e=>(World.cell?_alloc_at _ _ _ j rfl).trans e
theorem box_new2(w:World)(o:Obj)(vs:Array Value)(t:TypeId):Box ((w.alloc o).alloc (.cells vs t)) (w.heap.size+1) vs:=by have:=box_new (w.alloc o) vs t;simpa using this
theorem vX(w:World)(o:Obj):Keeps w (w.alloc o):=zA ((Below.refl _ _).alloc (Nat.le_refl _) _)
def InstrsC (l:Il):Prop:=∀(l':Il) (ao ao':Option Addr) (c c':Nat) (w:World),l.len<=9223372036854775807->l'.len<=9223372036854775807->IlIn w ao 0 l->IlIn w ao' 0 l'->
 Calls Tryz.prog 38 #[.slice ao l.len c,.slice ao' l'.len c'] w λe w'=>e=.returned (.bool (ilEq l l'))/\Below w.heap.size w w'
theorem instrs_step(l:Il)(hs:Sub InstrsC l):InstrsC l:=by
 intro l' ao ao' c c' w hl hl' hw hw';obtain⟨N,hN⟩:∃N,l.len=N:=⟨_,rfl⟩
 obtain⟨N',hN'⟩:∃N,l'.len=N:=⟨_,rfl⟩
 rw[hN]at hl ⊢;rw[hN']at hl' ⊢;go_enter Tryz.func38,Tryz.ntmps38
 by_cases hne:N=N'
 . subst hne;go_wp2_with fail;go_loopw [5] (λvi wr=>∃(i:Nat) (r r':Il),vi=.int .i64 i/\i+r.len=N/\i+r'.len=N/\Hid (Below w.heap.size w wr)/\Hid (IlIn wr ao i r)/\Hid (IlIn wr ao' i r')/\Hid (Sub InstrsC r)/\Hid (ilEq l l'=ilEq r r')) (λvi _=>N-(intOf vi).toNat)
   case atStart=>exact⟨0,l,l',rfl,by omega,by omega,zh (Below.refl _ _),zh hw,zh hw',zh hs,zh rfl⟩
   case round=>
    obtain⟨i,r,r',rfl,hi,hi',hb,hr,hr',hsub,hc⟩:=hrel;cases r with
    |nil=>
      have hiN:i=N:=(by simpa[Il.len]using hi)
      cases r' with
      |cons=>simp[Il.len]at hi';omega
      |nil=>subst hiN;go_wp2;go_ret;exact⟨by rw[hc.out];rfl,hb.out⟩
    |cons op x y n ls body els rest=>
      cases r' with
      |nil=>have h1:i+(rest.len+1)=N:=hi;have h2:i+0=N:=hi';omega
      |cons op' x' y' n' ls' body' els' rest'=>
        have hlen:i+(rest.len+1)=N:=hi;have hlen':i+(rest'.len+1)=N:=hi';have hlt:i<N:=(by omega)
        obtain⟨b,o,a4,k4,a5,k5,a6,k6,rfl,hh,hrest⟩:=hr.out.head;obtain⟨c0,c1,c2,c3,c4,c5,c6,i4,l5,i5,l6,i6⟩:=hh;obtain⟨b',o',a4',k4',a5',k5',a6',k6',rfl,hh',hrest'⟩:=hr'.out.head;obtain⟨d0,d1,d2,d3,d4,d5,d6,j4,m5,j5,m6,j6⟩:=hh';have hr2:=zh hrest;have hr2':=zh hrest';have hi4:=zh i4;have hi5:=zh i5;have hi6:=zh i6;have hj4:=zh j4;have hj5:=zh j5;have hj6:=zh j6;clear hr hr' hrest hrest' i4 i5 i6 j4 j5 j6;have g0:=World.new_ne wr _ c0;have g0':=World.new_ne wr _ d0
        go_upto_region 6 with fail
        go_cut [6,7] from 13 to 76 (λs6 s7 wx=>∃p q,s6=.pointer (some ⟨p,0,none⟩)/\s7=.pointer (some ⟨q,0,none⟩)/\Hid (Box wx p #[.int .i64 op,.int .i64 x,.int .i64 y,.int .i64 n,.slice a4 ls.length k4,.slice a5 body.len k5,.slice a6 els.len k6])/\
         Hid (Box wx q #[.int .i64 op',.int .i64 x',.int .i64 y',.int .i64 n',.slice a4' ls'.length k4',.slice a5' body'.len k5',.slice a6' els'.len k6'])/\Hid (Below wr.heap.size wr wx))
        case first=>
         go_region_held3 (λw'=>w'.cell? ⟨b,o+i*7,none⟩=some (.int .i64 op)/\w'.cell? ⟨b,o+i*7+1,none⟩=some (.int .i64 x)/\w'.cell? ⟨b,o+i*7+2,none⟩=some (.int .i64 y)/\w'.cell? ⟨b,o+i*7+3,none⟩=some (.int .i64 n)/\w'.cell? ⟨b,o+i*7+4,none⟩=some (.slice a4 ls.length k4)/\w'.cell? ⟨b,o+i*7+5,none⟩=some (.slice a5 body.len k5)/\w'.cell? ⟨b,o+i*7+6,none⟩=some (.slice a6 els.len k6)/\w'.cell? ⟨b',o'+i*7,none⟩=some (.int .i64 op')/\w'.cell? ⟨b',o'+i*7+1,none⟩=some (.int .i64 x')/\w'.cell? ⟨b',o'+i*7+2,none⟩=some (.int .i64 y')/\w'.cell? ⟨b',o'+i*7+3,none⟩=some (.int .i64 n')/\w'.cell? ⟨b',o'+i*7+4,none⟩=some (.slice a4' ls'.length k4')/\w'.cell? ⟨b',o'+i*7+5,none⟩=some (.slice a5' body'.len k5')/\w'.cell? ⟨b',o'+i*7+6,none⟩=some (.slice a6' els'.len k6')) (go_keep) (fail)
         all_goals go_wp2_with fail
         all_goals go_meet
         . exact⟨_,_,rfl,rfl,zh (((box_new wr _ _).keep (vX _ _)).keep (yH _)),zh ((box_new2 wr _ _ _).keep (yH _)),zh (((Below.refl _ _).alloc (Nat.le_refl _) _).alloc (by simp) _).drew⟩
         . exact⟨_,_,rfl,rfl,zh ((box_new2 wr _ _ _).keep (yH _)),zh (((box_new wr _ _).keep (vX _ _)).keep (yH _)),zh (((Below.refl _ _).alloc (Nat.le_refl _) _).alloc (by simp) _).drew⟩
        case rest=>
         obtain⟨p,q,rfl,rfl,hp,hq,hbx⟩:=hcut;clear c0 c1 c2 c3 c4 c5 c6 d0 d1 d2 d3 d4 d5 d6 g0 g0';have p0:wc.cell? ⟨p,0,none⟩=some (.int .i64 op):=hp.out 0 _ rfl;have p1:wc.cell? ⟨p,1,none⟩=some (.int .i64 x):=hp.out 1 _ rfl;have p2:wc.cell? ⟨p,2,none⟩=some (.int .i64 y):=hp.out 2 _ rfl;have p3:wc.cell? ⟨p,3,none⟩=some (.int .i64 n):=hp.out 3 _ rfl;have p4:wc.cell? ⟨p,4,none⟩=some (.slice a4 ls.length k4):=hp.out 4 _ rfl;have p5:wc.cell? ⟨p,5,none⟩=some (.slice a5 body.len k5):=hp.out 5 _ rfl;have p6:wc.cell? ⟨p,6,none⟩=some (.slice a6 els.len k6):=hp.out 6 _ rfl;have q0:wc.cell? ⟨q,0,none⟩=some (.int .i64 op'):=hq.out 0 _ rfl;have q1:wc.cell? ⟨q,1,none⟩=some (.int .i64 x'):=hq.out 1 _ rfl;have q2:wc.cell? ⟨q,2,none⟩=some (.int .i64 y'):=hq.out 2 _ rfl;have q3:wc.cell? ⟨q,3,none⟩=some (.int .i64 n'):=hq.out 3 _ rfl;have q4:wc.cell? ⟨q,4,none⟩=some (.slice a4' ls'.length k4'):=hq.out 4 _ rfl;have q5:wc.cell? ⟨q,5,none⟩=some (.slice a5' body'.len k5'):=hq.out 5 _ rfl;have q6:wc.cell? ⟨q,6,none⟩=some (.slice a6' els'.len k6'):=hq.out 6 _ rfl;have hB:=zh (hb.out.trans (hbx.out.mono hb.out.size))
         by_cases h0:op=op'
         . subst h0
           by_cases h1:x=x'
           . subst h1
             by_cases h2:y=y'
             . subst h2
               by_cases h3:n=n'
               . subst h3;go_wp2_with fail;refine(vS ls ls' a4 a4' k4 k4' _ (hi4.out.below hbx.out) (hj4.out.below hbx.out)).mono ?_;rintro e w2 ⟨rfl,mm,hmm⟩;have b2:Below wc.heap.size wc w2:=(by rw[hmm];exact Go.below_drewN (Below.refl _ _) mm)
                 have hbx2:=zh (hbx.out.trans (b2.mono hbx.out.size));have hB2:=zh (hb.out.trans (hbx2.out.mono hb.out.size));have e5:=zA b2 _ _ p5;have e6:=zA b2 _ _ p6;have f5:=zA b2 _ _ q5;have f6:=zA b2 _ _ q6;clear b2 hmm
                 by_cases h4:ls=ls'
                 . rw[decide_eq_true h4];go_wp2_with fail;refine(hsub.out.1 body' a5 a5' k5 k5' _ l5 m5 (hi5.out.below hbx2.out) (hj5.out.below hbx2.out)).mono ?_;rintro e w3 ⟨rfl,b3⟩;have hbx3:=zh (hbx2.out.trans (b3.mono hbx2.out.size));have hB3:=zh (hb.out.trans (hbx3.out.mono hb.out.size));have g6:=zA b3 _ _ e6;have i6:=zA b3 _ _ f6;clear b3 e5 e6 f5 f6;cases hX:ilEq body body'
                   . have hv:ilEq l l'=false:=(by rw[hc.out];simp[ilEq,hX])
                     go_wp2;go_ret;exact⟨by rw[hv];rfl,hB3.out⟩
                   . go_wp2_with fail;refine(hsub.out.2.1 els' a6 a6' k6 k6' _ l6 m6 (hi6.out.below hbx3.out) (hj6.out.below hbx3.out)).mono ?_;rintro e w4 ⟨rfl,b4⟩;have hbx4:=zh (hbx3.out.trans (b4.mono hbx3.out.size));have hB4:=zh (hb.out.trans (hbx4.out.mono hb.out.size));clear b4 g6 i6;cases hY:ilEq els els'
                     . have hv:ilEq l l'=false:=(by rw[hc.out];simp[ilEq,hY])
                       go_wp2;go_ret;exact⟨by rw[hv];rfl,hB4.out⟩
                     . have hv:=zh (show ilEq l l'=ilEq rest rest' by rw[hc.out];simp[ilEq,hX,hY,h4]);have hsr:=zh hsub.out.2.2;clear hc hsub;go_wp2;exact⟨⟨i+1,rest,rest',by simp,by omega,by omega,hB4,zh (hr2.out.below hbx4.out),zh (hr2'.out.below hbx4.out),hsr,hv⟩,by simp[intOf];omega⟩
                 . have hv:ilEq l l'=false:=(by rw[hc.out];simp[ilEq,h4])
                   rw[decide_eq_false h4];go_wp2;go_ret;exact⟨by rw[hv];rfl,hB2.out⟩
               . have z3:(n !=n')=true:=(by simp[h3])
                 have hv:ilEq l l'=false:=(by rw[hc.out];simp[ilEq,h3])
                 go_wp2;go_ret;exact⟨by rw[hv];rfl,hB.out⟩
             . have z2:(y !=y')=true:=(by simp[h2])
               have hv:ilEq l l'=false:=(by rw[hc.out];simp[ilEq,h2])
               go_wp2;go_ret;exact⟨by rw[hv];rfl,hB.out⟩
           . have z1:(x !=x')=true:=(by simp[h1])
             have hv:ilEq l l'=false:=(by rw[hc.out];simp[ilEq,h1])
             go_wp2;go_ret;exact⟨by rw[hv];rfl,hB.out⟩
         . have z0:(op !=op')=true:=(by simp[h0])
           have hv:ilEq l l'=false:=(by rw[hc.out];simp[ilEq,h0])
           go_wp2;go_ret;exact⟨by rw[hv];rfl,hB.out⟩
 . have hv:ilEq l l'=false:=ilEq_len l l' (by rw[hN,hN'];exact hne);have q:((N:Int) !=(N':Int))=true:=(by simp;omega)
   go_wp2;go_ret;exact⟨by rw[hv];rfl,Below.refl _ _⟩
theorem instrs_any(l:Il):InstrsC l:=Il.each instrs_step l
theorem inv0{w:World}{a:Option Addr}{l:Il}(h:l=.nil\/∃b o,a=some ⟨b,o,none⟩/\IlAt w b o l):IlIn w a 0 l:=by simpa[IlIn]using h
end Go.Proofs.YtacohbllbjgdgaaGreatDoor
namespace Go.Proofs.YtacohbllbjgdgaaGreatDoor
open Go.ChangeShapes Go.WideShapes Go.ChangeAt Go.RowKit
def jQ:List (String×DataW Unit):=[("unicode/utf8.acceptRanges",Rows.laid_unicode_utf8_acceptRanges),("unicode/utf8.first",Rows.laid_unicode_utf8_first)]
theorem first_data:(Rows.laid_unicode_utf8_first:DataW Unit)=Lib.firstData:=by kernel_rfl
theorem accept_data:(Rows.laid_unicode_utf8_acceptRanges:DataW Unit)=Lib.acceptData:=by kernel_rfl
theorem tab_of_laid{W:World}(h:laidMetH Tryz.prog jQ W):TabU W:=by rw[MakeChecks.laidMetH_plain _ _ _ (by kernel_rfl)]at h;have h1:=Lib.laidMet.reads h (List.mem_cons_self ..);have h2:=Lib.laidMet.reads h (List.mem_cons_of_mem _ (List.mem_cons_self ..));rw[accept_data]at h1;rw[first_data]at h2;exact utf8Tabs_of_readsT (U8Types.of196 Tryz.laysValid) ⟨by kernel_rfl,by kernel_rfl,by kernel_rfl,by kernel_rfl,by kernel_rfl,by kernel_rfl,by kernel_rfl⟩ h2 h1
theorem door_met(os:Os)(args:Array Value):laidMetH Tryz.prog jQ ((World.laidAll Tryz.prog os jQ).forCall (λ_ _=>0) ⟨#[],args,[]⟩).memory:=by rw[MakeChecks.laidMetH_plain _ _ _ (by kernel_rfl)];exact laidMet_laidAll _ (by kernel_rfl) (by kernel_rfl)
end Go.Proofs.YtacohbllbjgdgaaGreatDoor
