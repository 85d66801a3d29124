/- The checker: the types of its functions. -/
import Derived.Test.YtacohbllbjgdgaaGreatDoorXr
import Derived.Test.YtacohbllbjgdgaaGreatDoorWd
import Derived.Test.YtacohbllbjgdgaaGreatDoorZr
set_option linter.all false
set_option maxRecDepth 100000
set_option maxHeartbeats 8000000
namespace Go.Proofs.YtacohbllbjgdgaaGreatDoor
open Go.RowKit
theorem info44v:(Tryz.prog.info? 44).map (λi=>(i.zero,i.size,i.bytes))=some (some (.agg #[.slice none 0 0,.slice none 0 0]),2,48):=by kernel_rfl
theorem info44v_parts:∃i,Tryz.prog.info? 44=some i/\i.zero=some (.agg #[.slice none 0 0,.slice none 0 0])/\i.size=2/\i.bytes=48:=by
 have h:=info44v;cases hi:Tryz.prog.info? 44 with
 |none=>rw[hi]at h;cases h
 |some i=>rw[hi]at h;simp only[Option.map_some,Option.some.injEq,Prod.mk.injEq]at h;exact⟨i,rfl,h.1,h.2.1,h.2.2⟩
def TyCs (w0:World) (cs:List Value) (fs:List (List Int×List Int)):Prop:=cs.length=fs.length*2/\∀i t,fs[i]? =some t->∃pa pc ra rc,cs[i*2]? =some (.slice pa t.1.length pc)/\cs[i*2+1]? =some (.slice ra t.2.length rc)/\IntsIn w0 pa t.1/\IntsIn w0 ra t.2
structure Ck (N c:Nat) (A:MA) (m:Md) (w0 w:World) (fv:Value) (fs:List (List Int×List Int)):Prop where
 b:w.heap[c]? =some (.cells #[(A.v m).v0,(A.v m).v1,(A.v m).v2,(A.v m).v3,(A.v m).v4,(A.v m).v5,(A.v m).v6,(A.v m).v7,(A.v m).v8,(A.v m).v9,fv] 76 (0,0))
 own:∃cs,w.ownsRow N 44 2 fv fs.length cs/\TyCs w0 cs fs
 bw:Below w0.heap.size w0 w
 md:MdA w0 m A
 cN:c<N
 c0:w0.heap.size<=c
 Nw:N<=w.heap.size
theorem Ck.c{N c:Nat}{A:MA}{m:Md}{w0 w:World}{fv:Value}{fs:List (List Int×List Int)}(h:Ck N c A m w0 w fv fs):w.cell? ⟨c,0,none⟩=some (.slice A.a0 m.types.length A.k0)/\w.cell? ⟨c,1,none⟩=some (.slice A.a1 m.imports.length A.k1)/\w.cell? ⟨c,2,none⟩=some (.slice A.a2 m.funcs.length A.k2)/\w.cell? ⟨c,10,none⟩=some fv/\w.frozen? ⟨c,10,none⟩=false:=by
 have:=h.b;refine⟨?_,?_,?_,?_,frozen_of_row w c 10 _ _ this⟩;all_goals rw[cell_of_row w c _ _ _ _ this];rfl
theorem Ck.step{N c:Nat}{A:MA}{m:Md}{w0 w w':World}{fv:Value}{fs:List (List Int×List Int)}(h:Ck N c A m w0 w fv fs)(b:Below w.heap.size w w'):Ck N c A m w0 w' fv fs:=by obtain⟨cs,h1,h2⟩:=h.own;exact⟨(b.block c (lt_of_block h.b)).trans h.b,⟨cs,own_block h1 λg hg=>b.block g (h1.lt g hg).2,h2⟩,h.bw.trans (b.mono h.bw.size),h.md,h.cN,h.c0,Nat.le_trans h.Nw b.size⟩
theorem tyCs_snoc{w0:World}{cs:List Value}{fs:List (List Int×List Int)}(h:TyCs w0 cs fs){t:List Int×List Int}{pa ra:Option Addr}{pc rc:Nat}(j1:IntsIn w0 pa t.1)(j2:IntsIn w0 ra t.2):TyCs w0 (cs++[.slice pa t.1.length pc,.slice ra t.2.length rc]) (fs++[t]):=by
 obtain⟨hl,h⟩:=h;refine⟨by simp[hl];omega,λi u hu=> ?_⟩
 by_cases hi:i<fs.length
 . rw[List.getElem?_append_left hi]at hu;obtain⟨a,b,c,d,e1,e2,e3⟩:=h i u hu;exact⟨a,b,c,d,by rw[List.getElem?_append_left (by omega)];exact e1,by rw[List.getElem?_append_left (by omega)];exact e2,e3⟩
 . have hi2:i=fs.length:=by have:=(List.getElem?_eq_some_iff.1 hu).1;simp at this;omega
   subst hi2;rw[List.getElem?_append_right (Nat.le_refl _),Nat.sub_self]at hu;simp at hu;subst hu;exact⟨pa,pc,ra,rc,by rw[List.getElem?_append_right (by omega),hl,Nat.sub_self];rfl,by rw[List.getElem?_append_right (by omega),hl];simp,j1,j2⟩
section
variable {N c:Nat} {A:MA} {m:Md} {w0 w w':World} {fv:Value} {fs:List (List Int×List Int)}
theorem typeOf_any (h:Ck N c A m w0 w fv fs) {q:Nat} (hq:w.heap[q]? =some (.cells #[.pointer (some ⟨c,0,none⟩)] 74 (0,0))) (hqc:q≠c) (hqN:q<N) (n:Int) (h0:0<=n) (hsz:fs.length<=1099511627775):
 Calls Tryz.prog 50 #[.int .i64 n,.pointer (some ⟨q,0,none⟩)] w λe w'=>
  match m.types[n.toNat]? with
  |some t=>e=.returned (.tuple #[])/\∃fv',Ck N c A m w0 w' fv' (fs++[t])/\w'.heap[q]? =some (.cells #[.pointer (some ⟨c,0,none⟩)] 74 (0,0))
  |none=>e=.panicked (jS 61)/\Below w.heap.size w w':=by
 obtain⟨k,rfl⟩:∃k:Nat,n=k:=⟨n.toNat,by omega⟩
 rw[Int.toNat_natCast];obtain⟨x0,x1,x2,x10,z10⟩:=h.c;have q0:w.cell? ⟨q,0,none⟩=some (.pointer (some ⟨c,0,none⟩)):=(by rw[cell_of_row _ q 0 _ _ _ hq];rfl)
 by_cases hk:k<m.types.length
 . obtain⟨t,ht⟩:∃t,m.types[k]? =some t:=⟨_,List.getElem?_eq_getElem hk⟩
   obtain⟨b0,o0,hA0,⟨pa,pc,c0,j1⟩,⟨ra,rc,c1,j2⟩⟩:=h.md.types.row ht;have g0:=zA h.bw _ _ c0;have g1:=zA h.bw _ _ c1;rw[hA0]at x0;replace hA0:=zh hA0;rw[ht]
   dsimp only
   have hH:=λw=>qB (n:=(k:Int)) (m:=(m.types.length:Int)) (by omega) w;have i0:(0:Int)<=(k:Int):=(by omega)
   have i1:(k:Int)<(m.types.length:Int):=(by omega)
   replace ht:=zh ht;obtain⟨i6,hi6,hz6,hs6,hb6⟩:=info44v_parts;have hwA:Below w.heap.size w (w.drew.alloc (.cells #[.slice pa t.1.length pc,.slice ra t.2.length rc] 44)):=(zB (w:=w) 1).trans (Below.of_alloc w.drew _);have hA:=h.step hwA;obtain⟨cs,hown,htc⟩:=hA.own;have hqA:=(hwA.block q (lt_of_block hq)).trans hq;obtain⟨wA,hwA2⟩:∃wA,wA=w.drew.alloc (.cells #[.slice pa t.1.length pc,.slice ra t.2.length rc] 44):=⟨_,rfl⟩
   rw[<-hwA2]at hA hown hqA
   have fin:∀(g cap:Nat) (w3:World),w3.ownsRow N 44 2 (.slice (some ⟨g,0,none⟩) (fs.length+1) cap) (fs.length+1) (cs++[.slice pa t.1.length pc,.slice ra t.2.length rc])->wA.grownBy w3 fv.ownBlock->N<=g->
    Hid (Ck N c A m w0 (w3.setCell ⟨c,10,none⟩ (.slice (some ⟨g,0,none⟩) (fs.length+1) cap)) (.slice (some ⟨g,0,none⟩) (fs.length+1) cap) (fs++[t])/\(w3.setCell ⟨c,10,none⟩ (.slice (some ⟨g,0,none⟩) (fs.length+1) cap)).heap[q]? =some (.cells #[.pointer (some ⟨c,0,none⟩)] 74 (0,0)))/\
    w3.cell? ⟨c,10,none⟩=some fv/\w3.frozen? ⟨c,10,none⟩=false/\w3.cell? ⟨q,0,none⟩=some (.pointer (some ⟨c,0,none⟩)):=λg cap w3 ho hg hgN=>by
    have hlow:∀b,fv.ownBlock=some b->N<=b:=λb hb=>(hown.lt b hb).1;have hcN:=hA.cN
    have hc1:w3.heap[c]? =some (.cells #[(A.v m).v0,(A.v m).v1,(A.v m).v2,(A.v m).v3,(A.v m).v4,(A.v m).v5,(A.v m).v6,(A.v m).v7,(A.v m).v8,(A.v m).v9,fv] 76 (0,0)):=
     (hg.block c (lt_of_block hA.b) (λe=>by have:=hlow c e.symm;omega)).trans hA.b
    have hq1:=(hg.block q (lt_of_block hqA) (λe=>by have:=hlow q e.symm;omega)).trans hqA;have hb3:Below w0.heap.size w0 w3:=hA.bw.trans (gb_below hg hA.bw.size (λb hb=>by have:=hlow b hb;have:=hA.c0;omega));have hc0:=hA.c0
    refine⟨zh ⟨⟨by rw[heap_setCell_same w3 c 10 _ _ _ hc1];rfl,⟨cs++[.slice pa t.1.length pc,.slice ra t.2.length rc],?_,tyCs_snoc (pc:=pc) (rc:=rc) htc j1 j2⟩,hb3.trans (Below.setAt (by omega)),hA.md,hA.cN,hA.c0,by have:=hA.Nw;have:=hg.size;simp[World.setCell];omega⟩,(Below.heap_setCell _ _ _ _ (show q≠c from hqc)).trans hq1⟩,
     by rw[cell_of_row w3 c 10 _ _ _ hc1];rfl,frozen_of_row w3 c 10 _ _ hc1,by rw[cell_of_row w3 q 0 _ _ _ hq1];rfl⟩
    rw[List.length_append]
    exact own_block ho λb hb=>Below.heap_setCell _ _ _ _ (by
     have:b=g:=(by simpa[Value.ownBlock]using hb.symm)
     show b≠c
     omega)
   have hNw:=h.Nw;obtain⟨fa0,fc0,hfv⟩:=yR hown;rw[hwA2]at fin hown;clear hA hwA hqA hwA2;subst hfv;have y1:(w.alloc (.cells #[.slice pa t.1.length pc,.slice ra t.2.length rc] 44)).cell? ⟨c,10,none⟩=some (.slice fa0 fs.length fc0):=zA (Below.of_alloc w _) _ _ x10;have y2:(w.alloc (.cells #[.slice pa t.1.length pc,.slice ra t.2.length rc] 44)).drew.cell? ⟨c,10,none⟩=some (.slice fa0 fs.length fc0):=y1;have y3:(w.alloc (.cells #[.slice pa t.1.length pc,.slice ra t.2.length rc] 44)).cell? ⟨q,0,none⟩=some (.pointer (some ⟨c,0,none⟩)):=zA (Below.of_alloc w _) _ _ q0;have y4:(w.alloc (.cells #[.slice pa t.1.length pc,.slice ra t.2.length rc] 44)).drew.cell? ⟨q,0,none⟩=some (.pointer (some ⟨c,0,none⟩)):=y3;replace h:=zh h;go_enter Tryz.func50,Tryz.ntmps50;go_wp2_with fail;refine(hH _).mono ?_;rintro e w' ⟨rfl,rfl⟩;go_wp2_with fail
   go_region_law ((
    refine step_append_lies _ rfl _ _ _ rfl N 44 i6 _ 2 48 Tryz.underlying22 hi6 hz6 hs6 hb6 rfl (by omega) (.slice fa0 fs.length fc0) fs.length cs (by rfl) hown ⟨w.drew.heap.size,0,none⟩ 1 1 [.slice pa t.1.length pc,.slice ra t.2.length rc] (by rfl) (by rfl)
     (World.news_of_block (cs:= #[.slice pa t.1.length pc,.slice ra t.2.length rc]) (t:=44) (fr:=(0,0)) (heap_alloc_new _ _)) (by intro u hu;simp only[List.mem_cons,List.mem_nil_iff,or_false]at hu;rcases hu with rfl |rfl<;>rfl)
     (by omega) (by unfold maxLen;omega) (by omega) (by simp;omega) (w.drew.heap.size+1) (by simp) ?_
    intro g cap w3 hown3 hgrow hat hlt3;obtain⟨hfin,u1,u2,u3⟩:=fin g cap w3 hown3 hgrow (hown3.lt g rfl).1))
   all_goals(
    go_wp2_with fail;go_end0;exact⟨rfl,_,hfin.out.1,hfin.out.2⟩)
 . have ht:m.types[k]? =none:=List.getElem?_eq_none (by omega);rw[ht];have hH:=λw=>vA (n:=(k:Int)) (m:=(m.types.length:Int)) (by omega) w;go_enter Tryz.func50,Tryz.ntmps50;go_wp2_with fail;refine(hH _).mono ?_;rintro e w' ⟨rfl,rfl⟩;go_wp2;exact⟨rfl,rfl,Below.refl _ _⟩
end
end Go.Proofs.YtacohbllbjgdgaaGreatDoor
namespace Go.Proofs.YtacohbllbjgdgaaGreatDoor
open Go.RowKit
def tyN (m:Md) (n:Int):List Int×List Int:=m.types.getD n.toNat ([],[])
def fsAt (m:Md) (i:Nat):List (List Int×List Int):=((vD m).take i).map (tyN m)
theorem fsAt_all(m:Md):fsAt m (vD m).length=zY m:=by unfold fsAt;rw[List.take_length];rfl
theorem fsAt_step{m:Md}{i:Nat}{n:Int}(h:(vD m)[i]? =some n):fsAt m (i+1)=fsAt m i++[tyN m n]:=by unfold fsAt;rw[List.take_add_one,h,List.map_append];rfl
theorem fsAt_len{m:Md}{i:Nat}(h:i<=(vD m).length):(fsAt m i).length=i:=by unfold fsAt;rw[List.length_map,List.length_take];omega
def eI (m:Md) (n:Int):Int:=xT n m.types.length
def eTy1 (t:List Int×List Int):Int:=if t.2.length<=1 then 0 else 60
def Tq (c q:Nat) (A:MA) (m:Md) (w0 w:World) (fs:List (List Int×List Int)):Prop:=∃fv,Ck (q+1) c A m w0 w fv fs/\w.heap[q]? =some (.cells #[.pointer (some ⟨c,0,none⟩)] 74 (0,0))
theorem Tq.step{c q:Nat}{A:MA}{m:Md}{w0 w w':World}{fs:List (List Int×List Int)}(h:Tq c q A m w0 w fs)(b:Below w.heap.size w w'):Tq c q A m w0 w' fs:=by obtain⟨fv,h1,h2⟩:=h;exact⟨fv,h1.step b,(b.block q (lt_of_block h2)).trans h2⟩
def endY (c:Nat) (A:MA) (m:Md) (w0:World) (X:Int) (e:Ending) (w':World):Prop:=
 (X=0/\e=.returned (.tuple #[])/\(∃N fv,Ck N c A m w0 w' fv (zY m))\/X≠0/\e=.panicked (jS X))/\Below w0.heap.size w0 w'
section
variable {c:Nat} {A:MA} {m:Md} {w0 w w':World}
theorem types_any(hb:w.heap[c]? =some (.cells #[(A.v m).v0,(A.v m).v1,(A.v m).v2,(A.v m).v3,(A.v m).v4,(A.v m).v5,(A.v m).v6,(A.v m).v7,(A.v m).v8,(A.v m).v9,.slice none 0 0] 76 (0,0)))(hw:Below w0.heap.size w0 w)(hA:MdA w0 m A)(hc0:w0.heap.size<=c)(hok:∀n∈vD m,0<=n)(hsz:m.imports.length+m.funcs.length<=1099511627775):Calls Tryz.prog 26 #[.pointer (some ⟨c,0,none⟩)] w (endY c A m w0 (zX (xQ m) (idxV m))):=by
 generalize hX:zX (xQ m) (idxV m)=X;have hX1:Hid (X=zX (zD eTy1 m.types) (zD (eI m) (vD m))):=zh hX.symm;clear hX;have l0:=hA.types.1;have l1:=hA.imports.1;have l2:=hA.funcs.1;have hcl:=lt_of_block hb;have ha:=Below.of_alloc w (.cells #[.pointer (some ⟨c,0,none⟩)] 74)
 have hT0:Tq c w.heap.size A m w0 (w.alloc (.cells #[.pointer (some ⟨c,0,none⟩)] 74)) (fsAt m 0):=
  ⟨.slice none 0 0,⟨(ha.block c hcl).trans hb,⟨[],by unfold fsAt;exact World.ownsRow_nil _ _ _ _,⟨rfl,λi t ht=>by simp[fsAt]at ht⟩⟩,hw.trans (ha.mono hw.size),hA,by omega,hc0,by simp⟩,heap_alloc_new w _⟩
 obtain⟨w1,hw1⟩:∃w1,w1=w.alloc (.cells #[.pointer (some ⟨c,0,none⟩)] 74):=⟨_,rfl⟩
 obtain⟨q,hq⟩:∃q,q=w.heap.size:=⟨_,rfl⟩
 rw[<-hw1,<-hq]at hT0;have hqc:q≠c:=(by omega)
 go_enter Tryz.func26,Tryz.ntmps26
 go_upto_region 1 with(fail)
 rw[<-hw1];rw[<-hq];clear hw1 hq ha hcl hb hw
 have hTc:∀wr fs,Tq c q A m w0 wr fs->wr.cell? ⟨q,0,none⟩=some (.pointer (some ⟨c,0,none⟩))/\wr.cell? ⟨c,0,none⟩=some (.slice A.a0 m.types.length A.k0)/\wr.cell? ⟨c,1,none⟩=some (.slice A.a1 m.imports.length A.k1)/\wr.cell? ⟨c,2,none⟩=some (.slice A.a2 m.funcs.length A.k2):=λwr fs h=>by
  obtain⟨fv,h1,h2⟩:=h;obtain⟨y0,y1,y2,_,_⟩:=h1.c;exact⟨by rw[cell_of_row _ q 0 _ _ _ h2];rfl,y0,y1,y2⟩
 have hTb:∀wr fs,Tq c q A m w0 wr fs->Below w0.heap.size w0 wr:=λwr fs h=>by
  obtain⟨fv,h1,h2⟩:=h;exact h1.bw
 replace hTb:=zh hTb;obtain⟨q0,y0,y1,y2⟩:=hTc _ _ hT0;replace hTc:=zh hTc;replace hT0:=zh hT0;go_wp2_with fail;go_loopw [15] (λvi wr=>∃i:Nat,vi=.int .i64 i/\i<=m.types.length/\Hid (zD eTy1 m.types=zD eTy1 (m.types.drop i))/\Hid (Tq c q A m w0 wr (fsAt m 0))) (λvi _=>m.types.length-(intOf vi).toNat)
 case atStart=>exact⟨0,rfl,Nat.zero_le _,zh rfl,hT0⟩
 case round=>
  clear hT0 q0 y0 y1 y2;obtain⟨i,rfl,hi,hf,hT⟩:=hrel
  by_cases hlt:i<m.types.length
  . obtain⟨x,hx⟩:∃x,m.types[i]? =some x:=⟨_,List.getElem?_eq_getElem hlt⟩
    obtain⟨b,o,hab,⟨pa,pc,r1,_⟩,⟨ra,rc,r2,_⟩⟩:=hA.types.row hx;have kb:=zA (hTb.out _ _ hT.out);replace r1:wr.cell? ⟨b,o+i*2,none⟩=some (.slice pa x.1.length pc):=kb _ _ r1;replace r2:wr.cell? ⟨b,o+i*2+1,none⟩=some (.slice ra x.2.length rc):=kb _ _ r2;rw[hab];replace hab:=zh hab;have hf1:=hf.out.trans (qE hx);have i0:(0:Int)<=(i:Int):=(by omega)
    have hal:∀o,Hid (Tq c q A m w0 (wr.alloc o) (fsAt m 0)):=λo=>zh (hT.out.step (Below.of_alloc wr o));clear hf hx kb;replace hlt:=zh hlt;have ilt:(i:Int)<(m.types.length:Int):=(by have:=hlt.out;omega)
    by_cases hc:x.2.length<=1
    . have e:eTy1 x=0:=(by unfold eTy1;rw[if_pos hc])
      rw[e,if_pos rfl]at hf1;replace hf1:=zh hf1;have n1:(x.2.length:Int)<=1:=(by omega)
      have n2:decide ((x.2.length:Int)<=1)=true:=decide_eq_true n1;clear hc e;go_wp2_with fail;refine(zJ 60 _).mono ?_;rintro e w' ⟨rfl,rfl⟩;go_wp2
      go_roundw
      case rel=>exact⟨i+1,by simp,by have:=hlt.out;omega,hf1,hal _⟩
      case measure=>simp[intOf];have:=hlt.out;omega
    . have e:eTy1 x=60:=(by unfold eTy1;rw[if_neg hc])
      rw[e,if_neg (by decide)]at hf1;have e2:X=60:=(by rw[hX1.out,hf1];rfl)
      have n1:¬(x.2.length:Int)<=1:=(by omega)
      have n2:decide ((x.2.length:Int)<=1)=false:=decide_eq_false n1;clear hc e hf1;replace e2:=zh e2;go_wp2_with fail;refine(qG 60 _).mono ?_;rintro e w' ⟨rfl,rfl⟩;go_wp2;exact⟨rfl,.inr (by rw[e2.out];exact⟨by decide,rfl⟩),hTb.out _ _ (hal _).out⟩
  . obtain rfl:i=m.types.length:=by omega
    have e1:Hid (X=zD (eI m) ((vD m).drop 0)):=zh (by
     have:=hf.out;rw[List.drop_length]at this;rw[hX1.out,this];rfl)
    clear hf hlt hX1;obtain⟨q0,y0,y1,y2⟩:=hTc.out _ _ hT.out;go_wp2_with fail;go_loopw [32] (λvi wr=>∃i:Nat,vi=.int .i64 i/\i<=m.imports.length/\Hid (X=zD (eI m) ((vD m).drop (i)))/\Hid (Tq c q A m w0 wr (fsAt m (i)))) (λvi _=>m.imports.length-(intOf vi).toNat)
    case atStart=>exact⟨0,rfl,Nat.zero_le _,e1,hT⟩
    case round=>
     clear hT q0 y0 y1 y2 e1;obtain⟨i,rfl,hi,hf,hT⟩:=hrel
     by_cases hlt:i<m.imports.length
     . obtain⟨x,hx⟩:∃x,m.imports[i]? =some x:=⟨_,List.getElem?_eq_getElem hlt⟩
       have hin:(vD m)[i]? =some x.2.2:=idx_imp hx;have hn0:=hok _ (List.mem_of_getElem? hin);have hf1:=hf.out.trans (qE hin);have hst:=fsAt_step hin;have hil:=(List.getElem?_eq_some_iff.1 hin).1;have hfl:=fsAt_len (m:=m) (i:=i) (by omega);rw[idx_len]at hil;obtain⟨b,o,hab,⟨r1,_⟩,⟨r2,_⟩,r3⟩:=hA.imports.row hx;have kb:=zA (hTb.out _ _ hT.out);replace r1:wr.cell? ⟨b,o+i*3,none⟩=some (.string x.1):=kb _ _ r1;replace r2:wr.cell? ⟨b,o+i*3+1,none⟩=some (.string x.2.1):=kb _ _ r2;replace r3:wr.cell? ⟨b,o+i*3+2,none⟩=some (.int .i64 x.2.2):=kb _ _ r3;rw[hab];replace hab:=zh hab;have i0:(0:Int)<=(i:Int):=(by omega)
       have hTo:=λo=>hT.out.step (Below.of_alloc wr o)
       have hca:∀o,Hid (Calls Tryz.prog 50 #[.int .i64 x.2.2,.pointer (some ⟨q,0,none⟩)] (wr.alloc o) λe w'=>
        match m.types[x.2.2.toNat]? with
        |some t=>e=.returned (.tuple #[])/\∃fv',Ck (q+1) c A m w0 w' fv' (fsAt m (i)++[t])/\w'.heap[q]? =some (.cells #[.pointer (some ⟨c,0,none⟩)] 74 (0,0))
        |none=>e=.panicked (jS 61)/\Below (wr.alloc o).heap.size (wr.alloc o) w'):=λo=>by
        obtain⟨fv,h1,h2⟩:=hTo o;exact zh (typeOf_any h1 h2 hqc (Nat.lt_succ_self _) _ hn0 (by omega))
       replace hTo:=zh hTo;clear hf hx kb;replace hin:=zh hin;replace hlt:=zh hlt;have ilt:(i:Int)<(m.imports.length:Int):=(by have:=hlt.out;omega)
       cases ht:m.types[x.2.2.toNat]? with
       |none=>
         rw[ht]at hca
         have e:eI m x.2.2=61:=by unfold eI xT;have:=List.getElem?_eq_none_iff.1 ht;rw[if_neg (by omega)]
         rw[e,if_neg (by decide)]at hf1;replace hf1:=zh hf1;replace ht:=zh ht;clear e hst hT;go_wp2_with fail;refine(hca _).out.mono ?_;rintro e w' ⟨rfl,b2⟩;go_wp2;exact⟨rfl,.inr (by rw[hf1.out];exact⟨by decide,rfl⟩),hTb.out _ _ ((hTo.out _).step b2)⟩
       |some t=>
         rw[ht]at hca
         have e:eI m x.2.2=0:=by unfold eI xT;have:=(List.getElem?_eq_some_iff.1 ht).1;rw[if_pos (by omega)]
         have ht2:tyN m x.2.2=t:=by unfold tyN;rw[List.getD_eq_getElem?_getD,ht];rfl
         rw[ht2]at hst;rw[e,if_pos rfl]at hf1;replace hf1:=zh hf1;replace hst:=zh hst;replace ht:=zh ht;clear e ht2 hT;go_wp2_with fail;refine(hca _).out.mono ?_;rintro e w' ⟨rfl,fv',h5,h6⟩;have hT5:Hid (Tq c q A m w0 w' (fsAt m (i+1))):=zh ⟨fv',by rw[hst.out];exact h5,h6⟩;clear h5 h6;go_wp2
         go_roundw
         case rel=>exact⟨i+1,by simp,by have:=hlt.out;omega,hf1,hT5⟩
         case measure=>simp[intOf];have:=hlt.out;omega
     . obtain rfl:i=m.imports.length:=by omega
       have e2:Hid (X=zD (eI m) ((vD m).drop (m.imports.length+0))):=hf;obtain⟨q0,y0,y1,y2⟩:=hTc.out _ _ hT.out;clear hf hlt;go_wp2_with fail;go_loopw [47] (λvi wr=>∃i:Nat,vi=.int .i64 i/\i<=m.funcs.length/\Hid (X=zD (eI m) ((vD m).drop (m.imports.length+i)))/\Hid (Tq c q A m w0 wr (fsAt m (m.imports.length+i)))) (λvi _=>m.funcs.length-(intOf vi).toNat)
       case atStart=>exact⟨0,rfl,Nat.zero_le _,e2,hT⟩
       case round=>
        clear hT q0 y0 y1 y2 e2;obtain⟨i,rfl,hi,hf,hT⟩:=hrel
        by_cases hlt:i<m.funcs.length
        . obtain⟨x,hx⟩:∃x,m.funcs[i]? =some x:=⟨_,List.getElem?_eq_getElem hlt⟩
          have hin:(vD m)[m.imports.length+i]? =some x.1:=idx_fun hx;have hn0:=hok _ (List.mem_of_getElem? hin);have hf1:=hf.out.trans (qE hin);have hst:=fsAt_step hin;have hil:=(List.getElem?_eq_some_iff.1 hin).1;have hfl:=fsAt_len (m:=m) (i:=m.imports.length+i) (by omega);rw[idx_len]at hil;obtain⟨b,o,hab,r1,⟨la,lk,r2,_⟩,⟨ba,bk,r3,_,_⟩⟩:=hA.funcs.row hx;have kb:=zA (hTb.out _ _ hT.out);replace r1:wr.cell? ⟨b,o+i*3,none⟩=some (.int .i64 x.1):=kb _ _ r1;replace r2:wr.cell? ⟨b,o+i*3+1,none⟩=some (.slice la x.2.1.length lk):=kb _ _ r2;replace r3:wr.cell? ⟨b,o+i*3+2,none⟩=some (.slice ba x.2.2.len bk):=kb _ _ r3;rw[hab];replace hab:=zh hab;have i0:(0:Int)<=(i:Int):=(by omega)
          have hTo:=λo=>hT.out.step (Below.of_alloc wr o)
          have hca:∀o,Hid (Calls Tryz.prog 50 #[.int .i64 x.1,.pointer (some ⟨q,0,none⟩)] (wr.alloc o) λe w'=>
           match m.types[x.1.toNat]? with
           |some t=>e=.returned (.tuple #[])/\∃fv',Ck (q+1) c A m w0 w' fv' (fsAt m (m.imports.length+i)++[t])/\w'.heap[q]? =some (.cells #[.pointer (some ⟨c,0,none⟩)] 74 (0,0))
           |none=>e=.panicked (jS 61)/\Below (wr.alloc o).heap.size (wr.alloc o) w'):=λo=>by
           obtain⟨fv,h1,h2⟩:=hTo o;exact zh (typeOf_any h1 h2 hqc (Nat.lt_succ_self _) _ hn0 (by omega))
          replace hTo:=zh hTo;clear hf hx kb;replace hin:=zh hin;replace hlt:=zh hlt;have ilt:(i:Int)<(m.funcs.length:Int):=(by have:=hlt.out;omega)
          cases ht:m.types[x.1.toNat]? with
          |none=>
            rw[ht]at hca
            have e:eI m x.1=61:=by unfold eI xT;have:=List.getElem?_eq_none_iff.1 ht;rw[if_neg (by omega)]
            rw[e,if_neg (by decide)]at hf1;replace hf1:=zh hf1;replace ht:=zh ht;clear e hst hT;go_wp2_with fail;refine(hca _).out.mono ?_;rintro e w' ⟨rfl,b2⟩;go_wp2;exact⟨rfl,.inr (by rw[hf1.out];exact⟨by decide,rfl⟩),hTb.out _ _ ((hTo.out _).step b2)⟩
          |some t=>
            rw[ht]at hca
            have e:eI m x.1=0:=by unfold eI xT;have:=(List.getElem?_eq_some_iff.1 ht).1;rw[if_pos (by omega)]
            have ht2:tyN m x.1=t:=by unfold tyN;rw[List.getD_eq_getElem?_getD,ht];rfl
            rw[ht2]at hst;rw[e,if_pos rfl]at hf1;replace hf1:=zh hf1;replace hst:=zh hst;replace ht:=zh ht;clear e ht2 hT;go_wp2_with fail;refine(hca _).out.mono ?_;rintro e w' ⟨rfl,fv',h5,h6⟩;have hT5:Hid (Tq c q A m w0 w' (fsAt m (m.imports.length+i+1))):=zh ⟨fv',by rw[hst.out];exact h5,h6⟩;clear h5 h6;go_wp2
            go_roundw
            case rel=>exact⟨i+1,by simp,by have:=hlt.out;omega,hf1,hT5⟩
            case measure=>simp[intOf];have:=hlt.out;omega
        . obtain rfl:i=m.funcs.length:=by omega
          have hil:m.imports.length+m.funcs.length=(vD m).length:=(idx_len m).symm;rw[hil]at hf hT
          have e4:X=0:=by have:=hf.out;rw[List.drop_length]at this;exact this
          rw[fsAt_all]at hT;obtain⟨fv,h1,h2⟩:=hT.out;clear hf hlt hT;replace e4:=zh e4;replace h1:=zh h1;go_wp2;go_end0;exact⟨.inl ⟨e4.out,rfl,_,fv,h1.out⟩,h1.out.bw⟩
end
end Go.Proofs.YtacohbllbjgdgaaGreatDoor
