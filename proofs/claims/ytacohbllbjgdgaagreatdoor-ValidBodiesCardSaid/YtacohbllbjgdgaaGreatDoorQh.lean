/- ValidBodies. -/
import Derived.Test.YtacohbllbjgdgaaGreatDoorWx
import Derived.Test.YtacohbllbjgdgaaGreatDoorMk
import Derived.Test.YtacohbllbjgdgaaGreatDoorSa
set_option linter.all false
set_option maxRecDepth 100000
set_option maxHeartbeats 8000000
namespace Go.Proofs.YtacohbllbjgdgaaGreatDoor
open Go.RowKit
def allocL:World->List Obj->World
 |w,[]=>w
 |w,o::r=>allocL (w.alloc o) r
theorem allocL_below:∀(os:List Obj) (w:World),Below w.heap.size w (allocL w os)/\(allocL w os).heap.size=w.heap.size+os.length
 | [],w=>⟨Below.refl _ _,rfl⟩
 |o::r,w=>by
   obtain⟨h1,h2⟩:=allocL_below r (w.alloc o);have hs:(w.alloc o).heap.size=w.heap.size+1:=(by simp)
   refine⟨(Below.of_alloc w o).trans (h1.mono (by omega)),?_⟩
   show(allocL (w.alloc o) r).heap.size=_
   rw[h2,hs,List.length_cons];omega
theorem vN:∀(os:List Obj) (w:World) (h:Nat),w.heap.size=h->∀(i:Nat) (o:Obj),os[i]? =some o->(allocL w os).heap[h+i]? =some o
 | [],w,h,hh,i,o,e=>by cases i<;>cases e
 |q::r,w,h,hh,0,o,e=>by
   cases e;have hb:=(allocL_below r (w.alloc q)).1;exact(hb.block h (by simp;omega)).trans (new_at hh q)
 |q::r,w,h,hh,i+1,o,e=>by
   have:=vN r (w.alloc q) (h+1) (size_of hh q) i o e;rw[show h+(i+1)=h+1+i by omega];exact this
def un0:Il:=.cons 0 0 0 0 [] .nil .nil .nil
def bodyM (t:List Int×List Int) (lo:List Int) (l:Il):Md:=⟨[t,([],[]),([127,126],[127])],[],[(0,lo,l),(1,[],.nil),(2,[],un0)],[(1,0,false)],[(1,0,false)],[(127,true,⟨65,0,0,0,[],.nil,.nil⟩),(126,false,⟨66,0,0,0,[],.nil,.nil⟩)],[],[],[],[]⟩
theorem rows_two{α:Type}{F:World->Nat->Nat->α->Prop}{k:Nat}{w:World}{b:Nat}{x y:α}(h:F w b 0 x)(h1:F w b (0+1*k) y):RowsIn F k w (some ⟨b,0,none⟩) [x,y]:=
 ⟨by simp,.inr ⟨b,0,rfl,λi u hu=>by
  rcases i with _ |_ |i
  . cases hu;simpa using h
  . cases hu;exact h1
  . simp at hu⟩⟩
theorem rows_three{α:Type}{F:World->Nat->Nat->α->Prop}{k:Nat}{w:World}{b:Nat}{x y z:α}(h:F w b 0 x)(h1:F w b (0+1*k) y)(h2:F w b (0+2*k) z):RowsIn F k w (some ⟨b,0,none⟩) [x,y,z]:=
 ⟨by simp,.inr ⟨b,0,rfl,λi u hu=>by
  rcases i with _ |_ |_ |i
  . cases hu;simpa using h
  . cases hu;exact h1
  . cases hu;exact h2
  . simp at hu⟩⟩
theorem ints_2{w:World}{b:Nat}{x y:Int}(h:w.cell? ⟨b,0,none⟩=some (.int .i64 x))(h1:w.cell? ⟨b,1,none⟩=some (.int .i64 y)):IntsIn w (some ⟨b,0,none⟩) [x,y]:=
 ⟨by simp,.inr ⟨b,0,rfl,λi u hu=>by
  rcases i with _ |_ |i
  . cases hu;exact h
  . cases hu;exact h1
  . simp at hu⟩⟩
theorem bodyw_any{w:World}{ps rs lo:List Int}{l:Il}{pa ra la ba:Option Addr}{pc rc lc bc:Nat}(hp:IntsIn w pa ps)(hr:IntsIn w ra rs)(hlo:IntsIn w la lo)(hll:l.len<=9223372036854775807)(hl:IlIn w ba 0 l)(hT:TabU w):Calls Tryz.prog 4 #[.agg #[.slice pa ps.length pc,.slice ra rs.length rc],.slice la lo.length lc,.slice ba l.len bc] w λe w'=>e=.returned (.bool true)/\Below w.heap.size w w':=by
 obtain⟨h,hh⟩:∃h,w.heap.size=h:=⟨_,rfl⟩
 obtain⟨os,hos⟩:∃os:List Obj,os=[Obj.cells #[.slice pa ps.length pc,.slice ra rs.length rc] 44,Obj.cells #[.int .i64 127,.int .i64 126] 3,Obj.cells #[.int .i64 127] 3,Obj.cells #[.slice pa ps.length pc,.slice ra rs.length rc,.slice none 0 0,.slice none 0 0,.slice (some ⟨h+1,0,none⟩) 2 2,.slice (some ⟨h+1+1,0,none⟩) 1 1] 44,Obj.cells #[.int .i64 1,.int .i64 0,.bool false] 47,Obj.cells #[.int .i64 1,.int .i64 0,.bool false] 47,Obj.cells #[.int .i64 127,.bool true,.int .i64 65,.int .i64 0,.int .i64 0,.int .i64 0,.slice none 0 0,.slice none 0 0,.slice none 0 0,.int .i64 126,.bool false,.int .i64 66,.int .i64 0,.int .i64 0,.int .i64 0,.slice none 0 0,.slice none 0 0,.slice none 0 0] 51,Obj.cells #[.slice (some ⟨h+1+1+1,0,none⟩) 3 3,.slice none 0 0,.slice (some ⟨h+1+1+1+1+1+1+1+1+1,0,none⟩) 3 3,.slice (some ⟨h+1+1+1+1,0,none⟩) 1 1,.slice (some ⟨h+1+1+1+1+1,0,none⟩) 1 1,.slice (some ⟨h+1+1+1+1+1+1,0,none⟩) 2 2,.slice none 0 0,.slice none 0 0,.slice none 0 0,.slice none 0 0] 32,Obj.cells #[.int .i64 0,.int .i64 0,.int .i64 0,.int .i64 0,.slice none 0 0,.slice none 0 0,.slice none 0 0] 49,Obj.cells #[.int .i64 0,.slice la lo.length lc,.slice ba l.len bc,.int .i64 1,.slice none 0 0,.slice none 0 0,.int .i64 2,.slice none 0 0,.slice (some ⟨h+1+1+1+1+1+1+1+1,0,none⟩) 1 1] 53]:=⟨_,rfl⟩
 obtain⟨W,hW⟩:∃W,W=((((((((((w.alloc (.cells #[.slice pa ps.length pc,.slice ra rs.length rc] 44)).alloc (.cells #[.int .i64 127,.int .i64 126] 3)).alloc (.cells #[.int .i64 127] 3)).alloc (.cells #[.slice pa ps.length pc,.slice ra rs.length rc,.slice none 0 0,.slice none 0 0,.slice (some ⟨h+1,0,none⟩) 2 2,.slice (some ⟨h+1+1,0,none⟩) 1 1] 44)).alloc (.cells #[.int .i64 1,.int .i64 0,.bool false] 47)).alloc (.cells #[.int .i64 1,.int .i64 0,.bool false] 47)).alloc (.cells #[.int .i64 127,.bool true,.int .i64 65,.int .i64 0,.int .i64 0,.int .i64 0,.slice none 0 0,.slice none 0 0,.slice none 0 0,.int .i64 126,.bool false,.int .i64 66,.int .i64 0,.int .i64 0,.int .i64 0,.slice none 0 0,.slice none 0 0,.slice none 0 0] 51)).alloc (.cells #[.slice (some ⟨h+1+1+1,0,none⟩) 3 3,.slice none 0 0,.slice (some ⟨h+1+1+1+1+1+1+1+1+1,0,none⟩) 3 3,.slice (some ⟨h+1+1+1+1,0,none⟩) 1 1,.slice (some ⟨h+1+1+1+1+1,0,none⟩) 1 1,.slice (some ⟨h+1+1+1+1+1+1,0,none⟩) 2 2,.slice none 0 0,.slice none 0 0,.slice none 0 0,.slice none 0 0] 32)).alloc (.cells #[.int .i64 0,.int .i64 0,.int .i64 0,.int .i64 0,.slice none 0 0,.slice none 0 0,.slice none 0 0] 49)).alloc (.cells #[.int .i64 0,.slice la lo.length lc,.slice ba l.len bc,.int .i64 1,.slice none 0 0,.slice none 0 0,.int .i64 2,.slice none 0 0,.slice (some ⟨h+1+1+1+1+1+1+1+1,0,none⟩) 1 1] 53)):=⟨_,rfl⟩
 have hWa:W=allocL w os:=(by rw[hW,hos];rfl)
 have hb:Below w.heap.size w W:=(by rw[hWa];exact(allocL_below os w).1)
 have k0:W.heap[h]? =some (.cells #[.slice pa ps.length pc,.slice ra rs.length rc] 44 (0,0)):=(by rw[hWa];exact vN os w h hh 0 _ (by rw[hos];rfl))
 have k1:W.heap[h+1]? =some (.cells #[.int .i64 127,.int .i64 126] 3 (0,0)):=(by rw[hWa];exact vN os w h hh 1 _ (by rw[hos];rfl))
 have k2:W.heap[h+1+1]? =some (.cells #[.int .i64 127] 3 (0,0)):=(by rw[hWa];exact vN os w h hh 2 _ (by rw[hos];rfl))
 have k3:W.heap[h+1+1+1]? =some (.cells #[.slice pa ps.length pc,.slice ra rs.length rc,.slice none 0 0,.slice none 0 0,.slice (some ⟨h+1,0,none⟩) 2 2,.slice (some ⟨h+1+1,0,none⟩) 1 1] 44 (0,0)):=(by rw[hWa];exact vN os w h hh 3 _ (by rw[hos];rfl))
 have k4:W.heap[h+1+1+1+1]? =some (.cells #[.int .i64 1,.int .i64 0,.bool false] 47 (0,0)):=(by rw[hWa];exact vN os w h hh 4 _ (by rw[hos];rfl))
 have k5:W.heap[h+1+1+1+1+1]? =some (.cells #[.int .i64 1,.int .i64 0,.bool false] 47 (0,0)):=(by rw[hWa];exact vN os w h hh 5 _ (by rw[hos];rfl))
 have k6:W.heap[h+1+1+1+1+1+1]? =some (.cells #[.int .i64 127,.bool true,.int .i64 65,.int .i64 0,.int .i64 0,.int .i64 0,.slice none 0 0,.slice none 0 0,.slice none 0 0,.int .i64 126,.bool false,.int .i64 66,.int .i64 0,.int .i64 0,.int .i64 0,.slice none 0 0,.slice none 0 0,.slice none 0 0] 51 (0,0)):=(by rw[hWa];exact vN os w h hh 6 _ (by rw[hos];rfl))
 have k7:W.heap[h+1+1+1+1+1+1+1]? =some (.cells #[.slice (some ⟨h+1+1+1,0,none⟩) 3 3,.slice none 0 0,.slice (some ⟨h+1+1+1+1+1+1+1+1+1,0,none⟩) 3 3,.slice (some ⟨h+1+1+1+1,0,none⟩) 1 1,.slice (some ⟨h+1+1+1+1+1,0,none⟩) 1 1,.slice (some ⟨h+1+1+1+1+1+1,0,none⟩) 2 2,.slice none 0 0,.slice none 0 0,.slice none 0 0,.slice none 0 0] 32 (0,0)):=(by rw[hWa];exact vN os w h hh 7 _ (by rw[hos];rfl))
 have k8:W.heap[h+1+1+1+1+1+1+1+1]? =some (.cells #[.int .i64 0,.int .i64 0,.int .i64 0,.int .i64 0,.slice none 0 0,.slice none 0 0,.slice none 0 0] 49 (0,0)):=(by rw[hWa];exact vN os w h hh 8 _ (by rw[hos];rfl))
 have k9:W.heap[h+1+1+1+1+1+1+1+1+1]? =some (.cells #[.int .i64 0,.slice la lo.length lc,.slice ba l.len bc,.int .i64 1,.slice none 0 0,.slice none 0 0,.int .i64 2,.slice none 0 0,.slice (some ⟨h+1+1+1+1+1+1+1+1,0,none⟩) 1 1] 53 (0,0)):=(by rw[hWa];exact vN os w h hh 9 _ (by rw[hos];rfl))
 have c1:∀(j:Nat) (v:Value),(#[.int .i64 127,.int .i64 126]:Array Value)[j]? =some v->W.cell? ⟨h+1,j,none⟩=some v:=λj v e=>by rw[cell_of_row W _ _ _ _ _ k1];exact e
 have c2:∀(j:Nat) (v:Value),(#[.int .i64 127]:Array Value)[j]? =some v->W.cell? ⟨h+1+1,j,none⟩=some v:=λj v e=>by rw[cell_of_row W _ _ _ _ _ k2];exact e
 have c3:∀(j:Nat) (v:Value),(#[.slice pa ps.length pc,.slice ra rs.length rc,.slice none 0 0,.slice none 0 0,.slice (some ⟨h+1,0,none⟩) 2 2,.slice (some ⟨h+1+1,0,none⟩) 1 1]:Array Value)[j]? =some v->W.cell? ⟨h+1+1+1,j,none⟩=some v:=λj v e=>by rw[cell_of_row W _ _ _ _ _ k3];exact e
 have c4:∀(j:Nat) (v:Value),(#[.int .i64 1,.int .i64 0,.bool false]:Array Value)[j]? =some v->W.cell? ⟨h+1+1+1+1,j,none⟩=some v:=λj v e=>by rw[cell_of_row W _ _ _ _ _ k4];exact e
 have c5:∀(j:Nat) (v:Value),(#[.int .i64 1,.int .i64 0,.bool false]:Array Value)[j]? =some v->W.cell? ⟨h+1+1+1+1+1,j,none⟩=some v:=λj v e=>by rw[cell_of_row W _ _ _ _ _ k5];exact e
 have c6:∀(j:Nat) (v:Value),(#[.int .i64 127,.bool true,.int .i64 65,.int .i64 0,.int .i64 0,.int .i64 0,.slice none 0 0,.slice none 0 0,.slice none 0 0,.int .i64 126,.bool false,.int .i64 66,.int .i64 0,.int .i64 0,.int .i64 0,.slice none 0 0,.slice none 0 0,.slice none 0 0]:Array Value)[j]? =some v->W.cell? ⟨h+1+1+1+1+1+1,j,none⟩=some v:=λj v e=>by rw[cell_of_row W _ _ _ _ _ k6];exact e
 have c7:∀(j:Nat) (v:Value),(#[.slice (some ⟨h+1+1+1,0,none⟩) 3 3,.slice none 0 0,.slice (some ⟨h+1+1+1+1+1+1+1+1+1,0,none⟩) 3 3,.slice (some ⟨h+1+1+1+1,0,none⟩) 1 1,.slice (some ⟨h+1+1+1+1+1,0,none⟩) 1 1,.slice (some ⟨h+1+1+1+1+1+1,0,none⟩) 2 2,.slice none 0 0,.slice none 0 0,.slice none 0 0,.slice none 0 0]:Array Value)[j]? =some v->W.cell? ⟨h+1+1+1+1+1+1+1,j,none⟩=some v:=λj v e=>by rw[cell_of_row W _ _ _ _ _ k7];exact e
 have c8:∀(j:Nat) (v:Value),(#[.int .i64 0,.int .i64 0,.int .i64 0,.int .i64 0,.slice none 0 0,.slice none 0 0,.slice none 0 0]:Array Value)[j]? =some v->W.cell? ⟨h+1+1+1+1+1+1+1+1,j,none⟩=some v:=λj v e=>by rw[cell_of_row W _ _ _ _ _ k8];exact e
 have c9:∀(j:Nat) (v:Value),(#[.int .i64 0,.slice la lo.length lc,.slice ba l.len bc,.int .i64 1,.slice none 0 0,.slice none 0 0,.int .i64 2,.slice none 0 0,.slice (some ⟨h+1+1+1+1+1+1+1+1,0,none⟩) 1 1]:Array Value)[j]? =some v->W.cell? ⟨h+1+1+1+1+1+1+1+1+1,j,none⟩=some v:=λj v e=>by rw[cell_of_row W _ _ _ _ _ k9];exact e
 obtain⟨A,hAe⟩:∃A:MA,A=⟨some ⟨h+1+1+1,0,none⟩,3,none,0,some ⟨h+1+1+1+1+1+1+1+1+1,0,none⟩,3,some ⟨h+1+1+1+1,0,none⟩,1,some ⟨h+1+1+1+1+1,0,none⟩,1,some ⟨h+1+1+1+1+1+1,0,none⟩,2,none,0,none,0,none,0,none,0⟩:=⟨_,rfl⟩
 obtain⟨m,hm⟩:∃m,m=bodyM (ps,rs) lo l:=⟨_,rfl⟩
 have kb:=zA hb
 have hA:MdA W m A:=by
  rw[hAe,hm]
  refine⟨rows_three ⟨⟨pa,pc,c3 0 _ rfl,hp.keep kb⟩,⟨ra,rc,c3 1 _ rfl,hr.keep kb⟩⟩ ⟨⟨none,0,c3 2 _ rfl,yI _⟩,⟨none,0,c3 3 _ rfl,yI _⟩⟩ ⟨⟨_,2,c3 4 _ rfl,ints_2 (c1 0 _ rfl) (c1 1 _ rfl)⟩,⟨_,1,c3 5 _ rfl,ints_one (c2 0 _ rfl)⟩⟩,yG _ _ _,
   rows_three ⟨c9 0 _ rfl,⟨la,lc,c9 1 _ rfl,hlo.keep kb⟩,⟨ba,bc,c9 2 _ rfl,hll,hl.keep kb⟩⟩ ⟨c9 3 _ rfl,⟨none,0,c9 4 _ rfl,yI _⟩,⟨none,0,c9 5 _ rfl,Nat.zero_le _,il_nil _ _ _⟩⟩ ⟨c9 6 _ rfl,⟨none,0,c9 7 _ rfl,yI _⟩,⟨_,1,c9 8 _ rfl,by decide,.inr ⟨_,0,rfl,?_⟩⟩⟩,
   rows_one ⟨c4 0 _ rfl,c4 1 _ rfl,c4 2 _ rfl⟩,rows_one ⟨c5 0 _ rfl,c5 1 _ rfl,c5 2 _ rfl⟩,rows_two ⟨c6 0 _ rfl,c6 1 _ rfl,?_⟩ ⟨c6 9 _ rfl,c6 10 _ rfl,?_⟩,yG _ _ _,yI _,yG _ _ _,yG _ _ _⟩
  . exact⟨⟨c8 0 _ rfl,c8 1 _ rfl,c8 2 _ rfl,c8 3 _ rfl⟩,⟨none,0,c8 4 _ rfl,yI _⟩,⟨none,0,c8 5 _ rfl,Nat.zero_le _,.inl rfl⟩,⟨none,0,c8 6 _ rfl,Nat.zero_le _,.inl rfl⟩,trivial⟩
  . exact⟨⟨c6 2 _ rfl,c6 3 _ rfl,c6 4 _ rfl,c6 5 _ rfl⟩,⟨none,0,c6 6 _ rfl,yI _⟩,⟨none,0,c6 7 _ rfl,Nat.zero_le _,.inl rfl⟩,⟨none,0,c6 8 _ rfl,Nat.zero_le _,.inl rfl⟩,trivial⟩
  . exact⟨⟨c6 11 _ rfl,c6 12 _ rfl,c6 13 _ rfl,c6 14 _ rfl⟩,⟨none,0,c6 15 _ rfl,yI _⟩,⟨none,0,c6 16 _ rfl,Nat.zero_le _,.inl rfl⟩,⟨none,0,c6 17 _ rfl,Nat.zero_le _,.inl rfl⟩,trivial⟩
 have hbm:Hid (Bm A m (h+1+1+1+1+1+1+1) w W):=zh ⟨by rw[k7,hAe,hm];rfl,hA,hb⟩;go_enter Tryz.func4,Tryz.ntmps4
 go_upto_region 3 with(fail)
 rw[<-hW];clear hW hWa hos hb k0 k1 k2 k3 k4 k5 k6 k7 k8 k9 c1 c2 c3 c4 c5 c6 c7 c8 c9 hAe hm kb hA os;obtain⟨B,hB⟩:∃B,B=h+1+1+1+1+1+1+1:=⟨_,rfl⟩
 rw[<-hB]at hbm ⊢;replace hB:=zh hB;replace hT:=zh hT;clear hh;obtain⟨x0,x1,x2,x3,x4,x5,x6,x7,x8,x9⟩:=qO hbm.out.h;have hlg:=zh (largeA hbm.out.m);go_wp2_with fail;refine hlg.out.mono ?_;rintro e w2 ⟨L,rfl,hsm,b2⟩;have hb2:=zh (hbm.out.step b2);clear b2 hlg hbm x0 x1 x2 x3 x4 x5 x6 x7 x8 x9;obtain⟨x0,x1,x2,x3,x4,x5,x6,x7,x8,x9⟩:=qO hb2.out.h
 by_cases hL:L=true\/300<lo.length
 . have hc:L=true\/(L=false/\decide ((300:Int)<(lo.length:Int))=true):=by
    cases L with
    |true=>exact .inl rfl
    |false=>exact .inr ⟨rfl,decide_eq_true (by rcases hL with h |h;cases h;omega)⟩
   clear hL hsm;have hwk:=zh (jC (hT.out.below hb2.out.b));have hb3:=zh hb2.out.b;clear hb2
   rcases hc with rfl |⟨rfl,h1⟩
   all_goals
    go_wp2_with fail;refine hwk.out.mono ?_;rintro e w3 ⟨rfl,b3⟩;have hb4:=zh (hb3.out.trans (b3.mono hb3.out.size));clear b3;go_wp2_with fail;go_ret;exact⟨rfl,hb4.out⟩
 obtain rfl:L=false:=by cases L with
  |true=>exact absurd (.inl rfl) hL
  |false=>rfl
 obtain⟨_,hn0⟩:=not_or.1 hL;have h1:decide ((300:Int)<(lo.length:Int))=false:=decide_eq_false (by omega);replace hsm:=zh (hsm rfl);clear hL hn0;have hds:Hid (∀t∈m.datas,t.2.size<=300000):=zh λt ht=>(hsm.out.datas t ht).1;have hcp:=zh (copyA hsm.out hb2.out.m);unfold MA.g at hcp;go_wp2_with fail;refine hcp.out.mono ?_;rintro e w3 ⟨C,rfl,hC,_,_,b3⟩;have hb3:=zh (hb2.out.step b3);clear hcp b3 x0 x1 x2 x3 x4 x5 x6 x7 x8 x9 hb2 h1;obtain⟨n,f,hnf⟩:∃n f,zW m=(n,f):=⟨_,_,rfl⟩
 replace hnf:=zh hnf;have hwh:=whereA hC (hT.out.below hb3.out.b);rw[hnf.out]at hwh;unfold MA.g at hwh;replace hwh:=zh hwh;clear hC;go_wp2_with fail;refine hwh.out.mono ?_;rintro e w5 ⟨rfl,b5⟩;have hb5:=zh (hb3.out.step b5);clear hwh b5 hb3;obtain⟨x0,x1,x2,x3,x4,x5,x6,x7,x8,x9⟩:=qO hb5.out.h;have hwh:=rwhereA hb5.out.m hds.out;rw[hnf.out]at hwh;unfold MA.g at hwh;replace hwh:=zh hwh;go_wp2_with fail;refine hwh.out.mono ?_;rintro e w6 ⟨rfl,b6⟩;have hb6:=zh (hb5.out.b.trans (b6.mono hb5.out.b.size));clear hwh b6 hb5 x0 x1 x2 x3 x4 x5 x6 x7 x8 x9;have en:(n==n)=true:=beq_self_eq_true n;have ef:(f==f)=true:=beq_self_eq_true f;have hwk:=zh (jC (hT.out.below hb6.out));go_wp2_with fail;refine hwk.out.mono ?_;rintro e u1 ⟨rfl,b1⟩;have hu1:=zh (hb6.out.trans (b1.mono hb6.out.size));clear b1;go_wp2_with fail;go_ret;exact⟨rfl,hu1.out⟩
end Go.Proofs.YtacohbllbjgdgaaGreatDoor
namespace Go.Proofs.YtacohbllbjgdgaaGreatDoor
open Go.ChangeShapes Go.WideShapes Go.ChangeAt Go.RowKit
theorem open_ft{H:Type}{enc:TypeId×Value->H}{w:World}{base base0:Nat}{sp:Nat->Bool}{held:Bool}{v:Value}{d:DataW H}{ps:List MemPlace}(hval:Value.okWide Tryz.prog w .any base0 44 v)(hd:DataW.Trod enc Tryz.prog w base sp held 44 v d ps):∃p r a0 k0 a1 k1,v=.agg #[.slice a0 (List.length p) k0,.slice a1 (List.length r) k1]/\IntsIn w a0 p/\IntsIn w a1 r:=by
 unfold Value.okWide at hval;rw[Tryz.underlying44]at hval;obtain⟨cs,rfl,hsz,_⟩:=hval;rw[cells47]at hsz;obtain⟨fuel,hf⟩:=hd;obtain⟨_,n,hn,hf⟩:=jO Tryz.underlying44 hf;obtain⟨cs⟩:=cs;rw[List.size_toArray]at hsz
 rcases cs with _ |⟨x0,_ |⟨x1,_ |⟨x2,cs⟩⟩⟩
 all_goals first |(exfalso;simp only[List.length_cons,List.length_nil]at hsz;omega) |skip
 obtain⟨y0,f0⟩:=hf 0 _ rfl;obtain⟨a0,l0,k0,e0,r0⟩:=xN (cs:=[x0]) Tryz.underlying28 Tryz.underlying3 cells3 f0;obtain rfl:=List.head_eq_of_cons_eq e0;obtain⟨y1,f1⟩:=hf 1 _ rfl;obtain⟨a1,l1,k1,e1,r1⟩:=xN (cs:=[x1]) Tryz.underlying28 Tryz.underlying3 cells3 f1;obtain rfl:=List.head_eq_of_cons_eq e1;exact⟨l0,l1,a0,k0,a1,k1,rfl,r0,r1⟩
theorem open_is{H:Type}{enc:TypeId×Value->H}{w:World}{base base0:Nat}{sp:Nat->Bool}{held:Bool}{v:Value}{d:DataW H}{ps:List MemPlace}(hval:Value.okWide Tryz.prog w .any base0 28 v)(hd:DataW.Trod enc Tryz.prog w base sp held 28 v d ps):∃l a k,v=.slice a (List.length l) k/\IntsIn w a l:=by
 obtain⟨fuel,hf⟩:=hd;obtain⟨a,len,cap,rfl⟩:=okWide_slice Tryz.underlying28 hval;obtain⟨ao,l,c,e,hi⟩:=xN (cs:=[.slice a len cap]) Tryz.underlying28 Tryz.underlying3 cells3 hf;exact⟨l,ao,c,List.head_eq_of_cons_eq e,hi⟩
theorem bodies_walk{H:Type}{enc:TypeId×Value->H}(W:World)(base:Nat)(hT:TabU W)(v0:Value)(d0:DataW H)(p0:List MemPlace)(o0:Value.okWide Tryz.prog W .any base 44 v0)(h0:DataW.Trod enc Tryz.prog W 0 (λ_=>true) true 44 v0 d0 p0)(v1:Value)(d1:DataW H)(p1:List MemPlace)(o1:Value.okWide Tryz.prog W .any base 28 v1)(h1:DataW.Trod enc Tryz.prog W 0 (λ_=>true) true 28 v1 d1 p1)(v2:Value)(d2:DataW H)(p2:List MemPlace)(o2:Value.okWide Tryz.prog W .any base 45 v2)(h2:DataW.Trod enc Tryz.prog W 0 (λ_=>true) true 45 v2 d2 p2):Calls Tryz.prog 4 #[v0,v1,v2] W λe W'=>e=.returned (.bool true)/\Below W.heap.size W W':=by
 obtain⟨ps,rs,a0,k0,a1,k1,rfl,hp,hr⟩:=open_ft o0 h0;obtain⟨lo,la,lc,rfl,hlo⟩:=open_is o1 h1;obtain⟨ba,l,bc,rfl,hll,hl⟩:=open_instrs o2 h2;exact bodyw_any hp hr hlo hll hl hT
end Go.Proofs.YtacohbllbjgdgaaGreatDoor
