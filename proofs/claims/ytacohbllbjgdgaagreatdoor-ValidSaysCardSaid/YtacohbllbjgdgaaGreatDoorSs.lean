/- The reference's Same tells true of modules that are alike. -/
import Derived.Test.YtacohbllbjgdgaaGreatDoorDv
import Derived.Test.YtacohbllbjgdgaaGreatDoorMh
import Derived.Test.YtacohbllbjgdgaaGreatDoorSa
import Derived.Test.YtacohbllbjgdgaaGreatDoorOa
import Derived.Deep.Cut
import Derived.Deep.CutRange
import Derived.Laws.Strings
import Derived.OpenShut
import Derived.SizedLaws
import Derived.ChangeMaps5
import Derived.Maps.AppendAt
import Derived.OwnWalk
set_option linter.all false
set_option maxRecDepth 100000
set_option maxHeartbeats 16000000
namespace Go.Proofs.YtacohbllbjgdgaaGreatDoor
open Go.RowKit
theorem belowN{B:Nat}{a w:World}(h:Below B a w)(n:Nat):Below B a (w.drewN n):=h.trans ⟨rfl,rfl,rfl,Nat.le_refl _,λ_ _=>rfl⟩
def StrC (w:World) (b o:Nat) (s:ByteArray):Prop:=w.cell? ⟨b,o,none⟩=some (.string s)
def ImpS (w:World) (b o:Nat) (t:ByteArray×ByteArray×Int):Prop:=StrC w b o t.1/\StrC w b (o+1) t.2.1/\jA w b (o+2) t.2.2
def ExpS (w:World) (b o:Nat) (t:ByteArray×Int×Int):Prop:=StrC w b o t.1/\jA w b (o+1) t.2.1/\jA w b (o+2) t.2.2
def DatS (w:World) (b o:Nat) (t:One×ByteArray):Prop:=IlAt w b o t.1.il/\StrC w b (o+7) t.2
theorem ImpS.keep{w w':World}(f:Keeps w w'){b o:Nat}{t:ByteArray×ByteArray×Int}(h:ImpS w b o t):ImpS w' b o t:=⟨f _ _ h.1,f _ _ h.2.1,f _ _ h.2.2⟩
theorem ExpS.keep{w w':World}(f:Keeps w w'){b o:Nat}{t:ByteArray×Int×Int}(h:ExpS w b o t):ExpS w' b o t:=⟨f _ _ h.1,f _ _ h.2.1,f _ _ h.2.2⟩
theorem DatS.keep{w w':World}(f:Keeps w w'){b o:Nat}{t:One×ByteArray}(h:DatS w b o t):DatS w' b o t:=⟨IlAt.keep f _ _ _ h.1,f _ _ h.2⟩
structure MdS (w:World) (m:Md) (a0 a1 a2 a3 a4 a5 a6 a7 a8 a9:Option Addr):Prop where
 types:RowsIn TypeAt 2 w a0 m.types
 imports:RowsIn ImpS 3 w a1 m.imports
 funcs:RowsIn FuncAt 3 w a2 m.funcs
 tables:RowsIn LimitsAt 3 w a3 m.tables
 mems:RowsIn LimitsAt 3 w a4 m.mems
 globals:RowsIn GlobalAt 9 w a5 m.globals
 exports:RowsIn ExpS 3 w a6 m.exports
 start:IntsIn w a7 m.start
 elems:RowsIn ElemAt 8 w a8 m.elems
 datas:RowsIn DatS 8 w a9 m.datas
theorem MdS.keep{w w':World}(f:Keeps w w'){m:Md}{a0 a1 a2 a3 a4 a5 a6 a7 a8 a9:Option Addr}(h:MdS w m a0 a1 a2 a3 a4 a5 a6 a7 a8 a9):MdS w' m a0 a1 a2 a3 a4 a5 a6 a7 a8 a9:=
 ⟨h.types.keep λ_ _ _=>.keep f,h.imports.keep λ_ _ _=>.keep f,h.funcs.keep λ_ _ _=>.keep f,h.tables.keep λ_ _ _=>.keep f,h.mems.keep λ_ _ _=>.keep f,h.globals.keep λ_ _ _=>.keep f,h.exports.keep λ_ _ _=>.keep f,h.start.keep f,h.elems.keep λ_ _ _=>.keep f,h.datas.keep λ_ _ _=>.keep f⟩
theorem RowsIn.imp{α:Type}{F G:World->Nat->Nat->α->Prop}{k:Nat}{w:World}{ao:Option Addr}{xs:List α}(h:RowsIn F k w ao xs)(f:∀b o x,F w b o x->G w b o x):RowsIn G k w ao xs:=by
 rcases h with⟨hl,h |⟨b,o,e,h⟩⟩
 . exact⟨hl,.inl h⟩
 . exact⟨hl,.inr ⟨b,o,e,λi x hx=>f _ _ _ (h i x hx)⟩⟩
theorem MdAt.s{w:World}{m:Md}{a0:Option Addr}{k0:Nat}{a1:Option Addr}{k1:Nat}{a2:Option Addr}{k2:Nat}{a3:Option Addr}{k3:Nat}{a4:Option Addr}{k4:Nat}{a5:Option Addr}{k5:Nat}{a6:Option Addr}{k6:Nat}{a7:Option Addr}{k7:Nat}{a8:Option Addr}{k8:Nat}{a9:Option Addr}{k9:Nat}(h:MdAt w m a0 k0 a1 k1 a2 k2 a3 k3 a4 k4 a5 k5 a6 k6 a7 k7 a8 k8 a9 k9):MdS w m a0 a1 a2 a3 a4 a5 a6 a7 a8 a9:=
 ⟨h.types,h.imports.imp λ_ _ _ h=>⟨h.1.1,h.2.1.1,h.2.2⟩,h.funcs,h.tables,h.mems,h.globals,h.exports.imp λ_ _ _ h=>⟨h.1.1,h.2.1,h.2.2⟩,h.start,h.elems,h.datas.imp λ_ _ _ h=>⟨h.1,h.2.1⟩⟩
theorem wpv_then{P:Program}{Q:Exit->Act->World->Prop}{c:Code}{a:Act}{w:World}(h:∀K:Act->World->Prop,(∀a w,K a w↔Q .normal a w)->c.wp P (Exit.then K Q) a w):c.wp P Q a w:=by refine wp_mono (h (Q .normal) λ_ _=>Iff.rfl) ?_;intro e a' w' hq;cases e<;>exact hq
theorem one_true{w:World}{q:One}{a4 a5 a6 a4' a5' a6':Option Addr}{k4 k5 k6 k4' k5' k6':Nat}(h:OneIs w q a4 k4 a5 k5 a6 k6)(h':OneIs w q a4' k4' a5' k5' a6' k6'):Calls Tryz.prog 39 #[.agg #[.int .i64 q.op,.int .i64 q.x,.int .i64 q.y,.int .i64 q.n,.slice a4 q.ls.length k4,.slice a5 q.body.len k5,.slice a6 q.els.len k6],.agg #[.int .i64 q.op,.int .i64 q.x,.int .i64 q.y,.int .i64 q.n,.slice a4' q.ls.length k4',.slice a5' q.body.len k5',.slice a6' q.els.len k6']] w λe w'=>e=.returned (.bool true)/\Below w.heap.size w w':=by
 obtain⟨op,x,y,n,ls,body,els⟩:=q
 dsimp only
 obtain⟨A,hA⟩:∃A,A=Obj.cells #[.int .i64 op,.int .i64 x,.int .i64 y,.int .i64 n,.slice a4 ls.length k4,.slice a5 body.len k5,.slice a6 els.len k6] 49:=⟨_,rfl⟩
 obtain⟨B,hB⟩:∃B,B=Obj.cells #[.int .i64 op,.int .i64 x,.int .i64 y,.int .i64 n,.slice a4' ls.length k4',.slice a5' body.len k5',.slice a6' els.len k6'] 49:=⟨_,rfl⟩
 have L1:=h.i4.1;have L2:=h.l5;have L3:=h.l6;have f2:Keeps w ((w.alloc A).alloc B):=λa v h=>vX _ _ a v (vX _ _ a v h);have f3:Keeps w (((w.alloc A).alloc B).alloc A):=λa v h=>vX _ _ a v (f2 a v h)
 have g1:IlIn (((w.alloc A).alloc B).alloc A) (some ⟨((w.alloc A).alloc B).heap.size,0,none⟩) 0 (.cons op x y n ls body els .nil):=by have:=(h.keep f2).new;rw[hA]at this ⊢;exact this
 have g2:IlIn ((((w.alloc A).alloc B).alloc A).alloc B) (some ⟨(((w.alloc A).alloc B).alloc A).heap.size,0,none⟩) 0 (.cons op x y n ls body els .nil):=by have:=(h'.keep f3).new;rw[hB]at this ⊢;exact this
 have g1':=g1.keep (vX _ B);have hbel:Below w.heap.size w ((((w.alloc A).alloc B).alloc A).alloc B):=((((Below.refl _ _).alloc (Nat.le_refl _) _).alloc (by simp) _).alloc (by simp;omega) _).alloc (by simp;omega) _;rw[show((w.alloc A).alloc B).heap.size=w.heap.size+1+1 by simp]at g1';rw[show(((w.alloc A).alloc B).alloc A).heap.size=w.heap.size+1+1+1 by simp]at g2;have hcall:=zh (instrs_any (.cons op x y n ls body els .nil) (.cons op x y n ls body els .nil) _ _ 1 1 _ (by show 0+1<=_;omega) (by show 0+1<=_;omega) g1' g2);have hbel:=zh hbel;have hs:=zh (ilEq_self (.cons op x y n ls body els .nil));clear g1 g2 g1' f2 f3 h h';subst hA;subst hB;go_enter Tryz.func39,Tryz.ntmps39;go_wp2_with fail;refine hcall.out.mono ?_;rintro e w2 ⟨rfl,b2⟩;have hfin:=hbel.out.trans (b2.mono hbel.out.size);clear b2;rw[hs.out];go_wp2;go_ret;exact⟨rfl,hfin⟩
theorem sizes_true(m:Md)(a0:Option Addr)(k0:Nat)(a1:Option Addr)(k1:Nat)(a2:Option Addr)(k2:Nat)(a3:Option Addr)(k3:Nat)(a4:Option Addr)(k4:Nat)(a5:Option Addr)(k5:Nat)(a6:Option Addr)(k6:Nat)(a7:Option Addr)(k7:Nat)(a8:Option Addr)(k8:Nat)(a9:Option Addr)(k9:Nat)(b0:Option Addr)(j0:Nat)(b1:Option Addr)(j1:Nat)(b2:Option Addr)(j2:Nat)(b3:Option Addr)(j3:Nat)(b4:Option Addr)(j4:Nat)(b5:Option Addr)(j5:Nat)(b6:Option Addr)(j6:Nat)(b7:Option Addr)(j7:Nat)(b8:Option Addr)(j8:Nat)(b9:Option Addr)(j9:Nat)(w:World)(h:MdS w m a0 a1 a2 a3 a4 a5 a6 a7 a8 a9)(h':MdS w m b0 b1 b2 b3 b4 b5 b6 b7 b8 b9):Calls Tryz.prog 36 #[mdV m a0 k0 a1 k1 a2 k2 a3 k3 a4 k4 a5 k5 a6 k6 a7 k7 a8 k8 a9 k9,mdV m b0 j0 b1 j1 b2 j2 b3 j3 b4 j4 b5 j5 b6 j6 b7 j7 b8 j8 b9 j9] w λe w'=>e=.returned (.bool true)/\Below w.heap.size w w':=by
 have hbel:=zh (((Below.refl w.heap.size w).alloc (Nat.le_refl _) (.cells #[.slice a0 m.types.length k0,.slice a1 m.imports.length k1,.slice a2 m.funcs.length k2,.slice a3 m.tables.length k3,.slice a4 m.mems.length k4,.slice a5 m.globals.length k5,.slice a6 m.exports.length k6,.slice a7 m.start.length k7,.slice a8 m.elems.length k8,.slice a9 m.datas.length k9] 32)).alloc (by simp) (.cells #[.slice b0 m.types.length j0,.slice b1 m.imports.length j1,.slice b2 m.funcs.length j2,.slice b3 m.tables.length j3,.slice b4 m.mems.length j4,.slice b5 m.globals.length j5,.slice b6 m.exports.length j6,.slice b7 m.start.length j7,.slice b8 m.elems.length j8,.slice b9 m.datas.length j9] 32));have hs1:=zh (h.start.keep (zA hbel.out));have hs2:=zh (h'.start.keep (zA hbel.out));have n0:=h.types.1;have n1:=h.imports.1;have n2:=h.funcs.1;have n3:=h.tables.1;have n4:=h.mems.1;have n5:=h.globals.1;have n6:=h.exports.1;have n7:=h.start.1;have n8:=h.elems.1;have n9:=h.datas.1;clear h h';unfold mdV;go_enter Tryz.func36,Tryz.ntmps36;go_wp2_with fail;refine(vS m.start m.start _ _ _ _ _ hs1.out hs2.out).mono ?_;rintro e w2 ⟨rfl,mm,rfl⟩;have hb:=zh (belowN hbel.out mm);clear hs1 hs2 hbel;go_wp2;go_ret;exact⟨rfl,hb.out⟩
theorem same_true(m:Md)(a0:Option Addr)(k0:Nat)(a1:Option Addr)(k1:Nat)(a2:Option Addr)(k2:Nat)(a3:Option Addr)(k3:Nat)(a4:Option Addr)(k4:Nat)(a5:Option Addr)(k5:Nat)(a6:Option Addr)(k6:Nat)(a7:Option Addr)(k7:Nat)(a8:Option Addr)(k8:Nat)(a9:Option Addr)(k9:Nat)(b0:Option Addr)(j0:Nat)(b1:Option Addr)(j1:Nat)(b2:Option Addr)(j2:Nat)(b3:Option Addr)(j3:Nat)(b4:Option Addr)(j4:Nat)(b5:Option Addr)(j5:Nat)(b6:Option Addr)(j6:Nat)(b7:Option Addr)(j7:Nat)(b8:Option Addr)(j8:Nat)(b9:Option Addr)(j9:Nat)(w:World)(h:MdS w m a0 a1 a2 a3 a4 a5 a6 a7 a8 a9)(h':MdS w m b0 b1 b2 b3 b4 b5 b6 b7 b8 b9):Calls Tryz.prog 15 #[mdV m a0 k0 a1 k1 a2 k2 a3 k3 a4 k4 a5 k5 a6 k6 a7 k7 a8 k8 a9 k9,mdV m b0 j0 b1 j1 b2 j2 b3 j3 b4 j4 b5 j5 b6 j6 b7 j7 b8 j8 b9 j9] w λe w'=>e=.returned (.bool true)/\Below w.heap.size w w':=by
 have hB0:Below w.heap.size w ((w.alloc (.cells #[.slice a0 m.types.length k0,.slice a1 m.imports.length k1,.slice a2 m.funcs.length k2,.slice a3 m.tables.length k3,.slice a4 m.mems.length k4,.slice a5 m.globals.length k5,.slice a6 m.exports.length k6,.slice a7 m.start.length k7,.slice a8 m.elems.length k8,.slice a9 m.datas.length k9] 32)).alloc (.cells #[.slice b0 m.types.length j0,.slice b1 m.imports.length j1,.slice b2 m.funcs.length j2,.slice b3 m.tables.length j3,.slice b4 m.mems.length j4,.slice b5 m.globals.length j5,.slice b6 m.exports.length j6,.slice b7 m.start.length j7,.slice b8 m.elems.length j8,.slice b9 m.datas.length j9] 32)):=((Below.refl _ _).alloc (Nat.le_refl _) _).alloc (by simp) _;have HM:=zh (h.keep (zA hB0));have HN:=zh (h'.keep (zA hB0));replace hB0:=zh hB0;have n0:=h.types.1;have n1:=h.imports.1;have n2:=h.funcs.1;have n3:=h.tables.1;have n4:=h.mems.1;have n5:=h.globals.1;have n6:=h.exports.1;have n7:=h.start.1;have n8:=h.elems.1;have n9:=h.datas.1;clear h h';have hmix:Tryz.prog.follows .mixedOrders=true:=(by kernel_rfl)
 unfold mdV;go_enter Tryz.func15,Tryz.ntmps15
 go_upto_region 1 with fail
 obtain⟨w0,hw0⟩:∃w0,w0=((w.alloc (.cells #[.slice a0 m.types.length k0,.slice a1 m.imports.length k1,.slice a2 m.funcs.length k2,.slice a3 m.tables.length k3,.slice a4 m.mems.length k4,.slice a5 m.globals.length k5,.slice a6 m.exports.length k6,.slice a7 m.start.length k7,.slice a8 m.elems.length k8,.slice a9 m.datas.length k9] 32)).alloc (.cells #[.slice b0 m.types.length j0,.slice b1 m.imports.length j1,.slice b2 m.funcs.length j2,.slice b3 m.tables.length j3,.slice b4 m.mems.length j4,.slice b5 m.globals.length j5,.slice b6 m.exports.length j6,.slice b7 m.start.length j7,.slice b8 m.elems.length j8,.slice b9 m.datas.length j9] 32)):=⟨_,rfl⟩
 rw[<-hw0];rw[<-hw0]at HM HN hB0;have hs0:w.heap.size<=w0.heap.size:=hB0.out.size;have bx:Hid (Box w0 w.heap.size #[.slice a0 m.types.length k0,.slice a1 m.imports.length k1,.slice a2 m.funcs.length k2,.slice a3 m.tables.length k3,.slice a4 m.mems.length k4,.slice a5 m.globals.length k5,.slice a6 m.exports.length k6,.slice a7 m.start.length k7,.slice a8 m.elems.length k8,.slice a9 m.datas.length k9]):=zh (by rw[hw0];exact(box_new w _ _).keep (vX _ _));have by':Hid (Box w0 (w.heap.size+1) #[.slice b0 m.types.length j0,.slice b1 m.imports.length j1,.slice b2 m.funcs.length j2,.slice b3 m.tables.length j3,.slice b4 m.mems.length j4,.slice b5 m.globals.length j5,.slice b6 m.exports.length j6,.slice b7 m.start.length j7,.slice b8 m.elems.length j8,.slice b9 m.datas.length j9]):=zh (by rw[hw0];exact box_new2 w _ _ _)
 clear hw0;have x0:=bx.out 0 _ rfl;have z0:=by'.out 0 _ rfl
 have x1:=bx.out 1 _ rfl;have z1:=by'.out 1 _ rfl
 have x2:=bx.out 2 _ rfl;have z2:=by'.out 2 _ rfl
 have x3:=bx.out 3 _ rfl;have z3:=by'.out 3 _ rfl
 have x4:=bx.out 4 _ rfl;have z4:=by'.out 4 _ rfl
 have x5:=bx.out 5 _ rfl;have z5:=by'.out 5 _ rfl
 have x6:=bx.out 6 _ rfl;have z6:=by'.out 6 _ rfl
 have x7:=bx.out 7 _ rfl;have z7:=by'.out 7 _ rfl
 have x8:=bx.out 8 _ rfl;have z8:=by'.out 8 _ rfl
 have x9:=bx.out 9 _ rfl;have z9:=by'.out 9 _ rfl
 go_wp2_with fail;refine(sizes_true m a0 k0 a1 k1 a2 k2 a3 k3 a4 k4 a5 k5 a6 k6 a7 k7 a8 k8 a9 k9 b0 j0 b1 j1 b2 j2 b3 j3 b4 j4 b5 j5 b6 j6 b7 j7 b8 j8 b9 j9 _ HM.out HN.out).mono ?_;rintro e wr ⟨rfl,hb⟩;replace hb:=zh hb;clear x0 z0 x1 z1 x2 z2 x3 z3 x4 z4 x5 z5 x6 z6 x7 z7 x8 z8 x9 z9;have x:wr.cell? ⟨w.heap.size,0,none⟩=some (.slice a0 m.types.length k0):=zA hb.out _ _ (bx.out 0 _ rfl);have z:wr.cell? ⟨w.heap.size+1,0,none⟩=some (.slice b0 m.types.length j0):=zA hb.out _ _ (by'.out 0 _ rfl);go_wp2_with fail;go_loopw [5] (λvi wr=>∃i:Nat,i<=m.types.length/\vi=.int .i64 i/\Hid (Below w0.heap.size w0 wr)) (λvi _=>m.types.length-(intOf vi).toNat)
 case atStart=>exact⟨0,Nat.zero_le _,rfl,hb⟩
 case' round=>
  clear hb x z;obtain⟨i,hi,rfl,hb⟩:=hrel
  by_cases hlt:i<m.types.length
 case pos=>
  have x:wr.cell? ⟨w.heap.size,0,none⟩=some (.slice a0 m.types.length k0):=zA hb.out _ _ (bx.out 0 _ rfl);have z:wr.cell? ⟨w.heap.size+1,0,none⟩=some (.slice b0 m.types.length j0):=zA hb.out _ _ (by'.out 0 _ rfl);obtain⟨t,ht⟩:∃t,m.types[i]? =some t:=⟨_,List.getElem?_eq_getElem hlt⟩
  obtain⟨b,o,e,hrow⟩:=(HM.out.types.keep λ_ _ _=>TypeAt.keep (zA hb.out)).row ht;obtain⟨b',o',e',hrow'⟩:=(HN.out.types.keep λ_ _ _=>TypeAt.keep (zA hb.out)).row ht;subst e e';clear ht;obtain⟨ps,rs⟩:=t;obtain⟨⟨u0,r0,c0,i0⟩,⟨u1,r1,c1,i1⟩⟩:=hrow;obtain⟨⟨u0',r0',c0',i0'⟩,⟨u1',r1',c1',i1'⟩⟩:=hrow';simp only at c0 c0' c1 c1'
  go_upto_region 6 with fail
  refine wpv_then ?_;intro K hK
  go_cut [54] from 25 to 53 (λsv wx=>sv=.bool false/\Hid (Below wr.heap.size wr wx))
  case rest=>
   obtain⟨rfl,hbw⟩:=hcut;refine(hK _ _).2 ?_;clear hK;have hfb:=zh (hb.out.trans (hbw.out.mono hb.out.size));go_wp2
   go_roundw
   case rel=>exact⟨i+1,by omega,by simp,hfb⟩
   case measure=>simp[intOf];omega
  case first=>
   refine wp_fv _ 303 rfl (xY hmix 303 25 30 [.pointer (some ⟨w.heap.size,0,none⟩),.slice (some ⟨b,o,none⟩) m.types.length k0,.int .i64 (i:Int),.pointer (some ⟨b,o+i*2,none⟩),.pointer (some ⟨b,o+i*2,none⟩),.slice u0 ps.length r0,.pointer (some ⟨w.heap.size+1,0,none⟩),.slice (some ⟨b',o',none⟩) m.types.length j0,.int .i64 (i:Int),.pointer (some ⟨b',o'+i*2,none⟩),.pointer (some ⟨b',o'+i*2,none⟩),.slice u0' ps.length r0',.bool true,.bool false,.bool false,.pointer (some ⟨w.heap.size,0,none⟩),.slice (some ⟨b,o,none⟩) m.types.length k0,.int .i64 (i:Int),.pointer (some ⟨b,o+i*2,none⟩),.pointer (some ⟨b,o+i*2+1,none⟩),.slice u1 rs.length r1,.pointer (some ⟨w.heap.size+1,0,none⟩),.slice (some ⟨b',o',none⟩) m.types.length j0,.int .i64 (i:Int),.pointer (some ⟨b',o'+i*2,none⟩),.pointer (some ⟨b',o'+i*2+1,none⟩),.slice u1' rs.length r1',.bool true,.bool false,.bool false] (by decide) rfl rfl (by kernel_rfl) (by kernel_rfl) ?_ ?_)
   rotate_left
   . intro w' f hbw hf;replace hf:=zh (hf 29 (by decide));go_wp2_with fail;go_meet;exact⟨hf.out,zh hbw⟩
   intro f w' hbx ho;have l1:(i:Int)<(m.types.length:Int):=(by omega)
   have e2:=ho 2 (by decide);have e3:=ho 3 (by decide);have ei:=ho 5 (by decide);have kp:=zA hbx;replace x:=kp _ _ x;replace z:=kp _ _ z;replace c0:=kp ⟨b,o+i*2,none⟩ _ c0;replace c0':=kp ⟨b',o'+i*2,none⟩ _ c0';replace c1:=kp ⟨b,o+i*2+1,none⟩ _ c1;replace c1':=kp ⟨b',o'+i*2+1,none⟩ _ c1';have d0:=zh (vS ps ps _ _ r0 r0' _ (i0.below hbx) (i0'.below hbx));have d1:=zh (vS rs rs _ _ r1 r1' _ (i1.below hbx) (i1'.below hbx));clear ho hbx hb kp HM HN bx by' hB0 i0 i0' i1 i1'
   iterate 30 ((first |refine .run rfl ?_ ?_ |refine .runG rfl rfl ?_ ?_);rotate_left)
   exact .nil
   all_goals
    intro hv K' hK';simp(disch:=decide)only[Needs,Region.binds,List.getD_cons_succ,List.getD_cons_zero,Nat.reduceAdd,true_imp_iff,and_true]at hv;go_simp;(try simp(disch:=decide)only[fv_t,hv,e2,e3,ei]);(try go_simp);first
    |exact hK' _ _ ⟨jZ _ _,Below.refl _ _⟩
    |(go_at_call 37;(with_reducible refine d0.out.mono ?_);rintro e u ⟨rfl,mm,rfl⟩;go_simp;exact hK' _ _ ⟨jZ _ _,belowN (Below.refl _ _) mm⟩)
    |(go_at_call 37;(with_reducible refine d1.out.mono ?_);rintro e u ⟨rfl,mm,rfl⟩;go_simp;exact hK' _ _ ⟨jZ _ _,belowN (Below.refl _ _) mm⟩)
 obtain rfl:i=m.types.length:=by omega
 clear hi hlt;have xx:wr.cell? ⟨w.heap.size,0,none⟩=some (.slice a0 m.types.length k0):=zA hb.out _ _ (bx.out 0 _ rfl);have zz:wr.cell? ⟨w.heap.size+1,0,none⟩=some (.slice b0 m.types.length j0):=zA hb.out _ _ (by'.out 0 _ rfl);have x:wr.cell? ⟨w.heap.size,1,none⟩=some (.slice a1 m.imports.length k1):=zA hb.out _ _ (bx.out 1 _ rfl);have z:wr.cell? ⟨w.heap.size+1,1,none⟩=some (.slice b1 m.imports.length j1):=zA hb.out _ _ (by'.out 1 _ rfl);go_wp2_with fail;go_loopw [6] (λvi wr=>∃i:Nat,i<=m.imports.length/\vi=.int .i64 i/\Hid (Below w0.heap.size w0 wr)) (λvi _=>m.imports.length-(intOf vi).toNat)
 case atStart=>exact⟨0,Nat.zero_le _,rfl,hb⟩
 case' round=>
  clear hb x z;obtain⟨i,hi,rfl,hb⟩:=hrel
  by_cases hlt:i<m.imports.length
 case pos=>
  have x:wr.cell? ⟨w.heap.size,1,none⟩=some (.slice a1 m.imports.length k1):=zA hb.out _ _ (bx.out 1 _ rfl);have z:wr.cell? ⟨w.heap.size+1,1,none⟩=some (.slice b1 m.imports.length j1):=zA hb.out _ _ (by'.out 1 _ rfl);obtain⟨t,ht⟩:∃t,m.imports[i]? =some t:=⟨_,List.getElem?_eq_getElem hlt⟩
  obtain⟨b,o,e,hrow⟩:=(HM.out.imports.keep λ_ _ _=>ImpS.keep (zA hb.out)).row ht;obtain⟨b',o',e',hrow'⟩:=(HN.out.imports.keep λ_ _ _=>ImpS.keep (zA hb.out)).row ht;subst e e';clear ht;obtain⟨s0,s1,v0⟩:=t;obtain⟨c0,c1,c2⟩:=hrow;obtain⟨c0',c1',c2'⟩:=hrow';unfold StrC at c0 c1 c0' c1';unfold jA at c2 c2';simp only at c0 c0' c1 c1' c2 c2'
  go_upto_region 11 with fail
  refine wpv_then ?_;intro K hK
  go_cut [72] from 62 to 71 (λsv wx=>sv=.bool false/\Hid (Below wr.heap.size wr wx))
  case rest=>
   obtain⟨rfl,hbw⟩:=hcut;refine(hK _ _).2 ?_;clear hK;have hfb:=zh (hb.out.trans (hbw.out.mono hb.out.size));go_wp2
   go_roundw
   case rel=>exact⟨i+1,by omega,by simp,hfb⟩
   case measure=>simp[intOf];omega
  case first=>
   refine wp_fv _ 303 rfl (xY hmix 303 62 11 [.pointer (some ⟨w.heap.size,1,none⟩),.slice (some ⟨b,o,none⟩) m.imports.length k1,.int .i64 (i:Int),.pointer (some ⟨b,o+i*3,none⟩),.agg #[.string s0,.string s1,.int .i64 v0],.pointer (some ⟨w.heap.size+1,1,none⟩),.slice (some ⟨b',o',none⟩) m.imports.length j1,.int .i64 (i:Int),.pointer (some ⟨b',o'+i*3,none⟩),.agg #[.string s0,.string s1,.int .i64 v0],.bool false] (by decide) rfl rfl (by kernel_rfl) (by kernel_rfl) ?_ ?_)
   rotate_left
   . intro w' f hbw hf;replace hf:=zh (hf 10 (by decide));go_wp2_with fail;go_meet;exact⟨hf.out,zh hbw⟩
   intro f w' hbx ho;have l1:(i:Int)<(m.imports.length:Int):=(by omega)
   have e2:=ho 2 (by decide);have e3:=ho 3 (by decide);have ei:=ho 6 (by decide);have kp:=zA hbx;replace x:=kp _ _ x;replace z:=kp _ _ z;replace c0:=kp ⟨b,o+i*3,none⟩ _ c0;replace c0':=kp ⟨b',o'+i*3,none⟩ _ c0';replace c1:=kp ⟨b,o+i*3+1,none⟩ _ c1;replace c1':=kp ⟨b',o'+i*3+1,none⟩ _ c1';replace c2:=kp ⟨b,o+i*3+2,none⟩ _ c2;replace c2':=kp ⟨b',o'+i*3+2,none⟩ _ c2';clear ho hbx hb kp HM HN bx by' hB0
   iterate 11 ((first |refine .run rfl ?_ ?_ |refine .runG rfl rfl ?_ ?_);rotate_left)
   exact .nil
   all_goals
    intro hv K' hK';simp(disch:=decide)only[Needs,Region.binds,List.getD_cons_succ,List.getD_cons_zero,Nat.reduceAdd,true_imp_iff,and_true]at hv;go_simp;(try simp(disch:=decide)only[fv_t,hv,e2,e3,ei]);(try go_simp);exact hK' _ _ ⟨jZ _ _,Below.refl _ _⟩
 obtain rfl:i=m.imports.length:=by omega
 clear hi hlt;have xx:wr.cell? ⟨w.heap.size,1,none⟩=some (.slice a1 m.imports.length k1):=zA hb.out _ _ (bx.out 1 _ rfl);have zz:wr.cell? ⟨w.heap.size+1,1,none⟩=some (.slice b1 m.imports.length j1):=zA hb.out _ _ (by'.out 1 _ rfl);have x:wr.cell? ⟨w.heap.size,2,none⟩=some (.slice a2 m.funcs.length k2):=zA hb.out _ _ (bx.out 2 _ rfl);have z:wr.cell? ⟨w.heap.size+1,2,none⟩=some (.slice b2 m.funcs.length j2):=zA hb.out _ _ (by'.out 2 _ rfl);go_wp2_with fail;go_loopw [7] (λvi wr=>∃i:Nat,i<=m.funcs.length/\vi=.int .i64 i/\Hid (Below w0.heap.size w0 wr)) (λvi _=>m.funcs.length-(intOf vi).toNat)
 case atStart=>exact⟨0,Nat.zero_le _,rfl,hb⟩
 case' round=>
  clear hb x z;obtain⟨i,hi,rfl,hb⟩:=hrel
  by_cases hlt:i<m.funcs.length
 case pos=>
  have x:wr.cell? ⟨w.heap.size,2,none⟩=some (.slice a2 m.funcs.length k2):=zA hb.out _ _ (bx.out 2 _ rfl);have z:wr.cell? ⟨w.heap.size+1,2,none⟩=some (.slice b2 m.funcs.length j2):=zA hb.out _ _ (by'.out 2 _ rfl);obtain⟨t,ht⟩:∃t,m.funcs[i]? =some t:=⟨_,List.getElem?_eq_getElem hlt⟩
  obtain⟨b,o,e,hrow⟩:=(HM.out.funcs.keep λ_ _ _=>FuncAt.keep (zA hb.out)).row ht;obtain⟨b',o',e',hrow'⟩:=(HN.out.funcs.keep λ_ _ _=>FuncAt.keep (zA hb.out)).row ht;subst e e';clear ht;obtain⟨v0,ls,il⟩:=t;obtain⟨c0,⟨u1,r1,c1,i1⟩,⟨u2,r2,c2,L2,i2⟩⟩:=hrow;obtain⟨c0',⟨u1',r1',c1',i1'⟩,⟨u2',r2',c2',-,i2'⟩⟩:=hrow';unfold jA at c0 c0';simp only at c0 c0' c1 c1' c2 c2'
  go_upto_region 16 with fail
  refine wpv_then ?_;intro K hK
  go_cut [124] from 80 to 123 (λsv wx=>sv=.bool false/\Hid (Below wr.heap.size wr wx))
  case rest=>
   obtain⟨rfl,hbw⟩:=hcut;refine(hK _ _).2 ?_;clear hK;have hfb:=zh (hb.out.trans (hbw.out.mono hb.out.size));go_wp2
   go_roundw
   case rel=>exact⟨i+1,by omega,by simp,hfb⟩
   case measure=>simp[intOf];omega
  case first=>
   refine wp_fv _ 303 rfl (xY hmix 303 80 45 [.pointer (some ⟨w.heap.size,2,none⟩),.slice (some ⟨b,o,none⟩) m.funcs.length k2,.int .i64 (i:Int),.pointer (some ⟨b,o+i*3,none⟩),.pointer (some ⟨b,o+i*3,none⟩),.int .i64 v0,.pointer (some ⟨w.heap.size+1,2,none⟩),.slice (some ⟨b',o',none⟩) m.funcs.length j2,.int .i64 (i:Int),.pointer (some ⟨b',o'+i*3,none⟩),.pointer (some ⟨b',o'+i*3,none⟩),.int .i64 v0,.bool false,.bool false,.pointer (some ⟨w.heap.size,2,none⟩),.slice (some ⟨b,o,none⟩) m.funcs.length k2,.int .i64 (i:Int),.pointer (some ⟨b,o+i*3,none⟩),.pointer (some ⟨b,o+i*3+1,none⟩),.slice u1 ls.length r1,.pointer (some ⟨w.heap.size+1,2,none⟩),.slice (some ⟨b',o',none⟩) m.funcs.length j2,.int .i64 (i:Int),.pointer (some ⟨b',o'+i*3,none⟩),.pointer (some ⟨b',o'+i*3+1,none⟩),.slice u1' ls.length r1',.bool true,.bool false,.bool false,.bool false,.pointer (some ⟨w.heap.size,2,none⟩),.slice (some ⟨b,o,none⟩) m.funcs.length k2,.int .i64 (i:Int),.pointer (some ⟨b,o+i*3,none⟩),.pointer (some ⟨b,o+i*3+2,none⟩),.slice u2 il.len r2,.pointer (some ⟨w.heap.size+1,2,none⟩),.slice (some ⟨b',o',none⟩) m.funcs.length j2,.int .i64 (i:Int),.pointer (some ⟨b',o'+i*3,none⟩),.pointer (some ⟨b',o'+i*3+2,none⟩),.slice u2' il.len r2',.bool true,.bool false,.bool false] (by decide) rfl rfl (by kernel_rfl) (by kernel_rfl) ?_ ?_)
   rotate_left
   . intro w' f hbw hf;replace hf:=zh (hf 44 (by decide));go_wp2_with fail;go_meet;exact⟨hf.out,zh hbw⟩
   intro f w' hbx ho;have l1:(i:Int)<(m.funcs.length:Int):=(by omega)
   have e2:=ho 2 (by decide);have e3:=ho 3 (by decide);have ei:=ho 7 (by decide);have kp:=zA hbx;replace x:=kp _ _ x;replace z:=kp _ _ z;replace c0:=kp ⟨b,o+i*3,none⟩ _ c0;replace c0':=kp ⟨b',o'+i*3,none⟩ _ c0';replace c1:=kp ⟨b,o+i*3+1,none⟩ _ c1;replace c1':=kp ⟨b',o'+i*3+1,none⟩ _ c1';replace c2:=kp ⟨b,o+i*3+2,none⟩ _ c2;replace c2':=kp ⟨b',o'+i*3+2,none⟩ _ c2';have d0:=zh (vS ls ls _ _ r1 r1' _ (i1.below hbx) (i1'.below hbx));have d1:=zh (instrs_any il il _ _ r2 r2' _ L2 L2 (i2.below hbx) (i2'.below hbx));have hse:=zh (ilEq_self il);clear ho hbx hb kp HM HN bx by' hB0 i1 i1' i2 i2'
   iterate 45 ((first |refine .run rfl ?_ ?_ |refine .runG rfl rfl ?_ ?_);rotate_left)
   exact .nil
   all_goals
    intro hv K' hK';simp(disch:=decide)only[Needs,Region.binds,List.getD_cons_succ,List.getD_cons_zero,Nat.reduceAdd,true_imp_iff,and_true]at hv;go_simp;(try simp(disch:=decide)only[fv_t,hv,e2,e3,ei]);(try go_simp);first
    |exact hK' _ _ ⟨jZ _ _,Below.refl _ _⟩
    |(go_at_call 37;(with_reducible refine d0.out.mono ?_);rintro e u ⟨rfl,mm,rfl⟩;go_simp;exact hK' _ _ ⟨jZ _ _,belowN (Below.refl _ _) mm⟩)
    |(go_at_call 38;(with_reducible refine d1.out.mono ?_);rintro e u ⟨rfl,hu⟩;rw[hse.out];go_simp;exact hK' _ _ ⟨jZ _ _,hu⟩)
 obtain rfl:i=m.funcs.length:=by omega
 clear hi hlt;have xx:wr.cell? ⟨w.heap.size,2,none⟩=some (.slice a2 m.funcs.length k2):=zA hb.out _ _ (bx.out 2 _ rfl);have zz:wr.cell? ⟨w.heap.size+1,2,none⟩=some (.slice b2 m.funcs.length j2):=zA hb.out _ _ (by'.out 2 _ rfl);have x:wr.cell? ⟨w.heap.size,3,none⟩=some (.slice a3 m.tables.length k3):=zA hb.out _ _ (bx.out 3 _ rfl);have z:wr.cell? ⟨w.heap.size+1,3,none⟩=some (.slice b3 m.tables.length j3):=zA hb.out _ _ (by'.out 3 _ rfl);go_wp2_with fail;go_loopw [8] (λvi wr=>∃i:Nat,i<=m.tables.length/\vi=.int .i64 i/\Hid (Below w0.heap.size w0 wr)) (λvi _=>m.tables.length-(intOf vi).toNat)
 case atStart=>exact⟨0,Nat.zero_le _,rfl,hb⟩
 case' round=>
  clear hb x z;obtain⟨i,hi,rfl,hb⟩:=hrel
  by_cases hlt:i<m.tables.length
 case pos=>
  have x:wr.cell? ⟨w.heap.size,3,none⟩=some (.slice a3 m.tables.length k3):=zA hb.out _ _ (bx.out 3 _ rfl);have z:wr.cell? ⟨w.heap.size+1,3,none⟩=some (.slice b3 m.tables.length j3):=zA hb.out _ _ (by'.out 3 _ rfl);obtain⟨t,ht⟩:∃t,m.tables[i]? =some t:=⟨_,List.getElem?_eq_getElem hlt⟩
  obtain⟨b,o,e,hrow⟩:=(HM.out.tables.keep λ_ _ _=>LimitsAt.keep (zA hb.out)).row ht;obtain⟨b',o',e',hrow'⟩:=(HN.out.tables.keep λ_ _ _=>LimitsAt.keep (zA hb.out)).row ht;subst e e';clear ht;obtain⟨v0,v1,k⟩:=t;obtain⟨c0,c1,c2⟩:=hrow;obtain⟨c0',c1',c2'⟩:=hrow';unfold jA at c0 c1 c0' c1';unfold BoolCell at c2 c2';simp only at c0 c0' c1 c1' c2 c2'
  go_upto_region 21 with fail
  refine wpv_then ?_;intro K hK
  go_cut [142] from 132 to 141 (λsv wx=>sv=.bool false/\Hid (Below wr.heap.size wr wx))
  case rest=>
   obtain⟨rfl,hbw⟩:=hcut;refine(hK _ _).2 ?_;clear hK;have hfb:=zh (hb.out.trans (hbw.out.mono hb.out.size));go_wp2
   go_roundw
   case rel=>exact⟨i+1,by omega,by simp,hfb⟩
   case measure=>simp[intOf];omega
  case first=>
   refine wp_fv _ 303 rfl (xY hmix 303 132 11 [.pointer (some ⟨w.heap.size,3,none⟩),.slice (some ⟨b,o,none⟩) m.tables.length k3,.int .i64 (i:Int),.pointer (some ⟨b,o+i*3,none⟩),.agg #[.int .i64 v0,.int .i64 v1,.bool k],.pointer (some ⟨w.heap.size+1,3,none⟩),.slice (some ⟨b',o',none⟩) m.tables.length j3,.int .i64 (i:Int),.pointer (some ⟨b',o'+i*3,none⟩),.agg #[.int .i64 v0,.int .i64 v1,.bool k],.bool false] (by decide) rfl rfl (by kernel_rfl) (by kernel_rfl) ?_ ?_)
   rotate_left
   . intro w' f hbw hf;replace hf:=zh (hf 10 (by decide));go_wp2_with fail;go_meet;exact⟨hf.out,zh hbw⟩
   intro f w' hbx ho;have l1:(i:Int)<(m.tables.length:Int):=(by omega)
   have e2:=ho 2 (by decide);have e3:=ho 3 (by decide);have ei:=ho 8 (by decide);have kp:=zA hbx;replace x:=kp _ _ x;replace z:=kp _ _ z;replace c0:=kp ⟨b,o+i*3,none⟩ _ c0;replace c0':=kp ⟨b',o'+i*3,none⟩ _ c0';replace c1:=kp ⟨b,o+i*3+1,none⟩ _ c1;replace c1':=kp ⟨b',o'+i*3+1,none⟩ _ c1';replace c2:=kp ⟨b,o+i*3+2,none⟩ _ c2;replace c2':=kp ⟨b',o'+i*3+2,none⟩ _ c2';clear ho hbx hb kp HM HN bx by' hB0
   iterate 11 ((first |refine .run rfl ?_ ?_ |refine .runG rfl rfl ?_ ?_);rotate_left)
   exact .nil
   all_goals
    intro hv K' hK';simp(disch:=decide)only[Needs,Region.binds,List.getD_cons_succ,List.getD_cons_zero,Nat.reduceAdd,true_imp_iff,and_true]at hv;go_simp;(try simp(disch:=decide)only[fv_t,hv,e2,e3,ei]);(try go_simp);exact hK' _ _ ⟨jZ _ _,Below.refl _ _⟩
 obtain rfl:i=m.tables.length:=by omega
 clear hi hlt;have xx:wr.cell? ⟨w.heap.size,3,none⟩=some (.slice a3 m.tables.length k3):=zA hb.out _ _ (bx.out 3 _ rfl);have zz:wr.cell? ⟨w.heap.size+1,3,none⟩=some (.slice b3 m.tables.length j3):=zA hb.out _ _ (by'.out 3 _ rfl);have x:wr.cell? ⟨w.heap.size,4,none⟩=some (.slice a4 m.mems.length k4):=zA hb.out _ _ (bx.out 4 _ rfl);have z:wr.cell? ⟨w.heap.size+1,4,none⟩=some (.slice b4 m.mems.length j4):=zA hb.out _ _ (by'.out 4 _ rfl);go_wp2_with fail;go_loopw [9] (λvi wr=>∃i:Nat,i<=m.mems.length/\vi=.int .i64 i/\Hid (Below w0.heap.size w0 wr)) (λvi _=>m.mems.length-(intOf vi).toNat)
 case atStart=>exact⟨0,Nat.zero_le _,rfl,hb⟩
 case' round=>
  clear hb x z;obtain⟨i,hi,rfl,hb⟩:=hrel
  by_cases hlt:i<m.mems.length
 case pos=>
  have x:wr.cell? ⟨w.heap.size,4,none⟩=some (.slice a4 m.mems.length k4):=zA hb.out _ _ (bx.out 4 _ rfl);have z:wr.cell? ⟨w.heap.size+1,4,none⟩=some (.slice b4 m.mems.length j4):=zA hb.out _ _ (by'.out 4 _ rfl);obtain⟨t,ht⟩:∃t,m.mems[i]? =some t:=⟨_,List.getElem?_eq_getElem hlt⟩
  obtain⟨b,o,e,hrow⟩:=(HM.out.mems.keep λ_ _ _=>LimitsAt.keep (zA hb.out)).row ht;obtain⟨b',o',e',hrow'⟩:=(HN.out.mems.keep λ_ _ _=>LimitsAt.keep (zA hb.out)).row ht;subst e e';clear ht;obtain⟨v0,v1,k⟩:=t;obtain⟨c0,c1,c2⟩:=hrow;obtain⟨c0',c1',c2'⟩:=hrow';unfold jA at c0 c1 c0' c1';unfold BoolCell at c2 c2';simp only at c0 c0' c1 c1' c2 c2'
  go_upto_region 26 with fail
  refine wpv_then ?_;intro K hK
  go_cut [160] from 150 to 159 (λsv wx=>sv=.bool false/\Hid (Below wr.heap.size wr wx))
  case rest=>
   obtain⟨rfl,hbw⟩:=hcut;refine(hK _ _).2 ?_;clear hK;have hfb:=zh (hb.out.trans (hbw.out.mono hb.out.size));go_wp2
   go_roundw
   case rel=>exact⟨i+1,by omega,by simp,hfb⟩
   case measure=>simp[intOf];omega
  case first=>
   refine wp_fv _ 303 rfl (xY hmix 303 150 11 [.pointer (some ⟨w.heap.size,4,none⟩),.slice (some ⟨b,o,none⟩) m.mems.length k4,.int .i64 (i:Int),.pointer (some ⟨b,o+i*3,none⟩),.agg #[.int .i64 v0,.int .i64 v1,.bool k],.pointer (some ⟨w.heap.size+1,4,none⟩),.slice (some ⟨b',o',none⟩) m.mems.length j4,.int .i64 (i:Int),.pointer (some ⟨b',o'+i*3,none⟩),.agg #[.int .i64 v0,.int .i64 v1,.bool k],.bool false] (by decide) rfl rfl (by kernel_rfl) (by kernel_rfl) ?_ ?_)
   rotate_left
   . intro w' f hbw hf;replace hf:=zh (hf 10 (by decide));go_wp2_with fail;go_meet;exact⟨hf.out,zh hbw⟩
   intro f w' hbx ho;have l1:(i:Int)<(m.mems.length:Int):=(by omega)
   have e2:=ho 2 (by decide);have e3:=ho 3 (by decide);have ei:=ho 9 (by decide);have kp:=zA hbx;replace x:=kp _ _ x;replace z:=kp _ _ z;replace c0:=kp ⟨b,o+i*3,none⟩ _ c0;replace c0':=kp ⟨b',o'+i*3,none⟩ _ c0';replace c1:=kp ⟨b,o+i*3+1,none⟩ _ c1;replace c1':=kp ⟨b',o'+i*3+1,none⟩ _ c1';replace c2:=kp ⟨b,o+i*3+2,none⟩ _ c2;replace c2':=kp ⟨b',o'+i*3+2,none⟩ _ c2';clear ho hbx hb kp HM HN bx by' hB0
   iterate 11 ((first |refine .run rfl ?_ ?_ |refine .runG rfl rfl ?_ ?_);rotate_left)
   exact .nil
   all_goals
    intro hv K' hK';simp(disch:=decide)only[Needs,Region.binds,List.getD_cons_succ,List.getD_cons_zero,Nat.reduceAdd,true_imp_iff,and_true]at hv;go_simp;(try simp(disch:=decide)only[fv_t,hv,e2,e3,ei]);(try go_simp);exact hK' _ _ ⟨jZ _ _,Below.refl _ _⟩
 obtain rfl:i=m.mems.length:=by omega
 clear hi hlt;have xx:wr.cell? ⟨w.heap.size,4,none⟩=some (.slice a4 m.mems.length k4):=zA hb.out _ _ (bx.out 4 _ rfl);have zz:wr.cell? ⟨w.heap.size+1,4,none⟩=some (.slice b4 m.mems.length j4):=zA hb.out _ _ (by'.out 4 _ rfl);have x:wr.cell? ⟨w.heap.size,5,none⟩=some (.slice a5 m.globals.length k5):=zA hb.out _ _ (bx.out 5 _ rfl);have z:wr.cell? ⟨w.heap.size+1,5,none⟩=some (.slice b5 m.globals.length j5):=zA hb.out _ _ (by'.out 5 _ rfl);go_wp2_with fail;go_loopw [10] (λvi wr=>∃i:Nat,i<=m.globals.length/\vi=.int .i64 i/\Hid (Below w0.heap.size w0 wr)) (λvi _=>m.globals.length-(intOf vi).toNat)
 case atStart=>exact⟨0,Nat.zero_le _,rfl,hb⟩
 case' round=>
  clear hb x z;obtain⟨i,hi,rfl,hb⟩:=hrel
  by_cases hlt:i<m.globals.length
 case pos=>
  have x:wr.cell? ⟨w.heap.size,5,none⟩=some (.slice a5 m.globals.length k5):=zA hb.out _ _ (bx.out 5 _ rfl);have z:wr.cell? ⟨w.heap.size+1,5,none⟩=some (.slice b5 m.globals.length j5):=zA hb.out _ _ (by'.out 5 _ rfl);obtain⟨t,ht⟩:∃t,m.globals[i]? =some t:=⟨_,List.getElem?_eq_getElem hlt⟩
  obtain⟨b,o,e,hrow⟩:=(HM.out.globals.keep λ_ _ _=>GlobalAt.keep (zA hb.out)).row ht;obtain⟨b',o',e',hrow'⟩:=(HN.out.globals.keep λ_ _ _=>GlobalAt.keep (zA hb.out)).row ht;subst e e';clear ht;obtain⟨v0,k,op⟩:=t;obtain⟨c0,c1,hone⟩:=hrow;obtain⟨c0',c1',hone'⟩:=hrow';unfold jA at c0 c0';unfold BoolCell at c1 c1';obtain⟨t1,t2,t3,t4,ls,body,els⟩:=op;obtain⟨⟨c2,c3,c4,c5⟩,⟨u4,r4,c6,i4⟩,⟨u5,r5,c7,l5,i5⟩,⟨u6,r6,c8,l6,i6⟩,-⟩:=hone;obtain⟨⟨c2',c3',c4',c5'⟩,⟨u4',r4',c6',i4'⟩,⟨u5',r5',c7',l5',i5'⟩,⟨u6',r6',c8',l6',i6'⟩,-⟩:=hone';have o1:OneIs wr ⟨t1,t2,t3,t4,ls,body,els⟩ u4 r4 u5 r5 u6 r6:=⟨i4,l5,inv0 i5,l6,inv0 i6⟩
  have o2:OneIs wr ⟨t1,t2,t3,t4,ls,body,els⟩ u4' r4' u5' r5' u6' r6':=⟨i4',l5',inv0 i5',l6',inv0 i6'⟩
  simp only at c0 c0' c1 c1' c2 c2' c3 c3' c4 c4' c5 c5' c6 c6' c7 c7' c8 c8'
  go_upto_region 31 with fail
  refine wpv_then ?_;intro K hK
  go_cut [211] from 168 to 210 (λsv wx=>sv=.bool false/\Hid (Below wr.heap.size wr wx))
  case rest=>
   obtain⟨rfl,hbw⟩:=hcut;refine(hK _ _).2 ?_;clear hK;have hfb:=zh (hb.out.trans (hbw.out.mono hb.out.size));go_wp2
   go_roundw
   case rel=>exact⟨i+1,by omega,by simp,hfb⟩
   case measure=>simp[intOf];omega
  case first=>
   refine wp_fv _ 303 rfl (xY hmix 303 168 44 [.pointer (some ⟨w.heap.size,5,none⟩),.slice (some ⟨b,o,none⟩) m.globals.length k5,.int .i64 (i:Int),.pointer (some ⟨b,o+i*9,none⟩),.pointer (some ⟨b,o+i*9,none⟩),.int .i64 v0,.pointer (some ⟨w.heap.size+1,5,none⟩),.slice (some ⟨b',o',none⟩) m.globals.length j5,.int .i64 (i:Int),.pointer (some ⟨b',o'+i*9,none⟩),.pointer (some ⟨b',o'+i*9,none⟩),.int .i64 v0,.bool false,.bool false,.pointer (some ⟨w.heap.size,5,none⟩),.slice (some ⟨b,o,none⟩) m.globals.length k5,.int .i64 (i:Int),.pointer (some ⟨b,o+i*9,none⟩),.pointer (some ⟨b,o+i*9+1,none⟩),.bool k,.pointer (some ⟨w.heap.size+1,5,none⟩),.slice (some ⟨b',o',none⟩) m.globals.length j5,.int .i64 (i:Int),.pointer (some ⟨b',o'+i*9,none⟩),.pointer (some ⟨b',o'+i*9+1,none⟩),.bool k,.bool false,.bool false,.bool false,.pointer (some ⟨w.heap.size,5,none⟩),.slice (some ⟨b,o,none⟩) m.globals.length k5,.int .i64 (i:Int),.pointer (some ⟨b,o+i*9,none⟩),.pointer (some ⟨b,o+i*9+2,none⟩),.agg #[.int .i64 t1,.int .i64 t2,.int .i64 t3,.int .i64 t4,.slice u4 ls.length r4,.slice u5 body.len r5,.slice u6 els.len r6],.pointer (some ⟨w.heap.size+1,5,none⟩),.slice (some ⟨b',o',none⟩) m.globals.length j5,.int .i64 (i:Int),.pointer (some ⟨b',o'+i*9,none⟩),.pointer (some ⟨b',o'+i*9+2,none⟩),.agg #[.int .i64 t1,.int .i64 t2,.int .i64 t3,.int .i64 t4,.slice u4' ls.length r4',.slice u5' body.len r5',.slice u6' els.len r6'],.bool true,.bool false,.bool false] (by decide) rfl rfl (by kernel_rfl) (by kernel_rfl) ?_ ?_)
   rotate_left
   . intro w' f hbw hf;replace hf:=zh (hf 43 (by decide));go_wp2_with fail;go_meet;exact⟨hf.out,zh hbw⟩
   intro f w' hbx ho;have l1:(i:Int)<(m.globals.length:Int):=(by omega)
   have e2:=ho 2 (by decide);have e3:=ho 3 (by decide);have ei:=ho 10 (by decide);have kp:=zA hbx;replace x:=kp _ _ x;replace z:=kp _ _ z;replace c0:=kp ⟨b,o+i*9,none⟩ _ c0;replace c0':=kp ⟨b',o'+i*9,none⟩ _ c0';replace c1:=kp ⟨b,o+i*9+1,none⟩ _ c1;replace c1':=kp ⟨b',o'+i*9+1,none⟩ _ c1';replace c2:=kp ⟨b,o+i*9+2,none⟩ _ c2;replace c2':=kp ⟨b',o'+i*9+2,none⟩ _ c2';replace c3:=kp ⟨b,o+i*9+3,none⟩ _ c3;replace c3':=kp ⟨b',o'+i*9+3,none⟩ _ c3';replace c4:=kp ⟨b,o+i*9+4,none⟩ _ c4;replace c4':=kp ⟨b',o'+i*9+4,none⟩ _ c4';replace c5:=kp ⟨b,o+i*9+5,none⟩ _ c5;replace c5':=kp ⟨b',o'+i*9+5,none⟩ _ c5';replace c6:=kp ⟨b,o+i*9+6,none⟩ _ c6;replace c6':=kp ⟨b',o'+i*9+6,none⟩ _ c6';replace c7:=kp ⟨b,o+i*9+7,none⟩ _ c7;replace c7':=kp ⟨b',o'+i*9+7,none⟩ _ c7';replace c8:=kp ⟨b,o+i*9+8,none⟩ _ c8;replace c8':=kp ⟨b',o'+i*9+8,none⟩ _ c8';have d0:=zh (one_true (o1.keep kp) (o2.keep kp));clear ho hbx hb kp HM HN bx by' hB0 o1 o2
   iterate 44 ((first |refine .run rfl ?_ ?_ |refine .runG rfl rfl ?_ ?_);rotate_left)
   exact .nil
   all_goals
    intro hv K' hK';simp(disch:=decide)only[Needs,Region.binds,List.getD_cons_succ,List.getD_cons_zero,Nat.reduceAdd,true_imp_iff,and_true]at hv;go_simp;(try simp(disch:=decide)only[fv_t,hv,e2,e3,ei]);(try go_simp);first
    |exact hK' _ _ ⟨jZ _ _,Below.refl _ _⟩
    |(go_at_call 39;(with_reducible refine d0.out.mono ?_);rintro e u ⟨rfl,hu⟩;go_simp;exact hK' _ _ ⟨jZ _ _,hu⟩)
 obtain rfl:i=m.globals.length:=by omega
 clear hi hlt;have xx:wr.cell? ⟨w.heap.size,5,none⟩=some (.slice a5 m.globals.length k5):=zA hb.out _ _ (bx.out 5 _ rfl);have zz:wr.cell? ⟨w.heap.size+1,5,none⟩=some (.slice b5 m.globals.length j5):=zA hb.out _ _ (by'.out 5 _ rfl);have x:wr.cell? ⟨w.heap.size,6,none⟩=some (.slice a6 m.exports.length k6):=zA hb.out _ _ (bx.out 6 _ rfl);have z:wr.cell? ⟨w.heap.size+1,6,none⟩=some (.slice b6 m.exports.length j6):=zA hb.out _ _ (by'.out 6 _ rfl);go_wp2_with fail;go_loopw [11] (λvi wr=>∃i:Nat,i<=m.exports.length/\vi=.int .i64 i/\Hid (Below w0.heap.size w0 wr)) (λvi _=>m.exports.length-(intOf vi).toNat)
 case atStart=>exact⟨0,Nat.zero_le _,rfl,hb⟩
 case' round=>
  clear hb x z;obtain⟨i,hi,rfl,hb⟩:=hrel
  by_cases hlt:i<m.exports.length
 case pos=>
  have x:wr.cell? ⟨w.heap.size,6,none⟩=some (.slice a6 m.exports.length k6):=zA hb.out _ _ (bx.out 6 _ rfl);have z:wr.cell? ⟨w.heap.size+1,6,none⟩=some (.slice b6 m.exports.length j6):=zA hb.out _ _ (by'.out 6 _ rfl);obtain⟨t,ht⟩:∃t,m.exports[i]? =some t:=⟨_,List.getElem?_eq_getElem hlt⟩
  obtain⟨b,o,e,hrow⟩:=(HM.out.exports.keep λ_ _ _=>ExpS.keep (zA hb.out)).row ht;obtain⟨b',o',e',hrow'⟩:=(HN.out.exports.keep λ_ _ _=>ExpS.keep (zA hb.out)).row ht;subst e e';clear ht;obtain⟨s0,v0,v1⟩:=t;obtain⟨c0,c1,c2⟩:=hrow;obtain⟨c0',c1',c2'⟩:=hrow';unfold StrC at c0 c0';unfold jA at c1 c2 c1' c2';simp only at c0 c0' c1 c1' c2 c2'
  go_upto_region 36 with fail
  refine wpv_then ?_;intro K hK
  go_cut [229] from 219 to 228 (λsv wx=>sv=.bool false/\Hid (Below wr.heap.size wr wx))
  case rest=>
   obtain⟨rfl,hbw⟩:=hcut;refine(hK _ _).2 ?_;clear hK;have hfb:=zh (hb.out.trans (hbw.out.mono hb.out.size));go_wp2
   go_roundw
   case rel=>exact⟨i+1,by omega,by simp,hfb⟩
   case measure=>simp[intOf];omega
  case first=>
   refine wp_fv _ 303 rfl (xY hmix 303 219 11 [.pointer (some ⟨w.heap.size,6,none⟩),.slice (some ⟨b,o,none⟩) m.exports.length k6,.int .i64 (i:Int),.pointer (some ⟨b,o+i*3,none⟩),.agg #[.string s0,.int .i64 v0,.int .i64 v1],.pointer (some ⟨w.heap.size+1,6,none⟩),.slice (some ⟨b',o',none⟩) m.exports.length j6,.int .i64 (i:Int),.pointer (some ⟨b',o'+i*3,none⟩),.agg #[.string s0,.int .i64 v0,.int .i64 v1],.bool false] (by decide) rfl rfl (by kernel_rfl) (by kernel_rfl) ?_ ?_)
   rotate_left
   . intro w' f hbw hf;replace hf:=zh (hf 10 (by decide));go_wp2_with fail;go_meet;exact⟨hf.out,zh hbw⟩
   intro f w' hbx ho;have l1:(i:Int)<(m.exports.length:Int):=(by omega)
   have e2:=ho 2 (by decide);have e3:=ho 3 (by decide);have ei:=ho 11 (by decide);have kp:=zA hbx;replace x:=kp _ _ x;replace z:=kp _ _ z;replace c0:=kp ⟨b,o+i*3,none⟩ _ c0;replace c0':=kp ⟨b',o'+i*3,none⟩ _ c0';replace c1:=kp ⟨b,o+i*3+1,none⟩ _ c1;replace c1':=kp ⟨b',o'+i*3+1,none⟩ _ c1';replace c2:=kp ⟨b,o+i*3+2,none⟩ _ c2;replace c2':=kp ⟨b',o'+i*3+2,none⟩ _ c2';clear ho hbx hb kp HM HN bx by' hB0
   iterate 11 ((first |refine .run rfl ?_ ?_ |refine .runG rfl rfl ?_ ?_);rotate_left)
   exact .nil
   all_goals
    intro hv K' hK';simp(disch:=decide)only[Needs,Region.binds,List.getD_cons_succ,List.getD_cons_zero,Nat.reduceAdd,true_imp_iff,and_true]at hv;go_simp;(try simp(disch:=decide)only[fv_t,hv,e2,e3,ei]);(try go_simp);exact hK' _ _ ⟨jZ _ _,Below.refl _ _⟩
 obtain rfl:i=m.exports.length:=by omega
 clear hi hlt;have xx:wr.cell? ⟨w.heap.size,6,none⟩=some (.slice a6 m.exports.length k6):=zA hb.out _ _ (bx.out 6 _ rfl);have zz:wr.cell? ⟨w.heap.size+1,6,none⟩=some (.slice b6 m.exports.length j6):=zA hb.out _ _ (by'.out 6 _ rfl);have x:wr.cell? ⟨w.heap.size,8,none⟩=some (.slice a8 m.elems.length k8):=zA hb.out _ _ (bx.out 8 _ rfl);have z:wr.cell? ⟨w.heap.size+1,8,none⟩=some (.slice b8 m.elems.length j8):=zA hb.out _ _ (by'.out 8 _ rfl);go_wp2_with fail;go_loopw [12] (λvi wr=>∃i:Nat,i<=m.elems.length/\vi=.int .i64 i/\Hid (Below w0.heap.size w0 wr)) (λvi _=>m.elems.length-(intOf vi).toNat)
 case atStart=>exact⟨0,Nat.zero_le _,rfl,hb⟩
 case' round=>
  clear hb x z;obtain⟨i,hi,rfl,hb⟩:=hrel
  by_cases hlt:i<m.elems.length
 case pos=>
  have x:wr.cell? ⟨w.heap.size,8,none⟩=some (.slice a8 m.elems.length k8):=zA hb.out _ _ (bx.out 8 _ rfl);have z:wr.cell? ⟨w.heap.size+1,8,none⟩=some (.slice b8 m.elems.length j8):=zA hb.out _ _ (by'.out 8 _ rfl);obtain⟨t,ht⟩:∃t,m.elems[i]? =some t:=⟨_,List.getElem?_eq_getElem hlt⟩
  obtain⟨b,o,e,hrow⟩:=(HM.out.elems.keep λ_ _ _=>ElemAt.keep (zA hb.out)).row ht;obtain⟨b',o',e',hrow'⟩:=(HN.out.elems.keep λ_ _ _=>ElemAt.keep (zA hb.out)).row ht;subst e e';clear ht;obtain⟨op,fs⟩:=t;obtain⟨hone,⟨u7,r7,c7,i7⟩⟩:=hrow;obtain⟨hone',⟨u7',r7',c7',i7'⟩⟩:=hrow';obtain⟨t1,t2,t3,t4,ls,body,els⟩:=op;obtain⟨⟨c0,c1,c2,c3⟩,⟨u4,r4,c4,i4⟩,⟨u5,r5,c5,l5,i5⟩,⟨u6,r6,c6,l6,i6⟩,-⟩:=hone;obtain⟨⟨c0',c1',c2',c3'⟩,⟨u4',r4',c4',i4'⟩,⟨u5',r5',c5',l5',i5'⟩,⟨u6',r6',c6',l6',i6'⟩,-⟩:=hone';have o1:OneIs wr ⟨t1,t2,t3,t4,ls,body,els⟩ u4 r4 u5 r5 u6 r6:=⟨i4,l5,inv0 i5,l6,inv0 i6⟩
  have o2:OneIs wr ⟨t1,t2,t3,t4,ls,body,els⟩ u4' r4' u5' r5' u6' r6':=⟨i4',l5',inv0 i5',l6',inv0 i6'⟩
  simp only at c0 c0' c1 c1' c2 c2' c3 c3' c4 c4' c5 c5' c6 c6' c7 c7'
  go_upto_region 41 with fail
  refine wpv_then ?_;intro K hK
  go_cut [266] from 237 to 265 (λsv wx=>sv=.bool false/\Hid (Below wr.heap.size wr wx))
  case rest=>
   obtain⟨rfl,hbw⟩:=hcut;refine(hK _ _).2 ?_;clear hK;have hfb:=zh (hb.out.trans (hbw.out.mono hb.out.size));go_wp2
   go_roundw
   case rel=>exact⟨i+1,by omega,by simp,hfb⟩
   case measure=>simp[intOf];omega
  case first=>
   refine wp_fv _ 303 rfl (xY hmix 303 237 30 [.pointer (some ⟨w.heap.size,8,none⟩),.slice (some ⟨b,o,none⟩) m.elems.length k8,.int .i64 (i:Int),.pointer (some ⟨b,o+i*8,none⟩),.pointer (some ⟨b,o+i*8,none⟩),.agg #[.int .i64 t1,.int .i64 t2,.int .i64 t3,.int .i64 t4,.slice u4 ls.length r4,.slice u5 body.len r5,.slice u6 els.len r6],.pointer (some ⟨w.heap.size+1,8,none⟩),.slice (some ⟨b',o',none⟩) m.elems.length j8,.int .i64 (i:Int),.pointer (some ⟨b',o'+i*8,none⟩),.pointer (some ⟨b',o'+i*8,none⟩),.agg #[.int .i64 t1,.int .i64 t2,.int .i64 t3,.int .i64 t4,.slice u4' ls.length r4',.slice u5' body.len r5',.slice u6' els.len r6'],.bool true,.bool false,.bool false,.pointer (some ⟨w.heap.size,8,none⟩),.slice (some ⟨b,o,none⟩) m.elems.length k8,.int .i64 (i:Int),.pointer (some ⟨b,o+i*8,none⟩),.pointer (some ⟨b,o+i*8+7,none⟩),.slice u7 fs.length r7,.pointer (some ⟨w.heap.size+1,8,none⟩),.slice (some ⟨b',o',none⟩) m.elems.length j8,.int .i64 (i:Int),.pointer (some ⟨b',o'+i*8,none⟩),.pointer (some ⟨b',o'+i*8+7,none⟩),.slice u7' fs.length r7',.bool true,.bool false,.bool false] (by decide) rfl rfl (by kernel_rfl) (by kernel_rfl) ?_ ?_)
   rotate_left
   . intro w' f hbw hf;replace hf:=zh (hf 29 (by decide));go_wp2_with fail;go_meet;exact⟨hf.out,zh hbw⟩
   intro f w' hbx ho;have l1:(i:Int)<(m.elems.length:Int):=(by omega)
   have e2:=ho 2 (by decide);have e3:=ho 3 (by decide);have ei:=ho 12 (by decide);have kp:=zA hbx;replace x:=kp _ _ x;replace z:=kp _ _ z;replace c0:=kp ⟨b,o+i*8,none⟩ _ c0;replace c0':=kp ⟨b',o'+i*8,none⟩ _ c0';replace c1:=kp ⟨b,o+i*8+1,none⟩ _ c1;replace c1':=kp ⟨b',o'+i*8+1,none⟩ _ c1';replace c2:=kp ⟨b,o+i*8+2,none⟩ _ c2;replace c2':=kp ⟨b',o'+i*8+2,none⟩ _ c2';replace c3:=kp ⟨b,o+i*8+3,none⟩ _ c3;replace c3':=kp ⟨b',o'+i*8+3,none⟩ _ c3';replace c4:=kp ⟨b,o+i*8+4,none⟩ _ c4;replace c4':=kp ⟨b',o'+i*8+4,none⟩ _ c4';replace c5:=kp ⟨b,o+i*8+5,none⟩ _ c5;replace c5':=kp ⟨b',o'+i*8+5,none⟩ _ c5';replace c6:=kp ⟨b,o+i*8+6,none⟩ _ c6;replace c6':=kp ⟨b',o'+i*8+6,none⟩ _ c6';replace c7:=kp ⟨b,o+i*8+7,none⟩ _ c7;replace c7':=kp ⟨b',o'+i*8+7,none⟩ _ c7';have d0:=zh (one_true (o1.keep kp) (o2.keep kp));have d1:=zh (vS fs fs _ _ r7 r7' _ (i7.below hbx) (i7'.below hbx));clear ho hbx hb kp HM HN bx by' hB0 o1 o2 i7 i7'
   iterate 30 ((first |refine .run rfl ?_ ?_ |refine .runG rfl rfl ?_ ?_);rotate_left)
   exact .nil
   all_goals
    intro hv K' hK';simp(disch:=decide)only[Needs,Region.binds,List.getD_cons_succ,List.getD_cons_zero,Nat.reduceAdd,true_imp_iff,and_true]at hv;go_simp;(try simp(disch:=decide)only[fv_t,hv,e2,e3,ei]);(try go_simp);first
    |exact hK' _ _ ⟨jZ _ _,Below.refl _ _⟩
    |(go_at_call 39;(with_reducible refine d0.out.mono ?_);rintro e u ⟨rfl,hu⟩;go_simp;exact hK' _ _ ⟨jZ _ _,hu⟩)
    |(go_at_call 37;(with_reducible refine d1.out.mono ?_);rintro e u ⟨rfl,mm,rfl⟩;go_simp;exact hK' _ _ ⟨jZ _ _,belowN (Below.refl _ _) mm⟩)
 obtain rfl:i=m.elems.length:=by omega
 clear hi hlt;have xx:wr.cell? ⟨w.heap.size,8,none⟩=some (.slice a8 m.elems.length k8):=zA hb.out _ _ (bx.out 8 _ rfl);have zz:wr.cell? ⟨w.heap.size+1,8,none⟩=some (.slice b8 m.elems.length j8):=zA hb.out _ _ (by'.out 8 _ rfl);have x:wr.cell? ⟨w.heap.size,9,none⟩=some (.slice a9 m.datas.length k9):=zA hb.out _ _ (bx.out 9 _ rfl);have z:wr.cell? ⟨w.heap.size+1,9,none⟩=some (.slice b9 m.datas.length j9):=zA hb.out _ _ (by'.out 9 _ rfl);go_wp2_with fail;go_loopw [13] (λvi wr=>∃i:Nat,i<=m.datas.length/\vi=.int .i64 i/\Hid (Below w0.heap.size w0 wr)) (λvi _=>m.datas.length-(intOf vi).toNat)
 case atStart=>exact⟨0,Nat.zero_le _,rfl,hb⟩
 case' round=>
  clear hb x z;obtain⟨i,hi,rfl,hb⟩:=hrel
  by_cases hlt:i<m.datas.length
 case pos=>
  have x:wr.cell? ⟨w.heap.size,9,none⟩=some (.slice a9 m.datas.length k9):=zA hb.out _ _ (bx.out 9 _ rfl);have z:wr.cell? ⟨w.heap.size+1,9,none⟩=some (.slice b9 m.datas.length j9):=zA hb.out _ _ (by'.out 9 _ rfl);obtain⟨t,ht⟩:∃t,m.datas[i]? =some t:=⟨_,List.getElem?_eq_getElem hlt⟩
  obtain⟨b,o,e,hrow⟩:=(HM.out.datas.keep λ_ _ _=>DatS.keep (zA hb.out)).row ht;obtain⟨b',o',e',hrow'⟩:=(HN.out.datas.keep λ_ _ _=>DatS.keep (zA hb.out)).row ht;subst e e';clear ht;obtain⟨op,s0⟩:=t;obtain⟨hone,c7⟩:=hrow;obtain⟨hone',c7'⟩:=hrow';unfold StrC at c7 c7';obtain⟨t1,t2,t3,t4,ls,body,els⟩:=op;obtain⟨⟨c0,c1,c2,c3⟩,⟨u4,r4,c4,i4⟩,⟨u5,r5,c5,l5,i5⟩,⟨u6,r6,c6,l6,i6⟩,-⟩:=hone;obtain⟨⟨c0',c1',c2',c3'⟩,⟨u4',r4',c4',i4'⟩,⟨u5',r5',c5',l5',i5'⟩,⟨u6',r6',c6',l6',i6'⟩,-⟩:=hone';have o1:OneIs wr ⟨t1,t2,t3,t4,ls,body,els⟩ u4 r4 u5 r5 u6 r6:=⟨i4,l5,inv0 i5,l6,inv0 i6⟩
  have o2:OneIs wr ⟨t1,t2,t3,t4,ls,body,els⟩ u4' r4' u5' r5' u6' r6':=⟨i4',l5',inv0 i5',l6',inv0 i6'⟩
  simp only at c0 c0' c1 c1' c2 c2' c3 c3' c4 c4' c5 c5' c6 c6' c7 c7'
  go_upto_region 46 with fail
  refine wpv_then ?_;intro K hK
  go_cut [302] from 274 to 301 (λsv wx=>sv=.bool false/\Hid (Below wr.heap.size wr wx))
  case rest=>
   obtain⟨rfl,hbw⟩:=hcut;refine(hK _ _).2 ?_;clear hK;have hfb:=zh (hb.out.trans (hbw.out.mono hb.out.size));go_wp2
   go_roundw
   case rel=>exact⟨i+1,by omega,by simp,hfb⟩
   case measure=>simp[intOf];omega
  case first=>
   refine wp_fv _ 303 rfl (xY hmix 303 274 29 [.pointer (some ⟨w.heap.size,9,none⟩),.slice (some ⟨b,o,none⟩) m.datas.length k9,.int .i64 (i:Int),.pointer (some ⟨b,o+i*8,none⟩),.pointer (some ⟨b,o+i*8+7,none⟩),.string s0,.pointer (some ⟨w.heap.size+1,9,none⟩),.slice (some ⟨b',o',none⟩) m.datas.length j9,.int .i64 (i:Int),.pointer (some ⟨b',o'+i*8,none⟩),.pointer (some ⟨b',o'+i*8+7,none⟩),.string s0,.bool false,.bool false,.pointer (some ⟨w.heap.size,9,none⟩),.slice (some ⟨b,o,none⟩) m.datas.length k9,.int .i64 (i:Int),.pointer (some ⟨b,o+i*8,none⟩),.pointer (some ⟨b,o+i*8,none⟩),.agg #[.int .i64 t1,.int .i64 t2,.int .i64 t3,.int .i64 t4,.slice u4 ls.length r4,.slice u5 body.len r5,.slice u6 els.len r6],.pointer (some ⟨w.heap.size+1,9,none⟩),.slice (some ⟨b',o',none⟩) m.datas.length j9,.int .i64 (i:Int),.pointer (some ⟨b',o'+i*8,none⟩),.pointer (some ⟨b',o'+i*8,none⟩),.agg #[.int .i64 t1,.int .i64 t2,.int .i64 t3,.int .i64 t4,.slice u4' ls.length r4',.slice u5' body.len r5',.slice u6' els.len r6'],.bool true,.bool false,.bool false] (by decide) rfl rfl (by kernel_rfl) (by kernel_rfl) ?_ ?_)
   rotate_left
   . intro w' f hbw hf;replace hf:=zh (hf 28 (by decide));go_wp2_with fail;go_meet;exact⟨hf.out,zh hbw⟩
   intro f w' hbx ho;have l1:(i:Int)<(m.datas.length:Int):=(by omega)
   have e2:=ho 2 (by decide);have e3:=ho 3 (by decide);have ei:=ho 13 (by decide);have kp:=zA hbx;replace x:=kp _ _ x;replace z:=kp _ _ z;replace c0:=kp ⟨b,o+i*8,none⟩ _ c0;replace c0':=kp ⟨b',o'+i*8,none⟩ _ c0';replace c1:=kp ⟨b,o+i*8+1,none⟩ _ c1;replace c1':=kp ⟨b',o'+i*8+1,none⟩ _ c1';replace c2:=kp ⟨b,o+i*8+2,none⟩ _ c2;replace c2':=kp ⟨b',o'+i*8+2,none⟩ _ c2';replace c3:=kp ⟨b,o+i*8+3,none⟩ _ c3;replace c3':=kp ⟨b',o'+i*8+3,none⟩ _ c3';replace c4:=kp ⟨b,o+i*8+4,none⟩ _ c4;replace c4':=kp ⟨b',o'+i*8+4,none⟩ _ c4';replace c5:=kp ⟨b,o+i*8+5,none⟩ _ c5;replace c5':=kp ⟨b',o'+i*8+5,none⟩ _ c5';replace c6:=kp ⟨b,o+i*8+6,none⟩ _ c6;replace c6':=kp ⟨b',o'+i*8+6,none⟩ _ c6';replace c7:=kp ⟨b,o+i*8+7,none⟩ _ c7;replace c7':=kp ⟨b',o'+i*8+7,none⟩ _ c7';have d0:=zh (one_true (o1.keep kp) (o2.keep kp));clear ho hbx hb kp HM HN bx by' hB0 o1 o2
   iterate 29 ((first |refine .run rfl ?_ ?_ |refine .runG rfl rfl ?_ ?_);rotate_left)
   exact .nil
   all_goals
    intro hv K' hK';simp(disch:=decide)only[Needs,Region.binds,List.getD_cons_succ,List.getD_cons_zero,Nat.reduceAdd,true_imp_iff,and_true]at hv;go_simp;(try simp(disch:=decide)only[fv_t,hv,e2,e3,ei]);(try go_simp);first
    |exact hK' _ _ ⟨jZ _ _,Below.refl _ _⟩
    |(go_at_call 39;(with_reducible refine d0.out.mono ?_);rintro e u ⟨rfl,hu⟩;go_simp;exact hK' _ _ ⟨jZ _ _,hu⟩)
 obtain rfl:i=m.datas.length:=by omega
 clear hi hlt;have x:wr.cell? ⟨w.heap.size,9,none⟩=some (.slice a9 m.datas.length k9):=zA hb.out _ _ (bx.out 9 _ rfl);have z:wr.cell? ⟨w.heap.size+1,9,none⟩=some (.slice b9 m.datas.length j9):=zA hb.out _ _ (by'.out 9 _ rfl);have hfin:=zh (hB0.out.trans (hb.out.mono hs0));go_wp2;go_ret;exact⟨rfl,hfin.out⟩
end Go.Proofs.YtacohbllbjgdgaaGreatDoor
