/- The contracts of Check's deferred closure. -/
import Derived.Test.YtacohbllbjgdgaaGreatDoorNb
import Derived.Defers
import Derived.Recover
import Derived.Laws.Pointers
import Derived.Test.YtacohbllbjgdgaaGreatDoorXi
set_option linter.all false
set_option maxRecDepth 100000
set_option maxHeartbeats 1000000
namespace Go.Proofs.YtacohbllbjgdgaaGreatDoor
open Go.RowKit
theorem catch_idle(p:Addr)(w:World):CallsD Tryz.prog 45 #[.pointer (some p)] .returning w λe u' w'=>e=.returned (.tuple #[])/\u'=.returning/\w'=w:=by
 refine callsD_of_wpS Tryz.func45 rfl λc₀ cs hu=> ?_;apply wpS_seq;apply wpS_region;simp[wpOpsS,go_sem,recoverD,hu,Tryz.ntmps45,Exit.thenS];refine wpS_of_wp ?_;go_wp2;cases c₀
 simp_all [bodyPostS,results,Tryz.results45]
theorem assert_fault(n:Int)(w:World):(Instr.typeAssert (Value.iface 87 (.agg #[.int .i64 n])) 20 87 true).run Tryz.prog w=.ok (.tuple #[.agg #[.int .i64 n],.bool true]) w:=by kernel_rfl
theorem catch_fault(p:Nat)(x n:Int)(older:List PanicEntry)(w:World)(hc:w.cell? ⟨p,0,none⟩=some (.int .i64 x))(hz:w.frozen? ⟨p,0,none⟩=false):CallsD Tryz.prog 45 #[.pointer (some ⟨p,0,none⟩)] (.panicking ({v:=.iface 87 (.agg #[.int .i64 n]),recovered:=false}::older)) w λe u' w'=>e=.returned (.tuple #[])/\u'=.panicking ({v:=.iface 87 (.agg #[.int .i64 n]),recovered:=true}::older)/\w'=(w.setCell ⟨p,0,none⟩ (.int .i64 n)).alloc (.cells #[.int .i64 n] 87):=by
 refine callsD_of_wpS Tryz.func45 rfl λc₀ cs hu=> ?_;apply wpS_seq;apply wpS_region;simp[wpOpsS,go_sem,recoverD,hu,Tryz.ntmps45,Exit.thenS];refine wpS_of_wp ?_;have hta:=assert_fault n;have hp:p<w.heap.size:=World.block_lt_of_cell? _ _ hc;change Code.wp Tryz.prog _ _ {tmps:= #[.pointer (some ⟨p,0,none⟩),undef,undef,undef,.iface 87 (.agg #[.int .i64 n]),undef,undef,undef,undef,undef,undef,undef],defers:=[]} w;go_wp2;cases c₀
 simp_all [bodyPostS,results,Tryz.results45]
def flatM (m:Md):Bool:=m.funcs.all λt=>xN t.2.2 0
def qI (m:Md):Int:=if fewB m=false then 3 else if flatM m=false then 4 else if qX m=false then 30 else 0
theorem xP{w2:World}{q:Nat}{n:Int}{u:Value}{o:Obj}(h:w2.cell? ⟨q,0,none⟩=some u):((w2.setCell ⟨q,0,none⟩ (.int .i64 n)).alloc o).cell? ⟨q,0,none⟩=some (.int .i64 n):=by have hl:=World.block_lt_of_cell? _ _ h;exact(World.cell?_alloc_past _ _ _ (by simpa using hl)).trans (xK h)
theorem xF{w w2:World}{q:Nat}{v:Value}{o:Obj}(h:Below w.heap.size w w2)(hq:w.heap.size<=q):Below w.heap.size w ((w2.setCell ⟨q,0,none⟩ v).alloc o):=
 (h.setCell (p:=⟨q,0,none⟩) hq v).alloc (h.setCell (p:=⟨q,0,none⟩) hq v).size o
theorem check_any(m:Md)(a0:Option Addr)(k0:Nat)(a1:Option Addr)(k1:Nat)(a2:Option Addr)(k2:Nat)(a3:Option Addr)(k3:Nat)(a4:Option Addr)(k4:Nat)(a5:Option Addr)(k5:Nat)(a6:Option Addr)(k6:Nat)(a7:Option Addr)(k7:Nat)(a8:Option Addr)(k8:Nat)(a9:Option Addr)(k9:Nat)(w:World)(h:MdAt w m a0 k0 a1 k1 a2 k2 a3 k3 a4 k4 a5 k5 a6 k6 a7 k7 a8 k8 a9 k9)(hT:TabU w):Calls Tryz.prog 24 #[mdV m a0 k0 a1 k1 a2 k2 a3 k3 a4 k4 a5 k5 a6 k6 a7 k7 a8 k8 a9 k9] w λe w'=>e=.returned (.int .i64 (qI m))/\Below w.heap.size w w':=by
 have hb2:Below w.heap.size w ((w.alloc (.cells #[.slice a0 m.types.length k0,.slice a1 m.imports.length k1,.slice a2 m.funcs.length k2,.slice a3 m.tables.length k3,.slice a4 m.mems.length k4,.slice a5 m.globals.length k5,.slice a6 m.exports.length k6,.slice a7 m.start.length k7,.slice a8 m.elems.length k8,.slice a9 m.datas.length k9] 32)).alloc (.cells #[.int .i64 0] 36)):=((Below.refl _ _).alloc (Nat.le_refl _) _).alloc (by simp) _;have HM:=zh (h.keep (zA hb2));have HU:=zh (hT.below hb2);have hB0:=zh hb2;have hmf:=hmf;have n2:=h.funcs.1;clear h hT hb2;unfold mdV
 go_enter_defers Tryz.func24,Tryz.ntmps24
 go_wp2_with fail;obtain⟨w0,hw0⟩:∃w0,w0=((w.alloc (.cells #[.slice a0 m.types.length k0,.slice a1 m.imports.length k1,.slice a2 m.funcs.length k2,.slice a3 m.tables.length k3,.slice a4 m.mems.length k4,.slice a5 m.globals.length k5,.slice a6 m.exports.length k6,.slice a7 m.start.length k7,.slice a8 m.elems.length k8,.slice a9 m.datas.length k9] 32)).alloc (.cells #[.int .i64 0] 36)):=⟨_,rfl⟩
 rw[<-hw0];rw[<-hw0]at HM HU hB0;have hs0:w.heap.size<=w0.heap.size:=hB0.out.size;have hlr:w.heap.size+1<w0.heap.size:=(by rw[hw0];simp)
 have yr:Hid (w0.cell? ⟨w.heap.size+1,0,none⟩=some (.int .i64 0)):=zh (by rw[hw0];exact World.cell?_alloc_at _ _ _ _ (by simp));have yz:Hid (w0.frozen? ⟨w.heap.size+1,0,none⟩=false):=zh (by rw[hw0];exact World.frozen?_alloc_at _ _ _ _ (by simp));have y0:Hid (w0.cell? ⟨w.heap.size,0,none⟩=some (.slice a0 m.types.length k0)):=zh (by rw[hw0,World.cell?_alloc_past _ _ _ (by simp)];exact World.cell?_alloc_at _ _ _ _ rfl);have y1:Hid (w0.cell? ⟨w.heap.size,1,none⟩=some (.slice a1 m.imports.length k1)):=zh (by rw[hw0,World.cell?_alloc_past _ _ _ (by simp)];exact World.cell?_alloc_at _ _ _ _ rfl);have y2:Hid (w0.cell? ⟨w.heap.size,2,none⟩=some (.slice a2 m.funcs.length k2)):=zh (by rw[hw0,World.cell?_alloc_past _ _ _ (by simp)];exact World.cell?_alloc_at _ _ _ _ rfl);have y3:Hid (w0.cell? ⟨w.heap.size,3,none⟩=some (.slice a3 m.tables.length k3)):=zh (by rw[hw0,World.cell?_alloc_past _ _ _ (by simp)];exact World.cell?_alloc_at _ _ _ _ rfl);have y4:Hid (w0.cell? ⟨w.heap.size,4,none⟩=some (.slice a4 m.mems.length k4)):=zh (by rw[hw0,World.cell?_alloc_past _ _ _ (by simp)];exact World.cell?_alloc_at _ _ _ _ rfl);have y5:Hid (w0.cell? ⟨w.heap.size,5,none⟩=some (.slice a5 m.globals.length k5)):=zh (by rw[hw0,World.cell?_alloc_past _ _ _ (by simp)];exact World.cell?_alloc_at _ _ _ _ rfl);have y6:Hid (w0.cell? ⟨w.heap.size,6,none⟩=some (.slice a6 m.exports.length k6)):=zh (by rw[hw0,World.cell?_alloc_past _ _ _ (by simp)];exact World.cell?_alloc_at _ _ _ _ rfl)
 have y7:Hid (w0.cell? ⟨w.heap.size,7,none⟩=some (.slice a7 m.start.length k7)):=zh (by rw[hw0,World.cell?_alloc_past _ _ _ (by simp)];exact World.cell?_alloc_at _ _ _ _ rfl);have y8:Hid (w0.cell? ⟨w.heap.size,8,none⟩=some (.slice a8 m.elems.length k8)):=zh (by rw[hw0,World.cell?_alloc_past _ _ _ (by simp)];exact World.cell?_alloc_at _ _ _ _ rfl);have y9:Hid (w0.cell? ⟨w.heap.size,9,none⟩=some (.slice a9 m.datas.length k9)):=zh (by rw[hw0,World.cell?_alloc_past _ _ _ (by simp)];exact World.cell?_alloc_at _ _ _ _ rfl);clear hw0;refine(few_any m a0 k0 a1 k1 a2 k2 a3 k3 a4 k4 a5 k5 a6 k6 a7 k7 a8 k8 a9 k9 _ HM.out).mono ?_;rintro e w2 ⟨rfl,b2⟩;have hb:=zh b2;clear b2;cases hX:fewB m
 . have S:Hid (qI m=3):=zh (by unfold qI;rw[hX];rfl);rw[qC];clear hX;go_wp2;unfold fault;refine leaves_cons (f:=45) (args:= #[.pointer (some ⟨w.heap.size+1,0,none⟩)]) (by simp) (by simp[go_sem]) ?_;refine(catch_fault (w.heap.size+1) 0 3 [] _ (zA hb.out _ _ yr.out) ((hb.out.frozen hlr).trans yz.out)).mono ?_;rintro e u' w'' ⟨rfl,rfl,rfl⟩;have hca:=xP (n:=3) (o:=.cells #[.int .i64 3] 87) (zA hb.out _ _ yr.out);have hcb:=xF (v:=.int .i64 3) (o:=.cells #[.int .i64 3] 87) (hB0.out.trans (hb.out.mono hs0)) (show w.heap.size<=w.heap.size+1 by omega);have hS:=S.out;simp[Leaves,settle,results,Tryz.results24,go_sem];rw[hca];exact⟨_,rfl,by rw[hS],hcb⟩
 . have S1:Hid (qI m=if flatM m=false then 4 else if qX m=false then 30 else 0):=zh (by unfold qI;rw[hX];rfl);rw[zV];clear hX;have x2:w2.cell? ⟨w.heap.size,2,none⟩=some (.slice a2 m.funcs.length k2):=zA hb.out _ _ y2.out;go_wp2_with fail;go_loopw [11] (λvi wr=>∃i:Nat,i<=m.funcs.length/\vi=.int .i64 i/\Hid ((m.funcs.take i).all (λt=>xN t.2.2 0)=true)/\Hid (Below w0.heap.size w0 wr)) (λvi _=>m.funcs.length-(intOf vi).toNat)
   case atStart=>exact⟨0,Nat.zero_le _,rfl,zh rfl,hb⟩
   case round=>
    clear hb;obtain⟨i,hi,rfl,ha,hb⟩:=hrel
    by_cases hlt:i<m.funcs.length
    . obtain⟨t,ht⟩:∃t,m.funcs[i]? =some t:=⟨_,List.getElem?_eq_getElem hlt⟩
      obtain⟨b,o,e,hrow⟩:=(HM.out.funcs.keep λ_ _ _=>FuncAt.keep (zA hb.out)).row ht;cases e;have hn:=zh (jB ht ha.out);have hal:=λo=>(Below.refl wr.heap.size wr).alloc (Nat.le_refl _) o;clear ht ha;obtain⟨ty,lo,bo⟩:=t;obtain⟨c0,⟨q1,r1,c1,i1⟩,⟨q2,r2,c2,l2,i2⟩⟩:=hrow;unfold j9 at c0;simp only at c0 c1 c2 i1 i2 l2;have i2:=zh i2;clear i1;have hb2:∀o,Below w0.heap.size w0 (wr.alloc o):=λo=>hb.out.trans ((hal o).mono hb.out.size);have hfl:=λ(wq:World) h=>zh (flat_any bo q2 r2 wq 0 l2 h (by omega) (by omega));go_wp2_with fail;refine(hfl _ (i2.out.below (hal _))).out.mono ?_;rintro e v1 ⟨rfl,bb⟩;have hB1:=zh ((hb2 _).trans (bb.mono (hb2 _).size));clear bb hfl;cases hX:xN bo 0
      . have S:Hid (qI m=4):=zh (by
         have:flatM m=false:=hn.out.2 hX;rw[S1.out,this];rfl)
        rw[qC];clear hX;go_wp2;unfold fault;refine leaves_cons (f:=45) (args:= #[.pointer (some ⟨w.heap.size+1,0,none⟩)]) (by simp) (by simp[go_sem]) ?_;refine(catch_fault (w.heap.size+1) 0 4 [] _ (zA hB1.out _ _ yr.out) ((hB1.out.frozen hlr).trans yz.out)).mono ?_;rintro e u' w'' ⟨rfl,rfl,rfl⟩;have hca:=xP (n:=4) (o:=.cells #[.int .i64 4] 87) (zA hB1.out _ _ yr.out);have hcb:=xF (v:=.int .i64 4) (o:=.cells #[.int .i64 4] 87) (hB0.out.trans (hB1.out.mono hs0)) (show w.heap.size<=w.heap.size+1 by omega);have hS:=S.out;simp[Leaves,settle,results,Tryz.results24,go_sem];rw[hca];exact⟨_,rfl,by rw[hS],hcb⟩
      . have hn2:=zh (hn.out.1 hX);rw[zV];clear hX;go_wp2
        go_roundw
        case rel=>exact⟨i+1,by omega,by simp,hn2,hB1⟩
        case measure=>simp[intOf];omega
    . have hiN:i=m.funcs.length:=(by omega)
      subst hiN;have ha2:flatM m=true:=(by have:=ha.out;rwa [List.take_length]at this)
      have S2:Hid (qI m=if qX m=false then 30 else 0):=zh (by rw[S1.out,ha2];rfl);clear ha ha2 hi hlt;have x0:wr.cell? ⟨w.heap.size,0,none⟩=some (.slice a0 m.types.length k0):=zA hb.out _ _ y0.out;have x1:wr.cell? ⟨w.heap.size,1,none⟩=some (.slice a1 m.imports.length k1):=zA hb.out _ _ y1.out;have x2:wr.cell? ⟨w.heap.size,2,none⟩=some (.slice a2 m.funcs.length k2):=zA hb.out _ _ y2.out;have x3:wr.cell? ⟨w.heap.size,3,none⟩=some (.slice a3 m.tables.length k3):=zA hb.out _ _ y3.out;have x4:wr.cell? ⟨w.heap.size,4,none⟩=some (.slice a4 m.mems.length k4):=zA hb.out _ _ y4.out;have x5:wr.cell? ⟨w.heap.size,5,none⟩=some (.slice a5 m.globals.length k5):=zA hb.out _ _ y5.out;have x6:wr.cell? ⟨w.heap.size,6,none⟩=some (.slice a6 m.exports.length k6):=zA hb.out _ _ y6.out;have x7:wr.cell? ⟨w.heap.size,7,none⟩=some (.slice a7 m.start.length k7):=zA hb.out _ _ y7.out;have x8:wr.cell? ⟨w.heap.size,8,none⟩=some (.slice a8 m.elems.length k8):=zA hb.out _ _ y8.out;have x9:wr.cell? ⟨w.heap.size,9,none⟩=some (.slice a9 m.datas.length k9):=zA hb.out _ _ y9.out;go_wp2_with fail;refine(shaped_any m a0 k0 a1 k1 a2 k2 a3 k3 a4 k4 a5 k5 a6 k6 a7 k7 a8 k8 a9 k9 _ (HM.out.keep (zA hb.out)) (HU.out.below hb.out)).mono ?_;rintro e v1 ⟨rfl,bb⟩;have hB1:=zh (hb.out.trans (bb.mono hb.out.size))
      clear bb;cases hX:qX m
      . have S:Hid (qI m=30):=zh (by rw[S2.out,hX];rfl);rw[qC];clear hX;go_wp2;unfold fault;refine leaves_cons (f:=45) (args:= #[.pointer (some ⟨w.heap.size+1,0,none⟩)]) (by simp) (by simp[go_sem]) ?_;refine(catch_fault (w.heap.size+1) 0 30 [] _ (zA hB1.out _ _ yr.out) ((hB1.out.frozen hlr).trans yz.out)).mono ?_;rintro e u' w'' ⟨rfl,rfl,rfl⟩;have hca:=xP (n:=30) (o:=.cells #[.int .i64 30] 87) (zA hB1.out _ _ yr.out);have hcb:=xF (v:=.int .i64 30) (o:=.cells #[.int .i64 30] 87) (hB0.out.trans (hB1.out.mono hs0)) (show w.heap.size<=w.heap.size+1 by omega);have hS:=S.out;simp[Leaves,settle,results,Tryz.results24,go_sem];rw[hca];exact⟨_,rfl,by rw[hS],hcb⟩
      . have S:Hid (qI m=0):=zh (by rw[S2.out,hX];rfl);rw[zV];clear hX;have xr:=zA hB1.out _ _ yr.out;have xz:=(hB1.out.frozen hlr).trans yz.out;go_wp2_with fail;refine leaves_cons (f:=45) (args:= #[.pointer (some ⟨w.heap.size+1,0,none⟩)]) (by simp) (by simp[go_sem]) ?_;refine(catch_idle ⟨w.heap.size+1,0,none⟩ _).mono ?_;rintro e u' w'' ⟨rfl,rfl,rfl⟩;have hca:(v1.setCell ⟨w.heap.size+1,0,none⟩ (.int .i64 0)).cell? ⟨w.heap.size+1,0,none⟩=some (.int .i64 0):=xK xr;have hcb:Below w.heap.size w (v1.setCell ⟨w.heap.size+1,0,none⟩ (.int .i64 0)):=(hB0.out.trans (hB1.out.mono hs0)).setCell (p:=⟨w.heap.size+1,0,none⟩) (show w.heap.size<=w.heap.size+1 by omega) _;have hS:=S.out;simp[Leaves,settle,results,Tryz.results24,go_sem,hca];exact⟨hS.symm,hcb⟩
theorem size_of{w:World}{h:Nat}(hh:w.heap.size=h)(o:Obj):(w.alloc o).heap.size=h+1:=by simp[hh]
theorem Keeps.trans{a b c:World}(f:Keeps a b)(g:Keeps b c):Keeps a c:=λp v h=>g p v (f p v h)
theorem ints_nil(w:World):IntsIn w none []:=⟨Nat.zero_le _,.inl rfl⟩
theorem rows_nil{α:Type}(F:World->Nat->Nat->α->Prop)(k:Nat)(w:World):RowsIn F k w none []:=⟨Nat.zero_le _,.inl rfl⟩
def mdTF (ts:List (List Int×List Int)) (fs:List (Int×List Int×Il)):Md:=⟨ts,[],fs,[],[],[],[],[],[],[]⟩
theorem md_TF{w:World}{ts:List (List Int×List Int)}{fs:List (Int×List Int×Il)}{a0 a2:Option Addr}{k0 k2:Nat}(h0:RowsIn TypeAt 2 w a0 ts)(h2:RowsIn FuncAt 3 w a2 fs):MdAt w (mdTF ts fs) a0 k0 none 0 a2 k2 none 0 none 0 none 0 none 0 none 0 none 0 none 0:=
 ⟨h0,rows_nil _ _ _,h2,rows_nil _ _ _,rows_nil _ _ _,rows_nil _ _ _,rows_nil _ _ _,ints_nil _,rows_nil _ _ _,rows_nil _ _ _⟩
theorem rows_one{α:Type}{F:World->Nat->Nat->α->Prop}{k:Nat}{w:World}{b o:Nat}{x:α}(h:F w b o x):RowsIn F k w (some ⟨b,o,none⟩) [x]:=
 ⟨by simp,.inr ⟨b,o,rfl,λi y hy=>by
  cases i with
  |zero=>simp at hy;subst hy;simpa using h
  |succ i=>simp at hy⟩⟩
theorem ints_one{w:World}{b o:Nat}{x:Int}(h:w.cell? ⟨b,o,none⟩=some (.int .i64 x)):IntsIn w (some ⟨b,o,none⟩) [x]:=
 ⟨by simp,.inr ⟨b,o,rfl,λi y hy=>by
  cases i with
  |zero=>simp at hy;subst hy;simpa using h
  |succ i=>simp at hy⟩⟩
def hR (s:Rs):Nat:=(s.fs.headD fr0).h
structure RWf (s:Rs):Prop where
 fs:s.fs≠[]
 ok:s.w=0->hR s<=s.st.length
structure Gr (k:Nat) (s s':Rs):Prop where
 kf:∃f f' r,s.fs=f::r/\s'.fs=f'::r/\f'.goes=f.goes/\f'.ends=f.ends/\f'.h=f.h
 ok:s'.w=0->s.w=0/\hR s'<=s'.st.length/\s'.st.length<=s.st.length+k
theorem Gr.wf{k:Nat}{s s':Rs}(g:Gr k s s'):RWf s':=by obtain⟨f,f',r,_,e,_⟩:=g.kf;exact⟨by rw[e];simp,λh=>(g.ok h).2.1⟩
theorem Gr.len{k:Nat}{s s':Rs}(g:Gr k s s'):s'.fs.length=s.fs.length:=by obtain⟨f,f',r,e1,e2,_⟩:=g.kf;rw[e1,e2];rfl
theorem Gr.hr{k:Nat}{s s':Rs}(g:Gr k s s'):hR s'=hR s:=by obtain⟨f,f',r,e1,e2,_,_,h⟩:=g.kf;unfold hR;rw[e1,e2];exact h
theorem Gr.trans{a b c:Nat}{s s' s'':Rs}(h:Gr a s s')(k:Gr b s' s'')(hc:a+b<=c):Gr c s s'':=by obtain⟨f,f',r,e1,e2,h1,h2,h3⟩:=h.kf;obtain⟨g,g',q,e3,e4,k1,k2,k3⟩:=k.kf;rw[e2]at e3;cases e3;refine⟨⟨f,g',r,e1,e4,k1.trans h1,k2.trans h2,k3.trans h3⟩,λhw=> ?_⟩;obtain⟨x1,x2,x3⟩:=k.ok hw;obtain⟨y1,y2,y3⟩:=h.ok x1;exact⟨y1,x2,by omega⟩
theorem Gr.more{a c:Nat}{s s':Rs}(h:Gr a s s')(hc:a<=c):Gr c s s':=⟨h.kf,λhw=>by obtain⟨x1,x2,x3⟩:=h.ok hw;exact⟨x1,x2,by omega⟩⟩
theorem Gr.refl{s:Rs}(h:RWf s):Gr 0 s s:=by obtain⟨f,r,e⟩:=List.exists_cons_of_ne_nil h.fs;exact⟨⟨f,f,r,e,e,rfl,rfl,rfl⟩,λhw=>⟨hw,h.ok hw,Nat.le_refl _⟩⟩
theorem jK{s:Rs}(h:RWf s){e:Int}(he:e≠0):Gr 0 s (zQ e s):=by
 unfold zQ
 by_cases hw:s.w=0
 . rw[if_pos hw];obtain⟨f,r,e1⟩:=List.exists_cons_of_ne_nil h.fs;exact⟨⟨f,f,r,e1,e1,rfl,rfl,rfl⟩,λhw2=>absurd hw2 he⟩
 . rw[if_neg hw];exact .refl h
theorem vO{s:Rs}(h:RWf s)(l:List Int):Gr l.length s (zW l s):=by
 unfold zW
 by_cases hw:s.w=0
 . rw[if_pos hw];obtain⟨f,r,e1⟩:=List.exists_cons_of_ne_nil h.fs;refine⟨⟨f,f,r,e1,e1,rfl,rfl,rfl⟩,λ_=>⟨hw,?_,?_⟩⟩
   . show hR s<=_
     have:=h.ok hw;simp only[List.length_append,List.length_reverse];omega
   . simp only[List.length_append,List.length_reverse];omega
 . rw[if_neg hw];exact(Gr.refl h).more (Nat.zero_le _)
theorem jA{s:Rs}(h:RWf s)(t:Int):Gr 0 s (zP t s).2:=by
 unfold zP
 by_cases hw:s.w=0
 . rw[if_pos hw];obtain⟨f,r,e1⟩:=List.exists_cons_of_ne_nil h.fs;have hh:=h.ok hw;have hf:hR s=f.h:=(by unfold hR;rw[e1];rfl)
   rw[e1]
   dsimp only
   by_cases h1:s.st.length=f.h
   . rw[if_pos h1]
     dsimp only
     by_cases h2:f.dead=true
     . rw[if_pos h2];exact .refl h
     . rw[if_neg h2];exact jK h (by decide)
   . rw[if_neg h1];cases hs:s.st with
     |nil=>exact .refl h
     |cons x q=>
       dsimp only
       rw[hs]at hh h1;rw[List.length_cons]at hh h1;have hq:RWf {w:=s.w,st:=q,fs:=f::r}:=⟨by simp,λ_=>by show f.h<=q.length;omega⟩
       have hg:Gr 0 s {w:=s.w,st:=q,fs:=f::r}:=⟨⟨f,f,r,e1,rfl,rfl,rfl,rfl⟩,λ_=>⟨hw,hq.ok hw,by rw[hs];show q.length<=_;simp⟩⟩
       split
       . exact hg.trans (jK hq (by decide)) (by omega)
       . exact hg
 . rw[if_neg hw];exact .refl h
theorem gr_pops:∀(l:List Int) {s:Rs},RWf s->Gr 0 s (rPops l s)
 | [],s,h=>.refl h
 |t::r,s,h=>by
   have g:=jA h t;exact g.trans (gr_pops r g.wf) (Nat.le_refl _)
theorem yG{s:Rs}(h:RWf s)(l:List Int):Gr 0 s (jC l s):=gr_pops _ h
theorem gr_dead{s:Rs}(h:RWf s):Gr 0 s (jP s):=by
 unfold jP
 by_cases hw:s.w=0
 . rw[if_pos hw];obtain⟨f,r,e1⟩:=List.exists_cons_of_ne_nil h.fs;have hh:=h.ok hw;have hf:hR s=f.h:=(by unfold hR;rw[e1];rfl)
   rw[e1];exact⟨⟨f,_,r,e1,rfl,rfl,rfl,rfl⟩,λ_=>⟨hw,by show f.h<=(s.st.drop _).length;rw[List.length_drop];omega,by show(s.st.drop _).length<=_;rw[List.length_drop];omega⟩⟩
 . rw[if_neg hw];exact .refl h
def RRf (s:Rs):Prop:=∀f∈s.fs,f.goes.length<=1/\f.ends.length<=1
theorem Gr.rf{k:Nat}{s s':Rs}(g:Gr k s s')(h:RRf s):RRf s':=by
 obtain⟨f,f',r,e1,e2,h1,h2,_⟩:=g.kf;intro x hx;rw[e2]at hx
 rcases List.mem_cons.1 hx with rfl |hx
 . rw[h1,h2];exact h f (by rw[e1];exact List.mem_cons_self)
 . exact h x (by rw[e1];exact List.mem_cons_of_mem _ hx)
def GrB (k:Nat) (B:Rs->Rs):Prop:=∀s,RWf s->RRf s->Gr k s (B s)
theorem yI{s:Rs}(h:RWf s)(hf:RRf s){k:Nat}{B:Rs->Rs}(hB:GrB k B){goes ends:List Int}(hg:goes.length<=1)(he:ends.length<=1):Gr 0 s (zT B goes ends s):=by
 unfold zT
 by_cases hw:s.w=0
 . rw[if_pos hw];obtain⟨f,r,e1⟩:=List.exists_cons_of_ne_nil h.fs;have hin:RWf {s with fs:=⟨goes,ends,s.st.length,false⟩::s.fs}:=⟨by simp,λ_=>Nat.le_refl _⟩
   have g1:=hB _ hin (by
    intro x hx
    rcases List.mem_cons.1 hx with rfl |hx
    . exact⟨hg,he⟩
    . exact hf x hx)
   have g2:=g1.trans (yG g1.wf ends) (Nat.le_refl _)
   have key:∀s3,s3=(if(jC ends (B {s with fs:=⟨goes,ends,s.st.length,false⟩::s.fs})).w=0/\(jC ends (B {s with fs:=⟨goes,ends,s.st.length,false⟩::s.fs})).st.length≠((jC ends (B {s with fs:=⟨goes,ends,s.st.length,false⟩::s.fs})).fs.headD fr0).h then zQ 60 (jC ends (B {s with fs:=⟨goes,ends,s.st.length,false⟩::s.fs}))else jC ends (B {s with fs:=⟨goes,ends,s.st.length,false⟩::s.fs}))->Gr 0 s {s3 with fs:=s3.fs.tail}:=by
    generalize hs2:jC ends (B {s with fs:=⟨goes,ends,s.st.length,false⟩::s.fs})=s2 at g2 ⊢;intro s3 e3
    have g3:Gr k {s with fs:=⟨goes,ends,s.st.length,false⟩::s.fs} s3/\(s3.w=0->s3.st.length=s.st.length):=by
     rw[e3]
     by_cases hc:s2.w=0/\s2.st.length≠(s2.fs.headD fr0).h
     . rw[if_pos hc];exact⟨g2.trans (jK g2.wf (by decide)) (Nat.le_refl _),λhw3=>by rw[bad_w (by decide) hc.1]at hw3;exact absurd hw3 (by decide)⟩
     . rw[if_neg hc];refine⟨g2,λhw3=> ?_⟩
       have:s2.st.length=hR s2:=by
        by_cases hq:s2.st.length=(s2.fs.headD fr0).h
        . exact hq
        . exact absurd ⟨hw3,hq⟩ hc
       rw[this,g2.hr];rfl
    obtain⟨g4,hl⟩:=g3;obtain⟨a,a',q,y1,y2,y3,y4,y5⟩:=g4.kf;simp only[List.cons.injEq]at y1;obtain⟨rfl,rfl⟩:=y1;rw[y2];exact⟨⟨f,f,r,e1,e1,rfl,rfl,rfl⟩,λhw3=>⟨hw,by show hR s<=s3.st.length;rw[hl hw3];exact h.ok hw,by show s3.st.length<=_;rw[hl hw3];omega⟩⟩
   exact key _ rfl
 . rw[if_neg hw];exact .refl h
theorem gr_oks:∀(l:List Int) {s:Rs},RWf s->Gr 0 s (yC l s).2
 | [],s,h=>.refl h
 |n::r,s,h=>by
   have g:Gr 0 s (if qT n s then s else zQ 61 s):=by
    split
    . exact .refl h
    . exact jK h (by decide)
   exact g.trans (gr_oks r g.wf) (Nat.le_refl _)
theorem gr_like (g:List Int):∀(ls:List Int) {s:Rs},RWf s->Gr 0 s (yO g ls s)
 | [],s,h=>.refl h
 |n::r,s,h=>by
   have gg:Gr 0 s (if qP n s=g then s else zQ 60 s):=by
    split
    . exact .refl h
    . exact jK h (by decide)
   exact gg.trans (gr_like g r gg.wf) (Nat.le_refl _)
theorem gr_table{s:Rs}(h:RWf s)(a:Int)(ls:List Int):Gr 0 s (rTable a ls s):=by
 have g1:=gr_oks (a::ls) h
 have key:∀q,q=yC (a::ls) s->Gr 0 s (if q.1=true then jP (jC (qP a q.2) (yO (qP a q.2) ls (zP 127 q.2).2))else q.2):=by
  intro q hq;rw[<-hq]at g1;split
  . have g2:=g1.trans (jA g1.wf 127) (Nat.le_refl _);have g3:=g2.trans (gr_like (qP a q.2) ls g2.wf) (Nat.le_refl _);have g4:=g3.trans (yG g3.wf (qP a q.2)) (Nat.le_refl _);exact g4.trans (gr_dead g4.wf) (Nat.le_refl _)
  . exact g1
 exact key _ rfl
theorem gr_call{s:Rs}(h:RWf s){t:List Int×List Int}(ht:t.2.length<=1):Gr 1 s (rCall t s):=by have g:=yG h t.1;exact g.trans (vO g.wf t.2) (by omega)
theorem gr_variable{E:Ev}{s:Rs}(h:RWf s)(op a:Int):Gr 1 s (qQ E op a s):=by
 unfold qQ
 by_cases h1:35<=op
 . rw[if_pos h1];cases E.globals[a.toNat]? with
   |none=>exact(jK h (by decide)).more (by omega)
   |some g=>
     dsimp only
     by_cases h2:op=35
     . rw[if_pos h2];exact vO h [g.1]
     . rw[if_neg h2]
       have gg:Gr 0 s (if g.2=true then s else zQ 62 s):=by
        split
        . exact .refl h
        . exact jK h (by decide)
       exact gg.trans (jA gg.wf _) (by omega)
 . rw[if_neg h1];cases E.locals[a.toNat]? with
   |none=>exact(jK h (by decide)).more (by omega)
   |some t=>
     dsimp only
     have gg:Gr 0 s (if op≠32 then(zP t s).2 else s):=by
      split
      . exact jA h t
      . exact .refl h
     generalize (if op≠32 then(zP t s).2 else s)=s2 at gg
     by_cases h3:op≠33
     . rw[if_pos h3];exact gg.trans (vO gg.wf [t]) (Nat.le_refl _)
     . rw[if_neg h3];exact gg.more (by omega)
theorem gr_memory{E:Ev}{s:Rs}(h:RWf s)(op a:Int):Gr 1 s (jE E op a s):=by
 unfold jE;split
 . exact(jK h (by decide)).more (by omega)
 split
 . exact vO h [127]
 split
 . have g:=jA h 127;exact g.trans (vO g.wf [127]) (Nat.le_refl _)
 . have gg:Gr 0 s (if tooWide op a then zQ 60 s else s):=by
    split
    . exact jK h (by decide)
    . exact .refl h
   generalize (if tooWide op a then zQ 60 s else s)=s2 at gg
   dsimp only
   split
   . have g2:=gg.trans (jA gg.wf (wideT op)) (Nat.le_refl _);exact g2.trans (jA g2.wf 127) (by omega)
   . have g2:=gg.trans (jA gg.wf 127) (Nat.le_refl _);exact g2.trans (vO g2.wf [wideT op]) (Nat.le_refl _)
theorem rLab_len{s:Rs}(h:RRf s)(a:Int):(qP a s).length<=1:=by
 unfold qP;rw[List.getD_eq_getElem?_getD];cases hf:s.fs[a.toNat]? with
 |none=>show fr0.goes.length<=1;decide
 |some f=>exact(h f (List.mem_of_getElem? hf)).1
theorem resV_le(a:Int):(zL a).length<=1:=by unfold zL;split<;>simp
def rIf (B C:Rs->Rs) (a:Int) (n:Nat) (s:Rs):Rs:=
 let s:=(zP 127 s).2
 let s:=if n=0/\0<(zL a).length then zQ 60 s else s
 let s:=zT B (zL a) (zL a) s
 let s:=if 0<n then zT C (zL a) (zL a) s else s
 zW (zL a) s
theorem gr_if{s:Rs}(h:RWf s)(hf:RRf s){k k':Nat}{B C:Rs->Rs}(hB:GrB k B)(hC:GrB k' C)(a:Int)(n:Nat):Gr 1 s (rIf B C a n s):=by
 have g1:=jA h 127;unfold rIf;generalize (zP 127 s).2=s1 at g1
 dsimp only
 have g2:Gr 0 s (if n=0/\0<(zL a).length then zQ 60 s1 else s1):=by
  split
  . exact g1.trans (jK g1.wf (by decide)) (Nat.le_refl _)
  . exact g1
 generalize (if n=0/\0<(zL a).length then zQ 60 s1 else s1)=s2 at g2;have g3:=g2.trans (yI g2.wf (g2.rf hf) hB (resV_le a) (resV_le a)) (Nat.le_refl _);generalize zT B (zL a) (zL a) s2=s3 at g3
 have g4:Gr 0 s (if 0<n then zT C (zL a) (zL a) s3 else s3):=by
  split
  . exact g3.trans (yI g3.wf (g3.rf hf) hC (resV_le a) (resV_le a)) (Nat.le_refl _)
  . exact g3
 generalize (if 0<n then zT C (zL a) (zL a) s3 else s3)=s4 at g4;exact g4.trans (vO g4.wf _) (by have:=resV_le a;omega)
theorem gr_sel{s:Rs}(h:RWf s):Gr 1 s (rSel s):=by
 unfold rSel;have g1:=jA h 0;generalize zP 0 s=x at g1;have g2:=g1.trans (jA g1.wf 0) (Nat.le_refl _)
 dsimp only
 generalize zP 0 x.2=y at g2
 have g3:Gr 0 s (if x.1≠0/\y.1≠0/\x.1≠y.1 then zQ 60 y.2 else y.2):=by
  split
  . exact g2.trans (jK g2.wf (by decide)) (Nat.le_refl _)
  . exact g2
 generalize (if x.1≠0/\y.1≠0/\x.1≠y.1 then zQ 60 y.2 else y.2)=s3 at g3;exact g3.trans (vO g3.wf [_]) (Nat.le_refl _)
theorem gr_instr{E:Ev}(hE:EvR E){s:Rs}(h:RWf s)(hf:RRf s)(op a:Int)(ls:List Int)(n:Nat){k k':Nat}{B C:Rs->Rs}(hB:GrB k B)(hC:GrB k' C):Gr 1 s (vQ E op a ls n B C s):=by
 have m0:∀{s':Rs},Gr 0 s s'->Gr 1 s s':=λg=>g.more (by omega);have hbr:∀{s':Rs},Gr 0 s s'->Gr 0 s (jC (qP a s) s'):=λg=>g.trans (yG g.wf _) (Nat.le_refl _);unfold vQ
 by_cases c1:op=0
 . rw[if_pos c1];exact m0 (gr_dead h)
 rw[if_neg c1]
 by_cases c2:op=1
 . rw[if_pos c2];exact m0 (.refl h)
 rw[if_neg c2]
 by_cases c3:op=2\/op=3
 . rw[if_pos c3]
   have g:=yI h hf hB (goes:=if op=3 then[]else zL a) (by
    split
    . simp
    . exact resV_le a) (resV_le a)
   exact g.trans (vO g.wf _) (by have:=resV_le a;omega)
 rw[if_neg c3]
 by_cases c4:op=4
 . rw[if_pos c4];exact gr_if h hf hB hC a n
 rw[if_neg c4]
 by_cases c5:op=12\/op=13
 . rw[if_pos c5]
   by_cases c6:qT a s
   . rw[if_pos c6]
     by_cases c7:op=13
     . rw[if_pos c7];have g:=hbr (jA h 127);exact g.trans (vO g.wf _) (by have:=rLab_len hf a;omega)
     . rw[if_neg c7];have g:=hbr (.refl h);exact m0 (g.trans (gr_dead g.wf) (Nat.le_refl _))
   . rw[if_neg c6];exact m0 (jK h (by decide))
 rw[if_neg c5]
 by_cases c8:op=14
 . rw[if_pos c8];exact m0 (gr_table h a ls)
 rw[if_neg c8]
 by_cases c9:op=15
 . rw[if_pos c9];have g:=yG h (rRet s);exact m0 (g.trans (gr_dead g.wf) (Nat.le_refl _))
 rw[if_neg c9]
 by_cases d1:op=16
 . rw[if_pos d1];cases hfu:E.funcs[a.toNat]? with
   |none=>exact m0 (jK h (by decide))
   |some t=>exact gr_call h (hE.funcs t (List.mem_of_getElem? hfu))
 rw[if_neg d1]
 by_cases d2:op=17
 . rw[if_pos d2]
   by_cases d3:E.tables=0
   . rw[if_pos d3];exact m0 (jK h (by decide))
   . rw[if_neg d3];cases hty:E.types[a.toNat]? with
     |none=>exact m0 (jK h (by decide))
     |some t=>have g:=jA h 127;exact g.trans (gr_call g.wf (hE.types t (List.mem_of_getElem? hty))) (Nat.le_refl _)
 rw[if_neg d2]
 by_cases d4:op=26
 . rw[if_pos d4];exact m0 (jA h 0)
 rw[if_neg d4]
 by_cases d5:op=27
 . rw[if_pos d5];have g:=jA h 127;exact g.trans (gr_sel g.wf) (Nat.le_refl _)
 rw[if_neg d5]
 by_cases d6:op=65
 . rw[if_pos d6];exact vO h [127]
 rw[if_neg d6]
 by_cases d7:op=66
 . rw[if_pos d7];exact vO h [126]
 rw[if_neg d7]
 by_cases d8:zG op=6
 . rw[if_pos d8];exact gr_variable h op a
 rw[if_neg d8]
 by_cases d9:zG op=8\/op=63\/op=64
 . rw[if_pos d9];exact gr_memory h op a
 . rw[if_neg d9];have g:=gr_pops (List.replicate (sgN (sgV op).1) (sgV op).2.2) h;exact g.trans (vO g.wf [_]) (Nat.le_refl _)
theorem yH {E:Ev} (hE:EvR E):∀l:Il,GrB l.len (ryL E l)
 |.nil=>λs h hf=>.refl h
 |.cons op a y n ls body els rest=>λs h hf=>by
   have g:=gr_instr hE h hf op a ls els.len (yH hE body) (yH hE els)
   show Gr (rest.len+1) s (if s.w=0 then ryL E rest (vQ E op a ls els.len (ryL E body) (ryL E els) s)else s)
   split
   . exact g.trans (yH hE rest _ g.wf (g.rf hf)) (by omega)
   . exact(Gr.refl h).more (Nat.zero_le _)
end Go.Proofs.YtacohbllbjgdgaaGreatDoor
