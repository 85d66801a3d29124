/- The contracts of Check's deferred closure. -/
import Derived.Test.YtacohbllbjgdgaaGreatDoorNb
import Derived.Defers
import Derived.Recover
import Derived.Laws.Pointers
import Derived.Test.YtacohbllbjgdgaaGreatDoorMh
import Derived.Deep.QuietTactic
import Derived.BigQuiet
import Derived.WalkSmall
set_option linter.all false
set_option maxRecDepth 100000
set_option maxHeartbeats 1500000
namespace Go.Proofs.YtacohbllbjgdgaaGreatDoor
open Go.RowKit
theorem catch_idle(p:Addr)(w:World):CallsD Tryz.prog 45 #[.pointer (some p)] .returning w λe u' w'=>e=.returned (.tuple #[])/\u'=.returning/\w'=w:=by
 refine callsD_of_wpS Tryz.func45 rfl λc₀ cs hu=> ?_;apply wpS_seq;apply wpS_region;simp[wpOpsS,go_sem,recoverD,hu,Tryz.ntmps45,Exit.thenS];refine wpS_of_wp ?_;go_wp2;cases c₀
 simp_all [bodyPostS,results,Tryz.results45]
theorem assert_fault(n:Int)(w:World):(Instr.typeAssert (Value.iface 87 (.agg #[.int .i64 n])) 20 87 true).run Tryz.prog w=.ok (.tuple #[.agg #[.int .i64 n],.bool true]) w:=by kernel_rfl
theorem catch_fault(p:Nat)(x n:Int)(older:List PanicEntry)(w:World)(hc:w.cell? ⟨p,0,none⟩=some (.int .i64 x))(hz:w.frozen? ⟨p,0,none⟩=false):CallsD Tryz.prog 45 #[.pointer (some ⟨p,0,none⟩)] (.panicking ({v:=.iface 87 (.agg #[.int .i64 n]),recovered:=false}::older)) w λe u' w'=>e=.returned (.tuple #[])/\u'=.panicking ({v:=.iface 87 (.agg #[.int .i64 n]),recovered:=true}::older)/\w'=(w.setCell ⟨p,0,none⟩ (.int .i64 n)).alloc (.cells #[.int .i64 n] 87):=by
 refine callsD_of_wpS Tryz.func45 rfl λc₀ cs hu=> ?_;apply wpS_seq;apply wpS_region;simp[wpOpsS,go_sem,recoverD,hu,Tryz.ntmps45,Exit.thenS];refine wpS_of_wp ?_;have hta:=assert_fault n;have hp:p<w.heap.size:=World.block_lt_of_cell? _ _ hc;change Code.wp Tryz.prog _ _ {tmps:= #[.pointer (some ⟨p,0,none⟩),undef,undef,undef,.iface 87 (.agg #[.int .i64 n]),undef,undef,undef,undef,undef,undef,undef],defers:=[]} w;go_wp2;cases c₀
 simp_all [bodyPostS,results,Tryz.results45]
def flatM (m:Md):Bool:=m.funcs.all λt=>vK t.2.2 0
def zU (m:Md):Int:=if fewB m=false then 3 else if flatM m=false then 4 else if jG m=false then 30 else 0
theorem vP{w2:World}{q:Nat}{n:Int}{u:Value}{o:Obj}(h:w2.cell? ⟨q,0,none⟩=some u):((w2.setCell ⟨q,0,none⟩ (.int .i64 n)).alloc o).cell? ⟨q,0,none⟩=some (.int .i64 n):=by have hl:=World.block_lt_of_cell? _ _ h;exact(World.cell?_alloc_past _ _ _ (by simpa using hl)).trans (xM h)
theorem xZ{w w2:World}{q:Nat}{v:Value}{o:Obj}(h:Below w.heap.size w w2)(hq:w.heap.size<=q):Below w.heap.size w ((w2.setCell ⟨q,0,none⟩ v).alloc o):=
 (h.setCell (p:=⟨q,0,none⟩) hq v).alloc (h.setCell (p:=⟨q,0,none⟩) hq v).size o
theorem check_any(m:Md)(a0:Option Addr)(k0:Nat)(a1:Option Addr)(k1:Nat)(a2:Option Addr)(k2:Nat)(a3:Option Addr)(k3:Nat)(a4:Option Addr)(k4:Nat)(a5:Option Addr)(k5:Nat)(a6:Option Addr)(k6:Nat)(a7:Option Addr)(k7:Nat)(a8:Option Addr)(k8:Nat)(a9:Option Addr)(k9:Nat)(w:World)(h:MdAt w m a0 k0 a1 k1 a2 k2 a3 k3 a4 k4 a5 k5 a6 k6 a7 k7 a8 k8 a9 k9)(hT:TabU w):Calls Tryz.prog 24 #[mdV m a0 k0 a1 k1 a2 k2 a3 k3 a4 k4 a5 k5 a6 k6 a7 k7 a8 k8 a9 k9] w λe w'=>e=.returned (.int .i64 (zU m))/\Below w.heap.size w w':=by
 have hb2:Below w.heap.size w ((w.alloc (.cells #[.slice a0 m.types.length k0,.slice a1 m.imports.length k1,.slice a2 m.funcs.length k2,.slice a3 m.tables.length k3,.slice a4 m.mems.length k4,.slice a5 m.globals.length k5,.slice a6 m.exports.length k6,.slice a7 m.start.length k7,.slice a8 m.elems.length k8,.slice a9 m.datas.length k9] 32)).alloc (.cells #[.int .i64 0] 36)):=((Below.refl _ _).alloc (Nat.le_refl _) _).alloc (by simp) _;have HM:=zh (h.keep (zA hb2));have HU:=zh (hT.below hb2);have hB0:=zh hb2;have hmf:=hmf;have n2:=h.funcs.1;clear h hT hb2;unfold mdV
 go_enter_defers Tryz.func24,Tryz.ntmps24
 go_wp2_with fail;obtain⟨w0,hw0⟩:∃w0,w0=((w.alloc (.cells #[.slice a0 m.types.length k0,.slice a1 m.imports.length k1,.slice a2 m.funcs.length k2,.slice a3 m.tables.length k3,.slice a4 m.mems.length k4,.slice a5 m.globals.length k5,.slice a6 m.exports.length k6,.slice a7 m.start.length k7,.slice a8 m.elems.length k8,.slice a9 m.datas.length k9] 32)).alloc (.cells #[.int .i64 0] 36)):=⟨_,rfl⟩
 rw[<-hw0];rw[<-hw0]at HM HU hB0;have hs0:w.heap.size<=w0.heap.size:=hB0.out.size;have hlr:w.heap.size+1<w0.heap.size:=(by rw[hw0];simp)
 have yr:Hid (w0.cell? ⟨w.heap.size+1,0,none⟩=some (.int .i64 0)):=zh (by rw[hw0];exact World.cell?_alloc_at _ _ _ _ (by simp));have yz:Hid (w0.frozen? ⟨w.heap.size+1,0,none⟩=false):=zh (by rw[hw0];exact World.frozen?_alloc_at _ _ _ _ (by simp));have y0:Hid (w0.cell? ⟨w.heap.size,0,none⟩=some (.slice a0 m.types.length k0)):=zh (by rw[hw0,World.cell?_alloc_past _ _ _ (by simp)];exact World.cell?_alloc_at _ _ _ _ rfl);have y1:Hid (w0.cell? ⟨w.heap.size,1,none⟩=some (.slice a1 m.imports.length k1)):=zh (by rw[hw0,World.cell?_alloc_past _ _ _ (by simp)];exact World.cell?_alloc_at _ _ _ _ rfl);have y2:Hid (w0.cell? ⟨w.heap.size,2,none⟩=some (.slice a2 m.funcs.length k2)):=zh (by rw[hw0,World.cell?_alloc_past _ _ _ (by simp)];exact World.cell?_alloc_at _ _ _ _ rfl);have y3:Hid (w0.cell? ⟨w.heap.size,3,none⟩=some (.slice a3 m.tables.length k3)):=zh (by rw[hw0,World.cell?_alloc_past _ _ _ (by simp)];exact World.cell?_alloc_at _ _ _ _ rfl);have y4:Hid (w0.cell? ⟨w.heap.size,4,none⟩=some (.slice a4 m.mems.length k4)):=zh (by rw[hw0,World.cell?_alloc_past _ _ _ (by simp)];exact World.cell?_alloc_at _ _ _ _ rfl);have y5:Hid (w0.cell? ⟨w.heap.size,5,none⟩=some (.slice a5 m.globals.length k5)):=zh (by rw[hw0,World.cell?_alloc_past _ _ _ (by simp)];exact World.cell?_alloc_at _ _ _ _ rfl);have y6:Hid (w0.cell? ⟨w.heap.size,6,none⟩=some (.slice a6 m.exports.length k6)):=zh (by rw[hw0,World.cell?_alloc_past _ _ _ (by simp)];exact World.cell?_alloc_at _ _ _ _ rfl)
 have y7:Hid (w0.cell? ⟨w.heap.size,7,none⟩=some (.slice a7 m.start.length k7)):=zh (by rw[hw0,World.cell?_alloc_past _ _ _ (by simp)];exact World.cell?_alloc_at _ _ _ _ rfl);have y8:Hid (w0.cell? ⟨w.heap.size,8,none⟩=some (.slice a8 m.elems.length k8)):=zh (by rw[hw0,World.cell?_alloc_past _ _ _ (by simp)];exact World.cell?_alloc_at _ _ _ _ rfl);have y9:Hid (w0.cell? ⟨w.heap.size,9,none⟩=some (.slice a9 m.datas.length k9)):=zh (by rw[hw0,World.cell?_alloc_past _ _ _ (by simp)];exact World.cell?_alloc_at _ _ _ _ rfl);clear hw0;refine(few_any m a0 k0 a1 k1 a2 k2 a3 k3 a4 k4 a5 k5 a6 k6 a7 k7 a8 k8 a9 k9 _ HM.out).mono ?_;rintro e w2 ⟨rfl,b2⟩;have hb:=zh b2;clear b2;cases hX:fewB m
 . have S:Hid (zU m=3):=zh (by unfold zU;rw[hX];rfl);rw[qF];clear hX;go_wp2;unfold fault;refine leaves_cons (f:=45) (args:= #[.pointer (some ⟨w.heap.size+1,0,none⟩)]) (by simp) (by simp[go_sem]) ?_;refine(catch_fault (w.heap.size+1) 0 3 [] _ (zA hb.out _ _ yr.out) ((hb.out.frozen hlr).trans yz.out)).mono ?_;rintro e u' w'' ⟨rfl,rfl,rfl⟩;have hca:=vP (n:=3) (o:=.cells #[.int .i64 3] 87) (zA hb.out _ _ yr.out);have hcb:=xZ (v:=.int .i64 3) (o:=.cells #[.int .i64 3] 87) (hB0.out.trans (hb.out.mono hs0)) (show w.heap.size<=w.heap.size+1 by omega);have hS:=S.out;simp[Leaves,settle,results,Tryz.results24,go_sem];rw[hca];exact⟨_,rfl,by rw[hS],hcb⟩
 . have S1:Hid (zU m=if flatM m=false then 4 else if jG m=false then 30 else 0):=zh (by unfold zU;rw[hX];rfl);rw[zY];clear hX;have x2:w2.cell? ⟨w.heap.size,2,none⟩=some (.slice a2 m.funcs.length k2):=zA hb.out _ _ y2.out;go_wp2_with fail;go_loopw [11] (λvi wr=>∃i:Nat,i<=m.funcs.length/\vi=.int .i64 i/\Hid ((m.funcs.take i).all (λt=>vK t.2.2 0)=true)/\Hid (Below w0.heap.size w0 wr)) (λvi _=>m.funcs.length-(intOf vi).toNat)
   case atStart=>exact⟨0,Nat.zero_le _,rfl,zh rfl,hb⟩
   case round=>
    clear hb;obtain⟨i,hi,rfl,ha,hb⟩:=hrel
    by_cases hlt:i<m.funcs.length
    . obtain⟨t,ht⟩:∃t,m.funcs[i]? =some t:=⟨_,List.getElem?_eq_getElem hlt⟩
      obtain⟨b,o,e,hrow⟩:=(HM.out.funcs.keep λ_ _ _=>FuncAt.keep (zA hb.out)).row ht;cases e;have hn:=zh (jH ht ha.out);have hal:=λo=>(Below.refl wr.heap.size wr).alloc (Nat.le_refl _) o;clear ht ha;obtain⟨ty,lo,bo⟩:=t;obtain⟨c0,⟨q1,r1,c1,i1⟩,⟨q2,r2,c2,l2,i2⟩⟩:=hrow;unfold jA at c0;simp only at c0 c1 c2 i1 i2 l2;have i2:=zh i2;clear i1;have hb2:∀o,Below w0.heap.size w0 (wr.alloc o):=λo=>hb.out.trans ((hal o).mono hb.out.size);have hfl:=λ(wq:World) h=>zh (flat_any bo q2 r2 wq 0 l2 h (by omega) (by omega));go_wp2_with fail;refine(hfl _ (i2.out.below (hal _))).out.mono ?_;rintro e v1 ⟨rfl,bb⟩;have hB1:=zh ((hb2 _).trans (bb.mono (hb2 _).size));clear bb hfl;cases hX:vK bo 0
      . have S:Hid (zU m=4):=zh (by
         have:flatM m=false:=hn.out.2 hX;rw[S1.out,this];rfl)
        rw[qF];clear hX;go_wp2;unfold fault;refine leaves_cons (f:=45) (args:= #[.pointer (some ⟨w.heap.size+1,0,none⟩)]) (by simp) (by simp[go_sem]) ?_;refine(catch_fault (w.heap.size+1) 0 4 [] _ (zA hB1.out _ _ yr.out) ((hB1.out.frozen hlr).trans yz.out)).mono ?_;rintro e u' w'' ⟨rfl,rfl,rfl⟩;have hca:=vP (n:=4) (o:=.cells #[.int .i64 4] 87) (zA hB1.out _ _ yr.out);have hcb:=xZ (v:=.int .i64 4) (o:=.cells #[.int .i64 4] 87) (hB0.out.trans (hB1.out.mono hs0)) (show w.heap.size<=w.heap.size+1 by omega);have hS:=S.out;simp[Leaves,settle,results,Tryz.results24,go_sem];rw[hca];exact⟨_,rfl,by rw[hS],hcb⟩
      . have hn2:=zh (hn.out.1 hX);rw[zY];clear hX;go_wp2
        go_roundw
        case rel=>exact⟨i+1,by omega,by simp,hn2,hB1⟩
        case measure=>simp[intOf];omega
    . have hiN:i=m.funcs.length:=(by omega)
      subst hiN;have ha2:flatM m=true:=(by have:=ha.out;rwa [List.take_length]at this)
      have S2:Hid (zU m=if jG m=false then 30 else 0):=zh (by rw[S1.out,ha2];rfl);clear ha ha2 hi hlt;have x0:wr.cell? ⟨w.heap.size,0,none⟩=some (.slice a0 m.types.length k0):=zA hb.out _ _ y0.out;have x1:wr.cell? ⟨w.heap.size,1,none⟩=some (.slice a1 m.imports.length k1):=zA hb.out _ _ y1.out;have x2:wr.cell? ⟨w.heap.size,2,none⟩=some (.slice a2 m.funcs.length k2):=zA hb.out _ _ y2.out;have x3:wr.cell? ⟨w.heap.size,3,none⟩=some (.slice a3 m.tables.length k3):=zA hb.out _ _ y3.out;have x4:wr.cell? ⟨w.heap.size,4,none⟩=some (.slice a4 m.mems.length k4):=zA hb.out _ _ y4.out;have x5:wr.cell? ⟨w.heap.size,5,none⟩=some (.slice a5 m.globals.length k5):=zA hb.out _ _ y5.out;have x6:wr.cell? ⟨w.heap.size,6,none⟩=some (.slice a6 m.exports.length k6):=zA hb.out _ _ y6.out;have x7:wr.cell? ⟨w.heap.size,7,none⟩=some (.slice a7 m.start.length k7):=zA hb.out _ _ y7.out;have x8:wr.cell? ⟨w.heap.size,8,none⟩=some (.slice a8 m.elems.length k8):=zA hb.out _ _ y8.out;have x9:wr.cell? ⟨w.heap.size,9,none⟩=some (.slice a9 m.datas.length k9):=zA hb.out _ _ y9.out;go_wp2_with fail;refine(shaped_any m a0 k0 a1 k1 a2 k2 a3 k3 a4 k4 a5 k5 a6 k6 a7 k7 a8 k8 a9 k9 _ (HM.out.keep (zA hb.out)) (HU.out.below hb.out)).mono ?_;rintro e v1 ⟨rfl,bb⟩;have hB1:=zh (hb.out.trans (bb.mono hb.out.size))
      clear bb;cases hX:jG m
      . have S:Hid (zU m=30):=zh (by rw[S2.out,hX];rfl);rw[qF];clear hX;go_wp2;unfold fault;refine leaves_cons (f:=45) (args:= #[.pointer (some ⟨w.heap.size+1,0,none⟩)]) (by simp) (by simp[go_sem]) ?_;refine(catch_fault (w.heap.size+1) 0 30 [] _ (zA hB1.out _ _ yr.out) ((hB1.out.frozen hlr).trans yz.out)).mono ?_;rintro e u' w'' ⟨rfl,rfl,rfl⟩;have hca:=vP (n:=30) (o:=.cells #[.int .i64 30] 87) (zA hB1.out _ _ yr.out);have hcb:=xZ (v:=.int .i64 30) (o:=.cells #[.int .i64 30] 87) (hB0.out.trans (hB1.out.mono hs0)) (show w.heap.size<=w.heap.size+1 by omega);have hS:=S.out;simp[Leaves,settle,results,Tryz.results24,go_sem];rw[hca];exact⟨_,rfl,by rw[hS],hcb⟩
      . have S:Hid (zU m=0):=zh (by rw[S2.out,hX];rfl);rw[zY];clear hX;have xr:=zA hB1.out _ _ yr.out;have xz:=(hB1.out.frozen hlr).trans yz.out;go_wp2_with fail;refine leaves_cons (f:=45) (args:= #[.pointer (some ⟨w.heap.size+1,0,none⟩)]) (by simp) (by simp[go_sem]) ?_;refine(catch_idle ⟨w.heap.size+1,0,none⟩ _).mono ?_;rintro e u' w'' ⟨rfl,rfl,rfl⟩;have hca:(v1.setCell ⟨w.heap.size+1,0,none⟩ (.int .i64 0)).cell? ⟨w.heap.size+1,0,none⟩=some (.int .i64 0):=xM xr;have hcb:Below w.heap.size w (v1.setCell ⟨w.heap.size+1,0,none⟩ (.int .i64 0)):=(hB0.out.trans (hB1.out.mono hs0)).setCell (p:=⟨w.heap.size+1,0,none⟩) (show w.heap.size<=w.heap.size+1 by omega) _;have hS:=S.out;simp[Leaves,settle,results,Tryz.results24,go_sem,hca];exact⟨hS.symm,hcb⟩
theorem size_of{w:World}{h:Nat}(hh:w.heap.size=h)(o:Obj):(w.alloc o).heap.size=h+1:=by simp[hh]
theorem Keeps.trans{a b c:World}(f:Keeps a b)(g:Keeps b c):Keeps a c:=λp v h=>g p v (f p v h)
theorem yI(w:World):IntsIn w none []:=⟨Nat.zero_le _,.inl rfl⟩
theorem yG{α:Type}(F:World->Nat->Nat->α->Prop)(k:Nat)(w:World):RowsIn F k w none []:=⟨Nat.zero_le _,.inl rfl⟩
theorem il_nil(w:World)(a:Option Addr)(i:Nat):IlIn w a i .nil:=.inl rfl
def mdTF (ts:List (List Int×List Int)) (fs:List (Int×List Int×Il)):Md:=⟨ts,[],fs,[],[],[],[],[],[],[]⟩
theorem md_TF{w:World}{ts:List (List Int×List Int)}{fs:List (Int×List Int×Il)}{a0 a2:Option Addr}{k0 k2:Nat}(h0:RowsIn TypeAt 2 w a0 ts)(h2:RowsIn FuncAt 3 w a2 fs):MdAt w (mdTF ts fs) a0 k0 none 0 a2 k2 none 0 none 0 none 0 none 0 none 0 none 0 none 0:=
 ⟨h0,yG _ _ _,h2,yG _ _ _,yG _ _ _,yG _ _ _,yG _ _ _,yI _,yG _ _ _,yG _ _ _⟩
theorem rows_one{α:Type}{F:World->Nat->Nat->α->Prop}{k:Nat}{w:World}{b o:Nat}{x:α}(h:F w b o x):RowsIn F k w (some ⟨b,o,none⟩) [x]:=
 ⟨by simp,.inr ⟨b,o,rfl,λi y hy=>by
  cases i with
  |zero=>simp at hy;subst hy;simpa using h
  |succ i=>simp at hy⟩⟩
theorem ints_one{w:World}{b o:Nat}{x:Int}(h:w.cell? ⟨b,o,none⟩=some (.int .i64 x)):IntsIn w (some ⟨b,o,none⟩) [x]:=
 ⟨by simp,.inr ⟨b,o,rfl,λi y hy=>by
  cases i with
  |zero=>simp at hy;subst hy;simpa using h
  |succ i=>simp at hy⟩⟩
def LabelsC (l:Il):Prop:=∀(ao:Option Addr) (c:Nat) (w:World),l.len<=9223372036854775807->IlIn w ao 0 l->
 Calls Tryz.prog 42 #[.slice ao l.len c] w λe w'=>e=.returned (.bool (!lab l))/\w=w'
theorem labels_step(l:Il)(hs:Sub LabelsC l):LabelsC l:=by
 intro ao c w hl hw;obtain⟨N,hN⟩:∃N,l.len=N:=⟨_,rfl⟩
 rw[hN]at hl ⊢;go_enter Tryz.func42,Tryz.ntmps42;go_wp2_with fail;go_loopw [3] (λvi wr=>∃(i:Nat) (r:Il),vi=.int .i64 i/\wr=w/\i+r.len=N/\Hid (IlIn w ao i r)/\Hid (Sub LabelsC r)/\Hid (lab l=lab r)) (λvi _=>N-(intOf vi).toNat)
 case atStart=>exact⟨0,l,rfl,rfl,by omega,zh hw,zh hs,zh rfl⟩
 case round=>
  obtain⟨i,r,rfl,rfl,hi,hr,hsub,hc⟩:=hrel;cases r with
  |nil=>
    have hiN:i=N:=(by simpa[Il.len]using hi)
    subst hiN;go_wp2;go_ret;exact⟨by rw[hc.out];rfl,rfl⟩
  |cons op x y n ls body els rest=>
    have hlen:i+(rest.len+1)=N:=hi;have hlt:i<N:=(by omega)
    obtain⟨b,o,a4,k4,a5,k5,a6,k6,rfl,hh,hrest⟩:=hr.out.head;obtain⟨c0,c1,c2,c3,c4,c5,c6,i4,l5,i5,l6,i6⟩:=hh;have hr2:=zh hrest;have hcb:=zh (hsub.out.1 a5 k5 wr l5 i5);have hce:=zh (hsub.out.2.1 a6 k6 wr l6 i6);have hsr:=zh hsub.out.2.2;have hls:=i4.1;have hc2:Hid (lab l=(decide (ls.length<=4096)&&(lab body&&(lab els&&lab rest)))):=zh (by rw[hc.out];rfl);clear hr hrest i4 i5 i6 hi hsub hc
    by_cases hL:ls.length<=4096
    . rw[decide_eq_true hL,Bool.true_and]at hc2;go_wp2_with fail;refine hcb.out.mono ?_;rintro e w2 ⟨rfl,rfl⟩;cases hX:lab body
      . rw[hX,Bool.false_and]at hc2;go_wp2;go_ret;exact⟨by rw[hc2.out];rfl,rfl⟩
      . rw[hX,Bool.true_and]at hc2;go_wp2_with fail;refine hce.out.mono ?_;rintro e w2 ⟨rfl,rfl⟩;cases hY:lab els
        . rw[hY,Bool.false_and]at hc2;go_wp2;go_ret;exact⟨by rw[hc2.out];rfl,rfl⟩
        . rw[hY,Bool.true_and]at hc2;go_wp2
          go_roundw
          case rel=>exact⟨i+1,rest,by simp,trivial,by omega,hr2,hsr,hc2⟩
          case measure=>simp[intOf];omega
    . rw[decide_eq_false hL,Bool.false_and]at hc2;go_wp2;go_ret;exact⟨by rw[hc2.out];rfl,rfl⟩
theorem labels_any(l:Il):LabelsC l:=Il.each labels_step l
def DeepC (l:Il):Prop:=∀(ao:Option Addr) (c:Nat) (w:World) (d:Int),l.len<=9223372036854775807->IlIn w ao 0 l->0<=d->d<=65->
 Calls Tryz.prog 43 #[.slice ao l.len c,.int .i64 d] w λe w'=>e=.returned (.bool (!vK l d))/\w=w'
theorem deep_step(l:Il)(hs:Sub DeepC l):DeepC l:=by
 intro ao c w d hl hw hd0 hd1;have hb0:Hid (vK l d=((l.len==0||decide (d<=64))&&flatR l d)):=zh rfl;obtain⟨N,hN⟩:∃N,l.len=N:=⟨_,rfl⟩
 rw[hN]at hl hb0 ⊢;go_enter Tryz.func43,Tryz.ntmps43
 by_cases hg:0<N/\64<d
 . have hv:vK l d=false:=by rw[hb0.out,decide_eq_false (by omega),show(N==0)=false by simp;omega];rfl
   obtain⟨g1,g2⟩:=hg;go_wp2;go_ret;exact⟨by rw[hv];rfl,rfl⟩
 . have hv:Hid (vK l d=flatR l d):=zh (by
    rw[hb0.out]
    by_cases h0:N=0
    . rw[h0];simp
    . rw[decide_eq_true (by omega)];simp)
   clear hb0
   by_cases hN0:N=0
   . have hln:l=.nil:=by
      cases l with
      |nil=>rfl
      |cons=>simp[Il.len]at hN;omega
     subst hN0;subst hln;go_wp2_with fail;go_loopw [5] (λvi wr=>vi=.int .i64 0/\wr=w) (λ_ _=>0)
     case atStart=>exact⟨rfl,rfl⟩
     case round=>obtain⟨rfl,rfl⟩:=hrel;go_wp2;go_ret;exact⟨by rw[hv.out];rfl,rfl⟩
   have hNp:0<N:=(by omega)
   have hd64:d<=64:=(by omega)
   clear hg hN0;go_wp2_with fail;go_loopw [5] (λvi wr=>∃(i:Nat) (r:Il),vi=.int .i64 i/\wr=w/\i+r.len=N/\Hid (IlIn w ao i r)/\Hid (Sub DeepC r)/\Hid (vK l d=flatR r d)) (λvi _=>N-(intOf vi).toNat)
   case atStart=>exact⟨0,l,rfl,rfl,by omega,zh hw,zh hs,hv⟩
   case round=>
    obtain⟨i,r,rfl,rfl,hi,hr,hsub,hc⟩:=hrel;cases r with
    |nil=>
      have hiN:i=N:=(by simpa[Il.len]using hi)
      subst hiN;go_wp2;go_ret;exact⟨by rw[hc.out];rfl,rfl⟩
    |cons op x y n ls body els rest=>
      have hlen:i+(rest.len+1)=N:=hi;have hlt:i<N:=(by omega)
      obtain⟨b,o,a4,k4,a5,k5,a6,k6,rfl,hh,hrest⟩:=hr.out.head;obtain⟨c0,c1,c2,c3,c4,c5,c6,i4,l5,i5,l6,i6⟩:=hh;have hr2:=zh hrest;have hcb:=zh (hsub.out.1 a5 k5 wr (d+1) l5 i5 (by omega) (by omega));have hce:=zh (hsub.out.2.1 a6 k6 wr (d+1) l6 i6 (by omega) (by omega));have hsr:=zh hsub.out.2.2;have hc2:Hid (vK l d=(vK body (d+1)&&(vK els (d+1)&&flatR rest d))):=zh (by rw[hc.out];rfl);clear hr hrest i4 i5 i6 hi hsub hc hv;go_wp2_with fail;refine hcb.out.mono ?_;rintro e w2 ⟨rfl,rfl⟩;cases hX:vK body (d+1)
      . rw[hX,Bool.false_and]at hc2;go_wp2;go_ret;exact⟨by rw[hc2.out];rfl,rfl⟩
      . rw[hX,Bool.true_and]at hc2;go_wp2_with fail;refine hce.out.mono ?_;rintro e w2 ⟨rfl,rfl⟩;cases hY:vK els (d+1)
        . rw[hY,Bool.false_and]at hc2;go_wp2;go_ret;exact⟨by rw[hc2.out];rfl,rfl⟩
        . rw[hY,Bool.true_and]at hc2;go_wp2
          go_roundw
          case rel=>exact⟨i+1,rest,by simp,trivial,by omega,hr2,hsr,hc2⟩
          case measure=>simp[intOf];omega
theorem deep_any(l:Il):DeepC l:=Il.each deep_step l
theorem quietMany{P:Program}{f:FuncId}{args:Array Value}{w:World}{n:Nat}{v:Value}(h:Calls P f args (w.drewN n) λe w'=>e=.returned v/\∃m,w'=(w.drewN n).drewN m):Calls P f args (w.drewN n) λe w''=>e=.returned v/\∃m,w''=w.drewN m:=
 h.mono λ_ _ ⟨he,m,hm⟩=>⟨he,n+m,by rw[hm,World.drewN_drewN]⟩
theorem IlIn.drewN{w:World}{a:Option Addr}{i:Nat}{l:Il}(h:IlIn w a i l)(n:Nat):IlIn (w.drewN n) a i l:=h.below (below_drewN (Below.refl _ _) n)
theorem vU(n:Int)(h0:0<=n)(h1:n<9223372036854775808):IntKind.i64.wrap n=n:=by simp[IntKind.wrap,IntKind.bits,IntKind.signed];omega
theorem cnt_neg(l:Il):cnt l (-1)= -1:=by
 cases l with
 |nil=>rfl
 |cons op x y n ls body els rest=>rfl
def CountC (l:Il):Prop:=∀(ao:Option Addr) (c:Nat) (w:World) (nn left:Int),l.len<=9223372036854775807->IlIn w ao 0 l->nn+left=65536→-1<=left->left<=65536->
 Calls Tryz.prog 59 #[.slice ao l.len c,.int .i64 nn] w λe w'=>e=.returned (.int .i64 (65536-cnt l left))/\∃m,w'=w.drewN m
theorem rcount_step(l:Il)(hs:Sub CountC l):CountC l:=by
 intro ao c w nn left hl hw hnn h0 h1;obtain⟨N,hN⟩:∃N,l.len=N:=⟨_,rfl⟩
 rw[hN]at hl ⊢;go_enter Tryz.func59,Tryz.ntmps59;go_wp2_with fail;go_loopw [1,5] (λvn vi wr=>∃(i m:Nat) (r:Il) (L n:Int),vi=.int .i64 i/\vn=.int .i64 n/\n+L=65536∧-1<=L/\L<=65536/\Hid (wr=w.drewN m)/\i+r.len=N/\Hid (IlIn wr ao i r)/\Hid (Sub CountC r)/\Hid (cnt l left=cnt r L)) (λ_ vi _=>N-(intOf vi).toNat)
 case atStart=>exact⟨0,0,l,left,nn,rfl,rfl,hnn,h0,h1,zh rfl,by omega,zh hw,zh hs,zh rfl⟩
 case round=>
  obtain⟨i,m,r,L,n,rfl,rfl,hnL,hL0,hL1,hwr,hi,hr,hsub,hc⟩:=hrel
  by_cases hneg:L= -1
  . have hv:cnt l left= -1:=(by rw[hc.out,hneg,cnt_neg])
    have hn7:n=65537:=(by omega)
    subst hn7;clear hc hr hsub
    by_cases hiN:i<N
    . go_wp2;go_ret;exact⟨by rw[hv];rfl,m,hwr.out⟩
    . go_wp2;go_ret;exact⟨by rw[hv];rfl,m,hwr.out⟩
  cases r with
  |nil=>
    have hiN:i=N:=(by simpa[Il.len]using hi)
    subst hiN;have hv:65536-cnt l left=n:=(by rw[hc.out];show 65536-L=n;omega)
    go_wp2;go_ret;exact⟨by rw[hv];rfl,m,hwr.out⟩
  |cons op x y n' ls body els rest=>
    have hlen:i+(rest.len+1)=N:=hi;have hlt:i<N:=(by omega)
    obtain⟨b,o,a4,k4,a5,k5,a6,k6,rfl,hh,hrest⟩:=hr.out.head;obtain⟨c0,c1,c2,c3,c4,c5,c6,i4,l5,i5,l6,i6⟩:=hh;have hr2:=zh hrest
    have hX:∃X,-1<=X/\X<=65536/\X=cnt body (L-1):=by
     rcases(show L-1= -1\/0<=L-1 by omega)with h |h
     . exact⟨-1,by omega,by omega,by rw[h,cnt_neg]⟩
     . have:=cnt_bd body (L-1) h;exact⟨_,this.1,by omega,rfl⟩
    obtain⟨X,hX0,hX1,hX⟩:=hX
    have hY:∃Y,-1<=Y/\Y<=65536/\Y=cnt els X:=by
     rcases(show X= -1\/0<=X by omega)with h |h
     . exact⟨-1,by omega,by omega,by rw[h,cnt_neg]⟩
     . have:=cnt_bd els X h;exact⟨_,this.1,by omega,rfl⟩
    obtain⟨Y,hY0,hY1,hY⟩:=hY
    have hc2:Hid (cnt l left=cnt rest Y):=zh (by
     rw[hc.out]
     show(if(if 0<=(if 0<=L-1 then cnt body (L-1)else L-1)then cnt els (if 0<=L-1 then cnt body (L-1)else L-1)else(if 0<=L-1 then cnt body (L-1)else L-1))<0 then -1 else cnt rest (if 0<=(if 0<=L-1 then cnt body (L-1)else L-1)then cnt els (if 0<=L-1 then cnt body (L-1)else L-1)else(if 0<=L-1 then cnt body (L-1)else L-1)))=_
     have e1:(if 0<=L-1 then cnt body (L-1)else L-1)=X:=by
      by_cases h:0<=L-1
      . rw[if_pos h,hX]
      . rw[if_neg h,hX,show L-1= -1 by omega,cnt_neg]
     rw[e1]
     have e2:(if 0<=X then cnt els X else X)=Y:=by
      by_cases h:0<=X
      . rw[if_pos h,hY]
      . rw[if_neg h,hY,show X= -1 by omega,cnt_neg]
     rw[e2]
     by_cases h:Y<0
     . rw[if_pos h,show Y= -1 by omega,cnt_neg]
     . rw[if_neg h])
    obtain⟨U,hUX⟩:∃U,U=65536-X:=⟨_,rfl⟩
    obtain⟨V,hVY⟩:∃V,V=65536-Y:=⟨_,rfl⟩
    have hcb:∀q,Hid (Calls Tryz.prog 59 #[.slice a5 body.len k5,.int .i64 (IntKind.i64.wrap (n+1))] (wr.drewN q) λe w'=>e=.returned (.int .i64 U)/\∃m,w'=(wr.drewN q).drewN m):=λq=>zh (by
     rw[hUX,hX,vU (n+1) (by omega) (by omega)];exact hsub.out.1 a5 k5 (wr.drewN q) (n+1) (L-1) l5 (i5.drewN q) (by omega) (by omega) (by omega))
    have hce:∀q,Hid (Calls Tryz.prog 59 #[.slice a6 els.len k6,.int .i64 U] (wr.drewN q) λe w'=>e=.returned (.int .i64 V)/\∃m,w'=(wr.drewN q).drewN m):=λq=>zh (by
     rw[hVY,hY];exact hsub.out.2.1 a6 k6 (wr.drewN q) U X l6 (i6.drewN q) (by omega) (by omega) (by omega))
    have hsr:=zh hsub.out.2.2;clear hr hrest i4 i5 i6 hi hsub hc hX hY;have hVY2:=zh hVY;clear hUX hVY;go_wp2_with fail
    go_quiet ((first |(go_at_call 59;with_reducible exact quietMany (hcb _).out) |(go_at_call 59;with_reducible exact quietMany (hce _).out)))
    go_wp2;exact⟨⟨i+1,m+nq,rest,Y,V,by simp,rfl,by have:=hVY2.out;omega,hY0,hY1,zh (by rw[hwr.out,World.drewN_drewN]),by omega,zh (hr2.out.drewN nq),hsr,hc2⟩,by simp[intOf];omega⟩
theorem rcount_any(l:Il):CountC l:=Il.each rcount_step l
end Go.Proofs.YtacohbllbjgdgaaGreatDoor
