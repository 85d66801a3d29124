/- slices.Grow of nothing; slices.Concat of two lists of numbers. -/
import Derived.Test.YtacohbllbjgdgaaGreatDoorXo
import Derived.Shelf.Spec.SlicesGrow
import Derived.Deep.RegionWith
import Derived.Deep.Cut
set_option linter.all false
set_option maxRecDepth 100000
set_option maxHeartbeats 16000000
namespace Go.Proofs.YtacohbllbjgdgaaGreatDoor
open Go.RowKit
theorem wpList_append_run{P:Program}(w:World){ops:Array Oper}{rest:List Oper}{o:Oper}{a:Act}{Q:Exit->Act->World->Prop}(hgd:o.guard=none)(s x:Operand)(t u:TypeId)(ho:o.op=.call {callee:=.builtin .append,args:= #[s,x],argTypes:= #[t,u]})(v xv r:Value)(w':World)(hs:a.eval s=v)(hx:a.eval x=xv)(hr:(Builtin.append_ #[t,u] o.type #[v,xv]).run P w=.ok r w')(h:wpList P ops Q rest (a.put o.dst r) w'):wpList P ops Q (o::rest) a w:=by
 refine wpList_plain hgd λK hK=> ?_;unfold Oper.wp execOp;simp only[ho,resolve,invoke,builtin,Sem.run_bind,Sem.run_pure,Result.andThen_ok,List.map_toArray,List.map_cons,List.map_nil,hs,hx,hr];exact hK _ _ h
theorem grow_nil(n:Nat)(hn:n<=1099511627776)(w:World):Calls Tryz.prog 80 #[.slice none 0 0,.int .i64 n] w λe w'=>∃a c,e=.returned (.slice a 0 c)/\w'.ownsRow w.heap.size 3 1 (.slice a 0 c) 0 []/\Below w.heap.size w w':=by
 obtain⟨i3,hi3,hz3,hs3,hb3⟩:=vN;have h1:¬((n:Int)<0):=(by omega)
 have h2:IntKind.i64.wrap (n:Int)=(n:Int):=(by rw[IntKind.wrap_i64];omega)
 by_cases h0:n=0
 . subst h0;go_enter Tryz.func80,Tryz.ntmps80;go_wp2;go_ret;exact⟨_,_,rfl,World.ownsRow_nil _ _ _ _,Below.refl _ _⟩
 . have h4:(n:Int)>0:=(by omega)
   have hz:=Lib.run_append_grow_zeros w 28 3 28 3 i3 (.int .i64 0) .i64 .i64 Tryz.underlying28 Tryz.underlying3 hi3 hz3 none 0 0 [] (run_firstCells_none w.drew i3.size 0 0 0) n (by omega) (by rw[hs3];omega) (by omega) (by omega)
    (by rw[hb3];omega) (by rw[hb3];exact growslice_fits (by omega) (by omega))
   simp only[Nat.zero_add,List.nil_append,Nat.add_zero]at hz;have hG:=grownCap_ge w n 0 3;obtain⟨G,hGe⟩:∃G,G=grownCap w n 0 3:=⟨_,rfl⟩
   have hGm:=grownCap_le_maxLen w n 0 3 (by unfold maxLen;omega);rw[<-hGe]at hz hG hGm;have i0:(0:Int)<=(G:Int):=(by omega)
   obtain⟨w1,hw1⟩:∃w1,w1=w.drew.alloc (.cells (Builtin.zeroCells (Value.int .i64 0).cells n++Builtin.zeroCells (Value.int .i64 0).cells (G-n)) 3):=⟨_,rfl⟩
   have hz1:(Builtin.append_ #[28,3] 28 #[.slice none 0 0,.int .i64 n]).run Tryz.prog w=.ok (.slice (some ⟨w.heap.size,0,none⟩) n G) w1:=(by rw[hz,hw1];simp)
   have hown:w1.ownsRow w.heap.size 3 1 (.slice (some ⟨w.heap.size,0,none⟩) 0 G) 0 []:=by rw[hw1];exact World.ownsRow_made w.drew _ G (Nat.le_refl _) hGm (by simp[Builtin.zeroCells,Value.cells];omega)
   have hbel:Below w.heap.size w w1:=by rw[hw1];exact(zB (w:=w) 1).trans (Below.of_alloc w.drew _)
   replace hown:=zh hown;replace hbel:=zh hbel;clear hw1 hz hGe;go_enter Tryz.func80,Tryz.ntmps80
   go_wp2_with (first |(
    at_builtin
    refine wpList_append_run _ rfl _ _ _ _ rfl _ _ _ _ (by rfl) (by rfl) hz1 ?_))
   go_wp2;go_ret;exact⟨_,_,rfl,hown.out,hbel.out⟩
theorem ints_own{w:World}{base n:Nat}{a:Option Addr}{c:Nat}{l:List Int}(h:w.ownsRow base 3 1 (.slice a n c) n (l.map λx=>Value.int .i64 x)):l.length=n/\IntsIn w a l/\(l=[]\/∀ad,a=some ad->base<=ad.block):=by
 have hl:l.length=n:=(by have:=h.1;simpa using this)
 subst hl
 rcases h.2 with⟨hv,h0⟩ |⟨g,cap,cur,hv,hb,hg,hn,hm,_⟩
 . have:l=[]:=List.eq_nil_of_length_eq_zero h0;subst this;exact⟨rfl,⟨by simp,.inl rfl⟩,.inl rfl⟩
 . simp only[Value.slice.injEq]at hv;obtain⟨rfl,_,rfl⟩:=hv;simp only[maxLen]at hm;refine⟨rfl,⟨by omega,.inr ⟨g,0,rfl,λi x hx=> ?_⟩⟩,.inr λad e=>by cases e;exact hb⟩;have hi:=(List.getElem?_eq_some_iff.1 hx).1;rw[Nat.zero_add,h.cellAt i (by omega),List.getElem?_map,hx];rfl
theorem wpList_append_ints(w:World){ops:Array Oper}{rest:List Oper}{o:Oper}{a:Act}{Q:Exit->Act->World->Prop}(hgd:o.guard=none)(s x:Operand)(ho:o.op=.call {callee:=.builtin .append,args:= #[s,x],argTypes:= #[28,28]})(base:Nat)(v:Value)(n:Nat)(xs:List Value)(hs:a.eval s=v)(hown:w.ownsRow base 3 1 v n xs)(la:Option Addr)(l:List Int)(lc:Nat)(hx:a.eval x=.slice la l.length lc)(hi:IntsIn w la l)(hb:n+l.length<=1099511627776)(hbase:base<=w.heap.size)(h:∀v' w',w'.ownsRow base 3 1 v' (n+l.length) (xs++l.map λx=>Value.int .i64 x)->w.grownBy w' v.ownBlock->wpList Tryz.prog ops Q rest (a.put o.dst v') w'):wpList Tryz.prog ops Q (o::rest) a w:=by
 obtain⟨i3,hi3,hz3,hs3,hb3⟩:=vN;obtain⟨h63,hc⟩:=hi;cases la with
 |none=>
   have hnil:l=[]:=by
    rcases hc with hc |⟨b,o,e,_⟩
    . exact hc
    . cases e
   subst hnil;exact xY w hgd s x 28 ho base 3 i3 1 Tryz.underlying28 hi3 v n lc xs hs hown hx (h v w (by simpa using hown) ⟨rfl,rfl,rfl,Nat.le_refl _,λ_ _ _=>rfl⟩)
 |some ad=>
   have hnews:∀j u,(l.map λx=>Value.int .i64 x)[j]? =some u->w.cell? (ad.add j)=some u:=by
    rcases hc with hc |⟨b',o',e,hc⟩
    . rw[hc];intro j u hu;cases hu
    . cases e;exact ints_news hc
   exact wpList_append_own_at w hgd s x 28 ho base 3 i3 (.int .i64 0) 1 8 Tryz.underlying28 hi3 hz3 hs3 hb3 rfl (by omega) v n xs hs hown ad l.length lc _ hx (by simp) hnews (by intro u hu;simp only[List.mem_map]at hu;obtain⟨x,_,rfl⟩:=hu;rfl) (by unfold maxLen;omega) (by omega) hbase
    (λv' w' h1 h2 _ _=>h v' w' h1 h2)
def catL (l1 l2:List Int) (i:Nat):List Int:=if i=0 then[]else if i=1 then l1 else l1++l2
theorem concat_any(l1 l2:List Int)(a1 a2:Option Addr)(c1 c2 b:Nat)(w:World)(h1:IntsIn w a1 l1)(h2:IntsIn w a2 l2)(hb:w.heap[b]? =some (.cells #[.slice a1 l1.length c1,.slice a2 l2.length c2] 28 (0,0)))(hn:l1.length+l2.length<=1099511627776):Calls Tryz.prog 53 #[.slice (some ⟨b,0,none⟩) 2 2] w λe w'=>(∃a c,e=.returned (.slice a (l1++l2).length c)/\IntsIn w' a (l1++l2))/\Below w.heap.size w w':=by
 obtain⟨i3,hi3,hz3,hs3,hb3⟩:=vN;have y0:w.cell? ⟨b,0,none⟩=some (.slice a1 l1.length c1):=(by rw[cell_of_row w b 0 _ _ _ hb];rfl)
 have y1:w.cell? ⟨b,1,none⟩=some (.slice a2 l2.length c2):=(by rw[cell_of_row w b 1 _ _ _ hb];rfl)
 have hlt:=lt_of_block hb;go_enter Tryz.func53,Tryz.ntmps53;go_wp2_with fail;go_loopw [3,11] (λv3 vi wr=>∃i:Nat,vi=.int .i64 i/\i<=2/\w=wr/\v3=.int .i64 ((if i=0 then 0 else if i=1 then l1.length else l1.length+l2.length:Nat):Int)) (λ_ vi _=>2-(intOf vi).toNat)
 case atStart=>exact⟨0,rfl,by omega,rfl,rfl⟩
 case round=>
  obtain⟨i,rfl,hi,hwr,rfl⟩:=hrel;subst hwr;have hi2:i=0\/i=1\/i=2:=(by omega)
  rcases hi2 with rfl |rfl |rfl
  . have q1:IntKind.i64.wrap ((0:Int)+(l1.length:Int))=(l1.length:Int):=(by rw[IntKind.wrap_i64];omega)
    have q2:IntKind.i64.wrap (l1.length:Int)=(l1.length:Int):=(by rw[IntKind.wrap_i64];omega)
    have q3:¬(l1.length:Int)<0:=(by omega)
    go_wp2
    go_roundw
    case rel=>exact⟨1,by simp,by omega,by simp,by simp⟩
    case measure=>simp[intOf]
  . have q1:IntKind.i64.wrap ((l1.length:Int)+(l2.length:Int))=((l1.length+l2.length:Nat):Int):=(by rw[IntKind.wrap_i64];omega)
    have q3:¬((l1.length+l2.length:Nat):Int)<0:=(by omega)
    simp only[if_neg (show¬(1:Nat)=0 by omega),if_true];go_wp2
    go_roundw
    case rel=>exact⟨2,by simp,by omega,by simp,by simp⟩
    case measure=>simp[intOf]
  . simp only[if_neg (show¬(2:Nat)=0 by omega),if_neg (show¬(2:Nat)=1 by omega)];have hgr:=grow_nil (l1.length+l2.length) hn w;go_wp2_with fail;refine hgr.mono ?_;rintro e w2 ⟨ga,gc,rfl,ho,bb⟩;have hwz:w.heap.size<=w2.heap.size:=bb.size;go_wp2_with fail;go_loopw [6,27] (λv6 vi wr=>∃i:Nat,vi=.int .i64 i/\i<=2/\Hid (wr.ownsRow w.heap.size 3 1 v6 (catL l1 l2 i).length ((catL l1 l2 i).map λx=>Value.int .i64 x))/\Hid (Below w.heap.size w wr)) (λ_ vi _=>2-(intOf vi).toNat)
    case atStart=>exact⟨0,rfl,by omega,zh ho,zh bb⟩
    case round=>
     obtain⟨i,rfl,hi',ho',bb'⟩:=hrel;clear ho bb hwz hgr;have hws:=bb'.out.size;have z0:=(zA bb'.out) _ _ y0;have z1:=(zA bb'.out) _ _ y1;have j1:=h1.below bb'.out;have j2:=h2.below bb'.out;have hown:=ho'.out;obtain⟨va,vc,rfl⟩:=yR hown;have hi3':i=0\/i=1\/i=2:=(by omega)
     rcases hi3' with rfl |rfl |rfl
     . go_wp2_with (first |(
        at_builtin
        refine wpList_append_ints _ rfl _ _ rfl w.heap.size _ _ _ (by rfl) hown a1 l1 c1 (by rfl) j1 (by simp[catL];omega) hws ?_;intro v' w3 ho3 hg3))
       have b3:Below w.heap.size w w3:=bb'.out.grown hg3 hws (λg hg=>(hown.lt g hg).1);go_wp2
       go_roundw
       case rel=>exact⟨1,by simp,by omega,zh (by simpa[catL]using ho3),zh b3⟩
       case measure=>simp[intOf]
     . go_wp2_with (first |(
        at_builtin
        refine wpList_append_ints _ rfl _ _ rfl w.heap.size _ _ _ (by rfl) hown a2 l2 c2 (by rfl) j2 (by simp[catL];omega) hws ?_;intro v' w3 ho3 hg3))
       have b3:Below w.heap.size w w3:=bb'.out.grown hg3 hws (λg hg=>(hown.lt g hg).1);go_wp2
       go_roundw
       case rel=>exact⟨2,by simp,by omega,zh (by simpa[catL]using ho3),zh b3⟩
       case measure=>simp[intOf]
     . replace hown:=zh hown;clear ho';go_wp2;go_ret;obtain⟨e1,e2,_⟩:=ints_own hown.out;exact⟨⟨_,_,rfl,e2⟩,bb'.out⟩
end Go.Proofs.YtacohbllbjgdgaaGreatDoor
namespace Go.Proofs.YtacohbllbjgdgaaGreatDoor
open Go.RowKit
structure ChkAt (w:World) (c:Nat) (m:Md) (fs:List (List Int×List Int)) (a0:Option Addr) (k0:Nat) (a1:Option Addr) (k1:Nat) (a2:Option Addr) (k2:Nat) (a3:Option Addr) (k3:Nat) (a4:Option Addr) (k4:Nat) (a5:Option Addr) (k5:Nat)
 (a6:Option Addr) (k6:Nat) (a7:Option Addr) (k7:Nat) (a8:Option Addr) (k8:Nat) (a9:Option Addr) (k9:Nat) (fa:Option Addr) (fk:Nat):Prop where
 b:w.heap[c]? =some (.cells #[.slice a0 m.types.length k0,.slice a1 m.imports.length k1,.slice a2 m.funcs.length k2,.slice a3 m.tables.length k3,.slice a4 m.mems.length k4,.slice a5 m.globals.length k5,.slice a6 m.exports.length k6,.slice a7 m.start.length k7,.slice a8 m.elems.length k8,.slice a9 m.datas.length k9,.slice fa fs.length fk] 76 (0,0))
 md:MdAt w m a0 k0 a1 k1 a2 k2 a3 k3 a4 k4 a5 k5 a6 k6 a7 k7 a8 k8 a9 k9
 fr:RowsIn TypeAt 2 w fa fs
section
variable {w w':World} {c:Nat} {m:Md} {fs:List (List Int×List Int)} {a0:Option Addr} {k0:Nat} {a1:Option Addr} {k1:Nat} {a2:Option Addr} {k2:Nat} {a3:Option Addr} {k3:Nat} {a4:Option Addr} {k4:Nat} {a5:Option Addr} {k5:Nat}
 {a6:Option Addr} {k6:Nat} {a7:Option Addr} {k7:Nat} {a8:Option Addr} {k8:Nat} {a9:Option Addr} {k9:Nat} {fa:Option Addr} {fk:Nat}
theorem ChkAt.step(h:ChkAt w c m fs a0 k0 a1 k1 a2 k2 a3 k3 a4 k4 a5 k5 a6 k6 a7 k7 a8 k8 a9 k9 fa fk)(b:Below w.heap.size w w'):ChkAt w' c m fs a0 k0 a1 k1 a2 k2 a3 k3 a4 k4 a5 k5 a6 k6 a7 k7 a8 k8 a9 k9 fa fk:=
 ⟨by rw[b.block c (lt_of_block h.b)];exact h.b,h.md.keep (zA b),h.fr.keep λ_ _ _=>.keep (zA b)⟩
def envM (m:Md) (fs:List (List Int×List Int)) (t:List Int×List Int) (ls:List Int):Ev:=⟨m.types,fs,m.globals.map λg=>(g.1,g.2.1),m.tables.length,m.mems.length,t.1++ls⟩
theorem ChkAt.cc(h:ChkAt w c m fs a0 k0 a1 k1 a2 k2 a3 k3 a4 k4 a5 k5 a6 k6 a7 k7 a8 k8 a9 k9 fa fk):w.cell? ⟨c,0,none⟩=some (.slice a0 m.types.length k0)/\w.cell? ⟨c,1,none⟩=some (.slice a1 m.imports.length k1)/\w.cell? ⟨c,2,none⟩=some (.slice a2 m.funcs.length k2)/\w.cell? ⟨c,3,none⟩=some (.slice a3 m.tables.length k3)/\w.cell? ⟨c,4,none⟩=some (.slice a4 m.mems.length k4)/\w.cell? ⟨c,5,none⟩=some (.slice a5 m.globals.length k5)/\w.cell? ⟨c,6,none⟩=some (.slice a6 m.exports.length k6)/\w.cell? ⟨c,7,none⟩=some (.slice a7 m.start.length k7)/\w.cell? ⟨c,8,none⟩=some (.slice a8 m.elems.length k8)/\w.cell? ⟨c,9,none⟩=some (.slice a9 m.datas.length k9)/\w.cell? ⟨c,10,none⟩=some (.slice fa fs.length fk)/\w.frozen? ⟨c,10,none⟩=false:=by
 have:=h.b;refine⟨?_,?_,?_,?_,?_,?_,?_,?_,?_,?_,?_,frozen_of_row w c 10 _ _ this⟩;all_goals rw[cell_of_row w c _ _ _ _ this];rfl
theorem ChkAt.env(h:ChkAt w c m fs a0 k0 a1 k1 a2 k2 a3 k3 a4 k4 a5 k5 a6 k6 a7 k7 a8 k8 a9 k9 fa fk){la:Option Addr}{lc:Nat}{t:List Int×List Int}{ls:List Int}(hl:IntsIn w la (t.1++ls)):EnvAt w c (.slice la (t.1++ls).length lc) (envM m fs t ls):=by obtain⟨y0,y1,y2,y3,y4,y5,y6,y7,y8,y9,y10,_⟩:=h.cc;exact⟨⟨_,_,y0,h.md.types⟩,⟨_,_,y3⟩,⟨_,_,y4⟩,⟨_,_,_,y5,h.md.globals,rfl⟩,⟨_,_,y10,h.fr⟩,⟨_,_,rfl,hl⟩⟩
def bodyT (m:Md) (fs:List (List Int×List Int)) (t:List Int×List Int) (fn:Int×List Int×Il):Except Int Ts:=qW (tyL (envM m fs t fn.2.1) fn.2.2) t.2 t.2 ⟨[],[]⟩
def endB (w:World) (x:Except Int Ts) (e:Ending) (w':World):Prop:=
 match x with
 |.ok _=>e=.returned (.tuple #[])/\Below w.heap.size w w'
 |.error n=>e=.panicked (jS n)/\Below w.heap.size w w'
theorem body_any(h:ChkAt w c m fs a0 k0 a1 k1 a2 k2 a3 k3 a4 k4 a5 k5 a6 k6 a7 k7 a8 k8 a9 k9 fa fk){i:Nat}{fn:Int×List Int×Il}(hi:m.funcs[i]? =some fn){t:List Int×List Int}(ht:fs[m.imports.length+i]? =some t)(hE:EvOk (envM m fs t fn.2.1))(hR:EvR (envM m fs t fn.2.1))(hf:zZ fn.2.2=true)(hsz:szI fn.2.2<=1099511627775)(ht1:∀x∈t.2,tyo x)(ht2:t.2.length<=1)(hn:t.1.length+fn.2.1.length<=1099511627776):Calls Tryz.prog 30 #[.pointer (some ⟨c,0,none⟩),.int .i64 ((m.imports.length+i:Nat):Int)] w (endB w (bodyT m fs t fn)):=by
 generalize hX:bodyT m fs t fn=X;replace hX:=zh hX;obtain⟨y0,y1,y2,y3,y4,y5,y6,y7,y8,y9,y10,_⟩:=h.cc;obtain⟨b2,o2,rfl,r1,⟨la,lk,r2,r2i⟩,⟨ba,bk,r3,r3l,r3i⟩⟩:=h.md.funcs.row hi;obtain⟨b3,o3,rfl,⟨pa,pc,q1,q1i⟩,⟨ra,rc,q2,q2i⟩⟩:=h.fr.row ht;have hil:=(List.getElem?_eq_some_iff.1 hi).1;have htl:=(List.getElem?_eq_some_iff.1 ht).1;have hfl:=h.md.funcs.1;have hfl2:=h.fr.1;have s1:IntKind.i64.wrap (((m.imports.length+i:Nat):Int)-(m.imports.length:Int))=(i:Int):=(by rw[IntKind.wrap_i64];omega)
 have j1:(0:Int)<=(i:Int):=(by omega)
 have j2:(i:Int)<(m.funcs.length:Int):=(by omega)
 have j3:(0:Int)<=((m.imports.length+i:Nat):Int):=(by omega)
 have j4:((m.imports.length+i:Nat):Int)<(fs.length:Int):=(by omega)
 obtain⟨NI,hNI⟩:∃NI:Nat,NI=m.imports.length+i:=⟨_,rfl⟩
 rw[<-hNI]at s1 j3 j4 q1 q2 ⊢;replace hNI:=zh hNI;replace r1:w.cell? ⟨b2,o2+i*3,none⟩=some (.int .i64 fn.1):=r1;have r1z:(w.alloc (.cells #[.int .i64 0,.slice none 0 0,.slice none 0 0] 53)).cell? ⟨b2,o2+i*3,none⟩=some (.int .i64 fn.1):=zA (Below.of_alloc w _) _ _ r1;have r1d:(w.alloc (.cells #[.int .i64 0,.slice none 0 0,.slice none 0 0] 53)).drew.cell? ⟨b2,o2+i*3,none⟩=some (.int .i64 fn.1):=r1z;have r2z:(w.alloc (.cells #[.int .i64 0,.slice none 0 0,.slice none 0 0] 53)).cell? ⟨b2,o2+i*3+1,none⟩=some (.slice la fn.2.1.length lk):=zA (Below.of_alloc w _) _ _ r2;have r2d:(w.alloc (.cells #[.int .i64 0,.slice none 0 0,.slice none 0 0] 53)).drew.cell? ⟨b2,o2+i*3+1,none⟩=some (.slice la fn.2.1.length lk):=r2z;have r3z:(w.alloc (.cells #[.int .i64 0,.slice none 0 0,.slice none 0 0] 53)).cell? ⟨b2,o2+i*3+2,none⟩=some (.slice ba fn.2.2.len bk):=zA (Below.of_alloc w _) _ _ r3;have r3d:(w.alloc (.cells #[.int .i64 0,.slice none 0 0,.slice none 0 0] 53)).drew.cell? ⟨b2,o2+i*3+2,none⟩=some (.slice ba fn.2.2.len bk):=r3z;have y1z:(w.alloc (.cells #[.int .i64 0,.slice none 0 0,.slice none 0 0] 53)).cell? ⟨c,1,none⟩=some (.slice a1 m.imports.length k1):=zA (Below.of_alloc w _) _ _ y1;have y1d:(w.alloc (.cells #[.int .i64 0,.slice none 0 0,.slice none 0 0] 53)).drew.cell? ⟨c,1,none⟩=some (.slice a1 m.imports.length k1):=y1z
 have y2z:(w.alloc (.cells #[.int .i64 0,.slice none 0 0,.slice none 0 0] 53)).cell? ⟨c,2,none⟩=some (.slice (some ⟨b2,o2,none⟩) m.funcs.length k2):=zA (Below.of_alloc w _) _ _ y2;have y2d:(w.alloc (.cells #[.int .i64 0,.slice none 0 0,.slice none 0 0] 53)).drew.cell? ⟨c,2,none⟩=some (.slice (some ⟨b2,o2,none⟩) m.funcs.length k2):=y2z;replace h:=zh h;go_enter Tryz.func30,Tryz.ntmps30;go_wp2_with fail
 go_cut [4] from 7 to 21 (λv4 wx=>∃b,v4=.pointer (some ⟨b,0,none⟩)/\Hid (wx.heap[b]? =some (.cells #[.int .i64 fn.1,.slice la fn.2.1.length lk,.slice ba fn.2.2.len bk] 53 (0,0)))/\Hid (Below w.heap.size w wx))
 case first=>
  go_region
  all_goals go_wp2_with fail
  all_goals go_meet
  all_goals exact⟨_,rfl,zh (heap_alloc_new _ _),zh ((zB (w:=w) 1).trans (Below.of_alloc w.drew _))⟩
 case rest=>
  obtain⟨b,rfl,hb53,hbw⟩:=hcut
  obtain⟨g0,g1,g2⟩:wc.cell? ⟨b,0,none⟩=some (.int .i64 fn.1)/\wc.cell? ⟨b,1,none⟩=some (.slice la fn.2.1.length lk)/\wc.cell? ⟨b,2,none⟩=some (.slice ba fn.2.2.len bk):=by have:=hb53.out;refine⟨?_,?_,?_⟩;all_goals rw[cell_of_row wc b _ _ _ _ this];rfl
  have hw2:=h.out.step hbw.out;have y10':=zA hbw.out _ _ y10;replace q1:wc.cell? ⟨b3,o3+NI*2,none⟩=some (.slice pa t.1.length pc):=zA hbw.out _ _ q1;replace q2:wc.cell? ⟨b3,o3+NI*2+1,none⟩=some (.slice ra t.2.length rc):=zA hbw.out _ _ q2;have q1i':=q1i.below hbw.out;have r2i':=r2i.below hbw.out;have hA:Below wc.heap.size wc (wc.drew.alloc (.cells #[.slice pa t.1.length pc,.slice la fn.2.1.length lk] 28)):=(zB (w:=wc) 1).trans (Below.of_alloc wc.drew _);have hcat:=concat_any t.1 fn.2.1 pa la pc lk wc.heap.size _ (q1i'.below hA) (r2i'.below hA) (heap_alloc_new wc.drew _) hn;replace hcat:=zh hcat;clear y0 y1 y2 y3 y4 y5 y6 y7 y8 y9 y10 r1 r2 r3 r1z r1d r2z r2d r3z r3d y1z y1d y2z y2d s1 j1 j2 q1i r2i q1i' r2i';go_wp2_with fail
  go_cut [5] from 22 to 36 (λv5 wx=>∃w2,∃lx:Option Addr,∃lxc:Nat,v5=.pointer (some ⟨w2.heap.size,0,none⟩)/\Hid (wx=w2.alloc (.cells #[.pointer (some ⟨c,0,none⟩),.slice lx (t.1.length+fn.2.1.length) lxc,.slice none 0 0,.slice none 0 0] 99))/\Hid (IntsIn w2 lx (t.1++fn.2.1))/\Hid (Below wc.heap.size wc w2))
  case first=>
   go_region_with (first |(go_at_call 53;refine hcat.out.mono ?_;rintro e w2 ⟨⟨lxa,lxc,rfl,hli⟩,hb2⟩))
   all_goals go_wp2_with fail
   all_goals go_meet
   all_goals exact⟨w2,lxa,lxc,rfl,zh rfl,zh hli,zh (hA.trans (hb2.mono hA.size))⟩
  case rest=>
   obtain⟨w2,lx,lxc,rfl,hwx,hli,hbl⟩:=hcut;have hwx2:=hwx.out;have ha99:=Below.of_alloc w2 (.cells #[.pointer (some ⟨c,0,none⟩),.slice lx (t.1.length+fn.2.1.length) lxc,.slice none 0 0,.slice none 0 0] 99);rw[<-hwx2]at ha99;have hp:wc.heap[w2.heap.size]? =some (.cells #[.pointer (some ⟨c,0,none⟩),.slice lx (t.1.length+fn.2.1.length) lxc,.slice none 0 0,.slice none 0 0] 99 (0,0)):=(by rw[hwx2];exact heap_alloc_new w2 _)
   have hck:=hw2.step hbl.out
   have henv:EnvAt w2 c (.slice lx (t.1.length+fn.2.1.length) lxc) (envM m fs t fn.2.1):=by
    have:=hck.env (lc:=lxc) hli.out
    rwa [List.length_append]at this
   have hsz2:w2.heap.size+1<=wc.heap.size:=(by rw[hwx2];simp)
   have hT:TyP (w2.heap.size+1) w2.heap.size (.pointer (some ⟨c,0,none⟩)) (.slice lx (t.1.length+fn.2.1.length) lxc) wc (.slice none 0 0) (.slice none 0 0) ⟨[],[]⟩:=
    ⟨hp,Nat.lt_succ_self _,hsz2,World.ownsRow_nil _ _ _ _,[],rfl,World.ownsRow_nil _ _ _ _,by intro q hq;cases hq⟩
   have hC:Cx0 w2 (w2.heap.size+1) w2.heap.size c (.slice lx (t.1.length+fn.2.1.length) lxc) (envM m fs t fn.2.1) wc (.slice none 0 0) (.slice none 0 0) ⟨[],[]⟩:=
    ⟨hT,(by intro u hu;cases hu),(by intro u hu;cases hu),ha99,rfl,henv,hE⟩
   have hB2:Below w.heap.size w w2:=hbw.out.trans (hbl.out.mono hbw.out.size);have hB3:Below w.heap.size w wc:=hB2.trans (ha99.mono hB2.size);have hq2:IntsIn w2 ra t.2:=q2i.below hB2
   have hlr:LiB wc w2.heap.size (.slice none 0 0) (.slice none 0 0) ra t.2:=by
    refine⟨q2i.below hB3,?_⟩
    rcases hq2.2 with e |⟨b',o',rfl,hcc⟩
    . exact .inl e
    . cases hts:t.2 with
      |nil=>exact .inl rfl
      |cons x r=>refine .inr λad e=> ?_;cases e;have hlt:b'<w2.heap.size:=World.block_lt_of_cell? _ _ (hcc 0 x (by rw[hts];rfl));exact⟨by show b'≠_;omega,by simp[Value.ownBlock],by simp[Value.ownBlock]⟩
   have hblk:=block_any fn.2.2 w2 _ _ c _ _ wc _ _ _ hC hR (by intro f hf;cases hf) hf t.2 t.2 ra rc ra rc hlr hlr ht1 ht1 ht2 ht2 ba bk r3l (r3i.below hB2) (by simp;omega) (by simp;omega);have hXX:qW (tyL (envM m fs t fn.2.1) fn.2.2) t.2 t.2 ⟨[],[]⟩=X:=hX.out;rw[hXX]at hblk;have q2':wc.cell? ⟨b3,o3+NI*2+1,none⟩=some (.slice ra t.2.length rc):=(zA ha99) _ _ ((zA hbl.out) _ _ q2);have y10'':=(zA ha99) _ _ ((zA hbl.out) _ _ y10');have g2':wc.cell? ⟨b,2,none⟩=some (.slice ba fn.2.2.len bk):=(zA ha99) _ _ ((zA hbl.out) _ _ g2)
   have fin:∀sv' fv' w',Tw w2.heap.size (.slice none 0 0) (.slice none 0 0) sv' fv' wc w'->Below w.heap.size w w':=λsv' fv' w' tw=>
    hB3.trans (tw.below hB2.size (by intro g hg;simp[Value.ownBlock]at hg) (by intro g hg;simp[Value.ownBlock]at hg) hB3.size)
   replace hwx2:=zh hwx2;clear hwx hp hT hC hlr hq2 hXX hX hck henv ha99 hbl hcat g0 g1 g2 q1 q2 y10' hb53 hA
   generalize w2.heap.size=P at*
   cases X with
   |error k=>go_wp2_with fail;refine hblk.mono ?_;rintro e w3 ⟨rfl,sv3,fv3,tw⟩;go_wp2;exact⟨rfl,rfl,fin _ _ _ tw⟩
   |ok u=>go_wp2_with fail;refine hblk.mono ?_;rintro e w3 ⟨rfl,sv3,fv3,_,tw⟩;go_wp2;go_end0;exact⟨rfl,fin _ _ _ tw⟩
end
end Go.Proofs.YtacohbllbjgdgaaGreatDoor
