/- What a module's bodies are typed in, plainly. -/
import Derived.Test.YtacohbllbjgdgaaGreatDoorWb
import Derived.Test.YtacohbllbjgdgaaGreatDoorZj
import Derived.Test.YtacohbllbjgdgaaGreatDoorXt
import Derived.Maps.Own
import Derived.Maps.OwnOps
import Derived.Maps.OwnSet
import Derived.Maps.Views
import Derived.StringKeys
set_option linter.all false
set_option maxRecDepth 100000
set_option maxHeartbeats 8000000
namespace Go.Proofs.YtacohbllbjgdgaaGreatDoor
open Go.RowKit
theorem all_tyo{l:List Int}(h:l.all xG=true):∀x∈l,tyo x:=λx hx=>typ1_tyo (List.all_eq_true.1 h x hx)
theorem types_ok{m:Md}(c:Cm m):∀t∈m.types,(∀x∈t.1,tyo x)/\∀x∈t.2,tyo x:=λt ht=>⟨all_tyo (c.types t ht).2.2.1,all_tyo (c.types t ht).2.2.2⟩
theorem xS{m:Md}{P:List Int×List Int->Prop}(h:∀t∈m.types,P t)(h0:P ([],[]))(n:Nat):P (m.types.getD n ([],[])):=by
 rw[List.getD_eq_getElem?_getD];cases hn:m.types[n]? with
 |none=>exact h0
 |some t=>exact h t (List.mem_of_getElem? hn)
theorem ev_ok{m:Md}(c:Cm m){t:List Int×List Int}(ht:∀x∈t.1,tyo x){ls:List Int}(hl:ls.all xG=true):EvOk (envM m (zY m) t ls):=by
 refine⟨types_ok c,λu hu=> ?_,λg hg=> ?_,λx hx=> ?_⟩
 . obtain⟨n,_,rfl⟩:=List.mem_map.1 hu;exact xS (P:=λt=>(∀x∈t.1,tyo x)/\∀x∈t.2,tyo x) (types_ok c) ⟨(by intro x hx;cases hx),(by intro x hx;cases hx)⟩ _
 . obtain⟨q,hq,rfl⟩:=List.mem_map.1 hg;exact typ1_tyo (c.globals q hq).1
 . rcases List.mem_append.1 hx with hx |hx
   . exact ht x hx
   . exact all_tyo hl x hx
theorem types_r{m:Md}(h:xQ m=0):∀t∈m.types,t.2.length<=1:=λt ht=>by
 have:=firstL_zero h t ht
 by_cases q:t.2.length<=1
 . exact q
 . rw[if_neg q]at this;cases this
theorem ev_r{m:Md}(h:xQ m=0)(t:List Int×List Int)(ls:List Int):EvR (envM m (zY m) t ls):=by refine⟨types_r h,λu hu=> ?_⟩;obtain⟨n,_,rfl⟩:=List.mem_map.1 hu;exact xS (P:=λt=>t.2.length<=1) (types_r h) (by simp) _
theorem idx_lt{m:Md}(h:idxV m=0):∀n∈vD m,n<(m.types.length:Int):=λn hn=>by
 have:=firstL_zero h n hn;unfold xT at this
 by_cases q:n<(m.types.length:Int)
 . exact q
 . rw[if_neg q]at this;cases this
theorem typ_func{m:Md}(c:Cm m)(h:idxV m=0)(k:Nat):typV m (k:Int)=(zY m)[k]? :=by
 unfold zY;rw[List.getElem?_map];cases hk:(vD m)[k]? with
 |none=>
   have:m.imports.length+m.funcs.length<=k:=by have:=List.getElem?_eq_none_iff.1 hk;rw[idx_len]at this;exact this
   rw[typ_out this];rfl
 |some n=>
   have hm:=List.mem_of_getElem? hk;have h0:=idx_ok c n hm;have h1:=idx_lt h n hm;rw[typ_at hk,if_pos h0,List.getElem?_eq_getElem (by omega:n.toNat<m.types.length)]
   show _=some (m.types.getD n.toNat ([],[]))
   rw[List.getD_eq_getElem?_getD,List.getElem?_eq_getElem (by omega:n.toNat<m.types.length)];rfl
theorem env_m{m:Md}(c:Cm m)(h1:xQ m=0)(h2:idxV m=0)(t:List Int×List Int)(ls:List Int):EnvM m (envM m (zY m) t ls):=
 ⟨ev_r h1 t ls,typ_func c h2,by have:=c.l1;have:=c.l2;omega⟩
def tyF (m:Md) (fn:Int×List Int×Il):List Int×List Int:=m.types.getD fn.1.toNat ([],[])
def bodyR (m:Md) (fn:Int×List Int×Il):Int:=(zT (ryL (envM m (zY m) (tyF m fn) fn.2.1) fn.2.2) (tyF m fn).2 (tyF m fn).2 ⟨0,[],[]⟩).w
def bodiesR (m:Md):List (Int×List Int×Il)->Nat->Int×Int
 | [],_=>(-1,0)
 |fn::r,n=>if bodyR m fn=0 then bodiesR m r (n+1)else(n,bodyR m fn)
theorem funcT_at{m:Md}{i:Nat}{fn:Int×List Int×Il}(h:m.funcs[i]? =some fn):(zY m)[m.imports.length+i]? =some (tyF m fn):=by unfold zY;rw[List.getElem?_map,idx_fun h];rfl
theorem body_eq{m:Md}(c:Cm m){fn:Int×List Int×Il}(hf:fn∈m.funcs):Ag (bodyT m (zY m) (tyF m fn) fn) ⟨bodyR m fn,[],[]⟩:=by have ht:(∀x∈(tyF m fn).1,tyo x)/\∀x∈(tyF m fn).2,tyo x:=xS (P:=λt=>(∀x∈t.1,tyo x)/\∀x∈t.2,tyo x) (types_ok c) ⟨(by intro x hx;cases hx),(by intro x hx;cases hx)⟩ _;obtain⟨_,_,f3,_,f5,_⟩:=c.funcs fn hf;exact block0_sm (tyL_ok (ev_ok c ht.1 f3) fn.2.2 f5) ht.2 ht.2
theorem bodies_eq {m:Md} (c:Cm m):∀(d i:Nat),m.funcs.length-i=d->bodiesR m (m.funcs.drop i) (m.imports.length+i)=xV m (m.funcs.drop i) (m.imports.length+i)
 |0,i,h=>by
   rw[List.drop_of_length_le (by omega)];rfl
 |d+1,i,h=>by
   have hl:i<m.funcs.length:=(by omega)
   obtain⟨fn,hx⟩:∃fn,m.funcs[i]? =some fn:=⟨_,List.getElem?_eq_getElem hl⟩
   have hd:m.funcs.drop i=fn::m.funcs.drop (i+1):=(by rw[List.drop_eq_getElem_cons hl,(List.getElem?_eq_some_iff.1 hx).2])
   rw[hd]
   have hft:(zY m).getD (m.imports.length+i) ([],[])=tyF m fn:=by rw[List.getD_eq_getElem?_getD,funcT_at hx];rfl
   have hb:=body_eq c (List.mem_of_getElem? hx)
   show(if bodyR m fn=0 then bodiesR m (m.funcs.drop (i+1)) (m.imports.length+i+1)else(((m.imports.length+i:Nat):Int),bodyR m fn))=(match bodyT m (zY m) ((zY m).getD (m.imports.length+i) ([],[])) fn with |.ok _=>xV m (m.funcs.drop (i+1)) (m.imports.length+i+1) |.error e=>(((m.imports.length+i:Nat):Int),e))
   rw[hft];cases hq:bodyT m (zY m) (tyF m fn) fn with
   |ok u=>rw[hq]at hb;have hz:bodyR m fn=0:=hb;rw[if_pos hz];exact bodies_eq c d (i+1) (by omega)
   |error e=>rw[hq]at hb;obtain⟨h1,h2⟩:=hb;replace h2:bodyR m fn=e:=h2;rw[h2,if_neg h1]
end Go.Proofs.YtacohbllbjgdgaaGreatDoor
namespace Go.Proofs.YtacohbllbjgdgaaGreatDoor
open Go.RowKit Go.Maps
theorem law92:Keyed Tryz.prog 9:=string_keyed Tryz.underlying9
theorem zero3(w:World):(zeroValue 3).run Tryz.prog w=.ok (.int .i64 0) w:=by kernel_rfl
def zi:DataW Unit:=.lit (.int .i64 0)
def metN (seen:List ByteArray) (l:List UInt8):Int:=if l∈seen.map (λs=>s.data.toList)then 1 else 0
def MapOf (w:World) (M n:Nat) (seen:List ByteArray):Prop:=∃D:DataW Unit,w.ownsMap Tryz.prog 9 (plainElem Tryz.prog 3) M n D/\∀l:List UInt8,D.atKey (.string l) zi=.lit (.int .i64 (metN seen l))
theorem mapOf_new(w:World):MapOf (w.alloc (.map #[] 0)) w.heap.size 0 []:=⟨.map [],World.ownsMap_made _ _ _ _,λl=>by
 have h:Maps.has (.map []:DataW Unit) (.string l)=false:=rfl;rw[atKey_of_not_has h];rfl⟩
theorem MapOf.kept{w w':World}{M n:Nat}{seen:List ByteArray}{row:Option Nat}(h:MapOf w M n seen)(g:w.grownBy w' row)(hne:some M≠row):MapOf w' M n seen:=by obtain⟨D,h1,h2⟩:=h;exact⟨D,h1.kept g hne,h2⟩
theorem below_grown{w w':World}(b:Below w.heap.size w w'):w.grownBy w' none:=⟨b.os,b.tape,b.output,b.size,λk hk _=>b.block k hk⟩
theorem MapOf.step{w w':World}{M n:Nat}{seen:List ByteArray}(h:MapOf w M n seen)(b:Below w.heap.size w w'):MapOf w' M n seen:=h.kept (below_grown b) (by simp)
theorem metN_cons(seen:List ByteArray)(s:ByteArray)(l:List UInt8):metN (s::seen) l=if l=s.data.toList then 1 else metN seen l:=by
 unfold metN
 by_cases h:l=s.data.toList
 . rw[if_pos h,if_pos (by rw[h];simp)]
 . rw[if_neg h];simp only[List.map_cons,List.mem_cons]
   by_cases h2:l∈seen.map (λs=>s.data.toList)
   . rw[if_pos (.inr h2),if_pos h2]
   . rw[if_neg (by rintro(q |q);exact h q;exact h2 q),if_neg h2]
theorem met_put{seen:List ByteArray}{D:DataW Unit}(hD:∀l:List UInt8,D.atKey (.string l) zi=.lit (.int .i64 (metN seen l)))(hm:IsMap D)(s:ByteArray)(l:List UInt8):(D.put (.string s.data.toList) (.lit (.int .i64 1))).atKey (.string l) zi=.lit (.int .i64 (metN (s::seen) l)):=by
 rw[metN_cons]
 by_cases h:l=s.data.toList
 . rw[if_pos h,h,atKey_put_same hm (by simp[WideAt.IsKeyLit])]
 . rw[if_neg h,atKey_put_other (by intro q;exact h (by simpa using q)),hD]
theorem expGo_step{m:Md}{x:ByteArray×Int×Int}{r:List (ByteArray×Int×Int)}{seen:List ByteArray}:xO m (x::r) seen=if metN seen x.1.data.toList=1 then 63 else if x.2.2<manyV m x.2.1 then xO m r (x.1::seen)else 61:=by
 show(if x.1.data.toList∈seen.map (λs=>s.data.toList)then _ else _)=_
 unfold metN
 by_cases h:x.1.data.toList∈seen.map (λs=>s.data.toList)
 . rw[if_pos h,if_pos h,if_pos rfl]
 . rw[if_neg h,if_neg h,if_neg (show¬(0:Int)=1 by decide)]
theorem atone{D:DataW Unit}{l:List UInt8}{c v:Int}(h:D.atKey (.string l) zi=.lit (.int .i64 v))(k:D.atKey (.string l) (.lit (.int .i64 0))=.lit (.int .i64 c)):c=v:=by have:=k.symm.trans h;simpa using this
end Go.Proofs.YtacohbllbjgdgaaGreatDoor
namespace Go.Proofs.YtacohbllbjgdgaaGreatDoor
open Go.RowKit Go.Maps
def eStR (m:Md) (n:Int):Int:=match typV m n with |none=>61 |some t=>if t.1.length=0/\t.2.length=0 then 0 else 60
def exportsR (m:Md):Int:=zX (xO m m.exports []) (zD (eStR m) m.start)
def haveM (m:Md):Obj:=.cells #[.int .i64 ((m.imports.length:Int)+(m.funcs.length:Int)),.int .i64 m.tables.length,.int .i64 m.mems.length,.int .i64 m.globals.length] 3
theorem have_c{w:World}{m:Md}{b:Nat}(h:w.heap[b]? =some (haveM m)){k:Nat}(hk:k<4):w.cell? ⟨b,k,none⟩=some (.int .i64 (manyV m (k:Int))):=by
 unfold haveM at h;have hf:((zY m).length:Int)=(m.imports.length:Int)+(m.funcs.length:Int):=(by rw[funcT_length];omega)
 have h4:k=0\/k=1\/k=2\/k=3:=(by omega)
 rcases h4 with rfl |rfl |rfl |rfl
 all_goals rw[cell_of_row w b _ _ _ _ h]
 . show some (Value.int .i64 ((m.imports.length:Int)+(m.funcs.length:Int)))=some (.int .i64 ((zY m).length:Int))
   rw[hf]
 . rfl
 . rfl
 . rfl
theorem gb_below'{w w':World}{ob:Option Nat}(h:w.grownBy w' ob){M:Nat}(hM:M<=w.heap.size)(ho:∀g,ob=some g->M<=g):Below M w w':=
 ⟨h.os,h.tape,h.output,h.size,λk hk=>h.block k (by omega) (λe=>by have:=ho k e.symm;omega)⟩
structure Ex (A:MA) (m:Md) (B Mb Hb:Nat) (w0 w:World):Prop where
 h:w.heap[B]? =some (yU A m)
 v:w.heap[Hb]? =some (haveM m)
 m:MdA w0 m A
 b:Below w0.heap.size w0 w
 n1:Mb≠B/\Mb≠Hb/\w0.heap.size<=Mb
theorem Ex.step{A:MA}{m:Md}{B Mb Hb:Nat}{w0 w w':World}(h:Ex A m B Mb Hb w0 w)(b:Below w.heap.size w w'):Ex A m B Mb Hb w0 w':=
 ⟨(b.block B (lt_of_block h.h)).trans h.h,(b.block Hb (lt_of_block h.v)).trans h.v,h.m,h.b.trans (b.mono h.b.size),h.n1⟩
theorem Ex.grown{A:MA}{m:Md}{B Mb Hb:Nat}{w0 w w':World}(h:Ex A m B Mb Hb w0 w)(g:w.grownBy w' (some Mb)):Ex A m B Mb Hb w0 w':=
 ⟨(g.block B (lt_of_block h.h) (λe=>h.n1.1 (by simpa using e.symm))).trans h.h,(g.block Hb (lt_of_block h.v) (λe=>h.n1.2.1 (by simpa using e.symm))).trans h.v,h.m,
   h.b.trans (gb_below' g h.b.size (λg hg=>by cases hg;exact h.n1.2.2)),h.n1⟩
theorem Ex.mw{A:MA}{m:Md}{B Mb Hb:Nat}{w0 w:World}(h:Ex A m B Mb Hb w0 w):MdA w m A:=MdAt.keep (zA h.b) h.m
theorem box63{A:MA}{m:Md}{B Mb Hb:Nat}{w0 w w':World}{s:ByteArray}{k i:Int}(g:(w.alloc (.cells #[.string s,.int .i64 k,.int .i64 i] 63)).grownBy w' (some Mb))(h:Ex A m B Mb Hb w0 w)(hM:Mb<w.heap.size):w'.cell? ⟨w.heap.size,0,none⟩=some (.string s)/\w'.cell? ⟨w.heap.size,1,none⟩=some (.int .i64 k)/\w'.cell? ⟨w.heap.size,2,none⟩=some (.int .i64 i):=by
 have hh:=(g.block w.heap.size (by simp) (λe=>by simp at e;omega)).trans (heap_alloc_new w _);exact⟨by rw[cell_of_row _ _ 0 _ _ _ hh];rfl,by rw[cell_of_row _ _ 1 _ _ _ hh];rfl,by rw[cell_of_row _ _ 2 _ _ _ hh];rfl⟩
section
variable {w:World} {A:MA} {m:Md}
theorem rexports_any(hA:MdA w m A)(hsz:m.imports.length+m.funcs.length<=1099511627776)(hex:m.exports.length<=1099511627776)(hkd:∀x∈m.exports,0<=x.2.1/\x.2.1<=3):Calls Tryz.prog 33 #[.agg #[(A.v m).v0,(A.v m).v1,(A.v m).v2,(A.v m).v3,(A.v m).v4,(A.v m).v5,(A.v m).v6,(A.v m).v7,(A.v m).v8,(A.v m).v9]] w λe w'=>e=.returned (.int .i64 (exportsR m))/\Below w.heap.size w w':=by
 generalize hX:exportsR m=X;have hX1:Hid (X=zX (xO m m.exports []) (zD (eStR m) m.start)):=zh hX.symm;clear hX;have l1:=hA.imports.1;have l2:=hA.funcs.1;have l6:=hA.exports.1;have l7:=hA.start.1;have hwr:IntKind.i64.wrap ((m.imports.length:Int)+(m.funcs.length:Int))=(m.imports.length:Int)+(m.funcs.length:Int):=(by rw[IntKind.wrap_i64];omega)
 have hbm:=bm_new hA;have hmm:= @run_makeMap Tryz.prog;obtain⟨w1,hw1⟩:∃w1,w1=w.alloc (yU A m):=⟨_,rfl⟩
 obtain⟨B,hB⟩:∃B,B=w.heap.size:=⟨_,rfl⟩
 rw[<-hw1,<-hB]at hbm;have hs1:w1.heap.size=B+1:=(by rw[hw1,hB];simp)
 unfold yU at hw1
 have hE0:Ex A m B (B+1) (B+2) w ((w1.alloc (.map #[] 0)).alloc (haveM m)):=by have b1:=xM w1 (.map #[] 0) (haveM m);have h2:=hbm.step b1;have h3:=yN w1 (.map #[] 0) (haveM m);rw[hs1]at h3;exact⟨h2.h,h3,hA,h2.b,by omega,by omega,by omega⟩
 have hM0:MapOf ((w1.alloc (.map #[] 0)).alloc (haveM m)) (B+1) 0 []:=by have:=mapOf_new w1;rw[hs1]at this;exact this.step (Below.of_alloc _ _)
 obtain⟨x0,x1,x2,x3,x4,x5,x6,x7,x8,x9⟩:=xH (hbm.step (Below.of_alloc w1 (.map #[] 0))).h;obtain⟨w3,hw3⟩:∃w3,w3=(w1.alloc (.map #[] 0)).alloc (haveM m):=⟨_,rfl⟩
 rw[<-hw3]at hE0 hM0;unfold haveM at hw3;go_enter Tryz.func33,Tryz.ntmps33
 go_upto_region 1 with(fail)
 rw[<-hw1];rw[<-hB];clear hw1 hbm;replace hB:=zh hB
 go_upto_region 3 with(fail)
 rw[<-hw3];clear hw3 x0 x1 x2 x3 x4 x5 x6 x7 x8 x9 hmm;replace hs1:=zh hs1;replace hE0:=zh hE0;replace hM0:=zh hM0;go_wp2_with fail;go_loopw [5] (λvi wr=>∃(i n:Nat) (seen:List ByteArray),vi=.int .i64 i/\i<=m.exports.length/\n=i/\Hid (xO m m.exports []=xO m (m.exports.drop i) seen)/\Hid (Ex A m B (B+1) (B+2) w wr)/\Hid (MapOf wr (B+1) n seen)) (λvi _=>m.exports.length-(intOf vi).toNat)
 case atStart=>exact⟨0,0,[],rfl,Nat.zero_le _,rfl,zh rfl,hE0,hM0⟩
 case round=>
  clear hE0 hM0;obtain⟨i,n,seen,rfl,hi,hni,hf,hE,hM⟩:=hrel;obtain⟨x0,x1,x2,x3,x4,x5,x6,x7,x8,x9⟩:=xH hE.out.h
  by_cases hlt:i<m.exports.length
  . obtain⟨x,hx⟩:∃x,m.exports[i]? =some x:=⟨_,List.getElem?_eq_getElem hlt⟩
    have hd:m.exports.drop i=x::m.exports.drop (i+1):=(by rw[List.drop_eq_getElem_cons hlt,(List.getElem?_eq_some_iff.1 hx).2])
    have hf1:=hf.out;rw[hd,expGo_step]at hf1;obtain⟨b,o,hab,⟨r1,r163⟩,r2,r3⟩:=hE.out.mw.exports.row hx;replace r1:wr.cell? ⟨b,o+i*3,none⟩=some (.string x.1):=r1;replace r2:wr.cell? ⟨b,o+i*3+1,none⟩=some (.int .i64 x.2.1):=r2;replace r3:wr.cell? ⟨b,o+i*3+2,none⟩=some (.int .i64 x.2.2):=r3;rw[hab]at x6;replace hab:=zh hab;have hk:=hkd x (List.mem_of_getElem? hx);have i0:(0:Int)<=(i:Int):=(by omega)
    have hkey:keyOf Tryz.prog 9 (.string x.1)=some (.string x.1.data.toList):=Go.WideMaps.keyOf_string_mk Tryz.underlying9 r163;obtain⟨D,hown,hDl⟩:=hM.out;have hDx:=hDl x.1.data.toList;replace hDl:=zh hDl;clear hf hd;replace hx:=zh hx;replace hlt:=zh hlt;have hal:∀o,Hid (Ex A m B (B+1) (B+2) w (wr.alloc o)):=λo=>zh (hE.out.step (Below.of_alloc wr o))
    by_cases hs:metN seen x.1.data.toList=1
    . rw[if_pos hs]at hf1;rw[hs]at hDx;have e4:Hid (X=63):=zh (by rw[hX1.out,hf1];rfl);clear hf1 hs;replace hDx:=zh hDx
      go_wp2_with (first
       |(at_lookup;refine wpList_lookup_own_int _ rfl _ _ 92 rfl 9 3 .i64 law92 Tryz.underlying92 Tryz.underlying3 (zero3 _) (B+1) n D rfl (hown.alloc _) _ _ rfl hkey ?_;intro c hat hwc;obtain rfl:c=1:=atone hDx.out hat)
       |fail)
      go_ret;rw[e4.out];exact⟨rfl,(hal _).out.b⟩
    . have hs0:metN seen x.1.data.toList=0:=by
       unfold metN at hs ⊢
       by_cases q:x.1.data.toList∈seen.map (λs=>s.data.toList)
       . rw[if_pos q]at hs;exact absurd rfl hs
       . rw[if_neg q]
      rw[if_neg hs]at hf1;rw[hs0]at hDx;replace hDx:=zh hDx;obtain⟨k,hkk⟩:∃k:Nat,x.2.1=k:=⟨x.2.1.toNat,by omega⟩
      have hk4:k<4:=(by omega)
      rw[hkk]at r2 hf1;clear hs hs0 hk;replace hkk:=zh hkk;have k0:(0:Int)<=(k:Int):=(by omega)
      have k4:(k:Int)<4:=(by omega)
      go_wp2_with (first
       |(at_lookup;refine wpList_lookup_own_int _ rfl _ _ 92 rfl 9 3 .i64 law92 Tryz.underlying92 Tryz.underlying3 (zero3 _) (B+1) n D rfl (hown.alloc _) _ _ rfl hkey ?_;intro c hat hwc;obtain rfl:c=0:=atone hDx.out hat)
       |(at_mapUpdate;refine wpList_mapUpdate_own _ rfl _ _ _ 92 rfl 9 3 law92 Tryz.underlying92 _ (B+1) n D rfl (hown.alloc _) (by unfold maxLen;omega) _ _ _ rfl rfl hkey _ [] (plainElem_int Tryz.underlying3 (by decide)) ?_;intro w5 hown5 hgrow5;have hE5:=zh ((hal (.cells #[.string x.1,.int .i64 (k:Int),.int .i64 x.2.2] 63)).out.grown hgrow5);have hM5:Hid (MapOf w5 (B+1) (n+1) (x.1::seen)):=zh ⟨_,hown5,met_put hDl.out hown.isMap x.1⟩;obtain⟨u0,u1,u2⟩:=box63 hgrow5 hE.out hown.lt;have hkc:=have_c hE5.out.v hk4;clear hown5 hgrow5)
       |fail)
      by_cases hc:x.2.2<manyV m (k:Int)
      . rw[if_pos hc]at hf1;have dc:decide (manyV m (k:Int)<=x.2.2)=false:=decide_eq_false (by omega);have hdr:∀q,Hid (Ex A m B (B+1) (B+2) w (w5.drewN q)/\MapOf (w5.drewN q) (B+1) (n+1) (x.1::seen)):=λq=>zh ⟨hE5.out.step (zB q),hM5.out.step (zB q)⟩;replace hf1:=zh hf1;clear hc;generalize manyV m (k:Int)=V at hkc dc
        go_quiet (fail)
        have hq:=hdr nq;go_wp2
        go_roundw
        case rel=>exact⟨i+1,n+1,x.1::seen,by simp,by have:=hlt.out;omega,by omega,hf1,zh hq.out.1,zh hq.out.2⟩
        case measure=>simp[intOf];have:=hlt.out;omega
      . rw[if_neg hc]at hf1;have e4:Hid (X=61):=zh (by rw[hX1.out,hf1];rfl);have dc:decide (manyV m (k:Int)<=x.2.2)=true:=decide_eq_true (by omega);have hdr:∀q,Hid (Below w.heap.size w (w5.drewN q)):=λq=>zh (hE5.out.step (zB q)).b;clear hc hf1;generalize manyV m (k:Int)=V at hkc dc
        go_quiet (fail)
        go_wp2;go_ret;rw[e4.out];exact⟨rfl,(hdr _).out⟩
  . obtain rfl:i=m.exports.length:=by omega
    have e1:Hid (X=zD (eStR m) (m.start.drop 0)):=zh (by
     have:=hf.out;rw[List.drop_length]at this;rw[hX1.out,this];rfl)
    have hbm0:Hid (Bm A m B w wr):=zh ⟨hE.out.h,hE.out.mw,hE.out.b⟩;clear hf hlt hX1 hM hE;go_wp2_with fail;go_loopw [7] (λvi wr=>∃i:Nat,vi=.int .i64 i/\i<=m.start.length/\Hid (X=zD (eStR m) (m.start.drop i))/\Hid (Bm A m B w wr)) (λvi _=>m.start.length-(intOf vi).toNat)
    case atStart=>exact⟨0,rfl,Nat.zero_le _,e1,hbm0⟩
    case round=>
     clear hbm0 e1 x0 x1 x2 x3 x4 x5 x6 x7 x8 x9;obtain⟨i,rfl,hi,hf,hbm⟩:=hrel;obtain⟨x0,x1,x2,x3,x4,x5,x6,x7,x8,x9⟩:=xH hbm.out.h
     by_cases hlt:i<m.start.length
     . obtain⟨x,hx⟩:∃x,m.start[i]? =some x:=⟨_,List.getElem?_eq_getElem hlt⟩
       obtain⟨b,o,hab,hcx⟩:=hbm.out.m.start.at hx;have hf1:=hf.out.trans (qE hx);have i0:(0:Int)<=(i:Int):=(by omega)
       have ilt:(i:Int)<(m.start.length:Int):=(by omega)
       rw[hab]at x7;replace hab:=zh hab;replace hlt:=zh hlt;have good:eStR m x=0->Hid (X=zD (eStR m) (m.start.drop (i+1))):=λq=>zh (by rw[q,if_pos rfl]at hf1;exact hf1);have bad:∀k,k≠0->eStR m x=k->Hid (X=k):=λk hk q=>zh (by rw[q,if_neg hk]at hf1;exact hf1);clear hf hf1 hx;have hty:=λw' (bb:Below wr.heap.size wr w')=>typ_any hbm.out.m bb x hsz;unfold MA.v at hty
       dsimp only at hty
       rw[hab.out]at hty;have bA:Below wr.heap.size wr wr.drew:=zB (w:=wr) 1;have bB:Below wr.heap.size wr (wr.alloc (.cells #[.slice none 0 0,.slice none 0 0] 44)).drew:=(Below.of_alloc wr (.cells #[.slice none 0 0,.slice none 0 0] 44)).trans ((zB (w:=wr.alloc (.cells #[.slice none 0 0,.slice none 0 0] 44)) 1).mono (by simp));replace bA:=zh bA;replace bB:=zh bB;cases ht:typV m x with
       |none=>
         have e4:=bad 61 (by decide) (by unfold eStR;rw[ht]);rw[ht]at hty;replace hty:=zh hty;replace ht:=zh ht;clear good bad;go_wp2_with fail
         go_cut [8,9] from 63 to 72 (λv8 v9 wx=>∃b',v8=.pointer (some ⟨b',0,none⟩)/\v9=.bool false/\Hid (Below wr.heap.size wr wx))
         case first=>
          have x0z:(wr.alloc (.cells #[.slice none 0 0,.slice none 0 0] 44)).cell? ⟨B,0,none⟩=some (.slice A.a0 m.types.length A.k0):=zA (Below.of_alloc wr _) _ _ x0;have x0d:(wr.alloc (.cells #[.slice none 0 0,.slice none 0 0] 44)).drew.cell? ⟨B,0,none⟩=some (.slice A.a0 m.types.length A.k0):=x0z;have x1z:(wr.alloc (.cells #[.slice none 0 0,.slice none 0 0] 44)).cell? ⟨B,1,none⟩=some (.slice A.a1 m.imports.length A.k1):=zA (Below.of_alloc wr _) _ _ x1;have x1d:(wr.alloc (.cells #[.slice none 0 0,.slice none 0 0] 44)).drew.cell? ⟨B,1,none⟩=some (.slice A.a1 m.imports.length A.k1):=x1z;have x2z:(wr.alloc (.cells #[.slice none 0 0,.slice none 0 0] 44)).cell? ⟨B,2,none⟩=some (.slice A.a2 m.funcs.length A.k2):=zA (Below.of_alloc wr _) _ _ x2;have x2d:(wr.alloc (.cells #[.slice none 0 0,.slice none 0 0] 44)).drew.cell? ⟨B,2,none⟩=some (.slice A.a2 m.funcs.length A.k2):=x2z;have x3z:(wr.alloc (.cells #[.slice none 0 0,.slice none 0 0] 44)).cell? ⟨B,3,none⟩=some (.slice A.a3 m.tables.length A.k3):=zA (Below.of_alloc wr _) _ _ x3;have x3d:(wr.alloc (.cells #[.slice none 0 0,.slice none 0 0] 44)).drew.cell? ⟨B,3,none⟩=some (.slice A.a3 m.tables.length A.k3):=x3z;have x4z:(wr.alloc (.cells #[.slice none 0 0,.slice none 0 0] 44)).cell? ⟨B,4,none⟩=some (.slice A.a4 m.mems.length A.k4):=zA (Below.of_alloc wr _) _ _ x4;have x4d:(wr.alloc (.cells #[.slice none 0 0,.slice none 0 0] 44)).drew.cell? ⟨B,4,none⟩=some (.slice A.a4 m.mems.length A.k4):=x4z
          have x5z:(wr.alloc (.cells #[.slice none 0 0,.slice none 0 0] 44)).cell? ⟨B,5,none⟩=some (.slice A.a5 m.globals.length A.k5):=zA (Below.of_alloc wr _) _ _ x5;have x5d:(wr.alloc (.cells #[.slice none 0 0,.slice none 0 0] 44)).drew.cell? ⟨B,5,none⟩=some (.slice A.a5 m.globals.length A.k5):=x5z;have x6z:(wr.alloc (.cells #[.slice none 0 0,.slice none 0 0] 44)).cell? ⟨B,6,none⟩=some (.slice A.a6 m.exports.length A.k6):=zA (Below.of_alloc wr _) _ _ x6;have x6d:(wr.alloc (.cells #[.slice none 0 0,.slice none 0 0] 44)).drew.cell? ⟨B,6,none⟩=some (.slice A.a6 m.exports.length A.k6):=x6z;have x8z:(wr.alloc (.cells #[.slice none 0 0,.slice none 0 0] 44)).cell? ⟨B,8,none⟩=some (.slice A.a8 m.elems.length A.k8):=zA (Below.of_alloc wr _) _ _ x8;have x8d:(wr.alloc (.cells #[.slice none 0 0,.slice none 0 0] 44)).drew.cell? ⟨B,8,none⟩=some (.slice A.a8 m.elems.length A.k8):=x8z;have x9z:(wr.alloc (.cells #[.slice none 0 0,.slice none 0 0] 44)).cell? ⟨B,9,none⟩=some (.slice A.a9 m.datas.length A.k9):=zA (Below.of_alloc wr _) _ _ x9;have x9d:(wr.alloc (.cells #[.slice none 0 0,.slice none 0 0] 44)).drew.cell? ⟨B,9,none⟩=some (.slice A.a9 m.datas.length A.k9):=x9z;have x7z:(wr.alloc (.cells #[.slice none 0 0,.slice none 0 0] 44)).cell? ⟨B,7,none⟩=some (.slice (some ⟨b,o,none⟩) m.start.length A.k7):=zA (Below.of_alloc wr _) _ _ x7;have x7d:(wr.alloc (.cells #[.slice none 0 0,.slice none 0 0] 44)).drew.cell? ⟨B,7,none⟩=some (.slice (some ⟨b,o,none⟩) m.start.length A.k7):=x7z
          have hcxz:(wr.alloc (.cells #[.slice none 0 0,.slice none 0 0] 44)).cell? ⟨b,o+i,none⟩=some (.int .i64 x):=zA (Below.of_alloc wr _) _ _ hcx;have hcxd:(wr.alloc (.cells #[.slice none 0 0,.slice none 0 0] 44)).drew.cell? ⟨b,o+i,none⟩=some (.int .i64 x):=hcxz
          go_region_with (first |(go_at_call 55;refine(hty.out _ (by first |with_reducible exact bA.out |with_reducible exact bB.out)).mono ?_;rintro e w3 ⟨rfl,b3⟩;(first |(obtain⟨u1,u2,u3,u4,u5⟩:=newcells b3;clear b3) |(have u5:=newdrew b3;clear b3))))
          all_goals go_wp2_with fail
          all_goals go_meet
          all_goals first
           |exact⟨_,rfl,rfl,zh (u5.out.trans ((Below.of_alloc _ _).mono u5.out.size))⟩
           |exact⟨_,rfl,rfl,zh u5.out.2⟩
           |exact⟨_,rfl,rfl,zh (u5.out.2.trans ((Below.setAt (Nat.le_refl _)).trans (Below.setAt (Nat.le_refl _))))⟩
         case rest=>obtain⟨b',rfl,rfl,hbw⟩:=hcut;go_wp2;go_ret;rw[e4.out];exact⟨rfl,(hbm.out.step hbw.out).b⟩
       |some t=>
         have est:eStR m x=if t.1.length=0/\t.2.length=0 then 0 else 60:=(by unfold eStR;rw[ht])
         rw[est]at good bad;rw[ht]at hty;replace hty:=zh hty;replace ht:=zh ht;clear est;go_wp2_with fail
         go_cut [8,9] from 63 to 72 (λv8 v9 wx=>∃b',∃pa ra:Option Addr,∃pc rc:Nat,v8=.pointer (some ⟨b',0,none⟩)/\v9=.bool true/\Hid (wx.heap[b']? =some (.cells #[.slice pa t.1.length pc,.slice ra t.2.length rc] 44 (0,0)))/\Hid (Below wr.heap.size wr wx))
         case first=>
          clear good bad;have x0z:(wr.alloc (.cells #[.slice none 0 0,.slice none 0 0] 44)).cell? ⟨B,0,none⟩=some (.slice A.a0 m.types.length A.k0):=zA (Below.of_alloc wr _) _ _ x0;have x0d:(wr.alloc (.cells #[.slice none 0 0,.slice none 0 0] 44)).drew.cell? ⟨B,0,none⟩=some (.slice A.a0 m.types.length A.k0):=x0z;have x1z:(wr.alloc (.cells #[.slice none 0 0,.slice none 0 0] 44)).cell? ⟨B,1,none⟩=some (.slice A.a1 m.imports.length A.k1):=zA (Below.of_alloc wr _) _ _ x1;have x1d:(wr.alloc (.cells #[.slice none 0 0,.slice none 0 0] 44)).drew.cell? ⟨B,1,none⟩=some (.slice A.a1 m.imports.length A.k1):=x1z;have x2z:(wr.alloc (.cells #[.slice none 0 0,.slice none 0 0] 44)).cell? ⟨B,2,none⟩=some (.slice A.a2 m.funcs.length A.k2):=zA (Below.of_alloc wr _) _ _ x2;have x2d:(wr.alloc (.cells #[.slice none 0 0,.slice none 0 0] 44)).drew.cell? ⟨B,2,none⟩=some (.slice A.a2 m.funcs.length A.k2):=x2z;have x3z:(wr.alloc (.cells #[.slice none 0 0,.slice none 0 0] 44)).cell? ⟨B,3,none⟩=some (.slice A.a3 m.tables.length A.k3):=zA (Below.of_alloc wr _) _ _ x3;have x3d:(wr.alloc (.cells #[.slice none 0 0,.slice none 0 0] 44)).drew.cell? ⟨B,3,none⟩=some (.slice A.a3 m.tables.length A.k3):=x3z;have x4z:(wr.alloc (.cells #[.slice none 0 0,.slice none 0 0] 44)).cell? ⟨B,4,none⟩=some (.slice A.a4 m.mems.length A.k4):=zA (Below.of_alloc wr _) _ _ x4;have x4d:(wr.alloc (.cells #[.slice none 0 0,.slice none 0 0] 44)).drew.cell? ⟨B,4,none⟩=some (.slice A.a4 m.mems.length A.k4):=x4z
          have x5z:(wr.alloc (.cells #[.slice none 0 0,.slice none 0 0] 44)).cell? ⟨B,5,none⟩=some (.slice A.a5 m.globals.length A.k5):=zA (Below.of_alloc wr _) _ _ x5;have x5d:(wr.alloc (.cells #[.slice none 0 0,.slice none 0 0] 44)).drew.cell? ⟨B,5,none⟩=some (.slice A.a5 m.globals.length A.k5):=x5z;have x6z:(wr.alloc (.cells #[.slice none 0 0,.slice none 0 0] 44)).cell? ⟨B,6,none⟩=some (.slice A.a6 m.exports.length A.k6):=zA (Below.of_alloc wr _) _ _ x6;have x6d:(wr.alloc (.cells #[.slice none 0 0,.slice none 0 0] 44)).drew.cell? ⟨B,6,none⟩=some (.slice A.a6 m.exports.length A.k6):=x6z;have x8z:(wr.alloc (.cells #[.slice none 0 0,.slice none 0 0] 44)).cell? ⟨B,8,none⟩=some (.slice A.a8 m.elems.length A.k8):=zA (Below.of_alloc wr _) _ _ x8;have x8d:(wr.alloc (.cells #[.slice none 0 0,.slice none 0 0] 44)).drew.cell? ⟨B,8,none⟩=some (.slice A.a8 m.elems.length A.k8):=x8z;have x9z:(wr.alloc (.cells #[.slice none 0 0,.slice none 0 0] 44)).cell? ⟨B,9,none⟩=some (.slice A.a9 m.datas.length A.k9):=zA (Below.of_alloc wr _) _ _ x9;have x9d:(wr.alloc (.cells #[.slice none 0 0,.slice none 0 0] 44)).drew.cell? ⟨B,9,none⟩=some (.slice A.a9 m.datas.length A.k9):=x9z;have x7z:(wr.alloc (.cells #[.slice none 0 0,.slice none 0 0] 44)).cell? ⟨B,7,none⟩=some (.slice (some ⟨b,o,none⟩) m.start.length A.k7):=zA (Below.of_alloc wr _) _ _ x7;have x7d:(wr.alloc (.cells #[.slice none 0 0,.slice none 0 0] 44)).drew.cell? ⟨B,7,none⟩=some (.slice (some ⟨b,o,none⟩) m.start.length A.k7):=x7z
          have hcxz:(wr.alloc (.cells #[.slice none 0 0,.slice none 0 0] 44)).cell? ⟨b,o+i,none⟩=some (.int .i64 x):=zA (Below.of_alloc wr _) _ _ hcx;have hcxd:(wr.alloc (.cells #[.slice none 0 0,.slice none 0 0] 44)).drew.cell? ⟨b,o+i,none⟩=some (.int .i64 x):=hcxz
          go_region_with (first |(go_at_call 55;refine(hty.out _ (by first |with_reducible exact bA.out |with_reducible exact bB.out)).mono ?_;rintro e w3 ⟨⟨pa,pc,ra,rc,rfl,j1,j2⟩,b3⟩;(first |(obtain⟨u1,u2,u3,u4,u5⟩:=newcells b3;clear b3) |(have u5:=newdrew b3;clear b3))))
          all_goals go_wp2_with fail
          all_goals go_meet
          all_goals first
           |exact⟨_,pa,ra,pc,rc,rfl,rfl,zh (heap_alloc_new _ _),zh (u5.out.trans ((Below.of_alloc _ _).mono u5.out.size))⟩
           |exact⟨_,pa,ra,pc,rc,rfl,rfl,zh (set2 u5.out.1),zh (u5.out.2.trans ((Below.setAt (Nat.le_refl _)).trans (Below.setAt (Nat.le_refl _))))⟩
         case rest=>
          obtain⟨b',pa,ra,pc,rc,rfl,rfl,hb44,hbw⟩:=hcut;have e0:wc.cell? ⟨b',0,none⟩=some (.slice pa t.1.length pc):=(by rw[cell_of_row _ b' 0 _ _ _ hb44.out];rfl)
          have e1:wc.cell? ⟨b',1,none⟩=some (.slice ra t.2.length rc):=(by rw[cell_of_row _ b' 1 _ _ _ hb44.out];rfl)
          have hbm2:=zh (hbm.out.step hbw.out);clear hb44 hbw hbm x0 x1 x2 x3 x4 x5 x6 x7 x8 x9 hty bA bB hcx;have hcase:(0<t.1.length)\/(¬0<t.1.length/\0<t.2.length)\/(¬0<t.1.length/\¬0<t.2.length):=(by omega)
          rcases hcase with c1 |⟨c1,c2⟩ |⟨c1,c2⟩
          . have e4:=bad 60 (by decide) (if_neg (by omega));clear good bad;go_wp2;go_ret;rw[e4.out];exact⟨rfl,hbm2.out.b⟩
          . have e4:=bad 60 (by decide) (if_neg (by omega));clear good bad;go_wp2;go_ret;rw[e4.out];exact⟨rfl,hbm2.out.b⟩
          . have e4:=good (if_pos (by omega));clear good bad;go_wp2_with fail
            go_roundw
            case rel=>exact⟨i+1,by simp,by have:=hlt.out;omega,e4,hbm2⟩
            case measure=>simp[intOf];have:=hlt.out;omega
     . obtain rfl:i=m.start.length:=by omega
       have e4:X=0:=by have:=hf.out;rw[List.drop_length]at this;exact this
       clear hf hlt;replace e4:=zh e4;go_wp2;go_ret;rw[e4.out];exact⟨rfl,hbm.out.b⟩
end
end Go.Proofs.YtacohbllbjgdgaaGreatDoor
