/- Slices of rows and lists of instructions, out of what a statement says of its arguments. -/
import Derived.Test.YtacohbllbjgdgaaGreatDoorMe
import Derived.ProofKit
import Derived.ChangeArms
import Derived.DataReads
import Derived.OpenShut
import Derived.KernelRfl
import Derived.SizedLaws
set_option linter.all false
set_option maxRecDepth 100000
namespace Go.Proofs.YtacohbllbjgdgaaGreatDoor
open Go.ChangeShapes Go.WideShapes Go.ChangeAt Go.RowKit
section
variable {H:Type} {enc:TypeId×Value->H} {P:Program} {w:World} {base:Nat} {sp:Nat->Bool} {held:Bool}
theorem addr_add_add(a:Addr)(i j:Nat):(a.add i).add j=a.add (i+j):=by
 unfold Addr.add
 by_cases hi:i=0
 . subst hi;simp
 . by_cases hj:j=0
   . subst hj;simp[hi]
   . rw[if_neg hi,if_neg hj,if_neg (by omega)];simp[Nat.add_assoc]
theorem addr_add_none(b o j:Nat):(⟨b,o,none⟩:Addr).add j=⟨b,o+j,none⟩:=by
 unfold Addr.add;split
 . subst_vars;rfl
 . rfl
theorem slice_rows{t e:TypeId}{k fuel:Nat}{cs:List Value}{x:DataW H×List MemPlace}(ht:P.underlying t=some (.slice e))(hc:P.cellsOf e=k)(hk:0<k)(h:DataW.trod enc P w base sp held fuel t cs=some x):∃ao len cap,cs=[.slice ao len cap]/\len<=9223372036854775807/\(len=0\/∃b o,ao=some ⟨b,o,none⟩/\∀i,i<len->∃row n y,n<fuel/\row.length=k/\(∀j v,row[j]? =some v->w.cell? ⟨b,o+i*k+j,none⟩=some v)/\DataW.trod enc P w base sp held n e row=some y):=by
 rcases DataW.trod_slice ht h with⟨rfl,_⟩ |⟨a,len,cap,elems,rest,n,hn,rfl,_,_,hl,hm,hlen,hel,_⟩
 . exact⟨none,0,0,rfl,by omega,.inl rfl⟩
 . refine⟨some a,len,cap,rfl,by unfold maxLen at hm;omega,?_⟩
   by_cases h0:len=0
   . exact .inl h0
   . right
     have key:∀i,i<len->∃row y,row.length=k/\(∀j v,row[j]? =some v->w.cell? (a.add (i*k+j))=some v)/\DataW.trod enc P w base sp held n e row=some y:=by
      intro i hi;have hE:=hel i hi;have hs:∃y,elems[i]? =some y:=⟨_,List.getElem?_eq_getElem (by omega)⟩
      obtain⟨y,hy⟩:=hs;rw[hy,hc]at hE;obtain⟨row,hrow,hy2⟩:=Option.bind_eq_some_iff.1 hE;obtain⟨_,hlr,hg⟩:=World.cells?_some hrow;refine⟨row,y,hlr,λj v hj=> ?_,hy2⟩;have hjk:j<k:=(by rw[<-hlr];exact(List.getElem?_eq_some_iff.1 hj).1)
      have:=hg j hjk;rw[hj]at this
      rwa [addr_add_add]at this
     have hsp:a.spot=none:=by obtain⟨row,y,hlr,hg,_⟩:=key 0 (by omega);have:=World.cell?_spot (hg 0 _ (List.getElem?_eq_getElem (by omega)));simpa[Addr.add]using this
     obtain⟨b,o,s⟩:=a;simp only at hsp;subst hsp;refine⟨b,o,rfl,λi hi=> ?_⟩;obtain⟨row,y,hlr,hg,hy⟩:=key i hi;refine⟨row,n,y,by omega,hlr,λj v hj=> ?_,hy⟩;have:=hg j v hj
     rwa [addr_add_none,<-Nat.add_assoc]at this
theorem rows_pick {α:Type} {F:Nat->α->Prop}:∀len,(∀i,i<len->∃x,F i x)->∃xs:List α,xs.length=len/\∀i x,xs[i]? =some x->F i x
 |0,_=>⟨[],rfl,λi x h=>by simp at h⟩
 |n+1,h=>by
   obtain⟨xs,hl,hx⟩:=rows_pick n λi hi=>h i (by omega);obtain⟨y,hy⟩:=h n (by omega);refine⟨xs++[y],by simp[hl],λi x hi=> ?_⟩
   by_cases hin:i<n
   . rw[List.getElem?_append_left (by omega)]at hi;exact hx i x hi
   . rw[List.getElem?_append_right (by omega)]at hi;have hi1:i-xs.length<1:=(by simpa using(List.getElem?_eq_some_iff.1 hi).1)
     have:i=n:=(by omega)
     subst this;simp[hl]at hi;subst hi;exact hy
theorem xX{α:Type}{F:World->Nat->Nat->α->Prop}{t e:TypeId}{k fuel:Nat}{cs:List Value}{x:DataW H×List MemPlace}(ht:P.underlying t=some (.slice e))(hc:P.cellsOf e=k)(hk:0<k)(hF:∀n row y b o,n<fuel->row.length=k->(∀j v,row[j]? =some v->w.cell? ⟨b,o+j,none⟩=some v)->DataW.trod enc P w base sp held n e row=some y->∃q,F w b o q)(h:DataW.trod enc P w base sp held fuel t cs=some x):∃ao xs cap,cs=[.slice ao (List.length xs) cap]/\RowsIn F k w ao xs:=by
 obtain⟨ao,len,cap,rfl,hl,h0 |⟨b,o,rfl,hr⟩⟩:=slice_rows ht hc hk h
 . exact⟨ao,[],cap,by rw[h0];rfl,by simp,.inl rfl⟩
 . obtain⟨xs,hxl,hx⟩:=rows_pick (F:=λi q=>F w b (o+i*k) q) len λi hi=>by
    obtain⟨row,n,y,hn,hlr,hg,hy⟩:=hr i hi;exact hF n row y b (o+i*k) hn hlr hg hy
   exact⟨_,xs,cap,by rw[hxl],by omega,.inr ⟨b,o,rfl,hx⟩⟩
theorem qV{t:TypeId}{k:IntKind}{fuel:Nat}{cs:List Value}{x:DataW H×List MemPlace}(ht:P.underlying t=some (.int k))(h:DataW.trod enc P w base sp held fuel t cs=some x):∃n,cs=[.int k n]:=by obtain⟨n,h,_⟩:=DataW.trod_int ht h;exact⟨n,h⟩
theorem yV{t:TypeId}{fuel:Nat}{cs:List Value}{x:DataW H×List MemPlace}(ht:P.underlying t=some .string)(h:DataW.trod enc P w base sp held fuel t cs=some x):∃s:ByteArray,cs=[.string s]/\s.size<=9223372036854775807:=by obtain⟨s,h,_,hs⟩:=DataW.trod_string ht h;exact⟨s,h,by unfold maxLen at hs;omega⟩
theorem open_bool_cell{t:TypeId}{fuel:Nat}{cs:List Value}{x:DataW H×List MemPlace}(ht:P.underlying t=some .bool)(h:DataW.trod enc P w base sp held fuel t cs=some x):∃c,cs=[.bool c]:=by obtain⟨c,h,_⟩:=DataW.trod_bool ht h;exact⟨c,h⟩
theorem vK{t e:TypeId}{fuel:Nat}{cs:List Value}{x:DataW H×List MemPlace}(ht:P.underlying t=some (.slice e))(he:P.underlying e=some (.int .i64))(hc:P.cellsOf e=1)(h:DataW.trod enc P w base sp held fuel t cs=some x):∃ao l cap,cs=[.slice ao (List.length l) cap]/\IntsIn w ao l:=by
 obtain⟨ao,xs,cap,hcs,hl,hr⟩:=xX (F:=λw b o (n:Int)=>w.cell? ⟨b,o,none⟩=some (.int .i64 n)) ht hc (by omega) (λn row y b o hn hlr hg hy=>by
  obtain⟨m,rfl⟩:=qV he hy;exact⟨m,by simpa using hg 0 _ rfl⟩) h
 refine⟨ao,xs,cap,hcs,hl,?_⟩
 rcases hr with hr |⟨b,o,e,hr⟩
 . exact .inl hr
 . exact .inr ⟨b,o,e,λi x hx=>by simpa using hr i x hx⟩
theorem il_pick {w:World} {b:Nat}:∀n o,(∀i,i<n->∃q:One,IlAt w b (o+i*7) q.il)->∃l:Il,l.len=n/\IlAt w b o l
 |0,_,_=>⟨.nil,rfl,trivial⟩
 |n+1,o,h=>by
   obtain⟨q,hq⟩:=h 0 (by omega)
   obtain⟨r,hr,hi⟩:=il_pick n (o+7) λi hi=>by
    obtain⟨q,hq⟩:=h (i+1) (by omega);exact⟨q,by rwa [show o+7+i*7=o+(i+1)*7 by omega]⟩
   rw[Nat.zero_mul,Nat.add_zero]at hq;obtain⟨h0,h1,h2,h3,_⟩:=hq;exact⟨.cons q.op q.x q.y q.n q.ls q.body q.els r,by show r.len+1=n+1;omega,h0,h1,h2,h3,hi⟩
theorem open_il{t e:TypeId}{fuel:Nat}{cs:List Value}{x:DataW H×List MemPlace}(ht:P.underlying t=some (.slice e))(hc:P.cellsOf e=7)(hF:∀n row y b o,n<fuel->row.length=7->(∀j v,row[j]? =some v->w.cell? ⟨b,o+j,none⟩=some v)->DataW.trod enc P w base sp held n e row=some y->∃q:One,IlAt w b o q.il)(h:DataW.trod enc P w base sp held fuel t cs=some x):∃ao l cap,cs=[.slice ao (Il.len l) cap]/\l.len<=9223372036854775807/\IlIn w ao 0 l:=by
 obtain⟨ao,len,cap,rfl,hl,h0 |⟨b,o,rfl,hr⟩⟩:=slice_rows ht hc (by omega) h
 . exact⟨ao,.nil,cap,by rw[h0];rfl,by simp[Il.len],.inl rfl⟩
 . obtain⟨l,hll,hi⟩:=il_pick len o λi hi=>by
    obtain⟨row,n,y,hn,hlr,hg,hy⟩:=hr i hi;exact hF n row y b (o+i*7) hn hlr hg hy
   exact⟨_,l,cap,by rw[hll],by omega,.inr ⟨b,o,rfl,by simpa using hi⟩⟩
theorem jM{t:TypeId}{fs:Array Field}{fuel:Nat}{cs:List Value}{x:DataW H×List MemPlace}(ht:P.underlying t=some (.struct fs))(h:DataW.trod enc P w base sp held fuel t cs=some x):cs.length=P.cellsOf t/\∃n,n<fuel/\∀(i:Nat) (f:Field),fs[i]? =some f->∃y,DataW.trod enc P w base sp held n f.type ((cs.drop f.offset).take (P.cellsOf f.type))=some y:=by
 obtain⟨xs,n,hn,_,hl,hlen,hf⟩:=DataW.trod_struct ht h;refine⟨hl,n,by omega,λi f hi=> ?_⟩
 have hi2:i<xs.length:=by have:=(Array.getElem?_eq_some_iff.1 hi).1;omega
 exact⟨xs[i],by rw[hf i f hi];exact List.getElem?_eq_getElem hi2⟩
end
theorem qS{row l:List Value}{o k j:Nat}{v:Value}(h:(row.drop o).take k=l)(hj:l[j]? =some v):row[o+j]? =some v:=by
 subst h;rw[List.getElem?_take]at hj;split at hj
 . rwa [List.getElem?_drop]at hj
 . cases hj
theorem cells3:Tryz.prog.cellsOf 3=1:=by kernel_rfl
section
variable {H:Type} {enc:TypeId×Value->H} {w:World} {base:Nat} {sp:Nat->Bool} {held:Bool}
theorem cells45:Tryz.prog.cellsOf 49=7:=by kernel_rfl
theorem of0{w:World}{a:Option Addr}{l:Il}(h:IlIn w a 0 l):l=.nil\/∃b o,a=some ⟨b,o,none⟩/\IlAt w b o l:=by simpa[IlIn]using h
theorem open_one:∀(fuel:Nat) (row:List Value) (y:DataW H×List MemPlace) (b o:Nat),row.length=7->(∀j v,row[j]? =some v->w.cell? ⟨b,o+j,none⟩=some v)->DataW.trod enc Tryz.prog w base sp held fuel 49 row=some y->∃q:One,IlAt w b o q.il:=by
 intro fuel
 induction fuel using Nat.strongRecOn with
 |ind fuel ih=>
 intro row y b o hlr hg h;obtain⟨_,n,hn,hf⟩:=jM Tryz.underlying49 h;obtain⟨y0,f0⟩:=hf 0 _ rfl;obtain⟨v0,e0⟩:=qV Tryz.underlying3 f0;have g0:=hg _ _ (qS e0 (j:=0) rfl);obtain⟨y1,f1⟩:=hf 1 _ rfl;obtain⟨v1,e1⟩:=qV Tryz.underlying3 f1;have g1:=hg _ _ (qS e1 (j:=0) rfl);obtain⟨y2,f2⟩:=hf 2 _ rfl;obtain⟨v2,e2⟩:=qV Tryz.underlying3 f2;have g2:=hg _ _ (qS e2 (j:=0) rfl);obtain⟨y3,f3⟩:=hf 3 _ rfl;obtain⟨v3,e3⟩:=qV Tryz.underlying3 f3;have g3:=hg _ _ (qS e3 (j:=0) rfl);obtain⟨y4,f4⟩:=hf 4 _ rfl;obtain⟨a4,v4,c4,e4,i4⟩:=vK Tryz.underlying28 Tryz.underlying3 cells3 f4;have g4:=hg _ _ (qS e4 (j:=0) rfl);obtain⟨y5,f5⟩:=hf 5 _ rfl;obtain⟨a5,v5,c5,e5,l5,i5⟩:=open_il Tryz.underlying45 cells45 (λm r z b o hm=>ih m (by omega) r z b o) f5;have g5:=hg _ _ (qS e5 (j:=0) rfl);obtain⟨y6,f6⟩:=hf 6 _ rfl;obtain⟨a6,v6,c6,e6,l6,i6⟩:=open_il Tryz.underlying45 cells45 (λm r z b o hm=>ih m (by omega) r z b o) f6;have g6:=hg _ _ (qS e6 (j:=0) rfl);exact⟨⟨v0,v1,v2,v3,v4,v5,v6⟩,⟨g0,g1,g2,g3⟩,⟨a4,c4,g4,i4⟩,⟨a5,c5,g5,l5,of0 i5⟩,⟨a6,c6,g6,l6,of0 i6⟩,trivial⟩
theorem cells47:Tryz.prog.cellsOf 44=2:=by kernel_rfl
theorem open_type_row(fuel:Nat)(row:List Value)(y:DataW H×List MemPlace)(b o:Nat)(hlr:row.length=2)(hg:∀j v,row[j]? =some v->w.cell? ⟨b,o+j,none⟩=some v)(h:DataW.trod enc Tryz.prog w base sp held fuel 44 row=some y):∃q,TypeAt w b o q:=by
 obtain⟨_,n,hn,hf⟩:=jM Tryz.underlying44 h;obtain⟨y0,f0⟩:=hf 0 _ rfl;obtain⟨a0,v0,c0,e0,i0⟩:=vK Tryz.underlying28 Tryz.underlying3 cells3 f0;have g0:=hg _ _ (qS e0 (j:=0) rfl);obtain⟨y1,f1⟩:=hf 1 _ rfl;obtain⟨a1,v1,c1,e1,i1⟩:=vK Tryz.underlying28 Tryz.underlying3 cells3 f1;have g1:=hg _ _ (qS e1 (j:=0) rfl);exact⟨(v0,v1),⟨a0,c0,g0,i0⟩,⟨a1,c1,g1,i1⟩⟩
theorem cells73:Tryz.prog.cellsOf 82=3:=by kernel_rfl
theorem open_import_row(fuel:Nat)(row:List Value)(y:DataW H×List MemPlace)(b o:Nat)(hlr:row.length=3)(hg:∀j v,row[j]? =some v->w.cell? ⟨b,o+j,none⟩=some v)(h:DataW.trod enc Tryz.prog w base sp held fuel 82 row=some y):∃q,ImportAt w b o q:=by
 obtain⟨_,n,hn,hf⟩:=jM Tryz.underlying82 h;obtain⟨y0,f0⟩:=hf 0 _ rfl;obtain⟨v0,e0,s0⟩:=yV Tryz.underlying9 f0;have g0:=hg _ _ (qS e0 (j:=0) rfl);obtain⟨y1,f1⟩:=hf 1 _ rfl;obtain⟨v1,e1,s1⟩:=yV Tryz.underlying9 f1;have g1:=hg _ _ (qS e1 (j:=0) rfl);obtain⟨y2,f2⟩:=hf 2 _ rfl;obtain⟨v2,e2⟩:=qV Tryz.underlying3 f2;have g2:=hg _ _ (qS e2 (j:=0) rfl);exact⟨(v0,v1,v2),⟨g0,s0⟩,⟨g1,s1⟩,g2⟩
theorem cells49:Tryz.prog.cellsOf 53=3:=by kernel_rfl
theorem open_func_row(fuel:Nat)(row:List Value)(y:DataW H×List MemPlace)(b o:Nat)(hlr:row.length=3)(hg:∀j v,row[j]? =some v->w.cell? ⟨b,o+j,none⟩=some v)(h:DataW.trod enc Tryz.prog w base sp held fuel 53 row=some y):∃q,FuncAt w b o q:=by
 obtain⟨_,n,hn,hf⟩:=jM Tryz.underlying53 h;obtain⟨y0,f0⟩:=hf 0 _ rfl;obtain⟨v0,e0⟩:=qV Tryz.underlying3 f0;have g0:=hg _ _ (qS e0 (j:=0) rfl);obtain⟨y1,f1⟩:=hf 1 _ rfl;obtain⟨a1,v1,c1,e1,i1⟩:=vK Tryz.underlying28 Tryz.underlying3 cells3 f1;have g1:=hg _ _ (qS e1 (j:=0) rfl);obtain⟨y2,f2⟩:=hf 2 _ rfl;obtain⟨a2,v2,c2,e2,l2,i2⟩:=open_il Tryz.underlying45 cells45 (λm r z b o hm=>open_one m r z b o) f2;have g2:=hg _ _ (qS e2 (j:=0) rfl);exact⟨(v0,v1,v2),g0,⟨a1,c1,g1,i1⟩,⟨a2,c2,g2,l2,i2⟩⟩
theorem cells76:Tryz.prog.cellsOf 47=3:=by kernel_rfl
theorem open_limits_row(fuel:Nat)(row:List Value)(y:DataW H×List MemPlace)(b o:Nat)(hlr:row.length=3)(hg:∀j v,row[j]? =some v->w.cell? ⟨b,o+j,none⟩=some v)(h:DataW.trod enc Tryz.prog w base sp held fuel 47 row=some y):∃q,LimitsAt w b o q:=by
 obtain⟨_,n,hn,hf⟩:=jM Tryz.underlying47 h;obtain⟨y0,f0⟩:=hf 0 _ rfl;obtain⟨v0,e0⟩:=qV Tryz.underlying3 f0;have g0:=hg _ _ (qS e0 (j:=0) rfl);obtain⟨y1,f1⟩:=hf 1 _ rfl;obtain⟨v1,e1⟩:=qV Tryz.underlying3 f1;have g1:=hg _ _ (qS e1 (j:=0) rfl);obtain⟨y2,f2⟩:=hf 2 _ rfl;obtain⟨v2,e2⟩:=open_bool_cell Tryz.underlying4 f2;have g2:=hg _ _ (qS e2 (j:=0) rfl);exact⟨(v0,v1,v2),g0,g1,g2⟩
theorem cells62:Tryz.prog.cellsOf 51=9:=by kernel_rfl
theorem open_global_row(fuel:Nat)(row:List Value)(y:DataW H×List MemPlace)(b o:Nat)(hlr:row.length=9)(hg:∀j v,row[j]? =some v->w.cell? ⟨b,o+j,none⟩=some v)(h:DataW.trod enc Tryz.prog w base sp held fuel 51 row=some y):∃q,GlobalAt w b o q:=by
 obtain⟨_,n,hn,hf⟩:=jM Tryz.underlying51 h;obtain⟨y0,f0⟩:=hf 0 _ rfl;obtain⟨v0,e0⟩:=qV Tryz.underlying3 f0;have g0:=hg _ _ (qS e0 (j:=0) rfl);obtain⟨y1,f1⟩:=hf 1 _ rfl;obtain⟨v1,e1⟩:=open_bool_cell Tryz.underlying4 f1;have g1:=hg _ _ (qS e1 (j:=0) rfl);obtain⟨y2,f2⟩:=hf 2 _ rfl;obtain⟨v2,i2⟩:=open_one _ _ _ b (o+2) (by simp[List.length_take,List.length_drop,hlr,cells45]) (λj v hj=>by have:=hg _ _ (qS rfl hj);rwa [<-Nat.add_assoc]at this) f2;exact⟨(v0,v1,v2),g0,g1,i2⟩
theorem cells79:Tryz.prog.cellsOf 63=3:=by kernel_rfl
theorem open_export_row(fuel:Nat)(row:List Value)(y:DataW H×List MemPlace)(b o:Nat)(hlr:row.length=3)(hg:∀j v,row[j]? =some v->w.cell? ⟨b,o+j,none⟩=some v)(h:DataW.trod enc Tryz.prog w base sp held fuel 63 row=some y):∃q,ExportAt w b o q:=by
 obtain⟨_,n,hn,hf⟩:=jM Tryz.underlying63 h;obtain⟨y0,f0⟩:=hf 0 _ rfl;obtain⟨v0,e0,s0⟩:=yV Tryz.underlying9 f0;have g0:=hg _ _ (qS e0 (j:=0) rfl);obtain⟨y1,f1⟩:=hf 1 _ rfl;obtain⟨v1,e1⟩:=qV Tryz.underlying3 f1;have g1:=hg _ _ (qS e1 (j:=0) rfl);obtain⟨y2,f2⟩:=hf 2 _ rfl;obtain⟨v2,e2⟩:=qV Tryz.underlying3 f2;have g2:=hg _ _ (qS e2 (j:=0) rfl);exact⟨(v0,v1,v2),⟨g0,s0⟩,g1,g2⟩
theorem cells58:Tryz.prog.cellsOf 67=8:=by kernel_rfl
theorem open_elem_row(fuel:Nat)(row:List Value)(y:DataW H×List MemPlace)(b o:Nat)(hlr:row.length=8)(hg:∀j v,row[j]? =some v->w.cell? ⟨b,o+j,none⟩=some v)(h:DataW.trod enc Tryz.prog w base sp held fuel 67 row=some y):∃q,ElemAt w b o q:=by
 obtain⟨_,n,hn,hf⟩:=jM Tryz.underlying67 h;obtain⟨y0,f0⟩:=hf 0 _ rfl;obtain⟨v0,i0⟩:=open_one _ _ _ b (o+0) (by simp[List.length_take,List.length_drop,hlr,cells45]) (λj v hj=>by have:=hg _ _ (qS rfl hj);rwa [<-Nat.add_assoc]at this) f0;obtain⟨y1,f1⟩:=hf 1 _ rfl;obtain⟨a1,v1,c1,e1,i1⟩:=vK Tryz.underlying28 Tryz.underlying3 cells3 f1;have g1:=hg _ _ (qS e1 (j:=0) rfl);exact⟨(v0,v1),i0,⟨a1,c1,g1,i1⟩⟩
theorem cells60:Tryz.prog.cellsOf 69=8:=by kernel_rfl
theorem open_data_row(fuel:Nat)(row:List Value)(y:DataW H×List MemPlace)(b o:Nat)(hlr:row.length=8)(hg:∀j v,row[j]? =some v->w.cell? ⟨b,o+j,none⟩=some v)(h:DataW.trod enc Tryz.prog w base sp held fuel 69 row=some y):∃q,DataAt w b o q:=by
 obtain⟨_,n,hn,hf⟩:=jM Tryz.underlying69 h;obtain⟨y0,f0⟩:=hf 0 _ rfl;obtain⟨v0,i0⟩:=open_one _ _ _ b (o+0) (by simp[List.length_take,List.length_drop,hlr,cells45]) (λj v hj=>by have:=hg _ _ (qS rfl hj);rwa [<-Nat.add_assoc]at this) f0;obtain⟨y1,f1⟩:=hf 1 _ rfl;obtain⟨v1,e1,s1⟩:=yV Tryz.underlying9 f1;have g1:=hg _ _ (qS e1 (j:=0) rfl);exact⟨(v0,v1),i0,⟨g1,s1⟩⟩
theorem cells36:Tryz.prog.cellsOf 32=10:=by kernel_rfl
theorem open_module{base0:Nat}{v:Value}{d:DataW H}{ps:List MemPlace}(hval:Value.okWide Tryz.prog w .any base0 32 v)(hd:DataW.Trod enc Tryz.prog w base sp held 32 v d ps):∃m a0 k0 a1 k1 a2 k2 a3 k3 a4 k4 a5 k5 a6 k6 a7 k7 a8 k8 a9 k9,v=mdV m a0 k0 a1 k1 a2 k2 a3 k3 a4 k4 a5 k5 a6 k6 a7 k7 a8 k8 a9 k9/\MdAt w m a0 k0 a1 k1 a2 k2 a3 k3 a4 k4 a5 k5 a6 k6 a7 k7 a8 k8 a9 k9:=by
 unfold Value.okWide at hval;rw[Tryz.underlying32]at hval;obtain⟨cs,rfl,hsz,_⟩:=hval;rw[cells36]at hsz;obtain⟨fuel,hf⟩:=hd;obtain⟨_,n,hn,hf⟩:=jM Tryz.underlying32 hf;obtain⟨cs⟩:=cs;rw[List.size_toArray]at hsz
 rcases cs with _ |⟨x0,_ |⟨x1,_ |⟨x2,_ |⟨x3,_ |⟨x4,_ |⟨x5,_ |⟨x6,_ |⟨x7,_ |⟨x8,_ |⟨x9,_ |⟨x10,cs⟩⟩⟩⟩⟩⟩⟩⟩⟩⟩⟩
 all_goals first |(exfalso;simp only[List.length_cons,List.length_nil]at hsz;omega) |skip
 obtain⟨y0,f0⟩:=hf 0 _ rfl;obtain⟨a0,l0,k0,e0,r0⟩:=xX (cs:=[x0]) Tryz.underlying22 cells47 (by omega) (λm r z b o hm=>open_type_row m r z b o) f0;obtain rfl:=List.head_eq_of_cons_eq e0;obtain⟨y1,f1⟩:=hf 1 _ rfl;obtain⟨a1,l1,k1,e1,r1⟩:=xX (cs:=[x1]) Tryz.underlying23 cells73 (by omega) (λm r z b o hm=>open_import_row m r z b o) f1;obtain rfl:=List.head_eq_of_cons_eq e1;obtain⟨y2,f2⟩:=hf 2 _ rfl;obtain⟨a2,l2,k2,e2,r2⟩:=xX (cs:=[x2]) Tryz.underlying24 cells49 (by omega) (λm r z b o hm=>open_func_row m r z b o) f2;obtain rfl:=List.head_eq_of_cons_eq e2;obtain⟨y3,f3⟩:=hf 3 _ rfl;obtain⟨a3,l3,k3,e3,r3⟩:=xX (cs:=[x3]) Tryz.underlying25 cells76 (by omega) (λm r z b o hm=>open_limits_row m r z b o) f3;obtain rfl:=List.head_eq_of_cons_eq e3;obtain⟨y4,f4⟩:=hf 4 _ rfl;obtain⟨a4,l4,k4,e4,r4⟩:=xX (cs:=[x4]) Tryz.underlying25 cells76 (by omega) (λm r z b o hm=>open_limits_row m r z b o) f4;obtain rfl:=List.head_eq_of_cons_eq e4;obtain⟨y5,f5⟩:=hf 5 _ rfl;obtain⟨a5,l5,k5,e5,r5⟩:=xX (cs:=[x5]) Tryz.underlying26 cells62 (by omega) (λm r z b o hm=>open_global_row m r z b o) f5;obtain rfl:=List.head_eq_of_cons_eq e5;obtain⟨y6,f6⟩:=hf 6 _ rfl;obtain⟨a6,l6,k6,e6,r6⟩:=xX (cs:=[x6]) Tryz.underlying27 cells79 (by omega) (λm r z b o hm=>open_export_row m r z b o) f6;obtain rfl:=List.head_eq_of_cons_eq e6
 obtain⟨y7,f7⟩:=hf 7 _ rfl;obtain⟨a7,l7,k7,e7,r7⟩:=vK (cs:=[x7]) Tryz.underlying28 Tryz.underlying3 cells3 f7;obtain rfl:=List.head_eq_of_cons_eq e7;obtain⟨y8,f8⟩:=hf 8 _ rfl;obtain⟨a8,l8,k8,e8,r8⟩:=xX (cs:=[x8]) Tryz.underlying29 cells58 (by omega) (λm r z b o hm=>open_elem_row m r z b o) f8;obtain rfl:=List.head_eq_of_cons_eq e8;obtain⟨y9,f9⟩:=hf 9 _ rfl;obtain⟨a9,l9,k9,e9,r9⟩:=xX (cs:=[x9]) Tryz.underlying30 cells60 (by omega) (λm r z b o hm=>open_data_row m r z b o) f9;obtain rfl:=List.head_eq_of_cons_eq e9;exact⟨⟨l0,l1,l2,l3,l4,l5,l6,l7,l8,l9⟩,a0,k0,a1,k1,a2,k2,a3,k3,a4,k4,a5,k5,a6,k6,a7,k7,a8,k8,a9,k9,rfl,r0,r1,r2,r3,r4,r5,r6,r7,r8,r9⟩
end
end Go.Proofs.YtacohbllbjgdgaaGreatDoor
