/- The reference's checker: the type of a function of a number. -/
import Derived.Test.YtacohbllbjgdgaaGreatDoorXt
import Derived.Test.YtacohbllbjgdgaaGreatDoorXh
set_option linter.all false
set_option maxRecDepth 100000
set_option maxHeartbeats 16000000
namespace Go.Proofs.YtacohbllbjgdgaaGreatDoor
open Go.RowKit
theorem qJ{P:Program}{fn:Func}{p u:Tmp}{ty:TypeId}(h:fn.results= #[.cell p ty,.tmp u])(tmps:Array Value)(w:World)(g:Nat)(t:TypeId)(cs:Array Value)(fr:Nat×Nat)(d:TypeDesc)(hp:tmps.getD p undef=.pointer (some ⟨g,0,none⟩))(hg:w.heap[g]? =some (.cells cs t fr))(hu:P.underlying ty=some d)(hd:(match d with |.struct _ |.array _ _=>true |_=>false)=true)(hi:(P.info? ty).map (·.size)=some cs.size):(results fn tmps).run P w=.ok (.tuple #[.agg cs,tmps.getD u undef]) w:=by
 rw[results_cell_tmp h,hp];simp[asAddr,run_loadVar_row w g t ty cs fr d hg hu hd hi,Result.andThen]
theorem yW:(Tryz.prog.info? 44).map (·.size)=some 2:=by kernel_rfl
def typV (m:Md) (n:Int):Option (List Int×List Int):=
 if 0<=n then match (vD m)[n.toNat]? with |some t=>if 0<=t then m.types[t.toNat]? else none |none=>none else none
def TypQ (wa w:World) (x:Option (List Int×List Int)) (e:Ending) (w':World):Prop:=
 (match x with
  |some t=>∃pa pc ra rc,e=.returned (.tuple #[.agg #[.slice pa t.1.length pc,.slice ra t.2.length rc],.bool true])/\IntsIn wa pa t.1/\IntsIn wa ra t.2
  |none=>e=.returned (.tuple #[.agg #[.slice none 0 0,.slice none 0 0],.bool false]))/\Below w.heap.size w w'
theorem idx_imp{m:Md}{k:Nat}{x:ByteArray×ByteArray×Int}(h:m.imports[k]? =some x):(vD m)[k]? =some x.2.2:=by have hl:=(List.getElem?_eq_some_iff.1 h).1;unfold vD;rw[List.getElem?_append_left (by simpa using hl),List.getElem?_map,h];rfl
theorem idx_fun{m:Md}{k:Nat}{x:Int×List Int×Il}(h:m.funcs[k]? =some x):(vD m)[m.imports.length+k]? =some x.1:=by unfold vD;rw[List.getElem?_append_right (by simp),List.length_map,Nat.add_sub_cancel_left,List.getElem?_map,h];rfl
theorem idx_none{m:Md}{k:Nat}(h:m.imports.length+m.funcs.length<=k):(vD m)[k]? =none:=by unfold vD;exact List.getElem?_eq_none (by simpa using h)
theorem typ_none_neg{m:Md}{n:Int}(h:n<0):typV m n=none:=by unfold typV;rw[if_neg (by omega)]
theorem typ_out{m:Md}{k:Nat}(h:m.imports.length+m.funcs.length<=k):typV m (k:Int)=none:=by unfold typV;rw[if_pos (by omega),Int.toNat_natCast,idx_none h]
theorem typ_at{m:Md}{k:Nat}{t:Int}(h:(vD m)[k]? =some t):typV m (k:Int)=if 0<=t then m.types[t.toNat]? else none:=by unfold typV;rw[if_pos (by omega),Int.toNat_natCast,h]
theorem yN(w:World)(o o':Obj):((w.alloc o).alloc o').heap[w.heap.size+1]? =some o':=by
 have h:=heap_alloc_new (w.alloc o) o';have e:(w.alloc o).heap.size=w.heap.size+1:=(by simp)
 rw[e]at h;exact h
theorem xM(w:World)(o o':Obj):Below w.heap.size w ((w.alloc o).alloc o'):=(Below.of_alloc w o).trans ((Below.of_alloc (w.alloc o) o').mono (by simp))
section
variable {wa w:World} {m:Md} {A:MA}
theorem typ_any(hA:MdA wa m A)(hb:Below wa.heap.size wa w)(n:Int)(hsz:m.imports.length+m.funcs.length<=1099511627776):Calls Tryz.prog 55 #[.agg #[(A.v m).v0,(A.v m).v1,(A.v m).v2,(A.v m).v3,(A.v m).v4,(A.v m).v5,(A.v m).v6,(A.v m).v7,(A.v m).v8,(A.v m).v9],.int .i64 n] w (TypQ wa w (typV m n)):=by
 generalize hX:typV m n=X;replace hX:=zh hX;obtain⟨a0,k0,a1,k1,a2,k2,a3,k3,a4,k4,a5,k5,a6,k6,a7,k7,a8,k8,a9,k9⟩:=A;unfold MA.v;unfold MdA at hA
 dsimp only at hA ⊢
 have l1:=hA.imports.1;have l2:=hA.funcs.1;have l0:=hA.types.1
 have hnone:∀w',Below w.heap.size w w'->X=none->TypQ wa w X (.returned (.tuple #[.agg #[.slice none 0 0,.slice none 0 0],.bool false])) w':=λw' b e=>by
  subst e;exact⟨rfl,b⟩
 replace hnone:=zh hnone;have w1:IntKind.i64.wrap ((m.imports.length:Int)+(m.funcs.length:Int))=(m.imports.length:Int)+(m.funcs.length:Int):=(by rw[IntKind.wrap_i64];omega)
 by_cases hn:n<0
 . have e:Hid (X=none):=zh (hX.out.symm.trans (typ_none_neg hn));clear hA hX;go_enter Tryz.func55,Tryz.ntmps55;go_wp2_with fail
   all_goals(
    refine bodyPost_ret (qJ (P:=Tryz.prog) rfl _ _ (w.heap.size+1) 44 #[.slice none 0 0,.slice none 0 0] (0,0) _ rfl (yN _ _ _) Tryz.underlying44 rfl yW) rfl ?_;exact hnone.out _ (xM _ _ _) e.out)
 . obtain⟨k,rfl⟩:∃k:Nat,n=k:=⟨n.toNat,by omega⟩
   have i0:(0:Int)<=(k:Int):=(by omega)
   by_cases hi:k<m.imports.length
   . obtain⟨x,hx⟩:∃x,m.imports[k]? =some x:=⟨_,List.getElem?_eq_getElem hi⟩
     have hT:Hid (typV m (k:Int)=if 0<=x.2.2 then m.types[x.2.2.toNat]? else none):=zh (typ_at (idx_imp hx));obtain⟨b1,o1,rfl,_,_,hc⟩:=hA.imports.row hx;replace hc:wa.cell? ⟨b1,o1+k*3+2,none⟩=some (.int .i64 x.2.2):=hc;have hc':=zA (xM w (.cells #[.slice a0 m.types.length k0,.slice (some ⟨b1,o1,none⟩) m.imports.length k1,.slice a2 m.funcs.length k2,.slice a3 m.tables.length k3,.slice a4 m.mems.length k4,.slice a5 m.globals.length k5,.slice a6 m.exports.length k6,.slice a7 m.start.length k7,.slice a8 m.elems.length k8,.slice a9 m.datas.length k9] 32) (.cells #[.slice none 0 0,.slice none 0 0] 44)) _ _ (zA hb _ _ hc);have i1:(k:Int)<(m.imports.length:Int):=(by omega)
     clear hc hx;generalize x.2.2=t at hT hc'
     obtain hcase |hcase |⟨ty,hty⟩:t<0\/(¬t<0/\(m.types.length:Int)<=t)\/∃ty,m.types[t.toNat]? =some ty:=by
      by_cases c1:t<0
      . exact .inl c1
      . by_cases c2:(m.types.length:Int)<=t
        . exact .inr (.inl ⟨c1,c2⟩)
        . exact .inr (.inr ⟨_,List.getElem?_eq_getElem (show t.toNat<m.types.length by omega)⟩)
     . have e:Hid (X=none):=zh (by rw[<-hX.out,hT.out,if_neg (by omega)]);clear hX hT;go_enter Tryz.func55,Tryz.ntmps55;go_wp2_with fail
       all_goals(
        refine bodyPost_ret (qJ (P:=Tryz.prog) rfl _ _ (w.heap.size+1) 44 #[.slice none 0 0,.slice none 0 0] (0,0) _ rfl (yN _ _ _) Tryz.underlying44 rfl yW) rfl ?_;exact hnone.out _ (xM _ _ _) e.out)
     . have e:Hid (X=none):=zh (by rw[<-hX.out,hT.out,if_pos (by omega),List.getElem?_eq_none (by omega)]);obtain⟨hc1,hc2⟩:=hcase;clear hX hT;go_enter Tryz.func55,Tryz.ntmps55;go_wp2_with fail
       all_goals(
        refine bodyPost_ret (qJ (P:=Tryz.prog) rfl _ _ (w.heap.size+1) 44 #[.slice none 0 0,.slice none 0 0] (0,0) _ rfl (yN _ _ _) Tryz.underlying44 rfl yW) rfl ?_;exact hnone.out _ (xM _ _ _) e.out)
     . have htl:=(List.getElem?_eq_some_iff.1 hty).1;have ht0:0<=t\/t<0:=(by omega)
       by_cases hneg:t<0
       . have e:Hid (X=none):=zh (by rw[<-hX.out,hT.out,if_neg (by omega)]);clear hX hT;go_enter Tryz.func55,Tryz.ntmps55;go_wp2_with fail
         all_goals(
          refine bodyPost_ret (qJ (P:=Tryz.prog) rfl _ _ (w.heap.size+1) 44 #[.slice none 0 0,.slice none 0 0] (0,0) _ rfl (yN _ _ _) Tryz.underlying44 rfl yW) rfl ?_;exact hnone.out _ (xM _ _ _) e.out)
       . obtain⟨j,rfl⟩:∃j:Nat,t=j:=⟨t.toNat,by omega⟩
         rw[Int.toNat_natCast]at hty htl;have e:Hid (X=some ty):=zh (by rw[<-hX.out,hT.out,if_pos (by omega),Int.toNat_natCast,hty]);obtain⟨b0,o0,rfl,⟨pa,pc,g1,g1i⟩,⟨ra,rc,g2,g2i⟩⟩:=hA.types.row hty;have g1':=zA (xM w (.cells #[.slice (some ⟨b0,o0,none⟩) m.types.length k0,.slice (some ⟨b1,o1,none⟩) m.imports.length k1,.slice a2 m.funcs.length k2,.slice a3 m.tables.length k3,.slice a4 m.mems.length k4,.slice a5 m.globals.length k5,.slice a6 m.exports.length k6,.slice a7 m.start.length k7,.slice a8 m.elems.length k8,.slice a9 m.datas.length k9] 32) (.cells #[.slice none 0 0,.slice none 0 0] 44)) _ _ (zA hb _ _ g1);have g2':=zA (xM w (.cells #[.slice (some ⟨b0,o0,none⟩) m.types.length k0,.slice (some ⟨b1,o1,none⟩) m.imports.length k1,.slice a2 m.funcs.length k2,.slice a3 m.tables.length k3,.slice a4 m.mems.length k4,.slice a5 m.globals.length k5,.slice a6 m.exports.length k6,.slice a7 m.start.length k7,.slice a8 m.elems.length k8,.slice a9 m.datas.length k9] 32) (.cells #[.slice none 0 0,.slice none 0 0] 44)) _ _ (zA hb _ _ g2)
         have hdone:Hid (∀w',Below w.heap.size w w'->TypQ wa w X (.returned (.tuple #[.agg #[.slice pa ty.1.length pc,.slice ra ty.2.length rc],.bool true])) w'):=zh (λw' b=>by
          rw[e.out];exact⟨⟨_,_,_,_,rfl,g1i,g2i⟩,b⟩)
         have c3:¬((m.types.length:Int)<=(j:Int)):=(by omega)
         have c4:(j:Int)<(m.types.length:Int):=(by omega)
         have c5:(0:Int)<=(j:Int):=(by omega)
         clear hX hT e hty g1 g2;go_enter Tryz.func55,Tryz.ntmps55;go_wp2_with fail
         all_goals(
          refine bodyPost_ret (qJ (P:=Tryz.prog) rfl _ _ (w.heap.size+1) 44 #[.slice pa ty.1.length pc,.slice ra ty.2.length rc] (0,0) _ rfl (yN _ _ _) Tryz.underlying44 rfl yW) rfl ?_;exact hdone.out _ (xM _ _ _))
   . have hk1:¬((k:Int)<(m.imports.length:Int)):=(by omega)
     by_cases hf:k<m.imports.length+m.funcs.length
     . obtain⟨j',rfl⟩:∃j',k=m.imports.length+j':=⟨k-m.imports.length,by omega⟩
       obtain⟨x,hx⟩:∃x,m.funcs[j']? =some x:=⟨_,List.getElem?_eq_getElem (by omega)⟩
       have hT:Hid (typV m ((m.imports.length+j':Nat):Int)=if 0<=x.1 then m.types[x.1.toNat]? else none):=zh (typ_at (idx_fun hx));obtain⟨b1,o1,rfl,hc,_,_⟩:=hA.funcs.row hx;replace hc:wa.cell? ⟨b1,o1+j'*3,none⟩=some (.int .i64 x.1):=hc;have hc':=zA (xM w (.cells #[.slice a0 m.types.length k0,.slice a1 m.imports.length k1,.slice (some ⟨b1,o1,none⟩) m.funcs.length k2,.slice a3 m.tables.length k3,.slice a4 m.mems.length k4,.slice a5 m.globals.length k5,.slice a6 m.exports.length k6,.slice a7 m.start.length k7,.slice a8 m.elems.length k8,.slice a9 m.datas.length k9] 32) (.cells #[.slice none 0 0,.slice none 0 0] 44)) _ _ (zA hb _ _ hc);generalize hK:((m.imports.length+j':Nat):Int)=K at hX hT hk1 i0 ⊢;have i1:K<(m.imports.length:Int)+(m.funcs.length:Int):=(by omega)
       have w2:IntKind.i64.wrap (K-(m.imports.length:Int))=(j':Int):=(by rw[IntKind.wrap_i64];omega)
       have i2:(0:Int)<=(j':Int):=(by omega)
       have i3:(j':Int)<(m.funcs.length:Int):=(by omega)
       have hn':¬K<0:=(by omega)
       replace hK:=zh hK;clear hc hx hi hf;generalize x.1=t at hT hc'
       obtain hcase |hcase |⟨ty,hty⟩:t<0\/(¬t<0/\(m.types.length:Int)<=t)\/∃ty,m.types[t.toNat]? =some ty:=by
        by_cases c1:t<0
        . exact .inl c1
        . by_cases c2:(m.types.length:Int)<=t
          . exact .inr (.inl ⟨c1,c2⟩)
          . exact .inr (.inr ⟨_,List.getElem?_eq_getElem (show t.toNat<m.types.length by omega)⟩)
       . have e:Hid (X=none):=zh (by rw[<-hX.out,hT.out,if_neg (by omega)]);clear hX hT;go_enter Tryz.func55,Tryz.ntmps55;go_wp2_with fail
         all_goals(
          refine bodyPost_ret (qJ (P:=Tryz.prog) rfl _ _ (w.heap.size+1) 44 #[.slice none 0 0,.slice none 0 0] (0,0) _ rfl (yN _ _ _) Tryz.underlying44 rfl yW) rfl ?_;exact hnone.out _ (xM _ _ _) e.out)
       . have e:Hid (X=none):=zh (by rw[<-hX.out,hT.out,if_pos (by omega),List.getElem?_eq_none (by omega)]);obtain⟨hc1,hc2⟩:=hcase;clear hX hT;go_enter Tryz.func55,Tryz.ntmps55;go_wp2_with fail
         all_goals(
          refine bodyPost_ret (qJ (P:=Tryz.prog) rfl _ _ (w.heap.size+1) 44 #[.slice none 0 0,.slice none 0 0] (0,0) _ rfl (yN _ _ _) Tryz.underlying44 rfl yW) rfl ?_;exact hnone.out _ (xM _ _ _) e.out)
       . have htl:=(List.getElem?_eq_some_iff.1 hty).1;have ht0:0<=t\/t<0:=(by omega)
         by_cases hneg:t<0
         . have e:Hid (X=none):=zh (by rw[<-hX.out,hT.out,if_neg (by omega)]);clear hX hT;go_enter Tryz.func55,Tryz.ntmps55;go_wp2_with fail
           all_goals(
            refine bodyPost_ret (qJ (P:=Tryz.prog) rfl _ _ (w.heap.size+1) 44 #[.slice none 0 0,.slice none 0 0] (0,0) _ rfl (yN _ _ _) Tryz.underlying44 rfl yW) rfl ?_;exact hnone.out _ (xM _ _ _) e.out)
         . obtain⟨j,rfl⟩:∃j:Nat,t=j:=⟨t.toNat,by omega⟩
           rw[Int.toNat_natCast]at hty htl;have e:Hid (X=some ty):=zh (by rw[<-hX.out,hT.out,if_pos (by omega),Int.toNat_natCast,hty]);obtain⟨b0,o0,rfl,⟨pa,pc,g1,g1i⟩,⟨ra,rc,g2,g2i⟩⟩:=hA.types.row hty;have g1':=zA (xM w (.cells #[.slice (some ⟨b0,o0,none⟩) m.types.length k0,.slice a1 m.imports.length k1,.slice (some ⟨b1,o1,none⟩) m.funcs.length k2,.slice a3 m.tables.length k3,.slice a4 m.mems.length k4,.slice a5 m.globals.length k5,.slice a6 m.exports.length k6,.slice a7 m.start.length k7,.slice a8 m.elems.length k8,.slice a9 m.datas.length k9] 32) (.cells #[.slice none 0 0,.slice none 0 0] 44)) _ _ (zA hb _ _ g1);have g2':=zA (xM w (.cells #[.slice (some ⟨b0,o0,none⟩) m.types.length k0,.slice a1 m.imports.length k1,.slice (some ⟨b1,o1,none⟩) m.funcs.length k2,.slice a3 m.tables.length k3,.slice a4 m.mems.length k4,.slice a5 m.globals.length k5,.slice a6 m.exports.length k6,.slice a7 m.start.length k7,.slice a8 m.elems.length k8,.slice a9 m.datas.length k9] 32) (.cells #[.slice none 0 0,.slice none 0 0] 44)) _ _ (zA hb _ _ g2)
           have hdone:Hid (∀w',Below w.heap.size w w'->TypQ wa w X (.returned (.tuple #[.agg #[.slice pa ty.1.length pc,.slice ra ty.2.length rc],.bool true])) w'):=zh (λw' b=>by
            rw[e.out];exact⟨⟨_,_,_,_,rfl,g1i,g2i⟩,b⟩)
           have c3:¬((m.types.length:Int)<=(j:Int)):=(by omega)
           have c4:(j:Int)<(m.types.length:Int):=(by omega)
           have c5:(0:Int)<=(j:Int):=(by omega)
           clear hX hT e hty g1 g2;go_enter Tryz.func55,Tryz.ntmps55;go_wp2_with fail
           all_goals(
            refine bodyPost_ret (qJ (P:=Tryz.prog) rfl _ _ (w.heap.size+1) 44 #[.slice pa ty.1.length pc,.slice ra ty.2.length rc] (0,0) _ rfl (yN _ _ _) Tryz.underlying44 rfl yW) rfl ?_;exact hdone.out _ (xM _ _ _))
     . have e:Hid (X=none):=zh (hX.out.symm.trans (typ_out (by omega)));have i1:¬((k:Int)<(m.imports.length:Int)+(m.funcs.length:Int)):=(by omega)
       clear hA hX hf hi;go_enter Tryz.func55,Tryz.ntmps55;go_wp2_with fail
       all_goals(
        refine bodyPost_ret (qJ (P:=Tryz.prog) rfl _ _ (w.heap.size+1) 44 #[.slice none 0 0,.slice none 0 0] (0,0) _ rfl (yN _ _ _) Tryz.underlying44 rfl yW) rfl ?_;exact hnone.out _ (xM _ _ _) e.out)
end
end Go.Proofs.YtacohbllbjgdgaaGreatDoor
namespace Go.Proofs.YtacohbllbjgdgaaGreatDoor
open Go.RowKit
section
variable {wa:World} {N p:Nat} {A:MA} {lv:Value} {m:Md} {E:Ev} {w w':World} {sv fv sv' fv':Value} {s u:Rs}
theorem rbox(h:Rx wa N p A lv m E w sv fv s)(op a y n:Int)(v4 v5 v6:Value):∃w1,w1=w.alloc (.cells #[.int .i64 op,.int .i64 a,.int .i64 y,.int .i64 n,v4,v5,v6] 49)/\Rx wa N p A lv m E w1 sv fv s/\Bx w1 w.heap.size op a y n v4 v5 v6/\Off w1 p sv fv w.heap.size/\Tw p sv fv sv fv w w1:=
 ⟨_,rfl,h.step (Below.of_alloc w _),⟨ins_c w op a y n v4 v5 v6⟩,h.t.off _,.of_below (Below.of_alloc w _)⟩
theorem yQ{M:M10}(h:RcP N p M lv w sv fv s)(t:Int)(hb:s.w=0->s.st.length+1<=1099511627776):Calls Tryz.prog 106 #[.pointer (some ⟨p,0,none⟩),.slice (some ⟨w.heap.size,0,none⟩) 1 1] (w.alloc (.cells #[.int .i64 t] 3)) λe w'=>e=.returned (.tuple #[])/\∃sv',RcP N p M lv w' sv' fv (zW [t] s)/\Tw p sv fv sv' fv w w':=by
 have ha:=Below.of_alloc w (.cells #[.int .i64 t] 3);have:=vZ (l:=[t]) (la:=some ⟨w.heap.size,0,none⟩) (lc:=1) (h.step ha) (ints_one1 w t) hb;refine this.mono ?_;rintro e w' ⟨rfl,sv',h1,t1⟩;exact⟨rfl,sv',h1,(Tw.of_below ha).trans t1⟩
theorem Rx.lcw(h:Rx wa N p A lv m E w sv fv s):∃a k,lv=.slice a E.locals.length k/\E.locals.length<=9223372036854775807/\∀i x,E.locals[i]? =some x->∃b o,a=some ⟨b,o,none⟩/\w.cell? ⟨b,o+i,none⟩=some (.int .i64 x):=by obtain⟨a,k,e,l⟩:=h.lc;exact⟨a,k,e,l.1.1,λi x hx=>l.1.at hx⟩
theorem rvar_none{op:Int}(hp:op<35){E:Ev}{a:Nat}(ha:E.locals[a]? =none){s:Rs}:qQ E op (a:Int) s=zQ 61 s:=by unfold qQ;rw[if_neg (by omega),Int.toNat_natCast,ha]
theorem rvar_some{op:Int}(hp:op<35){E:Ev}{a:Nat}{t:Int}(ha:E.locals[a]? =some t){s:Rs}:qQ E op (a:Int) s=if op≠33 then zW [t] (if op≠32 then(zP t s).2 else s)else(if op≠32 then(zP t s).2 else s):=by unfold qQ;rw[if_neg (by omega),Int.toNat_natCast,ha]
theorem rvar_lo(h:Rx wa N p A lv m E w sv fv s)(op a y n:Int)(v4 v5 v6:Value)(hop:op=32\/op=33\/op=34)(ha:0<=a)(hb:Lh s):Calls Tryz.prog 112 #[.pointer (some ⟨p,0,none⟩),zO op a y n v4 v5 v6] w (endO N p (A.v m) lv w sv fv (qQ E op a s)):=by
 obtain⟨w1,hw1,h1,hx1,ho1,t1⟩:=rbox h op a y n v4 v5 v6;obtain⟨i,rfl⟩:∃i:Nat,a=i:=⟨a.toNat,by omega⟩
 unfold zO;obtain⟨B,hB⟩:∃B,B=w.heap.size:=⟨_,rfl⟩
 obtain⟨la,lk,hlv,hl63,hloc⟩:=h1.lcw;obtain⟨k0,k1,k2,k3,z1,z2,z3⟩:=h1.t.c;rw[hlv]at k0;obtain⟨x0,x1,x2,x3,x4,x5,x6⟩:=hx1.c;have hlt:¬(35:Int)<=op:=(by omega)
 have hlt2:op<35:=(by omega)
 have i0:(0:Int)<=(i:Int):=(by omega)
 generalize hX:qQ E op (i:Int) s=X
 by_cases hi:i<E.locals.length
 . obtain⟨t,ht⟩:∃t,E.locals[i]? =some t:=⟨_,List.getElem?_eq_getElem hi⟩
   have e0:=rvar_some hlt2 ht (s:=s);rw[hX]at e0;have i1:(i:Int)<(E.locals.length:Int):=(by omega)
   have i2:¬(E.locals.length:Int)<=(i:Int):=(by omega)
   obtain⟨b,o,hab,hct⟩:=hloc i t ht;subst hab;clear ha hX hloc;replace hlv:=zh hlv;replace ht:=zh ht;replace e0:=zh e0;have step1:∀w2,Below w1.heap.size w1 w2->Hid (Rx wa N p A lv m E w2 sv fv s/\Tw p sv fv sv fv w w2/\Bx w2 w.heap.size op (i:Int) y n v4 v5 v6/\Off w2 p sv fv w.heap.size/\w2.cell? ⟨b,o+i,none⟩=some (.int .i64 t)):=λw2 b=>zh ⟨h1.step b,t1.step b,hx1.tw ho1 (.of_below b),(ho1.tw (.of_below b)).1,zA b _ _ hct⟩;replace step1:=zh step1;go_enter Tryz.func112,Tryz.ntmps112
   go_upto_region 1 with(fail)
   rw[<-hw1];rw[<-hB]at x0 x1 x2 x3 x4 x5 x6 hx1 ho1 step1 ⊢;clear hw1 hB;go_wp2_with fail
   go_quiet (fail)
   have hq:=step1.out _ (zB nq);obtain⟨w2,hw2⟩:∃w2,w2=w1.drewN nq:=⟨_,rfl⟩
   rw[<-hw2]at hq ⊢;clear hw2 x0 x1 x2 x3 x4 x5 x6 k0 k1 k2 k3 z1 z2 z3 hct nq h1 t1 ho1 hx1 step1;obtain⟨h2,t2,hx2,ho2,hct⟩:=hq.out;obtain⟨k0,k1,k2,k3,z1,z2,z3⟩:=h2.t.c;rw[hlv.out]at k0;obtain⟨x0,x1,x2,x3,x4,x5,x6⟩:=hx2.c;go_wp2_with fail
   go_quiet (fail)
   have h3:=h2.step (zB nq);have t3:=t2.step (zB nq);have hx3:=hx2.tw ho2 (.of_below (zB nq));have ho3:=(ho2.tw (.of_below (zB nq))).1;obtain⟨w3,hw3⟩:∃w3,w3=w2.drewN nq:=⟨_,rfl⟩
   rw[<-hw3]at h3 t3 hx3 ho3 ⊢;clear hw3 x0 x1 x2 x3 x4 x5 x6 k0 k1 k2 k3 z1 z2 z3 hct nq h2 t2 ho2 hx2 hq;obtain⟨x0,x1,x2,x3,x4,x5,x6⟩:=hx3.c
   rcases hop with rfl |rfl |rfl
   . have hpu:=zh (yQ h3.t t hb);go_wp2_with fail;refine hpu.out.mono ?_;rintro e wz ⟨rfl,svz,hz,tz⟩;go_wp2;go_end0;rw[e0.out];exact⟨rfl,svz,hz,t3.trans tz⟩
   . go_wp2_with fail;refine(qL h3.t h3.wf t).mono ?_;rintro e w4 ⟨rfl,sv4,h4,t4⟩;have hx4:=hx3.tw ho3 t4;obtain⟨x0,x1,x2,x3,x4,x5,x6⟩:=hx4.c;go_wp2;go_end0;rw[e0.out];exact⟨rfl,sv4,h4,t3.trans t4⟩
   . go_wp2_with fail;refine(qL h3.t h3.wf t).mono ?_;rintro e w4 ⟨rfl,sv4,h4,t4⟩;have hx4:=hx3.tw ho3 t4;have g4:=jA h3.wf t;obtain⟨x0,x1,x2,x3,x4,x5,x6⟩:=hx4.c;have hpu:=zh (yQ h4 t (g4.lh hb));go_wp2_with fail;refine hpu.out.mono ?_;rintro e wz ⟨rfl,svz,hz,tz⟩;go_wp2;go_end0;rw[e0.out];exact⟨rfl,svz,hz,(t3.trans t4).trans tz⟩
 . have e0:=rvar_none hlt2 (E:=E) (a:=i) (s:=s) (List.getElem?_eq_none (by omega));rw[hX]at e0;subst e0;have i1:(E.locals.length:Int)<=(i:Int):=(by omega)
   clear ha hX hloc hi;go_enter Tryz.func112,Tryz.ntmps112
   go_upto_region 1 with(fail)
   rw[<-hw1];rw[<-hB]at x0 x1 x2 x3 x4 x5 x6 hx1 ho1 ⊢;clear hw1 hB;go_wp2_with fail
   go_quiet (fail)
   have h2:=h1.step (zB nq);have t2:=t1.step (zB nq);go_wp2_with fail;refine(j8 h2.t 61).mono ?_;rintro e w3 ⟨rfl,h3,t3⟩;go_wp2;go_end0;exact⟨rfl,_,h3,t2.trans t3⟩
end
end Go.Proofs.YtacohbllbjgdgaaGreatDoor
namespace Go.Proofs.YtacohbllbjgdgaaGreatDoor
open Go.RowKit
section
variable {wa:World} {N p:Nat} {A:MA} {lv:Value} {m:Md} {E:Ev} {w w':World} {sv fv sv' fv':Value} {s u:Rs}
theorem rvarg_none{op:Int}(hp:35<=op){E:Ev}{a:Nat}(ha:E.globals[a]? =none){s:Rs}:qQ E op (a:Int) s=zQ 61 s:=by unfold qQ;rw[if_pos hp,Int.toNat_natCast,ha]
theorem rvarg_some{op:Int}(hp:35<=op){E:Ev}{a:Nat}{g:Int×Bool}(ha:E.globals[a]? =some g){s:Rs}:qQ E op (a:Int) s=if op=35 then zW [g.1] s else(zP g.1 (if g.2=true then s else zQ 62 s)).2:=by unfold qQ;rw[if_pos hp,Int.toNat_natCast,ha]
theorem Rx.glob(h:Rx wa N p A lv m E w sv fv s){i:Nat}{g:Int×Bool}(hg:E.globals[i]? =some g):∃b o,∃q:One,∃u4 c4 u5 c5 u6 c6,A.a5=some ⟨b,o,none⟩/\w.cell? ⟨b,o+i*9,none⟩=some (.int .i64 g.1)/\w.cell? ⟨b,o+i*9+1,none⟩=some (.bool g.2)/\w.cell? ⟨b,o+i*9+2,none⟩=some (.int .i64 q.op)/\w.cell? ⟨b,o+i*9+2+1,none⟩=some (.int .i64 q.x)/\w.cell? ⟨b,o+i*9+2+2,none⟩=some (.int .i64 q.y)/\w.cell? ⟨b,o+i*9+2+3,none⟩=some (.int .i64 q.n)/\w.cell? ⟨b,o+i*9+2+4,none⟩=some (.slice u4 q.ls.length c4)/\w.cell? ⟨b,o+i*9+2+5,none⟩=some (.slice u5 q.body.len c5)/\w.cell? ⟨b,o+i*9+2+6,none⟩=some (.slice u6 q.els.len c6):=by
 rw[h.e2,List.getElem?_map]at hg;cases hx:m.globals[i]? with
 |none=>rw[hx]at hg;cases hg
 |some x=>rw[hx]at hg;cases hg;obtain⟨b,o,e,r1,r2,r3⟩:=h.mdw.globals.row hx;obtain⟨⟨g0,g1,g2,g3⟩,⟨ga4,gk4,g4,_⟩,⟨ga5,gk5,g5,_⟩,⟨ga6,gk6,g6,_⟩,_⟩:=r3;exact⟨b,o,x.2.2,ga4,gk4,ga5,gk5,ga6,gk6,e,r1,r2,g0,g1,g2,g3,g4,g5,g6⟩
theorem rvar_hi(h:Rx wa N p A lv m E w sv fv s)(op a y n:Int)(v4 v5 v6:Value)(hop:op=35\/op=36)(ha:0<=a)(hb:Lh s):Calls Tryz.prog 112 #[.pointer (some ⟨p,0,none⟩),zO op a y n v4 v5 v6] w (endO N p (A.v m) lv w sv fv (qQ E op a s)):=by
 obtain⟨w1,hw1,h1,hx1,ho1,t1⟩:=rbox h op a y n v4 v5 v6;obtain⟨i,rfl⟩:∃i:Nat,a=i:=⟨a.toNat,by omega⟩
 unfold zO;obtain⟨B,hB⟩:∃B,B=w.heap.size:=⟨_,rfl⟩
 obtain⟨y0,y1,y2,y3,y4,y5,y6,y7,y8,y9⟩:=h1.t.c10;obtain⟨k0,k1,k2,k3,z1,z2,z3⟩:=h1.t.c;replace y5:w1.cell? ⟨p,5,none⟩=some (.slice A.a5 m.globals.length A.k5):=y5;have hgl:E.globals.length=m.globals.length:=(by rw[h.e2,List.length_map])
 have hg63:m.globals.length<=9223372036854775807:=h.mdw.globals.1;obtain⟨x0,x1,x2,x3,x4,x5,x6⟩:=hx1.c;have hlt2:35<=op:=(by omega)
 have i0:(0:Int)<=(i:Int):=(by omega)
 generalize hX:qQ E op (i:Int) s=X
 by_cases hi:i<m.globals.length
 . obtain⟨t,ht⟩:∃t,E.globals[i]? =some t:=⟨_,List.getElem?_eq_getElem (by omega)⟩
   have e0:=rvarg_some hlt2 ht (s:=s);rw[hX]at e0;have i1:(i:Int)<(m.globals.length:Int):=(by omega)
   have i2:¬(m.globals.length:Int)<=(i:Int):=(by omega)
   have i3:decide ((m.globals.length:Int)<=(i:Int))=false:=decide_eq_false i2;obtain⟨b,o,q,u4,c4,u5,c5,u6,c6,hA5,g0,g1,g2,g3,g4,g5,g6,g7,g8⟩:=h1.glob ht;rw[hA5]at y5;clear ha hX;replace ht:=zh ht;replace e0:=zh e0;replace hgl:=zh hgl;replace hA5:=zh hA5;have step1:∀w2,Below w1.heap.size w1 w2->Hid (Rx wa N p A lv m E w2 sv fv s/\Tw p sv fv sv fv w w2/\Bx w2 w.heap.size op (i:Int) y n v4 v5 v6/\Off w2 p sv fv w.heap.size):=λw2 b=>zh ⟨h1.step b,t1.step b,hx1.tw ho1 (.of_below b),(ho1.tw (.of_below b)).1⟩;replace step1:=zh step1;go_enter Tryz.func112,Tryz.ntmps112
   go_upto_region 1 with(fail)
   rw[<-hw1];rw[<-hB]at x0 x1 x2 x3 x4 x5 x6 hx1 ho1 step1 ⊢;clear hw1 hB;go_wp2_with fail
   go_quiet (fail)
   have hq:=step1.out _ (zB nq);obtain⟨w2,hw2⟩:∃w2,w2=w1.drewN nq:=⟨_,rfl⟩
   have kd:=zA (zB (w:=w1) nq);rw[<-hw2]at hq kd ⊢;replace g0:=kd _ _ g0;replace g1:=kd _ _ g1;replace g2:=kd _ _ g2;replace g3:=kd _ _ g3;replace g4:=kd _ _ g4;replace g5:=kd _ _ g5;replace g6:=kd _ _ g6;replace g7:=kd _ _ g7;replace g8:=kd _ _ g8;replace y5:=kd _ _ y5;replace x1:=kd _ _ x1;clear kd hw2 nq h1 t1 ho1 hx1 step1;obtain⟨h2,t2,hx2,ho2⟩:=hq.out;clear k0 k1 k2 k3 z1 z2 z3 x0 x2 x3 x4 x5 x6 y0 y1 y2 y3 y4 y6 y7 y8 y9;have g0z:(w2.alloc (.cells #[.int .i64 0,.bool false,.int .i64 0,.int .i64 0,.int .i64 0,.int .i64 0,.slice none 0 0,.slice none 0 0,.slice none 0 0] 51)).cell? ⟨b,o+i*9,none⟩=some (.int .i64 t.1):=zA (Below.of_alloc w2 _) _ _ g0;have g0d:(w2.alloc (.cells #[.int .i64 0,.bool false,.int .i64 0,.int .i64 0,.int .i64 0,.int .i64 0,.slice none 0 0,.slice none 0 0,.slice none 0 0] 51)).drew.cell? ⟨b,o+i*9,none⟩=some (.int .i64 t.1):=g0z;have g1z:(w2.alloc (.cells #[.int .i64 0,.bool false,.int .i64 0,.int .i64 0,.int .i64 0,.int .i64 0,.slice none 0 0,.slice none 0 0,.slice none 0 0] 51)).cell? ⟨b,o+i*9+1,none⟩=some (.bool t.2):=zA (Below.of_alloc w2 _) _ _ g1;have g1d:(w2.alloc (.cells #[.int .i64 0,.bool false,.int .i64 0,.int .i64 0,.int .i64 0,.int .i64 0,.slice none 0 0,.slice none 0 0,.slice none 0 0] 51)).drew.cell? ⟨b,o+i*9+1,none⟩=some (.bool t.2):=g1z;have g2z:(w2.alloc (.cells #[.int .i64 0,.bool false,.int .i64 0,.int .i64 0,.int .i64 0,.int .i64 0,.slice none 0 0,.slice none 0 0,.slice none 0 0] 51)).cell? ⟨b,o+i*9+2,none⟩=some (.int .i64 q.op):=zA (Below.of_alloc w2 _) _ _ g2
   have g2d:(w2.alloc (.cells #[.int .i64 0,.bool false,.int .i64 0,.int .i64 0,.int .i64 0,.int .i64 0,.slice none 0 0,.slice none 0 0,.slice none 0 0] 51)).drew.cell? ⟨b,o+i*9+2,none⟩=some (.int .i64 q.op):=g2z;have g3z:(w2.alloc (.cells #[.int .i64 0,.bool false,.int .i64 0,.int .i64 0,.int .i64 0,.int .i64 0,.slice none 0 0,.slice none 0 0,.slice none 0 0] 51)).cell? ⟨b,o+i*9+2+1,none⟩=some (.int .i64 q.x):=zA (Below.of_alloc w2 _) _ _ g3;have g3d:(w2.alloc (.cells #[.int .i64 0,.bool false,.int .i64 0,.int .i64 0,.int .i64 0,.int .i64 0,.slice none 0 0,.slice none 0 0,.slice none 0 0] 51)).drew.cell? ⟨b,o+i*9+2+1,none⟩=some (.int .i64 q.x):=g3z;have g4z:(w2.alloc (.cells #[.int .i64 0,.bool false,.int .i64 0,.int .i64 0,.int .i64 0,.int .i64 0,.slice none 0 0,.slice none 0 0,.slice none 0 0] 51)).cell? ⟨b,o+i*9+2+2,none⟩=some (.int .i64 q.y):=zA (Below.of_alloc w2 _) _ _ g4;have g4d:(w2.alloc (.cells #[.int .i64 0,.bool false,.int .i64 0,.int .i64 0,.int .i64 0,.int .i64 0,.slice none 0 0,.slice none 0 0,.slice none 0 0] 51)).drew.cell? ⟨b,o+i*9+2+2,none⟩=some (.int .i64 q.y):=g4z;have g5z:(w2.alloc (.cells #[.int .i64 0,.bool false,.int .i64 0,.int .i64 0,.int .i64 0,.int .i64 0,.slice none 0 0,.slice none 0 0,.slice none 0 0] 51)).cell? ⟨b,o+i*9+2+3,none⟩=some (.int .i64 q.n):=zA (Below.of_alloc w2 _) _ _ g5
   have g5d:(w2.alloc (.cells #[.int .i64 0,.bool false,.int .i64 0,.int .i64 0,.int .i64 0,.int .i64 0,.slice none 0 0,.slice none 0 0,.slice none 0 0] 51)).drew.cell? ⟨b,o+i*9+2+3,none⟩=some (.int .i64 q.n):=g5z;have g6z:(w2.alloc (.cells #[.int .i64 0,.bool false,.int .i64 0,.int .i64 0,.int .i64 0,.int .i64 0,.slice none 0 0,.slice none 0 0,.slice none 0 0] 51)).cell? ⟨b,o+i*9+2+4,none⟩=some (.slice u4 q.ls.length c4):=zA (Below.of_alloc w2 _) _ _ g6;have g6d:(w2.alloc (.cells #[.int .i64 0,.bool false,.int .i64 0,.int .i64 0,.int .i64 0,.int .i64 0,.slice none 0 0,.slice none 0 0,.slice none 0 0] 51)).drew.cell? ⟨b,o+i*9+2+4,none⟩=some (.slice u4 q.ls.length c4):=g6z;have g7z:(w2.alloc (.cells #[.int .i64 0,.bool false,.int .i64 0,.int .i64 0,.int .i64 0,.int .i64 0,.slice none 0 0,.slice none 0 0,.slice none 0 0] 51)).cell? ⟨b,o+i*9+2+5,none⟩=some (.slice u5 q.body.len c5):=zA (Below.of_alloc w2 _) _ _ g7;have g7d:(w2.alloc (.cells #[.int .i64 0,.bool false,.int .i64 0,.int .i64 0,.int .i64 0,.int .i64 0,.slice none 0 0,.slice none 0 0,.slice none 0 0] 51)).drew.cell? ⟨b,o+i*9+2+5,none⟩=some (.slice u5 q.body.len c5):=g7z;have g8z:(w2.alloc (.cells #[.int .i64 0,.bool false,.int .i64 0,.int .i64 0,.int .i64 0,.int .i64 0,.slice none 0 0,.slice none 0 0,.slice none 0 0] 51)).cell? ⟨b,o+i*9+2+6,none⟩=some (.slice u6 q.els.len c6):=zA (Below.of_alloc w2 _) _ _ g8
   have g8d:(w2.alloc (.cells #[.int .i64 0,.bool false,.int .i64 0,.int .i64 0,.int .i64 0,.int .i64 0,.slice none 0 0,.slice none 0 0,.slice none 0 0] 51)).drew.cell? ⟨b,o+i*9+2+6,none⟩=some (.slice u6 q.els.len c6):=g8z;have y5z:(w2.alloc (.cells #[.int .i64 0,.bool false,.int .i64 0,.int .i64 0,.int .i64 0,.int .i64 0,.slice none 0 0,.slice none 0 0,.slice none 0 0] 51)).cell? ⟨p,5,none⟩=some (.slice (some ⟨b,o,none⟩) m.globals.length A.k5):=zA (Below.of_alloc w2 _) _ _ y5;have y5d:(w2.alloc (.cells #[.int .i64 0,.bool false,.int .i64 0,.int .i64 0,.int .i64 0,.int .i64 0,.slice none 0 0,.slice none 0 0,.slice none 0 0] 51)).drew.cell? ⟨p,5,none⟩=some (.slice (some ⟨b,o,none⟩) m.globals.length A.k5):=y5z;have x1z:(w2.alloc (.cells #[.int .i64 0,.bool false,.int .i64 0,.int .i64 0,.int .i64 0,.int .i64 0,.slice none 0 0,.slice none 0 0,.slice none 0 0] 51)).cell? ⟨B,1,none⟩=some (.int .i64 (i:Int)):=zA (Below.of_alloc w2 _) _ _ x1;have x1d:(w2.alloc (.cells #[.int .i64 0,.bool false,.int .i64 0,.int .i64 0,.int .i64 0,.int .i64 0,.slice none 0 0,.slice none 0 0,.slice none 0 0] 51)).drew.cell? ⟨B,1,none⟩=some (.int .i64 (i:Int)):=x1z;replace hq:=zh hq;replace h2:=zh h2;go_wp2_with fail
   go_cut [4] from 20 to 28 (λv4 wx=>∃b',v4=.pointer (some ⟨b',0,none⟩)/\Hid (w2.heap.size<=b')/\Hid (wx.heap[b']? =some (.cells #[.int .i64 t.1,.bool t.2,.int .i64 q.op,.int .i64 q.x,.int .i64 q.y,.int .i64 q.n,.slice u4 q.ls.length c4,.slice u5 q.body.len c5,.slice u6 q.els.len c6] 51 (0,0)))/\Hid (Below w2.heap.size w2 wx))
   case first=>
    go_region
    all_goals go_wp2_with fail
    all_goals go_meet
    all_goals exact⟨_,rfl,zh (Nat.le_refl _),zh (heap_alloc_new _ _),zh (by first |exact(Below.of_alloc w2 _).trans ((zB (w:=w2.alloc _) 1).mono (by simp)) |exact(zB (w:=w2) 1).trans ((Below.of_alloc w2.drew _).mono (by simp)))⟩
   case rest=>
    obtain⟨b',rfl,hbl,hb51,hbw⟩:=hcut;have h3:=h2.out.step hbw.out;have t3:=t2.step hbw.out;have hx3:=hx2.tw ho2 (.of_below hbw.out);have ho3:=(ho2.tw (.of_below hbw.out)).1
    have hob:Off wc p sv fv b':=by obtain⟨L,_,hL,_⟩:=h2.out.t.o.fs;have e1:=hbl.out;have e2:=lt_of_block h2.out.t.b;exact⟨lt_of_block hb51.out,by omega,λe=>by have:=(h2.out.t.o.st.lt _ e).2;omega,λe=>by have:=(hL.lt _ e).2;omega⟩
    have hc51:∀(w4:World) (sv4 fv4:Value),Tw p sv fv sv4 fv4 wc w4->w4.cell? ⟨b',0,none⟩=some (.int .i64 t.1)/\w4.cell? ⟨b',1,none⟩=some (.bool t.2):=λw4 sv4 fv4 tw=>by
     have hh:=(hob.tw tw).2.trans hb51.out;exact⟨by rw[cell_of_row _ b' 0 _ _ _ hh];rfl,by rw[cell_of_row _ b' 1 _ _ _ hh];rfl⟩
    replace hc51:=zh hc51;obtain⟨x0,x1,x2,x3,x4,x5,x6⟩:=hx3.c;obtain⟨v0,v1⟩:=hc51.out _ _ _ (.refl p sv fv wc);clear hb51 hbw h2 t2 hx2 ho2 hq y5 g0 g1 g2 g3 g4 g5 g6 g7 g8 hbl;clear g0z g0d g1z g1d g2z g2d g3z g3d g4z g4d g5z g5d g6z g6d g7z g7d g8z g8d y5z y5d x1z x1d
    rcases hop with rfl |rfl
    . have hpu:=zh (yQ h3.t t.1 hb);go_wp2_with fail;refine hpu.out.mono ?_;rintro e wz ⟨rfl,svz,hz,tz⟩;go_wp2;go_end0;rw[e0.out];exact⟨rfl,svz,hz,t3.trans tz⟩
    . by_cases hm:t.2=true
      . have e1:Hid (X=(zP t.1 s).2):=zh (by rw[e0.out,if_neg (by decide),if_pos hm]);rw[hm]at v1;go_wp2_with fail;refine(qL h3.t h3.wf t.1).mono ?_;rintro e w4 ⟨rfl,sv4,h4,t4⟩;go_wp2;go_end0;rw[e1.out];exact⟨rfl,sv4,h4,t3.trans t4⟩
      . have e1:Hid (X=(zP t.1 (zQ 62 s)).2):=zh (by rw[e0.out,if_neg (by decide),if_neg hm]);rw[Bool.not_eq_true]at hm;rw[hm]at v1;go_wp2_with fail;refine(j8 h3.t 62).mono ?_;rintro e w4 ⟨rfl,h4,t4⟩;have g4:=jK h3.wf (e:=62) (by decide);obtain⟨v0,_⟩:=hc51.out _ _ _ t4;go_wp2_with fail;refine(qL h4 g4.wf t.1).mono ?_;rintro e w5 ⟨rfl,sv5,h5,t5⟩;go_wp2;go_end0;rw[e1.out];exact⟨rfl,sv5,h5,(t3.trans t4).trans t5⟩
 . have e0:=rvarg_none hlt2 (E:=E) (a:=i) (s:=s) (List.getElem?_eq_none (by omega));rw[hX]at e0;subst e0;have i1:(m.globals.length:Int)<=(i:Int):=(by omega)
   clear ha hX hi hgl;go_enter Tryz.func112,Tryz.ntmps112
   go_upto_region 1 with(fail)
   rw[<-hw1];rw[<-hB]at x0 x1 x2 x3 x4 x5 x6 hx1 ho1 ⊢;clear hw1 hB;go_wp2_with fail
   go_quiet (fail)
   have h2:=h1.step (zB nq);have t2:=t1.step (zB nq);go_wp2_with fail;refine(j8 h2.t 61).mono ?_;rintro e w3 ⟨rfl,h3,t3⟩;go_wp2;go_end0;exact⟨rfl,_,h3,t2.trans t3⟩
end
end Go.Proofs.YtacohbllbjgdgaaGreatDoor
