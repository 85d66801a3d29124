/- The typer: blocks, given what stands in them. -/
import Derived.Test.YtacohbllbjgdgaaGreatDoorXj
import Derived.Test.YtacohbllbjgdgaaGreatDoorXk
import Derived.Test.YtacohbllbjgdgaaGreatDoorFa
set_option linter.all false
set_option maxRecDepth 100000
set_option maxHeartbeats 4000000
namespace Go.Proofs.YtacohbllbjgdgaaGreatDoor
open Go.RowKit
def szI:Il->Nat
 |.nil=>0
 |.cons _ _ _ _ _ body els rest=>1+szI body+szI els+szI rest
def Rf (s:Ts):Prop:=∀f∈s.fs,f.goes.length<=1/\f.ends.length<=1
theorem Rf.kf{s t:Ts}(h:Rf s)(k:Kf s t):Rf t:=by
 obtain⟨f,f',r,e1,e2,h1,h2,_⟩:=k;intro g hg;rw[e2]at hg
 rcases List.mem_cons.1 hg with rfl |hg
 . rw[h1,h2];exact h f (by rw[e1];exact List.mem_cons_self)
 . exact h g (by rw[e1];exact List.mem_cons_of_mem _ hg)
theorem vF{B:Ts->Except Int Ts}{C:Rs->Rs}(hB:BOk B C){goes ends:List Int}(hg:∀t∈goes,tyo t)(he:∀t∈ends,tyo t){s u:Ts}(hw:Wf s)(h:qW B goes ends s=.ok u):u.st.length=s.st.length/\Wf u/\Kf s u:=by
 have hsm:=block_sm hw hB hg he;rw[h]at hsm;refine⟨?_,hsm.1,hsm.2.1⟩
 have hin:Wf ⟨s.st,⟨goes,ends,s.st.length,false⟩::s.fs⟩:=⟨⟨_,_,rfl,Nat.le_refl _⟩,hw.st,λf hf=>by
  rcases List.mem_cons.1 hf with rfl |hf
  . exact⟨hg,he⟩
  . exact hw.ty f hf⟩
 have h1:=hB _ hin;unfold qW at h;cases hb:B ⟨s.st,⟨goes,ends,s.st.length,false⟩::s.fs⟩with
 |error n=>rw[hb]at h;cases h
 |ok s1=>
   rw[hb]at h h1;obtain⟨w1,k1,e1⟩:=h1;obtain⟨f,f',r,x1,x2,x3,x4,x5⟩:=k1;cases x1;change (match s1.fs with | []=>_ |f::r=>_)=_ at h;rw[x2]at h
   dsimp only at h
   cases hq:qZ f'.ends s1 with
   |error n=>rw[hq]at h;cases h
   |ok s2=>
     rw[hq]at h;change (if s2.st.length=f'.h then _ else _)=_ at h
     by_cases hl:s2.st.length=f'.h
     . rw[if_pos hl]at h;cases h;exact hl.trans x5
     . rw[if_neg hl]at h;cases h
theorem resV_len(a:Int):(zL a).length<=1:=by unfold zL;split<;>simp
structure Cx0 (w0:World) (N p c:Nat) (lv:Value) (E:Ev) (w:World) (sv fv:Value) (s:Ts):Prop where
 t:TyP N p (.pointer (some ⟨c,0,none⟩)) lv w sv fv s
 st:∀t∈s.st,ok01 t
 ty:∀f∈s.fs,(∀t∈f.goes,tyo t)/\(∀t∈f.ends,tyo t)
 b:Below w0.heap.size w0 w
 p0:w0.heap.size=p
 e0:EnvAt w0 c lv E
 ok:EvOk E
theorem Cx.c0{w0:World}{N p c:Nat}{lv:Value}{E:Ev}{w:World}{sv fv:Value}{s:Ts}(h:Cx w0 N p c lv E w sv fv s):Cx0 w0 N p c lv E w sv fv s:=⟨h.t,h.wf.st,h.wf.ty,h.b,h.p0,h.e0,h.ok⟩
theorem Cx0.step{w0:World}{N p c:Nat}{lv:Value}{E:Ev}{w w':World}{sv fv:Value}{s:Ts}(h:Cx0 w0 N p c lv E w sv fv s)(b:Below w.heap.size w w'):Cx0 w0 N p c lv E w' sv fv s:=⟨h.t.step b,h.st,h.ty,h.b.trans (b.mono h.b.size),h.p0,h.e0,h.ok⟩
theorem drew_step0{w0:World}{N p c:Nat}{lv:Value}{E:Ev}{w:World}{sv fv:Value}{s:Ts}(h:Cx0 w0 N p c lv E w sv fv s):Cx0 w0 N p c lv E w.drew sv fv s/\Tw p sv fv sv fv w w.drew:=⟨h.step (zB (w:=w) 1),.of_below (zB (w:=w) 1)⟩
def BlkC (l:Il):Prop:=∀(w0:World) (N p c:Nat) (lv:Value) (E:Ev) (w:World) (sv fv:Value) (s:Ts),Cx0 w0 N p c lv E w sv fv s->EvR E->Rf s->zZ l=true->
 ∀(goes ends:List Int) (ga:Option Addr) (gc:Nat) (ea:Option Addr) (ec:Nat),LiB w p sv fv ga goes->LiB w p sv fv ea ends->(∀t∈goes,tyo t)->(∀t∈ends,tyo t)->goes.length<=1->ends.length<=1->
 ∀(ao:Option Addr) (k:Nat),l.len<=9223372036854775807->IlIn w0 ao 0 l->s.st.length+szI l<=1099511627775->s.fs.length+szI l<=1099511627775->
 Calls Tryz.prog 54 #[.pointer (some ⟨p,0,none⟩),.slice ga goes.length gc,.slice ea ends.length ec,.slice ao l.len k] w (endF N p (.pointer (some ⟨c,0,none⟩)) lv w sv fv (qW (tyL E l) goes ends s))
section
variable {w0:World} {N p c:Nat} {lv:Value} {E:Ev} {w:World} {sv fv:Value} {s:Ts}
theorem blk_ok{l:Il}(hl:BlkC l)(h:Cx w0 N p c lv E w sv fv s)(hR:EvR E)(hRf:Rf s)(hf:zZ l=true){goes ends:List Int}{ga:Option Addr}{gc:Nat}{ea:Option Addr}{ec:Nat}(l1:LiB w p sv fv ga goes)(l2:LiB w p sv fv ea ends)(t1:∀t∈goes,tyo t)(t2:∀t∈ends,tyo t)(n1:goes.length<=1)(n2:ends.length<=1){ao:Option Addr}{k:Nat}(hlen:l.len<=9223372036854775807)(hi:IlIn w0 ao 0 l)(b1:s.st.length+szI l<=1099511627775)(b2:s.fs.length+szI l<=1099511627775){u:Ts}(hq:qW (tyL E l) goes ends s=.ok u):Calls Tryz.prog 54 #[.pointer (some ⟨p,0,none⟩),.slice ga goes.length gc,.slice ea ends.length ec,.slice ao l.len k] w λe w'=>e=.returned (.tuple #[])/\∃sv' fv',TyP N p (.pointer (some ⟨c,0,none⟩)) lv w' sv' fv' u/\Tw p sv fv sv' fv' w w':=by
 have:=hl w0 N p c lv E w sv fv s h.c0 hR hRf hf goes ends ga gc ea ec l1 l2 t1 t2 n1 n2 ao k hlen hi b1 b2;rw[hq]at this;exact this
theorem blk_er{l:Il}(hl:BlkC l)(h:Cx w0 N p c lv E w sv fv s)(hR:EvR E)(hRf:Rf s)(hf:zZ l=true){goes ends:List Int}{ga:Option Addr}{gc:Nat}{ea:Option Addr}{ec:Nat}(l1:LiB w p sv fv ga goes)(l2:LiB w p sv fv ea ends)(t1:∀t∈goes,tyo t)(t2:∀t∈ends,tyo t)(n1:goes.length<=1)(n2:ends.length<=1){ao:Option Addr}{k:Nat}(hlen:l.len<=9223372036854775807)(hi:IlIn w0 ao 0 l)(b1:s.st.length+szI l<=1099511627775)(b2:s.fs.length+szI l<=1099511627775){m:Int}(hq:qW (tyL E l) goes ends s=.error m):Calls Tryz.prog 54 #[.pointer (some ⟨p,0,none⟩),.slice ga goes.length gc,.slice ea ends.length ec,.slice ao l.len k] w λe w'=>e=.panicked (jS m)/\∃sv' fv',Tw p sv fv sv' fv' w w':=by
 have:=hl w0 N p c lv E w sv fv s h.c0 hR hRf hf goes ends ga gc ea ec l1 l2 t1 t2 n1 n2 ao k hlen hi b1 b2;rw[hq]at this;exact this
theorem blocks_23(h:Cx w0 N p c lv E w sv fv s)(hR:EvR E)(hRf:Rf s){op:Int}(hop:op=2\/op=3)(a y n:Int)(ha:a=0\/a=126\/a=127){body:Il}(hB:BlkC body)(hf:zZ body=true){ao:Option Addr}{k:Nat}(v4 v6:Value)(hlen:body.len<=9223372036854775807)(hi:IlIn w0 ao 0 body)(b1:s.st.length+szI body<=1099511627775)(b2:s.fs.length+szI body<=1099511627775):Calls Tryz.prog 96 #[.pointer (some ⟨p,0,none⟩),zO op a y n v4 (.slice ao body.len k) v6] w (endF N p (.pointer (some ⟨c,0,none⟩)) lv w sv fv ((qW (tyL E body) (if op=3 then[]else zL a) (zL a) s).bind λs=>.ok (zN (zL a) s))):=by
 have hty:=res_ok ha;have hrl:=resV_len a;obtain⟨w1,hw1,h1,hx1,ho1,t1⟩:=zS h op a y n v4 (.slice ao body.len k) v6;unfold zO;obtain⟨B,hB0⟩:∃B,B=w.heap.size:=⟨_,rfl⟩
 obtain⟨x0,x1,x2,x3,x4,x5,x6⟩:=hx1.c
 have go:∀(op':Int) (X:Except Int Ts) (goes:List Int) (gb:Bool),op=op'->(op'=2/\goes=zL a\/op'=3/\goes=[])->X=((qW (tyL E body) goes (zL a) s).bind λs=>.ok (zN (zL a) s))->
  Calls Tryz.prog 96 #[.pointer (some ⟨p,0,none⟩),zO op a y n v4 (.slice ao body.len k) v6] w (endF N p (.pointer (some ⟨c,0,none⟩)) lv w sv fv X):=by
  intro op' X goes gb e1 e2 e0;unfold zO;subst e1;replace e0:=zh e0
  have hgt:∀t∈goes,tyo t:=by
   rcases e2 with⟨_,rfl⟩ |⟨_,rfl⟩
   . exact hty
   . intro t ht;cases ht
  have hgl:goes.length<=1:=by
   rcases e2 with⟨_,rfl⟩ |⟨_,rfl⟩
   . exact hrl
   . simp
  cases hq:qW (tyL E body) goes (zL a) s with
  |error m=>
    have e3:X=.error m:=(by rw[e0.out,hq];rfl)
    replace e3:=zh e3
    rcases e2 with⟨rfl,rfl⟩ |⟨rfl,rfl⟩
    all_goals(
     go_enter Tryz.func96,Tryz.ntmps96
     go_upto_region 1 with(fail)
     rw[<-hw1];rw[<-hB0]at x0 x1 x2 x3 x4 x5 x6 hx1 ho1 ⊢;clear hw1 hB0;go_wp2_with fail;refine(result_v a _).mono ?_;rintro e w2 ⟨⟨ra,rc,rfl,ri,rf⟩,b2'⟩;have d2:Tw p sv fv sv fv w1 w2:=.of_below b2';have h2:=h1.step b2';have hl2:=LiB.fresh h1.t.o ri rf;have hx2:=hx1.tw ho1 d2;clear x0 x1 x2 x3 x4 x5 x6;obtain⟨x0,x1,x2,x3,x4,x5,x6⟩:=hx2.c;go_wp2_with fail
     first
      |refine(blk_er hB h2 hR hRf hf hl2 hl2 hty hty hrl hrl hlen hi b1 b2 hq).mono ?_
      |refine(blk_er (ga:=none) (gc:=0) hB h2 hR hRf hf ⟨⟨by decide,.inl rfl⟩,.inl rfl⟩ hl2 (λt ht=>by cases ht) hty (by decide) hrl hlen hi b1 b2 hq).mono ?_
     rintro e w3 ⟨rfl,sv3,fv3,d3⟩;go_wp2;exact⟨rfl,by rw[e3.out];exact⟨rfl,_,_,(t1.trans d2).trans d3⟩⟩)
  |ok u=>
    have e3:X=.ok (zN (zL a) u):=(by rw[e0.out,hq];rfl)
    replace e3:=zh e3;obtain⟨ul,uw,uk⟩:=vF (tyL_ok h.ok body hf) hgt hty h.wf hq
    rcases e2 with⟨rfl,rfl⟩ |⟨rfl,rfl⟩
    all_goals(
     go_enter Tryz.func96,Tryz.ntmps96
     go_upto_region 1 with(fail)
     rw[<-hw1];rw[<-hB0]at x0 x1 x2 x3 x4 x5 x6 hx1 ho1 ⊢;clear hw1 hB0;go_wp2_with fail;refine(result_v a _).mono ?_;rintro e w2 ⟨⟨ra,rc,rfl,ri,rf⟩,b2'⟩;have d2:Tw p sv fv sv fv w1 w2:=.of_below b2';have h2:=h1.step b2';have hl2:=LiB.fresh h1.t.o ri rf;have hx2:=hx1.tw ho1 d2;clear x0 x1 x2 x3 x4 x5 x6;obtain⟨x0,x1,x2,x3,x4,x5,x6⟩:=hx2.c;go_wp2_with fail
     first
      |refine(blk_ok hB h2 hR hRf hf hl2 hl2 hty hty hrl hrl hlen hi b1 b2 hq).mono ?_
      |refine(blk_ok (ga:=none) (gc:=0) hB h2 hR hRf hf ⟨⟨by decide,.inl rfl⟩,.inl rfl⟩ hl2 (λt ht=>by cases ht) hty (by decide) hrl hlen hi b1 b2 hq).mono ?_
     rintro e w3 ⟨rfl,sv3,fv3,h3,d3⟩;have hpu:=push_ty (lc:=rc) h3 (hl2.tw d3).1 hty (by omega);go_wp2_with fail;refine hpu.mono ?_;rintro e w4 ⟨rfl,sv4,h4,d4⟩;go_wp2;go_end0;rw[e3.out];exact⟨rfl,sv4,fv3,h4,((t1.trans d2).trans d3).trans d4⟩)
 rcases hop with rfl |rfl
 . exact go 2 _ _ true rfl (.inl ⟨rfl,rfl⟩) rfl
 . exact go 3 _ _ true rfl (.inr ⟨rfl,rfl⟩) rfl
end
end Go.Proofs.YtacohbllbjgdgaaGreatDoor
namespace Go.Proofs.YtacohbllbjgdgaaGreatDoor
open Go.RowKit
section
variable {w0:World} {N p c:Nat} {lv:Value} {E:Ev} {w:World} {sv fv:Value} {s:Ts}
theorem blocks_4(h:Cx w0 N p c lv E w sv fv s)(hR:EvR E)(hRf:Rf s)(a y n:Int)(ha:a=0\/a=126\/a=127){body els:Il}(hB:BlkC body)(hC:BlkC els)(hf:zZ body=true)(hfe:zZ els=true){ao:Option Addr}{k:Nat}{bo:Option Addr}{k2:Nat}(v4:Value)(hlen:body.len<=9223372036854775807)(hi:IlIn w0 ao 0 body)(hlen2:els.len<=9223372036854775807)(hi2:IlIn w0 bo 0 els)(b1:s.st.length+szI body<=1099511627775)(b2:s.fs.length+szI body<=1099511627775)(c1:s.st.length+szI els<=1099511627775)(c2:s.fs.length+szI els<=1099511627775):Calls Tryz.prog 96 #[.pointer (some ⟨p,0,none⟩),zO 4 a y n v4 (.slice ao body.len k) (.slice bo els.len k2)] w (endF N p (.pointer (some ⟨c,0,none⟩)) lv w sv fv (yE 4 a els.len (tyL E body) (tyL E els) s)):=by
 have hty:=res_ok ha;have hrl:=resV_len a;have e0:yE 4 a els.len (tyL E body) (tyL E els) s=(zK 127 s).bind λq=>if 0<els.len\/a=0 then(qW (tyL E body) (zL a) (zL a) q.2).bind λs=>(if 0<els.len then qW (tyL E els) (zL a) (zL a) s else .ok s).bind λs=>.ok (zN (zL a) s)else .error 60:=rfl
 generalize yE 4 a els.len (tyL E body) (tyL E els) s=X at e0 ⊢;replace e0:=zh e0;obtain⟨w1,hw1,h1,hx1,ho1,t1⟩:=zS h 4 a y n v4 (.slice ao body.len k) (.slice bo els.len k2);unfold zO;obtain⟨B,hB0⟩:∃B,B=w.heap.size:=⟨_,rfl⟩
 obtain⟨x0,x1,x2,x3,x4,x5,x6⟩:=hx1.c;go_enter Tryz.func96,Tryz.ntmps96
 go_upto_region 1 with(fail)
 rw[<-hw1];rw[<-hB0]at x0 x1 x2 x3 x4 x5 x6 hx1 ho1 ⊢;clear hw1 hB0;go_wp2_with fail;refine(result_v a _).mono ?_;rintro e w2 ⟨⟨ra,rc,rfl,ri,rf⟩,b2'⟩;have d2:Tw p sv fv sv fv w1 w2:=.of_below b2';have h2:=h1.step b2';have hl2:=LiB.fresh h1.t.o ri rf;have hx2:=hx1.tw ho1 d2;have ho2:=(ho1.tw d2).1;have t2:=t1.trans d2;clear x0 x1 x2 x3 x4 x5 x6 hx1 ho1 t1 d2 h1 b2' ri rf;obtain⟨x0,x1,x2,x3,x4,x5,x6⟩:=hx2.c;cases hq:zK 127 s with
 |error m=>
   have hc:=qN h2.t h.wf (.inr ⟨.inr rfl,rfl⟩) hq;have e3:X=.error m:=(by rw[e0.out,hq];rfl)
   replace e3:=zh e3;clear hq e0;go_wp2_with fail;refine hc.mono ?_;rintro e w3 ⟨rfl,sv3,fv3,d3⟩;go_wp2;exact⟨rfl,by rw[e3.out];exact⟨rfl,_,_,t2.trans d3⟩⟩
 |ok q=>
   have hc:=qH h2.t h.wf (.inr ⟨.inr rfl,rfl⟩) hq;obtain⟨hwq,hkq,_⟩:=qO h.wf hq;have hql:=zR hq;have hqf:=kf_len hkq;have hRq:=hRf.kf hkq;have e3:X=if 0<els.len\/a=0 then(qW (tyL E body) (zL a) (zL a) q.2).bind λs=>(if 0<els.len then qW (tyL E els) (zL a) (zL a) s else .ok s).bind λs=>.ok (zN (zL a) s)else .error 60:=(by rw[e0.out,hq];rfl)
   clear e0;replace e3:=zh e3;clear hq;go_wp2_with fail;refine hc.mono ?_;rintro e w3 ⟨rfl,sv3,h3',d3⟩;have h3:=h2.go hwq h3' d3;have t3:=t2.trans d3;have hl3:=hl2.tw d3;have hx3:=hx2.tw ho2 d3;have ho3:=(ho2.tw d3).1;clear x0 x1 x2 x3 x4 x5 x6 hx2 ho2 t2 d3 h2 h3' hl2;obtain⟨x0,x1,x2,x3,x4,x5,x6⟩:=hx3.c
   by_cases hn:0<els.len
   . have e4:X=(qW (tyL E body) (zL a) (zL a) q.2).bind λs=>(if 0<els.len then qW (tyL E els) (zL a) (zL a) s else .ok s).bind λs=>.ok (zN (zL a) s):=e3.out.trans (if_pos (.inl hn));clear e3;replace e4:=zh e4;have i1:(0:Int)<(els.len:Int):=(by omega)
     have i2:decide ((0:Int)<(els.len:Int))=true:=decide_eq_true i1;cases hq2:qW (tyL E body) (zL a) (zL a) q.2 with
     |error m=>
       have e5:X=.error m:=(by rw[e4.out,hq2];rfl)
       replace e5:=zh e5;have hc:=blk_er (gc:=rc) (ec:=rc) (k:=k) hB h3 hR hRq hf hl3 hl3 hty hty hrl hrl hlen hi (by omega) (by omega) hq2;clear hq2 e4;go_wp2_with fail;refine(zJ 60 _).mono ?_;rintro e w' ⟨rfl,rfl⟩;go_wp2_with fail;refine hc.mono ?_;rintro e w4 ⟨rfl,sv4,fv4,d4⟩;go_wp2;exact⟨rfl,by rw[e5.out];exact⟨rfl,_,_,t3.trans d4⟩⟩
     |ok u=>
       have hc:=blk_ok (gc:=rc) (ec:=rc) (k:=k) hB h3 hR hRq hf hl3 hl3 hty hty hrl hrl hlen hi (by omega) (by omega) hq2;obtain⟨ul,uw,uk⟩:=vF (tyL_ok h.ok body hf) hty hty hwq hq2;have huf:=kf_len uk;have hRu:=hRq.kf uk;go_wp2_with fail;refine(zJ 60 _).mono ?_;rintro e w' ⟨rfl,rfl⟩;go_wp2_with fail;refine hc.mono ?_;rintro e w4 ⟨rfl,sv4,fv4,h4',d4⟩;have h4:=h3.go uw h4' d4;have t4:=t3.trans d4;have hl4:=hl3.tw d4;have hx4:=hx3.tw ho3 d4;clear x0 x1 x2 x3 x4 x5 x6;obtain⟨x0,x1,x2,x3,x4,x5,x6⟩:=hx4.c;have e5:X=(qW (tyL E els) (zL a) (zL a) u).bind λs=>.ok (zN (zL a) s):=(by rw[e4.out,hq2];show Except.bind (if 0<els.len then _ else _) _=_;rw[if_pos hn])
       replace e5:=zh e5;clear hq2 e4;cases hq3:qW (tyL E els) (zL a) (zL a) u with
       |error m=>
         have e6:X=.error m:=(by rw[e5.out,hq3];rfl)
         replace e6:=zh e6;have hc:=blk_er (gc:=rc) (ec:=rc) (k:=k2) hC h4 hR hRu hfe hl4 hl4 hty hty hrl hrl hlen2 hi2 (by omega) (by omega) hq3;clear hq3 e5;go_wp2_with fail;refine hc.mono ?_;rintro e w5 ⟨rfl,sv5,fv5,d5⟩;go_wp2;exact⟨rfl,by rw[e6.out];exact⟨rfl,_,_,t4.trans d5⟩⟩
       |ok v=>
         have e6:X=.ok (zN (zL a) v):=(by rw[e5.out,hq3];rfl)
         replace e6:=zh e6;have hc:=blk_ok (gc:=rc) (ec:=rc) (k:=k2) hC h4 hR hRu hfe hl4 hl4 hty hty hrl hrl hlen2 hi2 (by omega) (by omega) hq3;obtain⟨vl,vw,vk⟩:=vF (tyL_ok h.ok els hfe) hty hty uw hq3;clear hq3 e5;go_wp2_with fail;refine hc.mono ?_;rintro e w5 ⟨rfl,sv5,fv5,h5,d5⟩;have hpu:=push_ty (lc:=rc) h5 (hl4.tw d5).1 hty (by omega);go_wp2_with fail;refine hpu.mono ?_;rintro e wz ⟨rfl,svz,hz,dz⟩;go_wp2;go_end0;rw[e6.out];exact⟨rfl,svz,fv5,hz,(t4.trans d5).trans dz⟩
   . have hz:els.len=0:=(by omega)
     have i2:decide ((0:Int)<(els.len:Int))=false:=decide_eq_false (by omega)
     by_cases ha0:a=0
     . have e4:X=(qW (tyL E body) (zL a) (zL a) q.2).bind λs=>(if 0<els.len then qW (tyL E els) (zL a) (zL a) s else .ok s).bind λs=>.ok (zN (zL a) s):=e3.out.trans (if_pos (.inr ha0));clear e3;replace e4:=zh e4;have i3:(a==0)=true:=(by simp[ha0])
       replace ha0:=zh ha0;clear ha;rw[hz]at x6 i2;cases hq2:qW (tyL E body) (zL a) (zL a) q.2 with
       |error m=>
         have e5:X=.error m:=(by rw[e4.out,hq2];rfl)
         replace e5:=zh e5;have hc:=blk_er (gc:=rc) (ec:=rc) (k:=k) hB h3 hR hRq hf hl3 hl3 hty hty hrl hrl hlen hi (by omega) (by omega) hq2;clear hq2 e4;go_wp2_with fail;refine(zJ 60 _).mono ?_;rintro e w' ⟨rfl,rfl⟩;go_wp2_with fail;refine hc.mono ?_;rintro e w4 ⟨rfl,sv4,fv4,d4⟩;go_wp2;exact⟨rfl,by rw[e5.out];exact⟨rfl,_,_,t3.trans d4⟩⟩
       |ok u=>
         have hc:=blk_ok (gc:=rc) (ec:=rc) (k:=k) hB h3 hR hRq hf hl3 hl3 hty hty hrl hrl hlen hi (by omega) (by omega) hq2;obtain⟨ul,uw,uk⟩:=vF (tyL_ok h.ok body hf) hty hty hwq hq2;have huf:=kf_len uk;have hRu:=hRq.kf uk;go_wp2_with fail;refine(zJ 60 _).mono ?_;rintro e w' ⟨rfl,rfl⟩;go_wp2_with fail;refine hc.mono ?_;rintro e w4 ⟨rfl,sv4,fv4,h4',d4⟩;have h4:=h3.go uw h4' d4;have t4:=t3.trans d4;have hl4:=hl3.tw d4;have hx4:=hx3.tw ho3 d4;clear x0 x1 x2 x3 x4 x5 x6;obtain⟨x0,x1,x2,x3,x4,x5,x6⟩:=hx4.c;rw[hz]at x6;have e6:X=.ok (zN (zL a) u):=(by rw[e4.out,hq2];show Except.bind (if 0<els.len then _ else _) _=_;rw[if_neg hn];rfl)
         replace e6:=zh e6;clear hq2 e4;have hpu:=push_ty (lc:=rc) h4' hl4.1 hty (by omega);go_wp2_with fail;refine hpu.mono ?_;rintro e wz ⟨rfl,svz,hz,dz⟩;go_wp2;go_end0;rw[e6.out];exact⟨rfl,svz,fv4,hz,t4.trans dz⟩
     . have e4:X=.error 60:=e3.out.trans (if_neg (by omega));clear e3;replace e4:=zh e4;have i3:(a==0)=false:=(by simp[ha0])
       clear ha ha0;rw[hz]at x6 i2;go_wp2_with fail;refine(qG 60 _).mono ?_;rintro e w' ⟨rfl,rfl⟩;go_wp2;exact⟨rfl,by rw[e4.out];exact⟨rfl,_,_,t3⟩⟩
end
end Go.Proofs.YtacohbllbjgdgaaGreatDoor
namespace Go.Proofs.YtacohbllbjgdgaaGreatDoor
open Go.RowKit
section
variable {w0:World} {N p c:Nat} {lv:Value} {E:Ev} {w:World} {sv fv:Value} {s:Ts}
theorem of_ty{op k n t:Int}(h:OfIs op k n t)(hr:reck op):k≠0/\tyo t/\(sN k).toNat<=2:=by
 have h:=h.is;unfold reck at hr;unfold tyo;refine⟨by omega,by omega,?_⟩;unfold sN
 repeat' split
 all_goals omega
theorem of_no{op k n t:Int}(h:OfIs op k n t)(hr:¬reck op):k=0:=by have h:=h.is;unfold reck at hr;omega
theorem instr_reck(h:Cx w0 N p c lv E w sv fv s)(op a y n:Int)(v4 v5 v6:Value)(hr:reck op)(hb:s.st.length+1<=1099511627776):Calls Tryz.prog 81 #[.pointer (some ⟨p,0,none⟩),zO op a y n v4 v5 v6] w (endF N p (.pointer (some ⟨c,0,none⟩)) lv w sv fv ((qZ (List.replicate (sgN (sgV op).1) (sgV op).2.2) s).bind λs=>.ok (zN [sgR (sgV op).1 (sgV op).2.2] s))):=by
 obtain⟨k,m,t,hof⟩:=of_ex op;obtain⟨e1,e2,e3⟩:=sg_of hof;obtain⟨hk,hty,hm2⟩:=of_ty hof hr
 have hro:tyo (sR k t):=by have:=(sg_reck hr).2.1;rw[e1]at this;rw[<-e3];exact this
 rw[e1]
 show Calls _ _ _ _ (endF N p _ lv w sv fv ((qZ (List.replicate (sgN k) t) s).bind λs=>.ok (zN [sgR k t] s)))
 rw[e2,e3];have hkb:(k !=0)=true:=(by simp[hk])
 have hsig:=λw=>zh (sigl_any op k m t w hof);clear e1 e2 e3 hk hof hr;obtain⟨w1,hw1,h1,hx1,ho1,t1⟩:=zS h op a y n v4 v5 v6;unfold zO;obtain⟨B,hB0⟩:∃B,B=w.heap.size:=⟨_,rfl⟩
 obtain⟨x0,x1,x2,x3,x4,x5,x6⟩:=hx1.c;have hrep:∀u∈List.replicate (sN k).toNat t,tyo u:=λu hu=>by rw[(List.mem_replicate.1 hu).2];exact hty
 have hrl:(List.replicate (sN k).toNat t).length=(sN k).toNat:=List.length_replicate ..;cases hq:qZ (List.replicate (sN k).toNat t) s with
 |error z=>
   show Calls _ _ _ _ (endF N p _ lv w sv fv (.error z))
   go_enter Tryz.func81,Tryz.ntmps81
   go_upto_region 1 with(fail)
   rw[<-hw1];rw[<-hB0]at x0 x1 x2 x3 x4 x5 x6 hx1 ho1 ⊢;clear hw1 hB0;go_wp2_with fail;refine(hsig _).out.mono ?_;rintro e w2 ⟨v,rfl,hv,b2⟩;obtain⟨va,vc,rfl,vi,vf⟩:=hv.ints hm2;have d2:Tw p sv fv sv fv w1 w2:=.of_below b2;have h2:=h1.step b2;have hl2:=LiB.fresh h1.t.o vi vf;have hc:=pops_er (lc:=vc) h2.t h.wf hl2 hrep hq;rw[hrl]at hc;clear hq hv;go_wp2_with fail;refine hc.mono ?_;rintro e w3 ⟨rfl,sv3,fv3,d3⟩;go_wp2;exact⟨rfl,rfl,_,_,(t1.trans d2).trans d3⟩
 |ok u=>
   show Calls _ _ _ _ (endF N p _ lv w sv fv (.ok (zN [sR k t] u)))
   have hul:=xW _ hq;go_enter Tryz.func81,Tryz.ntmps81
   go_upto_region 1 with(fail)
   rw[<-hw1];rw[<-hB0]at x0 x1 x2 x3 x4 x5 x6 hx1 ho1 ⊢;clear hw1 hB0;go_wp2_with fail;refine(hsig _).out.mono ?_;rintro e w2 ⟨v,rfl,hv,b2⟩;obtain⟨va,vc,rfl,vi,vf⟩:=hv.ints hm2;have d2:Tw p sv fv sv fv w1 w2:=.of_below b2;have h2:=h1.step b2;have hl2:=LiB.fresh h1.t.o vi vf;have hc:=pops_ok (lc:=vc) h2.t h.wf hl2 hrep hq;rw[hrl]at hc;clear hq hv;go_wp2_with fail;refine hc.mono ?_;rintro e w3 ⟨rfl,sv3,h3,d3⟩;have hpu:=vS h3 (t:=sR k t) (v:=sR k t) (enc_tyo hro).symm (by omega);go_wp2_with fail;refine hpu.mono ?_;rintro e w4 ⟨rfl,sv4,h4,d4⟩;go_wp2;refine bodyPost_ret (results_none rfl _ _ _) rfl ?_;exact⟨rfl,sv4,fv,h4,((t1.trans d2).trans d3).trans d4⟩
theorem instr_any(h:Cx w0 N p c lv E w sv fv s)(hR:EvR E)(hRf:Rf s){op a y n:Int}{ls:List Int}{body els:Il}(hf1:zC op a y n ls body.len els.len=true)(hB:BlkC body)(hC:BlkC els)(hf:zZ body=true)(hfe:zZ els=true){la:Option Addr}{lc:Nat}{ao:Option Addr}{k:Nat}{bo:Option Addr}{k2:Nat}(hls:IntsIn w0 la ls)(hlen:body.len<=9223372036854775807)(hi:IlIn w0 ao 0 body)(hlen2:els.len<=9223372036854775807)(hi2:IlIn w0 bo 0 els)(b1:s.st.length+(1+szI body+szI els)<=1099511627775)(b2:s.fs.length+(szI body+szI els)<=1099511627775):Calls Tryz.prog 81 #[.pointer (some ⟨p,0,none⟩),zO op a y n (.slice la ls.length lc) (.slice ao body.len k) (.slice bo els.len k2)] w (endF N p (.pointer (some ⟨c,0,none⟩)) lv w sv fv (vV E op a ls els.len (tyL E body) (tyL E els) s)):=by
 have hb:s.st.length+1<=1099511627776:=(by omega)
 by_cases hr:reck op
 . have e:vV E op a ls els.len (tyL E body) (tyL E els) s=(qZ (List.replicate (sgN (sgV op).1) (sgV op).2.2) s).bind λs=>.ok (zN [sgR (sgV op).1 (sgV op).2.2] s):=by unfold vV;rw[if_pos (sg_reck hr).1]
   rw[e];exact instr_reck h op a y n _ _ _ hr hb
 . obtain⟨kk,m,t,hof⟩:=of_ex op;have hk0:=of_no hof hr;subst hk0;obtain⟨g0,g1,g2,g3,g4⟩:=plainfacts hf1;obtain⟨i1,i2,i3,i4,i5,i6,i7,i8,i9⟩:=fv_inv op
   have e0:vV E op a ls els.len (tyL E body) (tyL E els) s=if zG op=2\/zG op=3 then yE op a els.len (tyL E body) (tyL E els) s else if zG op=4\/zG op=5 then xE op a ls s else if zG op=6 then jJ E op a s else if zG op=7 then yP E a s else if zG op=8 then zF E op a s else if zG op=9 then .ok (zN [if op=65 then 127 else 126] s)else xZ E op s:=by unfold vV;rw[sg_not hr,if_neg (λq=>q rfl)]
   generalize vV E op a ls els.len (tyL E body) (tyL E els) s=X at e0 ⊢;replace e0:=zh e0;have hsig:=λw=>zh (sigl_any op 0 m t w hof);have hfm:=λw=>zh (form_any op w);clear hof hf1;obtain⟨w1,hw1,h1,hx1,ho1,t1⟩:=zS h op a y n (.slice la ls.length lc) (.slice ao body.len k) (.slice bo els.len k2);unfold zO;obtain⟨B,hB0⟩:∃B,B=w.heap.size:=⟨_,rfl⟩
   obtain⟨x0,x1,x2,x3,x4,x5,x6⟩:=hx1.c;have hk00:((0:Int) !=0)=false:=rfl
   generalize hfv:zG op=F at*
   replace hfv:=zh hfv;replace hr:=zh hr;replace i1:=zh i1;replace i2:=zh i2;replace i3:=zh i3;replace i4:=zh i4;replace i5:=zh i5;replace i6:=zh i6;replace i7:=zh i7;replace i8:=zh i8;replace i9:=zh i9;replace g0:=zh g0;replace g1:=zh g1;replace g2:=zh g2;replace g3:=zh g3;replace g4:=zh g4;go_enter Tryz.func81,Tryz.ntmps81
   go_upto_region 1 with(fail)
   rw[<-hw1];rw[<-hB0]at x0 x1 x2 x3 x4 x5 x6 hx1 ho1 ⊢;clear hw1 hB0;go_wp2_with fail;refine(hsig _).out.mono ?_;rintro e w2 ⟨v,rfl,hv,b2'⟩;have d2:Tw p sv fv sv fv w1 w2:=.of_below b2';have h2:=h1.step b2';have hx2:=hx1.tw ho1 d2;have ho2:=(ho1.tw d2).1;have t2:=t1.trans d2;clear x0 x1 x2 x3 x4 x5 x6 hx1 ho1 t1 d2 h1 b2' hsig hv;obtain⟨x0,x1,x2,x3,x4,x5,x6⟩:=hx2.c;go_wp2_with fail;refine(hfm _).out.mono ?_;rintro e w3 ⟨rfl,b3'⟩;have d3:Tw p sv fv sv fv w2 w3:=.of_below b3';have h3:=h2.step b3';have hx3:=hx2.tw ho2 d3;have ho3:=(ho2.tw d3).1;have t3:=t2.trans d3;clear x0 x1 x2 x3 x4 x5 x6 hx2 ho2 t2 d3 h2 b3' hfm;obtain⟨x0,x1,x2,x3,x4,x5,x6⟩:=hx3.c;have hF9:=g0.out
   rcases hF9 with rfl |rfl |rfl |rfl |rfl |rfl |rfl |rfl |rfl
   . have e4:Hid (X=xZ E op s):=zh (e0.out.trans (by simp));have hc:=plain_any h3 op a y n (.slice la ls.length lc) (.slice ao body.len k) (.slice bo els.len k2) hb;cases hq:xZ E op s with
     |error m=>rw[hq]at hc;have e5:=zh (e4.out.trans hq);clear hq e4;go_wp2_with fail;refine hc.mono ?_;rintro e w4 ⟨rfl,sv4,fv4,d4⟩;go_wp2;exact⟨rfl,by rw[e5.out];exact⟨rfl,_,_,t3.trans d4⟩⟩
     |ok u=>rw[hq]at hc;have e5:=zh (e4.out.trans hq);clear hq e4;go_wp2_with fail;refine hc.mono ?_;rintro e w4 ⟨rfl,sv4,h4,d4⟩;go_wp2;go_end0;rw[e5.out];exact⟨rfl,sv4,fv,h4,t3.trans d4⟩
   . have hop:=i2.out rfl
     have e4:Hid (X=(qW (tyL E body) (if op=3 then[]else zL a) (zL a) s).bind λs=>.ok (zN (zL a) s)):=zh (e0.out.trans (by
      rw[if_pos (.inl rfl)]
      rcases hop with rfl |rfl<;>rfl))
     have hc:=blocks_23 h3 hR hRf hop a y n (g1.out (.inl rfl)) hB hf (k:=k) (.slice la ls.length lc) (.slice bo els.len k2) hlen hi (by omega) (by omega);replace hop:=zh hop;cases hq:(qW (tyL E body) (if op=3 then[]else zL a) (zL a) s).bind λs=>.ok (zN (zL a) s)with
     |error m=>rw[hq]at hc;have e5:=zh (e4.out.trans hq);clear hq e4;go_wp2_with fail;refine hc.mono ?_;rintro e w4 ⟨rfl,sv4,fv4,d4⟩;go_wp2;exact⟨rfl,by rw[e5.out];exact⟨rfl,_,_,t3.trans d4⟩⟩
     |ok u=>rw[hq]at hc;have e5:=zh (e4.out.trans hq);clear hq e4;go_wp2_with fail;refine hc.mono ?_;rintro e w4 ⟨rfl,sv4,fv4,h4,d4⟩;go_wp2;go_end0;rw[e5.out];exact⟨rfl,sv4,fv4,h4,t3.trans d4⟩
   . obtain rfl:=i3.out rfl;have e4:Hid (X=yE 4 a els.len (tyL E body) (tyL E els) s):=zh (e0.out.trans (if_pos (.inr rfl)));have hc:=blocks_4 h3 hR hRf a y n (g1.out (.inr rfl)) hB hC hf hfe (k:=k) (k2:=k2) (.slice la ls.length lc) hlen hi hlen2 hi2 (by omega) (by omega) (by omega) (by omega);cases hq:yE 4 a els.len (tyL E body) (tyL E els) s with
     |error m=>rw[hq]at hc;have e5:=zh (e4.out.trans hq);clear hq e4;go_wp2_with fail;refine hc.mono ?_;rintro e w4 ⟨rfl,sv4,fv4,d4⟩;go_wp2;exact⟨rfl,by rw[e5.out];exact⟨rfl,_,_,t3.trans d4⟩⟩
     |ok u=>rw[hq]at hc;have e5:=zh (e4.out.trans hq);clear hq e4;go_wp2_with fail;refine hc.mono ?_;rintro e w4 ⟨rfl,sv4,fv4,h4,d4⟩;go_wp2;go_end0;rw[e5.out];exact⟨rfl,sv4,fv4,h4,t3.trans d4⟩
   . have hop:op=12\/op=13\/op=14:=(by have:=i4.out rfl;omega)
     have hl0:∀x∈ls,0<=x:=(by rw[g4.out (by decide)];intro x hx;cases hx)
     have e4:Hid (X=xE op a ls s):=zh (e0.out.trans (by simp));have hc:=leaves_any h3 (λf hf=>(hRf f hf).1) hop a y n (g2.out (by simp)) (lc:=lc) (.slice ao body.len k) (.slice bo els.len k2) hls hl0 hb;replace hop:=zh hop;cases hq:xE op a ls s with
     |error m=>rw[hq]at hc;have e5:=zh (e4.out.trans hq);clear hq e4;go_wp2_with fail;refine hc.mono ?_;rintro e w4 ⟨rfl,sv4,fv4,d4⟩;go_wp2;exact⟨rfl,by rw[e5.out];exact⟨rfl,_,_,t3.trans d4⟩⟩
     |ok u=>rw[hq]at hc;have e5:=zh (e4.out.trans hq);clear hq e4;go_wp2_with fail;refine hc.mono ?_;rintro e w4 ⟨rfl,sv4,h4,d4⟩;go_wp2;go_end0;rw[e5.out];exact⟨rfl,sv4,fv,h4,t3.trans d4⟩
   . have hop:op=12\/op=13\/op=14:=(by have:=i5.out rfl;omega)
     have hl0:∀x∈ls,0<=x:=g3.out rfl;have e4:Hid (X=xE op a ls s):=zh (e0.out.trans (by simp));have hc:=leaves_any h3 (λf hf=>(hRf f hf).1) hop a y n (g2.out (by simp)) (lc:=lc) (.slice ao body.len k) (.slice bo els.len k2) hls hl0 hb;replace hop:=zh hop;cases hq:xE op a ls s with
     |error m=>rw[hq]at hc;have e5:=zh (e4.out.trans hq);clear hq e4;go_wp2_with fail;refine hc.mono ?_;rintro e w4 ⟨rfl,sv4,fv4,d4⟩;go_wp2;exact⟨rfl,by rw[e5.out];exact⟨rfl,_,_,t3.trans d4⟩⟩
     |ok u=>rw[hq]at hc;have e5:=zh (e4.out.trans hq);clear hq e4;go_wp2_with fail;refine hc.mono ?_;rintro e w4 ⟨rfl,sv4,h4,d4⟩;go_wp2;go_end0;rw[e5.out];exact⟨rfl,sv4,fv,h4,t3.trans d4⟩
   . have hop:=i6.out rfl;have e4:Hid (X=jJ E op a s):=zh (e0.out.trans (by simp));have hc:=named_any h3 hR op a y n (.slice la ls.length lc) (.slice ao body.len k) (.slice bo els.len k2) hop (g2.out (by simp)) hb;replace hop:=zh hop;cases hq:jJ E op a s with
     |error m=>rw[hq]at hc;have e5:=zh (e4.out.trans hq);clear hq e4;go_wp2_with fail;refine hc.mono ?_;rintro e w4 ⟨rfl,sv4,fv4,d4⟩;go_wp2;exact⟨rfl,by rw[e5.out];exact⟨rfl,_,_,t3.trans d4⟩⟩
     |ok u=>rw[hq]at hc;have e5:=zh (e4.out.trans hq);clear hq e4;go_wp2_with fail;refine hc.mono ?_;rintro e w4 ⟨rfl,sv4,h4,d4⟩;go_wp2;go_end0;rw[e5.out];exact⟨rfl,sv4,fv,h4,t3.trans d4⟩
   . obtain⟨i,rfl⟩:∃i:Nat,a=i:=⟨a.toNat,by have:=g2.out (by simp);omega⟩
     have e4:Hid (X=yP E (i:Int) s):=zh (e0.out.trans (by simp));clear e0;obtain⟨ta,tk,htb⟩:=h3.env.tables;obtain⟨ya,yk,hty0,hrow⟩:=h3.e0.types;have hty:=zA h3.b _ _ hty0;obtain⟨k0,k1,k2',k3,z2,z3'⟩:=h3.t.c
     by_cases ht0:0<E.tables
     . have hHT:=λw=>zh (qB (show(0:Int)<(E.tables:Int) by omega) w)
       by_cases hi0:i<E.types.length
       . obtain⟨t,ht⟩:∃t,E.types[i]? =some t:=⟨_,List.getElem?_eq_getElem hi0⟩
         have hmem:=List.mem_of_getElem? ht;have j1:(i:Int)<(E.types.length:Int):=(by omega)
         have j0:(0:Int)<=(i:Int):=(by omega)
         have hHY:=λw=>zh (qB j1 w)
         have e5:X=(zK 127 s).bind λq=>vW t q.2:=by
          rw[e4.out]
          show(if 0<E.tables then(match E.types[i]? with |some t=>_ |none=>_)else _)=_
          rw[if_pos ht0,ht]
         replace e5:=zh e5;clear ht0 e4;go_wp2_with fail;refine(hHT _).out.mono ?_;rintro e w' ⟨rfl,rfl⟩;go_wp2_with fail;refine wp_region_still_tail 11 (by kernel_rfl) (by kernel_rfl) ?_;simp only[List.take_succ_cons,List.take_zero,List.drop_succ_cons,List.drop_zero]
         repeat still_step
         refine wpStill_nil ?_;change wpList _ _ _ _ _ w3.drew;obtain⟨h4,d4⟩:=zU h3;have t4:=t3.trans d4;have hx4:=hx3.tw ho3 d4;have ho4:=(ho3.tw d4).1;obtain⟨w4,hw4⟩:∃w4,w4=w3.drew:=⟨_,rfl⟩
         rw[<-hw4]at h4 d4 t4 hx4 ho4 ⊢;clear hw4 k0 k1 k2' k3 z2 z3' x0 x1 x2 x3 x4 x5 x6 hty htb;go_wp2_with fail;refine(hHY _).out.mono ?_;rintro e w' ⟨rfl,rfl⟩;cases hq:zK 127 s with
         |error m=>
           have hc:=qN h4.t h.wf (.inr ⟨.inr rfl,rfl⟩) hq;have e6:X=.error m:=(by rw[e5.out,hq];rfl)
           replace e6:=zh e6;clear hq e5;go_wp2_with fail;refine hc.mono ?_;rintro e w5 ⟨rfl,sv5,fv5,d5⟩;go_wp2;exact⟨rfl,by rw[e6.out];exact⟨rfl,_,_,t4.trans d5⟩⟩
         |ok q=>
           have hc:=qH h4.t h.wf (.inr ⟨.inr rfl,rfl⟩) hq;obtain⟨hwq,hkq,_⟩:=qO h.wf hq;have hql:=zR hq;have e6:X=vW t q.2:=(by rw[e5.out,hq];rfl)
           replace e6:=zh e6;clear hq e5;go_wp2_with fail;refine hc.mono ?_;rintro e w5 ⟨rfl,sv5,h5',d5⟩;have h5:=h4.go hwq h5' d5;have t5:=t4.trans d5;have hx5:=hx4.tw ho4 d5;have ho5:=(ho4.tw d5).1;obtain⟨k0,k1,k2',k3,z2,z3'⟩:=h5.t.c;obtain⟨x0,x1,x2,x3,x4,x5,x6⟩:=hx5.c;have hty:=zA h5.b _ _ hty0;obtain⟨b,o,pa,pc,ra,rc,rfl,c1,c2,l1,l2⟩:=type_row h5 hrow ht;go_wp2_with fail;refine wp_region_still_tail 13 (by kernel_rfl) (by kernel_rfl) ?_;simp only[List.take_succ_cons,List.take_zero,List.drop_succ_cons,List.drop_zero]
           repeat still_step
           refine wpStill_nil ?_;change wpList _ _ _ _ _ w5.drew;obtain⟨h6,d6⟩:=zU h5;have t6:=t5.trans d6;have hx6:=hx5.tw ho5 d6;have ho6:=(ho5.tw d6).1;obtain⟨w6,hw6⟩:∃w6,w6=w5.drew:=⟨_,rfl⟩
           rw[<-hw6]at h6 d6 t6 hx6 ho6 ⊢;clear hw6 k0 k1 k2' k3 z2 z3' x0 x1 x2 x3 x4 x5 x6 hty c1 c2;have hc:=calls_any (pc:=pc) (rc:=rc) h6.t hwq (l1.tw d6) (l2.tw d6) (h.ok.types t hmem).1 (h.ok.types t hmem).2 (by have:=hR.types t hmem;omega);cases hq:vW t q.2 with
           |error m=>rw[hq]at hc;have e7:=zh (e6.out.trans hq);clear hq e6;go_wp2_with fail;refine hc.mono ?_;rintro e w7 ⟨rfl,sv7,fv7,d7⟩;go_wp2;exact⟨rfl,by rw[e7.out];exact⟨rfl,_,_,t6.trans d7⟩⟩
           |ok u=>rw[hq]at hc;have e7:=zh (e6.out.trans hq);clear hq e6;go_wp2_with fail;refine hc.mono ?_;rintro e w7 ⟨rfl,sv7,h7,d7⟩;go_wp2;go_end0;rw[e7.out];exact⟨rfl,sv7,fv,h7,t6.trans d7⟩
       . have e5:X=.error 61:=by
          rw[e4.out]
          show(if 0<E.tables then(match E.types[i]? with |some t=>_ |none=>_)else _)=_
          rw[if_pos ht0,List.getElem?_eq_none (by omega)]
         replace e5:=zh e5;have hHN:=λw=>zh (vA (show¬(i:Int)<(E.types.length:Int) by omega) w);clear ht0 e4;go_wp2_with fail;refine(hHT _).out.mono ?_;rintro e w' ⟨rfl,rfl⟩;go_wp2_with fail;refine wp_region_still_tail 11 (by kernel_rfl) (by kernel_rfl) ?_;simp only[List.take_succ_cons,List.take_zero,List.drop_succ_cons,List.drop_zero]
         repeat still_step
         refine wpStill_nil ?_;change wpList _ _ _ _ _ w3.drew;obtain⟨h4,d4⟩:=zU h3;have t4:=t3.trans d4;have hx4:=hx3.tw ho3 d4;have ho4:=(ho3.tw d4).1;obtain⟨w4,hw4⟩:∃w4,w4=w3.drew:=⟨_,rfl⟩
         rw[<-hw4]at h4 d4 t4 hx4 ho4 ⊢;clear hw4 k0 k1 k2' k3 z2 z3' x0 x1 x2 x3 x4 x5 x6 hty htb;go_wp2_with fail;refine(hHN _).out.mono ?_;rintro e w' ⟨rfl,rfl⟩;go_wp2;exact⟨rfl,by rw[e5.out];exact⟨rfl,_,_,t4⟩⟩
     . have e5:X=.error 61:=by
        rw[e4.out]
        show(if 0<E.tables then _ else _)=_
        rw[if_neg ht0]
       replace e5:=zh e5;have hHN:=λw=>zh (vA (show¬(0:Int)<(E.tables:Int) by omega) w);clear ht0 e4;go_wp2_with fail;refine(hHN _).out.mono ?_;rintro e w' ⟨rfl,rfl⟩;go_wp2;exact⟨rfl,by rw[e5.out];exact⟨rfl,_,_,t3⟩⟩
   . have hop:=i8.out rfl;have e4:Hid (X=zF E op a s):=zh (e0.out.trans (by simp));have hc:=memory_any h3 op a y n (.slice la ls.length lc) (.slice ao body.len k) (.slice bo els.len k2) hop hb;replace hop:=zh hop;cases hq:zF E op a s with
     |error m=>rw[hq]at hc;have e5:=zh (e4.out.trans hq);clear hq e4;go_wp2_with fail;refine hc.mono ?_;rintro e w4 ⟨rfl,sv4,fv4,d4⟩;go_wp2;exact⟨rfl,by rw[e5.out];exact⟨rfl,_,_,t3.trans d4⟩⟩
     |ok u=>rw[hq]at hc;have e5:=zh (e4.out.trans hq);clear hq e4;go_wp2_with fail;refine hc.mono ?_;rintro e w4 ⟨rfl,sv4,h4,d4⟩;go_wp2;go_end0;rw[e5.out];exact⟨rfl,sv4,fv,h4,t3.trans d4⟩
   . have hop:=i9.out rfl
     rcases hop with rfl |rfl
     . have e5:Hid (X=.ok (zN [127] s)):=zh (e0.out.trans (by simp));have hpu:=vS h3.t (t:=127) (v:=127) rfl hb;go_wp2_with fail;refine hpu.mono ?_;rintro e w4 ⟨rfl,sv4,h4,d4⟩;go_wp2;go_end0;rw[e5.out];exact⟨rfl,sv4,fv,h4,t3.trans d4⟩
     . have e5:Hid (X=.ok (zN [126] s)):=zh (e0.out.trans (by simp));have hpu:=vS h3.t (t:=126) (v:=126) rfl hb;go_wp2_with fail;refine hpu.mono ?_;rintro e w4 ⟨rfl,sv4,h4,d4⟩;go_wp2;go_end0;rw[e5.out];exact⟨rfl,sv4,fv,h4,t3.trans d4⟩
end
end Go.Proofs.YtacohbllbjgdgaaGreatDoor
