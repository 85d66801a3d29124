/- The contracts of begins and of few's closure. -/
import Derived.Test.YtacohbllbjgdgaaGreatDoorMh
import Derived.Test.YtacohbllbjgdgaaGreatDoorVa
import Derived.RangeFuncFrom
import Derived.RangeFuncLeaves
import Derived.RangeFuncCalls
set_option linter.all false
set_option maxRecDepth 100000
set_option maxHeartbeats 2000000
namespace Go.Proofs.YtacohbllbjgdgaaGreatDoor
open Go.RowKit
theorem begins_any(op x y n:Int)(ls:List Int)(body els:Il)(a4:Option Addr)(k4:Nat)(a5:Option Addr)(k5:Nat)(a6:Option Addr)(k6:Nat)(w:World)(h:OneIs w ⟨op,x,y,n,ls,body,els⟩ a4 k4 a5 k5 a6 k6):Calls Tryz.prog 77 #[.agg #[.int .i64 op,.int .i64 x,.int .i64 y,.int .i64 n,.slice a4 ls.length k4,.slice a5 body.len k5,.slice a6 els.len k6]] w λe w'=>e=endE (yM ⟨op,x,y,n,ls,body,els⟩) 30/\Below w.heap.size w w':=by
 have hal:=λo=>(Below.refl w.heap.size w).alloc (Nat.le_refl _) o;have hal2:∀o1 o2,Below w.heap.size w ((w.alloc o1).alloc o2):=λo1 o2=>(hal o1).alloc (by simp) o2;obtain⟨I,hI⟩:∃I,One.il ⟨op,x,y,n,ls,body,els⟩=I:=⟨_,rfl⟩
 have hlen:I.len=1:=(by rw[<-hI];rfl)
 have hfor:=λ(wq:World) hq=>zh (formed_any I (some ⟨w.heap.size+1,0,none⟩) 1 wq (by omega) hq)
 have hnew:Hid (IlIn ((w.alloc (.cells #[.int .i64 op,.int .i64 x,.int .i64 y,.int .i64 n,.slice a4 ls.length k4,.slice a5 body.len k5,.slice a6 els.len k6] 49)).alloc (.cells #[.int .i64 op,.int .i64 x,.int .i64 y,.int .i64 n,.slice a4 ls.length k4,.slice a5 body.len k5,.slice a6 els.len k6] 49)) (some ⟨w.heap.size+1,0,none⟩) 0 I):=zh (by
  have:=(h.keep (zA (hal (.cells #[.int .i64 op,.int .i64 x,.int .i64 y,.int .i64 n,.slice a4 ls.length k4,.slice a5 body.len k5,.slice a6 els.len k6] 49)))).new;rw[hI]at this;simpa[oneV]using this)
 rw[hlen]at hfor;clear h;have HY:Hid ((op==65||(op==66||op==35))=true->yM ⟨op,x,y,n,ls,body,els⟩=zZ I):=zh (λh=>by unfold yM;rw[h,hI];rfl);have HN:Hid ((op==65||(op==66||op==35))=false->yM ⟨op,x,y,n,ls,body,els⟩=false):=zh (λh=>by unfold yM;rw[h];rfl);clear hI hlen
 by_cases h1:op=65
 . subst h1;rw[HY.out rfl];clear HY HN
   generalize zZ I=F at*
   go_enter Tryz.func77,Tryz.ntmps77;go_wp2_with fail;refine(qF 30 _).mono ?_;rintro e w' ⟨rfl,rfl⟩;go_wp2_with fail;refine(hfor _ hnew.out).out.mono ?_;rintro e w2 ⟨rfl,b2⟩;have hb:=zh ((hal2 _ _).trans (b2.mono (by simp;omega)));clear b2;cases F
   . rw[qC];go_wp2;exact⟨rfl,rfl,hb.out⟩
   . rw[zV];go_wp2;go_end0;exact⟨rfl,hb.out⟩
 by_cases h2:op=66
 . subst h2;rw[HY.out rfl];clear HY HN
   generalize zZ I=F at*
   go_enter Tryz.func77,Tryz.ntmps77;go_wp2_with fail;refine(qF 30 _).mono ?_;rintro e w' ⟨rfl,rfl⟩;go_wp2_with fail;refine(hfor _ hnew.out).out.mono ?_;rintro e w2 ⟨rfl,b2⟩;have hb:=zh ((hal2 _ _).trans (b2.mono (by simp;omega)));clear b2;cases F
   . rw[qC];go_wp2;exact⟨rfl,rfl,hb.out⟩
   . rw[zV];go_wp2;go_end0;exact⟨rfl,hb.out⟩
 by_cases h3:op=35
 . subst h3;rw[HY.out rfl];clear HY HN
   generalize zZ I=F at*
   go_enter Tryz.func77,Tryz.ntmps77;go_wp2_with fail;refine(qF 30 _).mono ?_;rintro e w' ⟨rfl,rfl⟩;go_wp2_with fail;refine(hfor _ hnew.out).out.mono ?_;rintro e w2 ⟨rfl,b2⟩;have hb:=zh ((hal2 _ _).trans (b2.mono (by simp;omega)));clear b2;cases F
   . rw[qC];go_wp2;exact⟨rfl,rfl,hb.out⟩
   . rw[zV];go_wp2;go_end0;exact⟨rfl,hb.out⟩
 have q1:(op==65)=false:=(by simp[h1])
 have q2:(op==66)=false:=(by simp[h2])
 have q3:(op==35)=false:=(by simp[h3])
 rw[HN.out (by rw[q1,q2,q3];rfl)];clear HY HN hfor hnew;go_enter Tryz.func77,Tryz.ntmps77;go_wp2_with fail;refine(jV 30 _).mono ?_;rintro e w' ⟨rfl,rfl⟩;go_wp2;exact⟨rfl,rfl,hal _⟩
theorem cnt1_any(n:Int)(w:World):Calls Tryz.prog 68 #[.int .i64 n] w λe w'=>e=endE (decide (n<=4096)) 3/\w=w':=by
 by_cases h:n<=4096
 . have hd:decide (n<=4096)=true:=(by simp[h])
   rw[hd,zV];go_enter Tryz.func68,Tryz.ntmps68;go_wp2_with fail;refine(qF 3 _).mono ?_;rintro e w' ⟨rfl,rfl⟩;go_wp2;go_end0;exact⟨rfl,rfl⟩
 . have hd:decide (n<=4096)=false:=(by simp[h])
   rw[hd,qC];go_enter Tryz.func68,Tryz.ntmps68;go_wp2_with fail;refine(jV 3 _).mono ?_;rintro e w' ⟨rfl,rfl⟩;go_wp2;exact⟨rfl,rfl,rfl⟩
theorem cnt1_yes(n:Int)(w:World)(h:n<=4096):Calls Tryz.prog 68 #[.int .i64 n] w λe w'=>e=.returned (.tuple #[])/\w=w':=by have:=cnt1_any n w;rw[decide_eq_true h,zV]at this;exact this
theorem cnt1_no(n:Int)(w:World)(h:¬n<=4096):Calls Tryz.prog 68 #[.int .i64 n] w λe w'=>e=.panicked (fault 3)/\w=w':=by have:=cnt1_any n w;rw[decide_eq_false h,qC]at this;exact this
def TabU (w:World):Prop:=Lib.Utf8Tabs (Tryz.laysValid_ren.g 3) (Tryz.laysValid_ren.g 4) w
theorem TabU.below{w w':World}(h:TabU w)(hb:Below w.heap.size w w'):TabU w':=Utf8Tabs_below h hb
theorem valid_any(s:ByteArray)(w:World)(hs:s.size<=9223372036854775807)(hT:TabU w):Calls Tryz.prog 91 #[.string s] w λe w'=>e=.returned (.bool (Lib.validD s.data.toList))/\Below w.heap.size w w':=Any.utf8_ValidString Tryz.laysValid s w hs hT
def jD (s:ByteArray):Bool:=decide ((s.size:Int)<=64)&&Lib.validD s.data.toList
theorem name_any(s:ByteArray)(w:World)(hs:s.size<=9223372036854775807)(hT:TabU w):Calls Tryz.prog 73 #[.string s] w λe w'=>e=.returned (.bool (jD s))/\Below w.heap.size w w':=by
 have HV:=λw hT=>zh (valid_any s w hs hT);have HT:=zh hT;clear hT;unfold jD
 generalize Lib.validD s.data.toList=V at*
 by_cases h:(s.size:Int)<=64
 . have hd:decide ((s.size:Int)<=64)=true:=decide_eq_true h;rw[hd,Bool.true_and];go_enter Tryz.func73,Tryz.ntmps73;go_wp2_with fail;refine(HV _ HT.out).out.mono ?_;rintro e w2 ⟨rfl,b2⟩;go_wp2;go_ret;exact⟨rfl,b2⟩
 . have hd:decide ((s.size:Int)<=64)=false:=decide_eq_false h;rw[hd,Bool.false_and];go_enter Tryz.func73,Tryz.ntmps73;go_wp2;go_ret;exact⟨rfl,Below.refl _ _⟩
theorem name1_any(s:ByteArray)(w:World)(hs:s.size<=9223372036854775807)(hT:TabU w):Calls Tryz.prog 72 #[.string s] w λe w'=>e=endE (jD s) 30/\Below w.heap.size w w':=by
 have HV:=λw hT=>zh (name_any s w hs hT);have HT:=zh hT;clear hT
 generalize jD s=V at*
 go_enter Tryz.func72,Tryz.ntmps72;go_wp2_with fail;refine(HV _ HT.out).out.mono ?_;rintro e w2 ⟨rfl,b2⟩;have hb:=zh b2;clear b2;cases V
 . go_wp2_with fail;refine(jV 30 _).mono ?_;rintro e w' ⟨rfl,rfl⟩;go_wp2;exact⟨rfl,rfl,hb.out⟩
 . go_wp2_with fail;refine(qF 30 _).mono ?_;rintro e w' ⟨rfl,rfl⟩;go_wp2;go_end0;exact⟨rfl,hb.out⟩
end Go.Proofs.YtacohbllbjgdgaaGreatDoor
namespace Go.Proofs.YtacohbllbjgdgaaGreatDoor
open Go.RowKit
variable {F:Fence} {n:Nat} {P:Program}
def roundPostP (P:Program) (l:Nat) (R:Ending->World->Prop):Exit->Act->World->Prop
 |.panic chain,a,w=>a.defers=[]/\R (.panicked chain) w
 |e,a,w=>roundPost P l R e a w
theorem roundIn_of_wpInP{l:Nat}{f:FuncId}{fn:Func}{tmps:Array Value}{assign body:Code}{w:World}{R:Ending->World->Prop}(hF:F.fn f)(hfn:P.funcs[f]? =some fn)(h:assign.wpIn (F.inRound l) n P (Exit.then (λa₁ w₁=>∃w₂,(Instr.beginRound l).run P w₁=.ok () w₂/\body.wpIn (F.inRound l) n P (roundPostP P l R) a₁ w₂) (λ_ _ _=>False)) {tmps:=tmps,defers:=[]} w):RoundIn F n P l f tmps assign body w R:=by
 refine⟨hF,λc cs hr=> ?_⟩
 let b:Frame:={(default:Frame)with fn:=f,kind:=.normal,roundOf:=some l}
 have hb0:Frame.round l f tmps assign body .normal=b.atR {tmps:=tmps,defers:=[]} [.code assign,.beginRound,.code body]:=by simp[Frame.round,Frame.atR,b]
 have hr':(F.inRound l).room ((c::cs).length+1+n):=hr;have hF':(F.inRound l).fn b.fn:=hF;obtain⟨e,a₁,w₁,hq,harr⟩:=h b [.beginRound,.code body] (c::cs) rfl hF' hr';rw[<-hb0]at harr;cases e with
 |normal=>
   obtain⟨w₂,hbr,hbody⟩:=hq
   have s1:StepsIn (Machine.fenced P (F.inRound l)) P (lone (b.atR a₁ [.beginRound,.code body]) (c::cs) w₁) (lone (b.atR a₁ [.code body]) (c::cs) w₂):=
    .one (fenced_calm (fr:=b.atR a₁ [.beginRound,.code body]) hF' hr' rfl) (stepR_beginRound rfl hbr)
   obtain⟨e₂,a₂,w₃,hq₂,harr₂⟩:=hbody b [] (c::cs) rfl hF' hr';cases e₂ with
   |normal=>obtain⟨v,w₄,hend,hR⟩:=hq₂;exact⟨.returned v,w₄,hR,(StepsIn.trans harr s1).trans (StepsIn.trans harr₂ (.one (fenced_calm (fr:=b.atR a₂ []) hF' hr' rfl) (stepR_round_end rfl rfl hend)))⟩
   |ret=>obtain⟨v,w₄,hend,hR⟩:=hq₂;obtain⟨k₁,hs⟩:=harr₂.2 rfl;exact⟨.returned v,w₄,hR,(StepsIn.trans harr s1).trans (StepsIn.trans hs (.one (fenced_calm (fr:=b.atR a₂ (.code .ret::k₁)) hF' hr' rfl) (stepR_round_ret rfl rfl hend)))⟩
   |exit id=>obtain⟨v,w₄,hend,hR⟩:=hq₂;obtain⟨k₁,hk,hs⟩:=harr₂.2 rfl rfl;exact⟨.returned v,w₄,hR,(StepsIn.trans harr s1).trans (StepsIn.trans hs (.one (fenced_calm (fr:=b.atR a₂ (.code (.exit id)::k₁)) hF' hr' rfl) (stepR_round_exit rfl rfl hk hend)))⟩
   |goto t=>obtain⟨v,w₄,hend,hR⟩:=hq₂;obtain⟨k₁,hk,hs⟩:=harr₂.2 rfl rfl;exact⟨.returned v,w₄,hR,(StepsIn.trans harr s1).trans (StepsIn.trans hs (.one (fenced_calm (fr:=b.atR a₂ (.code (.goto t)::k₁)) hF' hr' rfl) (stepR_round_goto rfl rfl hk hend)))⟩
   |panic chain=>
     obtain⟨hd,hR⟩:=hq₂;obtain⟨todo,hs⟩:=harr₂;have hleave:Frame.leaving P {b.atR a₂ todo with mode:=.panicking chain} w₃ (.panicked chain):=⟨rfl,hd,fn,hfn⟩
     exact⟨.panicked chain,w₃,hR,(StepsIn.trans harr s1).trans (StepsIn.trans hs (.one (fenced_leaving (fr:={b.atR a₂ todo with mode:=.panicking chain}) hF' hr' hleave) (step_leave_panicked hleave)))⟩
   |outgrown=>exact hq₂.elim
 |exit id=>exact hq.elim
 |goto t=>exact hq.elim
 |ret=>exact hq.elim
 |panic chain=>exact hq.elim
 |outgrown=>exact hq.elim
def SeqP (F:Fence) (n:Nat) (P:Program) (g:Nat) (lb:Array Value) (encs:Nat->Array Value) (Kp:World->Prop) (N:Nat):Prop:=
 ∀(l:Nat) (J:Nat->World->Prop) (Jp:List PanicEntry->World->Prop) (W:World),(∀k W1,J k W1->Kp W1)->
  (∀k W1,J k W1->k<N->YieldAt F (n-1) P l (encs k) W1 λe W'=>(e=.returned (.bool true)/\J (k+1) W')\/(∃ch,e=.panicked ch/\Jp ch W'))->
  J 0 W->CallsIn F n P g (#[.func (.yield l) #[] #[]]++lb) W λe W'=>((∃v,e=.returned v)/\J N W')\/(∃ch,e=.panicked ch/\Jp ch W')
def ownPostP (I:Nat->World->Prop) (Ip:List PanicEntry->World->Prop) (k:Nat) (W:World):Exit->Act->World->Prop
 |.normal,_,W'=>KeepsOthers W W'/\I k W'
 |.panic ch,a,W'=>a.defers=[]/\KeepsOthers W W'/\Ip ch W'
 |_,_,_=>False
def wpF (fid:FuncId) (P:Program) (c:Code) (Q:Exit->Act->World->Prop) (a:Act) (w:World):Prop:=
 ∀(b:Frame) (k:List Item) (cs:List Frame),b.roundOf=none->b.fn=fid->
  ∃e a' w',Q e a' w'/\ArrivesIn (Machine.fenced P Fence.wide) P (lone (b.atR a (.code c::k)) cs w) b k cs e a' w'
section
variable {fid:FuncId} {Q:Exit->Act->World->Prop} {a:Act} {w:World}
theorem wpF_seq{x y:Code}(h:x.wpIn Fence.wide n P (Exit.then (wpF fid P y Q) Q) a w):wpF fid P (Code.seq x y) Q a w:=by
 intro b k cs hro hb;have h0:(lone (b.atR a (.code (.seq x y)::k)) cs w).fenced P Fence.wide:=fenced_wide _ _;obtain⟨e,a₁,w₁,hq,harr⟩:=h b (.code y::k) cs hro trivial (room_wide _);cases e with
 |normal=>obtain⟨e₂,a₂,w₂,hq₂,harr₂⟩:=hq b k cs hro hb;exact⟨e₂,a₂,w₂,hq₂,.of_steps (.head h0 stepR_seq harr) harr₂⟩
 |exit id=>exact⟨_,a₁,w₁,hq,.of_steps (.one h0 stepR_seq) (.pass (x:=.code y) rfl (λ_ _=>.inl (by simp)) harr)⟩
 |goto l=>exact⟨_,a₁,w₁,hq,.of_steps (.one h0 stepR_seq) (.pass (x:=.code y) rfl (λ_ _=>.inl (by simp)) harr)⟩
 |ret=>exact⟨_,a₁,w₁,hq,.of_steps (.one h0 stepR_seq) (.pass (x:=.code y) rfl (λ_ _=>.inl (by simp)) harr)⟩
 |panic ch=>exact⟨_,a₁,w₁,hq,.of_steps (.one h0 stepR_seq) (.pass (x:=.code y) rfl (λ_ _=>.inl (by simp)) harr)⟩
 |outgrown=>exact⟨_,a₁,w₁,hq,.of_steps (.one h0 stepR_seq) (.pass (x:=.code y) rfl (λ_ _=>.inl (by simp)) harr)⟩
theorem wpF_block{id:Nat}{c:Code}(h:wpF fid P c (Exit.inBlock id Q) a w):wpF fid P (Code.block id c) Q a w:=by
 intro b k cs hro hb;have h0:(lone (b.atR a (.code (.block id c)::k)) cs w).fenced P Fence.wide:=fenced_wide _ _;obtain⟨e,a₁,w₁,hq,harr⟩:=h b (.inBlock id::k) cs hro hb;cases e with
 |normal=>exact⟨.normal,a₁,w₁,hq,.head h0 stepR_block (StepsIn.trans harr (.one (fenced_wide _ _) stepR_inBlock))⟩
 |exit id'=>
   by_cases hid:id'=id
   . simp only[Exit.inBlock,hid,if_true]at hq;exact⟨.normal,a₁,w₁,hq,.head h0 stepR_block (harr.1 k (by simp[exitTo,hid]))⟩
   . simp only[Exit.inBlock,hid,if_false]at hq;have this:(id==id')=false:=(by simp;exactλh=>hid h.symm)
     have hx:exitTo id' (.inBlock id::k)=exitTo id' k:=(by simp[exitTo,this])
     exact⟨.exit id',a₁,w₁,hq,λk' hk=>.head h0 stepR_block (harr.1 k' (by rw[hx];exact hk)),
      λhr' hk=>let⟨k₁,h1,h2⟩:=harr.2 hr' (by rw[hx];exact hk);⟨k₁,h1,.head h0 stepR_block h2⟩⟩
 |goto l=>
   have hx:gotoIn l (.inBlock id::k)=gotoIn l k:=(by simp[gotoIn])
   exact⟨_,a₁,w₁,hq,λk' hk=>.head h0 stepR_block (harr.1 k' (by rw[hx];exact hk)),
    λhr' hk=>let⟨k₁,h1,h2⟩:=harr.2 hr' (by rw[hx];exact hk);⟨k₁,h1,.head h0 stepR_block h2⟩⟩
 |ret=>exact⟨_,a₁,w₁,hq,.of_steps (.one h0 stepR_block) harr⟩
 |panic ch=>exact⟨_,a₁,w₁,hq,.of_steps (.one h0 stepR_block) harr⟩
 |outgrown=>exact⟨_,a₁,w₁,hq,.of_steps (.one h0 stepR_block) harr⟩
theorem wpF_rangeFunc{g:Operand}{ps:Array Tmp}{assign body:Code}(h:∃(l:Nat) (mark:List Deferred) (w₁:World) (d:Deferred) (w₁':World) (f:FuncId) (args:Array Value) (w₂:World),(Instr.enterLoop fid a.tmps ps assign body none).run P w=.ok (l,mark) w₁/\(resolve a.eval (rangeCall g l) 0).run P w₁=.ok d w₁'/\(invoke d.target d.args).run P w₁'=.ok (.enter f args) w₂/\CallsIn Fence.wide (n-1) P f args w₂ (rangePost Fence.wide n P l Q {a with defers:=mark++a.defers})):wpF fid P (Code.rangeFunc g ps assign body) Q a w:=by
 intro b k cs hro hb;obtain⟨l,mark,w₁,d,w₁',f,args,w₂,he,hres,hinv,hF,hcall⟩:=h;rw[<-hro,<-hb]at he;have h0:(lone (b.atR a (.code (.rangeFunc g ps assign body)::k)) cs w).fenced P Fence.wide:=fenced_wide _ _;have henter:=stepR_rangeFunc (P:=P) (b:=b) (a:=a) (k:=k) (cs:=cs) (w:=w) he hres hinv;obtain⟨e,w₃,fr,hR,hsteps,hfn,hleave⟩:=hcall (b.atR {a with defers:=mark++a.defers} (.inRangeFunc l::k)::cs) (room_wide _);cases e with
 |outgrown=>obtain⟨a₀,w₀,hq⟩:=hR;exact⟨.outgrown,a₀,w₀,hq,.inr (Outgrown.of_steps (.one henter) hsteps)⟩
 |returned v=>
   have hl:(lone fr (b.atR {a with defers:=mark++a.defers} (.inRangeFunc l::k)::cs) w₃).fenced P Fence.wide:=fenced_wide _ _;obtain⟨jump,w₄,hend,hj⟩:=hR
   have sback:StepsIn (Machine.fenced P Fence.wide) P (lone (b.atR a (.code (.rangeFunc g ps assign body)::k)) cs w) (lone (b.atR {a with defers:=mark++a.defers} ((jump.map Item.code).toList++k)) cs w₄):=by refine .head h0 henter (StepsIn.trans hsteps (.head hl ?_ (.one (fenced_wide _ _) (stepR_endRangeFunc hend))));rw[<-finish_atR_inRangeFunc l v];exact step_leave_returned hleave
   cases jump with
   |none=>exact⟨.normal,_,w₄,hj,sback⟩
   |some c=>obtain⟨e',a'',w₅,hq,harr⟩:=hj b k cs hro trivial (room_wide _);exact⟨e',a'',w₅,hq,.of_steps sback harr⟩
 |panicked chain=>have hl:(lone fr (b.atR {a with defers:=mark++a.defers} (.inRangeFunc l::k)::cs) w₃).fenced P Fence.wide:=fenced_wide _ _;refine⟨.panic chain,_,w₃,hR,.inRangeFunc l::k,.head h0 henter (StepsIn.trans hsteps (.one hl ?_))⟩;rw[<-Frame.raise_atR];exact step_leave_panicked hleave
theorem calls_of_wpF{f:FuncId}{fn:Func}{c:Code}{args:Array Value}{R:Ending->World->Prop}(hf:P.funcs[f]? =some fn)(hb:fn.body=some c)(h:wpF f P c (bodyPostM Fence.wide n P fn R) {tmps:=args++Array.replicate (fn.ntmps-args.size) undef,defers:=[]} w):Calls P f args w R:=by
 refine(callsIn_wide (n:=n)).1 ⟨trivial,λcs hr=> ?_⟩
 let b:Frame:={(default:Frame)with fn:=f,kind:=.normal,roundOf:=none}
 have hF:Fence.wide.fn f:=trivial
 have henter:Frame.enter P f args .normal=
  b.atR {tmps:=args++Array.replicate (fn.ntmps-args.size) undef,defers:=[]} [.code c]:=by
  simp[Frame.enter,Frame.atR,hf,hb,b]
 obtain⟨e,a',w',hq,harr⟩:=h b [] cs rfl rfl;rw[<-henter]at harr;cases e with
 |normal=>obtain⟨e',w'',fr',hR,hs,hfn,hl⟩:=leaves_stepsInM a'.defers .returning w' {b.atR a' []with mode:=.returning} cs rfl rfl rfl hf rfl hF hr hq;exact⟨e',w'',fr',hR,ComesIn.of_steps (StepsIn.trans harr (.one (fenced_wide _ _) (stepR_end rfl))) hs,hfn,hl⟩
 |ret=>obtain⟨todo,hs₀⟩:=harr.1 rfl;obtain⟨e',w'',fr',hR,hs,hfn,hl⟩:=leaves_stepsInM a'.defers .returning w' {b.atR a' todo with mode:=.returning} cs rfl rfl rfl hf rfl hF hr hq;exact⟨e',w'',fr',hR,ComesIn.of_steps hs₀ hs,hfn,hl⟩
 |panic chain=>obtain⟨todo,hs₀⟩:=harr;obtain⟨e',w'',fr',hR,hs,hfn,hl⟩:=leaves_stepsInM a'.defers (.panicking chain) w' {b.atR a' todo with mode:=.panicking chain} cs rfl rfl rfl hf rfl hF hr hq;exact⟨e',w'',fr',hR,ComesIn.of_steps hs₀ hs,hfn,hl⟩
 |exit id=>exact hq.elim
 |goto l=>exact hq.elim
 |outgrown=>exact⟨.outgrown,w',b,hq,harr.resolve_left (by simp[b]),rfl,trivial⟩
end
theorem wpF_rangeFunc_P{fn:FuncId}{fnn:Func}(hfnn:P.funcs[fn]? =some fnn){g:Operand}{ps:Array Tmp}{assign body:Code}{Q:Exit->Act->World->Prop}{a:Act}{w:World}{gf:Nat}{lb:Array Value}(hg:a.eval g=.func (.func gf) #[] lb)(eg:∀args w,(callFunc gf args).run P w=.ok (.enter gf args) w){encs:Nat->Array Value}{Kp:World->Prop}{N:Nat}(hseq:SeqP Fence.wide (n-1) P gf lb encs Kp N)(hps:∀x,(encs x).size=ps.size)(I:Nat->World->Prop)(Ip:List PanicEntry->World->Prop)(hI:OwnFrom w.heap.size I)(hIp:OwnFrom w.heap.size Ip)(hK:∀k W,I k W->Kp W)(h0:I 0 w)(a₁:Nat->Act)(hassign:∀(l k:Nat) (W:World) (K:Act->World->Prop),K (a₁ k) W->assign.wpIn (Fence.wide.inRound l) (n-1-1) P (Exit.then K (λ_ _ _=>False)) {tmps:=(ps.zip (encs k)).foldl (λt (p,v)=>t.setIfInBounds p v) a.tmps,defers:=[]} W)(hbody:∀(l k:Nat) (W:World),I k W->k<N->body.wpIn (Fence.wide.inRound l) (n-1-1) P (ownPostP I Ip (k+1) W) (a₁ k) W)(hdone:∀(D:Nat) (W:World),w.heap.size<=D->I N W->W.heap[D]? =some (.deferred (some []))->Q .normal {a with defers:={target:=.collected D,args:= #[]}::a.defers} W)(hpan:∀(D:Nat) (ch:List PanicEntry) (W:World),w.heap.size<=D->Ip ch W->W.heap[D]? =some (.deferred (some []))->Q (.panic ch) {a with defers:={target:=.collected D,args:= #[]}::a.defers} W):wpF fn P (Code.rangeFunc g ps assign body) Q a w:=by
 refine wpF_rangeFunc (n:=n) ?_;obtain⟨rec,hrec⟩:∃rec:LoopState->Option Code->Loop,rec=λst pe=>{state:=st,pending:=pe,fn,tmps:=a.tmps,params:=ps,assign,body,defers:=w.heap.size}:=⟨_,rfl⟩
 obtain⟨W1,hW1⟩:∃W1,(w.alloc (.deferred (some []))).alloc (.loop (rec .ready none))=W1:=⟨_,rfl⟩
 have hL1:W1.heap[w.heap.size+1]? =some (.loop (rec .ready none)):=by rw[<-hW1];have:=World.alloc_heap_new (w.alloc (.deferred (some []))) (.loop (rec .ready none));rwa [World.size_alloc]at this
 have hK1:W1.heap[w.heap.size]? =some (.deferred (some [])):=by rw[<-hW1];exact(Below.heap_alloc _ _ _ (by simp)).trans (World.alloc_heap_new w _)
 have hI1:I 0 W1:=(by rw[<-hW1];exact hI.alloc _ (hI.alloc _ h0))
 refine⟨w.heap.size+1,[{target:=.collected w.heap.size,args:= #[]}],W1,{target:=.fn (.func gf) lb,args:= #[.func (.yield (w.heap.size+1)) #[] #[]]},W1,gf,
  #[.func (.yield (w.heap.size+1)) #[] #[]]++lb,W1,?_,?_,?_,?_⟩
 . rw[<-hW1,hrec];exact run_enterLoop_outer _ _ _ _ _
 . simp only[resolve,hg];simp[go_sem]
 . simp[invoke,go_sem,eg]
 . refine(hseq (w.heap.size+1)
    (λk W=>I k W/\W.heap[w.heap.size+1]? =some (.loop (rec .ready none))/\W.heap[w.heap.size]? =some (.deferred (some [])))
    (λch W=>Ip ch W/\W.heap[w.heap.size]? =some (.deferred (some [])))
    W1 (λk W1 h=>hK k W1 h.1) ?_ ⟨hI1,hL1,hK1⟩).mono ?_
   . rintro k W ⟨hi,hl,hk⟩ hlen;have hlt:w.heap.size+1<W.heap.size:=(Array.getElem?_eq_some_iff.1 hl).1;have hy:=run_yield (P:=P) (args:=encs k) hl (by rw[hrec];exact hps k);rw[hrec]at hy;refine⟨fn,_,assign,body,hy,roundIn_of_wpInP trivial hfnn (hassign _ k W _ ⟨_,run_beginRound hl (by rw[hrec]),?_⟩)⟩;have hl2:(W.putObj (w.heap.size+1) (.loop {rec .ready none with state:=.busy})).heap[w.heap.size+1]? =some (.loop {rec .ready none with state:=.busy}):=World.putObj_heap_same hlt;have hk2:(W.putObj (w.heap.size+1) (.loop {rec .ready none with state:=.busy})).heap[w.heap.size]? =some (.deferred (some [])):=(World.putObj_heap_other (by omega)).trans hk;refine wpIn_mono (hbody _ k _ (hI.putObj _ hi (by omega) hl rfl) hlen) ?_;rintro e a3 W3 hp;cases e with
     |normal=>obtain⟨hk3,hi3⟩:=hp;have hl3:=hk3.same _ _ hl2 rfl;have hr:=run_endRound (P:=P) none hl3;rw[hrec]at hr hl3;refine⟨_,_,hr,.inl ⟨rfl,hI.putObj _ hi3 (by omega) hl3 rfl,?_,(World.putObj_heap_other (by omega)).trans (hk3.same _ _ hk2 rfl)⟩⟩;rw[hrec];exact World.putObj_heap_same (Array.getElem?_eq_some_iff.1 hl3).1
     |panic ch=>obtain⟨hd,hk3,hi3⟩:=hp;exact⟨hd,.inr ⟨ch,rfl,hi3,hk3.same _ _ hk2 rfl⟩⟩
     |ret=>exact hp.elim
     |exit id=>exact hp.elim
     |goto t=>exact hp.elim
     |outgrown=>exact hp.elim
   . rintro e W2 (⟨⟨v,rfl⟩,hi,hl,hk⟩ |⟨ch,rfl,hi,hk⟩)
     . exact⟨none,_,by have:=run_endLoop (P:=P) hl (by rw[hrec];simp);rw[hrec]at this;exact this,hdone _ _ (Nat.le_refl _) (hI.putObj _ hi (by omega) hl rfl) ((World.putObj_heap_other (by omega)).trans hk)⟩
     . exact hpan _ ch _ (Nat.le_refl _) hi hk
end Go.Proofs.YtacohbllbjgdgaaGreatDoor
namespace Go.Proofs.YtacohbllbjgdgaaGreatDoor
open Go.RowKit
theorem IntsIn.drewN{w:World}{a:Option Addr}{l:List Int}(h:IntsIn w a l)(n:Nat):IntsIn (w.drewN n) a l:=h.below (Go.below_drewN (Below.refl _ _) n)
theorem take_eq_step{α:Type}{l l':List α}{i:Nat}{x y:α}(hx:l[i]? =some x)(hy:l'[i]? =some y)(h:l.take i=l'.take i):(x=y->l.take (i+1)=l'.take (i+1))/\(¬x=y->¬l=l'):=by
 constructor
 . intro e;rw[List.take_add_one,List.take_add_one,hx,hy,h,e]
 . intro e e2;subst e2;rw[hx]at hy;exact e (Option.some.inj hy)
theorem keepSame_any(l l':List Int)(a a':Option Addr)(c c':Nat)(w:World)(h:IntsIn w a l)(h':IntsIn w a' l'):Calls Tryz.prog 37 #[.slice a l.length c,.slice a' l'.length c'] w λe w'=>e=.returned (.bool (decide (l=l')))/\∃m,w'=w.drewN m:=by
 obtain⟨N,hN⟩:∃N,l.length=N:=⟨_,rfl⟩
 obtain⟨N',hN'⟩:∃N,l'.length=N:=⟨_,rfl⟩
 have hl:=h.1;have hl':=h'.1;have HI:=zh h;have HI':=zh h';clear h h';rw[hN]at hl ⊢;rw[hN']at hl' ⊢;go_enter Tryz.func37,Tryz.ntmps37
 by_cases hne:N=N'
 . subst hne;go_wp2_with fail;go_loopw [5] (λvi wr=>∃(i m:Nat),i<=N/\vi=.int .i64 i/\Hid (wr=w.drewN m)/\Hid (l.take i=l'.take i)) (λvi _=>N-(intOf vi).toNat)
   case atStart=>exact⟨0,0,Nat.zero_le _,rfl,zh rfl,zh rfl⟩
   case round=>
    obtain⟨i,m,hi,rfl,hwr,ha⟩:=hrel
    by_cases hlt:i<N
    . obtain⟨x,hx⟩:∃x,l[i]? =some x:=⟨_,List.getElem?_eq_getElem (by omega)⟩
      obtain⟨y,hy⟩:∃x,l'[i]? =some x:=⟨_,List.getElem?_eq_getElem (by omega)⟩
      have hi1:IntsIn wr a l:=(by rw[hwr.out];exact HI.out.drewN m)
      have hi2:IntsIn wr a' l':=(by rw[hwr.out];exact HI'.out.drewN m)
      obtain⟨b,o,rfl,hc⟩:=hi1.cell hx;obtain⟨b',o',rfl,hc'⟩:=hi2.cell hy;have hn:=zh (take_eq_step hx hy ha.out);clear hx hy ha hi1 hi2
      by_cases hxy:x=y
      . have hn2:=zh (hn.out.1 hxy);subst hxy;clear hn;go_wp2_with fail
        go_quiet (fail)
        go_wp2;exact⟨⟨i+1,m+nq,by omega,by simp,zh (by rw[hwr.out,World.drewN_drewN]),hn2⟩,by simp[intOf];omega⟩
      . have hn2:=zh (hn.out.2 hxy);have q:(x !=y)=true:=(by simp[hxy])
        clear hn;go_wp2_with fail
        go_quiet (fail)
        go_wp2;go_ret;exact⟨by rw[decide_eq_false hn2.out];rfl,m+nq,by rw[hwr.out,World.drewN_drewN]⟩
    . have hiN:i=N:=(by omega)
      have hv:l=l':=by
       have:=ha.out
       rwa [List.take_of_length_le (by omega),List.take_of_length_le (by omega)]at this
      clear ha;go_wp2;go_ret;exact⟨by rw[decide_eq_true hv];rfl,m,hwr.out⟩
 . have hv:¬l=l':=λe=>hne (by rw[<-hN,<-hN',e]);have q:((N:Int) !=(N':Int))=true:=(by simp;omega)
   go_wp2;go_ret;exact⟨by rw[decide_eq_false hv];rfl,0,rfl⟩
end Go.Proofs.YtacohbllbjgdgaaGreatDoor
