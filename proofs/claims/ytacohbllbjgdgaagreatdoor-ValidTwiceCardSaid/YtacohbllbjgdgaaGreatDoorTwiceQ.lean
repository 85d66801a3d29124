/- The statement ValidTwice, from its walk: for every input the call returns true, and what it was given reads as before, where the table of Go's library lies as the program's text lays it (tied). -/
import Derived.Test.YtacohbllbjgdgaaGreatDoorTie
import Derived.Test.YtacohbllbjgdgaaGreatDoorCards
import Derived.Test.YtacohbllbjgdgaaGreatDoorPb
import Derived.ProofKit
import Derived.LaidMore
import Derived.OpenShut
import Derived.ChangeOld
import Derived.Below
import Derived.Carry
import Derived.SizedLaws
import Derived.Stop.Joined
import Derived.SevenTiedAt
set_option linter.all false
set_option maxRecDepth 100000
namespace Go.Proofs.YtacohbllbjgdgaaGreatDoor.validTwice
open Go.ChangeShapes Go.WideShapes Go.ChangeAt Go.WideMaps Go.WideElems Go.RowKit
theorem own:ownKnob Tryz.prog.godebug=none:=by kernel_rfl
theorem laidOut:laidOutB Tryz.prog=true:=by kernel_rfl
theorem lifted(os:Os)(started:os.Started)(H:Type)(enc:TypeId×Value->H):ReturnsInHanded {} Tryz.checked os 7 .any (λw args=>(Rows.validTwiceSpec.pre enc Tryz.prog Tryz.f7 [] false w args/\laidMetH Tryz.prog laidTwo w)/\sizedMet enc Tryz.prog Tryz.f7 (OpenSpec.ofChange Rows.validTwiceSpec) false w args) (Rows.validTwiceSpec.post enc Tryz.prog Tryz.f7 false true false false):=by
 refine returnsInHanded_of_change_and (C:=Tryz.checked) (X:=λw _=>laidMetH Tryz.prog laidTwo w) (λ_ _ _ hh h=>h.of_heap hh) own started (by kernel_rfl) Tryz.func7
   (ChangeSpec.witness_shaped (enc:=enc) (C:=Tryz.checked) (os:=os) (X:=λw _=>laidMetH Tryz.prog laidTwo w) false (World.laidAll Tryz.prog os laidTwo) #[.agg #[.slice none 0 0,.slice none 0 0,.slice none 0 0,.slice none 0 0,.slice none 0 0,.slice none 0 0,.slice none 0 0,.slice none 0 0,.slice none 0 0,.slice none 0 0],.int .i64 0] 8 rfl (World.shaped_of_ZipB (by kernel_rfl) (by kernel_rfl)) (by kernel_rfl) (by kernel_rfl) (by kernel_rfl) (door_met os _)) ?_
 intro W base args ds gs before hval0 hW _ _ hL _
 have hval:∀(j:Nat) t v,Tryz.f7.params[j]? =some t->args[j]? =some v->Value.okWide Tryz.prog W .any base t v:=hval0
 have hW':=hW
 obtain⟨p,q,hA0,hV,rfl,hfz,hnd⟩:=hW
 have hA:DataW.TrodAll enc Tryz.prog W 0 (λ_=>true) true Tryz.f7.params.toList args.toList ds p:=hA0
 rw[Tryz.params7]at hA hval
 obtain⟨v0,vs0,d0,ds0,p0,q0,hargs,rfl,rfl,h0,r0⟩:=trodAll_cons hA
 obtain⟨v1,vs1,d1,ds1,p1,q1,rfl,rfl,rfl,h1,r1⟩:=trodAll_cons r0
 obtain⟨rfl,rfl,rfl⟩:=trodAll_nil r1
 obtain rfl:args= #[v0,v1]:=by cases args;simp_all
 obtain⟨rfl,rfl⟩:=trodVars_none hV
 have k0:=h0
 have lt0:∀x∈p0,x.block<W.heap.size:=by obtain⟨m,hm⟩:=k0;exact DataW.trod_lt m _ _ _ hm
 have o0:=hval 0 32 v0 rfl rfl
 have k1:=h1
 have lt1:∀x∈p1,x.block<W.heap.size:=by obtain⟨m,hm⟩:=k1;exact DataW.trod_lt m _ _ _ hm
 have o1:=hval 1 3 v1 rfl rfl
 clear hA0 hval0
 refine(twice_walk (enc:=enc) W base (tab_of_laid hL) v0 d0 p0 o0 h0 v1 d1 p1 o1 h1).mono λe W' ⟨he,bel⟩=> ?_
 subst he
 exact⟨_,rfl,_,_,_,[],_,[],hW',trodAll_mk1 (shut_bool Tryz.underlying4 _),(trodAll_cons_mk (Below.trod laidOut (by kernel_rfl) (of_decide_eq_true (by kernel_rfl)) k0 bel lt0) (trodAll_cons_mk (Below.trod laidOut (by kernel_rfl) (of_decide_eq_true (by kernel_rfl)) k1 bel lt1) trodAll_mk0)),rfl,bel.frame _,λh=>by cases h⟩
theorem row_holds:Rows.ValidTwiceSaid:=
 OpenClaim.holds_of_wide 7 Tryz.f7 rfl rfl rfl rfl rfl rfl rfl ⟨rfl,rfl,rfl,rfl,rfl⟩ rfl rfl rfl rfl rfl (by kernel_rfl) Tryz.func7 (by kernel_rfl)
   (of_decide_eq_true (by kernel_rfl)) (by unfold Func.isWrapper;first |(rw[if_pos (by decide+kernel)];kernel_rfl) |(rw[if_neg (by decide+kernel)];exact⟨rfl,rfl⟩))
   (λos started H enc _=>lifted os started H enc)
theorem proved:Rows.ValidTwiceCardSaid:=
 Claim7.holds_tied_plain_at .later [] [.data,.pinned] true (true,"eed0bcbb2ea650bd0c577c184ce6d66dd4401812cc727eb6b355ba63c854a707") true
   row_holds (λ_ h=>by cases h) (by kernel_rfl) (λ_ h=>by cases h) validTwice_row_tie rfl ⟨rfl,rfl⟩ (by kernel_rfl) rfl
   (λf fn hf hfn=>by
     obtain rfl:f=7:=Option.some.inj ((show Tryz.prog.funcNamed Rows.validTwiceRow.func=some 7 by kernel_rfl).symm.trans hf) |>.symm
     obtain rfl:fn=Tryz.f7:=(Option.some.inj (Tryz.func7.symm.trans hfn)).symm
     exact⟨by kernel_rfl,λj t ht=>by
       rw[Tryz.params7]at ht
       have hm:t∈[32,3]:=by simpa using Array.mem_of_getElem? ht
       have hall:([32,3].all λu=> !Tryz.prog.wantsStandIn u)=true:=by kernel_rfl
       exact(show Tryz.prog.wantsStandIn t=false by simpa using List.all_eq_true.1 hall t hm)⟩)
   (by kernel_rfl)
#print axioms proved
end Go.Proofs.YtacohbllbjgdgaaGreatDoor.validTwice
