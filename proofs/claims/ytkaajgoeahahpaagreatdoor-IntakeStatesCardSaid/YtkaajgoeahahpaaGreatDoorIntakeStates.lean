/- IntakeStates: for every input the law returns true and its arguments read as they did. No conditions. -/
import Derived.Test.YtkaajgoeahahpaaGreatDoorLiIntakeStates
import Derived.Test.YtkaajgoeahahpaaGreatDoorOpenT
import Derived.Test.YtkaajgoeahahpaaGreatDoorCards
import Derived.Test.YtkaajgoeahahpaaGreatDoorTie
import Derived.SevenTiedAt
import Derived.Stop.Joined
set_option linter.all false
set_option maxRecDepth 100000
set_option maxHeartbeats 0
namespace Go.Proofs.YtkaajgoeahahpaaGreatDoor.intakeStates
open Go.ChangeShapes Go.WideShapes Go.ChangeAt Go.RowKit
theorem own:ownKnob Tryz.prog.godebug=none:=by kernel_rfl
theorem bw:laidOutB Tryz.prog=true:=by kernel_rfl
theorem qL (os:Os) (started:os.Started) (H:Type) (enc:TypeId×Value->H) :
  ReturnsInHanded {} Tryz.checked os 10 .any (fun w args=>(Rows.intakeStatesSpec.pre enc Tryz.prog Tryz.f10 [] false w args/\laidMetH Tryz.prog bQ w)/\sizedMet enc Tryz.prog Tryz.f10 (OpenSpec.ofChange Rows.intakeStatesSpec) false w args) (Rows.intakeStatesSpec.post enc Tryz.prog Tryz.f10 false true false false):=by
 refine returnsInHanded_of_change_and (C:=Tryz.checked) (X:=fun w _=>laidMetH Tryz.prog bQ w) (fun _ _ _ hh h=>h.of_heap hh) own started (by kernel_rfl) Tryz.func10
  (ChangeSpec.witness_shaped (enc:=enc) (C:=Tryz.checked) (os:=os) (X:=fun w _=>laidMetH Tryz.prog bQ w) false (World.doorLaid Tryz.prog 19 os) #[.slice none 0 0,.slice none 0 0,.int .i64 0,.int .i64 0] 8 rfl (World.shaped_of_RefB (by kernel_rfl) (by kernel_rfl)) (by kernel_rfl) (by kernel_rfl) (by kernel_rfl) (fA os _)) ?_
 intro W base args ds gs _ hq hW _ hSz hL _;have hp:∀(j:Nat) t v,Tryz.f10.params[j]?=some t->args[j]?=some v->Value.okWide Tryz.prog W .any base t v:=hq;have hW':=hW;obtain⟨p,q,hA0,hV,rfl,hfz,hnd⟩:=hW;have hA:DataW.TrodAll enc Tryz.prog W 0 (fun _=>true) true Tryz.f10.params.toList args.toList ds p:=hA0;rw[Tryz.params10]at hA hp;obtain⟨v0,vs0,d0,ds0,p0,q0,hr,rfl,rfl,h0,r0⟩:=trodAll_cons hA;obtain⟨v1,vs1,d1,ds1,p1,q1,rfl,rfl,rfl,h1,r1⟩:=trodAll_cons r0;obtain⟨v2,vs2,d2,ds2,p2,q2,rfl,rfl,rfl,h2,r2⟩:=trodAll_cons r1;obtain⟨v3,vs3,d3,ds3,p3,q3,rfl,rfl,rfl,h3,r3⟩:=trodAll_cons r2;obtain⟨rfl,rfl,rfl⟩:=trodAll_nil r3;obtain rfl:args=#[v0,v1,v2,v3]:=by cases args;simp_all
 obtain⟨rfl,rfl⟩:=trodVars_none hV;have k0:=h0;have lt0:∀x∈p0,x.block<W.heap.size:=by obtain⟨m,hm⟩:=k0;exact DataW.trod_lt m _ _ _ hm
 obtain⟨l0,w0⟩:=cE W.heap.size (Nat.le_refl _) Tryz.underlying22 Tryz.underlying3 (by kernel_rfl) (hp 0 22 v0 rfl rfl) h0;have k1:=h1;have lt1:∀x∈p1,x.block<W.heap.size:=by obtain⟨m,hm⟩:=k1;exact DataW.trod_lt m _ _ _ hm
 obtain⟨l1,w1⟩:=tT W.heap.size (Nat.le_refl _) Tryz.underlying56 Tryz.underlying67 Tryz.underlying43 Tryz.underlying45 Tryz.underlying3 (by kernel_rfl) (by kernel_rfl) (by kernel_rfl) (by kernel_rfl) rfl rfl rfl rfl rfl rfl (by kernel_rfl) (by kernel_rfl) rfl rfl (hp 1 56 v1 rfl rfl) h1;have k2:=h2;have lt2:∀x∈p2,x.block<W.heap.size:=by obtain⟨m,hm⟩:=k2;exact DataW.trod_lt m _ _ _ hm
 obtain⟨a2,rfl,w2⟩:=fm Tryz.underlying3 (hp 2 3 v2 rfl rfl) h2;have k3:=h3;have lt3:∀x∈p3,x.block<W.heap.size:=by obtain⟨m,hm⟩:=k3;exact DataW.trod_lt m _ _ _ hm
 obtain⟨a3,rfl,w3⟩:=fm Tryz.underlying3 (hp 3 3 v3 rfl rfl) h3;clear hA0 hq;refine (o9 v0 l0 v1 l1 a2 a3 W w0 w1 w2 w3 (cY hL)).mono fun e W' ⟨he,bel⟩=>?_;subst he;exact⟨_,rfl,_,_,_,[],_,[],hW',trodAll_mk1 (shut_bool Tryz.underlying4 _),(trodAll_cons_mk (Below.trod bw (by kernel_rfl) (of_decide_eq_true (by kernel_rfl)) k0 bel.below lt0) (trodAll_cons_mk (Below.trod bw (by kernel_rfl) (of_decide_eq_true (by kernel_rfl)) k1 bel.below lt1) (trodAll_cons_mk (Below.trod bw (by kernel_rfl) (of_decide_eq_true (by kernel_rfl)) k2 bel.below lt2) (trodAll_cons_mk (Below.trod bw (by kernel_rfl) (of_decide_eq_true (by kernel_rfl)) k3 bel.below lt3) trodAll_mk0)))),rfl,bel.below.frame _,fun h=>by cases h⟩
end Go.Proofs.YtkaajgoeahahpaaGreatDoor.intakeStates
namespace Go.Proofs.YtkaajgoeahahpaaGreatDoor
theorem oZ:Rows.IntakeStatesSaid :=
 OpenClaim.holds_of_wide 10 Tryz.f10 rfl rfl rfl rfl rfl rfl rfl ⟨rfl,rfl,rfl,rfl,rfl⟩ rfl rfl rfl rfl rfl (by as_aux_lemma=>kernel_rfl) Tryz.func10 (by unfold joinedFacts;simp only[Bool.and_eq_true];(repeat' apply And.intro);all_goals as_aux_lemma=>kernel_rfl)
  (of_decide_eq_true (by as_aux_lemma=>kernel_rfl)) (by unfold Func.isWrapper;first|(rw[if_pos (by decide +kernel)];kernel_rfl)|(rw[if_neg (by decide +kernel)];exact⟨rfl,rfl⟩))
  (fun os started H enc _=>intakeStates.qL os started H enc)
theorem intakeStates_holds:Rows.IntakeStatesCardSaid :=
 Claim7.holds_tied_plain_at .later [] [.data, .data] true (true, "15b3854e3db2b599953cd804742000d89deb6cf0b35419cef967ceaa022f5ac9") false
  oZ (fun _ h=>by cases h) (by as_aux_lemma=>kernel_rfl) (fun _ h=>by cases h) intakeStates_row_tie rfl ⟨rfl,rfl⟩ (by as_aux_lemma=>kernel_rfl) rfl
  (fun f fn hf hfn=>by
   obtain rfl : f = 10 := Option.some.inj ((show Tryz.prog.funcNamed "awardingbody/awardingbodylaw21.IntakeStates" = some 10 by as_aux_lemma => kernel_rfl).symm.trans hf) |>.symm;obtain rfl:fn=Tryz.f10:=(Option.some.inj (Tryz.func10.symm.trans hfn)).symm;exact⟨by as_aux_lemma=>kernel_rfl,fun j t ht=>by
    rw[Tryz.params10]at ht;have hm:t∈[22,56,3,3]:=by simpa using Array.mem_of_getElem? ht
    have hall:([22,56,3,3].all fun u=>!Tryz.prog.wantsStandIn u)=true:=by as_aux_lemma=>kernel_rfl
    exact (show Tryz.prog.wantsStandIn t=false by simpa using List.all_eq_true.1 hall t hm)⟩)
  (by as_aux_lemma=>kernel_rfl)
end Go.Proofs.YtkaajgoeahahpaaGreatDoor

