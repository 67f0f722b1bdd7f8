/- A part of the proof of TopSame: TmRowSame. -/
import Derived.Test.YtjopodnlffaogaaGreatDoorSFactsSame
import Derived.Test.YtjopodnlffaogaaGreatDoorSM7
import Derived.Test.YtjopodnlffaogaaGreatDoorSM8
import Derived.Test.YtjopodnlffaogaaGreatDoorCards
import Derived.Test.YtjopodnlffaogaaGreatDoorTie
import Derived.SevenTiedAt
import Derived.ShutString
import Derived.ChangeOld
import Derived.SizedLaws
import Derived.Stop.Joined
set_option linter.unusedVariables false
set_option linter.unusedSimpArgs false
set_option maxRecDepth 100000
set_option maxHeartbeats 4000000
section
namespace Go.Proofs.YtjopodnlffaogaaGreatDoor.Tp
open Go.RowKit Go.Proofs.YtjopodnlffaogaaGreatDoorW.PrintWords Go.Proofs.YtjopodnlffaogaaGreatDoorW.PrintLast Go.Proofs.YtjopodnlffaogaaGreatDoorW.PrintMore
attribute [local go_sem] aU aQ aY aX aI aJ aT aN
open Go.ChangeShapes Go.WideShapes Go.ChangeAt
open Go.ChangeMaps (open_string shut_string)
theorem WA:ownKnob Tryz.prog.godebug=none:=by kernel_rfl
theorem tI:laidOutB Tryz.prog=true:=by kernel_rfl
theorem EC (os:Os) (started:os.Started) (H:Type) (enc:TypeId × Value→H):
  ReturnsInHanded {} Tryz.checked os 5 .any (fun w args=>(Rows.topSameSpec.pre enc Tryz.prog Tryz.f5 [] false w args∧laidMetH Tryz.prog Rows.topSameRow.laid w)∧sizedMet enc Tryz.prog Tryz.f5 (OpenSpec.ofChange Rows.topSameSpec) false w args)
   (Rows.topSameSpec.post enc Tryz.prog Tryz.f5 false true false false):=by
 refine zP (C:=Tryz.checked) (X:=fun w _=>laidMetH Tryz.prog Rows.topSameRow.laid w) (fun _ _ _ hh h=>h.of_heap hh) WA started (by kernel_rfl) Tryz.func5
  (ChangeSpec.witness_shaped (enc:=enc) (C:=Tryz.checked) (os:=os) (X:=fun w _=>laidMetH Tryz.prog Rows.topSameRow.laid w) false (World.laidAll Tryz.prog os Rows.topSameRow.laid) #[.int .u8 0,.slice none 0 0] 8 (World.laidAll_os _ _ _)
   (World.shaped_of_ZipB (by kernel_rfl) (by kernel_rfl)) (by kernel_rfl) (by kernel_rfl) (by kernel_rfl)
   (by rw [MakeChecks.laidMetH_plain _ _ _ (by kernel_rfl)];exact laidMet_laidAll _ (by kernel_rfl) (by kernel_rfl))) ?_
 intro W base args ds gs before hval0 hW hL hsh
 have hval:∀ (j:Nat) t v,Tryz.f5.params[j]?=some t→args[j]?=some v→Value.okWide Tryz.prog W .any base t v:=hval0
 have hW':=hW
 obtain ⟨p,q,hA0,hV,rfl,hfz,hnd⟩:=hW
 have hA:DataW.TrodAll enc Tryz.prog W 0 (fun _=>true) true Tryz.f5.params.toList args.toList ds p:=hA0
 rw [Tryz.params5] at hA hval
 obtain ⟨v0,vs0,d0,ds0,p0,q0,hargs,rfl,rfl,h0,r0⟩:=trodAll_cons hA
 obtain ⟨v1,vs1,d1,ds1,p1,q1,hvs1,rfl,rfl,h1,r1⟩:=trodAll_cons r0
 obtain ⟨rfl,rfl,rfl⟩:=trodAll_nil r1
 subst hvs1
 obtain rfl:args=#[v0,v1]:=by cases args;simp_all
 obtain ⟨rfl,rfl⟩:=trodVars_none hV
 have k0:=h0
 have k1:=h1
 have lt0:∀ x∈p0,x.block<W.heap.size:=by obtain ⟨m,hm⟩:=k0;exact DataW.trod_lt m _ _ _ hm
 have lt1:∀ x∈p1,x.block<W.heap.size:=by obtain ⟨m,hm⟩:=k1;exact DataW.trod_lt m _ _ _ hm
 obtain ⟨s,rfl,rfl,rfl,hs⟩:=open_int Tryz.underlying5 (hval 0 5 v0 rfl rfl) h0
 obtain ⟨a1,len1,cap1,rfl⟩:=okWide_slice Tryz.underlying57 (hval 1 57 v1 rfl rfl)
 obtain ⟨f1,g1⟩:=h1
 obtain ⟨A,cap,who,e1,hC,hw⟩:=IU g1
 have hs':(decide (0≤s)&&decide (s≤255))=true:=hs
 simp at hs'
 obtain ⟨sn,rfl⟩:∃ sn:Nat,s=(sn:Int):=⟨s.toNat,by omega⟩
 simp [Value.cells] at e1
 obtain ⟨rfl,rfl,rfl⟩:=e1
 rw [MakeChecks.laidMetH_plain _ _ _ (by kernel_rfl)] at hL
 have HS:=P9 hsh hL
 have HT:=XT hsh hL
 clear hA0 hval0
 refine (yN asmAll sn (by omega) a1 cap1 who hw W hC HS HT).mono fun e W' ⟨he,bel⟩=>?_
 subst he
 exact ⟨_,rfl,_,_,_,[],_,[],hW',trodAll_mk1 (shut_bool Tryz.underlying4 _),(trodAll_cons_mk (Below.trod tI (by kernel_rfl) (of_decide_eq_true (by kernel_rfl)) k0 bel lt0) (trodAll_cons_mk (Below.trod tI (by kernel_rfl) (of_decide_eq_true (by kernel_rfl)) k1 bel lt1) trodAll_mk0)),rfl,bel.frame _,fun h=>by cases h⟩
theorem CZ:Rows.TopSameSaid:=
 OpenClaim.holds_of_wide 5 Tryz.f5 rfl rfl rfl rfl rfl rfl rfl ⟨rfl,rfl,rfl,rfl,rfl⟩ rfl rfl rfl rfl rfl (by kernel_rfl) Tryz.func5 ED
  (of_decide_eq_true (by kernel_rfl)) (by unfold Func.isWrapper;first|(rw [if_pos (by decide+kernel)];kernel_rfl)|(rw [if_neg (by decide+kernel)];exact ⟨rfl,rfl⟩))
  (fun os started H enc _=>EC os started H enc)
end Go.Proofs.YtjopodnlffaogaaGreatDoor.Tp
namespace Go.Proofs.YtjopodnlffaogaaGreatDoor
theorem topSame_holds:Rows.TopSameCardSaid:=
 Claim7.holds_tied_plain_at .later [] [.data,.data,.data,.data,.sentinel,.sentinel,.widerDeep,.widerDeep,.data,.data,.pinned] true (true, "411cf5d9b3e3716897f9688ee0f53cc93379a4f8abdcb1b24e4640da42838e4b") true
  Tp.CZ (fun _ h=>by cases h) (by kernel_rfl) (fun _ h=>by cases h) topSame_row_tie rfl ⟨rfl,rfl⟩ (by kernel_rfl) rfl
  (fun f fn hf hfn=>by
   obtain rfl:f=5:=Option.some.inj ((show Tryz.prog.funcNamed "ropeline/ropelinetop.TopSame" =some 5 by kernel_rfl).symm.trans hf) |>.symm
   obtain rfl:fn=Tryz.f5:=(Option.some.inj (Tryz.func5.symm.trans hfn)).symm
   exact ⟨by kernel_rfl,fun j t ht=>by
    rw [Tryz.params5] at ht
    have hm:t∈ [5,57]:=by simpa using Array.mem_of_getElem? ht
    have hall:([5,57].all fun u=>!Tryz.prog.wantsStandIn u)=true:=by kernel_rfl
    exact (show Tryz.prog.wantsStandIn t=false by simpa using List.all_eq_true.1 hall t hm)⟩)
  (by kernel_rfl)
end Go.Proofs.YtjopodnlffaogaaGreatDoor
namespace Go.Proofs.YtjopodnlffaogaaGreatDoor.Tp
end Go.Proofs.YtjopodnlffaogaaGreatDoor.Tp
end
