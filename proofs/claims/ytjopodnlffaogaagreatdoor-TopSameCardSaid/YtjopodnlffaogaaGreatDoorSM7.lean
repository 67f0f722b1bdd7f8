/- A part of the proof of TopSame: TmTopS. -/
import Derived.Test.YtjopodnlffaogaaGreatDoorSM6a
import Derived.Test.YtjopodnlffaogaaGreatDoorSTopC
set_option linter.unusedVariables false
set_option linter.unusedSimpArgs false
set_option maxRecDepth 100000
set_option maxHeartbeats 4000000
section
namespace Go.Proofs.YtjopodnlffaogaaGreatDoor.Tp
open Go.RowKit Go.Proofs.YtjopodnlffaogaaGreatDoorW.PrintWords Go.Proofs.YtjopodnlffaogaaGreatDoorW.PrintLast Go.Proofs.YtjopodnlffaogaaGreatDoorW.PrintMore
attribute [local go_sem] aU aQ aY aX aI aJ aT aN
theorem CJ (x:Nat) (hx:x<256) (A:Option Addr) (c:Nat) (who:List Int) (w:World) (hs:Start w) (h40:40<who.length):
  Calls Tryz.prog 5 #[.int .u8 (x:Int),.slice A who.length c] w fun e w'=>e= .returned (.bool true)∧Below w.heap.size w w':=by
 have HS:=aA.mk hs
 have hT:decide (40<(who.length:Int))=true:=decide_eq_true (by omega)
 clear hs
 go_enter Tryz.func5,Tryz.ntmps5
 go_wp2_with (go_at_call 10;refine (tF HS.out).mono ?_;rintro e w1 ⟨rfl,hb⟩;have HB:=aA.mk hb;clear hb HS)
 go_ret
 exact ⟨rfl,HB.out⟩
theorem uF {W0 w:World} {b:MB} {p:dU} {N:Nat} {s:MS} (hB:b.B=W0.heap.size) (hL:gD W0) (hb:Below W0.heap.size W0 w) (h:MW w b p s) (ho:lG p N s) (hN:N≤1000000) (kd t wt:Int):
  Calls Tryz.prog 18 #[.pointer (some ⟨b.bm,0,none⟩),.slice (some ⟨w.heap.size,0,none⟩) 1 1] (w.alloc (.cells #[.int .i64 kd,.int .i64 t,.int .i64 wt] 47)) fun e w'=>(∃ c:Int,e= .returned (.int .i64 c))∧Below W0.heap.size W0 w'∧MW w' b p (nO p b.spin b.tr s kd t wt).2:=by
 have k:=aD (Below.refl w.heap.size w) (.cells #[.int .i64 kd,.int .i64 t,.int .i64 wt] 47)
 have hb1:=bA hb k
 refine (IN b p N s kd t wt w.heap.size _ (h.below k) ho hN (hL.below hb1) (bF w _)).mono ?_
 rintro e w' ⟨hc,hk,hm⟩
 refine ⟨hc,?_,hm⟩
 have:=hk.out (by rw [hB];exact hb1.size)
 rw [hB] at this
 exact oK hb1 this
theorem yB (HA:iN) (x:Nat) (hx:x<256) (A:Option Addr) (c:Nat) (who:List Int) (hw:∀ y∈who,0≤y∧y<256) (w:World) (hC:Kd.C (Kd.int .u8) w A who.length who) (hs:Start w) (hl:gD w) (h40:who.length≤40):
  Calls Tryz.prog 5 #[.int .u8 (x:Int),.slice A who.length c] w fun e w'=>e= .returned (.bool true)∧Below w.heap.size w w':=by
 have HS:=aA.mk hs
 have HC:=aA.mk hC
 have HW:=aA.mk hw
 have HL:=aA.mk hl
 have HP:=aA.mk HA
 have H40:=aA.mk h40
 have hT:decide (40<(who.length:Int))=false:=decide_eq_false (by omega)
 have x0:(0:Int)≤(x:Int):=by omega
 have x1:(x:Int)<256:=by omega
 clear hs hC hw hl HA hx
 go_enter Tryz.func5,Tryz.ntmps5
 go_wp2_with fail
 obtain ⟨n,hn⟩:∃ n:Nat,n=1+x % 64:=⟨_,rfl⟩
 rw [show (1+(x:Int) % 64)=(n:Int) by omega]
 have n1:1≤n:=by omega
 have n64:n≤64:=by omega
 clear hn hT
 go_loopw [6,7] (fun f i wr=>∃ (k:Nat),1≤k∧k≤9∧i= .int .i64 k∧aA (k=1∨∃ A1 c1,f= .slice A1 (mV n who).length c1∧Kd.C mH wr A1 (mV n who).length (mV n who))∧aA (Below w.heap.size w wr)) (fun _ i _=>9 - (intOf i).toNat)
 case atStart=>exact ⟨1,Nat.le_refl _,by decide,rfl,⟨.inl rfl⟩,⟨Below.refl _ _⟩⟩
 case round=>
  obtain ⟨k,k1,k9,rfl,HF,HB⟩:=hrel
  obtain ⟨W0,rfl⟩:∃ W0:World,W0=wr:=⟨_,rfl⟩
  by_cases hlt:k≤8
  ·have hT:decide ((k:Int)≤8)=true:=decide_eq_true (by omega)
   obtain ⟨p,I,hS,hpn,hR,hI⟩:=JU n n1 n64 k k1 hlt
   have PN:=aA.mk (fun W (hW:dO W)=>NJ HP.out hS (show (1:Int)≤1 by decide) (show (1:Int)≤1000 by decide) W hW)
   have XS:=aA.mk hS
   have XR:=aA.mk hR
   have XI:=aA.mk hI
   have XN:=aA.mk hpn
   clear hS hR hI hpn HP
   simp only [NH.cells] at PN
   go_wp2_with (go_at_call 7;refine (PN.out _ (HS.out.below HB.out).laid).mono ?_;rintro e w0 ⟨bm,rfl,hb,hm⟩)
   obtain ⟨b,rs,rfl,htr,hsp,hbB,hM,hO,hrl,hN⟩:=mw_new XS.out (show (0:Int)≤0∧(0:Int)<4294967296 by decide) hm
   have HST:=aA.mk (show Still n I (VM p rs) from XN.out▸MQ (XI.out rs hrl hN))
   have hsp':1≤b.spin∧b.spin≤1000:=by rw [hsp];decide
   have BB:=aA.mk hbB
   have HSP:=aA.mk hsp'
   have HM:=aA.mk hM
   have HO:=aA.mk hO
   have HB0:=aA.mk hb
   have HLr:=aA.mk (HL.out.below HB.out)
   have HCr:=aA.mk (Kd.cH HC.out HB.out)
   clear hb hm htr hsp hbB hM hO hrl hN hsp' PN XS XI hT
   have HSE:=aA.mk (show (VM p rs).seen= [] from rfl)
   generalize VM p rs=s0 at HST HM HO HSE
   go_loopw [41] (fun i wq=>∃ (j:Nat),j≤who.length∧i= .int .i64 j∧aA (Below W0.heap.size W0 wq)∧aA (MW wq b p (rR p b.spin b.tr n (who.take j) s0))) (fun i _=>who.length - (intOf i).toNat)
   case atStart=>exact ⟨0,Nat.zero_le _,rfl,HB0,⟨by rw [List.take_zero];exact HM.out⟩⟩
   case round=>
    clear HB0 HM
    obtain ⟨j,hj,rfl,HBq,HM⟩:=hrel
    by_cases hlj:j<who.length
    ·have hT:decide ((j:Int)<(who.length:Int))=true:=decide_eq_true (by omega)
     have hT6:(j:Int)<(who.length:Int):=by omega
     have j0:(0:Int)≤(j:Int):=by omega
     obtain ⟨ad,hA,y0⟩:=Kd.oZ (Kd.cH HCr.out HBq.out) (j:Int) (by omega) (by omega)
     subst hA
     have hrd:rd who (j:Int)=who[j]:=by simp [rd,List.getD_eq_getElem?_getD,hlj]
     rw [hrd] at y0
     have HSN:=aA.mk (O7 p b.spin b.tr n who j hlj s0)
     have HOj:=aA.mk (S8 (tr:=b.tr) HSP.out n (who.take j) 0 s0 HO.out)
     have HNj:=aA.mk (show 0+12*(who.take j).length≤480 by have:=H40.out;have:=List.length_take_le j who;rw [List.length_take];omega)
     obtain ⟨yn,hy⟩:∃ yn:Nat,who[j]=(yn:Int):=⟨(who[j]).toNat,by have:=HW.out who[j] (List.getElem_mem hlj);omega⟩
     have hy256:yn<256:=by have:=HW.out who[j] (List.getElem_mem hlj);omega
     rw [hy] at HSN y0
     rw [Int.toNat_natCast] at HSN y0
     clear hrd hy
     generalize rR p b.spin b.tr n (who.take j) s0=sj at HM HSN HOj
     generalize 0+12*(who.take j).length=N at HOj HNj
     have y1:(0:Int)≤(yn:Int):=by omega
     have y2:(yn:Int)<256:=by omega
     have hmod:Int.tmod (yn:Int) (n:Int)=((yn % n:Nat):Int):=by rfl
     have hwr:wrap64 ((yn % n:Nat):Int)=((yn % n:Nat):Int):=by have:=Nat.mod_lt yn (show 0<n by omega);unfold wrap64;omega
     have hn0:¬ ((n:Int)=0):=by omega
     have ht:yn % n<n:=Nat.mod_lt _ (by omega)
     have hcast:(yn:Int) % (n:Int)=((yn % n:Nat):Int):=by simp
     have EQ:=aA.mk hcast
     clear hmod hwr hcast
     go_wp2_with (go_at_call 18;refine (uF BB.out HLr.out HBq.out HM.out HOj.out (by have:=HNj.out;omega) 3 ((yn:Int) % (n:Int)) 0).mono ?_;rintro e w1 ⟨⟨c1,rfl⟩,hb,hm⟩;rw [EQ.out] at hm;have HB1:=aA.mk hb;have HM1:=aA.mk hm;have HO1:=aA.mk (HOj.out.nO (kd:=3) (t:=((yn % n:Nat):Int)) (wt:=0) (tr:=b.tr) HSP.out);clear hb hm HBq HM HOj)
     generalize hs1:(nO p b.spin b.tr sj 3 ((yn % n:Nat):Int) 0).2=s1 at HM1 HO1
     have HS1:=aA.mk hs1
     clear hs1 hT
     go_loopw [54] (fun i wq=>∃ (l:Nat),l≤6∧i= .int .i64 l∧aA (Below W0.heap.size W0 wq)∧aA (MW wq b p (fJ p b.spin b.tr (yn % n) l s1))) (fun i _=>6 - (intOf i).toNat)
     case atStart=>exact ⟨0,Nat.zero_le _,rfl,HB1,HM1⟩
     case round=>
      clear HB1 HM1
      obtain ⟨l,hl,rfl,HBq,HM⟩:=hrel
      by_cases hll:l<6
      ·have hT:decide ((l:Int)<6)=true:=decide_eq_true (by omega)
       have HOl:=aA.mk (l9 (tr:=b.tr) (t:=yn % n) HSP.out l s1 HO1.out)
       have l1:(l:Int)<6:=by omega
       have l0:(0:Int)≤(l:Int):=by omega
       have HSC:=aA.mk (mK p b.spin b.tr (yn % n) l s1)
       generalize fJ p b.spin b.tr (yn % n) l s1=sl at HM HOl HSC
       go_wp2_with (go_at_call 18;refine (uF BB.out HLr.out HBq.out HM.out HOl.out (by have:=HNj.out;omega) 1 ((yn:Int) % (n:Int)) 0).mono ?_;rintro e w2 ⟨⟨c2,rfl⟩,hb,hm⟩;rw [EQ.out] at hm;have HB2:=aA.mk hb;have HM2:=aA.mk hm;clear hb hm HBq HM)
       go_roundw
       case rel=>exact ⟨l+1,by omega,by go_num,HB2,⟨by rw [HSC.out];exact HM2.out⟩⟩
       case measure=>simp [intOf];omega
      ·have e:l=6:=by omega
       subst e
       have hT:decide (((6:Nat):Int)<6)=false:=by decide
       have HO6:=aA.mk (l9 (tr:=b.tr) (t:=yn % n) HSP.out 6 s1 HO1.out)
       go_wp2_with (go_at_call 18;refine (uF BB.out HLr.out HBq.out HM.out HO6.out (by have:=HNj.out;omega) 5 ((yn:Int) % (n:Int)) 0).mono ?_;rintro e w2 ⟨⟨c2,rfl⟩,hb,hm⟩;rw [EQ.out] at hm;have HB2:=aA.mk hb;have HM2:=aA.mk hm;have HO2:=aA.mk (HO6.out.nO (kd:=5) (t:=((yn % n:Nat):Int)) (wt:=0) (tr:=b.tr) HSP.out);clear hb hm HBq HM HO6)
       generalize hs2:(nO p b.spin b.tr (fJ p b.spin b.tr (yn % n) 6 s1) 5 ((yn % n:Nat):Int) 0).2=s2 at HM2 HO2
       have HS2:=aA.mk hs2
       clear hs2 hT
       go_loopw [67] (fun i wq=>∃ (l:Nat),l≤4∧i= .int .i64 l∧aA (Below W0.heap.size W0 wq)∧aA (MW wq b p (fJ p b.spin b.tr (yn % n) l s2))) (fun i _=>4 - (intOf i).toNat)
       case atStart=>exact ⟨0,Nat.zero_le _,rfl,HB2,HM2⟩
       case round=>
        clear HB2 HM2
        obtain ⟨l,hl,rfl,HBq,HM⟩:=hrel
        by_cases hll:l<4
        ·have hT:decide ((l:Int)<4)=true:=decide_eq_true (by omega)
         have HOl:=aA.mk (l9 (tr:=b.tr) (t:=yn % n) HSP.out l s2 HO2.out)
         have l1:(l:Int)<4:=by omega
         have l0:(0:Int)≤(l:Int):=by omega
         have HSC:=aA.mk (mK p b.spin b.tr (yn % n) l s2)
         generalize fJ p b.spin b.tr (yn % n) l s2=sl at HM HOl HSC
         go_wp2_with (go_at_call 18;refine (uF BB.out HLr.out HBq.out HM.out HOl.out (by have:=HNj.out;omega) 1 ((yn:Int) % (n:Int)) 0).mono ?_;rintro e w3 ⟨⟨c3,rfl⟩,hb,hm⟩;rw [EQ.out] at hm;have HB3:=aA.mk hb;have HM3:=aA.mk hm;clear hb hm HBq HM)
         go_roundw
         case rel=>exact ⟨l+1,by omega,by go_num,HB3,⟨by rw [HSC.out];exact HM3.out⟩⟩
         case measure=>simp [intOf];omega
        ·have e:l=4:=by omega
         subst e
         have hT:decide (((4:Nat):Int)<4)=false:=by decide
         go_wp2_with fail
         go_roundw
         case rel=>exact ⟨j+1,by omega,by go_num,HBq,⟨by rw [HSN.out];unfold kY;rw [HS1.out,HS2.out];exact HM.out⟩⟩
         case measure=>simp [intOf];omega
    ·have e:j=who.length:=by omega
     subst e
     have hT:decide ((who.length:Int)<(who.length:Int))=false:=decide_eq_false (by omega)
     obtain ⟨hst,hseen⟩:=zR n1 XR.out (spin:=b.spin) (tr:=b.tr) who s0 HST.out
     rw [HSE.out,List.nil_append] at hseen
     rw [List.take_length] at HM
     have hlen:=yF n who
     generalize rR p b.spin b.tr n who s0=se at HM hseen
     generalize hys:mV n who=ys at HF hseen hlen
     have HYS:=aA.mk hys
     clear hys
     have PT:=aA.mk (EE b p se wr HM.out (by rw [hseen,hlen];have:=H40.out;omega))
     rw [hseen] at PT
     have w0:(0:Int)≤(who.length:Int):=by omega
     have w1:(who.length:Int)≤40:=by have:=H40.out;omega
     have hq:((ys.length:Int) != 7*(who.length:Int))=false:=by simp [hlen]
     have HLEN:=aA.mk (show ys.length≤1000000 by omega)
     clear hst hseen hlen hT HM HST XR HO HSE
     by_cases hk1:k=1
     ·subst hk1
      have e1:(((1:Nat):Int)==1)=true:=by simp
      go_wp2_with (first|(go_at_call 17;refine PT.out.mono ?_;rintro e w4 ⟨v,rfl,hR,hb⟩;obtain ⟨A3,c3,hv,_,hC3⟩:=Kd.bY hR;subst hv;have HC3:=aA.mk hC3;have HB4:=aA.mk (bA HBq.out hb);clear hR hb hC3 PT)|(go_at_call 20;refine (nZ _ _ ys _ HC3.out HLEN.out).mono ?_;rintro e w5 ⟨v5,rfl,hR,hb⟩;obtain ⟨A5,c5,hv,_,hC5⟩:=Kd.bY hR;subst hv;have HC5:=aA.mk hC5;have HC35:=aA.mk (Kd.cH HC3.out hb);have HB5:=aA.mk (bA HB4.out hb);clear hR hb hC5)|(go_at_call 19;refine (rM _ _ _ _ ys _ HC35.out HC5.out HLEN.out).mono ?_;rintro e w6 ⟨rfl,hb⟩;have HB6:=aA.mk (bA HB5.out hb);have HC6:=aA.mk (Kd.cH HC35.out hb);clear hb))
      go_roundw
      case rel=>exact ⟨1+1,by omega,by omega,by go_num,⟨.inr ⟨A3,c3,by rw [HYS.out],by rw [HYS.out];exact HC6.out⟩⟩,⟨oK HB.out (Below.mono HB6.out HB.out.size)⟩⟩
      case measure=>simp [intOf]
     ·have e1:((k:Int)==1)=false:=by simp;omega
      obtain ⟨A1,c1,rfl,hC1⟩:=HF.out.resolve_left hk1
      have HF1:=aA.mk hC1
      clear hC1 HF
      go_wp2_with (first|(go_at_call 17;refine PT.out.mono ?_;rintro e w4 ⟨v,rfl,hR,hb⟩;obtain ⟨A3,c3,hv,_,hC3⟩:=Kd.bY hR;subst hv;have HC3:=aA.mk hC3;have HB4:=aA.mk (bA HBq.out hb);clear hR hb hC3 PT)|(go_at_call 20;refine (nZ _ _ ys _ (Kd.cH HF1.out HB4.out) HLEN.out).mono ?_;rintro e w5 ⟨v5,rfl,hR,hb⟩;obtain ⟨A5,c5,hv,_,hC5⟩:=Kd.bY hR;subst hv;have HC5:=aA.mk hC5;have HC35:=aA.mk (Kd.cH HC3.out hb);have HB5:=aA.mk (bA HB4.out hb);clear hR hb hC5)|(go_at_call 19;refine (rM _ _ _ _ ys _ HC35.out HC5.out HLEN.out).mono ?_;rintro e w6 ⟨rfl,hb⟩;have HB6:=aA.mk (bA HB5.out hb);have HC6:=aA.mk (Kd.cH HC35.out hb);clear hb))
      go_roundw
      case rel=>exact ⟨k+1,by omega,by omega,by go_num,⟨.inr ⟨A1,c1,by rw [HYS.out],by rw [HYS.out];exact Kd.cH HF1.out HB6.out⟩⟩,⟨oK HB.out (Below.mono HB6.out HB.out.size)⟩⟩
      case measure=>simp [intOf];omega
  ·have e:k=9:=by omega
   subst e
   have hT:decide (((9:Nat):Int)≤8)=false:=by decide
   go_wp2_with (go_at_call 10;refine (tF (HS.out.below HB.out)).mono ?_;rintro e w1 ⟨rfl,hb⟩;have HB1:=aA.mk (bA HB.out hb);clear hb)
   go_ret
   exact ⟨rfl,HB1.out⟩
theorem yN (HA:iN) (x:Nat) (hx:x<256) (A:Option Addr) (c:Nat) (who:List Int) (hw:∀ y∈who,0≤y∧y<256) (w:World) (hC:Kd.C (Kd.int .u8) w A who.length who) (hs:Start w) (hl:gD w):
  Calls Tryz.prog 5 #[.int .u8 (x:Int),.slice A who.length c] w fun e w'=>e= .returned (.bool true)∧Below w.heap.size w w':=by
 rcases Nat.lt_or_ge 40 who.length with h|h
 ·exact CJ x hx A c who w hs h
 ·exact yB HA x hx A c who hw w hC hs hl h
end Go.Proofs.YtjopodnlffaogaaGreatDoor.Tp
end
