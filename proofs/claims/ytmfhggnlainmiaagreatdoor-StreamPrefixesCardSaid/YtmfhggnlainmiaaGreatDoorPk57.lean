/- Part 57. -/
import Derived.Test.YtmfhggnlainmiaaGreatDoorPk56
import Derived.Test.YtmfhggnlainmiaaGreatDoorPk39
import Derived.Test.YtmfhggnlainmiaaGreatDoorPk41
import Derived.Test.YtmfhggnlainmiaaGreatDoorPk48
set_option linter.unusedVariables false
set_option maxHeartbeats 16000000
namespace Go.Proofs.YtmfhggnlainmiaaGreatDoor
open Lib (hid)
section
open Go.RowKit
attribute [local go_sem] y9 Tryz.eqGuard_if
theorem SI.code {L:zc} {t:List Nat} {s:Dc} {ks:List Kno} {es:List Nat} (h:SI L t s ks es):s.vc=0→s.st<4:=fun e=>by
 by_cases h4:s.st=4
 · exact absurd e (h.bad h4).2.1
 · have:=h.st;omega
set_option maxRecDepth 20000 in
theorem yg9 (a e:Option Addr) (n cap m cm:Nat) (l ss:List Nat) (L:zc) (w:World) (hB:Byts w a n cap l) (hS:Byts w e m cm ss) (hL:LimsI L) (hD:Door w):
 Calls Tryz.prog 13 #[.slice a n cap,lmV L,.slice e m cm] w fun x w'=>x=.returned (.bool true)∧Below w.heap.size w w':=by
 obtain⟨wB,hwB⟩:∃wB,wB=w.alloc (.cells #[.int .i64 L.1,.int .i64 L.2.1,.int .i64 L.2.2.1,.int .i64 L.2.2.2.1,.int .i64 L.2.2.2.2] 24):=⟨_,rfl⟩;have hbB:Below w.heap.size w wB:=by rw[hwB];exact(Below.refl _ _).alloc (Nat.le_refl _) _
 have HG:=hid (show Row wB w.heap.size 24 [.int .i64 L.1,.int .i64 L.2.1,.int .i64 L.2.2.1,.int .i64 L.2.2.2.1,.int .i64 L.2.2.2.2] from by rw[hwB];exact y7 w _ _);have HwB:=hid hwB;have HbB:=hid hbB;have HA:=hid (fun W (h:Below w.heap.size w W)=>zph W (hD.below (Nat.le_refl _) h));have hnm:n≤9223372036854775807:=Nat.le_trans hB.room hB.most;have hmm:m≤9223372036854775807:=Nat.le_trans hS.room hS.most;have HS0:=hid (fun W b hb=>ztk a e n cap m cm L W hnm hmm b hb);have l0:=HG.out.cell 0 rfl;have l1:=HG.out.cell 1 rfl;have l2:=HG.out.cell 2 rfl;have l3:=HG.out.cell 3 rfl;have l4:=HG.out.cell 4 rfl;have Hsz:=hid hbB.size;unfold lmV at HS0;by_cases hsm:n≤1000∧L.1≤1099511627776∧m≤100
 · have HS:=hid (fun W=>HS0.out W true (by rw[decide_eq_true hsm]));by_cases hm20:m≤20
   · have d20:decide (20<(m:Int))=false:=by rw[decide_eq_false_iff_not];omega
     have d20':decide (20<m)=false:=by rw[decide_eq_false_iff_not];omega
     have HNw:=hid (fun V=>zma L V);have hgl:0<w.heap.size:=zf (p:=⟨0,0,none⟩) hD
     have hbl:0<n→∀b o k,a=some ⟨b,o,k⟩→b<w.heap.size:=fun hn b o k e=>by
      obtain⟨b',o',e',hc'⟩:=hB.cells hn;rw[e'] at e;injection e with e;injection e with e;subst e;exact zf (hc' 0 hn)
     have HCh:=hid (fun W (h:Below w.heap.size w W)=>ztj a e n cap m cm l ss W (hB.below h) (hS.below h) w.heap.size hbl h.size (by omega))
     have HFd:=hid (fun W B d t s ks es x mm cc c (h0:Below w.heap.size w W) (h1:DecM W B d L t s ks es) (h2:B≤W.heap.size) (h3:w.heap.size<d) (h4:d<B) (h5:t.length+mm≤800000000000) (hc:Byts W x mm cc c) (hx:0<mm→∀b o k,x=some ⟨b,o,k⟩→b<w.heap.size)=>
      zg3 h1 h2 h4 (by omega) (by omega) (hD.below (Nat.le_refl _) h0) hL x mm cc c hc (fun h b o k e=>by have:=hx h b o k e;omega) (by
       by_cases hm1:mm≤1
       · exact .inl hm1
       · exact .inr fun b o k e=>by have:=hx (by omega) b o k e;omega) h5)
     have HP:=hid (fun W y (hy:y≤n) (h:Below w.heap.size w W)=>zmg a y cap (l.take y) L W (zke (hB.below h) hy) (hD.below (Nat.le_refl _) h) hL (by omega));have Hcp:=hid hB.room;have Hlen:=hid hB.len;have Hlt:=hid hB.lt;have Hn:=hid hsm.1;have Hm:=hid hm20;unfold lmV at HNw HP ⊢;clear hB hS hL hD hwB hbB hsm hgl hbl hm20;go_enter Tryz.func13,Tryz.ntmps13;go_upto_region 1 with fail
     rw[←HwB.out];go_wp2_with fail;refine(HS.out _).mono ?_;rintro e w1 ⟨rfl,hb1⟩;have HG1:=hid (HG.out.later hb1);have Hb1:=hid (HbB.out.trans (hb1.mono Hsz.out));clear hb1 l0 l1 l2 l3 l4;have l0:=HG1.out.cell 0 rfl;have l1:=HG1.out.cell 1 rfl;have l2:=HG1.out.cell 2 rfl;have l3:=HG1.out.cell 3 rfl;have l4:=HG1.out.cell 4 rfl;go_wp2_with fail;refine(HNw.out _).mono ?_;rintro e w2 ⟨d,hd1,hd2,rfl,hr2,hb2⟩;have HG2:=hid (HG1.out.later hb2);have Hb2:=hid (Hb1.out.trans (hb2.mono Hb1.out.size));have HR2:=hid hr2;have Hd:=hid (show w.heap.size<d∧d<w2.heap.size from⟨Nat.lt_of_lt_of_le HG1.out.lt hd1,hd2⟩);clear hb2 hd1 hd2 hr2 l0 l1 l2 l3 l4;go_wp2_with fail;refine(HCh.out _ Hb2.out).mono ?_;rintro e w3 ⟨⟨g,gc,cs,rfl,hcl,hfl,hg1,hg2,hcs⟩,hb3⟩;have HG3:=hid (HG2.out.later hb3);have Hb3:=hid (Hb2.out.trans (hb3.mono Hb2.out.size));obtain⟨B,hBq⟩:∃B,w3.heap.size=B:=⟨_,rfl⟩;have HM3:=hid (show DecM w3 B d L [] dc0 [] [] from⟨_,_,Row.later HR2.out hb3,zi4 _,fun c h=>(by cases h),Nat.zero_le _,fun h=>by rcases h with h | h <;> cases h⟩);have Hdd:=hid (show w.heap.size<d∧d<B∧w.heap.size<B∧g<B∧d<g from⟨Hd.out.1,by have:=Hd.out.2;have:=hb3.size;omega,by have:=Hd.out;have:=hb3.size;omega,by omega,by have:=Hd.out.2;omega⟩);have HB3:=hid (Nat.le_of_eq hBq.symm);have Hfl:=hid hfl;have Hcl:=hid hcl;have Hcs:=hid hcs;have hcsm:cs.length≤21:=by have:=Hm.out;omega
     have hz0:([]:List Kno).length=0:=rfl;clear hb3 hg1 hg2 hcs hfl hcl hBq;go_wp2_with fail;go_loopw [8,9,11,12,13,14,15,35] (fun sn sv _ _ _ _ _ i wr=>∃(q:Nat) (t u:List Nat) (s:Dc) (ks:List Kno) (es:List Nat) (N K:Nat),q≤cs.length∧i=.int .i64 q∧sn=.int .i64 N∧sv=.int .i64 K∧Hid (N=(cs.take q).flatten.length∧K=ks.length∧t++u=(cs.take q).flatten∧(s.st<4→u=[]))∧Hid (DecM wr B d L t s ks es)∧Hid (Below w.heap.size w wr)∧Hid (ChkS wr w.heap.size g cs.length cs)∧Hid (Row wr w.heap.size 24 [.int .i64 L.1,.int .i64 L.2.1,.int .i64 L.2.2.1,.int .i64 L.2.2.2.1,.int .i64 L.2.2.2.2])∧Hid (B≤wr.heap.size)) (fun _ _ _ _ _ _ _ i _=>cs.length - (intOf i).toNat)
     case atStart=>exact⟨0,[],[],dc0,[],[],0,0,Nat.zero_le _,rfl,rfl,rfl,hid ⟨rfl,rfl,rfl,fun _=>rfl⟩,HM3,Hb3,Hcs,HG3,HB3⟩
     case round=>
      obtain⟨q,t,u,s,ks,es,N,K,hq,rfl,rfl,rfl,hN,hM,hb,hC,hG,hBr⟩:=hrel;by_cases hqn:q<cs.length
      · obtain⟨x,mm,cc,hcell,hcb,hcx⟩:=hC.out.at_ q hqn;have hfn:=zti hqn;have hfl1:=zmb cs (q+1);have hpre:=z17 cs (q+1);rw[Hfl.out,Hlen.out] at hfl1;rw[Hfl.out] at hpre;have hN1:(cs.take (q+1)).flatten.length=N+mm:=by rw[hfn,List.length_append,←hN.out.1,hcb.len]
        rw[hN1] at hfl1 hpre;have htl:t.length≤N:=by have:=congrArg List.length hN.out.2.2.1;rw[List.length_append,←hN.out.1] at this;omega
        have HF:=hid (HFd.out wr B d t s ks es x mm cc _ hb.out hM.out hBr.out Hdd.out.1 Hdd.out.2.1 (by have:=Hn.out;omega) hcb hcx);have HN1:=hid (show N+mm≤n∧(cs.take (q+1)).flatten.length=N+mm∧(cs.take (q+1)).flatten=l.take (N+mm) from⟨hfl1,hN1,hpre⟩);have hadd:IntKind.i64.wrap ((N:Int)+(mm:Int))=((N+mm:Nat):Int):=by have:=Hn.out;rw[IntKind.wrap_i64];omega
        have hmmm:mm≤9223372036854775807:=by have:=Hn.out;omega
        have Hon:=hid (fun t5 u5 ks5 es5=>zpc (L:=L) (c:=cs.getD q []) (t5:=t5) (u5:=u5) (ks5:=ks5) (es5:=es5) hN.out.2.2.1 hN.out.2.2.2 (show SI L t s ks es from hM.out.choose_spec.choose_spec.2.1));have Hfn:=hid hfn;clear hfn hfl1 hpre hN1 htl hcb hcx;go_wp2_with fail;refine HF.out.mono ?_;rintro e w5 ⟨V5,t5,u5,f5,rfl,hk5,e5,hu5,hM5,hlo5,-⟩;have hsi5:SI L t5 _ (ks++_) (es++f5):=hM5.choose_spec.choose_spec.2.1;obtain⟨v5,ev5,hv5⟩:=Hon.out t5 u5 _ _ e5 hu5 hsi5;obtain⟨s5,hs5⟩:∃s5,yk L { s with out:=[],sn:=0 } (cs.getD q [])=s5:=⟨_,rfl⟩;rw[hs5] at hk5 hM5 hsi5 hv5 ⊢;obtain⟨va,vc,rfl⟩:=hk5.slice;have hpar:=zl8 ev5 hsi5 hv5;rw[←Hfn.out,HN1.out.2.2] at hpar
        have hkl:ks.length+s5.out.length≤1000:=by
         obtain⟨q',h1,-⟩:=hpar;have h2:=zkd (fun c hc=>Hlt.out c (List.mem_of_mem_take hc)) h1;rw[List.length_append,List.length_take,Hlen.out] at h2;have:=h2.2 (Nat.zero_le _);have:=Hn.out;omega
        have htl5:s5.tk≤N+mm:=by
         rw[hsi5.tk];have:=congrArg List.length ev5;rw[←Hfn.out,HN1.out.2.1,List.length_append] at this;omega
        have htk0:s5.vc=0→s5.tk=N+mm:=fun h0=>by
         rw[hsi5.tk];have:=congrArg List.length ev5;rw[←Hfn.out,HN1.out.2.1,hv5 (hsi5.code h0),List.append_nil] at this;exact this
        have hN5:N+mm=(cs.take (q+1)).flatten.length∧t5++v5=(cs.take (q+1)).flatten∧(s5.st<4→v5=[]):=⟨HN1.out.2.1.symm,by rw[Hfn.out];exact ev5,hv5⟩;obtain⟨vc5,hvc5⟩:∃v,s5.vc=v:=⟨_,rfl⟩;obtain⟨vo5,hvo5⟩:∃v,s5.vo=v:=⟨_,rfl⟩;obtain⟨tk5,htk5⟩:∃v,s5.tk=v:=⟨_,rfl⟩;obtain⟨N5,hN5e⟩:∃v,N+mm=v:=⟨_,rfl⟩;obtain⟨K5,hK5e⟩:∃v,(ks++s5.out).length=v:=⟨_,rfl⟩;have HV:=hid (fun W (h:DecM W B d L t5 s5 (ks++s5.out) (es++f5))=>zpf s5 vc5 vo5 hvc5 hvo5 h);have HT:=hid (fun W (h:DecM W B d L t5 s5 (ks++s5.out) (es++f5))=>zpg s5 tk5 htk5 h);have haddK:IntKind.i64.wrap ((K:Int)+(s5.out.length:Int))=(K5:Int):=by rw[←hK5e,List.length_append,hN.out.2.1,IntKind.wrap_i64];omega
        have hsol:s5.out.length≤9223372036854775807:=by omega
        rw[hN5e] at hN5 htl5 htk0 HN1 hadd hpar;rw[hvc5] at htk0;rw[htk5] at htl5 htk0;rw[hvc5,hvo5] at hpar;have Hpar:=hid hpar;have HK5:=hid hK5e;have HN5:=hid (show N5=(cs.take (q+1)).flatten.length∧K5=(ks++s5.out).length∧t5++v5=(cs.take (q+1)).flatten∧(s5.st<4→v5=[]) from⟨hN5.1,hK5e.symm,hN5.2⟩);have Hb5:=hid (hb.out.trans (hlo5.toBelow (Nat.le_of_lt Hdd.out.2.2.1) (Nat.le_of_lt Hdd.out.1)));have HG5:=hid (hG.out.lo hlo5 Hdd.out.2.2.1 (Nat.ne_of_lt Hdd.out.1));have HC5:=hid (hC.out.lo hlo5 (Nat.le_of_lt Hdd.out.2.2.1) (Nat.le_of_lt Hdd.out.1) Hdd.out.2.2.2.1 (by have:=Hdd.out;omega));have HB5:=hid (Nat.le_trans hBr.out hlo5.size);have HM5:=hid hM5;have Htk:=hid (show tk5≤N5∧(vc5=0→tk5=N5) from⟨htl5,htk0⟩);have hNc:N5≤cap:=by have:=HN1.out.1;have:=Hcp.out;omega
        clear hk5 e5 hu5 hM5 hlo5 hsi5 ev5 hv5 hs5 hpar hkl htl5 htk0 hN5 hvc5 hvo5 htk5 hN5e hK5e hmmm;go_upto_region 13 with fail
        have HGe:=hid (HG5.out.later ((Below.refl w5.heap.size w5).alloc (Nat.le_refl _) (.cells #[.int .i64 0,.int .i64 0] 29)));have d0:=HG5.out.cell 0 rfl;have d1:=HG5.out.cell 1 rfl;have d2:=HG5.out.cell 2 rfl;have d3:=HG5.out.cell 3 rfl;have d4:=HG5.out.cell 4 rfl;have e0:=HGe.out.cell 0 rfl;have e1:=HGe.out.cell 1 rfl;have e2:=HGe.out.cell 2 rfl;have e3:=HGe.out.cell 3 rfl;have e4:=HGe.out.cell 4 rfl;clear hadd haddK hsol hcell
        go_region_with (first
         | (go_at_call 15
            first
            | (refine(HP.out w5.drew _ HN1.out.1 Hb5.out.drew).mono ?_
               rintro e w6 ⟨⟨ks6,es6,⟨x1,x2⟩,V,hP,rfl,hK⟩,hb6⟩;obtain⟨rfl,rfl,hx⟩:=zdl Hpar.out hP;injection hx with hx1 hx2;subst hx1 hx2;obtain⟨ka,kc,hV⟩:=hK.slice;rw[HK5.out] at hV;subst hV;have Hb6:=hid (show Below w5.heap.size w5 w6 from(Below.refl w5.heap.size w5).drew.trans hb6)
               clear hb6 hP hK)
            | (refine(HP.out (w5.alloc (.cells #[.int .i64 0,.int .i64 0] 29)).drew _ HN1.out.1 (Hb5.out.alloc Hb5.out.size _).drew).mono ?_
               rintro e w6 ⟨⟨ks6,es6,⟨x1,x2⟩,V,hP,rfl,hK⟩,hb6⟩;obtain⟨rfl,rfl,hx⟩:=zdl Hpar.out hP;injection hx with hx1 hx2;subst hx1 hx2;obtain⟨ka,kc,hV⟩:=hK.slice;rw[HK5.out] at hV;subst hV;have Hb6:=hid (show Below w5.heap.size w5 w6 from((Below.refl w5.heap.size w5).alloc (Nat.le_refl _) _).drew.trans (hb6.mono (by simp)));have HR6:=hid (show Row w6 w5.heap.size 29 [.int .i64 0,.int .i64 0] from(y7 w5 29 [.int .i64 0,.int .i64 0]).later ((Below.refl _ _).drew.trans hb6));have q0:=HR6.out.cell 0 rfl;have q1:=HR6.out.cell 1 rfl;have g0:=HR6.out.fz 0;have g1:=HR6.out.fz 1;clear hb6 hP hK)))
        all_goals
         first
         | (have HY0:=hid (y7 w6 29 [.int .i64 (x1:Nat),.int .i64 (x2:Nat)])
            have HbE0:=hid (Hb6.out.alloc Hb6.out.size (.cells #[.int .i64 (x1:Nat),.int .i64 (x2:Nat)] 29));obtain⟨wE,hwE⟩:∃wE,w6.alloc (.cells #[.int .i64 (x1:Nat),.int .i64 (x2:Nat)] 29)=wE:=⟨_,rfl⟩;rw[hwE];have HY:=hid (show Row wE w6.heap.size 29 [.int .i64 (x1:Nat),.int .i64 (x2:Nat)] from hwE ▸ HY0.out);have HbE:=hid (show Below w5.heap.size w5 wE from hwE ▸ HbE0.out);clear HY0 HbE0 hwE Hb6;generalize w6.heap.size=r at HY ⊢
            skip)
         | (have HY0:=hid ((HR6.out.set 0 (.int .i64 (x1:Nat))).set 1 (.int .i64 (x2:Nat)))
            have HbE0:=hid (zmf Hb6.out (i:=0) (j:=1) (x:=.int .i64 (x1:Nat)) (y:=.int .i64 (x2:Nat)) (show w5.heap.size≤w5.heap.size from Nat.le_refl _));obtain⟨wE,hwE⟩:∃wE,(w6.setCell ⟨w5.heap.size,0,none⟩ (.int .i64 (x1:Nat))).setCell ⟨w5.heap.size,1,none⟩ (.int .i64 (x2:Nat))=wE:=⟨_,rfl⟩;rw[hwE];have HY:=hid (show Row wE w5.heap.size 29 [.int .i64 (x1:Nat),.int .i64 (x2:Nat)] from hwE ▸ HY0.out);have HbE:=hid (show Below w5.heap.size w5 wE from hwE ▸ HbE0.out);clear HY0 HbE0 hwE Hb6 HR6 q0 q1 g0 g1;obtain⟨r,hr⟩:∃r,w5.heap.size=r:=⟨_,rfl⟩;rw[hr] at HY ⊢;clear hr
            skip)
         clear d0 d1 d2 d3 d4 e0 e1 e2 e3 e4;have HGE:=hid (HG5.out.later HbE.out);have HCE:=hid (HC5.out.later Hb5.out.size (by have:=Hdd.out.2.2.2.1;have:=HB5.out;omega) (by have:=Hdd.out;omega) HbE.out);have HME:=hid (HM5.out.later HbE.out);have HwE:=hid (Hb5.out.trans (HbE.out.mono Hb5.out.size));have HBE:=hid (Nat.le_trans HB5.out HbE.out.size);have hgt:decide ((N5:Int)<(tk5:Int))=false:=by rw[decide_eq_false_iff_not];have:=Htk.out.1;omega
         have hgt2:decide (N5<tk5)=false:=by rw[decide_eq_false_iff_not];have:=Htk.out.1;omega
         by_cases h0:x1=0
         · have h00:((x1:Int) == 0)=true:=by rw[beq_iff_eq];omega
           have hee:tk5=N5:=Htk.out.2 h0;have hne:((tk5:Int) != (N5:Int))=false:=by rw[bne_eq_false_iff_eq];omega
           have hne2:(tk5 != N5)=false:=by rw[bne_eq_false_iff_eq];exact hee
           clear h0 hee;go_upto_region 14 with fail
           refine jl (by kernel_rfl) (by kernel_rfl) ?_
           repeat (go_big_quiet_step ((intro hw;first
            | rfl
            | (go_at_call 22;exact jt hw (HV.out _ (HME.out.later hw)))
            | (go_at_call 49;exact jt hw (HT.out _ (HME.out.later hw)))
            | (have y0:=(HY.out.later hw).cell 0 rfl
               have y1:=(HY.out.later hw).cell 1 rfl;go_simp;first | rfl | exact⟨rfl,hw⟩ | (trace_state;fail)))))
           refine wpQuiet_nil ?_;intro w9 hb9;have HM9:=hid (HME.out.later hb9);have HG9:=hid (HGE.out.later hb9);have HC9:=hid (HCE.out.later HwE.out.size (by have:=Hdd.out.2.2.2.1;have:=HBE.out;omega) (by have:=Hdd.out;omega) hb9);have Hb9:=hid (HwE.out.trans (hb9.mono HwE.out.size));have HB9:=hid (Nat.le_trans HBE.out hb9.size);clear hb9;go_wp2_with fail;go_roundw
           case rel=>exact⟨q+1,t5,v5,s5,_,_,N5,K5,by omega,by go_num,rfl,rfl,HN5,HM9,Hb9,HC9,HG9,HB9⟩
           case measure=>simp[intOf];omega
         · have h00:((x1:Int) == 0)=false:=by rw[beq_eq_false_iff_ne];omega
           clear h0;go_upto_region 14 with fail
           refine jl (by kernel_rfl) (by kernel_rfl) ?_
           repeat (go_big_quiet_step ((intro hw;first
            | rfl
            | (go_at_call 22;exact jt hw (HV.out _ (HME.out.later hw)))
            | (go_at_call 49;exact jt hw (HT.out _ (HME.out.later hw)))
            | (have y0:=(HY.out.later hw).cell 0 rfl
               have y1:=(HY.out.later hw).cell 1 rfl;go_simp;first | rfl | exact⟨rfl,hw⟩ | (trace_state;fail)))))
           refine wpQuiet_nil ?_;intro w9 hb9;have HM9:=hid (HME.out.later hb9);have HG9:=hid (HGE.out.later hb9);have HC9:=hid (HCE.out.later HwE.out.size (by have:=Hdd.out.2.2.2.1;have:=HBE.out;omega) (by have:=Hdd.out;omega) hb9);have Hb9:=hid (HwE.out.trans (hb9.mono HwE.out.size));have HB9:=hid (Nat.le_trans HBE.out hb9.size);clear hb9;go_wp2_with fail;go_roundw
           case rel=>exact⟨q+1,t5,v5,s5,_,_,N5,K5,by omega,by go_num,rfl,rfl,HN5,HM9,Hb9,HC9,HG9,HB9⟩
           case measure=>simp[intOf];omega
      · obtain rfl:q=cs.length:=by omega
        go_wp2_with fail;refine(HA.out _ hb.out).mono ?_;rintro e w5 ⟨rfl,hb5⟩;have Hb5:=hid (hb.out.trans (hb5.mono hb.out.size));clear hb5;go_wp2_with fail;go_ret;exact⟨rfl,Hb5.out⟩
   · have d20:decide (20<(m:Int))=true:=by rw[decide_eq_true_iff];omega
     have d20':decide (20<m)=true:=by rw[decide_eq_true_iff];omega
     clear hB hS hL hD hwB hbB hsm hm20;unfold lmV;go_enter Tryz.func13,Tryz.ntmps13;go_upto_region 1 with fail
     rw[←HwB.out];go_wp2_with fail;refine(HS.out _).mono ?_;rintro e w1 ⟨rfl,hb1⟩;have Hb1:=hid (HbB.out.trans (hb1.mono Hsz.out));clear hb1 l0 l1 l2 l3 l4;go_wp2_with fail;refine(HA.out _ Hb1.out).mono ?_;rintro e w2 ⟨rfl,hb2⟩;have Hb2:=hid (Hb1.out.trans (hb2.mono Hb1.out.size));clear hb2;go_wp2_with fail;go_ret;exact⟨rfl,Hb2.out⟩
 · have HS:=hid (fun W=>HS0.out W false (by rw[decide_eq_false hsm]));clear hB hS hL hD hwB hbB hsm;unfold lmV;go_enter Tryz.func13,Tryz.ntmps13;go_upto_region 1 with fail
   rw[←HwB.out];go_wp2_with fail;refine(HS.out _).mono ?_;rintro e w1 ⟨rfl,hb1⟩;have Hb1:=hid (HbB.out.trans (hb1.mono Hsz.out));clear hb1 l0 l1 l2 l3 l4;go_wp2_with fail;refine(HA.out _ Hb1.out).mono ?_;rintro e w2 ⟨rfl,hb2⟩;have Hb2:=hid (Hb1.out.trans (hb2.mono Hb1.out.size));clear hb2;go_wp2_with fail;go_ret;exact⟨rfl,Hb2.out⟩
end
