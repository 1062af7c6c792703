/- Walks and laws, joined: Wb52. -/
import Derived.Test.YtdnjfnofjaoajaaGreatDoorWb50
import Derived.Test.YtdnjfnofjaoajaaGreatDoorWb51
set_option linter.unusedVariables false
set_option maxHeartbeats 16000000
namespace Go.Proofs.YtdnjfnofjaoajaaGreatDoor
open Lib (hid)
section
open Go.RowKit
attribute [local go_sem] vq
theorem zfg (n:Nat):zc4 n≠0:=by
 match n with
 | 0=>decide
 | 1=>decide
 | 2=>decide
 | n+3=>exact show (3:Nat)≠0 by decide
theorem zfh:(Tryz.prog.info? 211).map (·.size)=some 1:=by kernel_rfl
set_option maxRecDepth 20000 in
theorem ybw (a:Option Addr) (n cap:Nat) (k:Kno) (w:World) (hE:Frags w a n cap k) (hD:Door w) (hCo:Codes w) (hv:∀f∈k,VecFits f.2) (hI:4*yf k+1≤900000):
 Calls Tryz.prog 74 #[.slice a n cap] w fun x w'=>x=.returned (yl (yj (ckC k)))∧Below w.heap.size w w':=by
 have HE:=hid hE;have HD:=hid hD;have HCo:=hid hCo;have Hv:=hid hv;have HI:=hid hI;have Hl:=hid hE.len;have hm:n≤9223372036854775807:=Nat.le_trans hE.room hE.most;have Hlt:=hid (fun f (hf:f∈k)=>(hE.all f hf).1);have Hck:=hid (show ckC k=match ckF k with | some x=>some x | none=>qj (zdy k) k.length from rfl);have hC:=hid (zlc a n cap k w hE hD);have Hs:=hid (fun f (hf:f∈k) e (he:e∈f.2)=>show e.2.2.length≤1000000 by have:=(hv f hf).holes e he;omega)
 cases h:ckF k with
 | some x=>
  obtain⟨cd,ci⟩:=x;rw[h] at hC Hck;simp only[yj,yl] at hC Hck;clear hE hD hCo hv hI h;go_enter Tryz.func74,Tryz.ntmps74;go_wp2_with fail;refine hC.out.mono ?_;rintro e w1 ⟨rfl,hb1⟩;have Hb1:=hid hb1;clear hb1;go_wp2;go_ret
  exact⟨by rw[Hck.out];rfl,Hb1.out⟩
 | none=>
  rw[h] at hC Hck;simp only[yj,yl] at hC Hck;have HG:=hid (fun f hf=>((zez.1 h) f hf).1);clear hE hD hCo hv hI h;go_enter Tryz.func74,Tryz.ntmps74;go_wp2_with fail;refine hC.out.mono ?_;rintro e w1 ⟨rfl,hb1⟩;have Hb1:=hid hb1;clear hb1;go_wp2;go_loopw [4,5,6,7,8,16] (fun s _ _ _ _ i wr=>∃(d:Nat) (b:Option Addr) (bn bc:Nat),d≤n∧i=.int .i64 d∧s=.slice b bn bc∧Below w.heap.size w wr∧Hid (Ivs wr b bn bc (jj k d))∧Hid (∀j,j<d→zdy k j=none)) (fun _ _ _ _ _ i _=>n - (intOf i).toNat)
  case atStart=>exact⟨0,none,0,0,by omega,rfl,rfl,Hb1.out,zgd _,fun j h=>by omega⟩
  case round=>
   obtain⟨d,b,bn,bc,hd,rfl,rfl,hb,hB,ht⟩:=hrel;have Hb:=hid hb;clear hb;by_cases hdn:d<n
   · have hdk:d<k.length:=by rw[Hl.out];exact hdn
     have HEr:=hid (HE.out.below Hb.out);obtain⟨bb,oo,rfl⟩:=HEr.out.some (by omega);obtain⟨x,m,c,y,m',c',hq⟩:=HEr.out.fix hdn;have Hq:=hid hq;have Hat:=hid (show zdy k d=if zbl k d=0 then none else some (zbl k d,d) from rfl);have hal:Below wr.heap.size wr (wr.alloc (.cells #[.slice x m c,.slice y m' c'] 85)):=(Below.refl _ _).alloc (Nat.le_refl _) _;have HX:=hid (zis wr (.slice x m c) (.slice y m' c') 85);have Hal:=hid hal;have h0:(0:Int)≤d:=by omega
     have h04:(d:Int)<(n:Int):=by omega
     obtain⟨q1,-,q2,-⟩:=hq _ (Below.refl _ _);have HBk:=hid (zpr Hlt.out d);have HWb:=hid (ybp Hlt.out hdk)
     have HAll:=hid (fun (q:Nat) (z:Bool) (hz:brk k d (jj k d) q=z) (w':World) (hx:Below wr.heap.size wr w')=>
      show Calls Tryz.prog (zyd q) #[.slice (some ⟨bb,oo,none⟩) n cap,.int .i64 d,.slice b bn bc] w' fun x w''=>x=.returned (.bool z)∧Below w'.heap.size w' w'' from
       hz ▸ ybv q (some ⟨bb,oo,none⟩) b n cap d bn bc k (jj k d) w' (HEr.out.below hx) hdn (hB.below hx) HBk.out.1 HG.out (HD.out.below (Nat.le_refl _) (Hb.out.trans (hx.mono Hb.out.size))) Hs.out Hv.out)
     have HCd:=hid (fun w' (hx:Below wr.heap.size wr w')=>(HCo.out.below (Hb.out.trans (hx.mono Hb.out.size))))
     have HUn:=hid (fun w' (hx:Below wr.heap.size wr w')=>zoj b x bn bc m c (jj k d) (za k d).1 w' (hB.below hx) ((Hq.out _ hx).2.1) HBk.out.1 (HG.out _ (yb hdk)) (by
      have h1:=HBk.out.2.2.2;have h2:=zc8 (yb hdk);have h3:=HI.out;omega))
     have HBl:=hid ((zpr Hlt.out (d+1)).2.1);have HBs:=hid (ybn hdk);have HB:=hid hB;clear hq hal hB;go_wp2_with fail;refine(ybq _).mono ?_;rintro e w2 ⟨rfl,hb2⟩;have Hb2:=hid hb2;have Hw2:=hid (Hal.out.trans (hb2.mono Hal.out.size));clear hb2 q1 q2;unfold zps zje;go_wp2;go_loopw [7,8,22] (fun _ _ i wq=>∃q:Nat,q≤4∧i=.int .i64 q∧Below w2.heap.size w2 wq∧Hid (∀j,j<q→brk k d (jj k d) j=false)) (fun _ _ i _=>4 - (intOf i).toNat)
     case atStart=>exact⟨0,by omega,rfl,Below.refl _ _,fun j h=>by omega⟩
     case round=>
      obtain⟨q,hq4,rfl,hbq,htq⟩:=hrel;have Hbq:=hid hbq;have Hwq:=hid (Hw2.out.trans (hbq.mono Hw2.out.size));clear hbq;by_cases hq3:q<4
      · rcases(by omega:q=0∨q=1∨q=2∨q=3) with rfl | rfl | rfl | rfl
        · cases hz:brk k d (jj k d) 0 with
          | true=>
           have hC:=hid (HAll.out 0 true hz);have HA:=hid (fun o=>Hwq.out.alloc (o:=o) Hwq.out.size);have Hwk:=hid (HWb.out.1 0 (by omega) htq.out hz);have Hr:=hid (jg hdk ht (Hat.out.trans (by rw[Hwk.out,if_neg (zfg 0)])));clear hz hq3 hq4;go_wp2_with (refine ji _ _ _ rfl rfl _ 0 4 211 _ _ rfl rfl Tryz.underlying212 (by omega) Tryz.underlying211 zfh rfl ?_);refine(hC.out _ (HA.out _)).mono ?_;rintro e w3 ⟨rfl,hb3⟩;have Hb3:=hid ((HA.out _).trans (hb3.mono (HA.out _).size));clear hb3;have hc:=HCd.out _ Hb3.out 0 (by omega);go_wp2_with fail;refine(zaf (zc4 0) d _).mono ?_;rintro e w4 ⟨rfl,rfl⟩;go_wp2;go_ret
           exact⟨by rw[Hck.out,Hr.out];show _=Ending.returned (yl (some ((zc4 0:Int),some (d:Int))));rw[←zfz d (zfg 0)];rfl,Hb.out.trans (Hb3.out.mono Hb.out.size)⟩
          | false=>
           have hC:=hid (HAll.out 0 false hz);have HA:=hid (fun o=>Hwq.out.alloc (o:=o) Hwq.out.size);have HA2:=hid (fun o=>Hbq.out.alloc (o:=o) Hbq.out.size)
           have Ht2:=hid (fun j (hj:j<1)=>show brk k d (jj k d) j=false from by
            rcases Nat.lt_or_ge j 0 with h | h
            · exact htq.out j h
            · rw[show j=0 by omega];exact hz)
           clear hz hq3 hq4;go_wp2_with (refine ji _ _ _ rfl rfl _ 0 4 211 _ _ rfl rfl Tryz.underlying212 (by omega) Tryz.underlying211 zfh rfl ?_);refine(hC.out _ (HA.out _)).mono ?_;rintro e w3 ⟨rfl,hb3⟩;have Hb3:=hid ((HA2.out _).trans (hb3.mono (HA2.out _).size));clear hb3;go_wp2;go_roundw
           case rel=>exact⟨1,by omega,by go_num,Hb3.out,Ht2.out⟩
           case measure=>simp[intOf]
        · cases hz:brk k d (jj k d) 1 with
          | true=>
           have hC:=hid (HAll.out 1 true hz);have HA:=hid (fun o=>Hwq.out.alloc (o:=o) Hwq.out.size);have Hwk:=hid (HWb.out.1 1 (by omega) htq.out hz);have Hr:=hid (jg hdk ht (Hat.out.trans (by rw[Hwk.out,if_neg (zfg 1)])));clear hz hq3 hq4;go_wp2_with (refine ji _ _ _ rfl rfl _ 1 4 211 _ _ rfl rfl Tryz.underlying212 (by omega) Tryz.underlying211 zfh rfl ?_);refine(hC.out _ (HA.out _)).mono ?_;rintro e w3 ⟨rfl,hb3⟩;have Hb3:=hid ((HA.out _).trans (hb3.mono (HA.out _).size));clear hb3;have hc:=HCd.out _ Hb3.out 1 (by omega);go_wp2_with fail;refine(zaf (zc4 1) d _).mono ?_;rintro e w4 ⟨rfl,rfl⟩;go_wp2;go_ret
           exact⟨by rw[Hck.out,Hr.out];show _=Ending.returned (yl (some ((zc4 1:Int),some (d:Int))));rw[←zfz d (zfg 1)];rfl,Hb.out.trans (Hb3.out.mono Hb.out.size)⟩
          | false=>
           have hC:=hid (HAll.out 1 false hz);have HA:=hid (fun o=>Hwq.out.alloc (o:=o) Hwq.out.size);have HA2:=hid (fun o=>Hbq.out.alloc (o:=o) Hbq.out.size)
           have Ht2:=hid (fun j (hj:j<2)=>show brk k d (jj k d) j=false from by
            rcases Nat.lt_or_ge j 1 with h | h
            · exact htq.out j h
            · rw[show j=1 by omega];exact hz)
           clear hz hq3 hq4;go_wp2_with (refine ji _ _ _ rfl rfl _ 1 4 211 _ _ rfl rfl Tryz.underlying212 (by omega) Tryz.underlying211 zfh rfl ?_);refine(hC.out _ (HA.out _)).mono ?_;rintro e w3 ⟨rfl,hb3⟩;have Hb3:=hid ((HA2.out _).trans (hb3.mono (HA2.out _).size));clear hb3;go_wp2;go_roundw
           case rel=>exact⟨2,by omega,by go_num,Hb3.out,Ht2.out⟩
           case measure=>simp[intOf]
        · cases hz:brk k d (jj k d) 2 with
          | true=>
           have hC:=hid (HAll.out 2 true hz);have HA:=hid (fun o=>Hwq.out.alloc (o:=o) Hwq.out.size);have Hwk:=hid (HWb.out.1 2 (by omega) htq.out hz);have Hr:=hid (jg hdk ht (Hat.out.trans (by rw[Hwk.out,if_neg (zfg 2)])));clear hz hq3 hq4;go_wp2_with (refine ji _ _ _ rfl rfl _ 2 4 211 _ _ rfl rfl Tryz.underlying212 (by omega) Tryz.underlying211 zfh rfl ?_);refine(hC.out _ (HA.out _)).mono ?_;rintro e w3 ⟨rfl,hb3⟩;have Hb3:=hid ((HA.out _).trans (hb3.mono (HA.out _).size));clear hb3;have hc:=HCd.out _ Hb3.out 2 (by omega);go_wp2_with fail;refine(zaf (zc4 2) d _).mono ?_;rintro e w4 ⟨rfl,rfl⟩;go_wp2;go_ret
           exact⟨by rw[Hck.out,Hr.out];show _=Ending.returned (yl (some ((zc4 2:Int),some (d:Int))));rw[←zfz d (zfg 2)];rfl,Hb.out.trans (Hb3.out.mono Hb.out.size)⟩
          | false=>
           have hC:=hid (HAll.out 2 false hz);have HA:=hid (fun o=>Hwq.out.alloc (o:=o) Hwq.out.size);have HA2:=hid (fun o=>Hbq.out.alloc (o:=o) Hbq.out.size)
           have Ht2:=hid (fun j (hj:j<3)=>show brk k d (jj k d) j=false from by
            rcases Nat.lt_or_ge j 2 with h | h
            · exact htq.out j h
            · rw[show j=2 by omega];exact hz)
           clear hz hq3 hq4;go_wp2_with (refine ji _ _ _ rfl rfl _ 2 4 211 _ _ rfl rfl Tryz.underlying212 (by omega) Tryz.underlying211 zfh rfl ?_);refine(hC.out _ (HA.out _)).mono ?_;rintro e w3 ⟨rfl,hb3⟩;have Hb3:=hid ((HA2.out _).trans (hb3.mono (HA2.out _).size));clear hb3;go_wp2;go_roundw
           case rel=>exact⟨3,by omega,by go_num,Hb3.out,Ht2.out⟩
           case measure=>simp[intOf]
        · cases hz:brk k d (jj k d) 3 with
          | true=>
           have hC:=hid (HAll.out 3 true hz);have HA:=hid (fun o=>Hwq.out.alloc (o:=o) Hwq.out.size);have Hwk:=hid (HWb.out.1 3 (by omega) htq.out hz);have Hr:=hid (jg hdk ht (Hat.out.trans (by rw[Hwk.out,if_neg (zfg 3)])));clear hz hq3 hq4;go_wp2_with (refine ji _ _ _ rfl rfl _ 3 4 211 _ _ rfl rfl Tryz.underlying212 (by omega) Tryz.underlying211 zfh rfl ?_);refine(hC.out _ (HA.out _)).mono ?_;rintro e w3 ⟨rfl,hb3⟩;have Hb3:=hid ((HA.out _).trans (hb3.mono (HA.out _).size));clear hb3;have hc:=HCd.out _ Hb3.out 3 (by omega);go_wp2_with fail;refine(zaf (zc4 3) d _).mono ?_;rintro e w4 ⟨rfl,rfl⟩;go_wp2;go_ret
           exact⟨by rw[Hck.out,Hr.out];show _=Ending.returned (yl (some ((zc4 3:Int),some (d:Int))));rw[←zfz d (zfg 3)];rfl,Hb.out.trans (Hb3.out.mono Hb.out.size)⟩
          | false=>
           have hC:=hid (HAll.out 3 false hz);have HA:=hid (fun o=>Hwq.out.alloc (o:=o) Hwq.out.size);have HA2:=hid (fun o=>Hbq.out.alloc (o:=o) Hbq.out.size)
           have Ht2:=hid (fun j (hj:j<4)=>show brk k d (jj k d) j=false from by
            rcases Nat.lt_or_ge j 3 with h | h
            · exact htq.out j h
            · rw[show j=3 by omega];exact hz)
           clear hz hq3 hq4;go_wp2_with (refine ji _ _ _ rfl rfl _ 3 4 211 _ _ rfl rfl Tryz.underlying212 (by omega) Tryz.underlying211 zfh rfl ?_);refine(hC.out _ (HA.out _)).mono ?_;rintro e w3 ⟨rfl,hb3⟩;have Hb3:=hid ((HA2.out _).trans (hb3.mono (HA2.out _).size));clear hb3;go_wp2;go_roundw
           case rel=>exact⟨4,by omega,by go_num,Hb3.out,Ht2.out⟩
           case measure=>simp[intOf]
      · obtain rfl:q=4:=by omega
        have Hwk:=hid (HWb.out.2 htq.out);have Hr:=hid (ko ht (Hat.out.trans (if_pos Hwk.out)));obtain⟨x0,x1⟩:=HX.out _ (Hb2.out.trans (Hbq.out.mono Hb2.out.size));go_wp2_with fail;refine(HUn.out _ Hwq.out).mono ?_;rintro e w3 ⟨⟨v,rfl,ho⟩,hb3⟩;have Hb3:=hid (Hb.out.trans ((Hwq.out.trans (hb3.mono Hwq.out.size)).mono Hb.out.size));obtain⟨b2,c2,rfl,hI2⟩:=zah ho (HBs.out ▸ HBl.out);have HI2:=hid hI2;clear ho hb3 hI2;go_wp2;go_roundw
        case rel=>exact⟨d+1,b2,_,c2,by omega,by go_num,rfl,Hb3.out,by rw[HBs.out];exact HI2.out,Hr.out⟩
        case measure=>simp[intOf];omega
   · obtain rfl:d=n:=by omega
     have Hr:=hid (k7 (n:=k.length) (fun j hj=>ht j (by rw[←Hl.out];exact hj)));clear hB;go_wp2;go_ret;exact⟨by rw[Hck.out,Hr.out];rfl,Hb.out⟩
end
section
open Go.RowKit
theorem ybx (a:Option Addr) (n cap:Nat) (k:Kno) (w:World) (hE:Frags w a n cap k) (hD:Door w) (hCo:Codes w) (hv:∀f∈k,VecFits f.2) (hI:4*yf k+1≤900000):
 Calls Tryz.prog 37 #[.slice a n cap] w fun x w'=>x=.returned (.bool (decide (ckC k=none)))∧Below w.heap.size w w':=by
 have hC:=hid (ybw a n cap k w hE hD hCo hv hI);clear hE hD hCo hv hI
 cases h:ckC k with
 | none=>
  rw[h] at hC;simp only[yj,yl] at hC;clear h;go_enter Tryz.func37,Tryz.ntmps37;go_wp2_with fail;refine hC.out.mono ?_;rintro e w1 ⟨rfl,hb1⟩;have Hb1:=hid hb1;clear hb1;go_wp2;go_ret
  exact⟨by simp,Hb1.out⟩
 | some x=>
  obtain⟨cd,i⟩:=x;rw[h] at hC;simp only[yj,yl] at hC;clear h;go_enter Tryz.func37,Tryz.ntmps37;go_wp2_with fail;refine hC.out.mono ?_;rintro e w1 ⟨rfl,hb1⟩;have Hb1:=hid hb1;clear hb1;go_wp2;go_ret;exact⟨by simp,Hb1.out⟩
end
section
theorem zye {k:Kno} (h:k.Pairwise jy) {i j:Nat} (hij:i<j) (hj:j<k.length):jy (za k i) (za k j):=by
 have:=List.pairwise_iff_getElem.1 h i j (by omega) hj hij;rwa [ym (by omega),ym hj]
theorem yby {k:Kno} (hk:LtK k) (hc:CanK k):ckC k=none:=by
 have h1:ckF k=none:=zez.2 fun f hf=>⟨(hc.items f hf).1,zlf (hc.vec f hf).1⟩
 unfold ckC;rw[h1];refine k7 fun i hi=>?_
 unfold zdy;have hm:=yb hi;rw[if_pos (zx1.2 ⟨⟨(hc.items _ hm).2,(hc.vec _ hm).2⟩,znj.2 (hc.vec _ hm).1,fun j hj=>?_,fun h0=>zye hc.asc (by omega) hi⟩)];have hmj:=yb (k:=k) (i:=j) (by omega);refine Decidable.by_contra fun hn=>?_
 obtain⟨x,x1,x2⟩:=(zpn (hk _ hm).items (hk _ hmj).items).1 hn;have e:=hc.apart _ hm _ hmj x x1 x2;have hl:=zye hc.asc hj hi;rw[e] at hl;unfold jy at hl;rw[zgi] at hl;cases hl
end
section
open Go.RowKit
theorem ybz {v:Vec} (h:(vw v).length≤500):VecFits v:=by
 obtain⟨h1,h2⟩:=zpp v v.length;unfold vw at h;refine⟨by omega,fun e he=>?_⟩;obtain⟨i,hi,rfl⟩:=List.getElem_of_mem he;have:=h2 i hi;rw[qn hi] at this;omega
theorem zyf {c:Kno} (hc:CanK c) (hk:LtK c) (h:(zo (zk c)).length≤500):EncK c∧Joins c∧zh c=c:=by
 have h0:=zpo (zk c);have e:(zk c).length=(y8 c c.length).length+(1+3*(zj c).length):=by unfold zk;rw[List.length_append,zeb]
 have hs:(zj c).length=yf c:=by
  have:=ze0 c c.length (Nat.le_refl _);rw[List.take_length] at this;exact this
 obtain⟨v1,v2⟩:=zpq c c.length
 have hv:∀f∈c,VecFits f.2:=fun f hf=>by
  obtain⟨i,hi,rfl⟩:=List.getElem_of_mem hf;have:=v2 i hi;rw[ym hi] at this;exact ybz (by omega)
 exact⟨⟨hc,hk,hv,by omega,by omega⟩,zuu hk hc (zus hk hc (by omega) (fun f hf=>by have:=zc8 hf;omega) hv),zyb hk hc⟩
theorem yb0 (a:Option Addr) (n cap:Nat) (k:Kno) (w:World) (hE:Frags w a n cap k) (hD:Door w) (hc:CanK k) (hk:LtK k) (h500:(zo (zk k)).length≤500):
 Calls Tryz.prog 35 #[.slice a n cap] w fun x w'=>(∃b c,x=.returned (.tuple #[.slice b (zo (zk k)).length c,.nilIface])∧Byts w' b (zo (zk k)).length c (zo (zk k)))∧Below w.heap.size w w':=by
 obtain⟨hK,hJ,hs⟩:=zyf hc hk h500;have h1:=hK.sum;have h2:=hK.len;have hck:ckF k=none:=zez.2 fun f hf=>⟨(hc.items f hf).1,zlf (hc.vec f hf).1⟩
 have hE':=zox a n cap k w hE hD hck hJ (Nat.le_trans (zlg _) (by omega)) (by rw[hs];exact hk) (by rw[hs];exact hc) (by rw[hs];omega) (by rw[hs];exact hK.vec) (by rw[hs];exact fun d hd=>by have:=zlq hK d hd;omega) (by rw[hs];omega);rw[hs] at hE';refine hE'.mono ?_;rintro x w' ⟨⟨v,rfl,hv⟩,hb⟩
 obtain⟨b,c,rfl,hB⟩:=zek hv (fun c hc=>by
  obtain⟨y,-,h⟩:=List.mem_flatMap.1 hc;exact zhk 9 y c h)
 exact⟨⟨b,c,rfl,hB⟩,hb⟩
end
section
def pk (t:Nat):Nat:=match t with | 2=>1 | 3=>2 | 4=>3 | 5=>3 | _=>0
def ph (t:Nat):Nat:=match t with | 5=>1 | _=>0
structure PCost (s:PS) (n:Nat):Prop where
 v:3*s.v.length+pk s.tag≤n
 e:∀e∈s.v,2*e.2.2.length≤n
 h:2*s.h.length+ph s.tag≤n
theorem PCost.mono {s:PS} {n m:Nat} (h:PCost s n) (hm:n≤m):PCost s m:=⟨Nat.le_trans h.v hm,fun e he=>Nat.le_trans (h.e e he) hm,Nat.le_trans h.h hm⟩
theorem zl8 (n:Nat):PCost ps0 n:=⟨Nat.zero_le _,fun e h=>(by cases h),Nat.zero_le _⟩
theorem zyg {s:PS} {n k:Nat} {l:List Iv} (hv:3*s.v.length+3≤n) (he:∀e∈s.v,2*e.2.2.length≤n) (hl:2*l.length≤n):PCost (vh s k l) n:=by
 have hv2:∀e∈s.v++[(s.rep,s.mx,l)],2*e.2.2.length≤n:=fun e h=>by
  rcases List.mem_append.1 h with h | h
  · exact he e h
  · rw[List.mem_singleton] at h;subst h;exact hl
 have hl2:3*(s.v++[(s.rep,s.mx,l)]).length≤n:=by rw[List.length_append];simp only[List.length_cons,List.length_nil];omega
 unfold vh;split
 · exact⟨hv,he,hl⟩
 · split
   · exact⟨hl2,hv2,Nat.zero_le _⟩
   · exact⟨hl2,hv2,Nat.zero_le _⟩
theorem zyh {le lh:Int} {s s':PS} {x rest n:Nat} (hs:PCost s n) (ht:s.tag<6) (h:qb le lh s x rest=.ok s'):PCost s' (n+1):=by
 obtain⟨hv,he,hh⟩:=hs;have he':=fun e h=>Nat.le_trans (he e h) (Nat.le_succ n)
 obtain⟨tag,v,rep,mx,hs,ents,hls,lo⟩:=s;simp only at ht hv he he' hh;rcases(by omega:tag=0∨tag=1∨tag=2∨tag=3∨tag=4∨tag=5) with rfl | rfl | rfl | rfl | rfl | rfl <;> simp only[qb] at h <;> simp only[pk,ph] at hv hh
 · split at h
   · cases h
   · split at h
     · cases h
     · cases h;exact⟨Nat.zero_le _,fun e h=>(by cases h),by simp only[ph];omega⟩
 · cases hr:zay v x with
   | none=>rw[hr] at h;cases h
   | some r=>rw[hr] at h;cases h;exact⟨by simp only[pk];omega,he',by simp only[ph];omega⟩
 · cases h;exact⟨by simp only[pk];omega,he',by simp only[ph];omega⟩
 · split at h
   · cases h
   · cases h;exact zyg (by simp only;omega) he' (Nat.zero_le _)
 · cases hr:loP (jv hs) 1 x with
   | none=>rw[hr] at h;cases h
   | some r=>rw[hr] at h;cases h;exact⟨by simp only[pk];omega,he',by simp only[ph];omega⟩
 · split at h
   · cases h;exact zyg (by simp only;omega) he' (by rw[List.length_append];simp only[List.length_cons,List.length_nil];omega)
   · cases h
theorem zyi {s:PS} {n:Nat} (h:PCost s n) (hn:n≤500):VecFits s.v:=⟨by have:=h.v;omega,fun e he=>by have:=h.e e he;omega⟩
theorem yb1 {E:Nat} {L:zt} {s s':WS} {x p q:Nat} (hI:WInv s) (h4:s.tag<4) (hpq:p<q) (hq:q≤500) (h:qm E L s x p q=.ok s') (hv:∀v∈s.vs,VecFits v) (hc:PCost s.inner p):(∀v∈s'.vs,VecFits v)∧PCost s'.inner q:=by
 have hm:=hc.mono (Nat.le_of_lt hpq)
 have fin:∀t:WS,t.vs=s.vs→t.inner=s.inner→∀t',k9 E t q=.ok t'→(∀v∈t'.vs,VecFits v)∧PCost t'.inner q:=fun t h1 h2 t' h=>by
  unfold k9 at h;split at h
  · cases h
  · split at h
    · cases h
    · injection h with h;subst h;exact⟨by show ∀v∈t.vs,VecFits v;rw[h1];exact hv,by show PCost t.inner q;rw[h2];exact hm⟩
 by_cases h1:s.tag=1
 · obtain⟨i1,-⟩:=hI.inner h1;unfold qm at h;simp only[h1] at h;split at h
   · cases h
   · rename_i i hi;have hi':=(zyh hc i1 hi).mono (show p+1≤q by omega);by_cases h6:i.tag=6
     · rw[if_pos h6] at h;split at h
       · cases h
       · have hvv:∀v∈s.vs++[i.v],VecFits v:=fun v hm=>by
          rcases List.mem_append.1 hm with h | h
          · exact hv v h
          · rw[List.mem_singleton] at h;subst h;exact zyi hi' hq
         split at h
         · injection h with h;subst h;exact⟨hvv,zl8 _⟩
         · injection h with h;subst h;exact⟨hvv,zl8 _⟩
     · rw[if_neg h6] at h;injection h with h;subst h;exact⟨hv,hi'⟩
 · unfold qm at h;split at h
   · split at h
     · cases h
     · split at h
       · injection h with h;subst h;exact⟨hv,hm⟩
       · injection h with h;subst h;exact⟨hv,zl8 _⟩
   · rename_i e;exact absurd e h1
   · split at h
     · cases h
     · split at h
       · exact fin _ rfl rfl _ h
       · injection h with h;subst h;exact⟨hv,hm⟩
   · split at h
     · split at h
       · cases h
       · injection h with h;subst h;exact⟨hv,hm⟩
     · split at h
       · injection h with h;subst h;exact⟨hv,hm⟩
       · cases h
     · split at h
       · cases h
       · split at h
         · cases h
         · split at h
           · exact fin _ (by rfl) (by rfl) _ h
           · injection h with h;subst h;exact⟨hv,hm⟩
   · injection h with h;subst h;exact⟨hv,hm⟩
theorem yb2 (L:zt) {l:List Nat} (hl:∀c∈l,c<256) (h5:l.length≤500):GoodG (fun s p=>(∀v∈s.vs,VecFits v)∧PCost s.inner p∧(s.tag=1→s.inner.tag<6)) L l:=by
 refine⟨⟨fun v h=>(by cases h),zl8 _,fun _=>by simp[ws0,ps0]⟩,?_,fun s p h=>h.1,?_⟩
 · rintro s p x q s' ⟨h1,h2,-⟩ hI h4 ht hs;obtain⟨t1,t2,-⟩:=zde hl ht;obtain⟨a,b⟩:=yb1 hI h4 t1 (by omega) hs h1 h2;exact⟨a,b,fun h=>((zfx hI h4 hs).inner h).1⟩
 · rintro s p x q ⟨h1,h2,h3⟩ ht ht1 i hi h6;obtain⟨t1,t2,-⟩:=zde hl ht;exact zyi ((zyh h2 (h3 ht1) hi).mono (show p+1≤q by omega)) (by omega)
end
section
open Go.RowKit
set_option maxRecDepth 100000 in
theorem yb3 (a:Option Addr) (n cap:Nat) (l:List Nat) (w:World) (hB:Byts w a n cap l) (hD:Door w) (hC:Codes w):
 Calls Tryz.prog 9 #[.slice a n cap] w fun e w'=>e=.returned (.bool true)∧Below w.heap.size w w':=by
 have HD:=hid (fun W (h:Below w.heap.size w W)=>hD.below (Nat.le_refl _) h);have HC:=hid (fun W (h:Below w.heap.size w W)=>hC.below h);have HB:=hid (fun W (h:Below w.heap.size w W)=>hB.below h);have HA:=hid (fun W (h:Below w.heap.size w W)=>zl2 W (HD.out W h));have hlt:=hB.lt;have hlen:=hB.len;have hnm:n≤9223372036854775807:=Nat.le_trans hB.room hB.most;clear hB hD hC;by_cases h5:500<n
 · have hd:decide (500<(n:Int))=true:=by rw[decide_eq_true_iff];omega
   clear hlt hlen;go_enter Tryz.func9,Tryz.ntmps9;go_wp2_with fail;refine(HA.out _ (Below.refl _ _)).mono ?_;rintro e w1 ⟨rfl,hb1⟩;have Hb1:=hid hb1;clear hb1;go_wp2_with fail;go_ret;exact⟨rfl,Hb1.out⟩
 have hd:decide (500<(n:Int))=false:=by rw[decide_eq_false_iff_not];omega
 have hDe:=fun W (h:Below w.heap.size w W)=>zw2 _ a n cap l W (HB.out W h) (HD.out W h) (yb2 unl hlt (by omega)) (by omega)
 cases hr:zag unl l with
 | error x=>
  obtain⟨c,p⟩:=x;rw[hr] at hDe;obtain⟨hp,-⟩:=z7n hlt hr;simp only at hp;have hp0:decide ((0:Int)≤(p:Int))=true:=by rw[decide_eq_true_iff];omega
  have hpn:decide ((p:Int)≤(n:Int))=true:=by rw[decide_eq_true_iff];omega
  have hpn':decide (p≤n)=true:=by rw[decide_eq_true_iff];omega
  have hdr:∀e W,zdv (.error (c,p)) e W→e=.returned (.tuple #[.slice none 0 0,.iface 94 (.agg #[.int .i64 c,.int .i64 p])]):=fun e W h=>h
  have HDe:=hid (fun W h=>(hDe W h).mono fun e w' ⟨h1,h2⟩=>(⟨h1,hdr e w' h2⟩:Below W.heap.size W w'∧_));clear hDe hdr hr hp hlt hlen h5;go_enter Tryz.func9,Tryz.ntmps9;go_wp2_with fail;refine(HDe.out _ (Below.refl _ _)).mono ?_;rintro e w1 ⟨hb1,rfl⟩;have Hb1:=hid hb1;clear hb1;go_wp2_with fail;refine(HA.out _ Hb1.out).mono ?_;rintro e w2 ⟨rfl,hb2⟩;have Hb2:=hid (Hb1.out.trans (hb2.mono Hb1.out.size));clear hb2;go_wp2_with fail;refine(zio (some ((c:Int),some (p:Int))) _ (HD.out _ Hb2.out)).mono ?_;rintro e w3 ⟨rfl,hb3⟩;have Hb3:=hid (Hb2.out.trans (hb3.mono Hb2.out.size));clear hb3;simp only[js];go_wp2_with fail;refine(zio (some ((c:Int),some (p:Int))) _ (HD.out _ Hb3.out)).mono ?_;rintro e w4 ⟨rfl,hb4⟩;have Hb4:=hid (Hb3.out.trans (hb4.mono Hb3.out.size));clear hb4;simp only[js];go_wp2_with fail;go_ret
  exact⟨rfl,Hb4.out⟩
 | ok y=>
  obtain⟨k,q⟩:=y;rw[hr] at hDe;obtain⟨hc,hk,-,hw,-⟩:=zwm hlt hr;have h500:(zo (zk k)).length≤500:=by rw[hw];omega
  obtain⟨hK,-,-⟩:=zyf hc hk h500;have hEn:=fun W b c (h:Frags W b k.length c k) (hd:Door W)=>yb0 b _ c k W h hd hc hk h500
  have hCa:=fun W b c (h:Frags W b k.length c k) (hd:Door W) (hco:Codes W)=>ybx b _ c k W h hd hco hK.vec (by have:=hK.sum;omega)
  rw[yby hk hc,decide_eq_true rfl] at hCa;rw[hw,hlen] at hEn;have hEq:=fun W b c (h:Byts W b n c l) (h':Byts W a n cap l)=>zi7 b a n c n cap l l W h h' true (decide_eq_true rfl).symm
  have hdr:∀e W,zdv (.ok (k,q)) e W→∃aa cc,e=.returned (.tuple #[.slice aa k.length cc,.nilIface])∧Frags W aa k.length cc k:=fun e W h=>h
  have HDe:=hid (fun W h=>(hDe W h).mono fun e w' ⟨h1,h2⟩=>(⟨h1,hdr e w' h2⟩:Below W.heap.size W w'∧_));clear hdr;have HEn:=hid hEn;have HCa:=hid hCa;have HEq:=hid hEq;clear hDe hr hlt hlen h5 hc hk hw h500 hK hEn hCa hEq;go_enter Tryz.func9,Tryz.ntmps9;go_wp2_with fail;refine(HDe.out _ (Below.refl _ _)).mono ?_;rintro e w1 ⟨hb1,a1,c1,rfl,hK1⟩;have HK1:=hid (fun V (h:Below w1.heap.size w1 V)=>hK1.below h);have Hb1:=hid hb1;clear hb1 hK1;go_wp2_with fail;refine(HEn.out w1 _ _ (HK1.out _ (Below.refl _ _)) (HD.out _ Hb1.out)).mono ?_;rintro e w2 ⟨⟨a2,c2,rfl,hB2⟩,hb2⟩;have HB2:=hid (fun V (h:Below w2.heap.size w2 V)=>hB2.below h);have HK2:=hid (fun V (h:Below w2.heap.size w2 V)=>HK1.out V (hb2.trans (h.mono hb2.size)));have Hb2:=hid (Hb1.out.trans (hb2.mono Hb1.out.size));clear hb2 hB2;go_wp2_with fail;refine(HA.out _ Hb2.out).mono ?_;rintro e w3 ⟨rfl,hb3⟩;have H23:=hid hb3;have Hb3:=hid (Hb2.out.trans (hb3.mono Hb2.out.size));clear hb3;go_wp2_with fail;refine(HCa.out w3 _ _ (HK2.out _ H23.out) (HD.out _ Hb3.out) (HC.out _ Hb3.out)).mono ?_;rintro e w4 ⟨rfl,hb4⟩;have H24:=hid (H23.out.trans (hb4.mono H23.out.size));have Hb4:=hid (Hb3.out.trans (hb4.mono Hb3.out.size));clear hb4;go_wp2_with fail;refine(HEq.out w4 _ _ (HB2.out _ H24.out) (HB.out _ Hb4.out)).mono ?_;rintro e w5 ⟨rfl,q5,rfl⟩;have Hb5:=hid (ye Hb4.out q5);go_wp2_with fail;go_ret;exact⟨rfl,Hb5.out⟩
end
end Go.Proofs.YtdnjfnofjaoajaaGreatDoor
