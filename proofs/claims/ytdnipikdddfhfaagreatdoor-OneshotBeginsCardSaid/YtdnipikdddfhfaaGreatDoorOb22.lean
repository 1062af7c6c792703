/- Part 22. -/
import Derived.Test.YtdnipikdddfhfaaGreatDoorOb21
set_option linter.unusedVariables false
set_option maxHeartbeats 16000000
namespace Go.Proofs.YtdnipikdddfhfaaGreatDoor
open Lib (hid)
section
open Go.RowKit
attribute [local go_sem] qj Tryz.eqGuard_if
theorem KnosM.put {w:World} {base g i:Nat} {V:Value} {ks:List Kno} {T:TypeId} {C:List Value} (h:KnosM w base V ks) (hr:Row w g T C) (hT:¬qh T) (hK:T≠27) (v:Value):KnosM (w.setCell ⟨g,i,none⟩ v) base V ks:=by
 obtain⟨Ks,k1,k2⟩:=h;exact⟨Ks,ownsRow_setCell_other k1 (fun e=>hr.ne_own k1 hK _ e rfl) _,k2.steady (Steady.setCell (a:=⟨g,i,none⟩) (C:=C.toArray) (e:=T) (fr:=(0,0)) hr (Nat.zero_le _) hT)⟩
def zus (l:List Nat) (L:za) (base:Nat) (e:Ending) (w':World):Prop:=
 ∃ks es x V,jb l L ks es x∧e=.returned (.tuple #[V,.agg #[.int .i64 (x.1:Nat),.int .i64 (x.2:Nat)]])∧KnosM w' base V ks
set_option maxRecDepth 20000 in
theorem zlt (a:Option Addr) (n cap:Nat) (l:List Nat) (L:za) (w:World) (hB:Byts w a n cap l) (hD:Door w) (hL:LimsI L) (hn:n≤1000000):
 Calls Tryz.prog 47 #[.slice a n cap,lmV L] w fun e w'=>zus l L w.heap.size e w'∧Below w.heap.size w w':=by
 have HO:=hid (fun W (h:Below w.heap.size w W)=>zls a n cap l L W (hB.below h) (hD.below (Nat.le_refl _) h) hL hn);unfold lmV at HO ⊢;obtain⟨wB,hwB⟩:∃wB,wB=(w.alloc (.cells #[.int .i64 L.1,.int .i64 L.2.1,.int .i64 L.2.2.1,.int .i64 L.2.2.2.1,.int .i64 L.2.2.2.2] 24)).alloc (.cells #[.int .i64 0,.int .i64 0] 64):=⟨_,rfl⟩;have HbB:=hid (show Below w.heap.size w wB from by rw[hwB];exact((Below.refl _ w).alloc (Nat.le_refl _) _).alloc (by simp) _);have HG0:=hid (show Row wB w.heap.size 24 [.int .i64 L.1,.int .i64 L.2.1,.int .i64 L.2.2.1,.int .i64 L.2.2.2.1,.int .i64 L.2.2.2.2] from by rw[hwB];exact(yf w _ _).later ((Below.refl _ _).alloc (Nat.le_refl _) _));have HV0:=hid (show Row wB (w.heap.size+1) 64 [.int .i64 0,.int .i64 0] from by rw[hwB];have:=yf (w.alloc (.cells #[.int .i64 L.1,.int .i64 L.2.1,.int .i64 L.2.2.1,.int .i64 L.2.2.2.1,.int .i64 L.2.2.2.2] 24)) 64 [.int .i64 0,.int .i64 0];simpa using this);have HwB:=hid hwB;have l0:=HG0.out.cell 0 rfl;have l1:=HG0.out.cell 1 rfl;have l2:=HG0.out.cell 2 rfl;have l3:=HG0.out.cell 3 rfl;have l4:=HG0.out.cell 4 rfl;have Hgb:=hid HbB.out.size;clear hwB hB hD hL hn;go_enter Tryz.func47,Tryz.ntmps47;go_upto_region 1 with fail
 rw[←HwB.out];go_wp2_with fail;refine(HO.out _ HbB.out).mono ?_;rintro e w1 ⟨⟨ks,es,x,V,E,hP,rfl,hK,hE⟩,hb1⟩;have Hb1:=hid (HbB.out.trans (hb1.mono Hgb.out));have HV1:=hid (HV0.out.later hb1);have Hsz1:=hid (Nat.le_trans Hgb.out hb1.size);obtain⟨wC,hwC⟩:∃wC,wC=w1.alloc (.cells #[.int .i64 (x.1:Int),.int .i64 (x.2:Int)] 64):=⟨_,rfl⟩;have hbC:=(Below.refl w1.heap.size w1).alloc (Nat.le_refl _) (.cells #[.int .i64 (x.1:Int),.int .i64 (x.2:Int)] 64);rw[←hwC] at hbC;have HX:=hid (show Row wC w1.heap.size 64 [.int .i64 (x.1:Int),.int .i64 (x.2:Int)] from by rw[hwC];exact yf w1 64 _);have HV2:=hid (HV1.out.later hbC);have HK2:=hid ((hK.mono Hgb.out).later hbC);have HbC:=hid (Hb1.out.trans (hbC.mono Hsz1.out));have HP:=hid hP;have HwC:=hid hwC;clear hwC hbC hb1 hK hE hP l0 l1 l2 l3 l4;go_upto_region 2 with fail
 rw[←HwC.out];have x0:=HX.out.cell 0 rfl;have x1:=HX.out.cell 1 rfl;have v0:=HV2.out.cell 0 rfl;have v1:=HV2.out.cell 1 rfl;have f0:=HV2.out.fz 0;have f1:=HV2.out.fz 1;have HVf:=hid ((HV2.out.set 0 (.int .i64 (x.1:Int))).set 1 (.int .i64 (x.2:Int)));have HKf:=hid ((HK2.out.put HV2.out (by rintro(h | h | h) <;> cases h) (by decide) (i:=0) (.int .i64 (x.1:Int))).put (HV2.out.set 0 (.int .i64 (x.1:Int))) (by rintro(h | h | h) <;> cases h) (by decide) (i:=1) (.int .i64 (x.2:Int)));have Hbf:=hid (zdt HbC.out (i:=0) (j:=1) (x:=.int .i64 (x.1:Int)) (y:=.int .i64 (x.2:Int)) (show w.heap.size≤w.heap.size+1 from Nat.le_succ _));go_region
 go_wp2_with fail;refine bodyPost_ret (zuq rfl _ _ (w.heap.size+1) 64 #[.int .i64 (x.1:Int),.int .i64 (x.2:Int)] (0,0) _ rfl HVf.out Tryz.underlying64 rfl (by kernel_rfl)) rfl ?_;exact⟨⟨ks,es,x,V,HP.out,rfl,HKf.out.later (Below.refl _ _).drew⟩,Hbf.out.drew⟩
set_option maxRecDepth 20000 in
theorem zut (a:Option Addr) (n cap:Nat) (l:List Nat) (L:za) (w:World) (hB:Byts w a n cap l) (hD:Door w) (hL:LimsI L) (hn:n≤1000000):
 Calls Tryz.prog 49 #[.slice a n cap,lmV L] w fun e w'=>(∃ks es x E,jb l L ks es x∧e=.returned E∧w'.ownsRow w.heap.size 3 1 E es.length (yj es))∧Below w.heap.size w w':=by
 have HO:=hid (fun W (h:Below w.heap.size w W)=>zls a n cap l L W (hB.below h) (hD.below (Nat.le_refl _) h) hL hn);unfold lmV at HO ⊢;obtain⟨wB,hwB⟩:∃wB,wB=w.alloc (.cells #[.int .i64 L.1,.int .i64 L.2.1,.int .i64 L.2.2.1,.int .i64 L.2.2.2.1,.int .i64 L.2.2.2.2] 24):=⟨_,rfl⟩;have HbB:=hid (show Below w.heap.size w wB from by rw[hwB];exact(Below.refl _ w).alloc (Nat.le_refl _) _);have HG0:=hid (show Row wB w.heap.size 24 [.int .i64 L.1,.int .i64 L.2.1,.int .i64 L.2.2.1,.int .i64 L.2.2.2.1,.int .i64 L.2.2.2.2] from by rw[hwB];exact yf w _ _);have HwB:=hid hwB;have l0:=HG0.out.cell 0 rfl;have l1:=HG0.out.cell 1 rfl;have l2:=HG0.out.cell 2 rfl;have l3:=HG0.out.cell 3 rfl;have l4:=HG0.out.cell 4 rfl;have Hgb:=hid HbB.out.size;clear hwB hB hD hL hn;go_enter Tryz.func49,Tryz.ntmps49;go_upto_region 1 with fail
 rw[←HwB.out];go_wp2_with fail;refine(HO.out _ HbB.out).mono ?_;rintro e w1 ⟨⟨ks,es,x,V,E,hP,rfl,hK,hE⟩,hb1⟩;have Hb1:=hid (HbB.out.trans (hb1.mono Hgb.out));have Hsz1:=hid (Nat.le_trans Hgb.out hb1.size);have HE:=hid (j3 hE Hgb.out);have HP:=hid hP;clear hb1 hK hE hP l0 l1 l2 l3 l4;go_wp2_with fail;go_ret;have hal:=(Below.refl w1.heap.size w1).alloc (Nat.le_refl _) (.cells #[.int .i64 (x.1:Int),.int .i64 (x.2:Int)] 64);exact⟨⟨ks,es,x,_,HP.out,rfl,zx HE.out hal⟩,Hb1.out.trans (hal.mono Hsz1.out)⟩
end
section
open Go.RowKit
def kg (ks:List Kno) (i:Nat):Kno:=ks.getD i []
theorem zgj {ks:List Kno} {i:Nat} (h:i<ks.length):kg ks i=ks[i]:=by unfold kg;rw[List.getD_eq_getElem?_getD,List.getElem?_eq_getElem h];rfl
structure KnS (w:World) (a:Option Addr) (n cap:Nat) (ks:List Kno):Prop where
 len:ks.length=n
 room:n≤cap
 most:cap≤9223372036854775807
 cells:0<n→∃b o,a=some ⟨b,o,none⟩∧∀i,i<n→∃x m c,w.cell? ⟨b,o+i,none⟩=some (.slice x m c)∧Frags w x m c (kg ks i)
theorem KnS.below {w w':World} {a:Option Addr} {n cap:Nat} {ks:List Kno} (h:KnS w a n cap ks) (hb:Below w.heap.size w w'):KnS w' a n cap ks:=
 ⟨h.len,h.room,h.most,fun hn=>by
  obtain⟨b,o,e,hc⟩:=h.cells hn
  exact⟨b,o,e,fun i hi=>by
   obtain⟨x,m,c,h1,h2⟩:=hc i hi;exact⟨x,m,c,(hb.cell (ze h1)).trans h1,h2.below hb⟩⟩⟩
theorem KnosM.read {w:World} {base:Nat} {V:Value} {ks:List Kno} (h:KnosM w base V ks):∃a cap,V=.slice a ks.length cap∧KnS w a ks.length cap ks:=by
 obtain⟨Ks,h1,h2⟩:=h;have hlen:=h2.len;rcases h1.2 with ⟨rfl,h0⟩ | ⟨g,cap,cur,rfl,hg,hh,hnc,hcm,_⟩
 · exact⟨none,0,by rw[h0],by omega,by omega,by omega,fun h=>by omega⟩
 · refine⟨_,_,rfl,rfl,hnc,by unfold maxLen at hcm;omega,fun hn=>⟨g,0,rfl,fun i hi=>?_⟩⟩;obtain⟨K,e1,e2⟩:=h2.at hi;obtain⟨x,c,rfl,hf⟩:=e2.frags;have hc:=h1.cells (g:=g) rfl i _ e1;rw[ye] at hc;exact⟨x,_,c,hc,by rw[zgj hi];exact hf⟩
theorem KnS.take {w:World} {a:Option Addr} {n cap:Nat} {ks:List Kno} (h:KnS w a n cap ks) {m:Nat} (hm:m≤n):KnS w a m cap (ks.take m):=
 ⟨by rw[List.length_take,h.len];omega,by have:=h.room;omega,h.most,fun hn=>by
  obtain⟨b,o,e,hc⟩:=h.cells (by omega)
  exact⟨b,o,e,fun i hi=>by
   obtain⟨x,k,c,h1,h2⟩:=hc i (by omega);exact⟨x,k,c,h1,by unfold kg;rw[List.getD_eq_getElem?_getD,List.getElem?_take_of_lt hi];exact h2⟩⟩⟩
theorem zuu {ks us:List Kno} (hl:ks.length=us.length) (h:∀i,i<ks.length→kg ks i=kg us i):ks=us:=
 List.ext_getElem hl fun i h1 h2=>by have:=h i h1;rwa [zgj h1,zgj h2] at this
set_option maxRecDepth 20000 in
theorem zuv (a d:Option Addr) (n c n' c':Nat) (ks us:List Kno) (w:World) (hE:KnS w a n c ks) (hF:KnS w d n' c' us):
 Calls Tryz.prog 36 #[.slice a n c,.slice d n' c'] w fun x w'=>(∃r:Nat,x=.returned (.int .i64 r)∧((r=1∧ks=us)∨(r=0∧ks≠us)))∧Below w.heap.size w w':=by
 have HE:=hid (fun W (h:Below w.heap.size w W)=>hE.below h);have HF:=hid (fun W (h:Below w.heap.size w W)=>hF.below h);have Hl:=hid hE.len;have Hl':=hid hF.len;have hm:n≤9223372036854775807:=Nat.le_trans hE.room hE.most;have hm':n'≤9223372036854775807:=Nat.le_trans hF.room hF.most;have hr:=hE.room;have hr':=hF.room;clear hE hF;go_enter Tryz.func36,Tryz.ntmps36;by_cases hn:n=n'
 · subst hn;have Hle:=hid (Hl.out.trans Hl'.out.symm);go_wp2_with fail;go_loopw [13] (fun i wr=>∃k:Nat,k≤n∧i=.int .i64 k∧Hid (Below w.heap.size w wr)∧Hid (∀j,j<k→kg ks j=kg us j)) (fun i _=>n - (intOf i).toNat)
   case atStart=>exact⟨0,Nat.zero_le _,rfl,hid (Below.refl _ _),hid fun j hj=>absurd hj (Nat.not_lt_zero j)⟩
   case round=>
    obtain⟨k,hk,rfl,hb,hI⟩:=hrel;by_cases hkn:k<n
    · obtain⟨b,o,rfl,hc⟩:=(HE.out _ hb.out).cells (by omega);obtain⟨b',o',rfl,hc'⟩:=(HF.out _ hb.out).cells (by omega);obtain⟨x,m,q,e1,f1⟩:=hc k hkn;obtain⟨x',m',q',e2,f2⟩:=hc' k hkn;have HS:=hid (fun W (h:Below wr.heap.size wr W)=>zo1 x x' m q m' q' _ _ W (f1.below h) (f2.below h));have hd:decide ((k:Int)<(n:Int))=true:=by rw[decide_eq_true_iff];omega
      have hk1:IntKind.i64.wrap ((k:Int)+1)=((k+1:Nat):Int):=by rw[IntKind.wrap_i64];omega
      have h0:(0:Int)≤(k:Int):=by omega
      have h0n:(k:Int)<(n:Int):=by omega
      obtain⟨r,hr⟩:∃r,r=decide (kg ks k=kg us k):=⟨_,rfl⟩;rw[←hr] at HS;have Hr:=hid hr;clear hc hc' f1 f2 hr;go_wp2_with fail;go_region_with (go_at_call 18;refine(HS.out _ (Below.refl _ _).drew).mono ?_;rintro e w2 ⟨rfl,hb2⟩;have Hb2:=hid (hb.out.trans (((Below.refl wr.heap.size wr).drew.trans (hb2.mono (Nat.le_refl _))).mono hb.out.size));clear hb2)
      all_goals
       cases r with
       | false=>
        have Hne:=hid (show ks≠us from fun e=>by rw[e] at Hr;exact absurd (Hr.out.trans (decide_eq_true rfl)) (by decide));go_wp2_with fail;go_ret
        exact⟨⟨0,rfl,.inr ⟨rfl,Hne.out⟩⟩,Hb2.out⟩
       | true=>
        have HI2:=hid (show ∀j,j<k+1→kg ks j=kg us j from fun j hj=>by
         by_cases e:j=k
         · subst e;exact of_decide_eq_true Hr.out.symm
         · exact hI.out j (by omega))
        go_wp2_with fail;go_roundw
        case rel=>exact⟨k+1,hkn,rfl,Hb2,HI2⟩
        case measure=>simp[intOf];omega
    · have hd:decide ((k:Int)<(n:Int))=false:=by rw[decide_eq_false_iff_not];omega
      have Heq:=hid (show ks=us from zuu (Hl.out.trans Hl'.out.symm) fun i hi=>hI.out i (by have:=Hl.out;omega));go_wp2_with fail;go_ret;exact⟨⟨1,rfl,.inl ⟨rfl,Heq.out⟩⟩,hb.out⟩
 · have hd:((n:Int) != (n':Int))=true:=by rw[bne_iff_ne];omega
   have Hne:=hid (show ks≠us from fun e=>by have:=Hl.out;have:=Hl'.out;rw[e] at *;omega);go_wp2_with fail;go_ret;exact⟨⟨0,rfl,.inr ⟨rfl,Hne.out⟩⟩,Below.refl _ _⟩
end
section
open Go.RowKit
attribute [local go_sem] qj Tryz.eqGuard_if
set_option maxRecDepth 100000 in
theorem zuw (w:World) (hD:Door w):Calls Tryz.prog 46 #[] w fun e w'=>e=.returned (.bool true)∧Below w.heap.size w w':=by
 have HD:=hid (fun V (h:Below w.heap.size w V)=>hD.below (Nat.le_refl _) h);obtain⟨W,hW⟩:∃W,W=w.alloc (.cells #[.slice none 0 0,.slice none 0 0] 27):=⟨_,rfl⟩;have hal:Below w.heap.size w W:=by rw[hW];exact(Below.refl _ _).alloc (Nat.le_refl _) _
 have hcl:∀i,i<2→W.cell? ⟨w.heap.size,0+i,none⟩=some (.slice none 0 0):=by
  have hr:=yf w 27 [.slice none 0 0,.slice none 0 0];rw[hW];intro i hi;rcases(by omega:i=0∨i=1) with rfl | rfl
  · exact hr.cell 0 rfl
  · exact hr.cell 1 rfl
 have hlen:∀i,i≤2→(vk (fun _=>[0,0]) i).length≤1000000000000:=by
  intro i hi;rcases(by omega:i=0∨i=1∨i=2) with rfl | rfl | rfl
  · decide
  · rw[zt6];decide +kernel
  · rw[zlm,zln];decide
 have hEn:=zqd w.heap.size 0 2 2 (fun _=>.slice none 0 0) (fun _=>[0,0]) W hcl (by omega) (by omega) (fun i hi V hV=>zrt V (HD.out _ (hal.trans (hV.mono hal.size)))) (fun i hi=>by decide) hlen;obtain⟨L0,hL0,hL1,hpa,hpc,hlt⟩:∃L0,vk (fun _=>[0,0]) 2=L0∧L0.length=24∧jb L0 unl [[],[]] [12,24] (0,24)∧jb (L0.take 23) unl [[]] [12] (0,12)∧∀x∈L0,x<256:=⟨exO,zlm,zln,zuc,zud,by decide +kernel⟩;rw[hL0,hL1] at hEn;have HEn:=hid hEn;have HP:=hid (fun V a n c l (hB:Byts V a n c l) (h:Below w.heap.size w V) (hn:n≤1000000)=>zlt a n c l unl V hB (HD.out _ h) zk9 hn);have HN:=hid (fun V a n c l (hB:Byts V a n c l) (h:Below w.heap.size w V) (hn:n≤1000000)=>zut a n c l unl V hB (HD.out _ h) zk9 hn);have HU:=hid (fun V=>ztl V);have HW:=hid hW;have Hal:=hid hal;have Hlt:=hid hlt;have Hsz:=hid hal.size;unfold lmV at HP HN HU;have HPa:=hid hpa;have HPc:=hid hpc;clear hEn hW hal hcl hlen hD hlt hL0 hL1 hpa hpc;go_enter Tryz.func46,Tryz.ntmps46;go_wp2_with fail;rw[←HW.out];refine HEn.out.mono ?_;rintro e w1 ⟨⟨v1,rfl,ho1⟩,hb1⟩;have Hb1:=hid (Hal.out.trans (hb1.mono Hal.out.size));obtain⟨a1,c1,rfl,hB1⟩:=zew ho1 Hlt.out;have HB1:=hid hB1;have Hs1:=hid (Nat.le_trans Hsz.out hb1.size);clear hb1 ho1 hB1;go_wp2_with fail;refine(HU.out _).mono ?_;rintro e w2 ⟨rfl,hb2⟩;have HB2:=hid (HB1.out.below hb2);have Hb2:=hid (Hb1.out.trans (hb2.mono Hs1.out));have Hs2:=hid (Nat.le_trans Hs1.out hb2.size);clear hb2;go_wp2_with fail;refine(HP.out w2 _ _ _ _ HB2.out Hb2.out (by omega)).mono ?_;rintro e w3 ⟨⟨ks,es,x,V,hP,rfl,hK⟩,hb3⟩;obtain⟨rfl,rfl,rfl⟩:=zc4 HPa.out hP;obtain⟨ka,kc,rfl⟩:=hK.slice;have hl2:([[],[]]:List Kno).length=2:=rfl;have HB3:=hid (HB2.out.below hb3);have Hb3:=hid (Hb2.out.trans (hb3.mono Hs2.out));have Hs3:=hid (Nat.le_trans Hs2.out hb3.size);clear hb3 hP hK;obtain⟨wC,hwC⟩:∃wC,wC=w3.alloc (.cells #[.int .i64 0,.int .i64 24] 64):=⟨_,rfl⟩;have hbC:=(Below.refl w3.heap.size w3).alloc (Nat.le_refl _) (.cells #[.int .i64 0,.int .i64 24] 64);rw[←hwC] at hbC;have HX:=hid (show Row wC w3.heap.size 64 [.int .i64 0,.int .i64 24] from by rw[hwC];exact yf w3 64 _);have HwC:=hid hwC;have HBC:=hid (HB3.out.below hbC);have HbC:=hid (Hb3.out.trans (hbC.mono Hs3.out));have HsC:=hid (Nat.le_trans Hs3.out hbC.size);obtain⟨b,o,rfl,-⟩:=HBC.out.cells (by omega);have hcr:=HBC.out.room;have hc0:¬c1=0:=by omega
 have hc23:23≤c1:=by omega
 clear hwC hbC;go_upto_region 5 with fail
 rw[←HwC.out];generalize w3.heap.size=g at*
 have HBx:=hid (fun V (h:Below wC.heap.size wC V)=>show Byts V (some ⟨b,o,none⟩) 23 c1 (L0.take 23) from by
  have hx:=(HBC.out.below h).sub 0 23 (by omega) (by omega) (by omega);rwa [Nat.add_zero,Nat.sub_zero,Nat.sub_zero,List.drop_zero] at hx)
 have HBa:=hid (fun V (h:Below wC.heap.size wC V)=>HBC.out.below h);have HXa:=hid (fun V (h:Below wC.heap.size wC V)=>HX.out.later h);have Hba:=hid (fun V (h:Below wC.heap.size wC V)=>HbC.out.trans (h.mono HsC.out))
 go_region_with (first
  | (go_at_call 43;refine(HU.out _).mono ?_;rintro e w5 ⟨rfl,hb5⟩
     first
     | (have Hb5:=hid (show Below wC.heap.size wC w5 from(Below.refl wC.heap.size wC).drew.trans hb5);clear hb5)
     | (have Hb5:=hid (show Below wC.heap.size wC w5 from((Below.refl wC.heap.size wC).drew.alloc (Nat.le_refl _) _).trans (hb5.mono (by simp)))
        have HR5:=hid (show Row w5 wC.heap.size 64 [.int .i64 0,.int .i64 0] from(yf wC.drew 64 [.int .i64 0,.int .i64 0]).later hb5)
        clear hb5))
  | (go_at_call 47
     first
     | (refine(HP.out w5 _ _ _ _ (HBx.out _ Hb5.out) (Hba.out _ Hb5.out) (by omega)).mono ?_
        rintro e w6 ⟨⟨ks2,es2,x2,V2,hP2,rfl,hK2⟩,hb6⟩;obtain⟨rfl,rfl,rfl⟩:=zc4 HPc.out hP2;obtain⟨k2a,k2c,rfl⟩:=hK2.slice;have hl1:([[]]:List Kno).length=1:=rfl;have Hb6:=hid (show Below wC.heap.size wC w6 from Hb5.out.trans (hb6.mono Hb5.out.size))
        try have HR6:=hid (show Row w6 wC.heap.size 64 [.int .i64 0,.int .i64 0] from HR5.out.later hb6)
        try (have d0:=HR6.out.cell 0 rfl;have d1:=HR6.out.cell 1 rfl;have e0:=HR6.out.fz 0;have e1:=HR6.out.fz 1)
        clear hb6 hP2 hK2)
     | (refine(HP.out (w5.alloc (.cells #[.int .i64 0,.int .i64 0] 64)) _ _ _ _ (HBx.out _ (Hb5.out.alloc Hb5.out.size _)) (Hba.out _ (Hb5.out.alloc Hb5.out.size _)) (by omega)).mono ?_
        rintro e w6 ⟨⟨ks2,es2,x2,V2,hP2,rfl,hK2⟩,hb6⟩;obtain⟨rfl,rfl,rfl⟩:=zc4 HPc.out hP2;obtain⟨k2a,k2c,rfl⟩:=hK2.slice;have hl1:([[]]:List Kno).length=1:=rfl;have Hb6:=hid (show Below wC.heap.size wC w6 from(Hb5.out.alloc Hb5.out.size _).trans (hb6.mono (by have:=Hb5.out.size;simp only[World.size_alloc];omega)));have HR6:=hid (show Row w6 w5.heap.size 64 [.int .i64 0,.int .i64 0] from(yf w5 64 [.int .i64 0,.int .i64 0]).later hb6);have d0:=HR6.out.cell 0 rfl;have d1:=HR6.out.cell 1 rfl;have e0:=HR6.out.fz 0;have e1:=HR6.out.fz 1;clear hb6 hP2 hK2)))
 all_goals
  first
  | (have HY0:=hid (yf w6 64 [.int .i64 0,.int .i64 12])
     have HbE0:=hid (Hb6.out.alloc Hb6.out.size (.cells #[.int .i64 0,.int .i64 12] 64));obtain⟨wE,hwE⟩:∃wE,w6.alloc (.cells #[.int .i64 0,.int .i64 12] 64)=wE:=⟨_,rfl⟩;rw[hwE];have HY:=hid (show Row wE w6.heap.size 64 [.int .i64 0,.int .i64 12] from hwE ▸ HY0.out);have HbE:=hid (show Below wC.heap.size wC wE from hwE ▸ HbE0.out);clear HY0 HbE0 hwE Hb6;generalize w6.heap.size=r at*
     skip)
  | (have HY0:=hid ((HR6.out.set 0 (.int .i64 0)).set 1 (.int .i64 12))
     have HbE0:=hid (zdt Hb6.out (i:=0) (j:=1) (x:=.int .i64 0) (y:=.int .i64 12) (show wC.heap.size≤wC.heap.size from Nat.le_refl _));obtain⟨wE,hwE⟩:∃wE,(w6.setCell ⟨wC.heap.size,0,none⟩ (.int .i64 0)).setCell ⟨wC.heap.size,1,none⟩ (.int .i64 12)=wE:=⟨_,rfl⟩;rw[hwE];have HY:=hid (show Row wE wC.heap.size 64 [.int .i64 0,.int .i64 12] from hwE ▸ HY0.out);have HbE:=hid (show Below wC.heap.size wC wE from hwE ▸ HbE0.out);clear HY0 HbE0 hwE Hb6 HR6 d0 d1 e0 e1;generalize wC.heap.size=r at HY ⊢
     skip)
  | (have HY0:=hid ((HR6.out.set 0 (.int .i64 0)).set 1 (.int .i64 12))
     have HbE0:=hid (zdt Hb6.out (i:=0) (j:=1) (x:=.int .i64 0) (y:=.int .i64 12) Hb5.out.size);obtain⟨wE,hwE⟩:∃wE,(w6.setCell ⟨w5.heap.size,0,none⟩ (.int .i64 0)).setCell ⟨w5.heap.size,1,none⟩ (.int .i64 12)=wE:=⟨_,rfl⟩;rw[hwE];have HY:=hid (show Row wE w5.heap.size 64 [.int .i64 0,.int .i64 12] from hwE ▸ HY0.out);have HbE:=hid (show Below wC.heap.size wC wE from hwE ▸ HbE0.out);clear HY0 HbE0 hwE Hb6 HR6 d0 d1 e0 e1;generalize w5.heap.size=r at HY ⊢
     skip)
  have HBE:=hid (HBa.out _ HbE.out);have HE:=hid (Hba.out _ HbE.out);have HsE:=hid (show w.heap.size≤wE.heap.size from HE.out.size);have y0:=HY.out.cell 0 rfl;have y1:=HY.out.cell 1 rfl;have x0:=(HXa.out _ HbE.out).cell 0 rfl;have x1:=(HXa.out _ HbE.out).cell 1 rfl;go_wp2_with fail;refine(HU.out _).mono ?_;rintro e w8 ⟨rfl,hb8⟩;have HB8:=hid (HBE.out.below hb8);have H8:=hid (HE.out.trans (hb8.mono HsE.out));have Hs8:=hid (Nat.le_trans HsE.out hb8.size);clear hb8 y0 y1 x0 x1;go_wp2_with fail;refine(HN.out w8 _ _ _ _ HB8.out H8.out (by omega)).mono ?_;rintro e w9 ⟨⟨ks3,es3,x3,E3,hP3,rfl,ho3⟩,hb9⟩;obtain⟨rfl,rfl,rfl⟩:=zc4 HPa.out hP3;have H9:=hid (H8.out.trans (hb9.mono Hs8.out));have Ho3:=hid ho3;have Hs9:=hid (Nat.le_trans Hs8.out hb9.size);clear hb9 hP3 ho3;go_wp2_with fail;have hal9:=(Below.refl w9.heap.size w9).alloc (Nat.le_refl _) (.cells #[.int .i64 12,.int .i64 24] 3);have hq:=World.ownsRow_lit (e:=3) (size:=1) (base:=w9.heap.size) w9 #[.int .i64 12,.int .i64 24] 2 (Nat.le_refl _) (by unfold maxLen;omega) rfl;refine(zor w8.heap.size w9.heap.size _ _ [12,24] [12,24] _ (zx Ho3.out hal9) hq (by decide) (by decide)).mono ?_;rintro e w10 ⟨rfl,hb10⟩;have H10:=hid (H9.out.trans ((hal9.trans (hb10.mono hal9.size)).mono Hs9.out));clear hb10 hal9 hq;go_wp2_with fail;go_ret;exact⟨rfl,H10.out⟩
end
section
open Go.RowKit
attribute [local go_sem] qj Tryz.eqGuard_if
theorem zux {l:List Nat} (hl:∀c∈l,c<256) {L:za} {m:Nat} (hm:m≤l.length) {ks ks':List Kno} {es es':List Nat} {x x':Nat×Nat} (h:jb (l.take m) L ks es x) (h':jb l L ks' es' x'):
 (x.1≠0→ks'=ks∧x'=x)∧(x.1=0→(∃ms,ks'=ks++ms)∧x.2≤m∧(x'.1=0→x.2≤x'.2)):=by
 have e:l.take m++l.drop m=l:=List.take_append_drop m l;refine⟨fun h0=>?_,fun h0=>?_⟩
 · have h1:=ztv (l.drop m) h h0;rw[e] at h1;obtain⟨a,b,c⟩:=zc4 h1 h';exact⟨a,c⟩
 · obtain⟨c,o⟩:=x;have h0:c=0:=h0;subst h0;have h2:=h;obtain⟨q,r1,r2⟩:=h2;have hq:=zem r2;have h3:=ztw (u:=l.drop m) (ks':=ks') (es':=es') (e':=x') h (by rw[e];exact h');obtain⟨ms,fs,e1,e2,q',r3,r4⟩:=h3;refine⟨⟨ms,e1⟩,?_,fun h5=>?_⟩
   · have:=(zen (fun c hc=>hl c (List.mem_of_mem_take hc)) r1).2 (Nat.zero_le _);rw[List.length_take] at this;show o≤m;omega
   · obtain⟨c',o'⟩:=x';have h5:c'=0:=h5;subst h5;rw[e] at r3 r4;have:=(zen hl r3).1;have:=zem r4;show o≤o';omega
theorem zuy {w:World} {a:Option Addr} {n cap:Nat} {l:List Nat} (h:Byts w a n cap l) {m:Nat} (hm:m≤n):Byts w a m cap (l.take m):=
 ⟨by rw[List.length_take,h.len];omega,fun x hx=>h.lt x (List.mem_of_mem_take hx),Nat.le_trans hm h.room,h.most,h.nilc,fun hp=>by
  obtain⟨b,o,e,hc⟩:=h.cells (by omega)
  exact⟨b,o,e,fun i hi=>by
   rw[hc i (by omega)];simp[nth,List.getElem?_take_of_lt hi]⟩⟩
set_option maxRecDepth 20000 in
theorem zuz (a:Option Addr) (n cap:Nat) (l:List Nat) (L:za) (z:Nat) (w:World) (hB:Byts w a n cap l) (hL:LimsI L) (hz:z<65536) (hD:Door w):
 Calls Tryz.prog 12 #[.slice a n cap,lmV L,.int .u16 z] w fun e w'=>e=.returned (.bool true)∧Below w.heap.size w w':=by
 obtain⟨wB,hwB⟩:∃wB,wB=w.alloc (.cells #[.int .i64 L.1,.int .i64 L.2.1,.int .i64 L.2.2.1,.int .i64 L.2.2.2.1,.int .i64 L.2.2.2.2] 24):=⟨_,rfl⟩;have hbB:Below w.heap.size w wB:=by rw[hwB];exact(Below.refl _ _).alloc (Nat.le_refl _) _
 have HG:=hid (show Row wB w.heap.size 24 [.int .i64 L.1,.int .i64 L.2.1,.int .i64 L.2.2.1,.int .i64 L.2.2.2.1,.int .i64 L.2.2.2.2] from by rw[hwB];exact yf w _ _);have HwB:=hid hwB;have HbB:=hid hbB;have HsB:=hid hbB.size;have HA:=hid (fun W (h:Below w.heap.size w W)=>zuw W (hD.below (Nat.le_refl _) h));have hnm:n≤9223372036854775807:=Nat.le_trans hB.room hB.most;have Hl:=hid hB.lt;have Hlen:=hid hB.len;by_cases h1:1000<n
 · have hd:decide (1000<(n:Int))=true:=by rw[decide_eq_true_iff];omega
   have hd':decide (1000<n)=true:=by rw[decide_eq_true_iff];omega
   clear hB hL hD hwB hbB h1;unfold lmV;go_enter Tryz.func12,Tryz.ntmps12;go_upto_region 1 with fail
   rw[←HwB.out];go_wp2_with fail;refine(HA.out _ HbB.out).mono ?_;rintro e w1 ⟨rfl,hb1⟩;have Hb1:=hid (HbB.out.trans (hb1.mono HsB.out));clear hb1;go_wp2_with fail;go_ret;exact⟨rfl,Hb1.out⟩
 have hd:decide (1000<(n:Int))=false:=by rw[decide_eq_false_iff_not];omega
 have hd':decide (1000<n)=false:=by rw[decide_eq_false_iff_not];omega
 obtain⟨m,hm⟩:∃m,z % (n+1)=m:=⟨_,rfl⟩;have hmn:m≤n:=by have:=Nat.mod_lt z (show 0<n+1 by omega);omega
 have hrem:(z:Int) % ((n:Int)+1)=(m:Int):=by rw[←hm];rfl
 have hn1:IntKind.i64.wrap ((n:Int)+1)=((n+1:Nat):Int):=by rw[IntKind.wrap_i64];omega
 have hmc:m≤cap:=by have:=hB.room;omega
 have hcut:=zuy hB hmn;have HP:=hid (fun W x y c l' (hx:Byts W x y c l') (h:Below w.heap.size w W) (hy:y≤1000000)=>zlt x y c l' L W hx (hD.below (Nat.le_refl _) h) hL hy);have Hn:=hid (show n≤1000 from by omega);have Hm6:=hid (show m≤1000000 from by omega);have HB:=hid (fun W (h:Below w.heap.size w W)=>hB.below h);have Hmn:=hid hmn;have HCt:=hid (fun W (h:Below w.heap.size w W)=>hcut.below h);clear hB hL hD hwB hbB h1 hm hcut;unfold lmV at HP ⊢;go_enter Tryz.func12,Tryz.ntmps12;go_upto_region 1 with fail
 rw[←HwB.out];go_upto_region 4 with fail
 rw[hrem];have HGe:=hid (HG.out.later ((Below.refl wB.heap.size wB).alloc (Nat.le_refl _) (.cells #[.int .i64 0,.int .i64 0] 64)));have d0:=HG.out.cell 0 rfl;have d1:=HG.out.cell 1 rfl;have d2:=HG.out.cell 2 rfl;have d3:=HG.out.cell 3 rfl;have d4:=HG.out.cell 4 rfl;have e0:=HGe.out.cell 0 rfl;have e1:=HGe.out.cell 1 rfl;have e2:=HGe.out.cell 2 rfl;have e3:=HGe.out.cell 3 rfl;have e4:=HGe.out.cell 4 rfl;clear hrem hn1
 go_region_with (first
  | (go_at_call 47
     first
     | (refine(HP.out wB.drew _ _ _ _ (HCt.out _ HbB.out.drew) HbB.out.drew Hm6.out).mono ?_
        rintro e w5 ⟨⟨ks,es,x,V,hP,rfl,hK⟩,hb5⟩;obtain⟨ka,kc,rfl⟩:=hK.slice;have HPa:=hid hP;have HK5:=hid hK;have Hb5:=hid (show Below wB.heap.size wB w5 from(Below.refl wB.heap.size wB).drew.trans hb5)
        clear hb5 hP hK)
     | (refine(HP.out (wB.alloc (.cells #[.int .i64 0,.int .i64 0] 64)).drew _ _ _ _ (HCt.out _ (HbB.out.alloc HsB.out _).drew) (HbB.out.alloc HsB.out _).drew Hm6.out).mono ?_
        rintro e w5 ⟨⟨ks,es,x,V,hP,rfl,hK⟩,hb5⟩;obtain⟨ka,kc,rfl⟩:=hK.slice;have HPa:=hid hP;have HK5:=hid hK;have Hb5:=hid (show Below wB.heap.size wB w5 from((Below.refl wB.heap.size wB).alloc (Nat.le_refl _) _).drew.trans (hb5.mono (by simp)));have HR5:=hid (show Row w5 wB.heap.size 64 [.int .i64 0,.int .i64 0] from(yf wB 64 [.int .i64 0,.int .i64 0]).later ((Below.refl _ _).drew.trans hb5));have q0:=HR5.out.cell 0 rfl;have q1:=HR5.out.cell 1 rfl;have g0:=HR5.out.fz 0;have g1:=HR5.out.fz 1;clear hb5 hP hK)))
 all_goals
  first
  | (have HY0:=hid (yf w5 64 [.int .i64 (x.1:Nat),.int .i64 (x.2:Nat)])
     have HbE0:=hid (Hb5.out.alloc Hb5.out.size (.cells #[.int .i64 (x.1:Nat),.int .i64 (x.2:Nat)] 64));have HKE0:=hid (HK5.out.later ((Below.refl w5.heap.size w5).alloc (Nat.le_refl _) (.cells #[.int .i64 (x.1:Nat),.int .i64 (x.2:Nat)] 64)));obtain⟨wE,hwE⟩:∃wE,w5.alloc (.cells #[.int .i64 (x.1:Nat),.int .i64 (x.2:Nat)] 64)=wE:=⟨_,rfl⟩;rw[hwE];have HY:=hid (show Row wE w5.heap.size 64 [.int .i64 (x.1:Nat),.int .i64 (x.2:Nat)] from hwE ▸ HY0.out);have HbE:=hid (show Below wB.heap.size wB wE from hwE ▸ HbE0.out);have HKE:=hid (show ∃base,KnosM wE base (.slice ka ks.length kc) ks from⟨_,hwE ▸ HKE0.out⟩);clear HY0 HbE0 HKE0 hwE Hb5 HK5;generalize w5.heap.size=r at*
     skip)
  | (have HY0:=hid ((HR5.out.set 0 (.int .i64 (x.1:Nat))).set 1 (.int .i64 (x.2:Nat)))
     have HbE0:=hid (zdt Hb5.out (i:=0) (j:=1) (x:=.int .i64 (x.1:Nat)) (y:=.int .i64 (x.2:Nat)) (show wB.heap.size≤wB.heap.size from Nat.le_refl _));have HKE0:=hid ((HK5.out.put HR5.out (by unfold qh;decide) (by decide) (i:=0) (.int .i64 (x.1:Nat))).put (HR5.out.set 0 (.int .i64 (x.1:Nat))) (by unfold qh;decide) (by decide) (i:=1) (.int .i64 (x.2:Nat)));obtain⟨wE,hwE⟩:∃wE,(w5.setCell ⟨wB.heap.size,0,none⟩ (.int .i64 (x.1:Nat))).setCell ⟨wB.heap.size,1,none⟩ (.int .i64 (x.2:Nat))=wE:=⟨_,rfl⟩;rw[hwE];have HY:=hid (show Row wE wB.heap.size 64 [.int .i64 (x.1:Nat),.int .i64 (x.2:Nat)] from hwE ▸ HY0.out);have HbE:=hid (show Below wB.heap.size wB wE from hwE ▸ HbE0.out);have HKE:=hid (show ∃base,KnosM wE base (.slice ka ks.length kc) ks from⟨_,hwE ▸ HKE0.out⟩);clear HY0 HbE0 HKE0 hwE Hb5 HK5 HR5 q0 q1 g0 g1;generalize wB.heap.size=r at HY ⊢
     skip)
  clear d0 d1 d2 d3 d4 e0 e1 e2 e3 e4;have HGE:=hid (HG.out.later HbE.out);have HwE:=hid (HbB.out.trans (HbE.out.mono HsB.out));have l0:=HGE.out.cell 0 rfl;have l1:=HGE.out.cell 1 rfl;have l2:=HGE.out.cell 2 rfl;have l3:=HGE.out.cell 3 rfl;have l4:=HGE.out.cell 4 rfl;go_wp2_with fail;refine(HP.out _ _ _ _ _ (HB.out _ HwE.out) HwE.out (by have:=Hn.out;omega)).mono ?_;rintro e w6 ⟨⟨ks2,es2,x2,V2,hP2,rfl,hK2⟩,hb6⟩;have Hw6:=hid (HwE.out.trans (hb6.mono HwE.out.size));have HY6:=hid (HY.out.later hb6);have hK6:KnosM w6 _ (.slice ka ks.length kc) ks:=HKE.out.choose_spec.later hb6;obtain⟨ua,uc,hua,hU6⟩:=hK6.read;injection hua with hua1 _ hua2;subst hua1 hua2;obtain⟨va,vc,rfl,hS6⟩:=hK2.read;have hbg:=zux Hl.out (Nat.le_trans Hmn.out (Nat.le_of_eq Hlen.out.symm)) HPa.out hP2
  have hall:∃ms,ks2=ks++ms:=by
   by_cases h0:x.1=0
   · exact(hbg.2 h0).1
   · exact⟨[],by rw[(hbg.1 h0).1,List.append_nil]⟩
  obtain⟨ms,hms⟩:=hall;have hkl:ks.length≤ks2.length:=by rw[hms,List.length_append];omega
  have htk:ks2.take ks.length=ks:=by rw[hms,List.take_left]
  have hT6:=hS6.take hkl;rw[htk] at hT6;have hal6:=(Below.refl w6.heap.size w6).alloc (Nat.le_refl _) (.cells #[.int .i64 (x2.1:Nat),.int .i64 (x2.2:Nat)] 64);have HSm:=hid (zuv _ _ _ _ _ _ _ _ _ (hU6.below hal6) (hT6.below hal6));have HZ:=hid (show Row (w6.alloc (.cells #[.int .i64 (x2.1:Nat),.int .i64 (x2.2:Nat)] 64)) w6.heap.size 64 [.int .i64 (x2.1:Nat),.int .i64 (x2.2:Nat)] from yf w6 64 _);have HY7:=hid (HY6.out.later hal6);have Hw7:=hid (Hw6.out.trans (hal6.mono Hw6.out.size));have hgt:decide ((ks2.length:Int)<(ks.length:Int))=false:=by rw[decide_eq_false_iff_not];omega
  have hgt2:decide (ks2.length<ks.length)=false:=by rw[decide_eq_false_iff_not];omega
  have hmin:min (ks.length:Int) (ks2.length:Int)=(ks.length:Int):=by omega
  have hmin2:min ks.length ks2.length=ks.length:=by omega
  have Hbg:=hid hbg;have hr1:=hS6.room;clear hbg hP2 hK2 hb6 hK6 hU6 hS6 hT6 hal6 hms htk l0 l1 l2 l3 l4;go_wp2_with fail;refine HSm.out.mono ?_;rintro e w8 ⟨⟨r',rfl,hr⟩,hb8⟩;obtain rfl:r'=1:=by rcases hr with ⟨h,-⟩ | ⟨-,h⟩;exact h;exact absurd rfl h
  have HY8:=hid (HY7.out.later hb8);have HZ8:=hid (HZ.out.later hb8);have Hw8:=hid (Hw7.out.trans (hb8.mono Hw7.out.size));have y0:=HY8.out.cell 0 rfl;clear hb8 hr HSm hgt hgt2 hmin hmin2 hr1;by_cases h0:x.1=0
  · have hne:((x.1:Int) != 0)=false:=by rw[bne_eq_false_iff_eq];omega
    have hb2:=(Hbg.out.2 h0).2;have hle:decide ((x.2:Int)≤(m:Int))=true:=by rw[decide_eq_true_iff];have:=hb2.1;omega
    have hle2:decide (x.2≤m)=true:=decide_eq_true hb2.1;have Hb2:=hid hb2.2;clear h0 hb2;go_wp2_with fail;refine(HA.out _ Hw8.out).mono ?_;rintro e w9 ⟨rfl,hb9⟩;have Hw9:=hid (Hw8.out.trans (hb9.mono Hw8.out.size));have t1:=(HY8.out.later hb9).cell 1 rfl;have s0:=(HZ8.out.later hb9).cell 0 rfl;have s1:=(HZ8.out.later hb9).cell 1 rfl;clear hb9 y0;by_cases h2:x2.1=0
    · have hn2:((x2.1:Int) != 0)=false:=by rw[bne_eq_false_iff_eq];omega
      have hl2:decide ((x.2:Int)≤(x2.2:Int))=true:=by rw[decide_eq_true_iff];have:=Hb2.out h2;omega
      have hl3:decide (x.2≤x2.2)=true:=decide_eq_true (Hb2.out h2);clear h2;go_wp2_with fail;go_ret;exact⟨rfl,Hw9.out⟩
    · have hn2:((x2.1:Int) != 0)=true:=by rw[bne_iff_ne];omega
      clear h2;go_wp2_with fail;go_ret;exact⟨rfl,Hw9.out⟩
  · have hne:((x.1:Int) != 0)=true:=by rw[bne_iff_ne];omega
    obtain⟨rfl,rfl⟩:=Hbg.out.1 h0;clear h0;go_wp2_with fail;refine(HA.out _ Hw8.out).mono ?_;rintro e w9 ⟨rfl,hb9⟩;have Hw9:=hid (Hw8.out.trans (hb9.mono Hw8.out.size));have t0:=(HY8.out.later hb9).cell 0 rfl;have t1:=(HY8.out.later hb9).cell 1 rfl;have s0:=(HZ8.out.later hb9).cell 0 rfl;have s1:=(HZ8.out.later hb9).cell 1 rfl;clear hb9 y0;go_wp2_with fail;go_ret;exact⟨rfl,Hw9.out⟩
end
