/- Part 30. -/
import Derived.Test.YtdnipikdddfhfaaGreatDoorSa22
set_option linter.unusedVariables false
set_option maxHeartbeats 16000000
namespace Go.Proofs.YtdnipikdddfhfaaGreatDoor
open Lib (hid)
section
theorem zy2 (L:za) (s:Dc):zu L s []=s:=rfl
end
section
open Go.RowKit
attribute [local go_sem] yq Tryz.eqGuard_if
theorem zy3 (L:za) (s:Dc) (c:Nat) (hv:s.vc≤20):(zu L { s with out:=[],sn:=0 } [c]).vc≤20∧(((zu L { s with out:=[],sn:=0 } [c]).out.length=0∧(zu L { s with out:=[],sn:=0 } [c]).fin=s.fin)∨
 ((zu L { s with out:=[],sn:=0 } [c]).out.length=1∧(zu L { s with out:=[],sn:=0 } [c]).fin=(zu L { s with out:=[],sn:=0 } [c]).tk)):=by
 rw[zej,zy2];split
 · exact⟨hv,.inl ⟨rfl,rfl⟩⟩
 · obtain⟨h1,-,-,h2,h3⟩:=zh1 L { s with out:=[],sn:=0 } c hv;refine⟨h1,?_⟩;rcases h3 with ⟨a,b⟩ | ⟨a,b⟩
   · exact .inl ⟨by rw[a];rfl,b⟩
   · exact .inr ⟨a,by rw[b,h2]⟩
set_option maxRecDepth 20000 in
theorem zy4 (a:Option Addr) (n cap:Nat) (l:List Nat) (L:za) (w:World) (hB:Byts w a n cap l) (hL:LimsI L) (hD:Door w):
 Calls Tryz.prog 6 #[.slice a n cap,lmV L] w fun e w'=>e=.returned (.bool true)∧Below w.heap.size w w':=by
 obtain⟨wB,hwB⟩:∃wB,wB=w.alloc (.cells #[.int .i64 L.1,.int .i64 L.2.1,.int .i64 L.2.2.1,.int .i64 L.2.2.2.1,.int .i64 L.2.2.2.2] 24):=⟨_,rfl⟩;have hbB:Below w.heap.size w wB:=by rw[hwB];exact(Below.refl _ _).alloc (Nat.le_refl _) _
 have HG:=hid (show Row wB w.heap.size 24 [.int .i64 L.1,.int .i64 L.2.1,.int .i64 L.2.2.1,.int .i64 L.2.2.2.1,.int .i64 L.2.2.2.2] from by rw[hwB];exact yo w _ _);have HwB:=hid hwB;have HbB:=hid hbB;have HA:=hid (fun W (h:Below w.heap.size w W)=>zoh W (hD.below (Nat.le_refl _) h));have hnm:n≤9223372036854775807:=Nat.le_trans hB.room hB.most;have HS0:=hid (fun W b hb=>zn9 a none n cap 0 0 L W hnm (by decide) b hb);have l0:=HG.out.cell 0 rfl;have l1:=HG.out.cell 1 rfl;have l2:=HG.out.cell 2 rfl;have l3:=HG.out.cell 3 rfl;have l4:=HG.out.cell 4 rfl;have Hsz:=hid hbB.size;unfold lmV at HS0;by_cases hsm:n≤1000∧L.1≤1099511627776∧0≤100
 · have HS:=hid (fun W=>HS0.out W true (by rw[decide_eq_true hsm]));have HNw:=hid (fun V=>zh8 L V);have hgl:0<w.heap.size:=zd (p:=⟨0,0,none⟩) hD
   have HFd:=hid (fun W B d t s ks es c (h0:Below w.heap.size w W) (h1:DecM W B d L t s ks es) (h2:B≤W.heap.size) (h3:w.heap.size<d) (h4:d<B) (h5:t.length≤1000) (h6:c<256)=>
    zf2 (h1.later ((Below.refl W.heap.size W).alloc (Nat.le_refl _) (.cells #[.int .u8 ((c:Nat):Int)] 5))) (Nat.le_trans h2 ((Below.refl W.heap.size W).alloc (Nat.le_refl _) (.cells #[.int .u8 ((c:Nat):Int)] 5)).size) h4 (by omega) (by omega)
     (hD.below (Nat.le_refl _) (h0.alloc h0.size (.cells #[.int .u8 ((c:Nat):Int)] 5))) hL (some ⟨W.heap.size,0,none⟩) 1 1 [c] (za4 W W.heap.size 1 _ [c] _ _ rfl rfl rfl (by intro x hx;simp at hx;omega) (by omega)) (fun _ b o k e=>by injection e with e;injection e with e;omega) (.inl (Nat.le_refl 1)) (by omega))
   have HB:=hid (fun W (h:Below w.heap.size w W)=>hB.below h);have Hlt:=hid hB.lt;have Hlen:=hid hB.len;have Hsm:=hid hsm;unfold lmV at HNw ⊢;clear hB hL hD hwB hbB hsm hgl;go_enter Tryz.func6,Tryz.ntmps6;go_upto_region 1 with fail
   rw[←HwB.out];go_wp2_with fail;refine(HS.out _).mono ?_;rintro e w1 ⟨rfl,hb1⟩;have HG1:=hid (HG.out.later hb1);have Hb1:=hid (HbB.out.trans (hb1.mono Hsz.out));clear hb1 l0 l1 l2 l3 l4;have l0:=HG1.out.cell 0 rfl;have l1:=HG1.out.cell 1 rfl;have l2:=HG1.out.cell 2 rfl;have l3:=HG1.out.cell 3 rfl;have l4:=HG1.out.cell 4 rfl;go_wp2_with fail;refine(HNw.out _).mono ?_;rintro e w2 ⟨d,hd1,hd2,rfl,hr2,hb2⟩;have HG2:=hid (HG1.out.later hb2);have Hb2:=hid (Hb1.out.trans (hb2.mono Hb1.out.size));obtain⟨B,hBq⟩:∃B,w2.heap.size=B:=⟨_,rfl⟩;have HM2:=hid (show DecM w2 B d L [] dc0 [] [] from⟨_,_,hr2,zfw _,fun c h=>(by cases h),Nat.zero_le _,fun h=>by rcases h with h | h <;> cases h⟩);have Hd:=hid (show w.heap.size<d∧d<B∧w.heap.size<B from⟨Nat.lt_of_lt_of_le HG1.out.lt hd1,hBq ▸ hd2,by have:=HG1.out.lt;omega⟩);have HB2:=hid (Nat.le_of_eq hBq.symm);clear hb2 hd1 hd2 hr2 l0 l1 l2 l3 l4 hBq;go_wp2_with fail;go_loopw [6,8,9,10,22] (fun en c k m i wr=>∃(q:Nat) (t:List Nat) (s:Dc) (ks:List Kno) (es:List Nat),q≤n∧i=.int .i64 q∧en=.int .i64 (s.fin:Nat)∧Hid (DecM wr B d L t s ks es)∧Hid (Below w.heap.size w wr)∧Hid (t.length≤q)∧Hid (Row wr w.heap.size 24 [.int .i64 L.1,.int .i64 L.2.1,.int .i64 L.2.2.1,.int .i64 L.2.2.2.1,.int .i64 L.2.2.2.2])∧Hid (B≤wr.heap.size)) (fun _ _ _ _ i _=>n - (intOf i).toNat)
   case atStart=>exact⟨0,[],dc0,[],[],Nat.zero_le _,rfl,rfl,HM2,Hb2,hid (Nat.zero_le _),HG2,HB2⟩
   case round=>
    obtain⟨q,t,s,ks,es,hq,rfl,rfl,hM,hb,ht,hG,hBr⟩:=hrel;by_cases hqn:q<n
    · obtain⟨cb,co,rfl,hcell⟩:=(HB.out _ hb.out).cells (by omega);have hc:=hcell q hqn;have HF:=hid (HFd.out wr B d t s ks es (nth l q) hb.out hM.out hBr.out Hd.out.1 Hd.out.2.1 (by have:=ht.out;have:=Hsm.out;omega) (zdn Hlt.out (by decide) q));have hvc:s.vc≤20:=by obtain⟨_,_,_,_,_,h,-⟩:=hM.out;exact h
      have hone:=zy3 L s (nth l q) hvc;clear hcell hvc;go_wp2_with fail;refine HF.out.mono ?_;rintro e w5 ⟨V5,t5,u5,f5,rfl,hk5,e5,-,hM5,hlo5⟩;obtain⟨s5,hs5⟩:∃s5,zu L { s with out:=[],sn:=0 } [nth l q]=s5:=⟨_,rfl⟩;rw[hs5] at hk5 hM5 hone ⊢;obtain⟨va,vc,rfl⟩:=hk5.slice;have hz5:wr.heap.size≤w5.heap.size:=Nat.le_trans ((Below.refl wr.heap.size wr).alloc (Nat.le_refl _) (.cells #[.int .u8 ((nth l q:Nat):Int)] 5)).size hlo5.size;have Hb5:=hid ((hb.out.alloc hb.out.size (.cells #[.int .u8 ((nth l q:Nat):Int)] 5)).trans (hlo5.toBelow (Nat.le_of_lt Hd.out.2.2) (Nat.le_of_lt Hd.out.1)));have HG5:=hid ((hG.out.later ((Below.refl wr.heap.size wr).alloc (Nat.le_refl _) (.cells #[.int .u8 ((nth l q:Nat):Int)] 5))).lo hlo5 Hd.out.2.2 (Nat.ne_of_lt Hd.out.1));have HB5:=hid (Nat.le_trans hBr.out hz5)
      have hlt5:t5.length≤t.length+1:=by
       have:=congrArg List.length e5;rw[List.length_append,List.length_append,List.length_singleton] at this;omega
      have Ht5:=hid (show t5.length≤q+1 from by have:=ht.out;omega);have hsi:SI L t5 s5 (ks++s5.out) (es++f5):=by obtain⟨_,_,_,h,-⟩:=hM5;exact h
      have hk:=hsi.tk;have hf:=hsi.fin;have hbu:=hsi.buf;obtain⟨mx,hmx⟩:=Int.eq_ofNat_of_zero_le (show 0≤max L.1 0 by omega);rw[hmx] at hbu;have hmb:mx≤1099511627776:=by have:=Hsm.out.2.1;omega
      obtain⟨m19,h19⟩:∃v,mx+19=v:=⟨_,rfl⟩;have hw19:IntKind.i64.wrap ((mx:Int)+19)=(m19:Int):=by rw[IntKind.wrap_i64];omega
      have htb:s5.tk≤1000000000000000:=by have:=ht.out;have:=Hsm.out;omega
      obtain⟨tv,htv⟩:∃v,s5.tk=v:=⟨_,rfl⟩;have HTk:=hid (fun W (h:DecM W B d L t5 s5 (ks++s5.out) (es++f5))=>zog s5 tv htv h);have HM5:=hid hM5;rcases hone.2 with ⟨ho,hfe⟩ | ⟨ho,hfe⟩
      · obtain⟨bv,hbv⟩:∃v,s5.tk - s5.fin=v:=⟨_,rfl⟩;have HBu:=hid (fun W (h:DecM W B d L t5 s5 (ks++s5.out) (es++f5))=>zh9 s5 bv hbv htb h);have hsub:IntKind.i64.wrap ((tv:Int) - (s.fin:Int))=(bv:Int):=by rw[IntKind.wrap_i64];omega
        have hgt:decide ((m19:Int)<(bv:Int))=false:=by rw[decide_eq_false_iff_not];omega
        have hgt2:decide (m19<bv)=false:=by rw[decide_eq_false_iff_not];omega
        have HEN:=hid hfe;rw[ho];clear hone hk5 e5 hM5 hlo5 hz5 hlt5 hsi hk hf hbu hmb h19 htb htv hbv ho hfe hs5;go_upto_region 13 with fail
        refine ki (by kernel_rfl) (by kernel_rfl) ?_
        repeat (go_big_quiet_step ((intro hw;first
         | rfl
         | (go_at_call 39;exact zab hw (HBu.out _ (HM5.out.later hw)))
         | (go_at_call 37;exact zab hw (HTk.out _ (HM5.out.later hw)))
         | (have y0:=(HG5.out.later hw).cell 0 rfl
            go_simp;first | rfl | exact⟨rfl,hw⟩ | (trace_state;fail)))))
        refine wpQuiet_nil ?_;intro w9 hb9;have HM9:=hid (HM5.out.later hb9);have HG9:=hid (HG5.out.later hb9);have Hb9:=hid (Hb5.out.trans (hb9.mono Hb5.out.size));have HB9:=hid (Nat.le_trans HB5.out hb9.size);clear hb9;go_wp2_with fail;go_roundw
        case rel=>exact⟨q+1,t5,s5,_,_,by omega,by go_num,by rw[HEN.out],HM9,Hb9,Ht5,HG9,HB9⟩
        case measure=>simp[intOf];omega
      · have hbz:s5.tk - s5.fin=0:=by omega
        have HBu:=hid (fun W (h:DecM W B d L t5 s5 (ks++s5.out) (es++f5))=>zh9 s5 0 hbz htb h);have hgt:decide ((m19:Int)<0)=false:=by rw[decide_eq_false_iff_not];omega
        have HEN:=hid (show s5.fin=tv from hfe.trans htv);rw[ho];clear hone hk5 e5 hM5 hlo5 hz5 hlt5 hsi hk hf hbu hmb h19 htb htv hbz ho hfe hs5;go_wp2_with fail;refine(HTk.out _ HM5.out).mono ?_;rintro e w6 ⟨rfl,hb6⟩;have HM5:=hid (HM5.out.later hb6);have HG5:=hid (HG5.out.later hb6);have HB5:=hid (Nat.le_trans HB5.out hb6.size);have Hb5:=hid (Hb5.out.trans (hb6.mono Hb5.out.size));clear hb6;go_upto_region 13 with fail
        refine ki (by kernel_rfl) (by kernel_rfl) ?_
        repeat (go_big_quiet_step ((intro hw;first
         | rfl
         | (go_at_call 39;exact zab hw (HBu.out _ (HM5.out.later hw)))
         | (go_at_call 37;exact zab hw (HTk.out _ (HM5.out.later hw)))
         | (have y0:=(HG5.out.later hw).cell 0 rfl
            go_simp;first | rfl | exact⟨rfl,hw⟩ | (trace_state;fail)))))
        refine wpQuiet_nil ?_;intro w9 hb9;have HM9:=hid (HM5.out.later hb9);have HG9:=hid (HG5.out.later hb9);have Hb9:=hid (Hb5.out.trans (hb9.mono Hb5.out.size));have HB9:=hid (Nat.le_trans HB5.out hb9.size);clear hb9;go_wp2_with fail;go_roundw
        case rel=>exact⟨q+1,t5,s5,_,_,by omega,by go_num,by rw[HEN.out],HM9,Hb9,Ht5,HG9,HB9⟩
        case measure=>simp[intOf];omega
    · obtain rfl:q=n:=by omega
      go_wp2_with fail;refine(HA.out _ hb.out).mono ?_;rintro e w5 ⟨rfl,hb5⟩;have Hb5:=hid (hb.out.trans (hb5.mono hb.out.size));clear hb5;go_wp2_with fail;go_ret;exact⟨rfl,Hb5.out⟩
 · have HS:=hid (fun W=>HS0.out W false (by rw[decide_eq_false hsm]));clear hB hL hD hwB hbB hsm;unfold lmV;go_enter Tryz.func6,Tryz.ntmps6;go_upto_region 1 with fail
   rw[←HwB.out];go_wp2_with fail;refine(HS.out _).mono ?_;rintro e w1 ⟨rfl,hb1⟩;have Hb1:=hid (HbB.out.trans (hb1.mono Hsz.out));clear hb1 l0 l1 l2 l3 l4;go_wp2_with fail;refine(HA.out _ Hb1.out).mono ?_;rintro e w2 ⟨rfl,hb2⟩;have Hb2:=hid (Hb1.out.trans (hb2.mono Hb1.out.size));clear hb2;go_wp2_with fail;go_ret;exact⟨rfl,Hb2.out⟩
end
