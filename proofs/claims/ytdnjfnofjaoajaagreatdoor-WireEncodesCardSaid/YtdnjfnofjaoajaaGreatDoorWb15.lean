/- Walks and laws, joined: Wb15. -/
import Derived.Test.YtdnjfnofjaoajaaGreatDoorWb14
set_option linter.unusedVariables false
set_option maxHeartbeats 16000000
namespace Go.Proofs.YtdnjfnofjaoajaaGreatDoor
open Lib (hid)
section
open Go.RowKit
theorem zt0 (a:Option Addr) (n cap:Nat) (l:List Iv) (w:World) (hI:Ivs w a n cap l) (hD:Door w):
 Calls Tryz.prog 116 #[.slice a n cap] w fun e w'=>e=.returned (yl (yj (ck l)))∧Below w.heap.size w w':=by
 have HD:=hid hD;clear hD;have HI:=hid hI;have Hl:=hid hI.len;have hm:n≤9223372036854775807:=Nat.le_trans hI.room hI.most;clear hI;go_enter Tryz.func116,Tryz.ntmps116;go_wp2;go_loopw [3,4,5,8] (fun _ _ _ i wr=>∃k:Nat,k≤n∧i=.int .i64 k∧Below w.heap.size w wr∧Hid (∀j,j<k→zbm l j=none)) (fun _ _ _ i _=>n - (intOf i).toNat)
 case atStart=>exact⟨0,by omega,rfl,Below.refl _ _,fun j h=>by omega⟩
 case round=>
  obtain⟨k,hk,rfl,hb,ht⟩:=hrel;have Hb:=hid hb;clear hb;by_cases hkn:k<n
  · obtain⟨bb,oo,rfl,hcell⟩:=(HI.out.below Hb.out).cells (by omega);obtain⟨hc1,hc2⟩:=hcell k hkn;have Hcell:=hid hcell;clear hcell;have Hlt:=hid (HI.out.lt (zb l k) (zaa (by rw[Hl.out];exact hkn)));have hin:zbm l k=if (zb l k).2<(zb l k).1 then some (2,k) else if 0<k∧qh (zb l (k - 1)) (zb l k)≠0 then some (3,k) else none:=rfl;generalize hs:zb l k=s at*;have Hs:=hid hs;clear hs;by_cases h2:s.2<s.1
    · rw[if_pos h2] at hin;have Hr:=hid (show ck l=some (2,k) from jg (by rw[Hl.out];exact hkn) ht.out hin);clear hin;have hC:=hid (fun w=>zqp s w);rw[if_pos h2] at hC;clear h2;go_wp2_with fail;refine(hC.out _).mono ?_;rintro e w1 ⟨rfl,hb1⟩;have Hb1:=hid ((Hb.out.alloc Hb.out.size _).trans (hb1.mono (Below.size (Hb.out.alloc Hb.out.size _))));clear hb1;simp only[yl];go_wp2_with fail;refine(zci (some (2,none)) _ (HD.out.below (Nat.le_refl _) Hb1.out)).mono ?_;rintro e w2 ⟨rfl,hb2⟩;have Hb2:=hid (Hb1.out.trans (hb2.mono Hb1.out.size));clear hb2;simp only[qo];go_wp2_with fail;refine(zaf 2 k _).mono ?_;rintro e w3 ⟨rfl,rfl⟩;go_wp2_with fail;go_ret;exact⟨by rw[Hr.out];rfl,Hb2.out⟩
    · rw[if_neg h2] at hin;have hC:=hid (fun w=>zqp s w);rw[if_neg h2] at hC;clear h2;by_cases hk0:0<k
      · obtain⟨hp1,hp2⟩:=Hcell.out (k - 1) (by omega);have Hpl:=hid (HI.out.lt (zb l (k - 1)) (zaa (by rw[Hl.out];omega)));generalize hp:zb l (k - 1)=p at*;have Hp:=hid hp;clear hp;have hR:=hid (fun w=>zmv p s w Hpl.out Hlt.out);have hg:decide (0<(k:Int))=true:=by rw[decide_eq_true_iff];omega
        have hsub:IntKind.i64.wrap ((k:Int) - 1)=(k:Int) - 1:=by rw[IntKind.wrap_i64];omega
        have h01:0≤(k:Int) - 1:=by omega
        have h02:((k:Int) - 1).toNat=k - 1:=by omega
        have h03:(k:Int) - 1<(n:Int):=by omega
        have Hin:=hid hin;clear hin;go_wp2_with fail;refine(hC.out _).mono ?_;rintro e w1 ⟨rfl,hb1⟩;have Hbb:=hid ((Below.refl _ _).alloc (Nat.le_refl _) (.cells #[.int .u64 s.1,.int .u64 s.2] 99) |>.trans (hb1.mono (by simp)));have hz1:=hb1.size;have hq1:=(Hbb.out.cell (p:=⟨bb,oo+(k - 1)*2,none⟩) (ze hp1)).trans hp1;have hq2:=(Hbb.out.cell (p:=⟨bb,oo+(k - 1)*2+1,none⟩) (ze hp2)).trans hp2;have hq3:=hb1.cell (p:=⟨wr.heap.size,0,none⟩) (by simp);have hq4:=hb1.cell (p:=⟨wr.heap.size,1,none⟩) (by simp);simp only[World.cell?_alloc_mark] at hq3 hq4;simp at hq3 hq4;have Hb1:=hid (Hb.out.trans (Hbb.out.mono Hb.out.size));clear hb1;simp only[yl];clear hp1 hp2 hc1 hc2;go_wp2_with fail;refine qi (by kernel_rfl) (by kernel_rfl) ?_
        repeat (go_big_quiet_step ((intro hw;first
         | rfl
         | (go_at_call 154;exact kp hw (hR.out _))
         | (have q1:=(hw.cell (p:=⟨bb,oo+(k - 1)*2,none⟩) (ze hq1)).trans hq1
            have q2:=(hw.cell (p:=⟨bb,oo+(k - 1)*2+1,none⟩) (ze hq2)).trans hq2;have q3:=(hw.cell (p:=⟨wr.heap.size,0,none⟩) (ze hq3)).trans hq3;have q4:=(hw.cell (p:=⟨wr.heap.size,1,none⟩) (ze hq4)).trans hq4;go_simp;first | rfl | exact⟨rfl,hw⟩ | (trace_state;fail)))))
        refine wpQuiet_nil ?_;intro w3 hb3;have Hb3:=hid (Hb1.out.trans (hb3.mono Hb1.out.size));clear hb3;clear hq1 hq2 hq3 hq4 h01 h02 h03 hsub hg hz1;have Hkn:=hid hkn;by_cases hr0:qh p s=0
        · have Hr:=hid (show zbm l k=none from by rw[Hin.out,if_neg (by intro h;exact h.2 hr0)]);rw[hr0];clear hr0;go_wp2;go_roundw
          case rel=>exact⟨k+1,by omega,by go_num,Hb3.out,fun j hj=>by
           rcases Nat.lt_or_ge j k with h | h
           · exact ht.out j h
           · rw[show j=k from(by omega)];exact Hr.out⟩
          case measure=>simp[intOf];omega
        · have Hr:=hid (show ck l=some (3,k) from jg (by rw[Hl.out];exact hkn) ht.out (by rw[Hin.out,if_pos ⟨hk0,hr0⟩]));have hne:(((qh p s:Nat):Int) != 0)=true:=by rw[bne_iff_ne];omega
          generalize qh p s=r at*;clear hr0;go_wp2_with fail;refine(zaf 3 k _).mono ?_;rintro e w3 ⟨rfl,rfl⟩;go_wp2_with fail;go_ret;exact⟨by rw[Hr.out];rfl,Hb3.out⟩
      · obtain rfl:k=0:=by omega
        have Hr:=hid (show zbm l 0=none from by rw[hin,if_neg (by omega)]);clear hin hk0;simp only[Nat.zero_mul,Nat.add_zero] at hc1 hc2;rw[show ((0:Nat):Int)=0 from rfl];go_wp2_with fail;refine(hC.out _).mono ?_;rintro e w1 ⟨rfl,hb1⟩;have Hb1:=hid ((Hb.out.alloc Hb.out.size _).trans (hb1.mono (Below.size (Hb.out.alloc Hb.out.size _))));clear hb1;simp only[yl];go_wp2_with fail;refine qi (by kernel_rfl) (by kernel_rfl) ?_;repeat (go_big_quiet_step ((intro hw;first | rfl | (trace_state;fail))))
        refine wpQuiet_nil ?_;intro w3 hb3;have Hb3:=hid (Hb1.out.trans (hb3.mono Hb1.out.size));clear hb3;go_wp2;go_roundw
        case rel=>exact⟨1,by omega,by go_num,Hb3.out,fun j hj=>by rw[show j=0 from(by omega)];exact Hr.out⟩
        case measure=>simp[intOf];omega
  · obtain rfl:k=n:=by omega
    go_wp2;go_ret;exact⟨by rw[show ck l=none from k7 (by rw[Hl.out];exact ht.out)];rfl,Hb.out⟩
end
section
open Go.RowKit
attribute [local go_sem] vq
def ziq (w:World) (g ap lo d:Nat) (last:Option Iv) (e:Ending) (w':World):Prop:=
 if lo+d<18446744073709551616 then e=.returned (.tuple #[ivV (lo,lo+d),.bool true])∧Row w' g 183 (jw g ap lo (some (lo,lo+d)) false)∧w.grownBy w' (some g)
 else e=.returned (.tuple #[ivV (0,0),.bool false])∧Row w' g 183 (jw g ap lo last true)∧w.grownBy w' (some g)
set_option maxRecDepth 20000 in
theorem zt1 (g ap lo d:Nat) (last:Option Iv) (w:World) (h:Row w g 183 (jw g ap lo last true)) (hlo:lo<18446744073709551616) (hd:d<18446744073709551616):
 Calls Tryz.prog 152 #[.pointer (some ⟨g,0,none⟩),.int .u64 (d:Int)] w (ziq w g ap lo d last):=by
 have q1:=fun o=>(h.later ((Below.refl _ _).alloc (Nat.le_refl _) o)).cell 1 rfl
 have q5:=fun o=>(h.later ((Below.refl _ _).alloc (Nat.le_refl _) o)).cell 5 rfl
 have h64:∀x∈[lo,d],x<18446744073709551616:=fun x hx=>by
  simp only[List.mem_cons,List.not_mem_nil,or_false] at hx;rcases hx with rfl | rfl <;> assumption
 have hsum:[lo,d].sum=lo+d:=by simp only[List.sum_cons,List.sum_nil,Nat.add_zero]
 have H:=hid h;have H64:=hid h64;have Hal:Below w.heap.size w (w.alloc (.cells #[.int .u64 0,.int .u64 0] 99)):=(Below.refl _ _).alloc (Nat.le_refl _) _;have Ha:=hid Hal;have HX:=hid (zcd w 99 [.int .u64 0,.int .u64 0]);clear hlo hd h64 Hal;by_cases hc:lo+d<18446744073709551616
 · have Hr:=hid (fun e w'=>show ziq w g ap lo d last e w'=_ from if_pos hc);have hv:zbt [lo,d].sum=.tuple #[.int .u64 ((lo+d:Nat):Int),.bool true]:=by rw[hsum];exact zim hc
   have HS:=hid (fun W g hW=>zgx [lo,d] W g 2 hW rfl H64.out (by omega) hv);clear hc hsum hv;generalize lo+d=S at*;go_enter Tryz.func152,Tryz.ntmps152;go_wp2_with fail;refine(HS.out _ (w.heap.size+1) (by exact zg _ _ _ (by simp))).mono ?_;rintro e w1 ⟨rfl,hb1⟩;have hb2:=(Below.refl _ _).alloc (Nat.le_refl _) _ |>.trans (hb1.mono (by simp))
   have hX:=HX.out.later hb2;have x0:=hX.cell 0 rfl;have x1:=hX.cell 1 rfl;have y0:=hX.fz 0;have y1:=hX.fz 1;have h1:=H.out.later (Ha.out.trans (hb2.mono (by simp)));have p1:=h1.cell 1 rfl;have p2:=h1.cell 2 rfl;have p3:=h1.cell 3 rfl;have p4:=h1.cell 4 rfl;have p5:=h1.cell 5 rfl;have p6:=h1.cell 6 rfl;have z2:=h1.fz 2;have z3:=h1.fz 3;have z4:=h1.fz 4;have z5:=h1.fz 5;have z6:=h1.fz 6;have hne:¬g=w.heap.size:=by have:=H.out.lt;omega
   have HF:=hid (show Row (((((w1.setCell ⟨g,2,none⟩ (.int .u64 (lo:Int))).setCell ⟨g,3,none⟩ (.int .u64 (S:Int))).setCell ⟨g,4,none⟩ (.bool true)).setCell ⟨g,5,none⟩ (.bool false)).setCell ⟨g,6,none⟩ (zgw g (some (lo,S)))) g 183 (jw g ap lo (some (lo,S)) false) from Row.set (Row.set (Row.set (Row.set (h1.set 2 _) 3 _) 4 _) 5 _) 6 _);have Hb1:=hid (Ha.out.trans (hb2.mono (by simp)));have G1:=za8 (a:=⟨g,2,none⟩) (zk8 (r:=some g) Hb1.out rfl) (.int .u64 (lo:Int)) (.inr rfl);have G2:=za8 (a:=⟨g,3,none⟩) G1 (.int .u64 (S:Int)) (.inr rfl);have G3:=za8 (a:=⟨g,4,none⟩) G2 (.bool true) (.inr rfl);have G4:=za8 (a:=⟨g,5,none⟩) G3 (.bool false) (.inr rfl);have G5:=za8 (a:=⟨g,6,none⟩) G4 (zgw g (some (lo,S))) (.inr rfl);have G6:=za8 (a:=⟨w.heap.size,0,none⟩) G5 (.int .u64 (lo:Int)) (.inl (Nat.le_refl _));have HG:=hid (za8 (a:=⟨w.heap.size,1,none⟩) G6 (.int .u64 (S:Int)) (.inl (Nat.le_refl _)));clear h1 hb1 hb2 hX q1 q5 G1 G2 G3 G4 G5 G6;simp only[zgw] at HF HG;go_wp2_with fail;refine bodyPost_ret (v:=.tuple #[ivV (lo,S),.bool true]) (by simp[results,Tryz.results152,go_sem,ivV,x0,x1]) rfl ?_;rw[Hr.out];exact⟨rfl,(HF.out.other (a:=⟨w.heap.size,0,none⟩) hne _).other (a:=⟨w.heap.size,1,none⟩) hne _,HG.out⟩
 · have Hr:=hid (fun e w'=>show ziq w g ap lo d last e w'=_ from if_neg hc);have hv:zbt [lo,d].sum=.tuple #[.int .u64 0,.bool false]:=by rw[hsum];exact zin hc
   have HS:=hid (fun W g hW=>zgx [lo,d] W g 2 hW rfl H64.out (by omega) hv);clear hc hsum hv;go_enter Tryz.func152,Tryz.ntmps152;go_wp2_with fail;refine(HS.out _ (w.heap.size+1) (by exact zg _ _ _ (by simp))).mono ?_;rintro e w1 ⟨rfl,hb1⟩;have hb2:=(Below.refl _ _).alloc (Nat.le_refl _) _ |>.trans (hb1.mono (by simp))
   have hX:=HX.out.later hb2;have x0:=hX.cell 0 rfl;have x1:=hX.cell 1 rfl;have y0:=hX.fz 0;have y1:=hX.fz 1;have HF:=hid (H.out.later (Ha.out.trans (hb2.mono (by simp))));have hne:¬g=w.heap.size:=by have:=H.out.lt;omega
   have Hb1:=hid (Ha.out.trans (hb2.mono (by simp)));have G1:=za8 (a:=⟨w.heap.size,0,none⟩) (zk8 (r:=some g) Hb1.out rfl) (.int .u64 0) (.inl (Nat.le_refl _));have HG:=hid (za8 (a:=⟨w.heap.size,1,none⟩) G1 (.int .u64 0) (.inl (Nat.le_refl _)));clear hb1 hb2 hX q1 q5 G1;go_wp2_with fail;refine bodyPost_ret (v:=.tuple #[ivV (0,0),.bool false]) (by simp[results,Tryz.results152,go_sem,ivV,x0,x1]) rfl ?_;rw[Hr.out];exact⟨rfl,(HF.out.other (a:=⟨w.heap.size,0,none⟩) hne _).other (a:=⟨w.heap.size,1,none⟩) hne _,HG.out⟩
theorem zt2 (g ap lo:Nat) (last:Option Iv) (op:Bool) (w:World) (h:Row w g 183 (jw g ap lo last op)):
 Calls Tryz.prog 150 #[.pointer (some ⟨g,0,none⟩)] w fun e w'=>e=.returned (.tuple #[ivV (last.getD (0,0)),.bool last.isSome])∧Below w.heap.size w w':=by
 have q2:=fun o=>(h.later ((Below.refl _ _).alloc (Nat.le_refl _) o)).cell 2 rfl
 have q3:=fun o=>(h.later ((Below.refl _ _).alloc (Nat.le_refl _) o)).cell 3 rfl
 have q4:=fun o=>(h.later ((Below.refl _ _).alloc (Nat.le_refl _) o)).cell 4 rfl
 clear h;generalize last.isSome=b at*;generalize last.getD (0,0)=s at*;obtain⟨s1,s2⟩:=s;simp only at q2 q3;go_enter Tryz.func150,Tryz.ntmps150;go_wp2;go_region
 all_goals go_wp2
 all_goals exact bodyPost_ret (v:=.tuple #[ivV (s1,s2),.bool b]) (by simp[results,Tryz.results150,go_sem,ivV]) rfl ⟨rfl,((Below.refl _ _).alloc (Nat.le_refl _) _).drew⟩
end
end Go.Proofs.YtdnjfnofjaoajaaGreatDoor
