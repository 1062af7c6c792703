/- Part 26. -/
import Derived.Test.YtdnipikdddfhfaaGreatDoorWd25
set_option linter.unusedVariables false
set_option maxHeartbeats 16000000
namespace Go.Proofs.YtdnipikdddfhfaaGreatDoor
open Lib (hid)
section
open Go.RowKit
theorem zlh (v:Vec) (hh:∀e∈v,e.2.2.length≤500):∀d,d≤v.length→(jw v d).length≤1+1003*d
 | 0,_=>by simp[jw]
 | d+1,h=>by
   have h1:=zlh v hh d (by omega);have h2:=hh _ (kn (show d<v.length from h));rw[jw,List.length_append];unfold vh ky;rw[List.length_append,ze2];simp only[List.length_cons,List.length_nil];omega
theorem z2m {v:Vec} (h:LtV v) {d:Nat} (hd:d<v.length):zb5 v d<18446744073709551616:=by
 have h1:=(h _ (kn hd)).rep;unfold zb5;split
 · rename_i e;rw[←e];exact h1
 · omega
theorem zru {v:Vec} (h:LtV v) (hh:∀e∈v,e.2.2.length≤500) {d:Nat} (hd:d<v.length):∀y∈vh v d,y<18446744073709551616:=by
 intro y hy;have hm:=kn hd;unfold vh at hy;rcases List.mem_append.1 hy with hy | hy
 · simp at hy;rcases hy with rfl | rfl | rfl
   · exact z2m h hd
   · exact(h _ hm).max
   · have:=hh _ hm;omega
 · exact zh4 (h _ hm).holes _ (Nat.le_refl _) y hy
set_option maxRecDepth 100000 in
theorem z2n (w0:World) (v0:Value) (nums:List Nat) (a:Option Addr) (n c:Nat) (v:Vec) (w:World) (hE:Ents w0 a n c v) (hw:Below w0.heap.size w0 w) (hA:v.Pairwise vg) (hG:∀e∈v,Good e.2.2) (hn:n≤300) (hh:∀e∈v,e.2.2.length≤500) (ho:OwnB w w0.heap.size v0 nums) (hl:nums.length≤600000000000):
 Calls Tryz.prog 88 #[v0,.slice a n c] w fun e w'=>∃v',e=.returned v'∧OwnB w' w0.heap.size v' (nums++zam v)∧Grw w w' v0 v':=by
 have HE:=hid hE;have Hl:=hid hE.len;have HA:=hid hA;have HG:=hid hG;have Hh:=hid hh;have Hlv:=hid hE.lt;have Hv0:=hid (show ∀k,v0.ownBlock=some k→w0.heap.size≤k from fun k hk=>(ho.lt k hk).1);have Hw:=hid hw;have Hpl:=hid (zlh v hh);have hcv:IntKind.u64.wrap (n:Int)=(n:Int):=by rw[IntKind.wrap_u64];omega
 have hC0:=hid (zde w0.heap.size v0 nums n w (by omega) ho hw.size (by omega));have Hall:=hid (show zam v=jw v n from by rw[←hE.len];rfl);have Hn0:=hid (show [n]=jw v 0 from by rw[←hE.len];rfl);clear hE hA hG hh ho hw;go_enter Tryz.func88,Tryz.ntmps88;go_wp2_with fail;refine hC0.out.mono ?_;rintro e w1 ⟨v1,rfl,ho1,hg1⟩;rw[Hn0.out] at ho1;have Ho1:=hid ho1;have Hg1:=hid hg1;clear ho1 hg1 hC0;go_wp2;go_loopw [0,5,6,7,8,9,11,19,57] (fun b _ _ _ _ _ _ i _ wr=>∃d:Nat,d≤n∧i=.int .i64 d∧Hid (Grw w wr v0 b)∧Hid (OwnB wr w0.heap.size b (nums++jw v d))) (fun _ _ _ _ _ _ _ i _ _=>n - (intOf i).toNat)
 case atStart=>exact⟨0,by omega,rfl,Hg1,Ho1⟩
 case round=>
  obtain⟨d,hd,rfl,hgr,hor⟩:=hrel;have hb:Below w0.heap.size w0 wr:=Hw.out.trans (hgr.out.toBelow Hw.out.size Hv0.out);have Hb:=hid hb;clear hb;by_cases hdn:d<n
  · have hdv:d<v.length:=by rw[Hl.out];exact hdn
    obtain⟨bb,oo,rfl⟩:=HE.out.some (by omega);obtain⟨x,m,c',hq⟩:=HE.out.fix hdn;obtain⟨q1,q2,q3,hI0⟩:=hq _ Hb.out;have Hqp:=hid (fun (h1:d - 1<n) w' (h:Below w0.heap.size w0 w')=>(HE.out.at h1 w' h).1);have hem:=kn hdv;have Hdo:=hid (zqg (HG.out _ hem));have hm500:=Hh.out _ hem;have hm:m≤100000:=by have:=hI0.len;omega
    have Hdl:=hid (show ∀y∈ky (ze v d).2.2 1,y<18446744073709551616 from zh4 (Hlv.out _ hem).holes _ (Nat.le_refl _));have Hdlen:=hid (show (ky (ze v d).2.2 1).length=2*m from by unfold ky;rw[ze2,hI0.len]);have Hen:=hid (show vh v d=[zb5 v d,(ze v d).2.1,m]++ky (ze v d).2.2 1 from by unfold vh;rw[hI0.len]);have Hel:=hid (zru Hlv.out Hh.out hdv);have Hpk:=hid (show jw v (d+1)=jw v d++vh v d from rfl);have Hp0:=hid (show nums.length+(jw v d).length+(3+2*m)≤1000000000000 from by have:=Hpl.out d (by omega);have:=hI0.len;omega);have Hrp:=hid (show zb5 v d=if d=0 then (ze v 0).1 else (ze v d).1 - (ze v (d - 1)).1 - 1 from rfl);have he0:d=0→ze v 0=ze v d:=fun h=>by rw[h]
    have hlt:=fun (h0:0<d)=>show (ze v (d - 1)).1<(ze v d).1 from by
     have:=List.pairwise_iff_getElem.1 HA.out (d - 1) d (by omega) hdv (by omega);unfold vg at this;rwa [←ja (by omega),←ja hdv] at this
    have hrl:=(Hlv.out _ hem).rep;have h0:(0:Int)≤d:=by omega
    have h04:(d:Int)<(n:Int):=by omega
    have hcm:IntKind.u64.wrap (m:Int)=(m:Int):=by rw[IntKind.wrap_u64];omega
    have Hqf:=hid (fun w' (h:Below w0.heap.size w0 w')=>(hq w' h).2.2.2);clear hq hI0 hem;generalize zb5 v d=rp at*;generalize ze v 0=e0 at*;generalize ze v d=en at*;obtain⟨er,mx,eh⟩:=en;generalize (ze v (d - 1)).1=pr at*;simp only at q1 q2 q3 Hqf Hdo Hdl Hdlen Hen Hrp hlt hrl hm500;have hal:Below wr.heap.size wr (wr.alloc (.cells #[.int .u64 er,.int .u64 mx,.slice x m c'] 93)):=(Below.refl _ _).alloc (Nat.le_refl _) _;have HX:=hid (zd2 wr (.int .u64 er) (.int .u64 mx) (.slice x m c') 93);have hbW:=Hb.out.trans (hal.mono Hb.out.size);have HXf:=hid (fun w' (h:Below (wr.alloc (.cells #[.int .u64 er,.int .u64 mx,.slice x m c'] 93)).heap.size (wr.alloc (.cells #[.int .u64 er,.int .u64 mx,.slice x m c'] 93)) w')=>And.intro (HX.out w' h).1 (And.intro (HX.out w' h).2.1 (And.intro (HX.out w' h).2.2 (Hqf.out w' (hbW.trans (h.mono hbW.size))))));have HgW:=hid (hgr.out.below hal);have HoW:=hid (hor.out.below hal);have HbW:=hid hbW;clear hal hbW HX Hqf hgr hor;by_cases hd0:d=0
    · have hgp:rp=er:=by rw[Hrp.out,if_pos hd0,he0 hd0]
      have hq1:decide (0<(d:Int))=false:=by rw[decide_eq_false_iff_not];omega
      have hq2:¬0<d:=by omega
      subst hgp;clear Hrp he0 hlt hd0 Hqp;generalize hW:wr.alloc (.cells #[.int .u64 rp,.int .u64 mx,.slice x m c'] 93)=W at*;obtain⟨x1,x2,x3,-⟩:=HXf.out _ (Below.refl _ _);generalize u0=ub at*;have HXw:=hid (fun w' (h:Below W.heap.size W w')=>HXf.out w' h);clear HXf;obtain⟨x1,x2,x3,hIv⟩:=HXw.out W (Below.refl _ _);go_wp2_with fail;refine(zlb x m c' 1 eh W hIv Hdo.out hm (Nat.le_refl _)).mono ?_;rintro e w4 ⟨⟨vd,rfl,hod⟩,hb4⟩;obtain⟨y1,y2,y3,-⟩:=HXw.out w4 hb4;obtain⟨ad,cd,rfl,hUd⟩:=zco hod Hdl.out;have hal4:Below w4.heap.size w4 (w4.alloc (.cells #[.int .u64 (rp:Int),.int .u64 (mx:Int),.int .u64 (m:Int)] 43)):=(Below.refl _ _).alloc (Nat.le_refl _) _;have hRd:=hUd.rd.below hal4;obtain⟨v6,w6,hrun,ho6,hg6⟩:=zeq (w:=w4.alloc (.cells #[.int .u64 (rp:Int),.int .u64 (mx:Int),.int .u64 (m:Int)] 43)) w4.heap.size (.slice (some ⟨w4.heap.size,0,none⟩) 3 3) 3 [rp,mx,m] (World.ownsRow_lit (e:=43) (size:=1) (base:=w4.heap.size) w4 _ 3 (Nat.le_refl _) (by unfold maxLen;omega) rfl) ad (2*m) cd (ky eh 1) hRd (by omega) (by simp);have Hrun:=hid hrun;obtain⟨g6,c6,rfl,hg6b,hg6l,-,-⟩:=zbq ho6 (by omega);have Ho6:=hid (show w6.ownsRow w4.heap.size 43 1 (.slice (some ⟨g6,0,none⟩) (3+2*m) c6) (3+2*m) (zo (vh v d)) from by rw[Hen.out];exact ho6);have hb46:Below w4.heap.size w4 w6:=hal4.grown hg6 (by simp) (fun k hk=>by simp[Value.ownBlock] at hk;omega);have HgW4:=hid (HgW.out.below hb4);have HoW4:=hid (HoW.out.below hb4);have Hg6:=hid (HgW4.out.below hb46);have Hu6:=hid (HoW4.out.below hb46);have hu6:∀k,ub.ownBlock=some k→k<w4.heap.size:=fun k hk=>(HoW4.out.lt k hk).2
      have hs6:w0.heap.size≤w6.heap.size:=by have:=Hg6.out.g.size;have:=Hw.out.size;omega
      have Hlt6:=hid (show ∀y∈vh v d,y<18446744073709551616 from Hel.out);have Hlen6:=hid (show (vh v d).length=3+2*m from by rw[Hen.out];simp[Hdlen.out];omega);clear x1 x2 x3 hIv hb4 hod hUd hal4 hRd hrun ho6 hg6 hb46 HXw;go_wp2_with (at_builtin;refine jh _ _ 41 rfl rfl _ _ rfl rfl _ _ Hrun.out ?_);clear Hrun y1 y2 y3;generalize hEn:vh v d=EN at*;have HEn:=hid hEn;clear hEn;generalize jw v d=P0 at*;go_wp2;go_loopw [0,11,57] (fun b _ i wi=>∃j:Nat,j≤3+2*m∧i=.int .i64 j∧Hid (Grw w6 wi ub b)∧Hid (OwnB wi w0.heap.size b ((nums++P0)++EN.take j))) (fun _ _ i _=>(3+2*m) - (intOf i).toNat)
      case atStart=>exact⟨0,by omega,rfl,Grw.refl _ _,by rw[List.take_zero,List.append_nil];exact Hu6.out⟩
      case round=>
       obtain⟨j,hj,rfl,hgi,hoi⟩:=hrel;by_cases hjn:j<3+2*m
       · have hrow:=hgi.out.row Ho6.out (fun k hk e=>by
          have h1:g6=k:=by simpa [Value.ownBlock] using hk
          have:=hu6 k e;omega)
         have q9:=hrow.cells (g:=g6) rfl j _ (zdt EN j (by rw[Hlen6.out];exact hjn));rw[yk,Nat.zero_add] at q9;have hxl:=Hlt6.out _ (zbb (show j<EN.length by rw[Hlen6.out];exact hjn));have Hst:=hid (show EN.take (j+1)=EN.take j++[nth EN j] from by rw[List.take_succ_eq_append_getElem (by rw[Hlen6.out];exact hjn)];simp[nth,show j<EN.length by rw[Hlen6.out];exact hjn]);have h0j:(0:Int)≤j:=by omega
         have h04j:(j:Int)<((3+2*m:Nat):Int):=by omega
         have hnl:((nums++P0)++EN.take j).length≤1000000000000:=by
          rw[List.length_append,List.length_append,List.length_take];have:=Hp0.out;omega
         have hC:=hid (zde w0.heap.size _ _ (nth EN j) wr hxl hoi.out (by have:=hgi.out.g.size;omega) hnl);generalize nth EN j=xj at*;clear hrow hxl hnl;go_wp2_with fail;refine hC.out.mono ?_;rintro e w7 ⟨b',rfl,ho7,hg7⟩;have Ho7:=hid ho7;have Hg7:=hid (hgi.out.trans hg7);clear ho7 hg7;go_wp2;go_roundw
         case rel=>exact⟨j+1,by omega,by go_num,Hg7.out,by rw[Hst.out,←List.append_assoc];exact Ho7.out⟩
         case measure=>simp[intOf];omega
       · obtain rfl:j=3+2*m:=by omega
         have HoF:=hid (show OwnB wr w0.heap.size _ (nums++jw v (d+1)) from by
          have h:=hoi.out;rw[List.take_of_length_le (by rw[Hlen6.out];exact Nat.le_refl _)] at h;rw[Hpk.out,←List.append_assoc];exact h)
         have HgF:=hid (Hg6.out.trans hgi.out);go_wp2;go_roundw
         case rel=>exact⟨d+1,by omega,by go_num,HgF.out,HoF.out⟩
         case measure=>simp[intOf];omega
    · have hlt:=hlt (by omega);have hgp:rp=er - pr - 1:=by rw[Hrp.out,if_neg hd0]
      have hq1:decide (0<(d:Int))=true:=by rw[decide_eq_true_iff];omega
      have hq2:0<d:=by omega
      have hsub:IntKind.i64.wrap ((d:Int) - 1)=((d - 1:Nat):Int):=by rw[IntKind.wrap_i64];omega
      have h01:(0:Int)≤((d - 1:Nat):Int):=by omega
      have h03:((d - 1:Nat):Int)<(n:Int):=by omega
      have Hc1:=hid (Hqp.out (by omega));have hBt:=hid (fun w=>zer pr er w hlt hrl);rw[←hgp] at hBt;clear hgp Hrp he0 hlt hd0 Hqp;generalize d - 1=d1 at*;generalize hW:wr.alloc (.cells #[.int .u64 er,.int .u64 mx,.slice x m c'] 93)=W at*;obtain⟨x1,x2,x3,-⟩:=HXf.out _ (Below.refl _ _);have HXg:=hid (fun w' (h:Below W.heap.size W w')=>And.intro (Hc1.out w' (HbW.out.trans (h.mono HbW.out.size))) (HXf.out w' h).1);go_wp2_with fail;refine za1 (by kernel_rfl) (by kernel_rfl) ?_
      repeat (go_big_quiet_step ((intro hw;first
       | rfl
       | (obtain⟨y1,y2⟩:=HXg.out _ hw
          first
          | (go_at_call 128;refine(hBt.out _).mono ?_;rintro e w4 ⟨rfl,rfl⟩;exact⟨rfl,hw⟩)
          | (go_simp
             first | rfl | exact⟨rfl,hw⟩ | (trace_state;fail))))))
      refine wpQuiet_nil ?_;intro w3 hb3;have HXf:=hid (fun w' (h:Below w3.heap.size w3 w')=>HXf.out w' (hb3.trans (h.mono hb3.size)));have HgW:=hid (HgW.out.below hb3);have HoW:=hid (HoW.out.below hb3);have HbW:=hid (HbW.out.trans (hb3.mono HbW.out.size));clear hb3 x1 x2 x3 HXg Hc1 hW;obtain⟨W,hWe⟩:∃W:World,W=w3:=⟨_,rfl⟩;rw[←hWe] at HXf HgW HoW HbW ⊢;clear hWe;obtain⟨x1,x2,x3,-⟩:=HXf.out _ (Below.refl _ _);generalize u0=ub at*;have HXw:=hid (fun w' (h:Below W.heap.size W w')=>HXf.out w' h);clear HXf;obtain⟨x1,x2,x3,hIv⟩:=HXw.out W (Below.refl _ _);go_wp2_with fail;refine(zlb x m c' 1 eh W hIv Hdo.out hm (Nat.le_refl _)).mono ?_;rintro e w4 ⟨⟨vd,rfl,hod⟩,hb4⟩;obtain⟨y1,y2,y3,-⟩:=HXw.out w4 hb4;obtain⟨ad,cd,rfl,hUd⟩:=zco hod Hdl.out;have hal4:Below w4.heap.size w4 (w4.alloc (.cells #[.int .u64 (rp:Int),.int .u64 (mx:Int),.int .u64 (m:Int)] 43)):=(Below.refl _ _).alloc (Nat.le_refl _) _;have hRd:=hUd.rd.below hal4;obtain⟨v6,w6,hrun,ho6,hg6⟩:=zeq (w:=w4.alloc (.cells #[.int .u64 (rp:Int),.int .u64 (mx:Int),.int .u64 (m:Int)] 43)) w4.heap.size (.slice (some ⟨w4.heap.size,0,none⟩) 3 3) 3 [rp,mx,m] (World.ownsRow_lit (e:=43) (size:=1) (base:=w4.heap.size) w4 _ 3 (Nat.le_refl _) (by unfold maxLen;omega) rfl) ad (2*m) cd (ky eh 1) hRd (by omega) (by simp);have Hrun:=hid hrun;obtain⟨g6,c6,rfl,hg6b,hg6l,-,-⟩:=zbq ho6 (by omega);have Ho6:=hid (show w6.ownsRow w4.heap.size 43 1 (.slice (some ⟨g6,0,none⟩) (3+2*m) c6) (3+2*m) (zo (vh v d)) from by rw[Hen.out];exact ho6);have hb46:Below w4.heap.size w4 w6:=hal4.grown hg6 (by simp) (fun k hk=>by simp[Value.ownBlock] at hk;omega);have HgW4:=hid (HgW.out.below hb4);have HoW4:=hid (HoW.out.below hb4);have Hg6:=hid (HgW4.out.below hb46);have Hu6:=hid (HoW4.out.below hb46);have hu6:∀k,ub.ownBlock=some k→k<w4.heap.size:=fun k hk=>(HoW4.out.lt k hk).2
      have hs6:w0.heap.size≤w6.heap.size:=by have:=Hg6.out.g.size;have:=Hw.out.size;omega
      have Hlt6:=hid (show ∀y∈vh v d,y<18446744073709551616 from Hel.out);have Hlen6:=hid (show (vh v d).length=3+2*m from by rw[Hen.out];simp[Hdlen.out];omega);clear x1 x2 x3 hIv hb4 hod hUd hal4 hRd hrun ho6 hg6 hb46 HXw;go_wp2_with (at_builtin;refine jh _ _ 41 rfl rfl _ _ rfl rfl _ _ Hrun.out ?_);clear Hrun y1 y2 y3;generalize hEn:vh v d=EN at*;have HEn:=hid hEn;clear hEn;generalize jw v d=P0 at*;go_wp2;go_loopw [0,11,57] (fun b _ i wi=>∃j:Nat,j≤3+2*m∧i=.int .i64 j∧Hid (Grw w6 wi ub b)∧Hid (OwnB wi w0.heap.size b ((nums++P0)++EN.take j))) (fun _ _ i _=>(3+2*m) - (intOf i).toNat)
      case atStart=>exact⟨0,by omega,rfl,Grw.refl _ _,by rw[List.take_zero,List.append_nil];exact Hu6.out⟩
      case round=>
       obtain⟨j,hj,rfl,hgi,hoi⟩:=hrel;by_cases hjn:j<3+2*m
       · have hrow:=hgi.out.row Ho6.out (fun k hk e=>by
          have h1:g6=k:=by simpa [Value.ownBlock] using hk
          have:=hu6 k e;omega)
         have q9:=hrow.cells (g:=g6) rfl j _ (zdt EN j (by rw[Hlen6.out];exact hjn));rw[yk,Nat.zero_add] at q9;have hxl:=Hlt6.out _ (zbb (show j<EN.length by rw[Hlen6.out];exact hjn));have Hst:=hid (show EN.take (j+1)=EN.take j++[nth EN j] from by rw[List.take_succ_eq_append_getElem (by rw[Hlen6.out];exact hjn)];simp[nth,show j<EN.length by rw[Hlen6.out];exact hjn]);have h0j:(0:Int)≤j:=by omega
         have h04j:(j:Int)<((3+2*m:Nat):Int):=by omega
         have hnl:((nums++P0)++EN.take j).length≤1000000000000:=by
          rw[List.length_append,List.length_append,List.length_take];have:=Hp0.out;omega
         have hC:=hid (zde w0.heap.size _ _ (nth EN j) wr hxl hoi.out (by have:=hgi.out.g.size;omega) hnl);generalize nth EN j=xj at*;clear hrow hxl hnl;go_wp2_with fail;refine hC.out.mono ?_;rintro e w7 ⟨b',rfl,ho7,hg7⟩;have Ho7:=hid ho7;have Hg7:=hid (hgi.out.trans hg7);clear ho7 hg7;go_wp2;go_roundw
         case rel=>exact⟨j+1,by omega,by go_num,Hg7.out,by rw[Hst.out,←List.append_assoc];exact Ho7.out⟩
         case measure=>simp[intOf];omega
       · obtain rfl:j=3+2*m:=by omega
         have HoF:=hid (show OwnB wr w0.heap.size _ (nums++jw v (d+1)) from by
          have h:=hoi.out;rw[List.take_of_length_le (by rw[Hlen6.out];exact Nat.le_refl _)] at h;rw[Hpk.out,←List.append_assoc];exact h)
         have HgF:=hid (Hg6.out.trans hgi.out);go_wp2;go_roundw
         case rel=>exact⟨d+1,by omega,by go_num,HgF.out,HoF.out⟩
         case measure=>simp[intOf];omega
  · obtain rfl:d=n:=by omega
    have Ho:=hid hor.out;rw[←Hall.out] at Ho;go_wp2;go_ret;exact⟨_,rfl,Ho.out,hgr.out⟩
end
section
def Fwd (T:zt):Prop:=∀p x q,T p=.ok (x,q)→p<q
def okC (n:Nat) (lim:Int):Prop:=(n:Int)≤lim∨n=0
instance (n:Nat) (lim:Int):Decidable (okC n lim):=by unfold okC;infer_instance
theorem zed {T:zt} {p x q:Nat} (h:T p=.ok (x,q)):nmP T p=.ok (x,q):=by unfold nmP;rw[h]
theorem z2o {x rest:Nat} {lim:Int} (h1:okC x lim) (h2:x≤rest):zv x lim rest=0:=by
 unfold zv;rw[if_neg (by rintro⟨h3,h4⟩;rcases h1 with h | h <;> omega),if_neg (by omega)]
theorem z2p {x rest:Nat} {lim:Int} (h1:¬okC x lim):zv x lim rest=7:=by
 unfold zv okC at*;rw[if_pos ⟨by omega,fun h=>h1 (.inr h)⟩]
theorem zee {T:zt} {E p x q:Nat} {lim:Int} (h:T p=.ok (x,q)) (h1:okC x lim) (h2:q+x≤E):yj T E lim p=.ok (x,q):=by
 unfold yj;rw[zed h,ye,z2o h1 (by omega),if_pos rfl]
theorem zib {T:zt} {E p x q:Nat} {lim:Int} (h:T p=.ok (x,q)) (h1:¬okC x lim):yj T E lim p=.error (7,p):=by
 unfold yj;rw[zed h,ye,z2p h1,if_neg (by omega)]
theorem zgd {α:Type} {l:List α} {d:Nat} (hd:d<l.length):(l.take (d+1)).getLast?=some l[d]:=by
 rw[List.take_succ_eq_append_getElem hd];exact List.getLast?_concat
theorem z2q {T:zt} {a b p q:Nat} (h:jg T p [a,b] q):∃r,T p=.ok (a,r)∧T r=.ok (b,q):=by
 obtain⟨r,h1,s,h2,rfl⟩:=h;exact⟨r,h1,h2⟩
theorem z2r {l:List Iv} {a d:Nat} (hD:zbr l a) (hlt:zk l) (hd:d<l.length):loP (z7 (l.take d)) a (jq l a d)=some (za l d).1:=by
 unfold z7 jq
 cases d with
 | zero=>rw[if_pos rfl];simp[loP]
 | succ n=>
  have h1:=(hD (n+1) hd).2 (by omega);have h2:=hlt _ (zas hd);rw[if_neg (by omega),zgd (by omega)];rw[show n+1 - 1=n by omega,yw (show n<l.length by omega)] at*;simp only[Option.map_some,loP];rw[if_pos (by omega)];congr 1;omega
theorem zrv {T:zt} {l:List Iv} {a d p q:Nat} (hD:zbr l a) (hlt:zk l) (hd:d<l.length) (h:jg T p [jq l a d,(za l d).2 - (za l d).1] q):∃w,ivP T (z7 (l.take d)) a p=.ok ((za l d,w),q):=by
 obtain⟨r,h1,h2⟩:=z2q h;refine⟨r,?_⟩;have g1:=(hD d hd).1;have g2:=hlt _ (zas hd);unfold ivP;rw[zed h1,ye,z2r hD hlt hd];simp only[hiP];rw[zed h2,ye,show (za l d).1+((za l d).2 - (za l d).1)=(za l d).2 by omega,if_pos g2.2]
theorem zrw {T:zt} {mx:Nat} {h:List Iv} (hD:zbr h 1) (hlt:zk h) (hm:∀s∈h,s.2<mx):∀d,d≤h.length→∀{p r:Nat},jg T p (vt h 1 d) r→∀k,jb T mx (d+k) [] p=jb T mx k (h.take d) r
 | 0,_,p,r,hr,k=>by cases hr;rw[List.take_zero,Nat.zero_add]
 | d+1,hd,p,r,hr,k=>by
   rw[vt] at hr;obtain⟨s,h1,h2⟩:=kj.1 hr;obtain⟨w,h3⟩:=zrv hD hlt hd h2;rw[show d+1+k=d+(k+1) by omega,zrw hD hlt hm d (by omega) h1 (k+1),jb,h3,ye];unfold zaw;rw[if_neg (by have:=hm _ (zas (show d<h.length from hd));simp only;omega),List.take_succ_eq_append_getElem hd,yw hd]
theorem zrx {T:zt} {E:Nat} {lim:Int} (hT:Fwd T) {v:Vec} (hv:CanV v) (hl:LtV v) (hm:∀e∈v,∀s∈e.2.2,s.2<e.2.1) {d p q:Nat} (hd:d<v.length) (h:jg T p (vh v d) q) (hq:q≤E):
 (okC (ze v d).2.2.length lim→jr T E lim (v.take d) p=.ok (ze v d,q))∧(¬okC (ze v d).2.2.length lim→∃w,jr T E lim (v.take d) p=.error (7,w)):=by
 have hmem:=kn hd;obtain⟨r3,⟨r1,t1,r2,t2,r2',t3,rfl⟩,h4⟩:=kj.1 h
 have hrep:ko (v.take d) (zb5 v d)=some (ze v d).1:=by
  unfold ko zb5
  cases d with
  | zero=>rw[if_pos rfl];simp
  | succ n=>
   have h1:=List.pairwise_iff_getElem.1 hv.asc n (n+1) (by omega) hd (by omega);have h2:=(hl _ hmem).rep;unfold vg at h1;rw[if_neg (by omega),zgd (by omega)];rw[ja hd] at h2 ⊢;rw[show n+1 - 1=n by omega,ja (show n<v.length by omega)];simp only;rw[if_pos (by omega)];congr 1;omega
 have hcan:=hv.ent _ hmem;have hlen:=zch hT h4;have hdl:(ky (ze v d).2.2 1).length=2*(ze v d).2.2.length:=ze2 _ _ _;have hh:=zrw (T:=T) (mx:=(ze v d).2.1) (zqg hcan.good) (hl _ hmem).holes (hm _ hmem) (ze v d).2.2.length (Nat.le_refl _) h4 0;rw[List.take_length,Nat.add_zero,jb] at hh;unfold jr;rw[zed t1,ye,hrep];simp only[zbs];rw[zed t2,ye];unfold zb6;constructor
 · intro hc;rw[zee t3 hc (by omega),ye,hh,ye]
 · intro hc;exact⟨r2,by rw[zib t3 hc,zbh]⟩
theorem zry {v:Vec} (hv:CanV v):∀e∈v,∀s∈e.2.2,s.2<e.2.1:=fun e he s hs=>by
 have h:=hv.ent e he;have h1:=h.below s hs;rcases Nat.lt_or_ge s.2 e.2.1 with h2 | h2
 · exact h2
 · have h3:=h.top;have h4:mem e.2.2 e.2.1=true:=mem_iff.2 ⟨s,hs,by have:=h.good.ok s hs;omega,by omega⟩;rw[h3] at h4;cases h4
theorem zli {T:zt} {E:Nat} {lim:Int} (hT:Fwd T) {v:Vec} (hv:CanV v) (hl:LtV v):∀d,d≤v.length→∀{p r:Nat},jg T p (jw v d) r→r≤E→
 ∃r0,T p=.ok (v.length,r0)∧r0+d≤r∧∀k,(∀i,i<d→okC (ze v i).2.2.length lim)→qu T E lim (d+k) [] r0=qu T E lim k (v.take d) r
 | 0,_,p,r,hr,hE=>by
   obtain⟨r0,h1,rfl⟩:=hr
   exact⟨r0,h1,by omega,fun k _=>by rw[List.take_zero,Nat.zero_add]⟩
 | d+1,hd,p,r,hr,hE=>by
   rw[jw] at hr;obtain⟨s,h1,h2⟩:=kj.1 hr;have h3:=zch hT h2;have h4:3≤(vh v d).length:=by unfold vh;simp
   obtain⟨r0,h5,h6,h7⟩:=zli hT hv hl d (by omega) h1 (show s≤E by omega);refine⟨r0,h5,by omega,fun k hk=>?_⟩;rw[show d+1+k=d+(k+1) by omega,h7 (k+1) (fun i hi=>hk i (by omega)),qu,(zrx hT hv hl (zry hv) hd h2 hE).1 (hk d (by omega)),ye,List.take_succ_eq_append_getElem hd,ja hd]
theorem zrz {P:Nat→Prop} [DecidablePred P] {n:Nat} (h:¬∀i,i<n→P i):∃i,i<n∧¬P i∧∀j,j<i→P j:=by
 induction n with
 | zero=>exact absurd (fun i hi=>by omega) h
 | succ n ih=>
  by_cases h1:∀i,i<n→P i
  · refine⟨n,by omega,fun h2=>h fun i hi=>?_,h1⟩;rcases Nat.lt_or_ge i n with h3 | h3
    · exact h1 i h3
    · rwa [show i=n by omega]
  · obtain⟨i,hi,h2,h3⟩:=ih h1;exact⟨i,by omega,h2,h3⟩
def okV (le lh:Int) (v:Vec):Prop:=okC v.length le∧∀i,i<v.length→okC (ze v i).2.2.length lh
theorem zlj (v:Vec) (i:Nat):∀d,i≤d→∃R,jw v d=jw v i++R
 | 0,h=>⟨[],by rw[show i=0 by omega,List.append_nil]⟩
 | d+1,h=>by
   rcases Nat.lt_or_ge d i with h1 | h1
   · exact⟨[],by rw[show i=d+1 by omega,List.append_nil]⟩
   · obtain⟨R,e⟩:=zlj v i d h1;exact⟨R++vh v d,by rw[jw,e,List.append_assoc]⟩
theorem zr0 {T:zt} {E:Nat} {le lh:Int} (hT:Fwd T) {v:Vec} (hv:CanV v) (hl:LtV v) (hne:v≠[]) {p r:Nat} (hr:jg T p (zam v) r) (hE:r≤E):
 (okV le lh v→vk T E le lh p=.ok (v,r))∧(¬okV le lh v→∃w,vk T E le lh p=.error (7,w)):=by
 obtain⟨r0,h1,h2,h3⟩:=zli (E:=E) (lim:=lh) hT hv hl v.length (Nat.le_refl _) hr hE;have h0:v.length≠0:=fun h=>hne (List.length_eq_zero_iff.1 h)
 constructor
 · rintro⟨k1,k2⟩;have:=h3 0 k2;rw[Nat.add_zero,List.take_length,qu] at this;unfold vk;rw[zee h1 k1 (by omega),ye,if_neg h0,this]
 · intro hn;by_cases k1:okC v.length le
   · obtain⟨i,hi,hb,hlt⟩:=zrz (P:=fun i=>okC (ze v i).2.2.length lh) (n:=v.length) (fun h=>hn ⟨k1,h⟩);obtain⟨R,e⟩:=zlj v (i+1) v.length hi;have hr':=hr;unfold zam at hr';rw[e] at hr';obtain⟨s,g1,g2⟩:=kj.1 hr';have g3:=zch hT g2;rw[jw] at g1;obtain⟨t,g4,g5⟩:=kj.1 g1;have g6:=zch hT g5;obtain⟨r0',h1',-,h3'⟩:=zli (E:=E) (lim:=lh) hT hv hl i (by omega) g4 (by omega);obtain rfl:r0'=r0:=by rw[h1] at h1';injection h1' with h;injection h with _ h;exact h.symm
     obtain⟨w,hw⟩:=(zrx (E:=E) hT hv hl (zry hv) hi g5 (by omega)).2 hb;have:=h3' (v.length - i) hlt;rw[show i+(v.length - i)=v.length by omega,show v.length - i=(v.length - i - 1)+1 by omega,qu,hw,zbh] at this
     exact⟨w,by
      unfold vk;rw[zee h1 k1 (by omega),ye,if_neg h0,this]⟩
   · exact⟨p,by
      unfold vk;rw[zib h1 k1,zbh]⟩
end
section
open Go.ChangeShapes Go.WideShapes Go.RowKit Go.ChangeAt
abbrev LD:List (String×DataW Unit):=Rows.wireDecodesRow.laid
theorem z2s {W:World} (h:laidMetH Tryz.prog LD W):laidMet Tryz.prog (LD.filter fun x=>x.2.handleName?.isNone) W∧handlesMet Tryz.prog [("errors.errorType",Rows.laid_errors_errorType)] W:=h
theorem z2t {W:World} (h:laidMetH Tryz.prog LD W):Door W:=zyo (z2s h).2
theorem z2u (os:Os) (args:Array Value):laidMetH Tryz.prog LD ((zhu os).forCall (fun _ _=>0) ⟨#[],args,[]⟩).memory:=
 laidMetH_of_parts (laidMet_of_run3 8 (by kernel_rfl) (by kernel_rfl) (by kernel_rfl)) (by kernel_rfl)
theorem z2v {H:Type} {enc:TypeId×Value→H} {W:World} {fuel n cap:Nat} {a:Option Addr} {x:DataW H×List MemPlace} (h:DataW.trod enc Tryz.prog W 0 (fun _=>true) true fuel 22 (Value.slice a n cap).cells.toList=some x):∃l,Byts W a n cap l:=by
 rcases open_ints Tryz.underlying22 Tryz.underlying5 (by kernel_rfl) h with ⟨hcs,_⟩ | ⟨x,l,c,zs,hcs,_,hl,hm,hz,_,hcell,hwz⟩
 · simp[Value.cells] at hcs;obtain⟨rfl,rfl,rfl⟩:=hcs;exact⟨_,zmd (.inl ⟨rfl,rfl,rfl,rfl⟩)⟩
 · simp[Value.cells] at hcs;obtain⟨rfl,rfl,rfl⟩:=hcs;exact⟨_,zmd (.inr ⟨_,rfl,hl,hm,by simpa using hz,hcell,hwz⟩)⟩
set_option maxRecDepth 100000 in
theorem z2w {H:Type} {enc:TypeId×Value→H} {W:World} {fuel:Nat} {v:Value} {x:DataW H×List MemPlace} (hv:∃cs,v=.agg cs∧cs.size=Tryz.prog.cellsOf 24)
 (h:DataW.trod enc Tryz.prog W 0 (fun _=>true) true fuel 24 v.cells.toList=some x):∃l:zg,v=lmV l∧LimsI l:=by
 obtain⟨cs,rfl,hs⟩:=hv;have h5:Tryz.prog.cellsOf 24=5:=by kernel_rfl
 have h1:Tryz.prog.cellsOf 3=1:=by kernel_rfl
 rw[h5] at hs;obtain⟨l⟩:=cs;have hs':l.length=5:=hs;have h':DataW.trod enc Tryz.prog W 0 (fun _=>true) true fuel 24 l=some x:=h;obtain⟨xs,n,-,-,-,hxl,hf⟩:=DataW.trod_struct Tryz.underlying24 h'
 match xs,hxl,l,hs' with
 | [y0,y1,y2,y3,y4],_,[v0,v1,v2,v3,v4],_=>
  have g0:=hf 0 _ rfl;have g1:=hf 1 _ rfl;have g2:=hf 2 _ rfl;have g3:=hf 3 _ rfl;have g4:=hf 4 _ rfl;simp[h1] at g0 g1 g2 g3 g4;obtain⟨z0,e0,_,w0⟩:=DataW.trod_int Tryz.underlying3 g0;obtain⟨z1,e1,_,w1⟩:=DataW.trod_int Tryz.underlying3 g1;obtain⟨z2,e2,_,w2⟩:=DataW.trod_int Tryz.underlying3 g2;obtain⟨z3,e3,_,w3⟩:=DataW.trod_int Tryz.underlying3 g3;obtain⟨z4,e4,_,w4⟩:=DataW.trod_int Tryz.underlying3 g4;simp only[List.cons.injEq,and_true] at e0 e1 e2 e3 e4;subst e0 e1 e2 e3 e4;exact⟨(z0,z1,z2,z3,z4),rfl,⟨bounds_i64 w0,bounds_i64 w1,bounds_i64 w2,bounds_i64 w3,bounds_i64 w4⟩⟩
end
section
open Go.RowKit
attribute [local go_sem] zad
theorem zr1 (g:Nat) (L:zg) (nx V cu:Value) (s:PS) (k:Nat) (h:List Iv) (w:World) (hR:Row w g 282 (pkC L nx V s.ents k cu)) (he:0<s.ents) (he2:s.ents<18446744073709551616) (hk:k<18446744073709551616):
 Calls Tryz.prog 291 #[.pointer (some ⟨g,0,none⟩)] w fun e w'=>e=.returned (pkF g (jn s k h).tag)∧Row w' g 282 (pkC L nx V (jn s k h).ents (jn s k h).hls cu)∧w.grownBy w' (some g):=by
 obtain⟨tag,v,rep,mx,hh,ents,hls,lo⟩:=s;simp only at hR he he2;have q8:=hR.cell 8 rfl;have q9:=hR.cell 9 rfl;have z8:=hR.fz 8;have z9:=hR.fz 9;by_cases h0:0<k
 · have Hn:=hid (show jn ⟨tag,v,rep,mx,hh,ents,hls,lo⟩ k h=⟨4,v,rep,mx,h,ents,k - 1,lo⟩ from by unfold jn;rw[if_pos h0]);have e1:IntKind.u64.wrap ((k:Int) - 1)=((k - 1:Nat):Int):=by rw[IntKind.wrap_u64];omega
   have e2:(k:Int) - 1=((k - 1:Nat):Int):=by omega
   have HF:=hid (show Row (w.setCell ⟨g,9,none⟩ (.int .u64 ((k - 1:Nat):Int))) g 282 (pkC L nx V ents (k - 1) cu) from hR.set 9 _);rw[Hn.out];clear hR q8 z8 he he2;generalize k - 1=k1 at*;go_enter Tryz.func291,Tryz.ntmps291;go_wp2_with fail;go_ret;exact⟨rfl,HF.out,kd _ _ _ _⟩
 · obtain rfl:k=0:=by omega
   have e1:IntKind.u64.wrap ((ents - 1:Nat):Int)=((ents - 1:Nat):Int):=by rw[IntKind.wrap_u64];omega
   have e2:(ents:Int) - 1=((ents - 1:Nat):Int):=by omega
   have HF:=hid (show Row (w.setCell ⟨g,8,none⟩ (.int .u64 ((ents - 1:Nat):Int))) g 282 (pkC L nx V (ents - 1) 0 cu) from hR.set 8 _);by_cases h1:1<ents
   · have Hn:=hid (show jn ⟨tag,v,rep,mx,hh,ents,hls,lo⟩ 0 h=⟨1,v++[(rep,mx,h)],rep,mx,[],ents - 1,0,lo⟩ from by unfold jn;rw[if_neg (by omega),if_pos h1]);have h2:0<ents - 1:=by omega
     rw[Hn.out];clear hR he he2 h1;generalize ents - 1=e at*;go_enter Tryz.func291,Tryz.ntmps291;go_wp2_with fail;go_ret;exact⟨rfl,HF.out,kd _ _ _ _⟩
   · obtain rfl:ents=1:=by omega
     have Hn:=hid (show jn ⟨tag,v,rep,mx,hh,1,hls,lo⟩ 0 h=⟨6,v++[(rep,mx,h)],rep,mx,[],0,0,lo⟩ from by unfold jn;rw[if_neg (by omega),if_neg (by omega)];rfl);rw[Hn.out];clear hR he he2 h1 e1 e2;go_enter Tryz.func291,Tryz.ntmps291;go_wp2_with fail;go_ret;exact⟨rfl,HF.out,kd _ _ _ _⟩
theorem zr2 {w:World} {base:Nat} {s:PS} {V cu:Value} {k:Nat} {h:List Iv} (hE:EntO w base V s.v s.rep s.mx h) (hC:CuAt w base cu none h) (hl:zk h):PkB w base (jn s k h) V cu:=by
 unfold jn;split
 · exact⟨hE,hC⟩
 · split
   · exact hE.close hl
   · exact hE.close hl
set_option maxRecDepth 20000 in
theorem z2x (base g:Nat) (L:zg) (nx:Value) (s:PS) (x rest:Nat) (w:World) (h:PkR w base g L nx s) (ht:s.tag=3) (hL:LimsI L) (hx:x<18446744073709551616) (hr:rest<9223372036854775808) (he:0<s.ents) (he2:s.ents<18446744073709551616):
 Calls Tryz.prog 273 #[.pointer (some ⟨g,0,none⟩),.int .u64 (x:Int),.int .i64 (rest:Int)] w (PkS w base g L (qa L.2.2.1 L.2.2.2.1 s x rest)):=by
 have hps:qa L.2.2.1 L.2.2.2.1 s x rest=if zv x L.2.2.2.1 rest≠0 then .error (zv x L.2.2.2.1 rest) else .ok (jn s x []):=by
  unfold qa;rw[ht];rfl
 rw[hps];clear hps;obtain⟨hg,V,cu,hR,hB⟩:=h;have hE:EntO w base V s.v s.rep s.mx []:=by unfold PkB at hB;rw[ht] at hB;exact hB
 have HL:=hid (zrl x L.2.2.2.1 rest w hx hL.d hr);have q3:=hR.cell 3 rfl;have HR:=hid hR;have Hg:=hid (show base≤w.heap.size by have:=hR.lt;omega);clear hB;by_cases hc:zv x L.2.2.2.1 rest=0
 · rw[hc] at HL;rw[if_neg (fun h=>h hc)];have HE:=hid hE;have HX:=hid hx;have He:=hid he;have He2:=hid he2;clear hc hx hr hR hE he he2 ht;go_enter Tryz.func273,Tryz.ntmps273;go_wp2_with fail;refine HL.out.mono ?_;rintro e w' ⟨rfl,rfl⟩;simp only[ze6,if_true];go_wp2_with fail;refine(zqx 1 w).mono ?_;rintro e w1 ⟨rfl,hc1,hb1⟩;have h1:=HR.out.later hb1;have p9:=h1.cell 9 rfl;have p10:=h1.cell 10 rfl;have z9:=h1.fz 9;have z10:=h1.fz 10;have h2:Row ((w1.setCell ⟨g,9,none⟩ (.int .u64 (x:Int))).setCell ⟨g,10,none⟩ (.pointer (some ⟨w.heap.size,0,none⟩))) g 282 (pkC L nx V s.ents x (.pointer (some ⟨w.heap.size,0,none⟩))):=(h1.set 9 _).set 10 _;have hgr:w1.grownBy ((w1.setCell ⟨g,9,none⟩ (.int .u64 (x:Int))).setCell ⟨g,10,none⟩ (.pointer (some ⟨w.heap.size,0,none⟩))) (some g):=zn (a:=⟨g,10,none⟩) (zn (a:=⟨g,9,none⟩) (jk _ _) _ (.inr rfl)) _ (.inr rfl);have HC:=hid (hc1.grown hgr (fun e=>by injection e with e;have:=HR.out.lt;omega));have HE2:=hid ((HE.out.later hb1).grown (h1.notT (by rintro(h | h | h) <;> cases h)) hgr);have HH:=hid (zr1 g L nx V (.pointer (some ⟨w.heap.size,0,none⟩)) s x [] _ h2 He.out He2.out HX.out);have HR2:=hid h2;have Hb:=hid (((hb1.mono Hg.out).setCell (p:=⟨g,9,none⟩) hg (.int .u64 (x:Int))).setCell (p:=⟨g,10,none⟩) hg (.pointer (some ⟨w.heap.size,0,none⟩)));clear h1 h2 hgr hc1 hb1 q3;go_wp2_with fail;refine HH.out.mono ?_;rintro e w4 ⟨rfl,hR4,hg4⟩;have HR4:=hid hR4;have hN:=HR2.out.notT (by rintro(h | h | h) <;> cases h);have HE4:=hid (HE2.out.grown hN hg4);have HC4:=hid (HC.out.grown hg4 (fun e=>by injection e with e;have:=HR.out.lt;omega));have Hb4:=hid (Hb.out.grown hg4 (by have:=Hb.out.size;have:=Hg.out;omega) (fun k hk=>by injection hk with hk;omega));clear hR4 hN hg4;generalize hnh:jn s x []=s' at*;have Hnh:=hid hnh;clear hnh;generalize hF:pkF g s'.tag=F at*;have HF:=hid hF;clear hF;go_wp2_with fail;go_ret2;refine⟨Hb4.out,nx,by rw[HF.out];rfl,hg,V,_,HR4.out,?_⟩;rw[←Hnh.out];exact zr2 HE4.out ⟨w.heap.size,0,rfl,Hg.out,fun y h=>(by cases h),HC4.out⟩ (fun t h=>(by cases h))
 · rw[if_pos hc];have hcv:ze6 (zv x L.2.2.2.1 rest)=.iface 35 (.int .i64 ((zv x L.2.2.2.1 rest:Nat):Int)):=if_neg hc;rw[hcv] at HL;clear hc hx hr hR hcv hE he he2 ht;generalize zv x L.2.2.2.1 rest=c at*;go_enter Tryz.func273,Tryz.ntmps273;go_wp2_with fail;refine HL.out.mono ?_;rintro e w' ⟨rfl,rfl⟩;go_wp2_with fail;go_ret2;exact⟨Below.refl _ _,rfl,_,HR.out,rfl⟩
set_option maxRecDepth 20000 in
theorem z2y (base g:Nat) (L:zg) (nx:Value) (s:PS) (x rest:Nat) (w:World) (h:PkR w base g L nx s) (ht:s.tag=4) (hx:x<18446744073709551616) (hl:zk s.h):
 Calls Tryz.prog 299 #[.pointer (some ⟨g,0,none⟩),.int .u64 (x:Int),.int .i64 (rest:Int)] w (PkS w base g L (qa L.2.2.1 L.2.2.2.1 s x rest)):=by
 obtain⟨tag,v,rep,mx,hh,ents,hls,lo⟩:=s;simp only at ht hl;subst ht;obtain⟨hg,V,cu,hR,hB⟩:=h;obtain⟨hE,c,y,rfl,hbc,-,hC⟩:EntO w base V v rep mx hh∧CuAt w base cu none hh:=hB;have hps:qa L.2.2.1 L.2.2.2.1 ⟨4,v,rep,mx,hh,ents,hls,lo⟩ x rest=match loP (z7 hh) 1 x with | none=>.error 8 | some z=>.ok ⟨5,v,rep,mx,hh,ents,hls,z⟩:=rfl
 rw[hps];clear hps;have HL:=hid (zk8 c 1 y x hh.getLast? w hC (fun s hs=>(hl s (List.mem_of_getLast? hs)).2) (by omega) hx);have q10:=hR.cell 10 rfl;have HR:=hid hR;have HE:=hid hE;have HC:=hid hC;have Hne:=hid (hR.ne hC (by decide));have Hbw:=hid (show base≤w.heap.size by have:=hR.lt;omega);clear hR hE hC hx hl;unfold z7
 cases hlo:loP (hh.getLast?.map (·.2)) 1 x with
 | none=>
  rw[hlo] at HL;clear hlo;go_enter Tryz.func299,Tryz.ntmps299;go_wp2_with fail;refine HL.out.mono ?_;rintro e w1 ⟨rfl,hc1,hg1⟩;have HR1:=hid (HR.out.grown hg1 (fun e=>Hne.out (by injection e)));have Hb:=hid ((Below.refl base w).grown hg1 Hbw.out (fun k hk=>by injection hk with hk;omega));clear hc1 hg1;go_wp2_with fail;go_ret2
  exact⟨Hb.out,rfl,_,HR1.out,rfl⟩
 | some z=>
  rw[hlo] at HL;clear hlo;go_enter Tryz.func299,Tryz.ntmps299;go_wp2_with fail;refine HL.out.mono ?_;rintro e w1 ⟨rfl,hc1,hg1⟩;have HR1:=hid (HR.out.grown hg1 (fun e=>Hne.out (by injection e)));have Hb:=hid ((Below.refl base w).grown hg1 Hbw.out (fun k hk=>by injection hk with hk;omega));have HE1:=hid (HE.out.grown (HC.out.notT (by rintro(h | h | h) <;> cases h)) hg1);have HC1:=hid hc1;clear hc1 hg1;go_wp2_with fail;go_ret2;exact⟨Hb.out,nx,rfl,hg,V,_,HR1.out,HE1.out,c,z,rfl,hbc,fun y h=>(by injection h),HC1.out⟩
end
section
open Go.RowKit
attribute [local go_sem] zad
theorem zr3 {W:World} {base g:Nat} {L:zg} {nx V cu:Value} {e h:Nat} {v:Vec} (hV:OwnV W base V v) (hR:Row W g 282 (pkC L nx V e h cu)) (hg:base≤g) (r:Nat) (hb:v.length+1≤1000000000000):
 ∃ge cp w',(Builtin.append_ #[95,95] 95 #[V,.slice (some ⟨W.heap.size,0,none⟩) 1 1]).run Tryz.prog (W.alloc (.cells #[.int .u64 ((r:Nat):Int),.int .u64 0,.slice none 0 0] 93))=.ok (.slice (some ⟨ge,0,none⟩) (v.length+1) cp) w'∧
  w'.cell? ⟨g,7,none⟩=some V∧w'.frozen? ⟨g,7,none⟩=false∧Below base W (w'.setCell ⟨g,7,none⟩ (.slice (some ⟨ge,0,none⟩) (v.length+1) cp))∧Row (w'.setCell ⟨g,7,none⟩ (.slice (some ⟨ge,0,none⟩) (v.length+1) cp)) g 282 (pkC L nx (.slice (some ⟨ge,0,none⟩) (v.length+1) cp) e h cu)∧EntO (w'.setCell ⟨g,7,none⟩ (.slice (some ⟨ge,0,none⟩) (v.length+1) cp)) base (.slice (some ⟨ge,0,none⟩) (v.length+1) cp) v r 0 []:=by
 have hal:Below W.heap.size W (W.alloc (.cells #[.int .u64 ((r:Nat):Int),.int .u64 0,.slice none 0 0] 93)):=(Below.refl _ _).alloc (Nat.le_refl _) _;have hbW:base≤W.heap.size:=by have:=hR.lt;omega
 obtain⟨V',w',hrun,hE,hgr,hk⟩:=(hV.below hal).open r (some ⟨W.heap.size,0,none⟩) 1 (vy (yp W (.cells #[.int .u64 ((r:Nat):Int),.int .u64 0,.slice none 0 0] 93) _ rfl) rfl rfl) hb (Nat.le_trans hbW hal.size)
 obtain⟨ge,cp,rfl,-⟩:=hE.at
 have hR1:=hR.later hal;obtain⟨ss,ho,-⟩:=hV.below hal;have hR2:Row w' g 282 (pkC L nx V e h cu):=hR1.grown hgr fun e'=>hR1.ne_own ho (by decide) g e'.symm rfl
 refine⟨ge,cp,w',hrun,hR2.cell 7 rfl,hR2.fz 7,?_,hR2.set 7 _,hE.grown (hR2.notT (by rintro(h | h | h) <;> cases h)) (kd _ _ _ _)⟩;exact(Below.grown (hal.mono hbW) hgr (Nat.le_trans hbW hal.size) hk).setCell (p:=⟨g,7,none⟩) hg _
theorem z2z (x:Nat):ko [] x=some x:=rfl
theorem z20 {v:Vec} (h:0<v.length) (x:Nat):ko v x=if (ze v (v.length - 1)).1+1+x<18446744073709551616 then some ((ze v (v.length - 1)).1+1+x) else none:=by
 unfold ko;have hne:v≠[]:=fun e=>by rw[e] at h;cases h
 rw[List.getLast?_eq_getElem?,List.getElem?_eq_getElem (by omega),ja (by omega)]
set_option maxRecDepth 20000 in
theorem z21 (base g:Nat) (L:zg) (nx:Value) (s:PS) (x rest:Nat) (w:World) (h:PkR w base g L nx s) (ht:s.tag=1) (hx:x<18446744073709551616) (hlv:LtV s.v) (hl:s.v.length+1≤1000000000000):
 Calls Tryz.prog 231 #[.pointer (some ⟨g,0,none⟩),.int .u64 (x:Int),.int .i64 (rest:Int)] w (PkS w base g L (qa L.2.2.1 L.2.2.2.1 s x rest)):=by
 obtain⟨tag,v,rep,mx,hh,ents,hls,lo⟩:=s;simp only at ht hl hlv;subst ht;obtain⟨hg,V,cu,hR,hB⟩:=h;have hV:OwnV w base V v:=hB;have hps:qa L.2.2.1 L.2.2.2.1 ⟨1,v,rep,mx,hh,ents,hls,lo⟩ x rest=match ko v x with | none=>.error 8 | some r=>.ok ⟨2,v,r,mx,hh,ents,hls,lo⟩:=rfl
 rw[hps];clear hps hB;by_cases h0:v=[]
 · subst h0;obtain⟨a,c,rfl,-⟩:=hV.ents hlv;obtain⟨ge,cp,w',hrun,c7,f7,hb,hR',hE⟩:=zr3 hV hR hg x hl;have q7:=hR.cell 7 rfl;rw[z2z];have Hrun:=hid hrun;have HR:=hid hR';have HE:=hid hE;have Hb:=hid hb;clear hV hR hrun hR' hE hb hl hx hlv;simp only[List.length_nil] at*;go_enter Tryz.func231,Tryz.ntmps231;go_wp2_with (at_builtin;refine jh _ _ 95 rfl rfl _ _ rfl rfl _ _ Hrun.out ?_);go_ret2;exact⟨Hb.out,nx,rfl,hg,_,cu,HR.out,HE.out⟩
 · have hpos:0<v.length:=List.length_pos_iff.2 h0;obtain⟨a,c,rfl,hEn⟩:=hV.ents hlv;obtain⟨b,o,rfl,hcells⟩:=hEn.cells hpos;have hi:v.length - 1<v.length:=by omega
   have qe:=(hcells _ hi).1;have hrep:=(hlv _ (kn hi)).rep;rw[z20 hpos];generalize (ze v (v.length - 1)).1=y at*;have q7:=hR.cell 7 rfl
   have h64:∀z∈[y,1,x],z<18446744073709551616:=fun z hz=>by
    simp only[List.mem_cons,List.not_mem_nil,or_false] at hz;rcases hz with rfl | rfl | rfl <;> first | assumption | omega
   have H64:=hid h64;have hsum:[y,1,x].sum=y+1+x:=by simp only[List.sum_cons,List.sum_nil,Nat.add_zero,Nat.add_assoc]
   obtain⟨n,hn⟩:∃n,n=v.length:=⟨_,rfl⟩;have Hn:=hid hn;have HV:=hid hV;have HR:=hid hR;have Hl:=hid hl;have hn1:1≤n∧n≤1000000000000:=by omega
   rw[←hn] at qe q7;clear hcells hEn hi hrep h64 h0 hpos hx hlv hV hR hl hn;have e1:(n:Int) - 1=((n - 1:Nat):Int):=by omega
   by_cases hc:y+1+x<18446744073709551616
   · have hv:jl [y,1,x].sum=.tuple #[.int .u64 ((y+1+x:Nat):Int),.bool true]:=by rw[hsum];exact zf9 hc
     have HS:=hid (fun W hW=>ze4 [y,1,x] W w.heap.size 3 hW rfl H64.out (by omega) hv);rw[if_pos hc];clear hc hsum hv;generalize y+1+x=S at*;go_enter Tryz.func231,Tryz.ntmps231;go_wp2_with fail;refine(HS.out _ (by exact yp w _ _ rfl)).mono ?_;rintro e w1 ⟨rfl,hb1⟩;have hb2:Below w.heap.size w w1:=((Below.refl _ _).alloc (Nat.le_refl _) _).trans (hb1.mono (by simp));obtain⟨ge,cp,w',hrun,c7,f7,hb,hR',hE⟩:=zr3 (HV.out.below hb2) (HR.out.later hb2) hg S Hl.out;have p7:=(HR.out.later hb2).cell 7 rfl;rw[←Hn.out] at hrun c7 hb hR' hE p7;have Hrun:=hid hrun;have HR':=hid hR';have HE:=hid hE;have Hb:=hid ((hb2.mono (show base≤w.heap.size by have:=HR.out.lt;omega)).trans hb);clear hrun hR' hE hb hb1 hb2 qe q7 HR HV;go_wp2_with (at_builtin;refine jh _ _ 95 rfl rfl _ _ rfl rfl _ _ Hrun.out ?_);go_ret2;exact⟨Hb.out,nx,rfl,hg,_,cu,HR'.out,HE.out⟩
   · have hv:jl [y,1,x].sum=.tuple #[.int .u64 0,.bool false]:=by rw[hsum];exact zga hc
     have HS:=hid (fun W hW=>ze4 [y,1,x] W w.heap.size 3 hW rfl H64.out (by omega) hv);rw[if_neg hc];clear hc hsum hv;go_enter Tryz.func231,Tryz.ntmps231;go_wp2_with fail;refine(HS.out _ (by exact yp w _ _ rfl)).mono ?_;rintro e w1 ⟨rfl,hb1⟩;have hb2:Below w.heap.size w w1:=((Below.refl _ _).alloc (Nat.le_refl _) _).trans (hb1.mono (by simp));have HR':=hid (HR.out.later hb2);have Hb:=hid (hb2.mono (show base≤w.heap.size by have:=HR.out.lt;omega));clear hb1 hb2 qe q7 HR HV;go_wp2_with fail;go_ret2;exact⟨Hb.out,rfl,_,HR'.out,rfl⟩
end
