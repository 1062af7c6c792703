/- Part 43. -/
import Derived.Test.YtmfhggnlainmiaaGreatDoorPk42
set_option linter.unusedVariables false
set_option maxHeartbeats 16000000
namespace Go.Proofs.YtmfhggnlainmiaaGreatDoor
open Lib (hid)
section
open Go.RowKit
theorem yfj {l:List Iv} (h:0<l.length):qr l=some (zb l (l.length - 1)).2:=by
 unfold qr;rw[List.getLast?_eq_getElem?,List.getElem?_eq_getElem (by omega),jg (by omega)]
 rfl
theorem yfk (lo y:Nat):[lo,y].sum=lo+y:=by simp
theorem yfl (prev:Option Nat) (b:Bool) (h ap x:Nat) (w:World) (hb:prev.isNone=b) (hp:∀y,prev=some y→y=h) (h1:h<18446744073709551616) (h2:ap≤1) (h3:x<18446744073709551616):
 Calls Tryz.prog 204 #[.bool b,.int .u64 h,.int .u64 ap,.int .u64 x] w fun e w'=>e=.returned (loV (loP prev ap x))∧Below w.heap.size w w':=by
 subst hb;exact ye9 prev h ap x w hp h1 h2 h3
theorem yfm (W:World) (g0 lo y:Nat) (h:W.heap[g0]?=some (.cells (zi [lo,y]).toArray 64)) (h1:lo<18446744073709551616) (h2:y<18446744073709551616):
 Calls Tryz.prog 205 #[.slice (some ⟨g0,0,none⟩) 2 2] W fun e w'=>e=.returned (zag (lo+y))∧Below W.heap.size W w':=
 ztm [lo,y] W g0 2 h rfl (fun z hz=>by
  simp only[List.mem_cons,List.not_mem_nil,or_false] at hz;rcases hz with rfl | rfl <;> assumption) (by omega) (congrArg zag (yfk lo y))
def yfn (T:ye) (r:Option Nat) (q q1:Nat):RR (Iv×Nat):=match r with | none=>.error (8,q) | some lo=>hiP T lo q1
theorem zi8 {s:Nat} (h:s<18446744073709551616):zag s=.tuple #[.int .u64 (s:Int),.bool true]:=if_pos h
theorem zto {s:Nat} (h:¬s<18446744073709551616):zag s=.tuple #[.int .u64 0,.bool false]:=if_neg h
abbrev ivT (s:Iv):Value:=.agg #[.int .u64 (s.1:Nat),.int .u64 (s.2:Nat)]
set_option maxRecDepth 20000 in
theorem z11 {w:World} {g n cap E q nl cl ap:Nat} {a al:Option Addr} {l:List Nat} {pv:List Iv} (hB:∀W,w.grownBy W (some g)→Rf W a n cap E l) (h:CurM w g (.slice a n cap) E (.ok q)) (hq:q≤n) (hqE:q≤E)
 (hIv:∀W,w.grownBy W (some g)→Ivs W al nl cl pv) (hap:ap≤1):
 Calls Tryz.prog 143 #[.pointer (some ⟨g,0,none⟩),.slice al nl cl,.int .u64 ap] w fun e w'=>qu (ivP (ze l E) (qr pv) ap q) e w w' g (.slice a n cap) E (fun s=>e=.returned (ivT s.1)) (e=.returned (ivT (0,0))):=by
 have hg:=CurM.lt h;have hI0:=hIv w (vy _ _);have hlen:=hI0.len;have hnm:nl≤9223372036854775807:=Nat.le_trans hI0.room hI0.most;have Hlt:=hid (hB w (vy _ _)).b.lt;obtain⟨w0,hw0⟩:∃w0,w0=w.alloc (.cells #[.int .u64 0,.int .u64 0] 135):=⟨_,rfl⟩;have Hw0:=hid hw0;have HR0:=hid (show Row w0 w.heap.size 135 [.int .u64 0,.int .u64 0] from by rw[hw0];exact y7 w _ _);have HG0:=hid (show w.grownBy w0 (some g) from by rw[hw0];exact ye4 (vy _ _) _);have HC0:=hid (show CurM w0 g (.slice a n cap) E (.ok q) from by rw[hw0];exact CurM.later h ((Below.refl _ _).alloc (Nat.le_refl _) _));have HN0:=hid (zkj (hB _ HG0.out) HC0.out hq hqE);have HB:=hid hB;have HIv:=hid hIv;have Hgr:Hid (some w.heap.size≠some g):=hid (by intro e;injection e;omega);have Hgs:=hid (show w.heap.size≠g by omega);clear hw0 hB h hI0 hIv hg
 obtain⟨hv,b,hb0,hpv,hv64⟩:∃(hv:Nat) (b:Bool),((nl:Int) == 0)=b∧((nl=0∧hv=0∧qr pv=none∧b=true)∨(0<nl∧hv=(zb pv (nl - 1)).2∧qr pv=some hv∧b=false))∧hv<18446744073709551616:=by
  rcases Nat.eq_zero_or_pos nl with h0 | h0
  · refine⟨0,true,by rw[beq_iff_eq];omega,.inl ⟨h0,rfl,?_,rfl⟩,by decide⟩;rw[List.eq_nil_of_length_eq_zero (by omega:pv.length=0)];rfl
  · refine⟨_,false,by rw[beq_eq_false_iff_ne];omega,.inr ⟨h0,rfl,?_,rfl⟩,?_⟩
    · rw[yfj (by omega),hlen]
    · exact((HIv.out w (vy _ _)).lt _ (zbo (by omega))).2
 have hiso:(qr pv).isNone=b∧∀y,qr pv=some y→y=hv:=by
  rcases hpv with ⟨-,rfl,e,rfl⟩ | ⟨-,-,e,rfl⟩
  · rw[e];exact⟨rfl,fun y hy=>by cases hy⟩
  · rw[e];exact⟨rfl,fun y hy=>by cases hy;rfl⟩
 have HLo:=hid (fun W x (hx:x<18446744073709551616)=>yfl (qr pv) b hv ap x W hiso.1 hiso.2 hv64 hap hx);have Hlo64:=hid (fun x lo (hx:x<18446744073709551616) (e:loP (qr pv) ap x=some lo)=>zsg hx e);have HS:=hid yfm
 have Hlast:=hid (fun W (hW:w.grownBy W (some g)) (h0:0<nl) (e:hv=(zb pv (nl - 1)).2)=>show ∃bb oo,al=some ⟨bb,oo,none⟩∧W.cell? ⟨bb,oo+(nl - 1)*2+1,none⟩=some (.int .u64 (hv:Nat)) from by
  obtain⟨bb,oo,rfl,hc⟩:=(HIv.out W hW).cells h0;exact⟨bb,oo,rfl,by rw[e];exact(hc (nl - 1) (by omega)).2⟩)
 clear HIv hlen hiso
 cases hT:ze l E q with
 | error c=>
  have Hr:=hid (show ivP (ze l E) (qr pv) ap q=.error (c,q) from by unfold ivP nmP;rw[hT];rfl);have HT:=hid hT;clear hT;obtain⟨r,hr⟩:∃r,r=loP (qr pv) ap 0:=⟨_,rfl⟩;have HL:=hid (fun W=>HLo.out W 0 (by decide));have H0:=hid (fun lo=>Hlo64.out 0 lo (by decide));rw[←hr] at HL H0;clear hr HLo Hlo64;go_enter Tryz.func143,Tryz.ntmps143;go_wp2_with fail;rw[←Hw0.out];refine HN0.out.mono ?_;rintro e w1 ⟨hg1,x,rfl,-,h2⟩;obtain⟨rfl,hC1⟩:=h2 c HT.out;have HG1:=hid (zw HG0.out hg1);have HC1:=hid hC1;have HR1:=hid (HR0.out.grown hg1 Hgr.out);clear hg1 h2 hC1;rcases hpv with ⟨h0,rfl,e0,rfl⟩ | ⟨h0,e1,e0,rfl⟩
  case' inl=>
   have hd:decide (0<(nl:Int))=false:=by rw[decide_eq_false_iff_not];omega
  case' inr=>
   have hd:decide (0<(nl:Int))=true:=by rw[decide_eq_true_iff];omega
   obtain⟨bb,oo,rfl,hcell⟩:=Hlast.out w1 HG1.out h0 e1;have hsub:IntKind.i64.wrap ((nl:Int) - 1)=((nl - 1:Nat):Int):=by rw[IntKind.wrap_i64];omega
   have h1:(0:Int)≤((nl - 1:Nat):Int):=by omega
   have h2:((nl - 1:Nat):Int)<(nl:Int):=by omega
   clear e1 h0;generalize nl - 1=m at*
  all_goals
   go_wp2_with fail;refine(HL.out w1).mono ?_;rintro e w2 ⟨rfl,hb2⟩;have HG2:=hid (vg HG1.out hb2);have HC2:=hid (CurM.later HC1.out hb2);have HR2:=hid (HR1.out.later hb2);clear hb2
   cases r with
   | none=>
    unfold loV;go_wp2_with fail;refine(zpj (c:=8) (p:=q) HC2.out).mono ?_;rintro e w6 ⟨rfl,rfl⟩;go_wp2_with fail;refine(zg4 HC2.out).mono ?_;rintro e w7 ⟨rfl,rfl⟩;go_wp2_with fail;refine(HS.out _ w2.heap.size 0 0 (by exact zh w2 _ _ rfl) (by decide) (by decide)).mono ?_;rintro e w8 ⟨rfl,hb8⟩;have hal:=(Below.refl w2.heap.size w2).alloc (Nat.le_refl _) (.cells #[.int .u64 (0:Nat),.int .u64 0] 64);have hb9:=hal.trans (hb8.mono hal.size);have HG8:=hid (vg HG2.out hb9);have HC8:=hid (CurM.later HC2.out hb9);have HR8:=hid (HR2.out.later hb9);rw[Nat.add_zero,zi8 (by decide)];clear hal hb8 hb9;go_wp2_with fail;refine(zbg HC8.out).mono ?_;rintro e w9 ⟨rfl,rfl⟩;have c0:=HR8.out.cell 0 rfl;have c1:=HR8.out.cell 1 rfl;have f0:=HR8.out.fz 0;have f1:=HR8.out.fz 1;have HRf:=hid ((HR8.out.set 0 (.int .u64 0)).set 1 (.int .u64 0));have HCf:=hid ((HC8.out.other Hgs.out (.int .u64 0) (i:=0)).other Hgs.out (.int .u64 0) (i:=1));have HGf:=hid (yz (yz HG8.out (a:=⟨w.heap.size,0,none⟩) (.int .u64 0) (.inl (Nat.le_refl _))) (a:=⟨w.heap.size,1,none⟩) (.int .u64 0) (.inl (Nat.le_refl _)));go_wp2_with fail;refine bodyPost_ret (results_cell_row rfl _ _ w.heap.size 135 #[.int .u64 0,.int .u64 0] (0,0) _ rfl HRf.out Tryz.underlying135 rfl (by kernel_rfl)) rfl ?_;unfold qu;rw[Hr.out]
    exact⟨HGf.out,HCf.out,rfl⟩
   | some lo=>
    have Hl64:=hid (H0.out lo rfl);unfold loV;go_wp2_with fail;refine(zg4 HC2.out).mono ?_;rintro e w7 ⟨rfl,rfl⟩;go_wp2_with fail;refine(HS.out _ w2.heap.size lo 0 (by exact zh w2 _ _ rfl) Hl64.out (by decide)).mono ?_;rintro e w8 ⟨rfl,hb8⟩;have hal:=(Below.refl w2.heap.size w2).alloc (Nat.le_refl _) (.cells #[.int .u64 (lo:Nat),.int .u64 0] 64);have hb9:=hal.trans (hb8.mono hal.size);have HG8:=hid (vg HG2.out hb9);have HC8:=hid (CurM.later HC2.out hb9);have HR8:=hid (HR2.out.later hb9);rw[Nat.add_zero,zi8 Hl64.out];clear hal hb8 hb9;go_wp2_with fail;refine(zbg HC8.out).mono ?_;rintro e w9 ⟨rfl,rfl⟩;have c0:=HR8.out.cell 0 rfl;have c1:=HR8.out.cell 1 rfl;have f0:=HR8.out.fz 0;have f1:=HR8.out.fz 1;have HRf:=hid ((HR8.out.set 0 (.int .u64 0)).set 1 (.int .u64 0));have HCf:=hid ((HC8.out.other Hgs.out (.int .u64 0) (i:=0)).other Hgs.out (.int .u64 0) (i:=1));have HGf:=hid (yz (yz HG8.out (a:=⟨w.heap.size,0,none⟩) (.int .u64 0) (.inl (Nat.le_refl _))) (a:=⟨w.heap.size,1,none⟩) (.int .u64 0) (.inl (Nat.le_refl _)));go_wp2_with fail;refine bodyPost_ret (results_cell_row rfl _ _ w.heap.size 135 #[.int .u64 0,.int .u64 0] (0,0) _ rfl HRf.out Tryz.underlying135 rfl (by kernel_rfl)) rfl ?_;unfold qu;rw[Hr.out]
    exact⟨HGf.out,HCf.out,rfl⟩
 | ok y=>
  obtain⟨x,q1⟩:=y;obtain⟨t1,t2,t3,t4,-⟩:=zap Hlt.out hT;rw[(HB.out w (vy _ _)).b.len] at t2;obtain⟨r,hr⟩:∃r,r=loP (qr pv) ap x:=⟨_,rfl⟩;have HL:=hid (fun W=>HLo.out W x t4);have H0:=hid (fun lo=>Hlo64.out x lo t4);have hiv:ivP (ze l E) (qr pv) ap q=yfn (ze l E) r q q1:=by rw[hr];unfold ivP nmP;rw[hT];rfl
  rw[←hr] at HL H0;have HT:=hid hT;have Hiv:=hid hiv;have HN2:=hid (fun W (hW:w.grownBy W (some g)) (hC:CurM W g (.slice a n cap) E (.ok q1))=>zkj (HB.out W hW) hC t2 t3);clear hr HLo Hlo64 hT hiv t1 t2 t3;go_enter Tryz.func143,Tryz.ntmps143;go_wp2_with fail;rw[←Hw0.out];refine HN0.out.mono ?_;rintro e w1 ⟨hg1,x',rfl,h1',-⟩;obtain⟨e1',hC1⟩:=h1' _ HT.out;obtain rfl:x'=x:=e1';have HG1:=hid (zw HG0.out hg1);have HC1:=hid hC1;have HR1:=hid (HR0.out.grown hg1 Hgr.out);clear hg1 h1' hC1;rcases hpv with ⟨h0,rfl,e0,rfl⟩ | ⟨h0,e1,e0,rfl⟩
  case' inl=>
   have hd:decide (0<(nl:Int))=false:=by rw[decide_eq_false_iff_not];omega
  case' inr=>
   have hd:decide (0<(nl:Int))=true:=by rw[decide_eq_true_iff];omega
   obtain⟨bb,oo,rfl,hcell⟩:=Hlast.out w1 HG1.out h0 e1;have hsub:IntKind.i64.wrap ((nl:Int) - 1)=((nl - 1:Nat):Int):=by rw[IntKind.wrap_i64];omega
   have h1:(0:Int)≤((nl - 1:Nat):Int):=by omega
   have h2:((nl - 1:Nat):Int)<(nl:Int):=by omega
   clear e1 h0;generalize nl - 1=m at*
  all_goals
   go_wp2_with fail;refine(HL.out w1).mono ?_;rintro e w2 ⟨rfl,hb2⟩;have HG2:=hid (vg HG1.out hb2);have HC2:=hid (CurM.later HC1.out hb2);have HR2:=hid (HR1.out.later hb2);clear hb2
   cases r with
   | none=>
    have Hr:=hid (show ivP (ze l E) (qr pv) ap q=.error (8,q) from Hiv.out);unfold loV;go_wp2_with fail;refine(zdy (c:=8) (p:=q) HC2.out (by decide)).mono ?_;rintro e w6 ⟨rfl,hg6,hC6⟩;have HG6:=hid (zw HG2.out hg6);have HC6:=hid hC6;have HR6:=hid (HR2.out.grown hg6 Hgr.out);clear hg6 hC6;go_wp2_with fail;refine(zg4 HC6.out).mono ?_;rintro e w7 ⟨rfl,rfl⟩;go_wp2_with fail;refine(HS.out _ w6.heap.size 0 0 (by exact zh w6 _ _ rfl) (by decide) (by decide)).mono ?_;rintro e w8 ⟨rfl,hb8⟩;have hal:=(Below.refl w6.heap.size w6).alloc (Nat.le_refl _) (.cells #[.int .u64 (0:Nat),.int .u64 0] 64);have hb9:=hal.trans (hb8.mono hal.size);have HG8:=hid (vg HG6.out hb9);have HC8:=hid (CurM.later HC6.out hb9);have HR8:=hid (HR6.out.later hb9);rw[Nat.add_zero,zi8 (by decide)];clear hal hb8 hb9;go_wp2_with fail;refine(zbg HC8.out).mono ?_;rintro e w9 ⟨rfl,rfl⟩;have c0:=HR8.out.cell 0 rfl;have c1:=HR8.out.cell 1 rfl;have f0:=HR8.out.fz 0;have f1:=HR8.out.fz 1;have HRf:=hid ((HR8.out.set 0 (.int .u64 0)).set 1 (.int .u64 0));have HCf:=hid ((HC8.out.other Hgs.out (.int .u64 0) (i:=0)).other Hgs.out (.int .u64 0) (i:=1));have HGf:=hid (yz (yz HG8.out (a:=⟨w.heap.size,0,none⟩) (.int .u64 0) (.inl (Nat.le_refl _))) (a:=⟨w.heap.size,1,none⟩) (.int .u64 0) (.inl (Nat.le_refl _)));go_wp2_with fail;refine bodyPost_ret (results_cell_row rfl _ _ w.heap.size 135 #[.int .u64 0,.int .u64 0] (0,0) _ rfl HRf.out Tryz.underlying135 rfl (by kernel_rfl)) rfl ?_;unfold qu;rw[Hr.out]
    exact⟨HGf.out,HCf.out,rfl⟩
   | some lo=>
    have Hl64:=hid (H0.out lo rfl);unfold loV;go_wp2_with fail;refine(HN2.out w2 HG2.out HC2.out).mono ?_;rintro e w6 ⟨hg6,y,rfl,h1',h2'⟩;have HG6:=hid (zw HG2.out hg6);have HR6:=hid (HR2.out.grown hg6 Hgr.out);have H1:=hid h1';have H2:=hid h2';clear hg6 h1' h2'
    cases hT2:ze l E q1 with
    | error c=>
     have Hr:=hid (show ivP (ze l E) (qr pv) ap q=.error (c,q1) from by rw[Hiv.out];show hiP _ lo q1=_;unfold hiP nmP;rw[hT2];rfl);obtain⟨rfl,hC6⟩:=H2.out c hT2;have HC6:=hid hC6;clear hC6 hT2;go_wp2_with fail;refine(HS.out _ w6.heap.size lo 0 (by exact zh w6 _ _ rfl) Hl64.out (by decide)).mono ?_;rintro e w8 ⟨rfl,hb8⟩;have hal:=(Below.refl w6.heap.size w6).alloc (Nat.le_refl _) (.cells #[.int .u64 (lo:Nat),.int .u64 0] 64);have hb9:=hal.trans (hb8.mono hal.size);have HG8:=hid (vg HG6.out hb9);have HC8:=hid (CurM.later HC6.out hb9);have HR8:=hid (HR6.out.later hb9);rw[Nat.add_zero,zi8 Hl64.out];clear hal hb8 hb9;go_wp2_with fail;refine(zbg HC8.out).mono ?_;rintro e w9 ⟨rfl,rfl⟩;have c0:=HR8.out.cell 0 rfl;have c1:=HR8.out.cell 1 rfl;have f0:=HR8.out.fz 0;have f1:=HR8.out.fz 1;have HRf:=hid ((HR8.out.set 0 (.int .u64 0)).set 1 (.int .u64 0));have HCf:=hid ((HC8.out.other Hgs.out (.int .u64 0) (i:=0)).other Hgs.out (.int .u64 0) (i:=1));have HGf:=hid (yz (yz HG8.out (a:=⟨w.heap.size,0,none⟩) (.int .u64 0) (.inl (Nat.le_refl _))) (a:=⟨w.heap.size,1,none⟩) (.int .u64 0) (.inl (Nat.le_refl _)));go_wp2_with fail;refine bodyPost_ret (results_cell_row rfl _ _ w.heap.size 135 #[.int .u64 0,.int .u64 0] (0,0) _ rfl HRf.out Tryz.underlying135 rfl (by kernel_rfl)) rfl ?_;unfold qu;rw[Hr.out]
     exact⟨HGf.out,HCf.out,rfl⟩
    | ok z=>
     obtain⟨y',q2⟩:=z;obtain⟨e3,hC6⟩:=H1.out _ hT2;obtain rfl:y=y':=e3;obtain⟨-,-,-,u4,-⟩:=zap Hlt.out hT2;have Hu:=hid u4;have HC6:=hid hC6;have hr1:ivP (ze l E) (qr pv) ap q=if lo+y<18446744073709551616 then .ok (((lo,lo+y),q1),q2) else .error (8,q1):=by rw[Hiv.out];show hiP _ lo q1=_;unfold hiP nmP;rw[hT2];rfl
     have Hr1:=hid hr1;clear hC6 hT2 u4 hr1;go_wp2_with fail;refine(HS.out _ w6.heap.size lo y (by exact zh w6 _ _ rfl) Hl64.out Hu.out).mono ?_;rintro e w8 ⟨rfl,hb8⟩;have hal:=(Below.refl w6.heap.size w6).alloc (Nat.le_refl _) (.cells #[.int .u64 (lo:Nat),.int .u64 (y:Nat)] 64);have hb9:=hal.trans (hb8.mono hal.size);have HG8:=hid (vg HG6.out hb9);have HC8:=hid (CurM.later HC6.out hb9);have HR8:=hid (HR6.out.later hb9);clear hal hb8 hb9;by_cases hlt:lo+y<18446744073709551616
     · have Hr:=hid (Hr1.out.trans (if_pos hlt));rw[zi8 hlt];clear hlt;generalize lo+y=hi at*;go_wp2_with fail;refine(zb3 HC8.out).mono ?_;rintro e w9 ⟨rfl,rfl⟩;have c0:=HR8.out.cell 0 rfl;have c1:=HR8.out.cell 1 rfl;have f0:=HR8.out.fz 0;have f1:=HR8.out.fz 1;have HRf:=hid ((HR8.out.set 0 (.int .u64 (lo:Nat))).set 1 (.int .u64 (hi:Nat)));have HCf:=hid ((HC8.out.other Hgs.out (.int .u64 (lo:Nat)) (i:=0)).other Hgs.out (.int .u64 (hi:Nat)) (i:=1));have HGf:=hid (yz (yz HG8.out (a:=⟨w.heap.size,0,none⟩) (.int .u64 (lo:Nat)) (.inl (Nat.le_refl _))) (a:=⟨w.heap.size,1,none⟩) (.int .u64 (hi:Nat)) (.inl (Nat.le_refl _)));go_wp2_with fail;refine bodyPost_ret (results_cell_row rfl _ _ w.heap.size 135 #[.int .u64 (lo:Nat),.int .u64 (hi:Nat)] (0,0) _ rfl HRf.out Tryz.underlying135 rfl (by kernel_rfl)) rfl ?_;unfold qu;rw[Hr.out];exact⟨HGf.out,HCf.out,rfl⟩
     · have Hr:=hid (Hr1.out.trans (if_neg hlt));rw[zto hlt];clear hlt;go_wp2_with fail;refine(zdy (c:=8) (p:=q1) HC8.out (by decide)).mono ?_;rintro e w10 ⟨rfl,hg10,hC10⟩;have HG10:=hid (zw HG8.out hg10);have HC10:=hid hC10;have HR10:=hid (HR8.out.grown hg10 Hgr.out);clear hg10 hC10;go_wp2_with fail;refine(zbg HC10.out).mono ?_;rintro e w11 ⟨rfl,rfl⟩;have c0:=HR10.out.cell 0 rfl;have c1:=HR10.out.cell 1 rfl;have f0:=HR10.out.fz 0;have f1:=HR10.out.fz 1;have HRf:=hid ((HR10.out.set 0 (.int .u64 0)).set 1 (.int .u64 0));have HCf:=hid ((HC10.out.other Hgs.out (.int .u64 0) (i:=0)).other Hgs.out (.int .u64 0) (i:=1));have HGf:=hid (yz (yz HG10.out (a:=⟨w.heap.size,0,none⟩) (.int .u64 0) (.inl (Nat.le_refl _))) (a:=⟨w.heap.size,1,none⟩) (.int .u64 0) (.inl (Nat.le_refl _)));go_wp2_with fail;refine bodyPost_ret (results_cell_row rfl _ _ w.heap.size 135 #[.int .u64 0,.int .u64 0] (0,0) _ rfl HRf.out Tryz.underlying135 rfl (by kernel_rfl)) rfl ?_;unfold qu;rw[Hr.out];exact⟨HGf.out,HCf.out,rfl⟩
