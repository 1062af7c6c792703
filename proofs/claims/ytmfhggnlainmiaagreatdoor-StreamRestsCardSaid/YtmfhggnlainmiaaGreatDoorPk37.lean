/- Part 37. -/
import Derived.Test.YtmfhggnlainmiaaGreatDoorPk36
import Derived.Test.YtmfhggnlainmiaaGreatDoorPk21
import Derived.Test.YtmfhggnlainmiaaGreatDoorPk33
set_option linter.unusedVariables false
set_option maxHeartbeats 16000000
namespace Go.Proofs.YtmfhggnlainmiaaGreatDoor
open Lib (hid)
section
open Go.RowKit
theorem yd7 {w w':World} {g:Nat} {T:TypeId} {C:List Value} (hR:Row w g T C) (hT:¬zff T) (hg:w.grownBy w' (some g)):Steady 0 zff w w':=
 ⟨hg.size,fun k hk hp=>hg.block k hk fun e=>by
  injection e with e;subst e;rcases hp with h' | ⟨C',T',fr,hT',h'⟩
  · omega
  · rw[show w.heap[k]?=_ from hR] at h';injection h' with h';injection h' with _ h' _;subst h';exact hT hT'⟩
theorem DcR.knt {w w':World} {d:Nat} {L:zc} {s:Dc} {vp:Option Addr} {y:Value} (h:DcR w d L s vp y) (hg:w.grownBy w' (some d)):Steady 0 zff w w':=yd7 h (by unfold zff jw;decide) hg
theorem Lo.of_grown {B d:Nat} {w w':World} (h:w.grownBy w' (some d)) (hb:B≤w.heap.size):Lo B d w w':=
 ⟨h.os,h.tape,h.output,h.size,fun k hk hd=>h.block k (Nat.lt_of_lt_of_le hk hb) fun e=>by injection e with e;exact hd e⟩
theorem Lo.of_own {B d base sz n:Nat} {w w':World} {e:TypeId} {v:Value} {xs:List Value} (ho:w.ownsRow base e sz v n xs) (h:w.grownBy w' v.ownBlock) (hb:B≤base) (hb2:B≤w.heap.size):Lo B d w w':=
 ⟨h.os,h.tape,h.output,h.size,fun k hk _=>h.block k (Nat.lt_of_lt_of_le hk hb2) fun e=>by have:=(ho.lt k e.symm).1;omega⟩
theorem Ty.of_lo {F d:Nat} {w w':World} (h:Lo F d w w'):Ty F d w w':=fun k _ _ _ hk hd _ _=>h.block k hk hd
theorem Ty.of_grown {F d:Nat} {w w':World} (h:w.grownBy w' (some d)):Ty F d w w':=fun k _ _ _ _ hd hc _=>h.block k (Array.getElem?_eq_some_iff.1 hc).1 fun e=>by injection e with e;exact hd e
theorem Ty.of_belt {F d n:Nat} {w w':World} (h:BelT n w w'):Ty F d w w':=fun k C T fr _ _ hc hT=>h.typ k C T fr hc hT
theorem yd8 (w:World) (P:TypeId→Prop):Steady 0 P { w with heap:= #[] } w:=⟨Nat.zero_le _,fun k hk=>absurd hk (Nat.not_lt_zero k)⟩
end
section
open Go.RowKit
attribute [local go_sem] y9
theorem yd9 {w:World} {d:Nat} {L:zc} {s:Dc} {vp:Option Addr} {y:Value} (h:DcR w d L s vp y):Calls Tryz.prog 169 #[.pointer (some ⟨d,13,none⟩)] w (DcQ w d L { s with pl:=[] } vp y):=by
 refine(ydp ⟨d,13,none⟩ (sum s.pl) w (Row.cell h 13 rfl) (Row.fz h 13)).mono ?_;rintro e w' ⟨rfl,rfl⟩;have e0:((sum []:Nat):Int)=0:=by rw[←ydr];rfl
 have hw:w.setCell ⟨d,13,none⟩ (.int .u32 0)=w.setCell ⟨d,13,none⟩ (.int .u32 ((sum []:Nat):Int)):=by rw[e0]
 rw[hw];exact⟨rfl,qh w d 13 _,Row.set h 13 _⟩
def yea (w:World) (d:Nat) (L:zc) (s:Dc) (y:Value) (e:Ending) (w':World):Prop:=
 e=.returned (.tuple #[])∧w.grownBy w' (some d)∧∃vp,DcR w' d L s vp y∧(s.st=2→s.ws=ws0∧∃base R,w.heap.size≤base∧base≤w'.heap.size∧vp=some ⟨R,0,none⟩∧WkR w' base R L ws0)
set_option maxRecDepth 20000 in
theorem yeb {w:World} {d c:Nat} {L:zc} {s:Dc} {vp:Option Addr} {y:Value} (h:DcR w d L s vp y) (hc:c<256) (hL:LimsI L) (hst:s.st=1) (hns:s.ns=0) (hx:s.nx<18446744073709551616) (hn:s.nn<10) (hk:s.sn≤1000000000000000):
 Calls Tryz.prog 105 #[.pointer (some ⟨d,0,none⟩),.int .u8 (c:Int)] w (yea w d L (za6 L s c) y):=by
 have hP:=z1i h hc hns hx hn;have Hd:=hid (Row.lt h);have hs1:IntKind.i64.wrap ((s.sn:Int)+1)=((s.sn+1:Nat):Int):=by rw[IntKind.wrap_i64];omega
 obtain⟨⟨lf0,lf1⟩,-⟩:=hL;rcases zge s.nn c with hr | hr | hr
 · rw[hr] at hP;have HP:=hid hP;have HN:=hid (show za6 L s c=s.more c from by unfold za6;rw[hr];rfl);have Hst:=hid hst;clear hP h hst;go_enter Tryz.func105,Tryz.ntmps105;go_wp2_with fail;refine HP.out.mono ?_;rintro e w1 ⟨rfl,hg1,h1⟩;have Hg1:=hid hg1;have H1:=hid h1;clear hg1 h1;go_wp2_with fail;go_end0
   exact⟨rfl,Hg1.out,vp,by rw[HN.out];exact H1.out,fun e=>by rw[HN.out] at e;have:=e.symm.trans Hst.out;cases this⟩
 · rw[hr] at hP;have HP:=hid hP;obtain⟨x,hxx⟩:∃x,y8 s.nx s.nn c=x:=⟨_,rfl⟩;have hxl:x<18446744073709551616:=hxx ▸ zir s.nn c hx;obtain⟨m,hm⟩:=Int.eq_ofNat_of_zero_le (show 0≤max L.1 0 by omega);have hm1:m≤9223372036854775807:=by omega
   have hmw:IntKind.u64.wrap (m:Int)=(m:Int):=by rw[IntKind.wrap_u64];omega
   have hns1:({ s.more c with sn:=s.sn+1 }:Dc).ns=1:=hr;have Hns1:=hid hns1;have HN0:=hid (show za6 L s c=if max L.1 0<(x:Int) then ({ s.more c with sn:=s.sn+1 }:Dc).bad 7 s.frm else ({ s.more c with sn:=s.sn+1,st:=2,left:=x,ws:=ws0,pl:=[] }:Dc).next.void from by unfold za6;rw[hr,←hxx];rfl);have Hxx:=hid hxx;clear hP h hst hxx hns1 hr;go_enter Tryz.func105,Tryz.ntmps105;go_wp2_with fail;refine HP.out.mono ?_;rintro e w1 ⟨rfl,hg1,h1⟩;have k24:w1.cell? ⟨d,24,none⟩=some (.int .i64 (s.sn:Nat)):=Row.cell h1 24 rfl;have f24:=Row.fz h1 24;have H2:=hid (show DcR (w1.setCell ⟨d,24,none⟩ (.int .i64 ((s.sn+1:Nat):Int))) d L { s.more c with sn:=s.sn+1 } vp y from Row.set h1 24 _);have Hg2:=hid (zw hg1 (qh w1 d 24 (.int .i64 ((s.sn+1:Nat):Int))));clear hg1 h1;go_wp2_with fail;refine(z1j H2.out Hns1.out).mono ?_;rintro e w2 ⟨rfl,rfl⟩;have hv:(({ s.more c with sn:=s.sn+1 }:Dc).nx:Int)=(x:Int):=by rw[←Hxx.out];rfl
   rw[hv];generalize w1.setCell ⟨d,24,none⟩ (.int .i64 ((s.sn+1:Nat):Int))=w2 at*;have q0:=H2.out.cell 0 rfl;have q1:=H2.out.cell 1 rfl;have q2:=H2.out.cell 2 rfl;have q3:=H2.out.cell 3 rfl;have q4:=H2.out.cell 4 rfl;have q10:=H2.out.cell 10 rfl;clear k24 f24 hv;by_cases hlt:m<x
   · have hd:decide ((m:Int)<(x:Int))=true:=by rw[decide_eq_true_iff];omega
     have hd2:decide (m<x)=true:=decide_eq_true hlt;have HN:=hid (show za6 L s c=({ s.more c with sn:=s.sn+1 }:Dc).bad 7 s.frm from by rw[HN0.out,if_pos (by omega)]);have hq10:w2.cell? ⟨d,10,none⟩=some (.int .i64 (s.frm:Nat)):=q10;have HF:=hid (zh2 H2.out 7 s.frm);clear q10 hlt;go_wp2_with fail;refine HF.out.mono ?_;rintro e w3 ⟨rfl,hg3,h3⟩;have Hg3:=hid (zw Hg2.out hg3);have H3:=hid h3;clear hg3 h3 q0 q1 q2 q3 q4 hq10;go_wp2_with fail;go_end0
     exact⟨rfl,Hg3.out,vp,by rw[HN.out];exact H3.out,fun e=>by rw[HN.out] at e;cases e⟩
   · have hd:decide ((m:Int)<(x:Int))=false:=by rw[decide_eq_false_iff_not];omega
     have hd2:decide (m<x)=false:=decide_eq_false hlt;have hxw:IntKind.i64.wrap (x:Int)=(x:Int):=by rw[IntKind.wrap_i64];omega
     have HN:=hid (show za6 L s c=({ s.more c with sn:=s.sn+1,st:=2,left:=x,ws:=ws0,pl:=[] }:Dc).next.void from by rw[HN0.out,if_neg (by omega)]);have HB:=hid (fun W=>zo3 L W);unfold lmV at HB;clear q10 hlt;go_wp2_with fail;refine(HB.out _).mono ?_;rintro e w3 ⟨R,rfl,hR,hb3⟩;obtain⟨base,hbase⟩:∃base,w2.heap.size=base:=⟨_,rfl⟩;rw[hbase] at hR;have H3:=hid (Row.later H2.out hb3);have Hg3:=hid (vg Hg2.out hb3);have Hb:=hid (show w.heap.size≤base∧base≤w3.heap.size from⟨hbase ▸ Hg2.out.size,hbase ▸ hb3.size⟩);have HRd:=hid hR;clear hR hb3 q0 q1 q2 q3 q4 hbase;have k5:=H3.out.cell 5 rfl;have f5:=H3.out.fz 5;have r5:DcR (w3.setCell ⟨d,5,none⟩ (.int .i64 2)) d L { s.more c with sn:=s.sn+1,st:=2 } vp y:=Row.set H3.out 5 _;have k11:=Row.cell r5 11 rfl;have f11:=Row.fz r5 11;have r11:DcR ((w3.setCell ⟨d,5,none⟩ (.int .i64 2)).setCell ⟨d,11,none⟩ (.int .i64 (x:Nat))) d L { s.more c with sn:=s.sn+1,st:=2,left:=x } vp y:=Row.set r5 11 _;have k12:=Row.cell r11 12 rfl;have f12:=Row.fz r11 12;have r12:DcR (((w3.setCell ⟨d,5,none⟩ (.int .i64 2)).setCell ⟨d,11,none⟩ (.int .i64 (x:Nat))).setCell ⟨d,12,none⟩ (.pointer (some ⟨R,0,none⟩))) d L { s.more c with sn:=s.sn+1,st:=2,left:=x,ws:=ws0 } (some ⟨R,0,none⟩) y:=Row.set r11 12 _;have Hgk:=hid (zw (zw (qh w3 d 5 (.int .i64 2)) (qh _ d 11 (.int .i64 (x:Nat)))) (qh _ d 12 (.pointer (some ⟨R,0,none⟩))));have H12:=hid r12;clear r5 r11 r12;go_upto_region 9 with fail
     generalize (((w3.setCell ⟨d,5,none⟩ (.int .i64 2)).setCell ⟨d,11,none⟩ (.int .i64 (x:Nat))).setCell ⟨d,12,none⟩ (.pointer (some ⟨R,0,none⟩)))=w4 at*;have HK4:=hid (DcR.keep H3.out Hgk.out);have Hg4:=hid (zw Hg3.out Hgk.out);clear k5 f5 k11 f11 k12 f12;go_wp2_with fail;refine(yd9 H12.out).mono ?_;rintro e w5 ⟨rfl,hg5,h5⟩;have HK5:=hid (HK4.out.trans (DcR.keep H12.out hg5));have Hg5:=hid (zw Hg4.out hg5);have H5:=hid h5;clear hg5 h5;go_wp2_with fail;refine(zpd H5.out).mono ?_;rintro e w6 ⟨rfl,hg6,h6⟩;have HK6:=hid (HK5.out.trans (DcR.keep H5.out hg6));have Hg6:=hid (zw Hg5.out hg6);have H6:=hid h6;clear hg6 h6;go_wp2_with fail;refine(zkh H6.out).mono ?_;rintro e w7 ⟨rfl,hg7,h7⟩;have HK7:=hid (HK6.out.trans (DcR.keep H6.out hg7));have Hg7:=hid (zw Hg6.out hg7);have H7:=hid (show DcR w7 d L (za6 L s c) (some ⟨R,0,none⟩) y from by rw[HN.out];exact h7);have Hz:=hid (show w3.heap.size≤w7.heap.size from HK7.out.st.size);clear hg7 h7;go_wp2_with fail;go_end0
     refine⟨rfl,Hg7.out,_,H7.out,fun _=>⟨?_,base,R,Hb.out.1,Nat.le_trans Hb.out.2 Hz.out,rfl,HRd.out.keepR HK7.out⟩⟩;rw[HN.out];unfold Dc.void;split <;> rfl
 · rw[hr] at hP;have HP:=hid hP;have HN:=hid (show za6 L s c=(s.more c).bad 6 s.frm from by unfold za6;rw[hr];rfl);clear hP h hst;go_enter Tryz.func105,Tryz.ntmps105;go_wp2_with fail;refine HP.out.mono ?_;rintro e w1 ⟨rfl,hg1,h1⟩;have Hg1:=hid hg1;have HF:=hid (zh2 h1 6 s.frm);have k10:w1.cell? ⟨d,10,none⟩=some (.int .i64 (s.frm:Nat)):=Row.cell h1 10 rfl;clear hg1 h1;go_wp2_with fail;refine HF.out.mono ?_;rintro e w2 ⟨rfl,hg2,h2⟩;have Hg2:=hid (zw Hg1.out hg2);have H2:=hid h2;clear hg2 h2 k10;go_wp2_with fail;go_end0
   exact⟨rfl,Hg2.out,vp,by rw[HN.out];exact H2.out,fun e=>by rw[HN.out] at e;cases e⟩
end
section
open Go.RowKit
attribute [local go_sem] y9 Tryz.eqGuard_if
theorem yec {w:World} {d:Nat} {L:zc} {s:Dc} {vp:Option Addr} {y:Value} (h:DcR w d L s vp y) (hp:∀x∈s.pl,x<256) (a:Option Addr) (n cap:Nat) (l:List Nat) (hB:Byts w a n cap l):
 Calls Tryz.prog 171 #[.pointer (some ⟨d,13,none⟩),.slice a n cap] w (DcQ w d L { s with pl:=s.pl++l } vp y):=by
 refine(z0h d 13 (sum s.pl) a n cap l w hB (zgx hp) (Row.cell h 13 rfl) (Row.fz h 13)).mono ?_;rintro e w' ⟨rfl,rfl⟩;rw[ydq];exact⟨rfl,qh w d 13 _,Row.set h 13 _⟩
def yed (w:World) (base d R:Nat) (L:zc) (s:Dc) (y:Value) (e:Ending) (w':World):Prop:=
 e=.returned (.tuple #[])∧(Lo base d w w'∧∀F,Ty F d w w')∧DcR w' d L s (some ⟨R,0,none⟩) y∧(s.st=2∨s.st=3→WkR w' base R L s.ws)
theorem Door.lo {w w':World} {B d:Nat} (h:Door w) (hl:Lo B d w w') (hB:0<B) (hd:0≠d):Door w':=by
 unfold Door at h ⊢;rw[World.cell?_of_block (w:=w) (hl.block 0 hB hd)];exact h
structure Stp (w wk:World) (base d:Nat) (L:zc) (s:Dc) (vp:Option Addr) (y:Value) (w':World):Prop where
 row:DcR w' d L s vp y
 keep:KeepR wk w'
 lo:Lo base d w w'
 sz:base≤w'.heap.size
 ty:∀F,Ty F d w w'
theorem Stp.start {w:World} {base d:Nat} {L:zc} {s:Dc} {vp:Option Addr} {y:Value} (h:DcR w d L s vp y) (hb:base≤w.heap.size):Stp w w base d L s vp y w:=⟨h,.refl _,.refl _ _ _,hb,fun F=>.refl _ _ _⟩
theorem Stp.move {w wk w1 w':World} {base d:Nat} {L:zc} {s s':Dc} {vp:Option Addr} {y:Value} (h:Stp w wk base d L s vp y w1) (hg:w1.grownBy w' (some d)) (hr:DcR w' d L s' vp y):Stp w wk base d L s' vp y w':=
 ⟨hr,h.keep.trans (DcR.keep h.row hg),h.lo.trans (Lo.of_grown hg h.sz),Nat.le_trans h.sz hg.size,fun F=>(h.ty F).trans (.of_grown hg)⟩
theorem Stp.cell {w wk w1:World} {base d i:Nat} {v:Value} {L:zc} {s s':Dc} {vp:Option Addr} {y:Value} (h:Stp w wk base d L s vp y w1) (hr:DcR (w1.setCell ⟨d,i,none⟩ v) d L s' vp y):Stp w wk base d L s' vp y (w1.setCell ⟨d,i,none⟩ v):=h.move (qh w1 d i v) hr
theorem Stp.later {w wk w1 w':World} {base d:Nat} {L:zc} {s:Dc} {vp:Option Addr} {y:Value} (h:Stp w wk base d L s vp y w1) (hb:Below w1.heap.size w1 w'):Stp w wk base d L s vp y w':=
 ⟨Row.later h.row hb,h.keep.trans (.of_below hb),h.lo.trans (Lo.of_below hb h.sz),Nat.le_trans h.sz hb.size,fun F=>(h.ty F).trans (.of_below hb)⟩
theorem Stp.read {w wk w1 w':World} {base d:Nat} {L:zc} {s:Dc} {vp:Option Addr} {y:Value} (h:Stp w wk base d L s vp y w1) (hb:BelT base w1 w') (hd:d<base):Stp w w' base d L s vp y w':=
 ⟨Row.below h.row hb.bel hd,.refl _,h.lo.trans (Lo.of_below hb.bel (Nat.le_refl _)),Nat.le_trans h.sz hb.size,fun F=>(h.ty F).trans (.of_belt hb)⟩
set_option maxRecDepth 20000 in
theorem yee {w:World} {d c base R:Nat} {L:zc} {s:Dc} {y:Value} (h:DcR w d L s (some ⟨R,0,none⟩) y) (hR:WkR w base R L s.ws) (hdb:d<base) (hbw:base≤w.heap.size) (hc:c<256) (hD:Door w) (hDb:0<base) (hDd:0≠d)
 (hst:s.st=2) (hns:s.ns=0) (hx:s.nx<18446744073709551616) (hn:s.nn<10) (hl:1≤s.left) (hll:s.left≤9223372036854775807) (hk:s.sn≤1000000000000000) (hp:∀x∈s.pl,x<256)
 (ho:yr s.nn c=1→StepOk L s.ws (s.tk+(s.left - 1)) (y8 s.nx s.nn c) s.frm s.tk) (htg:∀s',jd (s.tk+(s.left - 1)) L s.ws (y8 s.nx s.nn c) s.frm s.tk=.ok s'→s'.tag≤4):
 Calls Tryz.prog 106 #[.pointer (some ⟨d,0,none⟩),.int .u8 (c:Int)] w (yed w base d R L (zbf L s c) y):=by
 have hal:=(Below.refl w.heap.size w).alloc (Nat.le_refl _) (.cells #[.int .u8 (c:Int)] 5);have hS0:=(Stp.start h hbw).later hal;have HC:=hid (yec hS0.row hp (some ⟨w.heap.size,0,none⟩) 1 1 [c] (zcn w w.heap.size 1 _ [c] _ _ rfl rfl rfl (by intro x hx;simp at hx;omega) (by omega)));have HS0:=hid hS0;have hl1:IntKind.i64.wrap ((s.left:Int) - 1)=((s.left - 1:Nat):Int):=by rw[IntKind.wrap_i64];omega
 have hs1:IntKind.i64.wrap ((s.sn:Int)+1)=((s.sn+1:Nat):Int):=by rw[IntKind.wrap_i64];omega
 have HRk:=hid (fun W (hk:KeepR w W)=>hR.keepR hk);have HDw:=hid (fun W (hlo:Lo base d w W)=>hD.lo hlo hDb hDd);have Hst:=hid hst;have HP2:=hid (fun W (hr:DcR W d L (s.took c) (some ⟨R,0,none⟩) y)=>z1i hr hc hns hx hn);have Hds:=hid (show d<base∧1≤s.left from⟨hdb,hl⟩);rcases zge s.nn c with hr | hr | hr
 · have HN:=hid (show zbf L s c=((s.took c).more c).void from by unfold zbf;rw[hr];rfl);have Hr:=hid (show yr (s.took c).nn c=0 from hr);clear h hR hdb hbw hD hst hS0 ho htg hl hr;go_enter Tryz.func106,Tryz.ntmps106;go_wp2_with fail;refine HC.out.mono ?_;rintro e w1 ⟨rfl,hg1,h1⟩;have HS1:=hid (HS0.out.move hg1 h1);have k11:w1.cell? ⟨d,11,none⟩=some (.int .i64 (s.left:Nat)):=Row.cell h1 11 rfl;have f11:=Row.fz h1 11;have HS2:=hid (HS1.out.cell (i:=11) (v:=.int .i64 ((s.left - 1:Nat):Int)) (s':=s.took c) (Row.set h1 11 _));clear hg1 h1;go_wp2_with fail;refine(HP2.out _ HS2.out.row).mono ?_;rw[Hr.out];rintro e w3 ⟨rfl,hg3,h3⟩;have HS3:=hid (HS2.out.move hg3 h3);have HE:=hid (zkh h3);clear hg3 h3 k11 f11;go_wp2_with fail;refine HE.out.mono ?_;rintro e w4 ⟨rfl,hg4,h4⟩;rw[if_pos (show ((s.took c).more c).st=2 from Hst.out)] at h4;have HS4:=hid (HS3.out.move hg4 h4);clear hg4 h4;go_wp2_with fail;go_end0
   refine⟨rfl,⟨HS4.out.lo,HS4.out.ty⟩,by rw[HN.out];exact HS4.out.row,fun _=>?_⟩;have:=HRk.out _ HS4.out.keep;rw[HN.out];unfold Dc.void;split <;> exact this
 · obtain⟨x,hxx⟩:∃x,y8 s.nx s.nn c=x:=⟨_,rfl⟩;rw[hxx] at ho htg;have HN:=hid (show zbf L s c=(s.took c).put (jd (s.tk+(s.left - 1)) L s.ws x s.frm s.tk) from by unfold zbf;rw[hr,←hxx];rfl);have Hr:=hid (show yr (s.took c).nn c=1 from hr);have hPut:=fun W (h1:Lo base d w W) (h2:WkR W base R L s.ws)=>zo4 base R L s.ws (s.tk+(s.left - 1)) x s.frm s.tk W W (BelT.refl _ _) h2 (HDw.out W h1) hDb (ho hr) htg
   rw[Nat.add_sub_cancel_left] at hPut;have HPut:=hid hPut;have Hxx:=hid hxx;obtain⟨res,hres⟩:∃res,jd (s.tk+(s.left - 1)) L s.ws x s.frm s.tk=res:=⟨_,rfl⟩;rw[hres] at HN HPut;have Hrs:=hid hres;clear h hR hdb hbw hD hst hS0 ho htg hl hr hPut hxx hres;go_enter Tryz.func106,Tryz.ntmps106;go_wp2_with fail;refine HC.out.mono ?_;rintro e w1 ⟨rfl,hg1,h1⟩;have HS1:=hid (HS0.out.move hg1 h1);have k11:w1.cell? ⟨d,11,none⟩=some (.int .i64 (s.left:Nat)):=Row.cell h1 11 rfl;have f11:=Row.fz h1 11;have HS2:=hid (HS1.out.cell (i:=11) (v:=.int .i64 ((s.left - 1:Nat):Int)) (s':=s.took c) (Row.set h1 11 _));clear hg1 h1;go_wp2_with fail;refine(HP2.out _ HS2.out.row).mono ?_;rw[Hr.out];rintro e w3 ⟨rfl,hg3,h3⟩;have HS3:=hid (HS2.out.move hg3 h3);have k24:w3.cell? ⟨d,24,none⟩=some (.int .i64 (s.sn:Nat)):=Row.cell h3 24 rfl;have f24:=Row.fz h3 24;have HS4:=hid (HS3.out.cell (i:=24) (v:=.int .i64 ((s.sn+1:Nat):Int)) (s':={ (s.took c).more c with sn:=s.sn+1 }) (Row.set h3 24 _));clear hg3 h3 k11 f11;go_upto_region 7 with fail
   rw[show (s.sn:Int)+1=((s.sn+1:Nat):Int) from rfl];generalize w3.setCell ⟨d,24,none⟩ (.int .i64 ((s.sn+1:Nat):Int))=w4 at*;clear k24 f24;have hv:(({ (s.took c).more c with sn:=s.sn+1 }:Dc).nx:Int)=(x:Int):=by rw[←Hxx.out];rfl
   obtain⟨s4,hs4⟩:∃s4:Dc,{ (s.took c).more c with sn:=s.sn+1 }=s4:=⟨_,rfl⟩;rw[hs4] at HS4 hv;have HV:=hid (fun W (hr:DcR W d L s4 (some ⟨R,0,none⟩) y)=>z1j hr (by rw[←hs4];exact Hr.out));rw[hv] at HV;have HSd:=hid (HS4.out.later (Below.refl w4.heap.size w4).drew);have hS4:=HS4.out.row;have hSd:=HSd.out.row;have q12:∀W,DcR W d L s4 (some ⟨R,0,none⟩) y→W.cell? ⟨d,12,none⟩=some (.pointer (some ⟨R,0,none⟩)):=fun W h=>Row.cell h 12 rfl
   have q10:∀W,DcR W d L s4 (some ⟨R,0,none⟩) y→W.cell? ⟨d,10,none⟩=some (.int .i64 (s.frm:Nat)):=fun W h=>by rw[←hs4] at h;exact Row.cell h 10 rfl
   have q11:∀W,DcR W d L s4 (some ⟨R,0,none⟩) y→W.cell? ⟨d,11,none⟩=some (.int .i64 ((s.left - 1:Nat):Int)):=fun W h=>by rw[←hs4] at h;exact Row.cell h 11 rfl
   have Hs4:=hid hs4;clear hv hs4
   cases res with
   | error z=>
    have HN2:=hid (show zbf L s c=s4.next.bad z.1 z.2 from by rw[HN.out,←Hs4.out];rfl);have HC:=hid (fun W (h:Lo base d w W)=>zcy (some (((z.1:Nat):Int),some ((z.2:Nat):Int))) W (HDw.out W h));have HA:=hid (fun W (h:Lo base d w W)=>zjw (some (((z.1:Nat):Int),some ((z.2:Nat):Int))) W (HDw.out W h));simp only[zy,je,j9] at HC HA
    go_region_held3 (fun W=>DcR W d L s4 (some ⟨R,0,none⟩) y) (first | assumption) (first
     | (go_at_call 168
        refine(HV.out _ hSd).mono ?_
        rintro e w5 ⟨rfl,rfl⟩)
     | (go_at_call 42
        refine(HPut.out w4.drew HSd.out.lo (HRk.out _ HSd.out.keep)).mono ?_;rintro e w6 ⟨hb6,rfl,C,hC,hc9⟩;have HS6:=hid (HSd.out.read hb6 Hds.out.1);have hS6:=HS6.out.row;unfold zaq;clear hb6 hC hc9))
    clear q10 q11 q12 hS4 hSd hS6;go_wp2_with fail;refine(zpd HS6.out.row).mono ?_;rintro e w7 ⟨rfl,hg7,h7⟩;have HS7:=hid (HS6.out.move hg7 h7);clear hg7 h7;go_wp2_with fail;refine(HC.out _ HS7.out.lo).mono ?_;rintro e w8 ⟨rfl,hb8⟩;have HS8:=hid (HS7.out.later hb8);clear hb8;go_wp2_with fail;refine(HA.out _ HS8.out.lo).mono ?_;rintro e w9 ⟨rfl,hb9⟩;have HS9:=hid (HS8.out.later hb9);clear hb9;go_wp2_with fail;refine(zh2 HS9.out.row z.1 z.2).mono ?_;rintro e w10 ⟨rfl,hg10,h10⟩;have HS10:=hid (HS9.out.move hg10 h10);clear hg10 h10;go_wp2_with fail;refine(zkh HS10.out.row).mono ?_;rintro e w11 ⟨rfl,hg11,h11⟩;rw[if_neg (by show ¬4=2;decide)] at h11;have HS11:=hid (HS10.out.move hg11 h11);clear hg11 h11;go_wp2_with fail;go_end0
    refine⟨rfl,⟨HS11.out.lo,HS11.out.ty⟩,by rw[HN2.out];exact HS11.out.row,fun e=>?_⟩;rw[HN2.out] at e
    rcases e with e | e <;> cases e
   | ok z=>
    go_region_held3 (fun W=>DcR W d L s4 (some ⟨R,0,none⟩) y) (first | assumption) (first
     | (go_at_call 168
        refine(HV.out _ hSd).mono ?_
        rintro e w5 ⟨rfl,rfl⟩)
     | (go_at_call 42
        refine(HPut.out w4.drew HSd.out.lo (HRk.out _ HSd.out.keep)).mono ?_;rintro e w6 ⟨hb6,rfl,hr6⟩;have HS6:=hid (HSd.out.read hb6 Hds.out.1);have hS6:=HS6.out.row;have Hr6:=hid hr6;clear hb6 hr6))
    clear q10 q11 q12 hS4 hSd hS6;have HN2:=hid (show zbf L s c=if z.tag=4 then { ({ s4 with ws:=z }:Dc).next with st:=3,hv:=0 } else ({ s4 with ws:=z }:Dc).next.void from by rw[HN.out,←Hs4.out];rfl);have H6:=hid (show DcR w6 d L { s4 with ws:=z } (some ⟨R,0,none⟩) y from HS6.out.row);have HT6:=hid (show Stp w w6 base d L { s4 with ws:=z } (some ⟨R,0,none⟩) y w6 from⟨H6.out,HS6.out.keep,HS6.out.lo,HS6.out.sz,HS6.out.ty⟩);go_wp2_with fail;refine(zpd H6.out).mono ?_;rintro e w7 ⟨rfl,hg7,h7⟩;have HS7:=hid (HT6.out.move hg7 h7);clear hg7 h7;by_cases h4:z.tag=4
    · have hd:decide (z.tag=4)=true:=decide_eq_true h4;have HN3:=hid (show zbf L s c={ ({ s4 with ws:=z }:Dc).next with st:=3,hv:=0 } from by rw[HN2.out,if_pos h4]);have k5:=Row.cell HS7.out.row 5 rfl;have f5:=Row.fz HS7.out.row 5;have HS8:=hid (HS7.out.cell (i:=5) (v:=.int .i64 3) (s':={ ({ s4 with ws:=z }:Dc).next with st:=3 }) (Row.set HS7.out.row 5 _));have k18:=Row.cell HS8.out.row 18 rfl;have f18:=Row.fz HS8.out.row 18;have HS9:=hid (HS8.out.cell (i:=18) (v:=.int .i64 0) (s':={ ({ s4 with ws:=z }:Dc).next with st:=3,hv:=0 }) (Row.set HS8.out.row 18 _));clear h4;go_wp2_with fail;refine(zkh HS9.out.row).mono ?_;rintro e w11 ⟨rfl,hg11,h11⟩;rw[if_neg (by show ¬3=2;decide)] at h11;have HS11:=hid (HS9.out.move hg11 h11);clear hg11 h11 k5 f5 k18 f18;go_wp2_with fail;go_end0
      refine⟨rfl,⟨HS11.out.lo,HS11.out.ty⟩,by rw[HN3.out];exact HS11.out.row,fun _=>?_⟩;rw[HN3.out];exact Hr6.out.keepR HS11.out.keep
    · have hd:decide (z.tag=4)=false:=decide_eq_false h4;have HN3:=hid (show zbf L s c=({ s4 with ws:=z }:Dc).next.void from by rw[HN2.out,if_neg h4]);have hst4:({ s4 with ws:=z }:Dc).next.st=2:=by rw[←Hs4.out];exact Hst.out
      have Hst4:=hid hst4;clear h4 hst4;go_wp2_with fail;refine(zkh HS7.out.row).mono ?_;rintro e w11 ⟨rfl,hg11,h11⟩;rw[if_pos Hst4.out] at h11;have HS11:=hid (HS7.out.move hg11 h11);clear hg11 h11;go_wp2_with fail;go_end0
      refine⟨rfl,⟨HS11.out.lo,HS11.out.ty⟩,by rw[HN3.out];exact HS11.out.row,fun _=>?_⟩;rw[HN3.out];have:=Hr6.out.keepR HS11.out.keep;unfold Dc.void;split <;> exact this
 · have HN:=hid (show zbf L s c=((s.took c).more c).bad 6 s.frm from by unfold zbf;rw[hr];rfl);have Hr:=hid (show yr (s.took c).nn c=2 from hr);clear h hR hdb hbw hD hst hS0 ho htg hl hr;go_enter Tryz.func106,Tryz.ntmps106;go_wp2_with fail;refine HC.out.mono ?_;rintro e w1 ⟨rfl,hg1,h1⟩;have HS1:=hid (HS0.out.move hg1 h1);have k11:w1.cell? ⟨d,11,none⟩=some (.int .i64 (s.left:Nat)):=Row.cell h1 11 rfl;have f11:=Row.fz h1 11;have HS2:=hid (HS1.out.cell (i:=11) (v:=.int .i64 ((s.left - 1:Nat):Int)) (s':=s.took c) (Row.set h1 11 _));clear hg1 h1;go_wp2_with fail;refine(HP2.out _ HS2.out.row).mono ?_;rw[Hr.out];rintro e w3 ⟨rfl,hg3,h3⟩;have HS3:=hid (HS2.out.move hg3 h3);have k10:w3.cell? ⟨d,10,none⟩=some (.int .i64 (s.frm:Nat)):=Row.cell h3 10 rfl;clear hg3 h3 k11 f11;go_wp2_with fail;refine(zh2 HS3.out.row 6 s.frm).mono ?_;rintro e w4 ⟨rfl,hg4,h4⟩;have HS4:=hid (HS3.out.move hg4 h4);clear hg4 h4 k10;go_wp2_with fail;refine(zkh HS4.out.row).mono ?_;rintro e w5 ⟨rfl,hg5,h5⟩;rw[if_neg (by show ¬4=2;decide)] at h5;have HS5:=hid (HS4.out.move hg5 h5);clear hg5 h5;go_wp2_with fail;go_end0
   refine⟨rfl,⟨HS5.out.lo,HS5.out.ty⟩,by rw[HN.out];exact HS5.out.row,fun e=>?_⟩;rw[HN.out] at e;rcases e with e | e <;> cases e
end
