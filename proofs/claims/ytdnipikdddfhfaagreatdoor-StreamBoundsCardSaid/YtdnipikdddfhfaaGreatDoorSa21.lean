/- Part 21. -/
import Derived.Laws.BytesArg
import Derived.Test.YtdnipikdddfhfaaGreatDoorSa20
set_option linter.unusedVariables false
set_option maxHeartbeats 16000000
namespace Go.Proofs.YtdnipikdddfhfaaGreatDoor
open Lib (hid)
section
open Go.RowKit
attribute [local go_sem] yq Tryz.eqGuard_if
theorem zwr {w:World} {d:Nat} {L:za} {s:Dc} {vp:Option Addr} {y:Value} (h:DcR w d L s vp y) (hp:∀x∈s.pl,x<256) (a:Option Addr) (n cap:Nat) (l:List Nat) (hB:Byts w a n cap l):
 Calls Tryz.prog 159 #[.pointer (some ⟨d,13,none⟩),.slice a n cap] w (DcQ w d L { s with pl:=s.pl++l } vp y):=by
 refine(zjc d 13 (sum s.pl) a n cap l w hB (zge hp) (Row.cell h 13 rfl) (Row.fz h 13)).mono ?_;rintro e w' ⟨rfl,rfl⟩;rw[zpw];exact⟨rfl,zm w d 13 _,Row.set h 13 _⟩
def zws (w:World) (base d R:Nat) (L:za) (s:Dc) (y:Value) (e:Ending) (w':World):Prop:=
 e=.returned (.tuple #[])∧Lo base d w w'∧DcR w' d L s (some ⟨R,0,none⟩) y∧(s.st=2∨s.st=3→WkR w' base R L s.ws)
theorem Door.lo {w w':World} {B d:Nat} (h:Door w) (hl:Lo B d w w') (hB:0<B) (hd:0≠d):Door w':=by
 unfold Door at h ⊢;rw[World.cell?_of_block (w:=w) (hl.block 0 hB hd)];exact h
structure Stp (w wk:World) (base d:Nat) (L:za) (s:Dc) (vp:Option Addr) (y:Value) (w':World):Prop where
 row:DcR w' d L s vp y
 keep:KeepR wk w'
 lo:Lo base d w w'
 sz:base≤w'.heap.size
theorem Stp.start {w:World} {base d:Nat} {L:za} {s:Dc} {vp:Option Addr} {y:Value} (h:DcR w d L s vp y) (hb:base≤w.heap.size):Stp w w base d L s vp y w:=⟨h,.refl _,.refl _ _ _,hb⟩
theorem Stp.move {w wk w1 w':World} {base d:Nat} {L:za} {s s':Dc} {vp:Option Addr} {y:Value} (h:Stp w wk base d L s vp y w1) (hg:w1.grownBy w' (some d)) (hr:DcR w' d L s' vp y):Stp w wk base d L s' vp y w':=
 ⟨hr,h.keep.trans (DcR.keep h.row hg),h.lo.trans (Lo.of_grown hg h.sz),Nat.le_trans h.sz hg.size⟩
theorem Stp.cell {w wk w1:World} {base d i:Nat} {v:Value} {L:za} {s s':Dc} {vp:Option Addr} {y:Value} (h:Stp w wk base d L s vp y w1) (hr:DcR (w1.setCell ⟨d,i,none⟩ v) d L s' vp y):Stp w wk base d L s' vp y (w1.setCell ⟨d,i,none⟩ v):=h.move (zm w1 d i v) hr
theorem Stp.later {w wk w1 w':World} {base d:Nat} {L:za} {s:Dc} {vp:Option Addr} {y:Value} (h:Stp w wk base d L s vp y w1) (hb:Below w1.heap.size w1 w'):Stp w wk base d L s vp y w':=
 ⟨Row.later h.row hb,h.keep.trans (.of_below hb),h.lo.trans (Lo.of_below hb h.sz),Nat.le_trans h.sz hb.size⟩
theorem Stp.read {w wk w1 w':World} {base d:Nat} {L:za} {s:Dc} {vp:Option Addr} {y:Value} (h:Stp w wk base d L s vp y w1) (hb:Below base w1 w') (hd:d<base):Stp w w' base d L s vp y w':=
 ⟨Row.below h.row hb hd,.refl _,h.lo.trans (Lo.of_below hb (Nat.le_refl _)),Nat.le_trans h.sz hb.size⟩
set_option maxRecDepth 20000 in
theorem zwt {w:World} {d c base R:Nat} {L:za} {s:Dc} {y:Value} (h:DcR w d L s (some ⟨R,0,none⟩) y) (hR:WkR w base R L s.ws) (hdb:d<base) (hbw:base≤w.heap.size) (hc:c<256) (hD:Door w) (hDb:0<base) (hDd:0≠d)
 (hst:s.st=2) (hns:s.ns=0) (hx:s.nx<18446744073709551616) (hn:s.nn<10) (hl:1≤s.left) (hll:s.left≤9223372036854775807) (hk:s.sn≤1000000000000000) (hp:∀x∈s.pl,x<256)
 (ho:zn s.nn c=1→StepOk L s.ws (s.tk+(s.left - 1)) (z7 s.nx s.nn c) s.frm s.tk) (htg:∀s',ye (s.tk+(s.left - 1)) L s.ws (z7 s.nx s.nn c) s.frm s.tk=.ok s'→s'.tag≤4):
 Calls Tryz.prog 117 #[.pointer (some ⟨d,0,none⟩),.int .u8 (c:Int)] w (zws w base d R L (jy L s c) y):=by
 have hal:=(Below.refl w.heap.size w).alloc (Nat.le_refl _) (.cells #[.int .u8 (c:Int)] 5);have hS0:=(Stp.start h hbw).later hal;have HC:=hid (zwr hS0.row hp (some ⟨w.heap.size,0,none⟩) 1 1 [c] (za4 w w.heap.size 1 _ [c] _ _ rfl rfl rfl (by intro x hx;simp at hx;omega) (by omega)));have HS0:=hid hS0;have hl1:IntKind.i64.wrap ((s.left:Int) - 1)=((s.left - 1:Nat):Int):=by rw[IntKind.wrap_i64];omega
 have hs1:IntKind.i64.wrap ((s.sn:Int)+1)=((s.sn+1:Nat):Int):=by rw[IntKind.wrap_i64];omega
 have HRk:=hid (fun W (hk:KeepR w W)=>hR.keepR hk);have HDw:=hid (fun W (hlo:Lo base d w W)=>hD.lo hlo hDb hDd);have Hst:=hid hst;have HP2:=hid (fun W (hr:DcR W d L (s.took c) (some ⟨R,0,none⟩) y)=>zn6 hr hc hns hx hn);have Hds:=hid (show d<base∧1≤s.left from⟨hdb,hl⟩);rcases zcx s.nn c with hr | hr | hr
 · have HN:=hid (show jy L s c=((s.took c).more c).void from by unfold jy;rw[hr];rfl);have Hr:=hid (show zn (s.took c).nn c=0 from hr);clear h hR hdb hbw hD hst hS0 ho htg hl hr;go_enter Tryz.func117,Tryz.ntmps117;go_wp2_with fail;refine HC.out.mono ?_;rintro e w1 ⟨rfl,hg1,h1⟩;have HS1:=hid (HS0.out.move hg1 h1);have k11:w1.cell? ⟨d,11,none⟩=some (.int .i64 (s.left:Nat)):=Row.cell h1 11 rfl;have f11:=Row.fz h1 11;have HS2:=hid (HS1.out.cell (i:=11) (v:=.int .i64 ((s.left - 1:Nat):Int)) (s':=s.took c) (Row.set h1 11 _));clear hg1 h1;go_wp2_with fail;refine(HP2.out _ HS2.out.row).mono ?_;rw[Hr.out];rintro e w3 ⟨rfl,hg3,h3⟩;have HS3:=hid (HS2.out.move hg3 h3);have HE:=hid (zdf h3);clear hg3 h3 k11 f11;go_wp2_with fail;refine HE.out.mono ?_;rintro e w4 ⟨rfl,hg4,h4⟩;rw[if_pos (show ((s.took c).more c).st=2 from Hst.out)] at h4;have HS4:=hid (HS3.out.move hg4 h4);clear hg4 h4;go_wp2_with fail;go_end0
   refine⟨rfl,HS4.out.lo,by rw[HN.out];exact HS4.out.row,fun _=>?_⟩;have:=HRk.out _ HS4.out.keep;rw[HN.out];unfold Dc.void;split <;> exact this
 · obtain⟨x,hxx⟩:∃x,z7 s.nx s.nn c=x:=⟨_,rfl⟩;rw[hxx] at ho htg;have HN:=hid (show jy L s c=(s.took c).put (ye (s.tk+(s.left - 1)) L s.ws x s.frm s.tk) from by unfold jy;rw[hr,←hxx];rfl);have Hr:=hid (show zn (s.took c).nn c=1 from hr);have hPut:=fun W (h1:Lo base d w W) (h2:WkR W base R L s.ws)=>zwi base R L s.ws (s.tk+(s.left - 1)) x s.frm s.tk W W (Below.refl _ _) h2 (HDw.out W h1) hDb (ho hr) htg
   rw[Nat.add_sub_cancel_left] at hPut;have HPut:=hid hPut;have Hxx:=hid hxx;obtain⟨res,hres⟩:∃res,ye (s.tk+(s.left - 1)) L s.ws x s.frm s.tk=res:=⟨_,rfl⟩;rw[hres] at HN HPut;have Hrs:=hid hres;clear h hR hdb hbw hD hst hS0 ho htg hl hr hPut hxx hres;go_enter Tryz.func117,Tryz.ntmps117;go_wp2_with fail;refine HC.out.mono ?_;rintro e w1 ⟨rfl,hg1,h1⟩;have HS1:=hid (HS0.out.move hg1 h1);have k11:w1.cell? ⟨d,11,none⟩=some (.int .i64 (s.left:Nat)):=Row.cell h1 11 rfl;have f11:=Row.fz h1 11;have HS2:=hid (HS1.out.cell (i:=11) (v:=.int .i64 ((s.left - 1:Nat):Int)) (s':=s.took c) (Row.set h1 11 _));clear hg1 h1;go_wp2_with fail;refine(HP2.out _ HS2.out.row).mono ?_;rw[Hr.out];rintro e w3 ⟨rfl,hg3,h3⟩;have HS3:=hid (HS2.out.move hg3 h3);have k24:w3.cell? ⟨d,24,none⟩=some (.int .i64 (s.sn:Nat)):=Row.cell h3 24 rfl;have f24:=Row.fz h3 24;have HS4:=hid (HS3.out.cell (i:=24) (v:=.int .i64 ((s.sn+1:Nat):Int)) (s':={ (s.took c).more c with sn:=s.sn+1 }) (Row.set h3 24 _));clear hg3 h3 k11 f11;go_upto_region 7 with fail
   rw[show (s.sn:Int)+1=((s.sn+1:Nat):Int) from rfl];generalize w3.setCell ⟨d,24,none⟩ (.int .i64 ((s.sn+1:Nat):Int))=w4 at*;clear k24 f24;have hv:(({ (s.took c).more c with sn:=s.sn+1 }:Dc).nx:Int)=(x:Int):=by rw[←Hxx.out];rfl
   obtain⟨s4,hs4⟩:∃s4:Dc,{ (s.took c).more c with sn:=s.sn+1 }=s4:=⟨_,rfl⟩;rw[hs4] at HS4 hv;have HV:=hid (fun W (hr:DcR W d L s4 (some ⟨R,0,none⟩) y)=>zn7 hr (by rw[←hs4];exact Hr.out));rw[hv] at HV;have HSd:=hid (HS4.out.later (Below.refl w4.heap.size w4).drew);have hS4:=HS4.out.row;have hSd:=HSd.out.row;have q12:∀W,DcR W d L s4 (some ⟨R,0,none⟩) y→W.cell? ⟨d,12,none⟩=some (.pointer (some ⟨R,0,none⟩)):=fun W h=>Row.cell h 12 rfl
   have q10:∀W,DcR W d L s4 (some ⟨R,0,none⟩) y→W.cell? ⟨d,10,none⟩=some (.int .i64 (s.frm:Nat)):=fun W h=>by rw[←hs4] at h;exact Row.cell h 10 rfl
   have q11:∀W,DcR W d L s4 (some ⟨R,0,none⟩) y→W.cell? ⟨d,11,none⟩=some (.int .i64 ((s.left - 1:Nat):Int)):=fun W h=>by rw[←hs4] at h;exact Row.cell h 11 rfl
   have Hs4:=hid hs4;clear hv hs4
   cases res with
   | error z=>
    have HN2:=hid (show jy L s c=s4.next.bad z.1 z.2 from by rw[HN.out,←Hs4.out];rfl);have HC:=hid (fun W (h:Lo base d w W)=>zcg (some (((z.1:Nat):Int),some ((z.2:Nat):Int))) W (HDw.out W h));have HA:=hid (fun W (h:Lo base d w W)=>zqt (some (((z.1:Nat):Int),some ((z.2:Nat):Int))) W (HDw.out W h));simp only[yh,zat,zds] at HC HA
    go_region_held3 (fun W=>DcR W d L s4 (some ⟨R,0,none⟩) y) (first | assumption) (first
     | (go_at_call 92
        refine(HV.out _ hSd).mono ?_
        rintro e w5 ⟨rfl,rfl⟩)
     | (go_at_call 27
        refine(HPut.out w4.drew HSd.out.lo (HRk.out _ HSd.out.keep)).mono ?_;rintro e w6 ⟨hb6,rfl,C,hC,hc9⟩;have HS6:=hid (HSd.out.read hb6 Hds.out.1);have hS6:=HS6.out.row;unfold zap;clear hb6 hC hc9))
    clear q10 q11 q12 hS4 hSd hS6;go_wp2_with fail;refine(zfy HS6.out.row).mono ?_;rintro e w7 ⟨rfl,hg7,h7⟩;have HS7:=hid (HS6.out.move hg7 h7);clear hg7 h7;go_wp2_with fail;refine(HC.out _ HS7.out.lo).mono ?_;rintro e w8 ⟨rfl,hb8⟩;have HS8:=hid (HS7.out.later hb8);clear hb8;go_wp2_with fail;refine(HA.out _ HS8.out.lo).mono ?_;rintro e w9 ⟨rfl,hb9⟩;have HS9:=hid (HS8.out.later hb9);clear hb9;go_wp2_with fail;refine(zb9 HS9.out.row z.1 z.2).mono ?_;rintro e w10 ⟨rfl,hg10,h10⟩;have HS10:=hid (HS9.out.move hg10 h10);clear hg10 h10;go_wp2_with fail;refine(zdf HS10.out.row).mono ?_;rintro e w11 ⟨rfl,hg11,h11⟩;rw[if_neg (by show ¬4=2;decide)] at h11;have HS11:=hid (HS10.out.move hg11 h11);clear hg11 h11;go_wp2_with fail;go_end0
    refine⟨rfl,HS11.out.lo,by rw[HN2.out];exact HS11.out.row,fun e=>?_⟩;rw[HN2.out] at e
    rcases e with e | e <;> cases e
   | ok z=>
    go_region_held3 (fun W=>DcR W d L s4 (some ⟨R,0,none⟩) y) (first | assumption) (first
     | (go_at_call 92
        refine(HV.out _ hSd).mono ?_
        rintro e w5 ⟨rfl,rfl⟩)
     | (go_at_call 27
        refine(HPut.out w4.drew HSd.out.lo (HRk.out _ HSd.out.keep)).mono ?_;rintro e w6 ⟨hb6,rfl,hr6⟩;have HS6:=hid (HSd.out.read hb6 Hds.out.1);have hS6:=HS6.out.row;have Hr6:=hid hr6;clear hb6 hr6))
    clear q10 q11 q12 hS4 hSd hS6;have HN2:=hid (show jy L s c=if z.tag=4 then { ({ s4 with ws:=z }:Dc).next with st:=3,hv:=0 } else ({ s4 with ws:=z }:Dc).next.void from by rw[HN.out,←Hs4.out];rfl);have H6:=hid (show DcR w6 d L { s4 with ws:=z } (some ⟨R,0,none⟩) y from HS6.out.row);have HT6:=hid (show Stp w w6 base d L { s4 with ws:=z } (some ⟨R,0,none⟩) y w6 from⟨H6.out,HS6.out.keep,HS6.out.lo,HS6.out.sz⟩);go_wp2_with fail;refine(zfy H6.out).mono ?_;rintro e w7 ⟨rfl,hg7,h7⟩;have HS7:=hid (HT6.out.move hg7 h7);clear hg7 h7;by_cases h4:z.tag=4
    · have hd:decide (z.tag=4)=true:=decide_eq_true h4;have HN3:=hid (show jy L s c={ ({ s4 with ws:=z }:Dc).next with st:=3,hv:=0 } from by rw[HN2.out,if_pos h4]);have k5:=Row.cell HS7.out.row 5 rfl;have f5:=Row.fz HS7.out.row 5;have HS8:=hid (HS7.out.cell (i:=5) (v:=.int .i64 3) (s':={ ({ s4 with ws:=z }:Dc).next with st:=3 }) (Row.set HS7.out.row 5 _));have k18:=Row.cell HS8.out.row 18 rfl;have f18:=Row.fz HS8.out.row 18;have HS9:=hid (HS8.out.cell (i:=18) (v:=.int .i64 0) (s':={ ({ s4 with ws:=z }:Dc).next with st:=3,hv:=0 }) (Row.set HS8.out.row 18 _));clear h4;go_wp2_with fail;refine(zdf HS9.out.row).mono ?_;rintro e w11 ⟨rfl,hg11,h11⟩;rw[if_neg (by show ¬3=2;decide)] at h11;have HS11:=hid (HS9.out.move hg11 h11);clear hg11 h11 k5 f5 k18 f18;go_wp2_with fail;go_end0
      refine⟨rfl,HS11.out.lo,by rw[HN3.out];exact HS11.out.row,fun _=>?_⟩;rw[HN3.out];exact Hr6.out.keepR HS11.out.keep
    · have hd:decide (z.tag=4)=false:=decide_eq_false h4;have HN3:=hid (show jy L s c=({ s4 with ws:=z }:Dc).next.void from by rw[HN2.out,if_neg h4]);have hst4:({ s4 with ws:=z }:Dc).next.st=2:=by rw[←Hs4.out];exact Hst.out
      have Hst4:=hid hst4;clear h4 hst4;go_wp2_with fail;refine(zdf HS7.out.row).mono ?_;rintro e w11 ⟨rfl,hg11,h11⟩;rw[if_pos Hst4.out] at h11;have HS11:=hid (HS7.out.move hg11 h11);clear hg11 h11;go_wp2_with fail;go_end0
      refine⟨rfl,HS11.out.lo,by rw[HN3.out];exact HS11.out.row,fun _=>?_⟩;rw[HN3.out];have:=Hr6.out.keepR HS11.out.keep;unfold Dc.void;split <;> exact this
 · have HN:=hid (show jy L s c=((s.took c).more c).bad 6 s.frm from by unfold jy;rw[hr];rfl);have Hr:=hid (show zn (s.took c).nn c=2 from hr);clear h hR hdb hbw hD hst hS0 ho htg hl hr;go_enter Tryz.func117,Tryz.ntmps117;go_wp2_with fail;refine HC.out.mono ?_;rintro e w1 ⟨rfl,hg1,h1⟩;have HS1:=hid (HS0.out.move hg1 h1);have k11:w1.cell? ⟨d,11,none⟩=some (.int .i64 (s.left:Nat)):=Row.cell h1 11 rfl;have f11:=Row.fz h1 11;have HS2:=hid (HS1.out.cell (i:=11) (v:=.int .i64 ((s.left - 1:Nat):Int)) (s':=s.took c) (Row.set h1 11 _));clear hg1 h1;go_wp2_with fail;refine(HP2.out _ HS2.out.row).mono ?_;rw[Hr.out];rintro e w3 ⟨rfl,hg3,h3⟩;have HS3:=hid (HS2.out.move hg3 h3);have k10:w3.cell? ⟨d,10,none⟩=some (.int .i64 (s.frm:Nat)):=Row.cell h3 10 rfl;clear hg3 h3 k11 f11;go_wp2_with fail;refine(zb9 HS3.out.row 6 s.frm).mono ?_;rintro e w4 ⟨rfl,hg4,h4⟩;have HS4:=hid (HS3.out.move hg4 h4);clear hg4 h4 k10;go_wp2_with fail;refine(zdf HS4.out.row).mono ?_;rintro e w5 ⟨rfl,hg5,h5⟩;rw[if_neg (by show ¬4=2;decide)] at h5;have HS5:=hid (HS4.out.move hg5 h5);clear hg5 h5;go_wp2_with fail;go_end0
   refine⟨rfl,HS5.out.lo,by rw[HN.out];exact HS5.out.row,fun e=>?_⟩;rw[HN.out] at e;rcases e with e | e <;> cases e
end
section
open Go.RowKit
attribute [local go_sem] yq Tryz.eqGuard_if
theorem zn9 (a e:Option Addr) (n cap m c:Nat) (L:za) (w:World) (hn:n≤9223372036854775807) (hm:m≤9223372036854775807) (b:Bool) (hb:b=decide (n≤1000∧L.1≤1099511627776∧m≤100)):
 Calls Tryz.prog 29 #[.slice a n cap,lmV L,.slice e m c] w fun x w'=>x=.returned (.bool b)∧Below w.heap.size w w':=by
 have hal:=(Below.refl w.heap.size w).alloc (Nat.le_refl _) (.cells #[.int .i64 L.1,.int .i64 L.2.1,.int .i64 L.2.2.1,.int .i64 L.2.2.2.1,.int .i64 L.2.2.2.2] 24);have l0:=(yo w 24 [.int .i64 L.1,.int .i64 L.2.1,.int .i64 L.2.2.1,.int .i64 L.2.2.2.1,.int .i64 L.2.2.2.2]).cell 0 rfl;have Hal:=hid hal;unfold lmV;clear hal;by_cases h1:n≤1000
 · have d1:decide ((n:Int)≤1000)=true:=by rw[decide_eq_true_iff];omega
   by_cases h2:L.1≤1099511627776
   · have d2:decide (L.1≤1099511627776)=true:=decide_eq_true h2;by_cases h3:m≤100
     · have d3:decide ((m:Int)≤100)=true:=by rw[decide_eq_true_iff];omega
       have Hb:=hid (show b=true from by rw[hb];exact decide_eq_true ⟨h1,h2,h3⟩);clear hb h1 h2 h3;go_enter Tryz.func29,Tryz.ntmps29;go_wp2;go_ret;exact⟨by rw[Hb.out];rfl,Hal.out⟩
     · have d3:decide ((m:Int)≤100)=false:=by rw[decide_eq_false_iff_not];omega
       have Hb:=hid (show b=false from by rw[hb];exact decide_eq_false fun h=>h3 h.2.2);clear hb h1 h2 h3;go_enter Tryz.func29,Tryz.ntmps29;go_wp2;go_ret;exact⟨by rw[Hb.out];rfl,Hal.out⟩
   · have d2:decide (L.1≤1099511627776)=false:=decide_eq_false h2;have Hb:=hid (show b=false from by rw[hb];exact decide_eq_false fun h=>h2 h.2.1);clear hb h1 h2;go_enter Tryz.func29,Tryz.ntmps29;go_wp2;go_ret;exact⟨by rw[Hb.out];rfl,Hal.out⟩
 · have d1:decide ((n:Int)≤1000)=false:=by rw[decide_eq_false_iff_not];omega
   have Hb:=hid (show b=false from by rw[hb];exact decide_eq_false fun h=>h1 h.1);clear hb h1;go_enter Tryz.func29,Tryz.ntmps29;go_wp2;go_ret;exact⟨by rw[Hb.out];rfl,Hal.out⟩
end
section
open Go.RowKit
attribute [local go_sem] yq Tryz.eqGuard_if
def zdi (l:List Nat):ByteArray:=strOfNums (l.map fun n:Nat=>(n:Int))
theorem zwu {l u:List Nat} (hl:∀c∈l,c<256) (hu:∀c∈u,c<256) (h:zdi l=zdi u):l=u:=by
 have h1:=congrArg (fun s:ByteArray=>s.data.toList) h;simp only[zdi,strOfNums_data,List.map_map] at h1
 have key:∀(l u:List Nat),(∀c∈l,c<256)→(∀c∈u,c<256)→l.map ((fun n:Int=>UInt8.ofNat n.toNat) ∘ fun n:Nat=>(n:Int))=u.map ((fun n:Int=>UInt8.ofNat n.toNat) ∘ fun n:Nat=>(n:Int))→l=u:=by
  intro l
  induction l with
  | nil=>intro u _ _ h;cases u with | nil=>rfl | cons a u=>simp at h
  | cons a l ih=>
   intro u hl hu h
   cases u with
   | nil=>simp at h
   | cons b u=>
    simp only[List.map_cons,List.cons.injEq,Function.comp,Int.toNat_natCast] at h;have ha:=hl a (List.mem_cons_self ..);have hb:=hu b (List.mem_cons_self ..);have e:=congrArg UInt8.toNat h.1;simp only[UInt8.toNat_ofNat'] at e;rw[Nat.mod_eq_of_lt (by omega),Nat.mod_eq_of_lt (by omega)] at e;rw[e,ih u (fun c hc=>hl c (List.mem_cons_of_mem _ hc)) (fun c hc=>hu c (List.mem_cons_of_mem _ hc)) h.2]
 exact key l u hl hu h1
theorem zwv {a b:ByteArray} (h:¬a=b):(a.toList == b.toList)=false:=by
 rw[beq_eq_false_iff_ne];intro e;rw[ByteArray.toList_eq,ByteArray.toList_eq] at e;exact h (ByteArray.ext (Array.ext' e))
theorem zoa {w:World} {a:Option Addr} {n cap:Nat} {l:List Nat} (hB:Byts w a n cap l) (hn:0<n):(convert 22 9 (.slice a n cap)).run Tryz.prog w=.ok (.string (zdi l)) w:=by
 obtain⟨b,o,rfl,hc⟩:=hB.cells hn
 exact run_convert_bytes_arg w _ _ Tryz.underlying22 Tryz.underlying5 b o n cap (l.map fun n:Nat=>(n:Int)) (by rw[List.length_map];exact hB.len) (fun i hi=>by
  rw[hc i hi];have:i<l.length:=by rw[hB.len];exact hi
  simp[nth,List.getD_eq_getElem?_getD,this]) _ Tryz.underlying9
theorem zob {l:List Nat} (h:l.length=4):∃a b c e,l=[a,b,c,e]:=by
 match l,h with
 | [a,b,c,e],_=>exact⟨a,b,c,e,rfl⟩
theorem DcR.last {w:World} {d k c:Nat} {L:za} {s:Dc} {vp:Option Addr} {y:Value} (h:DcR w d L s vp y) (hl:s.last.length=4) (hk:k<4):DcR (w.setCell ⟨d,14+k,none⟩ (.int .u8 (c:Int))) d L { s with last:=s.last.set k c } vp y:=by
 have e:dcC L { s with last:=s.last.set k c } vp y=(dcC L s vp y).set (14+k) (.int .u8 (c:Int)):=by
  obtain⟨a,b,c',e,h4⟩:=zob hl;rcases(by omega:k=0∨k=1∨k=2∨k=3) with rfl | rfl | rfl | rfl <;> simp only[dcC,h4] <;> rfl
 show Row _ _ _ (dcC L { s with last:=s.last.set k c } vp y);rw[e];exact Row.set h (14+k) _
theorem DcR.lastAt {w:World} {d k:Nat} {L:za} {s:Dc} {vp:Option Addr} {y:Value} (h:DcR w d L s vp y) (hk:k<4):w.cell? ⟨d,14+k,none⟩=some (.int .u8 (nth s.last k:Nat)):=by
 rcases(by omega:k=0∨k=1∨k=2∨k=3) with rfl | rfl | rfl | rfl
 · exact Row.cell h 14 rfl
 · exact Row.cell h 15 rfl
 · exact Row.cell h 16 rfl
 · exact Row.cell h 17 rfl
theorem DcR.bytes {w:World} {d:Nat} {L:za} {s:Dc} {vp:Option Addr} {y:Value} (h:DcR w d L s vp y) (hl:s.last.length=4) (hb:∀c∈s.last,c<256):Byts w (some ⟨d,14,none⟩) 4 4 s.last:=
 ⟨hl,hb,Nat.le_refl _,by decide,(by intro h;cases h),fun _=>⟨d,14,rfl,fun i hi=>DcR.lastAt h hi⟩⟩
theorem zww {w:World} {ops:Array Oper} {o:Oper} {a:Act} {K:Act→World→Prop} {Q:Exit→Act→World→Prop} {E:Prop} (hgd:o.guard=none) (s x:Operand)
 (ho:o.op=.call { callee:=.builtin .append,args:= #[s,x],argTypes:= #[55,55] }) (hty:o.type=55)
 (V S:Value) (hs:a.eval s=V) (hx:a.eval x=S) (V':Value) (w':World) (hrun:(Builtin.append_ #[55,55] 55 #[V,S]).run Tryz.prog w=.ok V' w') (h:K (a.put o.dst V') w'):
 if Region.wanted o (yielded ops a.tmps)=true then Oper.wp Tryz.prog o a w K Q else E:=
 zdy hgd s x _ ho _ _ hs hx V' w' (by rw[hty];exact hrun) h
def zwx (w:World) (F d:Nat) (L:za) (s:Dc) (vp:Option Addr) (e:Ending) (w':World):Prop:=
 e=.returned (.tuple #[])∧Lo F d w w'∧∃y,DcR w' d L s vp y∧KnosM w' F y s.out∧(s.st=3→KeepR w w'∧Steady 0 zbn w w')
set_option maxRecDepth 20000 in
theorem zwy {w:World} {F d c base R:Nat} {L:za} {s:Dc} {y:Value} (h:DcR w d L s (some ⟨R,0,none⟩) y) (hdF:d<F) (hF:F≤w.heap.size) (hK:KnosM w F y s.out) (hol:s.out.length≤1000000)
 (hR:s.hv=3→WkR w base R L s.ws∧s.ws.tag=4∧yi s.ws.l) (hc:c<256) (hst:s.st=3) (hv:s.hv<4) (hll:s.last.length=4) (hla:s.hv=3→∀x∈s.last.take 3,x<256) (hp:∀x∈s.pl,x<256) (hk:s.sn≤1000000000000000) (ht:4≤s.tk) (ht2:s.tk≤1000000000000000):
 Calls Tryz.prog 118 #[.pointer (some ⟨d,0,none⟩),.int .u8 (c:Int)] w (zwx w F d L (vm s c) (some ⟨R,0,none⟩)):=by
 have hs1:IntKind.i64.wrap ((s.sn:Int)+1)=((s.sn+1:Nat):Int):=by rw[IntKind.wrap_i64];omega
 obtain⟨v2,hv2⟩:∃v2,s.hv+1=v2:=⟨_,rfl⟩;have hv1:IntKind.i64.wrap ((s.hv:Int)+1)=(v2:Int):=by rw[IntKind.wrap_i64];omega
 have h0:(0:Int)≤(s.hv:Int):=by omega
 have h04:(s.hv:Int)<4:=by omega
 have hS0:=Stp.start h hF;have hS1:=hS0.cell (i:=14+s.hv) (v:=.int .u8 (c:Int)) (DcR.last hS0.row hll hv);have b18:w.cell? ⟨d,18,none⟩=some (.int .i64 (s.hv:Nat)):=Row.cell h 18 rfl;have g18:w.frozen? ⟨d,18,none⟩=false:=Row.fz h 18;have ck:w.cell? ⟨d,14+s.hv,none⟩=some (.int .u8 (nth s.last s.hv:Nat)):=DcR.lastAt h hv;have fk:w.frozen? ⟨d,14+s.hv,none⟩=false:=Row.fz h _;have e18:(w.setCell ⟨d,14+s.hv,none⟩ (.int .u8 (c:Int))).cell? ⟨d,18,none⟩=some (.int .i64 (s.hv:Nat)):=Row.cell hS1.row 18 rfl;have hS2:=hS1.cell (i:=18) (v:=.int .i64 (v2:Int)) (s':={ s with last:=s.last.set s.hv c,hv:=v2 }) (by rw[←hv2];exact Row.set hS1.row 18 _);have u18:((w.setCell ⟨d,14+s.hv,none⟩ (.int .u8 (c:Int))).setCell ⟨d,18,none⟩ (.int .i64 (v2:Int))).cell? ⟨d,18,none⟩=some (.int .i64 (v2:Int)):=Row.cell hS2.row 18 rfl;have hkk:Steady 0 zbn w ((w.setCell ⟨d,14+s.hv,none⟩ (.int .u8 (c:Int))).setCell ⟨d,18,none⟩ (.int .i64 (v2:Int))):=(DcR.knt hS0.row (zm _ d _ _)).trans (DcR.knt hS1.row (zm _ d _ _));have HK2:=hid (show KnosM ((w.setCell ⟨d,14+s.hv,none⟩ (.int .u8 (c:Int))).setCell ⟨d,18,none⟩ (.int .i64 (v2:Int))) F y s.out from hK.steady hkk);have Hst:=hid hst;by_cases h3:s.hv<3
 · have hd:decide ((v2:Int)<4)=true:=by rw[decide_eq_true_iff];omega
   have hd2:decide (v2<4)=true:=by rw[decide_eq_true_iff];omega
   have HN:=hid (show vm s c={ s with last:=s.last.set s.hv c,hv:=v2 } from by rw[←hv2];unfold vm;rw[if_pos h3]);have HS3:=hid (hS2.later (Below.refl _ _).drew);have HK3:=hid (HK2.out.later (Below.refl _ _).drew);have Hkk:=hid (hkk.trans (Steady.of_below (Below.refl _ _).drew));clear hkk;clear h hK hR hst hS0 hS1 hS2 h3 hv hla hv2;go_enter Tryz.func118,Tryz.ntmps118;go_upto_region 0 with fail
   go_region
   go_wp2_with fail;go_end0
   exact⟨rfl,HS3.out.lo,y,by rw[HN.out];exact HS3.out.row,by rw[HN.out];exact HK3.out,fun _=>⟨HS3.out.keep,Hkk.out⟩⟩
 · obtain⟨hR1,hR2,hR3⟩:=hR (by omega);have e3:s.hv=3:=by omega
   have hd:decide ((v2:Int)<4)=false:=by rw[decide_eq_false_iff_not];omega
   have hd2:decide (v2<4)=false:=by rw[decide_eq_false_iff_not];omega
   have hbl:∀x∈s.last.set s.hv c,x<256:=by
    obtain⟨l0,l1,l2,l3,h4⟩:=zob hll;have:=hla e3;rw[e3,h4];rw[h4] at this;intro x hx;simp at hx this;omega
   have hS2':∀W,Below ((w.setCell ⟨d,14+s.hv,none⟩ (.int .u8 (c:Int))).setCell ⟨d,18,none⟩ (.int .i64 (v2:Int))).heap.size ((w.setCell ⟨d,14+s.hv,none⟩ (.int .u8 (c:Int))).setCell ⟨d,18,none⟩ (.int .i64 (v2:Int))) W→Stp w w F d L { s with last:=s.last.set s.hv c,hv:=v2 } (some ⟨R,0,none⟩) y W:=fun W hb=>hS2.later hb
   have HSw:=hid hS2';have HRk:=hid (fun W (hk:KeepR w W)=>hR1.keepR hk);have Hslt:=hid (zge hp);have Hll:Hid ((s.last.set s.hv c).length=4):=hid (by rw[List.length_set];exact hll);have Hbl:=hid hbl;have HRt:=hid (show s.ws.tag=4∧yi s.ws.l∧s.hv=3∧s.out.length≤1000000∧F≤w.heap.size from⟨hR2,hR3,e3,hol,hF⟩);have HK2w:=hid (fun W (hb:Below ((w.setCell ⟨d,14+s.hv,none⟩ (.int .u8 (c:Int))).setCell ⟨d,18,none⟩ (.int .i64 (v2:Int))).heap.size ((w.setCell ⟨d,14+s.hv,none⟩ (.int .u8 (c:Int))).setCell ⟨d,18,none⟩ (.int .i64 (v2:Int))) W)=>HK2.out.later hb);have Hv2:=hid hv2;clear h hK hR hR1 hR2 hR3 hst hS0 hS1 hS2 hS2' hv hla hbl hp hll hF e3 hv2 h3 hkk;obtain⟨sA,hsA⟩:∃sA:Dc,{ s with last:=s.last.set s.hv c,hv:=v2 }=sA:=⟨_,rfl⟩;rw[hsA] at HSw;obtain⟨tA,htA⟩:∃tA,zdi (qu (sum s.pl))=tA:=⟨_,rfl⟩;obtain⟨tB,htB⟩:∃tB,zdi (s.last.set s.hv c)=tB:=⟨_,rfl⟩
   have cvL:∀W,DcR W d L sA (some ⟨R,0,none⟩) y→(convert 22 9 (.slice (some ⟨d,14,none⟩) 4 4)).run Tryz.prog W=.ok (.string tB) W:=fun W h=>by
    rw[←hsA] at h;rw[←htB];exact zoa (DcR.bytes h Hll.out Hbl.out) (by decide)
   have q13:∀W,DcR W d L sA (some ⟨R,0,none⟩) y→W.cell? ⟨d,13,none⟩=some (.int .u32 (sum s.pl:Nat)):=fun W h=>by rw[←hsA] at h;exact Row.cell h 13 rfl
   have Htt:=hid (show qu (sum s.pl)=s.last.set s.hv c↔tA=tB from⟨fun e=>by rw[←htA,←htB,e],fun e=>zwu (zeu Hslt.out) Hbl.out (by rw[htA,htB,e])⟩);have HsA:=hid hsA;have HtA:=hid htA;clear hsA htA htB;go_enter Tryz.func118,Tryz.ntmps118;go_upto_region 0 with fail
   go_region
   go_upto_region 3 with fail
   clear b18 ck fk e18 g18 u18 h0 h04 hd hd2;generalize ((w.setCell ⟨d,14+s.hv,none⟩ (.int .u8 (c:Int))).setCell ⟨d,18,none⟩ (.int .i64 (v2:Int)))=w2 at*;go_cut [36] (fun v wc=>v=.bool (!(tA.toList == tB.toList))∧Hid (Below w2.heap.size w2 wc))
   case first=>
    have HSd:=hid (HSw.out _ (Below.refl w2.heap.size w2).drew.drew);have Hc13:=hid (q13 _ HSd.out.row);have cvLd:=cvL _ HSd.out.row;have CvL:=hid cvL;clear cvL q13
    go_region_with (first
     | (go_at_call 160
        refine(zjf ⟨d,13,none⟩ (sum s.pl) w2.drew.drew Hc13.out).mono ?_
        rintro e w4 ⟨rfl,rfl⟩)
     | (go_at_call 153
        refine(zp3 (.slice none 0 0) 0 w2.drew.drew.heap.size [] (sum s.pl) w2.drew.drew Hslt.out (World.ownsRow_nil _ _ _ _) (Nat.le_refl _) (by omega)).mono ?_;rintro e w5 ⟨v5,rfl,ho5,hg5⟩;have hb5:=zdu (Below.refl w2.drew.drew.heap.size w2.drew.drew) hg5;obtain⟨a5,c5,rfl,hB5⟩:=zet (l:=qu (sum s.pl)) ho5 (zeu Hslt.out);have cv5:=zoa hB5 (by decide);rw[HtA.out] at cv5;have Hb5:=hid (show Below w2.heap.size w2 w5 from(Below.refl w2.heap.size w2).drew.drew.trans hb5);have cvL5:=CvL.out _ (HSw.out _ Hb5.out).row;clear ho5 hg5 hb5 hB5))
    all_goals
     clear cvLd cv5 cvL5;go_wp2_with fail;go_meet
     exact⟨rfl,Hb5⟩
   case rest=>
    obtain⟨rfl,Hb3⟩:=hcut;clear cvL q13;by_cases hAB:tA=tB
    · have hde:(tA.toList == tB.toList)=true:=by rw[hAB];exact beq_self_eq_true _
      have Hsum:=hid (Htt.out.2 hAB);rw[hde];clear hAB hde;have HS3:=hid (HSw.out _ Hb3.out);have HK3:=hid (HK2w.out _ Hb3.out);have k24:wc.cell? ⟨d,24,none⟩=some (.int .i64 (s.sn:Nat)):=by have:=HS3.out.row;rw[←HsA.out] at this;exact Row.cell this 24 rfl
      have f24:=Row.fz HS3.out.row 24;have HS5:=hid (HS3.out.cell (i:=24) (v:=.int .i64 ((s.sn+1:Nat):Int)) (s':={ s with last:=s.last.set s.hv c,hv:=v2,sn:=s.sn+1 }) (by have:=HS3.out.row;rw[←HsA.out] at this;exact Row.set this 24 _));have HK5:=hid (HK3.out.steady (DcR.knt HS3.out.row (zm wc d 24 (.int .i64 ((s.sn+1:Nat):Int)))));go_upto_region 6 with fail
      rw[show (s.sn:Int)+1=((s.sn+1:Nat):Int) from rfl];generalize wc.setCell ⟨d,24,none⟩ (.int .i64 ((s.sn+1:Nat):Int))=w5 at*;clear k24 f24;obtain⟨sB,hsB⟩:∃sB:Dc,{ s with last:=s.last.set s.hv c,hv:=v2,sn:=s.sn+1 }=sB:=⟨_,rfl⟩;rw[hsB] at HS5;have HsB:=hid hsB;have HSd:=hid (HS5.out.later (Below.refl w5.heap.size w5).drew);have HKd:=hid (HK5.out.later (Below.refl w5.heap.size w5).drew);have HRd:=hid (HRk.out _ HSd.out.keep);have c12:w5.cell? ⟨d,12,none⟩=some (.pointer (some ⟨R,0,none⟩)):=Row.cell HS5.out.row 12 rfl;have c23:w5.cell? ⟨d,23,none⟩=some y:=Row.cell HS5.out.row 23 rfl;clear hsB
      go_region_law (first
       | (refine zww rfl (.tmp 59) (.tmp 65) rfl rfl y (.slice (some ⟨w6.heap.size,0,none⟩) 1 1) rfl rfl _ w7 hrun ?_)
       | (go_simp
          go_at_call 28
          refine(zwj w5.drew base R L s.ws HRd.out HRt.out.1 HRt.out.2.1).mono ?_;rintro e w6 ⟨⟨K,rfl,hKn⟩,hb6⟩;have hM6:=HKd.out.later hb6;have hz6:F≤w6.heap.size:=Nat.le_trans HSd.out.sz hb6.size;obtain⟨V',w7,hrun,hkn7,Ks,hown,hg7⟩:=zn5 hM6 hKn HRt.out.2.2.2.1 hz6;obtain⟨ak,ck,rfl,-⟩:=hKn.frags;obtain⟨av,cv,rfl⟩:=hkn7.slice;have hal:=(Below.refl w6.heap.size w6).alloc (Nat.le_refl _) (.cells #[.slice ak (zx s.ws.vs s.ws.l s.ws.ix).length ck] 27);have r6:=Row.later HSd.out.row hb6;have r6a:=Row.later r6 hal;have r7:=Row.grown r6a hg7 fun e=>Row.ne_own r6a hown (by decide) _ e.symm rfl
          have Hlo:=hid (show Lo F d w w7 from HSd.out.lo.trans ((Lo.of_below hb6 HSd.out.sz).trans ((Lo.of_below hal hz6).trans (Lo.of_own hown hg7 (Nat.le_refl _) (Nat.le_trans hz6 hal.size)))));have Hz7:=hid (show F≤w7.heap.size from Nat.le_trans hz6 (Nat.le_trans hal.size hg7.size));have H7:=hid r7;have HK7:=hid hkn7;have d23:w6.cell? ⟨d,23,none⟩=some y:=Row.cell r6 23 rfl;have e23:(w6.alloc (.cells #[.slice ak (zx s.ws.vs s.ws.l s.ws.ix).length ck] 27)).cell? ⟨d,23,none⟩=some y:=Row.cell r6a 23 rfl;have z23:w7.cell? ⟨d,23,none⟩=some y:=Row.cell r7 23 rfl;have f23:w7.frozen? ⟨d,23,none⟩=false:=Row.fz r7 23;clear hM6 hz6 hkn7 hown hg7 hal r6 r6a r7 hKn hb6))
      all_goals
       clear c12 c23 d23 e23 hrun;have hk7:=HK7.out;rw[List.length_append,List.length_singleton] at hk7;have r8:DcR (w7.setCell ⟨d,23,none⟩ (.slice av (s.out.length+1) cv)) d L sB (some ⟨R,0,none⟩) (.slice av (s.out.length+1) cv):=Row.set H7.out 23 _;have hk8:=hk7.steady (DcR.knt H7.out (zm w7 d 23 (.slice av (s.out.length+1) cv)));have Hlo8:=hid (Hlo.out.trans (Lo.of_grown (zm w7 d 23 (.slice av (s.out.length+1) cv)) Hz7.out));have H8:=hid r8;have HK8:=hid hk8;have Hz8:=hid (show F≤(w7.setCell ⟨d,23,none⟩ (.slice av (s.out.length+1) cv)).heap.size from Nat.le_trans Hz7.out (zm w7 d 23 (.slice av (s.out.length+1) cv)).size);clear hk7 r8 hk8 z23 f23 HK7 H7 Hlo Hz7;generalize w7.setCell ⟨d,23,none⟩ (.slice av (s.out.length+1) cv)=w8 at*;rw[←HsB.out] at H8;have k19:=Row.cell H8.out 19 rfl;have k5:=Row.cell H8.out 5 rfl;have f5:=Row.fz H8.out 5;have r5:DcR (w8.setCell ⟨d,5,none⟩ (.int .i64 0)) d L { s with last:=s.last.set s.hv c,hv:=v2,sn:=s.sn+1,st:=0 } (some ⟨R,0,none⟩) (.slice av (s.out.length+1) cv):=Row.set H8.out 5 _;have k6:=Row.cell r5 6 rfl;have f6:=Row.fz r5 6;have r6:DcR ((w8.setCell ⟨d,5,none⟩ (.int .i64 0)).setCell ⟨d,6,none⟩ (.int .i64 0)) d L { s with last:=s.last.set s.hv c,hv:=v2,sn:=s.sn+1,st:=0,hd:=0 } (some ⟨R,0,none⟩) (.slice av (s.out.length+1) cv):=Row.set r5 6 _;have k20:=Row.cell r6 20 rfl;have f20:=Row.fz r6 20;have r20:DcR (((w8.setCell ⟨d,5,none⟩ (.int .i64 0)).setCell ⟨d,6,none⟩ (.int .i64 0)).setCell ⟨d,20,none⟩ (.int .i64 (s.tk:Nat))) d L { s with last:=s.last.set s.hv c,hv:=v2,sn:=s.sn+1,st:=0,hd:=0,fin:=s.tk } (some ⟨R,0,none⟩) (.slice av (s.out.length+1) cv):=Row.set r6 20 _;have hg:=zg (zg (zm w8 d 5 (.int .i64 0)) (zm _ d 6 (.int .i64 0))) (zm _ d 20 (.int .i64 (s.tk:Nat)));have H20:=hid r20;have HK20:=hid (HK8.out.steady (DcR.knt H8.out hg));have Hlo20:=hid (Hlo8.out.trans (Lo.of_grown hg Hz8.out));have Hz20:=hid (Nat.le_trans Hz8.out hg.size);clear r5 r6 r20 hg;go_upto_region 8 with fail
       generalize ((w8.setCell ⟨d,5,none⟩ (.int .i64 0)).setCell ⟨d,6,none⟩ (.int .i64 0)).setCell ⟨d,20,none⟩ (.int .i64 (s.tk:Nat))=w9 at*;clear k19 k5 f5 k6 f6 k20 f20;have k20:=Row.cell H20.out 20 rfl;have k21:=Row.cell H20.out 21 rfl;have f21:=Row.fz H20.out 21;have r21:DcR (w9.setCell ⟨d,21,none⟩ (.int .i64 0)) d L { s with last:=s.last.set s.hv c,hv:=v2,sn:=s.sn+1,st:=0,hd:=0,fin:=s.tk,vc:=0 } (some ⟨R,0,none⟩) (.slice av (s.out.length+1) cv):=Row.set H20.out 21 _;have k22:=Row.cell r21 22 rfl;have f22:=Row.fz r21 22;have m22:=Row.cell H20.out 22 rfl;have n22:=Row.fz H20.out 22;have r22:DcR ((w9.setCell ⟨d,21,none⟩ (.int .i64 0)).setCell ⟨d,22,none⟩ (.int .i64 (s.tk:Nat))) d L { s with last:=s.last.set s.hv c,hv:=v2,sn:=s.sn+1,st:=0,hd:=0,fin:=s.tk,vc:=0,vo:=s.tk } (some ⟨R,0,none⟩) (.slice av (s.out.length+1) cv):=Row.set r21 22 _;have hg:=zg (zm w9 d 21 (.int .i64 0)) (zm _ d 22 (.int .i64 (s.tk:Nat)));have H22:=hid r22;have HK22:=hid (HK20.out.steady (DcR.knt H20.out hg));have Hlo22:=hid (Hlo20.out.trans (Lo.of_grown hg Hz20.out));clear r21 r22 hg;go_wp2_with fail;go_end0
       have HN:=hid (show vm s c={ s with last:=s.last.set s.hv c,hv:=v2,sn:=s.sn+1,st:=0,hd:=0,fin:=s.tk,vc:=0,vo:=s.tk,out:=s.out++[zx s.ws.vs s.ws.l s.ws.ix] } from by
        unfold vm;rw[if_neg (by have:=HRt.out;omega),if_pos Hsum.out,Hv2.out])
       refine⟨rfl,Hlo22.out,_,by rw[HN.out];exact H22.out,by rw[HN.out];exact HK22.out,fun e=>?_⟩;rw[HN.out] at e;cases e
    · have hde:(tA.toList == tB.toList)=false:=zwv hAB;have Hsum:=hid (fun e=>hAB (Htt.out.1 e));rw[hde];clear hAB hde;have hsub:IntKind.i64.wrap ((s.tk:Int) - (v2:Int))=((s.tk - 4:Nat):Int):=by have:=Hv2.out;have:=HRt.out;rw[IntKind.wrap_i64];omega
      have HS3:=hid (HSw.out _ Hb3.out);have HK3:=hid (HK2w.out _ Hb3.out);have hSb:=(HSw.out _ Hb3.out.drew).row;have hS3:DcR wc d L { s with last:=s.last.set s.hv c,hv:=v2 } (some ⟨R,0,none⟩) y:=by rw[HsA.out];exact HS3.out.row
      have a19:wc.cell? ⟨d,19,none⟩=some (.int .i64 (s.tk:Nat)):=Row.cell hS3 19 rfl;have a18:wc.cell? ⟨d,18,none⟩=some (.int .i64 (v2:Nat)):=Row.cell hS3 18 rfl;have b19:wc.drew.cell? ⟨d,19,none⟩=some (.int .i64 (s.tk:Nat)):=a19;have b18:wc.drew.cell? ⟨d,18,none⟩=some (.int .i64 (v2:Nat)):=a18;have HF:=hid (zb9 hSb 14 (s.tk - 4));clear hSb hS3;go_upto_region 4 with fail
      go_region_held3 (fun W=>W.cell? ⟨d,19,none⟩=some (.int .i64 (s.tk:Nat))∧W.cell? ⟨d,18,none⟩=some (.int .i64 (v2:Nat))) (first | exact⟨a19,a18⟩ | exact⟨b19,b18⟩ | exact⟨c19,c18⟩) (first
       | (go_at_call 155
          refine HF.out.mono ?_;rintro e w6 ⟨rfl,hg6,h6⟩;rw[←HsA.out] at h6;have c19:w6.cell? ⟨d,19,none⟩=some (.int .i64 (s.tk:Nat)):=Row.cell h6 19 rfl;have c18:w6.cell? ⟨d,18,none⟩=some (.int .i64 (v2:Nat)):=Row.cell h6 18 rfl;have Hg6:=hid hg6;have H6:=hid h6;clear hg6 h6))
      clear a19 a18 b19 b18 c19 c18;go_wp2_with fail;go_end0
      have HN:=hid (show vm s c=({ s with last:=s.last.set s.hv c,hv:=v2 }:Dc).bad 14 (s.tk - 4) from by
       unfold vm;rw[if_neg (by have:=HRt.out;omega),if_neg Hsum.out,Hv2.out]
       rfl)
      have HSe:=(HSw.out _ Hb3.out.drew).move Hg6.out (s':=({ s with last:=s.last.set s.hv c,hv:=v2 }:Dc).bad 14 (s.tk - 4)) H6.out;have HKe:=(HK2w.out _ Hb3.out.drew).steady (DcR.knt (HSw.out _ Hb3.out.drew).row Hg6.out);refine⟨rfl,HSe.lo,y,by rw[HN.out];exact HSe.row,by rw[HN.out];exact HKe,fun e=>?_⟩;rw[HN.out] at e;cases e
end
section
open Go.RowKit
attribute [local go_sem] yq Tryz.eqGuard_if
theorem zwz (s:Dc):s.void.st=4∨s.void=s:=by
 unfold Dc.void;split
 · exact .inl rfl
 · exact .inr rfl
theorem zw0 {s:Dc} {c:Nat} (h:s.st=0):¬((jt s c).st=2∨(jt s c).st=3):=by
 unfold jt;split
 · rintro(h | h) <;> cases h
 · split
   · rintro(h | h) <;> cases h
   · rintro(h' | h') <;> exact absurd (h.symm.trans h') (by decide)
theorem zw1 {L:za} {s:Dc} {c:Nat} (h:s.st=1):(jq L s c).st≠3:=by
 unfold jq;split
 · intro h';exact absurd (h.symm.trans h') (by decide)
 · split
   · intro h';cases h'
   · rcases zwz ({ s.more c with sn:=s.sn+1,st:=2,left:=z7 s.nx s.nn c,ws:=ws0,pl:=[] }:Dc).next with h' | h'
     · rw[h'];decide
     · rw[h'];show ¬2=3;decide
 · intro h';cases h'
theorem zoc {s:Dc} {c:Nat} (h:s.st=3):(vm s c).st≠2:=by
 unfold vm;split
 · intro h';exact absurd (h.symm.trans h') (by decide)
 · split <;> (intro h';cases h')
theorem zw2 (s:Dc) (c:Nat):(vm s c).ws=s.ws:=by
 unfold vm;split
 · rfl
 · split <;> rfl
theorem zod (s:Dc) (c:Nat):(jt s c).out=s.out:=by
 unfold jt;split
 · rfl
 · split <;> rfl
theorem zh6 (L:za) (s:Dc) (c:Nat):(jq L s c).out=s.out:=by
 unfold jq;split
 · rfl
 · split
   · rfl
   · rw[zb8];rfl
 · rfl
theorem zh7 (L:za) (s:Dc) (c:Nat):(jy L s c).out=s.out:=by
 unfold jy;split
 · rw[zb8];rfl
 · exact(zn3 _ _).2.2.2
 · rfl
def zf1 (w:World) (B F d:Nat) (L:za) (t:List Nat) (s:Dc) (ks:List Kno) (es:List Nat) (c:Nat) (e:Ending) (w':World):Prop:=
 e=.returned (.tuple #[])∧Lo B d w w'∧F≤w'.heap.size∧∃ms fs vp y,MidM w' B F d L (t++[c]) (ql L s c) (ks++ms) (es++fs) vp y∧(ql L s c).out=s.out++ms
structure PreM (w:World) (B F d:Nat) (L:za) (t:List Nat) (s:Dc) (ks:List Kno) (es:List Nat) (vp:Option Addr) (y:Value):Prop where
 row:DcR w d L (zw s) vp y
 si:SI L t s ks es
 lt:∀c∈t,c<256
 kn:KnosM w F y s.out
 rd:s.st=2∨s.st=3→zn8 w B F L s vp y
 bf:B≤F
 fw:F≤w.heap.size
 db:d<B
 lb:0<B
 ld:0≠d
 door:Door w
 lims:LimsI L
 tl:t.length≤1000000
 sn:s.sn≤10000000
 ol:s.out.length≤1000000
variable {w:World} {B F d:Nat} {L:za} {t:List Nat} {s:Dc} {ks:List Kno} {es:List Nat} {vp:Option Addr} {y:Value} {c:Nat}
theorem zw3 (h:PreM w B F d L t s ks es vp y) (hc:c<256) (h0:s.st=0):Calls Tryz.prog 115 #[.pointer (some ⟨d,0,none⟩),.int .u8 (c:Int)] w (zf1 w B F d L t s ks es c):=by
 have hI:=h.si.s0 h0;refine(zwl h.row hc h0 hI.hd (by show 1≤s.tk+1;omega) (by show s.tk+1≤_;have:=h.si.tk;have:=h.tl;omega)).mono ?_;rintro e w' ⟨rfl,hg,hr⟩;have hd:ql L s c=jt (zw s) c:=by unfold ql;rw[h0];rfl
 have hk:=DcR.knt h.row hg;refine⟨rfl,Lo.of_grown hg (Nat.le_trans h.bf h.fw),Nat.le_trans h.fw hg.size,[],[],vp,y,?_,by rw[hd,zod,List.append_nil];rfl⟩;rw[hd,List.append_nil,List.append_nil];exact⟨hr,znw h.lt h.si h0,lt1 h.lt hc,by rw[zod];exact h.kn.steady hk,fun e=>absurd e (zw0 h0)⟩
theorem zw4 (h:PreM w B F d L t s ks es vp y) (hc:c<256) (h0:s.st=1):Calls Tryz.prog 116 #[.pointer (some ⟨d,0,none⟩),.int .u8 (c:Int)] w (zf1 w B F d L t s ks es c):=by
 have hI:=h.si.s1 h0;refine(zwq h.row hc h.lims h0 hI.ns hI.num.x hI.num.n (by show s.sn+1≤_;have:=h.sn;omega)).mono ?_;rintro e w' ⟨rfl,hg,vp',hr,hq⟩;have hd:ql L s c=jq L (zw s) c:=by unfold ql;rw[h0];rfl
 have hk:=DcR.knt h.row hg;refine⟨rfl,Lo.of_grown hg (Nat.le_trans h.bf h.fw),Nat.le_trans h.fw hg.size,[],[],vp',y,?_,by rw[hd,zh6,List.append_nil];rfl⟩;rw[hd,List.append_nil,List.append_nil];refine⟨hr,znx h.lt hc h.si h0,lt1 h.lt hc,by rw[zh6];exact h.kn.steady hk,fun e=>?_⟩;have e2:(jq L (zw s) c).st=2:=e.resolve_right (zw1 h0);obtain⟨e3,base,R,k1,k2,k3,k4⟩:=hq e2;exact⟨base,R,w,fun _=>⟨Nat.le_trans (Nat.le_trans h.bf h.fw) k1,k1⟩,k2,k3,by rw[e3];exact k4,by rw[zh6];exact h.kn,hk⟩
theorem zw5 (h:PreM w B F d L t s ks es vp y) (hc:c<256) (h0:s.st=2):Calls Tryz.prog 117 #[.pointer (some ⟨d,0,none⟩),.int .u8 (c:Int)] w (zf1 w B F d L t s ks es c):=by
 obtain⟨n,s0,hI⟩:=h.si.s2 h0;obtain⟨base,R,wb,hB,hbw,rfl,hR,hK,hS⟩:=h.rd (.inl h0);obtain⟨hB1,hB2⟩:=hB h0;have hho:=zb7 h.lt hI.head;have hln:=hI.len;have hnl:=hI.num.len;have htk:=h.si.tk;have htl:=h.tl;have hlf:=hI.left;have hL1:=h.lims.a.2;have hnn:n≤9223372036854775807:=by have:=hho.2.2.2.1;omega
 have hE:(zw s).tk+((zw s).left - 1)=s0+n:=by show s.tk+1+(s.left - 1)=_;omega
 refine(zwt h.row hR (by have:=h.db;omega) hbw hc h.door (by have:=h.lb;omega) h.ld h0 hI.ns hI.num.x hI.num.n hI.left (by show s.left≤_;omega) (by show s.sn+1≤_;have:=h.sn;omega)
  (fun x hx=>by have hx:x∈s.pl:=hx;rw[hI.pl] at hx;exact h.lt x (List.mem_of_mem_drop hx)) (fun hs=>?_) (fun s' hs=>(zhf hI.rd.inv hI.rd.tag hs).tag)).mono ?_
 · have htok:=hI.num.tokD (E:=s0+n) (by omega) hs [];rw[List.append_nil] at htok;obtain⟨t1,t2,t3,t4,t5⟩:=ve (lt1 h.lt hc) htok;rw[hE];show StepOk L s.ws (s0+n) (z7 s.nx s.nn c) s.frm (s.tk+1);rw[htk];exact hI.rd.ok h.lims t4 (by omega) t3 (by omega) (by omega)
 rintro e w' ⟨rfl,hlo,hr,hq⟩;have hd:ql L s c=jy L (zw s) c:=by unfold ql;rw[h0];rfl
 have hS':=hS.lo hlo hB2 h.row (by unfold zbn yz;decide);refine⟨rfl,hlo.mono hB1,Nat.le_trans h.fw hlo.size,[],[],some ⟨R,0,none⟩,y,?_,by rw[hd,zh7,List.append_nil];rfl⟩;rw[hd,List.append_nil,List.append_nil];exact⟨hr,zny h.lt hc h.si h0,lt1 h.lt hc,by rw[zh7];exact hK.steady hS',fun e=>⟨base,R,wb,fun _=>⟨hB1,hB2⟩,Nat.le_trans hbw hlo.size,rfl,hq e,by rw[zh7];exact hK,hS'⟩⟩
theorem zw6 (h:PreM w B F d L t s ks es vp y) (hc:c<256) (h0:s.st=3):Calls Tryz.prog 118 #[.pointer (some ⟨d,0,none⟩),.int .u8 (c:Int)] w (zf1 w B F d L t s ks es c):=by
 obtain⟨n,s0,hI⟩:=h.si.s3 h0;obtain⟨base,R,wb,hB,hbw,rfl,hR,hK,hS⟩:=h.rd (.inr h0);have hho:=zb7 h.lt hI.head;have hln:=hI.len;have htk:=h.si.tk;have htl:=h.tl;refine(zwy (base:=base) h.row (Nat.lt_of_lt_of_le h.db h.bf) h.fw h.kn h.ol (fun _=>⟨hR,hI.tag,hI.l64⟩) hc h0 hI.hv hI.ll (fun hv x hx=>?_) (fun x hx=>by have hx:x∈s.pl:=hx;rw[hI.pl] at hx;exact h.lt x (List.mem_of_mem_drop (List.mem_of_mem_take hx))) (by show s.sn+1≤_;have:=h.sn;omega) (by show 4≤s.tk+1;omega) (by show s.tk+1≤_;omega)).mono ?_
 · have hv:s.hv=3:=hv;have h3:=hI.last;rw[hv] at h3;have hx:x∈s.last.take 3:=hx;rw[h3] at hx;exact h.lt x (List.mem_of_mem_drop hx)
 rintro e w' ⟨rfl,hlo,y',hr,hk,hq⟩;have hd:ql L s c=vm (zw s) c:=by unfold ql;rw[h0];rfl
 obtain⟨ms,e1,e2⟩:=znz h.lt hc h.si h0;refine⟨rfl,hlo.mono h.bf,Nat.le_trans h.fw hlo.size,ms,ms.map fun _=>t.length+1,some ⟨R,0,none⟩,y',?_,by rw[hd];exact e2⟩;rw[hd];refine⟨hr,e1,lt1 h.lt hc,hk,fun e=>?_⟩;have e3:(vm (zw s) c).st=3:=e.resolve_left (zoc h0);obtain⟨hkr,hst⟩:=hq e3;exact⟨base,R,w',fun e=>absurd e (zoc h0),Nat.le_trans hbw hlo.size,rfl,by rw[zw2];exact hR.keepR hkr,hk,⟨Nat.le_refl _,fun _ _ _=>rfl⟩⟩
end
