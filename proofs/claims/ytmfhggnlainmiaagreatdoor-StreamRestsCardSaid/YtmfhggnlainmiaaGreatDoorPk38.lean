/- Part 38. -/
import Derived.Test.YtmfhggnlainmiaaGreatDoorPk26
import Derived.Test.YtmfhggnlainmiaaGreatDoorPk37
set_option linter.unusedVariables false
set_option maxHeartbeats 16000000
namespace Go.Proofs.YtmfhggnlainmiaaGreatDoor
open Lib (hid)
section
open Go.RowKit
attribute [local go_sem] y9 Tryz.eqGuard_if
def zki (l:List Nat):ByteArray:=strOfNums (l.map fun n:Nat=>(n:Int))
theorem yef {l u:List Nat} (hl:∀c∈l,c<256) (hu:∀c∈u,c<256) (h:zki l=zki u):l=u:=by
 have h1:=congrArg (fun s:ByteArray=>s.data.toList) h;simp only[zki,strOfNums_data,List.map_map] at h1
 have key:∀(l u:List Nat),(∀c∈l,c<256)→(∀c∈u,c<256)→l.map ((fun n:Int=>UInt8.ofNat n.toNat) ∘ fun n:Nat=>(n:Int))=u.map ((fun n:Int=>UInt8.ofNat n.toNat) ∘ fun n:Nat=>(n:Int))→l=u:=by
  intro l
  induction l with
  | nil=>intro u _ _ h;cases u with | nil=>rfl | cons a u=>simp at h
  | cons a l ih=>
   intro u hl hu h
   cases u with
   | nil=>simp at h
   | cons b u=>
    simp only[List.map_cons,List.cons.injEq,Function.comp,Int.toNat_natCast] at h;have ha:=hl a (List.mem_cons_self ..);have hb:=hu b (List.mem_cons_self ..);have e:=congrArg UInt8.toNat h.1;simp only[UInt8.toNat_ofNat'] at e;rw[Nat.mod_eq_of_lt (by omega),Nat.mod_eq_of_lt (by omega)] at e;rw[e,ih u (fun c hc=>hl c (List.mem_cons_of_mem _ hc)) (fun c hc=>hu c (List.mem_cons_of_mem _ hc)) h.2]
 exact key l u hl hu h1
theorem yeg {a b:ByteArray} (h:¬a=b):(a.toList == b.toList)=false:=by
 rw[beq_eq_false_iff_ne];intro e;rw[ByteArray.toList_eq,ByteArray.toList_eq] at e;exact h (ByteArray.ext (Array.ext' e))
theorem z1k {w:World} {a:Option Addr} {n cap:Nat} {l:List Nat} (hB:Byts w a n cap l) (hn:0<n):(convert 22 9 (.slice a n cap)).run Tryz.prog w=.ok (.string (zki l)) w:=by
 obtain⟨b,o,rfl,hc⟩:=hB.cells hn
 exact run_convert_bytes_arg w _ _ Tryz.underlying22 Tryz.underlying5 b o n cap (l.map fun n:Nat=>(n:Int)) (by rw[List.length_map];exact hB.len) (fun i hi=>by
  rw[hc i hi];have:i<l.length:=by rw[hB.len];exact hi
  simp[nth,List.getD_eq_getElem?_getD,this]) _ Tryz.underlying9
theorem z1l {l:List Nat} (h:l.length=4):∃a b c e,l=[a,b,c,e]:=by
 match l,h with
 | [a,b,c,e],_=>exact⟨a,b,c,e,rfl⟩
theorem DcR.last {w:World} {d k c:Nat} {L:zc} {s:Dc} {vp:Option Addr} {y:Value} (h:DcR w d L s vp y) (hl:s.last.length=4) (hk:k<4):DcR (w.setCell ⟨d,14+k,none⟩ (.int .u8 (c:Int))) d L { s with last:=s.last.set k c } vp y:=by
 have e:dcC L { s with last:=s.last.set k c } vp y=(dcC L s vp y).set (14+k) (.int .u8 (c:Int)):=by
  obtain⟨a,b,c',e,h4⟩:=z1l hl;rcases(by omega:k=0∨k=1∨k=2∨k=3) with rfl | rfl | rfl | rfl <;> simp only[dcC,h4] <;> rfl
 show Row _ _ _ (dcC L { s with last:=s.last.set k c } vp y);rw[e];exact Row.set h (14+k) _
theorem DcR.lastAt {w:World} {d k:Nat} {L:zc} {s:Dc} {vp:Option Addr} {y:Value} (h:DcR w d L s vp y) (hk:k<4):w.cell? ⟨d,14+k,none⟩=some (.int .u8 (nth s.last k:Nat)):=by
 rcases(by omega:k=0∨k=1∨k=2∨k=3) with rfl | rfl | rfl | rfl
 · exact Row.cell h 14 rfl
 · exact Row.cell h 15 rfl
 · exact Row.cell h 16 rfl
 · exact Row.cell h 17 rfl
theorem DcR.bytes {w:World} {d:Nat} {L:zc} {s:Dc} {vp:Option Addr} {y:Value} (h:DcR w d L s vp y) (hl:s.last.length=4) (hb:∀c∈s.last,c<256):Byts w (some ⟨d,14,none⟩) 4 4 s.last:=
 ⟨hl,hb,Nat.le_refl _,by decide,(by intro h;cases h),fun _=>⟨d,14,rfl,fun i hi=>DcR.lastAt h hi⟩⟩
theorem yeh {w:World} {ops:Array Oper} {o:Oper} {a:Act} {K:Act→World→Prop} {Q:Exit→Act→World→Prop} {E:Prop} (hgd:o.guard=none) (s x:Operand)
 (ho:o.op=.call { callee:=.builtin .append,args:= #[s,x],argTypes:= #[26,26] }) (hty:o.type=26)
 (V S:Value) (hs:a.eval s=V) (hx:a.eval x=S) (V':Value) (w':World) (hrun:(Builtin.append_ #[26,26] 26 #[V,S]).run Tryz.prog w=.ok V' w') (h:K (a.put o.dst V') w'):
 if Region.wanted o (yielded ops a.tmps)=true then Oper.wp Tryz.prog o a w K Q else E:=
 zft hgd s x _ ho _ _ hs hx V' w' (by rw[hty];exact hrun) h
def yei (w:World) (F d:Nat) (L:zc) (s:Dc) (vp:Option Addr) (e:Ending) (w':World):Prop:=
 e=.returned (.tuple #[])∧Lo F d w w'∧∃y,DcR w' d L s vp y∧KnosM w' F y s.out∧(s.st=3→KeepR w w'∧Steady 0 zff w w')
set_option maxRecDepth 20000 in
theorem yej {w:World} {F d c base R:Nat} {L:zc} {s:Dc} {y:Value} (h:DcR w d L s (some ⟨R,0,none⟩) y) (hdF:d<F) (hF:F≤w.heap.size) (hK:KnosM w F y s.out) (hol:s.out.length≤900000000000)
 (hR:s.hv=3→WkR w base R L s.ws∧s.ws.tag=4∧zo s.ws.l) (hc:c<256) (hst:s.st=3) (hv:s.hv<4) (hll:s.last.length=4) (hla:s.hv=3→∀x∈s.last.take 3,x<256) (hp:∀x∈s.pl,x<256) (hk:s.sn≤1000000000000000) (ht:4≤s.tk) (ht2:s.tk≤1000000000000000):
 Calls Tryz.prog 107 #[.pointer (some ⟨d,0,none⟩),.int .u8 (c:Int)] w (yei w F d L (zbw s c) (some ⟨R,0,none⟩)):=by
 have hs1:IntKind.i64.wrap ((s.sn:Int)+1)=((s.sn+1:Nat):Int):=by rw[IntKind.wrap_i64];omega
 obtain⟨v2,hv2⟩:∃v2,s.hv+1=v2:=⟨_,rfl⟩;have hv1:IntKind.i64.wrap ((s.hv:Int)+1)=(v2:Int):=by rw[IntKind.wrap_i64];omega
 have h0:(0:Int)≤(s.hv:Int):=by omega
 have h04:(s.hv:Int)<4:=by omega
 have hS0:=Stp.start h hF;have hS1:=hS0.cell (i:=14+s.hv) (v:=.int .u8 (c:Int)) (DcR.last hS0.row hll hv);have b18:w.cell? ⟨d,18,none⟩=some (.int .i64 (s.hv:Nat)):=Row.cell h 18 rfl;have g18:w.frozen? ⟨d,18,none⟩=false:=Row.fz h 18;have ck:w.cell? ⟨d,14+s.hv,none⟩=some (.int .u8 (nth s.last s.hv:Nat)):=DcR.lastAt h hv;have fk:w.frozen? ⟨d,14+s.hv,none⟩=false:=Row.fz h _;have e18:(w.setCell ⟨d,14+s.hv,none⟩ (.int .u8 (c:Int))).cell? ⟨d,18,none⟩=some (.int .i64 (s.hv:Nat)):=Row.cell hS1.row 18 rfl;have hS2:=hS1.cell (i:=18) (v:=.int .i64 (v2:Int)) (s':={ s with last:=s.last.set s.hv c,hv:=v2 }) (by rw[←hv2];exact Row.set hS1.row 18 _);have u18:((w.setCell ⟨d,14+s.hv,none⟩ (.int .u8 (c:Int))).setCell ⟨d,18,none⟩ (.int .i64 (v2:Int))).cell? ⟨d,18,none⟩=some (.int .i64 (v2:Int)):=Row.cell hS2.row 18 rfl;have hkk:Steady 0 zff w ((w.setCell ⟨d,14+s.hv,none⟩ (.int .u8 (c:Int))).setCell ⟨d,18,none⟩ (.int .i64 (v2:Int))):=(DcR.knt hS0.row (qh _ d _ _)).trans (DcR.knt hS1.row (qh _ d _ _));have HK2:=hid (show KnosM ((w.setCell ⟨d,14+s.hv,none⟩ (.int .u8 (c:Int))).setCell ⟨d,18,none⟩ (.int .i64 (v2:Int))) F y s.out from hK.steady hkk);have Hst:=hid hst;by_cases h3:s.hv<3
 · have hd:decide ((v2:Int)<4)=true:=by rw[decide_eq_true_iff];omega
   have hd2:decide (v2<4)=true:=by rw[decide_eq_true_iff];omega
   have HN:=hid (show zbw s c={ s with last:=s.last.set s.hv c,hv:=v2 } from by rw[←hv2];unfold zbw;rw[if_pos h3]);have HS3:=hid (hS2.later (Below.refl _ _).drew);have HK3:=hid (HK2.out.later (Below.refl _ _).drew);have Hkk:=hid (hkk.trans (Steady.of_below (Below.refl _ _).drew));clear hkk;clear h hK hR hst hS0 hS1 hS2 h3 hv hla hv2;go_enter Tryz.func107,Tryz.ntmps107;go_upto_region 0 with fail
   go_region
   go_wp2_with fail;go_end0
   exact⟨rfl,HS3.out.lo,y,by rw[HN.out];exact HS3.out.row,by rw[HN.out];exact HK3.out,fun _=>⟨HS3.out.keep,Hkk.out⟩⟩
 · obtain⟨hR1,hR2,hR3⟩:=hR (by omega);have e3:s.hv=3:=by omega
   have hd:decide ((v2:Int)<4)=false:=by rw[decide_eq_false_iff_not];omega
   have hd2:decide (v2<4)=false:=by rw[decide_eq_false_iff_not];omega
   have hbl:∀x∈s.last.set s.hv c,x<256:=by
    obtain⟨l0,l1,l2,l3,h4⟩:=z1l hll;have:=hla e3;rw[e3,h4];rw[h4] at this;intro x hx;simp at hx this;omega
   have hS2':∀W,Below ((w.setCell ⟨d,14+s.hv,none⟩ (.int .u8 (c:Int))).setCell ⟨d,18,none⟩ (.int .i64 (v2:Int))).heap.size ((w.setCell ⟨d,14+s.hv,none⟩ (.int .u8 (c:Int))).setCell ⟨d,18,none⟩ (.int .i64 (v2:Int))) W→Stp w w F d L { s with last:=s.last.set s.hv c,hv:=v2 } (some ⟨R,0,none⟩) y W:=fun W hb=>hS2.later hb
   have HSw:=hid hS2';have HRk:=hid (fun W (hk:KeepR w W)=>hR1.keepR hk);have Hslt:=hid (zgx hp);have Hll:Hid ((s.last.set s.hv c).length=4):=hid (by rw[List.length_set];exact hll);have Hbl:=hid hbl;have HRt:=hid (show s.ws.tag=4∧zo s.ws.l∧s.hv=3∧s.out.length≤900000000000∧F≤w.heap.size from⟨hR2,hR3,e3,hol,hF⟩);have HK2w:=hid (fun W (hb:Below ((w.setCell ⟨d,14+s.hv,none⟩ (.int .u8 (c:Int))).setCell ⟨d,18,none⟩ (.int .i64 (v2:Int))).heap.size ((w.setCell ⟨d,14+s.hv,none⟩ (.int .u8 (c:Int))).setCell ⟨d,18,none⟩ (.int .i64 (v2:Int))) W)=>HK2.out.later hb);have Hv2:=hid hv2;clear h hK hR hR1 hR2 hR3 hst hS0 hS1 hS2 hS2' hv hla hbl hp hll hF e3 hv2 h3 hkk;obtain⟨sA,hsA⟩:∃sA:Dc,{ s with last:=s.last.set s.hv c,hv:=v2 }=sA:=⟨_,rfl⟩;rw[hsA] at HSw;obtain⟨tA,htA⟩:∃tA,zki (jo (sum s.pl))=tA:=⟨_,rfl⟩;obtain⟨tB,htB⟩:∃tB,zki (s.last.set s.hv c)=tB:=⟨_,rfl⟩
   have cvL:∀W,DcR W d L sA (some ⟨R,0,none⟩) y→(convert 22 9 (.slice (some ⟨d,14,none⟩) 4 4)).run Tryz.prog W=.ok (.string tB) W:=fun W h=>by
    rw[←hsA] at h;rw[←htB];exact z1k (DcR.bytes h Hll.out Hbl.out) (by decide)
   have q13:∀W,DcR W d L sA (some ⟨R,0,none⟩) y→W.cell? ⟨d,13,none⟩=some (.int .u32 (sum s.pl:Nat)):=fun W h=>by rw[←hsA] at h;exact Row.cell h 13 rfl
   have Htt:=hid (show jo (sum s.pl)=s.last.set s.hv c↔tA=tB from⟨fun e=>by rw[←htA,←htB,e],fun e=>yef (zht Hslt.out) Hbl.out (by rw[htA,htB,e])⟩);have HsA:=hid hsA;have HtA:=hid htA;clear hsA htA htB;go_enter Tryz.func107,Tryz.ntmps107;go_upto_region 0 with fail
   go_region
   go_upto_region 3 with fail
   clear b18 ck fk e18 g18 u18 h0 h04 hd hd2;generalize ((w.setCell ⟨d,14+s.hv,none⟩ (.int .u8 (c:Int))).setCell ⟨d,18,none⟩ (.int .i64 (v2:Int)))=w2 at*;go_cut [36] (fun v wc=>v=.bool (!(tA.toList == tB.toList))∧Hid (Below w2.heap.size w2 wc))
   case first=>
    have HSd:=hid (HSw.out _ (Below.refl w2.heap.size w2).drew.drew);have Hc13:=hid (q13 _ HSd.out.row);have cvLd:=cvL _ HSd.out.row;have CvL:=hid cvL;clear cvL q13
    go_region_with (first
     | (go_at_call 172
        refine(z0i ⟨d,13,none⟩ (sum s.pl) w2.drew.drew Hc13.out).mono ?_
        rintro e w4 ⟨rfl,rfl⟩)
     | (go_at_call 127
        refine(zox (.slice none 0 0) 0 w2.drew.drew.heap.size [] (sum s.pl) w2.drew.drew Hslt.out (World.ownsRow_nil _ _ _ _) (Nat.le_refl _) (by omega)).mono ?_;rintro e w5 ⟨v5,rfl,ho5,hg5⟩;have hb5:=zfs (Below.refl w2.drew.drew.heap.size w2.drew.drew) hg5;obtain⟨a5,c5,rfl,hB5⟩:=zbk (l:=jo (sum s.pl)) ho5 (zht Hslt.out);have cv5:=z1k hB5 (by decide);rw[HtA.out] at cv5;have Hb5:=hid (show Below w2.heap.size w2 w5 from(Below.refl w2.heap.size w2).drew.drew.trans hb5);have cvL5:=CvL.out _ (HSw.out _ Hb5.out).row;clear ho5 hg5 hb5 hB5))
    all_goals
     clear cvLd cv5 cvL5;go_wp2_with fail;go_meet
     exact⟨rfl,Hb5⟩
   case rest=>
    obtain⟨rfl,Hb3⟩:=hcut;clear cvL q13;by_cases hAB:tA=tB
    · have hde:(tA.toList == tB.toList)=true:=by rw[hAB];exact beq_self_eq_true _
      have Hsum:=hid (Htt.out.2 hAB);rw[hde];clear hAB hde;have HS3:=hid (HSw.out _ Hb3.out);have HK3:=hid (HK2w.out _ Hb3.out);have k24:wc.cell? ⟨d,24,none⟩=some (.int .i64 (s.sn:Nat)):=by have:=HS3.out.row;rw[←HsA.out] at this;exact Row.cell this 24 rfl
      have f24:=Row.fz HS3.out.row 24;have HS5:=hid (HS3.out.cell (i:=24) (v:=.int .i64 ((s.sn+1:Nat):Int)) (s':={ s with last:=s.last.set s.hv c,hv:=v2,sn:=s.sn+1 }) (by have:=HS3.out.row;rw[←HsA.out] at this;exact Row.set this 24 _));have HK5:=hid (HK3.out.steady (DcR.knt HS3.out.row (qh wc d 24 (.int .i64 ((s.sn+1:Nat):Int)))));go_upto_region 6 with fail
      rw[show (s.sn:Int)+1=((s.sn+1:Nat):Int) from rfl];generalize wc.setCell ⟨d,24,none⟩ (.int .i64 ((s.sn+1:Nat):Int))=w5 at*;clear k24 f24;obtain⟨sB,hsB⟩:∃sB:Dc,{ s with last:=s.last.set s.hv c,hv:=v2,sn:=s.sn+1 }=sB:=⟨_,rfl⟩;rw[hsB] at HS5;have HsB:=hid hsB;have HSd:=hid (HS5.out.later (Below.refl w5.heap.size w5).drew);have HKd:=hid (HK5.out.later (Below.refl w5.heap.size w5).drew);have HRd:=hid (HRk.out _ HSd.out.keep);have c12:w5.cell? ⟨d,12,none⟩=some (.pointer (some ⟨R,0,none⟩)):=Row.cell HS5.out.row 12 rfl;have c23:w5.cell? ⟨d,23,none⟩=some y:=Row.cell HS5.out.row 23 rfl;clear hsB
      go_region_law (first
       | (refine yeh rfl (.tmp 59) (.tmp 65) rfl rfl y (.slice (some ⟨w6.heap.size,0,none⟩) 1 1) rfl rfl _ w7 hrun ?_)
       | (go_simp
          go_at_call 43
          refine(z00 w5.drew base R L s.ws HRd.out HRt.out.1 HRt.out.2.1).mono ?_;rintro e w6 ⟨⟨K,rfl,hKn⟩,hb6⟩;have hM6:=HKd.out.later hb6;have hz6:F≤w6.heap.size:=Nat.le_trans HSd.out.sz hb6.size;obtain⟨V',w7,hrun,hkn7,Ks,hown,hg7⟩:=zs1 hM6 hKn HRt.out.2.2.2.1 hz6;obtain⟨ak,ck,rfl,-⟩:=hKn.frags;obtain⟨av,cv,rfl⟩:=hkn7.slice;have hal:=(Below.refl w6.heap.size w6).alloc (Nat.le_refl _) (.cells #[.slice ak (qj s.ws.vs s.ws.l s.ws.ix).length ck] 48);have r6:=Row.later HSd.out.row hb6;have r6a:=Row.later r6 hal;have r7:=Row.grown r6a hg7 fun e=>Row.ne_own r6a hown (by decide) _ e.symm rfl
          have Hlo:=hid (show Lo F d w w7 from HSd.out.lo.trans ((Lo.of_below hb6 HSd.out.sz).trans ((Lo.of_below hal hz6).trans (Lo.of_own hown hg7 (Nat.le_refl _) (Nat.le_trans hz6 hal.size)))));have Hz7:=hid (show F≤w7.heap.size from Nat.le_trans hz6 (Nat.le_trans hal.size hg7.size));have H7:=hid r7;have HK7:=hid hkn7;have d23:w6.cell? ⟨d,23,none⟩=some y:=Row.cell r6 23 rfl;have e23:(w6.alloc (.cells #[.slice ak (qj s.ws.vs s.ws.l s.ws.ix).length ck] 48)).cell? ⟨d,23,none⟩=some y:=Row.cell r6a 23 rfl;have z23:w7.cell? ⟨d,23,none⟩=some y:=Row.cell r7 23 rfl;have f23:w7.frozen? ⟨d,23,none⟩=false:=Row.fz r7 23;clear hM6 hz6 hkn7 hown hg7 hal r6 r6a r7 hKn hb6))
      all_goals
       clear c12 c23 d23 e23 hrun;have hk7:=HK7.out;rw[List.length_append,List.length_singleton] at hk7;have r8:DcR (w7.setCell ⟨d,23,none⟩ (.slice av (s.out.length+1) cv)) d L sB (some ⟨R,0,none⟩) (.slice av (s.out.length+1) cv):=Row.set H7.out 23 _;have hk8:=hk7.steady (DcR.knt H7.out (qh w7 d 23 (.slice av (s.out.length+1) cv)));have Hlo8:=hid (Hlo.out.trans (Lo.of_grown (qh w7 d 23 (.slice av (s.out.length+1) cv)) Hz7.out));have H8:=hid r8;have HK8:=hid hk8;have Hz8:=hid (show F≤(w7.setCell ⟨d,23,none⟩ (.slice av (s.out.length+1) cv)).heap.size from Nat.le_trans Hz7.out (qh w7 d 23 (.slice av (s.out.length+1) cv)).size);clear hk7 r8 hk8 z23 f23 HK7 H7 Hlo Hz7;generalize w7.setCell ⟨d,23,none⟩ (.slice av (s.out.length+1) cv)=w8 at*;rw[←HsB.out] at H8;have k19:=Row.cell H8.out 19 rfl;have k5:=Row.cell H8.out 5 rfl;have f5:=Row.fz H8.out 5;have r5:DcR (w8.setCell ⟨d,5,none⟩ (.int .i64 0)) d L { s with last:=s.last.set s.hv c,hv:=v2,sn:=s.sn+1,st:=0 } (some ⟨R,0,none⟩) (.slice av (s.out.length+1) cv):=Row.set H8.out 5 _;have k6:=Row.cell r5 6 rfl;have f6:=Row.fz r5 6;have r6:DcR ((w8.setCell ⟨d,5,none⟩ (.int .i64 0)).setCell ⟨d,6,none⟩ (.int .i64 0)) d L { s with last:=s.last.set s.hv c,hv:=v2,sn:=s.sn+1,st:=0,hd:=0 } (some ⟨R,0,none⟩) (.slice av (s.out.length+1) cv):=Row.set r5 6 _;have k20:=Row.cell r6 20 rfl;have f20:=Row.fz r6 20;have r20:DcR (((w8.setCell ⟨d,5,none⟩ (.int .i64 0)).setCell ⟨d,6,none⟩ (.int .i64 0)).setCell ⟨d,20,none⟩ (.int .i64 (s.tk:Nat))) d L { s with last:=s.last.set s.hv c,hv:=v2,sn:=s.sn+1,st:=0,hd:=0,fin:=s.tk } (some ⟨R,0,none⟩) (.slice av (s.out.length+1) cv):=Row.set r6 20 _;have hg:=zw (zw (qh w8 d 5 (.int .i64 0)) (qh _ d 6 (.int .i64 0))) (qh _ d 20 (.int .i64 (s.tk:Nat)));have H20:=hid r20;have HK20:=hid (HK8.out.steady (DcR.knt H8.out hg));have Hlo20:=hid (Hlo8.out.trans (Lo.of_grown hg Hz8.out));have Hz20:=hid (Nat.le_trans Hz8.out hg.size);clear r5 r6 r20 hg;go_upto_region 8 with fail
       generalize ((w8.setCell ⟨d,5,none⟩ (.int .i64 0)).setCell ⟨d,6,none⟩ (.int .i64 0)).setCell ⟨d,20,none⟩ (.int .i64 (s.tk:Nat))=w9 at*;clear k19 k5 f5 k6 f6 k20 f20;have k20:=Row.cell H20.out 20 rfl;have k21:=Row.cell H20.out 21 rfl;have f21:=Row.fz H20.out 21;have r21:DcR (w9.setCell ⟨d,21,none⟩ (.int .i64 0)) d L { s with last:=s.last.set s.hv c,hv:=v2,sn:=s.sn+1,st:=0,hd:=0,fin:=s.tk,vc:=0 } (some ⟨R,0,none⟩) (.slice av (s.out.length+1) cv):=Row.set H20.out 21 _;have k22:=Row.cell r21 22 rfl;have f22:=Row.fz r21 22;have m22:=Row.cell H20.out 22 rfl;have n22:=Row.fz H20.out 22;have r22:DcR ((w9.setCell ⟨d,21,none⟩ (.int .i64 0)).setCell ⟨d,22,none⟩ (.int .i64 (s.tk:Nat))) d L { s with last:=s.last.set s.hv c,hv:=v2,sn:=s.sn+1,st:=0,hd:=0,fin:=s.tk,vc:=0,vo:=s.tk } (some ⟨R,0,none⟩) (.slice av (s.out.length+1) cv):=Row.set r21 22 _;have hg:=zw (qh w9 d 21 (.int .i64 0)) (qh _ d 22 (.int .i64 (s.tk:Nat)));have H22:=hid r22;have HK22:=hid (HK20.out.steady (DcR.knt H20.out hg));have Hlo22:=hid (Hlo20.out.trans (Lo.of_grown hg Hz20.out));clear r21 r22 hg;go_wp2_with fail;go_end0
       have HN:=hid (show zbw s c={ s with last:=s.last.set s.hv c,hv:=v2,sn:=s.sn+1,st:=0,hd:=0,fin:=s.tk,vc:=0,vo:=s.tk,out:=s.out++[qj s.ws.vs s.ws.l s.ws.ix] } from by
        unfold zbw;rw[if_neg (by have:=HRt.out;omega),if_pos Hsum.out,Hv2.out])
       refine⟨rfl,Hlo22.out,_,by rw[HN.out];exact H22.out,by rw[HN.out];exact HK22.out,fun e=>?_⟩;rw[HN.out] at e;cases e
    · have hde:(tA.toList == tB.toList)=false:=yeg hAB;have Hsum:=hid (fun e=>hAB (Htt.out.1 e));rw[hde];clear hAB hde;have hsub:IntKind.i64.wrap ((s.tk:Int) - (v2:Int))=((s.tk - 4:Nat):Int):=by have:=Hv2.out;have:=HRt.out;rw[IntKind.wrap_i64];omega
      have HS3:=hid (HSw.out _ Hb3.out);have HK3:=hid (HK2w.out _ Hb3.out);have hSb:=(HSw.out _ Hb3.out.drew).row;have hS3:DcR wc d L { s with last:=s.last.set s.hv c,hv:=v2 } (some ⟨R,0,none⟩) y:=by rw[HsA.out];exact HS3.out.row
      have a19:wc.cell? ⟨d,19,none⟩=some (.int .i64 (s.tk:Nat)):=Row.cell hS3 19 rfl;have a18:wc.cell? ⟨d,18,none⟩=some (.int .i64 (v2:Nat)):=Row.cell hS3 18 rfl;have b19:wc.drew.cell? ⟨d,19,none⟩=some (.int .i64 (s.tk:Nat)):=a19;have b18:wc.drew.cell? ⟨d,18,none⟩=some (.int .i64 (v2:Nat)):=a18;have HF:=hid (zh2 hSb 14 (s.tk - 4));clear hSb hS3;go_upto_region 4 with fail
      go_region_held3 (fun W=>W.cell? ⟨d,19,none⟩=some (.int .i64 (s.tk:Nat))∧W.cell? ⟨d,18,none⟩=some (.int .i64 (v2:Nat))) (first | exact⟨a19,a18⟩ | exact⟨b19,b18⟩ | exact⟨c19,c18⟩) (first
       | (go_at_call 165
          refine HF.out.mono ?_;rintro e w6 ⟨rfl,hg6,h6⟩;rw[←HsA.out] at h6;have c19:w6.cell? ⟨d,19,none⟩=some (.int .i64 (s.tk:Nat)):=Row.cell h6 19 rfl;have c18:w6.cell? ⟨d,18,none⟩=some (.int .i64 (v2:Nat)):=Row.cell h6 18 rfl;have Hg6:=hid hg6;have H6:=hid h6;clear hg6 h6))
      clear a19 a18 b19 b18 c19 c18;go_wp2_with fail;go_end0
      have HN:=hid (show zbw s c=({ s with last:=s.last.set s.hv c,hv:=v2 }:Dc).bad 14 (s.tk - 4) from by
       unfold zbw;rw[if_neg (by have:=HRt.out;omega),if_neg Hsum.out,Hv2.out]
       rfl)
      have HSe:=(HSw.out _ Hb3.out.drew).move Hg6.out (s':=({ s with last:=s.last.set s.hv c,hv:=v2 }:Dc).bad 14 (s.tk - 4)) H6.out;have HKe:=(HK2w.out _ Hb3.out.drew).steady (DcR.knt (HSw.out _ Hb3.out.drew).row Hg6.out);refine⟨rfl,HSe.lo,y,by rw[HN.out];exact HSe.row,by rw[HN.out];exact HKe,fun e=>?_⟩;rw[HN.out] at e;cases e
end
section
open Go.RowKit
attribute [local go_sem] y9 Tryz.eqGuard_if
theorem yek (s:Dc):s.void.st=4∨s.void=s:=by
 unfold Dc.void;split
 · exact .inl rfl
 · exact .inr rfl
theorem yel {s:Dc} {c:Nat} (h:s.st=0):¬((zbe s c).st=2∨(zbe s c).st=3):=by
 unfold zbe;split
 · rintro(h | h) <;> cases h
 · split
   · rintro(h | h) <;> cases h
   · rintro(h' | h') <;> exact absurd (h.symm.trans h') (by decide)
theorem yem {L:zc} {s:Dc} {c:Nat} (h:s.st=1):(za6 L s c).st≠3:=by
 unfold za6;split
 · intro h';exact absurd (h.symm.trans h') (by decide)
 · split
   · intro h';cases h'
   · rcases yek ({ s.more c with sn:=s.sn+1,st:=2,left:=y8 s.nx s.nn c,ws:=ws0,pl:=[] }:Dc).next with h' | h'
     · rw[h'];decide
     · rw[h'];show ¬2=3;decide
 · intro h';cases h'
theorem z1m {s:Dc} {c:Nat} (h:s.st=3):(zbw s c).st≠2:=by
 unfold zbw;split
 · intro h';exact absurd (h.symm.trans h') (by decide)
 · split <;> (intro h';cases h')
theorem yen (s:Dc) (c:Nat):(zbw s c).ws=s.ws:=by
 unfold zbw;split
 · rfl
 · split <;> rfl
theorem z1n (s:Dc) (c:Nat):(zbe s c).out=s.out:=by
 unfold zbe;split
 · rfl
 · split <;> rfl
theorem ztf (L:zc) (s:Dc) (c:Nat):(za6 L s c).out=s.out:=by
 unfold za6;split
 · rfl
 · split
   · rfl
   · rw[zfe];rfl
 · rfl
theorem ztg (L:zc) (s:Dc) (c:Nat):(zbf L s c).out=s.out:=by
 unfold zbf;split
 · rw[zfe];rfl
 · exact(z1d _ _).2.2.2
 · rfl
def zpe (w:World) (B F d:Nat) (L:zc) (t:List Nat) (s:Dc) (ks:List Kno) (es:List Nat) (c:Nat) (e:Ending) (w':World):Prop:=
 e=.returned (.tuple #[])∧(Lo B d w w'∧Ty F d w w')∧F≤w'.heap.size∧∃ms fs vp y,MidM w' B F d L (t++[c]) (jr L s c) (ks++ms) (es++fs) vp y∧(jr L s c).out=s.out++ms
structure PreM (w:World) (B F d:Nat) (L:zc) (t:List Nat) (s:Dc) (ks:List Kno) (es:List Nat) (vp:Option Addr) (y:Value):Prop where
 row:DcR w d L (zu s) vp y
 si:SI L t s ks es
 lt:∀c∈t,c<256
 kn:KnosM w F y s.out
 rd:s.st=2∨s.st=3→z03 w B F L s vp y
 bf:B≤F
 fw:F≤w.heap.size
 db:d<B
 lb:0<B
 ld:0≠d
 door:Door w
 lims:LimsI L
 tl:t.length≤800000000000
 sn:s.sn≤9000000000000
 ol:s.out.length≤900000000000
variable {w:World} {B F d:Nat} {L:zc} {t:List Nat} {s:Dc} {ks:List Kno} {es:List Nat} {vp:Option Addr} {y:Value} {c:Nat}
theorem yeo (h:PreM w B F d L t s ks es vp y) (hc:c<256) (h0:s.st=0):Calls Tryz.prog 104 #[.pointer (some ⟨d,0,none⟩),.int .u8 (c:Int)] w (zpe w B F d L t s ks es c):=by
 have hI:=h.si.s0 h0;refine(yd6 h.row hc h0 hI.hd (by show 1≤s.tk+1;omega) (by show s.tk+1≤_;have:=h.si.tk;have:=h.tl;omega)).mono ?_;rintro e w' ⟨rfl,hg,hr⟩;have hd:jr L s c=zbe (zu s) c:=by unfold jr;rw[h0];rfl
 have hk:=DcR.knt h.row hg;refine⟨rfl,⟨Lo.of_grown hg (Nat.le_trans h.bf h.fw),.of_grown hg⟩,Nat.le_trans h.fw hg.size,[],[],vp,y,?_,by rw[hd,z1n,List.append_nil];rfl⟩;rw[hd,List.append_nil,List.append_nil];exact⟨hr,z0q h.lt h.si h0,lt1 h.lt hc,by rw[z1n];exact h.kn.steady hk,fun e=>absurd e (yel h0)⟩
theorem yep (h:PreM w B F d L t s ks es vp y) (hc:c<256) (h0:s.st=1):Calls Tryz.prog 105 #[.pointer (some ⟨d,0,none⟩),.int .u8 (c:Int)] w (zpe w B F d L t s ks es c):=by
 have hI:=h.si.s1 h0;refine(yeb h.row hc h.lims h0 hI.ns hI.num.x hI.num.n (by show s.sn+1≤_;have:=h.sn;omega)).mono ?_;rintro e w' ⟨rfl,hg,vp',hr,hq⟩;have hd:jr L s c=za6 L (zu s) c:=by unfold jr;rw[h0];rfl
 have hk:=DcR.knt h.row hg;refine⟨rfl,⟨Lo.of_grown hg (Nat.le_trans h.bf h.fw),.of_grown hg⟩,Nat.le_trans h.fw hg.size,[],[],vp',y,?_,by rw[hd,ztf,List.append_nil];rfl⟩;rw[hd,List.append_nil,List.append_nil];refine⟨hr,z0r h.lt hc h.si h0,lt1 h.lt hc,by rw[ztf];exact h.kn.steady hk,fun e=>?_⟩;have e2:(za6 L (zu s) c).st=2:=e.resolve_right (yem h0);obtain⟨e3,base,R,k1,k2,k3,k4⟩:=hq e2;exact⟨base,R,w,fun _=>⟨Nat.le_trans (Nat.le_trans h.bf h.fw) k1,k1⟩,k2,k3,by rw[e3];exact k4,by rw[ztf];exact h.kn,hk⟩
theorem yeq (h:PreM w B F d L t s ks es vp y) (hc:c<256) (h0:s.st=2):Calls Tryz.prog 106 #[.pointer (some ⟨d,0,none⟩),.int .u8 (c:Int)] w (zpe w B F d L t s ks es c):=by
 obtain⟨n,s0,hI⟩:=h.si.s2 h0;obtain⟨base,R,wb,hB,hbw,rfl,hR,hK,hS⟩:=h.rd (.inl h0);obtain⟨hB1,hB2⟩:=hB h0;have hho:=zfd h.lt hI.head;have hln:=hI.len;have hnl:=hI.num.len;have htk:=h.si.tk;have htl:=h.tl;have hlf:=hI.left;have hL1:=h.lims.a.2;have hnn:n≤9223372036854775807:=by have:=hho.2.2.2.1;omega
 have hE:(zu s).tk+((zu s).left - 1)=s0+n:=by show s.tk+1+(s.left - 1)=_;omega
 refine(yee h.row hR (by have:=h.db;omega) hbw hc h.door (by have:=h.lb;omega) h.ld h0 hI.ns hI.num.x hI.num.n hI.left (by show s.left≤_;omega) (by show s.sn+1≤_;have:=h.sn;omega)
  (fun x hx=>by have hx:x∈s.pl:=hx;rw[hI.pl] at hx;exact h.lt x (List.mem_of_mem_drop hx)) (fun hs=>?_) (fun s' hs=>(zgs hI.rd.inv hI.rd.tag hs).tag)).mono ?_
 · have htok:=hI.num.tokD (E:=s0+n) (by omega) hs [];rw[List.append_nil] at htok;obtain⟨t1,t2,t3,t4,t5⟩:=zap (lt1 h.lt hc) htok;rw[hE];show StepOk L s.ws (s0+n) (y8 s.nx s.nn c) s.frm (s.tk+1);rw[htk];exact hI.rd.ok h.lims t4 (by omega) t3 (by omega) (by omega)
 rintro e w' ⟨rfl,⟨hlo,hty⟩,hr,hq⟩;have hd:jr L s c=zbf L (zu s) c:=by unfold jr;rw[h0];rfl
 have hS':=hS.lo hlo hB2 h.row (by unfold zff jw;decide);refine⟨rfl,⟨hlo.mono hB1,hty F⟩,Nat.le_trans h.fw hlo.size,[],[],some ⟨R,0,none⟩,y,?_,by rw[hd,ztg,List.append_nil];rfl⟩;rw[hd,List.append_nil,List.append_nil];exact⟨hr,z0s h.lt hc h.si h0,lt1 h.lt hc,by rw[ztg];exact hK.steady hS',fun e=>⟨base,R,wb,fun _=>⟨hB1,hB2⟩,Nat.le_trans hbw hlo.size,rfl,hq e,by rw[ztg];exact hK,hS'⟩⟩
theorem yer (h:PreM w B F d L t s ks es vp y) (hc:c<256) (h0:s.st=3):Calls Tryz.prog 107 #[.pointer (some ⟨d,0,none⟩),.int .u8 (c:Int)] w (zpe w B F d L t s ks es c):=by
 obtain⟨n,s0,hI⟩:=h.si.s3 h0;obtain⟨base,R,wb,hB,hbw,rfl,hR,hK,hS⟩:=h.rd (.inr h0);have hho:=zfd h.lt hI.head;have hln:=hI.len;have htk:=h.si.tk;have htl:=h.tl;refine(yej (base:=base) h.row (Nat.lt_of_lt_of_le h.db h.bf) h.fw h.kn h.ol (fun _=>⟨hR,hI.tag,hI.l64⟩) hc h0 hI.hv hI.ll (fun hv x hx=>?_) (fun x hx=>by have hx:x∈s.pl:=hx;rw[hI.pl] at hx;exact h.lt x (List.mem_of_mem_drop (List.mem_of_mem_take hx))) (by show s.sn+1≤_;have:=h.sn;omega) (by show 4≤s.tk+1;omega) (by show s.tk+1≤_;omega)).mono ?_
 · have hv:s.hv=3:=hv;have h3:=hI.last;rw[hv] at h3;have hx:x∈s.last.take 3:=hx;rw[h3] at hx;exact h.lt x (List.mem_of_mem_drop hx)
 rintro e w' ⟨rfl,hlo,y',hr,hk,hq⟩;have hd:jr L s c=zbw (zu s) c:=by unfold jr;rw[h0];rfl
 obtain⟨ms,e1,e2⟩:=z0t h.lt hc h.si h0;refine⟨rfl,⟨hlo.mono h.bf,.of_lo hlo⟩,Nat.le_trans h.fw hlo.size,ms,ms.map fun _=>t.length+1,some ⟨R,0,none⟩,y',?_,by rw[hd];exact e2⟩;rw[hd];refine⟨hr,e1,lt1 h.lt hc,hk,fun e=>?_⟩;have e3:(zbw (zu s) c).st=3:=e.resolve_left (z1m h0);obtain⟨hkr,hst⟩:=hq e3;exact⟨base,R,w',fun e=>absurd e (z1m h0),Nat.le_trans hbw hlo.size,rfl,by rw[yen];exact hR.keepR hkr,hk,⟨Nat.le_refl _,fun _ _ _=>rfl⟩⟩
end
