/- Part 39. -/
import Derived.Test.YtmfhggnlainmiaaGreatDoorPk38
set_option linter.unusedVariables false
set_option maxHeartbeats 16000000
namespace Go.Proofs.YtmfhggnlainmiaaGreatDoor
open Lib (hid)
section
open Go.RowKit
theorem yes (P:Program) (w:World) (a:Addr) (m:Mode):(store a .nilFunc m).run P w=stored P w a .nilFunc m:=run_store P w a _ m rfl
attribute [local go_sem] y9 yes Tryz.eqGuard_if
abbrev zl9:List Value:=[.func (.func 104) #[] #[],.func (.func 105) #[] #[],.func (.func 106) #[] #[],.func (.func 107) #[] #[],.nilFunc]
theorem yet (w:World):Calls Tryz.prog 62 #[] w fun e w'=>e=.returned (.agg zl9.toArray)∧Below w.heap.size w w':=by
 go_enter Tryz.func62,Tryz.ntmps62;go_wp2;exact bodyPost_ret (v:=.agg zl9.toArray) (by simp[results,Tryz.results62,go_sem]) rfl ⟨rfl,(Below.refl _ _).alloc (Nat.le_refl _) _⟩
theorem zma (L:zc) (w:World):Calls Tryz.prog 16 #[lmV L] w fun e w'=>∃d,w.heap.size≤d∧d<w'.heap.size∧e=.returned (.pointer (some ⟨d,0,none⟩))∧DcR w' d L dc0 none (.slice none 0 0)∧Below w.heap.size w w':=by
 have hal:=(Below.refl w.heap.size w).alloc (Nat.le_refl _) (.cells #[.int .i64 L.1,.int .i64 L.2.1,.int .i64 L.2.2.1,.int .i64 L.2.2.2.1,.int .i64 L.2.2.2.2] 24);have hG:=y7 w 24 [.int .i64 L.1,.int .i64 L.2.1,.int .i64 L.2.2.1,.int .i64 L.2.2.2.1,.int .i64 L.2.2.2.2];have l0:=hG.cell 0 rfl;have l1:=hG.cell 1 rfl;have l2:=hG.cell 2 rfl;have l3:=hG.cell 3 rfl;have l4:=hG.cell 4 rfl;have Hal:=hid hal;unfold lmV;clear hal hG;go_enter Tryz.func16,Tryz.ntmps16;go_wp2;go_ret;have hz:∀o,(w.alloc o).heap.size=w.heap.size+1:=fun o=>by simp
 have hr:=y7 (w.alloc (.cells #[.int .i64 L.1,.int .i64 L.2.1,.int .i64 L.2.2.1,.int .i64 L.2.2.2.1,.int .i64 L.2.2.2.2] 24)) 104 (dcC L dc0 none (.slice none 0 0));rw[hz] at hr;exact⟨w.heap.size+1,by omega,by simp,by first | rfl | simp,hr,Hal.out.alloc (by simp) _⟩
theorem MidM.tick {w:World} {B F d:Nat} {L:zc} {t:List Nat} {s:Dc} {ks:List Kno} {es:List Nat} {vp:Option Addr} {y:Value} (h:MidM w B F d L t s ks es vp y) (hbf:B≤F) (hfw:F≤w.heap.size) (hdb:d<B) (hlb:0<B) (hld:0≠d) (hD:Door w) (hL:LimsI L) (htl:t.length≤800000000000) (hsn:s.sn≤9000000000000) (hol:s.out.length≤900000000000):
 PreM ((w.setCell ⟨d,19,none⟩ (.int .i64 ((s.tk+1:Nat):Int))).setCell ⟨d,24,none⟩ (.int .i64 ((s.sn+1:Nat):Int))) B F d L t s ks es vp y:=by
 have r1:DcR (w.setCell ⟨d,19,none⟩ (.int .i64 ((s.tk+1:Nat):Int))) d L { s with tk:=s.tk+1 } vp y:=Row.set h.row 19 _;have r2:DcR ((w.setCell ⟨d,19,none⟩ (.int .i64 ((s.tk+1:Nat):Int))).setCell ⟨d,24,none⟩ (.int .i64 ((s.sn+1:Nat):Int))) d L (zu s) vp y:=Row.set r1 24 _;have hg:=zw (qh w d 19 (.int .i64 ((s.tk+1:Nat):Int))) (qh _ d 24 (.int .i64 ((s.sn+1:Nat):Int)));have hk:=DcR.knt h.row hg;have hkr:=DcR.keep h.row hg;refine⟨r2,h.si,h.lt,h.kn.steady hk,fun e=>?_,hbf,Nat.le_trans hfw hg.size,hdb,hlb,hld,hD.lo (Lo.of_grown hg (Nat.le_trans hbf hfw)) hlb hld,hL,htl,hsn,hol⟩;obtain⟨base,R,wb,k1,k2,k3,k4,k5,k6⟩:=h.rd e;exact⟨base,R,wb,k1,Nat.le_trans k2 hg.size,k3,k4.keepR hkr,k5,k6.trans hk⟩
structure FeedI (w wr:World) (B Bx F d g n cap q:Nat) (a:Option Addr) (L:zc) (t l:List Nat) (s0:Dc) (ks:List Kno) (es:List Nat):Prop where
 mid:∃t' fs u vp y,MidM wr Bx F d L t' (yk L s0 (l.take q)) (ks++(yk L s0 (l.take q)).out) (es++fs) vp y∧t'++u=t++l.take q∧((yk L s0 (l.take q)).st<4→u=[])
 lo:Lo B d w wr
 ty:Ty w.heap.size d w wr
 fw:F≤wr.heap.size
 door:Door wr
 row:q<n→Row wr g 106 zl9∧Byts wr a n cap l
theorem FeedI.next {w wr wr2 w5:World} {B Bx F d g n cap q:Nat} {a:Option Addr} {L:zc} {t l t' u:List Nat} {s0:Dc} {ks ms:List Kno} {es fs fs':List Nat} {vp:Option Addr} {y:Value} (h:FeedI w wr B Bx F d g n cap q a L t l s0 ks es)
 (hq:q<n) (hl:l.length=n) (hbb:B≤Bx) (hbf:Bx≤F) (hwF:w.heap.size≤F) (hgF:g<F) (hgd:g≠d) (hlb:0<Bx) (hld:0≠d) (hch:n≤1∨∀b o k,a=some ⟨b,o,k⟩→b<Bx∧b≠d)
 (hst:(yk L s0 (l.take q)).st<4) (hg:wr.grownBy wr2 (some d)) (hlo:Lo Bx d wr2 w5∧Ty F d wr2 w5) (hF:F≤w5.heap.size) (htu:t'++u=t++l.take q) (hu:u=[])
 (hM:MidM w5 Bx F d L (t'++[nth l q]) (jr L (yk L s0 (l.take q)) (nth l q)) (ks++(yk L s0 (l.take q)).out++ms) (es++fs++fs') vp y) (ho:(jr L (yk L s0 (l.take q)) (nth l q)).out=(yk L s0 (l.take q)).out++ms):
 FeedI w w5 B Bx F d g n cap (q+1) a L t l s0 ks es:=by
 have hn:yk L s0 (l.take (q+1))=jr L (yk L s0 (l.take q)) (nth l q):=by rw[ydx L s0 (by omega),if_neg (by omega)]
 have h2:=Lo.of_grown (B:=F) hg h.fw;obtain⟨hlo,hty⟩:=hlo;refine⟨⟨t'++[nth l q],fs++fs',[],vp,y,?_,?_,fun _=>rfl⟩,h.lo.trans ((h2.mono (Nat.le_trans hbb hbf)).trans (hlo.mono hbb)),h.ty.trans ((Ty.of_grown hg).trans (hty.mono hwF)),hF,(h.door.lo (h2.mono hbf) hlb hld).lo hlo hlb hld,fun hq1=>?_⟩
 · rw[hn,ho,←List.append_assoc,←List.append_assoc];exact hM
 · subst hu;rw[List.append_nil] at htu ⊢;rw[htu,List.take_add_one,z1b (by omega),List.append_assoc]
   rfl
 · have hx:=hch.resolve_left (by omega);obtain⟨r1,r2⟩:=h.row hq;exact⟨r1.ty ((Ty.of_grown hg).trans hty) hgF hgd (by unfold zav jw;decide),r2.lo ((h2.mono hbf).trans hlo) fun b o k e _=>hx b o k e⟩
def z1o (w:World) (B n d:Nat) (L:zc) (t:List Nat) (s:Dc) (ks:List Kno) (es:List Nat) (V:Value):Prop:=
 ∃B' wb,B≤B'∧B'≤w.heap.size∧DecM w B' d L t s ks es∧wb.heap.size≤B'∧KnosM wb n V s.out∧Steady 0 zff wb w
theorem MidM.old {w W:World} {B F n d:Nat} {L:zc} {t:List Nat} {s:Dc} {ks:List Kno} {es:List Nat} {vp:Option Addr} {y:Value} (h:MidM w B F d L t s ks es vp y) (hB:B≤w.heap.size) (hF:n≤F) (hv:s.vc≤20) (hb:Below w.heap.size w W):z1o W B n d L t s ks es y:=by
 by_cases h2:s.st=2
 · obtain⟨base,R,wb,k1,k2,k3,k4,k5,k6⟩:=h.rd (.inl h2);exact⟨base,wb,(k1 h2).1,Nat.le_trans k2 hb.size,⟨vp,y,Row.later h.row hb,h.si,h.lt,hv,fun _=>⟨base,R,fun _=>Nat.le_refl _,Nat.le_trans k2 hb.size,k3,k4.later hb⟩⟩,(k1 h2).2,k5.mono hF,k6.trans (.of_below hb)⟩
 · refine⟨W.heap.size,W,Nat.le_trans hB hb.size,Nat.le_refl _,⟨vp,y,Row.later h.row hb,h.si,h.lt,hv,fun e=>?_⟩,Nat.le_refl _,(h.kn.later hb).mono hF,⟨Nat.le_refl _,fun _ _ _=>rfl⟩⟩;obtain⟨base,R,wb,k1,k2,k3,k4,k5,k6⟩:=h.rd e;exact⟨base,R,fun e=>absurd e h2,Nat.le_trans k2 hb.size,k3,k4.later hb⟩
def z1p (w:World) (B d:Nat) (L:zc) (t l:List Nat) (s1:Dc) (ks:List Kno) (es:List Nat) (e:Ending) (w':World):Prop:=
 ∃V t' u fs,e=.returned (.tuple #[V,.int .i64 (s1.sn:Nat)])∧KnosM w' w.heap.size V s1.out∧t'++u=t++l∧(s1.st<4→u=[])∧DecM w' B d L t' s1 (ks++s1.out) (es++fs)∧Lo B d w w'∧Ty w.heap.size d w w'∧z1o w' B w.heap.size d L t' s1 (ks++s1.out) (es++fs) V
theorem z1q {w wr W:World} {B Bx F d n q:Nat} {L:zc} {t l t' u:List Nat} {s0 sq:Dc} {ks:List Kno} {es fs:List Nat} {vp:Option Addr} {y:Value} (hl:l.length=n) (hBw:B≤w.heap.size) (hbb:B≤Bx) (hBx:Bx≤wr.heap.size) (hF:w.heap.size≤F)
 (hM:MidM wr Bx F d L t' sq (ks++sq.out) (es++fs) vp y) (htu:t'++u=t++l.take q) (hst:sq.st<4→u=[]) (hsq:yk L s0 (l.take q)=sq) (he:q=n∨sq.st=4) (hlo:Lo B d w wr) (hty:Ty w.heap.size d w wr) (hvc:sq.vc≤20) (hb:Below wr.heap.size wr W):
 z1p w B d L t l (yk L s0 l) ks es (.returned (.tuple #[y,.int .i64 (sq.sn:Nat)])) W:=by
 have hall:yk L s0 l=sq:=by
  rcases he with rfl | h4
  · rw[←hsq,List.take_of_length_le (by omega)]
  · rw[←hsq];exact ydy L s0 (by rw[hsq];exact h4)
 rw[hall];refine⟨y,t',u++l.drop q,fs,rfl,(hM.kn.later hb).mono hF,?_,fun h=>?_,((hM.dec hvc).mono hbb).later hb,hlo.trans (Lo.of_below hb (Nat.le_trans hBw hlo.size)),hty.trans (.of_below hb),by obtain⟨B',wb,k⟩:=hM.old hBx hF hvc hb;exact⟨B',wb,Nat.le_trans hbb k.1,k.2⟩⟩
 · rw[←List.append_assoc,htu,List.append_assoc,List.take_append_drop]
 · rcases he with rfl | h4
   · rw[hst h,List.drop_eq_nil_of_le (by omega)];rfl
   · omega
set_option maxRecDepth 20000 in
theorem zg3 {w:World} {B d:Nat} {L:zc} {t:List Nat} {s:Dc} {ks:List Kno} {es:List Nat} (h:DecM w B d L t s ks es) (hBw:B≤w.heap.size) (hdb:d<B) (hlb:0<B) (hld:0≠d) (hD:Door w) (hL:LimsI L)
 (a:Option Addr) (n cap:Nat) (l:List Nat) (hC:Byts w a n cap l) (hcd:0<n→∀b o k,a=some ⟨b,o,k⟩→b≠d) (hx:n≤1∨∀b o k,a=some ⟨b,o,k⟩→b<B) (hT:t.length+n≤800000000000):
 Calls Tryz.prog 17 #[.pointer (some ⟨d,0,none⟩),.slice a n cap] w (z1p w B d L t l (yk L { s with out:=[],sn:=0 } l) ks es):=by
 obtain⟨vp,y,hr,hsi,hlt,hvc,hrd⟩:=h;have hlen:=hC.len;have HA:=hid (fun W=>yet W);have k23:w.cell? ⟨d,23,none⟩=some y:=Row.cell hr 23 rfl;have f23:=Row.fz hr 23;have r1:DcR (w.setCell ⟨d,23,none⟩ (.slice none 0 0)) d L { s with out:=[] } vp (.slice none 0 0):=Row.set hr 23 _;have k24:(w.setCell ⟨d,23,none⟩ (.slice none 0 0)).cell? ⟨d,24,none⟩=some (.int .i64 (s.sn:Nat)):=Row.cell r1 24 rfl;have f24:=Row.fz r1 24;have r2:DcR ((w.setCell ⟨d,23,none⟩ (.slice none 0 0)).setCell ⟨d,24,none⟩ (.int .i64 0)) d L { s with out:=[],sn:=0 } vp (.slice none 0 0):=Row.set r1 24 _;have hg2:=zw (qh w d 23 (.slice none 0 0)) (qh _ d 24 (.int .i64 0));have HR:=hid hr;have HR2:=hid r2;have Hg2:=hid hg2;have Hsi:=hid hsi;have Hrd:=hid hrd;have Hlt:=hid hlt;have HC:=hid hC;have HD:=hid hD;have HL:=hid hL;obtain⟨s0,hs0⟩:∃s0,{ s with out:=[],sn:=0 }=s0:=⟨_,rfl⟩;have Hs0:=hid hs0;have Hvc:=hid hvc;have Hx:=hid hx;have Hcd:=hid hcd;have HT:=hid hT;have Hnum:=hid (show B≤w.heap.size∧d<B∧l.length=n from⟨hBw,hdb,hlen⟩);rw[hs0];clear hr hsi hrd hlt r1 r2 hg2 hC hD hL hs0 hvc hx hcd hT hBw hlen;go_enter Tryz.func17,Tryz.ntmps17;go_upto_region 4 with fail
 generalize (w.setCell ⟨d,23,none⟩ (.slice none 0 0)).setCell ⟨d,24,none⟩ (.int .i64 0)=w2 at*;clear k23 f23 k24 f24;go_wp2_with fail;refine(HA.out _).mono ?_;rintro e w3 ⟨rfl,hb3⟩;have Hb3:=hid hb3;clear hb3;go_wp2_with fail;obtain⟨w4,hw4⟩:∃w4,w3.alloc (.cells #[.func (.func 104) #[] #[],.func (.func 105) #[] #[],.func (.func 106) #[] #[],.func (.func 107) #[] #[],.nilFunc] 106)=w4:=⟨_,rfl⟩;rw[hw4];have hal:=(Below.refl w3.heap.size w3).alloc (Nat.le_refl _) (.cells #[.func (.func 104) #[] #[],.func (.func 105) #[] #[],.func (.func 106) #[] #[],.func (.func 107) #[] #[],.nilFunc] 106);rw[hw4] at hal;have hrow:Row w4 w3.heap.size 106 zl9:=by rw[←hw4];exact y7 w3 _ zl9
 have hz4:w4.heap.size=w3.heap.size+1:=by rw[←hw4];simp
 have hb24:Below w2.heap.size w2 w4:=Hb3.out.trans (hal.mono Hb3.out.size);have hzw:w.heap.size≤w3.heap.size:=Nat.le_trans Hg2.out.size Hb3.out.size;obtain⟨g,hg⟩:∃g,w3.heap.size=g:=⟨_,rfl⟩;rw[hg] at hrow hz4 hzw ⊢;clear hal hw4;obtain⟨Bx,hBx⟩:∃Bx,B=Bx:=⟨_,rfl⟩;have hB1:B≤Bx:=by omega
 have hB2:Bx≤g+1:=by have:=Hnum.out;omega
 have hS0:SI L t s0 ks es:=by rw[←Hs0.out];exact Hsi.out.fresh [] 0
 have hvc0:s0.vc≤20:=by rw[←Hs0.out];exact Hvc.out
 have hsn0:s0.sn=0∧s0.out=[]:=by rw[←Hs0.out];exact⟨rfl,rfl⟩
 have hK0:KeepR w w4:=(DcR.keep HR.out Hg2.out).trans (.of_below hb24)
 have hI0:FeedI w w4 B Bx (g+1) d g n cap 0 a L t l s0 ks es:=by
  have hlo:Lo B d w w4:=(Lo.of_grown Hg2.out Hnum.out.1).trans (Lo.of_below hb24 (Nat.le_trans Hnum.out.1 Hg2.out.size));refine⟨⟨t,[],[],vp,.slice none 0 0,⟨?_,?_,Hlt.out,?_,?_⟩,by rw[List.take_zero],fun _=>rfl⟩,hlo,(Ty.of_grown Hg2.out).trans (.of_below hb24),by omega,HD.out.lo hlo hlb hld,fun hq=>⟨hrow,?_⟩⟩
  · show DcR w4 d L s0 vp (.slice none 0 0);rw[←Hs0.out];exact Row.later HR2.out hb24
  · show SI L t s0 (ks++s0.out) (es++[]);rw[hsn0.2,List.append_nil,List.append_nil];exact hS0
  · show KnosM w4 (g+1) (.slice none 0 0) s0.out;rw[hsn0.2];exact zl5 _ _
  · intro e;have e':s.st=2∨s.st=3:=by rw[←Hs0.out] at e;exact e
    obtain⟨base,R,k1,k2,k3,k4⟩:=Hrd.out e';refine⟨base,R,{ w4 with heap:= #[] },fun e2=>⟨?_,Nat.zero_le _⟩,by omega,k3,?_,?_,yd8 _ _⟩
    · have e3:s.st=2:=by rw[←Hs0.out] at e2;exact e2
      rw[←hBx];exact k1 e3
    · show WkR w4 base R L s0.ws;rw[←Hs0.out];exact k4.keepR hK0
    · show KnosM _ (g+1) (.slice none 0 0) s0.out;rw[hsn0.2];exact zl5 _ _
  · have hloW:Lo w.heap.size d w w4:=(Lo.of_grown Hg2.out (Nat.le_refl _)).trans (Lo.of_below hb24 Hg2.out.size);exact HC.out.lo hloW fun b o k e hb=>⟨hb,Hcd.out hq b o k e⟩
 have HI0:=hid hI0;have Hch:=hid (show 0<n→n≤1∨∀b o k,a=some ⟨b,o,k⟩→b<Bx∧b≠d from fun hn=>Hx.out.elim .inl fun h=>.inr fun b o k e=>⟨by rw[←hBx];exact h b o k e,Hcd.out hn b o k e⟩);have Hn2:=hid (show B≤Bx∧Bx≤g+1∧g≠d∧w.heap.size≤g+1 from⟨hB1,hB2,by have:=Hnum.out;omega,by omega⟩);have Hlb:=hid hlb;have Hld:=hid hld;have Hv0:=hid hvc0;have Hs00:=hid hsn0;have Hx0:=hid (show ∀c∈l,c<256 from HC.out.lt);have hnm:n≤9223372036854775807:=by have:=HT.out;omega
 clear hI0 hK0 hS0 hvc0 hsn0 hrow hz4 hb24 hzw hg hB1 hB2 hBx hdb hlb hld;go_loopw [8,20] (fun c i wr=>∃q:Nat,q≤n∧i=.int .i64 q∧Hid (FeedI w wr B Bx (g+1) d g n cap q a L t l s0 ks es)) (fun _ i _=>n - (intOf i).toNat)
 case atStart=>exact⟨0,Nat.zero_le _,rfl,HI0⟩
 case round=>
  obtain⟨q,hq,rfl,hI⟩:=hrel;by_cases hqn:q<n
  · obtain⟨t',fs,u,vp',y',hM,htu,hst⟩:=hI.out.mid;obtain⟨hT4,hC4⟩:=hI.out.row hqn;obtain⟨cb,co,rfl,hcell⟩:=hC4.cells (by omega);have hc:=hcell q hqn;have hc256:nth l q<256:=zfo Hx0.out (by decide) q;have hvq:=(zi7 L (l.take q) s0 Hv0.out);have hoq:=zl7 L (l.take q) s0 Hv0.out;have hlq:(l.take q).length≤q:=by rw[List.length_take];omega
    obtain⟨sq,hsq⟩:∃sq,yk L s0 (l.take q)=sq:=⟨_,rfl⟩;rw[hsq] at hM hst hvq hoq;have HI:=hid hI.out;have k5:wr.cell? ⟨d,5,none⟩=some (.int .i64 (sq.st:Nat)):=Row.cell hM.row 5 rfl;have k23:wr.cell? ⟨d,23,none⟩=some y':=Row.cell hM.row 23 rfl;have k24:wr.cell? ⟨d,24,none⟩=some (.int .i64 (sq.sn:Nat)):=Row.cell hM.row 24 rfl;by_cases h44:sq.st=4
    · rw[h44] at k5;obtain⟨ya,yc,rfl⟩:=hM.kn.slice;have HM:=hid hM;have Hfin:=hid (fun W (hb:Below wr.heap.size wr W)=>z1q (s0:=s0) Hnum.out.2.2 Hnum.out.1 Hn2.out.1 (Nat.le_trans Hn2.out.2.1 HI.out.fw) Hn2.out.2.2.2 HM.out htu hst hsq (.inr h44) HI.out.lo HI.out.ty hvq.1 hb);clear hT4 hC4 hcell hM htu hst h44 hvq hoq;go_wp2_with fail;go_quiet (fail);go_wp2_with fail;go_ret2;exact Hfin.out _ (z7 (Below.refl _ _) _)
    · have h4:sq.st<4:=by have:=hM.si.st;omega
      have htl:t'.length≤800000000000:=by
       have:=congrArg List.length htu;rw[List.length_append,List.length_append] at this;have:=HT.out;omega
      have HP:=hid (hM.tick Hn2.out.2.1 HI.out.fw (Nat.lt_of_lt_of_le Hnum.out.2.1 Hn2.out.1) (Nat.lt_of_lt_of_le Hlb.out Hn2.out.1) Hld.out HI.out.door HL.out htl (by have:=hvq.2.1;have:=Hs00.out;have:=HT.out;omega) (by have:=Hs00.out;rw[this.2] at hoq;have:=HT.out;simp only[List.length_nil] at hoq;omega));obtain⟨tk1,htk1⟩:∃v,sq.tk+1=v:=⟨_,rfl⟩;obtain⟨sn1,hsn1⟩:∃v,sq.sn+1=v:=⟨_,rfl⟩;rw[htk1,hsn1] at HP;have htw:IntKind.i64.wrap ((sq.tk:Int)+1)=(tk1:Int):=by have:=hM.si.tk;rw[IntKind.wrap_i64];omega
      have hsw:IntKind.i64.wrap ((sq.sn:Int)+1)=(sn1:Int):=by have:=hvq.2.1;have:=Hs00.out;have:=HT.out;rw[IntKind.wrap_i64];omega
      have k19:wr.cell? ⟨d,19,none⟩=some (.int .i64 (sq.tk:Nat)):=Row.cell hM.row 19 rfl;have f19:=Row.fz hM.row 19;have f24:=Row.fz hM.row 24;have r19:Row (wr.setCell ⟨d,19,none⟩ (.int .i64 (tk1:Int))) d 104 _:=Row.set hM.row 19 _;have m24:(wr.setCell ⟨d,19,none⟩ (.int .i64 (tk1:Int))).cell? ⟨d,24,none⟩=some (.int .i64 (sq.sn:Nat)):=r19.cell 24 rfl;have n24:=r19.fz 24;have m5:((wr.setCell ⟨d,19,none⟩ (.int .i64 (tk1:Int))).setCell ⟨d,24,none⟩ (.int .i64 (sn1:Int))).cell? ⟨d,5,none⟩=some (.int .i64 (sq.st:Nat)):=(r19.set 24 _).cell 5 rfl;have hTr:=(hT4.other (a:=⟨d,19,none⟩) Hn2.out.2.2.1 (.int .i64 (tk1:Int))).other (a:=⟨d,24,none⟩) Hn2.out.2.2.1 (.int .i64 (sn1:Int));have e0:=hTr.cell 0 rfl;have e1:=hTr.cell 1 rfl;have e2:=hTr.cell 2 rfl;have e3:=hTr.cell 3 rfl;have HG2:=hid (zw (qh wr d 19 (.int .i64 (tk1:Int))) (qh _ d 24 (.int .i64 (sn1:Int))));have Hu:=hid (hst h4);clear hT4 hC4 hcell hM hst h44 hvq hoq htk1 hsn1 htl r19 hTr;rcases(by omega:sq.st=0∨sq.st=1∨sq.st=2∨sq.st=3) with hk | hk | hk | hk
      · have hk:sq.st=0:=hk;rw[hk] at k5 m5;go_wp2_with fail;refine(yeo HP.out hc256 hk).mono ?_;rintro e w5 ⟨rfl,hlo5,hF5,ms,fs',vp5,y5,hM5,ho5⟩;have HI5:=hid (HI.out.next (u:=u) hqn Hnum.out.2.2 Hn2.out.1 Hn2.out.2.1 Hn2.out.2.2.2 (Nat.lt_succ_self g) Hn2.out.2.2.1 (Nat.lt_of_lt_of_le Hlb.out Hn2.out.1) Hld.out (Hch.out (by omega)) (by rw[hsq];exact h4) HG2.out hlo5 hF5 htu Hu.out (by rw[hsq];exact hM5) (by rw[hsq];exact ho5));clear hlo5 hF5 hM5 ho5;go_wp2_with fail;go_roundw
        case rel=>exact⟨q+1,by omega,by go_num,HI5⟩
        case measure=>simp[intOf];omega
      · have hk:sq.st=1:=hk;rw[hk] at k5 m5;go_wp2_with fail;refine(yep HP.out hc256 hk).mono ?_;rintro e w5 ⟨rfl,hlo5,hF5,ms,fs',vp5,y5,hM5,ho5⟩;have HI5:=hid (HI.out.next (u:=u) hqn Hnum.out.2.2 Hn2.out.1 Hn2.out.2.1 Hn2.out.2.2.2 (Nat.lt_succ_self g) Hn2.out.2.2.1 (Nat.lt_of_lt_of_le Hlb.out Hn2.out.1) Hld.out (Hch.out (by omega)) (by rw[hsq];exact h4) HG2.out hlo5 hF5 htu Hu.out (by rw[hsq];exact hM5) (by rw[hsq];exact ho5));clear hlo5 hF5 hM5 ho5;go_wp2_with fail;go_roundw
        case rel=>exact⟨q+1,by omega,by go_num,HI5⟩
        case measure=>simp[intOf];omega
      · have hk:sq.st=2:=hk;rw[hk] at k5 m5;go_wp2_with fail;refine(yeq HP.out hc256 hk).mono ?_;rintro e w5 ⟨rfl,hlo5,hF5,ms,fs',vp5,y5,hM5,ho5⟩;have HI5:=hid (HI.out.next (u:=u) hqn Hnum.out.2.2 Hn2.out.1 Hn2.out.2.1 Hn2.out.2.2.2 (Nat.lt_succ_self g) Hn2.out.2.2.1 (Nat.lt_of_lt_of_le Hlb.out Hn2.out.1) Hld.out (Hch.out (by omega)) (by rw[hsq];exact h4) HG2.out hlo5 hF5 htu Hu.out (by rw[hsq];exact hM5) (by rw[hsq];exact ho5));clear hlo5 hF5 hM5 ho5;go_wp2_with fail;go_roundw
        case rel=>exact⟨q+1,by omega,by go_num,HI5⟩
        case measure=>simp[intOf];omega
      · have hk:sq.st=3:=hk;rw[hk] at k5 m5;go_wp2_with fail;refine(yer HP.out hc256 hk).mono ?_;rintro e w5 ⟨rfl,hlo5,hF5,ms,fs',vp5,y5,hM5,ho5⟩;have HI5:=hid (HI.out.next (u:=u) hqn Hnum.out.2.2 Hn2.out.1 Hn2.out.2.1 Hn2.out.2.2.2 (Nat.lt_succ_self g) Hn2.out.2.2.1 (Nat.lt_of_lt_of_le Hlb.out Hn2.out.1) Hld.out (Hch.out (by omega)) (by rw[hsq];exact h4) HG2.out hlo5 hF5 htu Hu.out (by rw[hsq];exact hM5) (by rw[hsq];exact ho5));clear hlo5 hF5 hM5 ho5;go_wp2_with fail;go_roundw
        case rel=>exact⟨q+1,by omega,by go_num,HI5⟩
        case measure=>simp[intOf];omega
  · obtain rfl:q=n:=by omega
    obtain⟨t',fs,u,vp',y',hM,htu,hst⟩:=hI.out.mid;have hvq:=(zi7 L (l.take q) s0 Hv0.out);obtain⟨sq,hsq⟩:∃sq,yk L s0 (l.take q)=sq:=⟨_,rfl⟩;rw[hsq] at hM hst hvq;have k23:wr.cell? ⟨d,23,none⟩=some y':=Row.cell hM.row 23 rfl;have k24:wr.cell? ⟨d,24,none⟩=some (.int .i64 (sq.sn:Nat)):=Row.cell hM.row 24 rfl;obtain⟨ya,yc,rfl⟩:=hM.kn.slice;have HM:=hid hM;have Hfin:=hid (fun W (hb:Below wr.heap.size wr W)=>z1q (s0:=s0) Hnum.out.2.2 Hnum.out.1 Hn2.out.1 (Nat.le_trans Hn2.out.2.1 hI.out.fw) Hn2.out.2.2.2 HM.out htu hst hsq (.inl rfl) hI.out.lo hI.out.ty hvq.1 hb);clear hM htu hst hvq;go_wp2_with fail;go_quiet (fail);go_wp2_with fail;go_ret2;exact Hfin.out _ (z7 (Below.refl _ _) _)
end
section
open Go.RowKit
attribute [local go_sem] y9 Tryz.eqGuard_if
theorem zpf (s:Dc) (c o:Nat) (hc:s.vc=c) (ho:s.vo=o) {w:World} {B d:Nat} {L:zc} {t:List Nat} {ks:List Kno} {es:List Nat} (h:DecM w B d L t s ks es):Calls Tryz.prog 22 #[.pointer (some ⟨d,0,none⟩)] w fun e w'=>e=.returned (.agg #[.int .i64 (c:Nat),.int .i64 (o:Nat)])∧Below w.heap.size w w':=by
 obtain⟨vp,y,h,-⟩:=h;subst hc ho;exact z1g h
theorem zpg (s:Dc) (n:Nat) (hn:s.tk=n) {w:World} {B d:Nat} {L:zc} {t:List Nat} {ks:List Kno} {es:List Nat} (h:DecM w B d L t s ks es):Calls Tryz.prog 49 #[.pointer (some ⟨d,0,none⟩)] w fun e w'=>e=.returned (.int .i64 (n:Nat))∧Below w.heap.size w w':=by
 obtain⟨vp,y,h,-⟩:=h;subst hn;exact z1a (z1h h)
theorem yeu (s:Dc) (n:Nat) (hn:s.tk - s.fin=n) (hk:s.tk≤1000000000000000) {w:World} {B d:Nat} {L:zc} {t:List Nat} {ks:List Kno} {es:List Nat} (h:DecM w B d L t s ks es):Calls Tryz.prog 18 #[.pointer (some ⟨d,0,none⟩)] w fun e w'=>e=.returned (.int .i64 (n:Nat))∧Below w.heap.size w w':=by
 obtain⟨vp,y,h,hsi,-⟩:=h;subst hn;exact yd4 h (by have:=hsi.fin;have:=hsi.tk;omega) hk
theorem zth (s:Dc) (v:Value) (hv:zee s=v) {w:World} {B d:Nat} {L:zc} {t:List Nat} {ks:List Kno} {es:List Nat} (h:DecM w B d L t s ks es):Calls Tryz.prog 19 #[.pointer (some ⟨d,0,none⟩)] w fun e w'=>e=.returned v∧Below w.heap.size w w':=by
 obtain⟨vp,y,h,hsi,-⟩:=h;subst hv;exact yd5 h (fun h4=>(hsi.bad h4).2.1)
theorem yev:zee exA=zcs zh0 5 11:=by
 obtain⟨-,h1,h2,h3,-⟩:=zte;unfold zee;rw[h1,h2,h3,if_neg (by decide),if_pos (by decide)]
 rfl
theorem yew:zee exB=.nilIface:=by
 obtain⟨-,h1,h2,h3,-⟩:=zg2;unfold zee;rw[h1,h2,h3,if_neg (by decide),if_neg (by decide)]
set_option maxRecDepth 100000 in
theorem zph (w:World) (hD:Door w):Calls Tryz.prog 46 #[] w fun e w'=>e=.returned (.bool true)∧Below w.heap.size w w':=by
 have HD:=hid (fun V (h:Below w.heap.size w V)=>hD.below (Nat.le_refl _) h);obtain⟨W,hW⟩:∃W,W=w.alloc (.cells #[.slice none 0 0] 48):=⟨_,rfl⟩;have hal:Below w.heap.size w W:=by rw[hW];exact(Below.refl _ _).alloc (Nat.le_refl _) _
 have hcl:∀i,i<1→W.cell? ⟨w.heap.size,0+i,none⟩=some (.slice none 0 0):=by
  have hr:=y7 w 48 [.slice none 0 0];rw[hW];intro i hi;obtain rfl:i=0:=by omega
  exact hr.cell 0 rfl
 have hlen:∀i,i≤1→(kp (fun _=>[0,0]) i).length≤1000000000000:=by
  intro i hi;rcases(by omega:i=0∨i=1) with rfl | rfl
  · decide
  · rw[zs0];decide +kernel
 have hEn:=zoz w.heap.size 0 1 1 (fun _=>.slice none 0 0) (fun _=>[0,0]) W hcl (by omega) (by omega) (fun i hi V hV=>z0y V (HD.out _ (hal.trans (hV.mono hal.size)))) (fun i hi=>by decide) hlen;obtain⟨L0,hL0,hL1,hL2,hLt⟩:∃L0,kp (fun _=>[0,0]) 1=L0∧L0.length=12∧L0=exS∧∀x∈L0,x<256:=⟨exS,zs0,z1f,rfl,yd3⟩;rw[hL0,hL1] at hEn;have HEn:=hid hEn;have HU:=hid (fun V=>zo2 V);have HNw:=hid (fun V=>zma unl V);have HW:=hid hW;have Hal:=hid hal;have Hlt:=hid hLt;have HL2:=hid hL2;have Hsz:=hid hal.size;have Hgl:=hid (show 0<w.heap.size from zf (p:=⟨0,0,none⟩) hD);have HCo:=hid (fun V (h:Below w.heap.size w V)=>ydu zh0 5 11 V (HD.out V h));have HAt:=hid (fun V (h:Below w.heap.size w V)=>ydw zh0 5 11 V (HD.out V h));unfold zcs at HCo HAt;unfold lmV at HU HNw;clear hEn hW hal hcl hlen hD hLt hL0 hL1 hL2;go_enter Tryz.func46,Tryz.ntmps46;go_wp2_with fail;rw[←HW.out];refine HEn.out.mono ?_;rintro e w1 ⟨⟨v1,rfl,ho1⟩,hb1⟩;have Hb1:=hid (Hal.out.trans (hb1.mono Hal.out.size));obtain⟨a1,c1,rfl,hB1⟩:=zbk ho1 Hlt.out;have HB1:=hid hB1;clear hb1 ho1 hB1;go_wp2_with fail;refine(HU.out _).mono ?_;rintro e w2 ⟨rfl,hb2⟩;have HB2:=hid (HB1.out.below hb2);have Hb2:=hid (Hb1.out.trans (hb2.mono Hb1.out.size));clear hb2;obtain⟨b,o,rfl,hcc⟩:=HB2.out.cells (by omega);have Hbd:=hid (show b<w2.heap.size from zf (hcc 0 (by omega)));have hcr:=HB2.out.room;have hc0:¬c1=0:=by omega
 have hc11:11≤c1:=by omega
 have hc11':¬c1=11:=by omega
 clear hcc;go_wp2_with fail;refine(HNw.out _).mono ?_;rintro e w3 ⟨d,hd1,hd2,rfl,hr3,hb3⟩;have HB3:=hid (HB2.out.below hb3);have Hb3:=hid (Hb2.out.trans (hb3.mono Hb2.out.size));have HM3:=hid (show DecM w3 w3.heap.size d unl [] dc0 [] [] from⟨_,_,hr3,zi4 _,fun c h=>(by cases h),Nat.zero_le _,fun h=>by rcases h with h | h <;> cases h⟩);have Hdd:=hid (show w2.heap.size≤d∧d<w3.heap.size∧b≠d∧w.heap.size≤d from⟨hd1,hd2,by have:=Hbd.out;omega,Nat.le_trans Hb2.out.size hd1⟩);clear hr3 hb3 hd1 hd2;go_wp2_with fail
 refine(zg3 HM3.out (Nat.le_refl _) Hdd.out.2.1 (by have:=Hgl.out;have:=Hdd.out;omega) (by have:=Hgl.out;have:=Hdd.out;omega) (HD.out _ Hb3.out) zg0 (some ⟨b,o,none⟩) 11 c1 (exS.take 11) (by
  have hx:=HB3.out.sub 0 11 (by omega) (by omega) (by omega);rw[Nat.add_zero,Nat.sub_zero,Nat.sub_zero,List.drop_zero,HL2.out] at hx;exact hx) (fun _ b' o' k' h=>by injection h with h;injection h with h;subst h;exact Hdd.out.2.2.1) (.inr fun b' o' k' h=>by injection h with h;injection h with h;subst h;have:=Hbd.out;have:=Hdd.out;omega) (by simp only[List.length_nil];omega)).mono ?_
 rintro e w4 ⟨V4,t4,u4,f4,rfl,hk4,e4,-,hM4,hlo4,-⟩;generalize hsA:yk unl { dc0 with out:=[],sn:=0 } (exS.take 11)=sA at*;obtain rfl:sA=exA:=hsA.symm;rw[zte.1] at hk4;rw[zte.2.2.2.2];obtain⟨va,vc,rfl⟩:=hk4.slice;have Hb4:=hid (Hb3.out.trans (hlo4.toBelow Hb3.out.size Hdd.out.2.2.2));have HB4:=hid (HB3.out.lo hlo4 fun b' o' k' h hb=>by injection h with h;injection h with h;subst h;exact⟨hb,Hdd.out.2.2.1⟩);have HM4:=hid hM4;have Hz4:=hid hlo4.size
 have Ht4:=hid (show t4.length≤11 from by
  have:=congrArg List.length e4;rw[List.length_append,List.nil_append,List.length_take] at this;omega)
 have hl0:([]:List Kno).length=0:=rfl;clear hsA hk4 e4 hM4 hlo4;go_wp2_with fail;refine(zth exA _ yev HM4.out).mono ?_;rintro e w5 ⟨rfl,hb5⟩;have HM5:=hid (HM4.out.later hb5);have HB5:=hid (HB4.out.below hb5);have Hb5:=hid (Hb4.out.trans (hb5.mono Hb4.out.size));have Hz5:=hid (Nat.le_trans Hz4.out hb5.size);unfold zcs;clear hb5;go_wp2_with fail
 refine(zg3 HM5.out Hz5.out Hdd.out.2.1 (by have:=Hgl.out;have:=Hdd.out;omega) (by have:=Hgl.out;have:=Hdd.out;omega) (HD.out _ Hb5.out) zg0 (some ⟨b,o+11,none⟩) 1 (c1 - 11) (exS.drop 11) (by
  have hx:=HB5.out.sub 11 12 (by omega) (by omega) (by omega);rw[HL2.out,List.take_of_length_le (by rw[List.length_drop,z1f];exact Nat.le_refl _)] at hx;exact hx) (fun _ b' o' k' h=>by injection h with h;injection h with h;subst h;exact Hdd.out.2.2.1) (.inl (Nat.le_refl 1)) (by have:=Ht4.out;omega)).mono ?_
 rintro e w6 ⟨V6,t6,u6,f6,rfl,hk6,-,-,hM6,hlo6,-⟩;generalize hsB:yk unl { exA with out:=[],sn:=0 } (exS.drop 11)=sB at*;obtain rfl:sB=exB:=hsB.symm;rw[zg2.1] at hk6;rw[zg2.2.2.2.2.1];obtain⟨ua,uc,rfl⟩:=hk6.slice;have Hb6:=hid (Hb5.out.trans (hlo6.toBelow Hb3.out.size Hdd.out.2.2.2));obtain⟨k6,e6,hM6'⟩:∃k e,DecM w6 w3.heap.size d unl t6 exB k e:=⟨_,_,hM6⟩;have HM6:=hid hM6';have hl1:([[]]:List Kno).length=1:=rfl;have HV:=hid (fun V (h:DecM V w3.heap.size d unl t6 exB k6 e6)=>zpf exB 0 12 zg2.2.2.2.2.2.1 zg2.2.2.2.2.2.2 h);have HT:=hid (fun V (h:DecM V w3.heap.size d unl t6 exB k6 e6)=>zpg exB 12 zg2.2.2.1 h);have HBu:=hid (fun V (h:DecM V w3.heap.size d unl t6 exB k6 e6)=>yeu exB 0 (by rw[zg2.2.2.1,zg2.2.2.2.1]) (by rw[zg2.2.2.1];decide) h);have HFi:=hid (fun V (h:DecM V w3.heap.size d unl t6 exB k6 e6)=>zth exB _ yew h);clear hsB hk6 hM6 hM6' hlo6;go_wp2_with fail;refine(HV.out _ HM6.out).mono ?_;rintro e w7 ⟨rfl,hb7⟩;have HM7:=hid (HM6.out.later hb7);have Hb7:=hid (Hb6.out.trans (hb7.mono Hb6.out.size));clear hb7;go_wp2_with fail;refine(HT.out _ HM7.out).mono ?_;rintro e w8 ⟨rfl,hb8⟩;have HM8:=hid (HM7.out.later hb8);have Hb8:=hid (Hb7.out.trans (hb8.mono Hb7.out.size));clear hb8;go_wp2_with fail;refine(HBu.out _ HM8.out).mono ?_;rintro e w9 ⟨rfl,hb9⟩;have HM9:=hid (HM8.out.later hb9);have Hb9:=hid (Hb8.out.trans (hb9.mono Hb8.out.size));clear hb9;go_wp2_with fail;refine(HFi.out _ HM9.out).mono ?_;rintro e w10 ⟨rfl,hb10⟩;have Hb10:=hid (Hb9.out.trans (hb10.mono Hb9.out.size));clear hb10;go_wp2_with fail;refine(HCo.out _ Hb10.out).mono ?_;rintro e w11 ⟨rfl,hb11⟩;have Hb11:=hid (Hb10.out.trans (hb11.mono Hb10.out.size));clear hb11;go_wp2_with fail;refine(HAt.out _ Hb11.out).mono ?_;rintro e w12 ⟨rfl,hb12⟩;have Hb12:=hid (Hb11.out.trans (hb12.mono Hb11.out.size));clear hb12;go_wp2_with fail;go_ret;exact⟨rfl,Hb12.out⟩
end
