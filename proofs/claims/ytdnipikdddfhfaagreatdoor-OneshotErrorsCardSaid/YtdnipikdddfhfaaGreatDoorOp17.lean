/- Part 17. -/
import Derived.Test.YtdnipikdddfhfaaGreatDoorOp16
set_option linter.unusedVariables false
set_option maxHeartbeats 16000000
namespace Go.Proofs.YtdnipikdddfhfaaGreatDoor
open Lib (hid)
section
open Go.RowKit
attribute [local go_sem] jc
theorem PkB.other {w w':World} {base g:Nat} {s:PS} {V cu:Value} {T:TypeId} {C:List Value} (h:PkB w base s V cu) (hR:Row w g T C) (hN:¬qw T) (hT:T≠193) (hg:w.grownBy w' (some g)):PkB w' base s V cu:=by
 have hN:=hR.notT hN;unfold PkB at h ⊢;split at h
 · exact h
 · exact h.grown hN hg
 · exact h.grown hN hg
 · exact h.grown hN hg
 · exact⟨h.1.grown hN hg,h.2.grown hR hT hg⟩
 · exact⟨h.1.grown hN hg,h.2.grown hR hT hg⟩
 · exact h.grown hN hg
theorem PkR.other {w w':World} {base g g':Nat} {L:zb} {nx:Value} {s:PS} {T:TypeId} {C:List Value} (h:PkR w base g L nx s) (hR:Row w g' T C) (hN:¬qw T) (hT:T≠193) (hT2:T≠282) (hg:w.grownBy w' (some g')):PkR w' base g L nx s:=by
 obtain⟨h1,V,cu,h2,h3⟩:=h;exact⟨h1,V,cu,h2.grown hg fun e=>by injection e with e;exact hR.ne h2 hT2 e.symm,h3.other hR hN hT hg⟩
theorem zhx {le lh:Int} {s:PS} {x rest c:Nat} (h:yb le lh s x rest=.error c):c≠0:=by
 unfold yb at h;split at h
 · split at h
   · cases h;assumption
   · split at h
     · cases h;decide
     · cases h
 · split at h
   · cases h;decide
   · cases h
 · cases h
 · split at h
   · cases h;assumption
   · cases h
 · split at h
   · cases h;decide
   · cases h
 · split at h
   · cases h
   · cases h;decide
structure VPre (W:World) (base R:Nat) (L:zb) (s:WS) (K:Value) (U C B pb P fr:Nat) (i:PS):Prop where
 row:Row W R 130 (wkC L (.iface 196 (.pointer (some ⟨B,0,none⟩))) K U C .nilIface)
 vrow:Row W B 199 (vcC s.left (fr:Int) (.pointer (some ⟨P,0,none⟩)))
 cur:Row W C 193 (qj C 0 0 none false)
 used:UsedM W U s.ix
 kv:∃wb,KV wb base K s.vs∧Steady 0 qw wb W∧wb.heap.size≤pb
 bR:base≤R
 bU:base≤U
 bC:base≤C
 bB:base≤B
 bp:base≤pb
 lR:R<pb
 lU:U<pb
 lC:C<pb
 lB:B<pb
 lw:pb≤W.heap.size
theorem VPre.later {W W1:World} {base R:Nat} {L:zb} {s:WS} {K:Value} {U C B pb P fr:Nat} {i:PS} (h:VPre W base R L s K U C B pb P fr i) (hb:Below pb W W1):VPre W1 base R L s K U C B pb P fr i:=by
 obtain⟨h1,h2,h3,h4,⟨wb,k1,k2,k3⟩,b1,b2,b3,b4,b5,l1,l2,l3,l4,l5⟩:=h;refine⟨h1.below hb l1,h2.below hb l4,h3.below hb l3,h4.same (hb.block U l2),⟨wb,k1,⟨Nat.le_trans k2.size hb.size,fun k hk hp=>(hb.block k (by omega)).trans (k2.row k hk hp)⟩,k3⟩,b1,b2,b3,b4,b5,l1,l2,l3,l4,Nat.le_trans l5 hb.size⟩
def zms (B:Nat):Value:=.iface 196 (.pointer (some ⟨B,0,none⟩))
def vz (L:zb) (s:WS) (p:Nat) (r:Except Nat PS):Except (Nat×Nat) WS:=
 match r with
 | .error c=>.error (c,p)
 | .ok i=>if i.tag=6 then
    if ja s.vs i.v=true then .error (3,jg s p) else if s.left=1 then .ok { s with tag:=2,vs:=s.vs++[i.v],left:=0,inner:=ps0 } else .ok { s with vs:=s.vs++[i.v],left:=s.left - 1,inner:=ps0 }
   else .ok { s with frm:=jg s p,inner:=i }
theorem zur {E:Nat} {L:zb} {s:WS} {x p q:Nat} (ht:s.tag=1):yh E L s x p q=vz L s p (yb L.2.2.1 L.2.2.2.1 s.inner x (E - q)):=by
 obtain⟨tag,vs,l,ix,left,frm,inner,turn,lo,hi,tch⟩:=s;simp only at ht;subst ht
 rfl
theorem Door.keep {w w':World} {n:Nat} (hD:Door w) (hn:0<n) (hb:Below n w w'):Door w':=(hb.cell (p:=⟨0,0,none⟩) hn).trans hD
theorem VPre.cont {W W1:World} {base R:Nat} {L:zb} {s:WS} {K:Value} {U C B pb P fr:Nat} {i j:PS} (ht:s.tag=1) (h:VPre W base R L s K U C B pb P fr i) (hb:Below pb W W1) (hj:1≤j.tag) (hP:PkR W1 pb P L (pkF P j.tag) j):WkR W1 base R L { s with frm:=fr,inner:=j }:=by
 obtain⟨h1,h2,h3,h4,⟨wb,k1,k2,k3⟩,b1,b2,b3,b4,b5,l1,l2,l3,l4,l5⟩:=h.later hb;refine⟨b1,_,K,U,C,b2,b3,h1,h4,?_⟩;unfold WkB;simp only[ht];exact⟨B,rfl,b4,h3,.inr ⟨hj,P,pb,wb,h2,k1,k2,k3,b5,l1,l2,l3,l4,hP⟩⟩
set_option maxRecDepth 100000 in
theorem zus (base R:Nat) (L:zb) (s:WS) (K:Value) (U C B rest x p:Nat) (w0 w:World) (ht:s.tag=1) (hR0:base≤R) (hU:base≤U) (hC:base≤C) (hB0:base≤B) (hb0:Below base w0 w)
 (hR:Row w R 130 (wkC L (zms B) K U C .nilIface)) (hu:UsedM w U s.ix) (hc:Row w C 193 (qj C 0 0 none false)) (hV:VecAt w base R L K U C B s) (hD:Door w) (hDb:0<base)
 (hL:LimsI L) (hx:x<18446744073709551616) (hr:rest<9223372036854775808) (hp:p≤900000000000) (hF:WFit s p) (hI:WInv s)
 (hvf:∀v∈s.vs,(zi v).length≤1000000000000) (hif:∀i,yb L.2.2.1 L.2.2.2.1 s.inner x rest=.ok i→i.tag=6→(zi i.v).length≤1000000000000) (rr:Except Nat PS) (hrr:yb L.2.2.1 L.2.2.2.1 s.inner x rest=rr):
 Calls Tryz.prog 111 #[.pointer (some ⟨R,0,none⟩),.pointer (some ⟨B,0,none⟩),.int .u64 (x:Int),.int .i64 (p:Int),.int .i64 (rest:Int)] w (WkS w0 base R L (vz L s p rr)):=by
 obtain⟨i1,i2⟩:=hI.inner ht;have hinn:PFit s.inner 900000000000:=hF.inner.mono (by omega);unfold zms at hR;have Hrr:=hid hrr;have HV:=hid hvf;have HI:=hid hif;have Hi:=hid hinn;have HL:=hid hL;have Hx:=hid hx;have Hr:=hid hr;have Hi1:=hid i1;have Hi2:=hid i2;have Ht:=hid ht;have HF:=hid hF;have Hleft:=hid (hI.left (.inl ht));clear hrr hvf hif hinn hL hx hr i1 i2 ht hF hI;rcases hV with ⟨h0,⟨ip,hB⟩,hK⟩ | ⟨h1,P,pb,wb,hB,hK,hS,hwb,hbp,lR,lU,lC,lB,hP⟩
 · have H0:=hid h0;have q0:=hR.cell 0 rfl;have q1:=hR.cell 1 rfl;have q2:=hR.cell 2 rfl;have q3:=hR.cell 3 rfl;have q4:=hR.cell 4 rfl;have v1:=hB.cell 1 rfl;have HBg:=ztt L w;unfold lmV at HBg;have HB:=hid HBg;have Hfr:=hid (show jg s p=p from by unfold jg;rw[h0];rfl);have HR:=hid hR;have HVr:=hid hB;have Hu:=hid hu;have Hc:=hid hc;have HK:=hid hK;have HDr:=hid hD;have Hb0:=hid hb0;clear HBg h0 hR hB hu hc hK hD hb0;go_enter Tryz.func111,Tryz.ntmps111;go_wp2_with fail;refine HB.out.mono ?_;rintro e w1 ⟨rfl,hP1,hb1⟩;have hV1:=HVr.out.later hb1;have v1:=hV1.cell 1 rfl;have v2:=hV1.cell 2 rfl;have y1:=hV1.fz 1;have y2:=hV1.fz 2;have hV2:Row ((w1.setCell ⟨B,1,none⟩ (.int .i64 (p:Int))).setCell ⟨B,2,none⟩ (.pointer (some ⟨w.heap.size+1,0,none⟩))) B 199 (vcC s.left (p:Int) (.pointer (some ⟨w.heap.size+1,0,none⟩))):=(hV1.set 1 _).set 2 _;have hg2:w1.grownBy ((w1.setCell ⟨B,1,none⟩ (.int .i64 (p:Int))).setCell ⟨B,2,none⟩ (.pointer (some ⟨w.heap.size+1,0,none⟩))) (some B):=zj (a:=⟨B,2,none⟩) (zj (a:=⟨B,1,none⟩) (qf w1 _) _ (.inr rfl)) _ (.inr rfl);have hne:B≠w.heap.size+1:=by have:=HVr.out.lt;omega
   have hnT:∀{C'},Row w1 B 199 C'→NotT w1 B:=fun h=>h.notT (by rintro(h | h | h) <;> cases h)
   have HP2:=hid (hP1.other hV1 (by rintro(h | h | h) <;> cases h) (by decide) (by decide) hg2)
   have HPre:=hid (show VPre ((w1.setCell ⟨B,1,none⟩ (.int .i64 (p:Int))).setCell ⟨B,2,none⟩ (.pointer (some ⟨w.heap.size+1,0,none⟩))) base R L s K U C B w.heap.size (w.heap.size+1) (jg s p) s.inner from
    ⟨(HR.out.later hb1).grown hg2 (fun e=>by injection e with e;exact HR.out.ne HVr.out (by decide) e),by rw[Hfr.out];exact hV2,(Hc.out.later hb1).grown hg2 (fun e=>by injection e with e;exact Hc.out.ne HVr.out (by decide) e),
      (Hu.out.same (hb1.block U Hu.out.lt)).same (hg2.block U (Nat.lt_of_lt_of_le Hu.out.lt hb1.size) (fun e=>by injection e with e;exact Hu.out.ne (show w.heap[B]?=_ from HVr.out) e)),
      ⟨w,HK.out,(Steady.of_below hb1).trans (zbw (hnT hV1) (Nat.zero_le _) hg2),Nat.le_refl _⟩,hR0,hU,hC,hB0,by have:=HR.out.lt;omega,HR.out.lt,Hu.out.lt,Hc.out.lt,HVr.out.lt,Nat.le_trans hb1.size hg2.size⟩)
   have Hb0W:=hid (Hb0.out.trans (((hb1.mono (show base≤w.heap.size by have:=HR.out.lt;omega)).setCell (p:=⟨B,1,none⟩) hB0 (.int .i64 (p:Int))).setCell (p:=⟨B,2,none⟩) hB0 (.pointer (some ⟨w.heap.size+1,0,none⟩))));have HDW:=hid (HDr.out.keep hDb (((hb1.mono (show base≤w.heap.size by have:=HR.out.lt;omega)).setCell (p:=⟨B,1,none⟩) hB0 (.int .i64 (p:Int))).setCell (p:=⟨B,2,none⟩) hB0 (.pointer (some ⟨w.heap.size+1,0,none⟩))));have HP2:=hid (show PkR ((w1.setCell ⟨B,1,none⟩ (.int .i64 (p:Int))).setCell ⟨B,2,none⟩ (.pointer (some ⟨w.heap.size+1,0,none⟩))) w.heap.size (w.heap.size+1) L (pkF (w.heap.size+1) s.inner.tag) s.inner from by rw[H0.out];exact HP2.out);have hvp:=HPre.out.vrow.cell 2 rfl;clear hV1 hP1 hb1 hV2 hg2 hne hnT HR HVr Hu Hc HK HDr Hb0 q0 q1 q2 q3 q4;go_wp2_with fail;generalize ((w1.setCell ⟨B,1,none⟩ (.int .i64 (p:Int))).setCell ⟨B,2,none⟩ (.pointer (some ⟨w.heap.size+1,0,none⟩)))=W at*;generalize w.heap.size=pb at*;generalize pb+1=P at*;have HPut:=hid (zmn pb P L s.inner x rest W HP2.out Hi1.out HL.out Hx.out Hr.out Hi.out Hi2.out);rw[Hrr.out] at HPut;clear hvp v1
   cases rr with
   | error c=>
    have hc0:=zhx Hrr.out;refine HPut.out.mono ?_;rintro e W1 ⟨hb1,rfl⟩;have HPre1:=hid (HPre.out.later hb1);have hb1':=hb1.mono HPre.out.bp;have hCo:=zaz (some ((c:Int),none)) W1 (HDW.out.keep hDb hb1');simp only[zn,kw] at hCo;have HCo:=hid hCo;have Hb1:=hid hb1';clear hCo hb1 hb1';go_wp2_with fail;refine HCo.out.mono ?_;rintro e W2 ⟨rfl,hb2⟩;have HR2:=hid (HPre1.out.row.later hb2);have Hb2:=hid ((Hb0W.out.trans Hb1.out).trans (hb2.mono (Nat.le_trans HPre.out.bp HPre1.out.lw)));clear hb2;go_wp2_with fail;refine(kr (c:=c) (o:=p) hc0 _).mono ?_;rintro e w' ⟨rfl,rfl⟩;go_wp2_with fail;go_ret
    exact⟨Hb2.out,rfl,_,HR2.out,rfl⟩
   | ok i=>
    obtain⟨k1,k2,k3⟩:=zd7 Hi1.out Hi2.out Hrr.out;have hfi:=zho Hi.out Hi1.out Hx.out Hrr.out;have Hfi:=hid hfi;by_cases h6:i.tag=6
    · have hvv:=HI.out i Hrr.out h6;have hlv:LtV i.v:=hfi.v;refine HPut.out.mono ?_;rintro e W1 ⟨hb1,rfl,hP1⟩;have hPre1:=HPre.out.later hb1;obtain⟨wb,kk1,kk2,kk3⟩:=hPre1.kv;have hKV:=kk1.steady kk2;have hd:decide (i.tag=6)=true:=decide_eq_true h6;have HVc:=hid (zmo pb P L i W1 hP1 h6);have v2:=hPre1.vrow.cell 2 rfl;have HPre1:=hid hPre1;have HKV:=hid hKV;have Hlv:=hid hlv;have Hvv:=hid hvv;have Hb1:=hid (Hb0W.out.trans (hb1.mono HPre.out.bp));have HD1:=hid (HDW.out.keep hDb (hb1.mono HPre.out.bp));have H6:=hid h6;clear hPre1 hKV kk1 kk2 kk3 hb1 hP1 hlv hvv k1 k2 k3 hfi h6;go_wp2_with fail;refine HVc.out.mono ?_;rintro e w' ⟨⟨V,rfl,hV⟩,rfl⟩;have hES:=hV.enSl Hlv.out;obtain⟨va,vn,vcap,rfl,hET⟩:=hES;have HET:=hid hET;obtain⟨ka,kc,hKe⟩:=HKV.out.len;subst hKe
      have hbx:∀W2,Below W1.heap.size W1 W2→VRows W2 base R L (.iface 196 (.pointer (some ⟨B,0,none⟩))) (.slice ka s.vs.length kc) U C B s.left (jg s p:Int) (.pointer (some ⟨P,0,none⟩)) s.ix s.vs:=fun _ hb=>
       ⟨HPre1.out.row.later hb,HPre1.out.vrow.later hb,HPre1.out.cur.later hb,HPre1.out.used.same (hb.block U HPre1.out.used.lt),HKV.out.later hb⟩
      have hbV:∀W2,Below W1.heap.size W1 W2→EnSl W2 0 (.slice va vn vcap) i.v:=fun _ hb=>(show EnSl W1 0 (.slice va vn vcap) i.v from⟨va,vn,vcap,rfl,HET.out⟩).steady (P:=fun _=>True) (.of_below hb) trivial trivial
      have Hbx:=hid hbx;have HbV:=hid hbV;have q6:=HPre1.out.row.cell 6 rfl;have hll:=HF.out.vsl;have hvl:s.vs.length+1≤1000000000000:=by omega
      have Hvl:=hid hvl;have Hlf:=hid HF.out.left;clear hV hET v2 hbx hbV hll hvl;by_cases h0:s.vs=[]
      · have hn0:s.vs.length=0:=by rw[h0];rfl
        have Hob:=hid (show ja s.vs i.v=false from by rw[h0];rfl);have Hn0:=hid hn0;obtain⟨gK,cK,w3,hrun,hb3,hR3,hB3,hC3,hu3,hK3⟩:=zfv (Hbx.out _ (Below.refl _ _)) hR0 (HbV.out _ (Below.refl _ _)) Hvl.out;rw[hn0] at hrun q6;have Hrun:=hid hrun;clear h0 hn0;have e2:(s.left:Int) - 1=((s.left - 1:Nat):Int):=by have:=Hleft.out;omega
        have e3:IntKind.u64.wrap ((s.left - 1:Nat):Int)=((s.left - 1:Nat):Int):=by have:=Hlf.out;rw[IntKind.wrap_u64];omega
        have p6:=hR3.cell 6 rfl;rw[Hn0.out] at p6;have z6:=hR3.fz 6;have p5:=hR3.cell 5 rfl;have z5:=hR3.fz 5;have b0:=hB3.cell 0 rfl;have b1:=hB3.cell 1 rfl;have y0:=hB3.fz 0;have y1':=hB3.fz 1;have hneRB:=hR3.ne hB3 (by decide);have hneBR:=hneRB.symm;by_cases hl1:s.left=1
        · have Hv:=hid (show vz L s p (.ok i)=.ok { s with tag:=2,vs:=s.vs++[i.v],left:=0,inner:=ps0 } from by
           show (if i.tag=6 then _ else _)=_;rw[if_pos H6.out,if_neg (by rw[Hob.out];decide),if_pos hl1])
          have HFin:=hid ((zb0 hR3 hB3 hC3 hu3 hK3 0).mid hR0 hU hC);have HBf:=hid (((((Hb1.out.trans hb3).setCell (p:=⟨R,6,none⟩) hR0 (.slice (some ⟨gK,0,none⟩) (s.vs.length+1) cK)).setCell (p:=⟨B,1,none⟩) hB0 (.int .i64 (-1))).setCell (p:=⟨B,0,none⟩) hB0 (.int .u64 ((0:Nat):Int))).setCell (p:=⟨R,5,none⟩) hR0 (.iface 200 (.agg #[])));rw[Hn0.out] at HFin HBf;rw[hl1] at b0;clear hR3 hB3 hC3 hu3 hK3 hb3 e2 e3 hl1 hrun;go_wp2_with (at_builtin;refine ym _ _ 27 rfl rfl _ _ rfl rfl _ _ Hrun.out ?_);go_ret;exact⟨HBf.out,by rw[Hv.out];exact⟨rfl,HFin.out⟩⟩
        · have Hv:=hid (show vz L s p (.ok i)=.ok { s with vs:=s.vs++[i.v],left:=s.left - 1,inner:=ps0 } from by
           show (if i.tag=6 then _ else _)=_;rw[if_pos H6.out,if_neg (by rw[Hob.out];decide),if_neg hl1])
          have HFin:=hid ((zb0 hR3 hB3 hC3 hu3 hK3 (s.left - 1)).more Ht.out hR0 hU hC hB0);have HBf:=hid ((((Hb1.out.trans hb3).setCell (p:=⟨R,6,none⟩) hR0 (.slice (some ⟨gK,0,none⟩) (s.vs.length+1) cK)).setCell (p:=⟨B,1,none⟩) hB0 (.int .i64 (-1))).setCell (p:=⟨B,0,none⟩) hB0 (.int .u64 ((s.left - 1:Nat):Int)));rw[Hn0.out] at HFin HBf;have h1l:(((s.left - 1:Nat):Int) == 0)=false:=by have:=Hleft.out;rw[beq_eq_false_iff_ne];omega
          have h1m:¬s.left - 1=0:=by have:=Hleft.out;omega
          clear hR3 hB3 hC3 hu3 hK3 hb3 hl1 hrun;generalize s.left - 1=left1 at*;go_wp2_with (at_builtin;refine ym _ _ 27 rfl rfl _ _ rfl rfl _ _ Hrun.out ?_);go_ret;exact⟨HBf.out,by rw[Hv.out];exact⟨rfl,HFin.out⟩⟩
      · have hpos:s.vs.length - 1<s.vs.length:=by have:=List.length_pos_iff.2 h0;omega
        obtain⟨gk,kcap,hke,hgk,hgkl,y,cy,-,hyE⟩:=HKV.out.at hpos;obtain⟨ya,yn,yc,rfl,hYT⟩:=hyE;have hka:ka=some ⟨gk,0,none⟩:=by injection hke
        subst hka;have hmem:yt s.vs (s.vs.length - 1)∈s.vs:=by rw[zbd hpos];exact List.getElem_mem hpos
        have HCmp:=hid (zks ya va yn yc vn vcap _ _ W1 hYT.ents HET.out.ents (HV.out _ hmem) Hvv.out)
        have Hob:=hid (show ja s.vs i.v=decide (0≤jm (yt s.vs (s.vs.length - 1)) i.v) from by
         unfold ja;rw[List.getLast?_eq_getElem?,List.getElem?_eq_getElem hpos,zbd hpos])
        obtain⟨n,hn⟩:∃n,n=s.vs.length:=⟨_,rfl⟩;have Hn:=hid hn;rw[←hn] at cy q6;have hn1:1≤n∧n≤1000000000000:=by have:=Hvl.out;omega
        have e1:(n:Int) - 1=((n - 1:Nat):Int):=by omega
        clear h0 hke hYT hmem hn;rcases zgo (yt s.vs (s.vs.length - 1)) i.v with hcv | hcv | hcv
        · rw[hcv] at HCmp Hob;have Hob:=hid (show ja s.vs i.v=false from Hob.out);clear hcv;go_wp2_with fail;refine HCmp.out.mono ?_;rintro e W2 ⟨rfl,hb2⟩;obtain⟨gK,cK,w3,hrun,hb3,hR3,hB3,hC3,hu3,hK3⟩:=zfv (Hbx.out _ hb2) hR0 (HbV.out _ hb2) Hvl.out;have p6:=(Hbx.out _ hb2).row.cell 6 rfl;rw[←Hn.out] at hrun p6;have Hrun:=hid hrun;have Hb2:=hid (Hb1.out.trans (hb2.mono (Nat.le_trans HPre.out.bp HPre1.out.lw)));clear hb2;have e2:(s.left:Int) - 1=((s.left - 1:Nat):Int):=by have:=Hleft.out;omega
          have e3:IntKind.u64.wrap ((s.left - 1:Nat):Int)=((s.left - 1:Nat):Int):=by have:=Hlf.out;rw[IntKind.wrap_u64];omega
          have p6:=hR3.cell 6 rfl;have z6:=hR3.fz 6;have p5:=hR3.cell 5 rfl;have z5:=hR3.fz 5;have b0:=hB3.cell 0 rfl;have b1:=hB3.cell 1 rfl;have y0:=hB3.fz 0;have y1':=hB3.fz 1;have hneRB:=hR3.ne hB3 (by decide);have hneBR:=hneRB.symm;by_cases hl1:s.left=1
          · have Hv:=hid (show vz L s p (.ok i)=.ok { s with tag:=2,vs:=s.vs++[i.v],left:=0,inner:=ps0 } from by
             show (if i.tag=6 then _ else _)=_;rw[if_pos H6.out,if_neg (by rw[Hob.out];decide),if_pos hl1])
            have HFin:=hid ((zb0 hR3 hB3 hC3 hu3 hK3 0).mid hR0 hU hC);have HBf:=hid (((((Hb2.out.trans hb3).setCell (p:=⟨R,6,none⟩) hR0 (.slice (some ⟨gK,0,none⟩) (s.vs.length+1) cK)).setCell (p:=⟨B,1,none⟩) hB0 (.int .i64 (-1))).setCell (p:=⟨B,0,none⟩) hB0 (.int .u64 ((0:Nat):Int))).setCell (p:=⟨R,5,none⟩) hR0 (.iface 200 (.agg #[])));rw[←Hn.out] at HFin HBf;rw[hl1] at b0;clear hR3 hB3 hC3 hu3 hK3 hb3 e2 e3 hl1 hrun;go_wp2_with (at_builtin;refine ym _ _ 27 rfl rfl _ _ rfl rfl _ _ Hrun.out ?_);go_ret;exact⟨HBf.out,by rw[Hv.out];exact⟨rfl,HFin.out⟩⟩
          · have Hv:=hid (show vz L s p (.ok i)=.ok { s with vs:=s.vs++[i.v],left:=s.left - 1,inner:=ps0 } from by
             show (if i.tag=6 then _ else _)=_;rw[if_pos H6.out,if_neg (by rw[Hob.out];decide),if_neg hl1])
            have HFin:=hid ((zb0 hR3 hB3 hC3 hu3 hK3 (s.left - 1)).more Ht.out hR0 hU hC hB0);have HBf:=hid ((((Hb2.out.trans hb3).setCell (p:=⟨R,6,none⟩) hR0 (.slice (some ⟨gK,0,none⟩) (s.vs.length+1) cK)).setCell (p:=⟨B,1,none⟩) hB0 (.int .i64 (-1))).setCell (p:=⟨B,0,none⟩) hB0 (.int .u64 ((s.left - 1:Nat):Int)));rw[←Hn.out] at HFin HBf;have h1l:(((s.left - 1:Nat):Int) == 0)=false:=by have:=Hleft.out;rw[beq_eq_false_iff_ne];omega
            have h1m:¬s.left - 1=0:=by have:=Hleft.out;omega
            clear hR3 hB3 hC3 hu3 hK3 hb3 hl1 hrun;generalize s.left - 1=left1 at*;go_wp2_with (at_builtin;refine ym _ _ 27 rfl rfl _ _ rfl rfl _ _ Hrun.out ?_);go_ret;exact⟨HBf.out,by rw[Hv.out];exact⟨rfl,HFin.out⟩⟩
        · rw[hcv] at HCmp Hob
          have Hv:=hid (show vz L s p (.ok i)=.error (3,jg s p) from by
           show (if i.tag=6 then _ else _)=_;rw[if_pos H6.out,if_pos (by rw[Hob.out];decide)])
          have v1:=fun W2 (hb:Below W1.heap.size W1 W2)=>(Hbx.out W2 hb).vrow.cell 1 rfl
          have HV1:=hid v1;clear hcv v1;go_wp2_with fail;refine HCmp.out.mono ?_;rintro e W2 ⟨rfl,hb2⟩;have v1:=HV1.out W2 hb2;have HR2:=hid (Hbx.out _ hb2).row;have Hb2:=hid (Hb1.out.trans (hb2.mono (Nat.le_trans HPre.out.bp HPre1.out.lw)));clear hb2;go_wp2_with fail;refine(kr (c:=3) (o:=jg s p) (by decide) _).mono ?_;rintro e w' ⟨rfl,rfl⟩;go_wp2_with fail;go_ret;exact⟨Hb2.out,by rw[Hv.out];exact⟨rfl,_,HR2.out,rfl⟩⟩
        · rw[hcv] at HCmp Hob
          have Hv:=hid (show vz L s p (.ok i)=.error (3,jg s p) from by
           show (if i.tag=6 then _ else _)=_;rw[if_pos H6.out,if_pos (by rw[Hob.out];decide)])
          have v1:=fun W2 (hb:Below W1.heap.size W1 W2)=>(Hbx.out W2 hb).vrow.cell 1 rfl
          have HV1:=hid v1;clear hcv v1;go_wp2_with fail;refine HCmp.out.mono ?_;rintro e W2 ⟨rfl,hb2⟩;have v1:=HV1.out W2 hb2;have HR2:=hid (Hbx.out _ hb2).row;have Hb2:=hid (Hb1.out.trans (hb2.mono (Nat.le_trans HPre.out.bp HPre1.out.lw)));clear hb2;go_wp2_with fail;refine(kr (c:=3) (o:=jg s p) (by decide) _).mono ?_;rintro e w' ⟨rfl,rfl⟩;go_wp2_with fail;go_ret;exact⟨Hb2.out,by rw[Hv.out];exact⟨rfl,_,HR2.out,rfl⟩⟩
    · have Hv:=hid (show vz L s p (.ok i)=.ok { s with frm:=jg s p,inner:=i } from if_neg h6);refine HPut.out.mono ?_;rintro e W1 ⟨hb1,rfl,hP1⟩;have HF:=hid (HPre.out.cont Ht.out hb1 k3 hP1);have Hb1:=hid (Hb0W.out.trans (hb1.mono HPre.out.bp));have hd:decide (i.tag=6)=false:=decide_eq_false h6;clear hb1 hP1 h6 k1 k2 k3 hfi;go_wp2_with fail;go_ret;exact⟨Hb1.out,by rw[Hv.out];exact⟨rfl,HF.out⟩⟩
 · obtain⟨W,rfl⟩:∃W,W=w:=⟨w,rfl⟩
   have HPre:=hid (show VPre W base R L s K U C B pb P (jg s p) s.inner from
    ⟨hR,by unfold jg;rw[if_neg (by omega)];exact hB,hc,hu,⟨wb,hK,hS,hwb⟩,hR0,hU,hC,hB0,hbp,lR,lU,lC,lB,by have:=hP.1;obtain⟨_,_,_,hr,_⟩:=hP;have:=hr.lt;omega⟩)
   have HP2:=hid hP;have Hb0W:=hid hb0;have HDW:=hid hD;have v1:=hB.cell 1 rfl;have hvp:=hB.cell 2 rfl;clear hR hB hu hc hK hS hwb hbp lR lU lC lB hP hD hb0 h1 wb;go_enter Tryz.func111,Tryz.ntmps111;go_wp2_with fail;have HPut:=hid (zmn pb P L s.inner x rest W HP2.out Hi1.out HL.out Hx.out Hr.out Hi.out Hi2.out);rw[Hrr.out] at HPut;clear hvp v1
   cases rr with
   | error c=>
    have hc0:=zhx Hrr.out;refine HPut.out.mono ?_;rintro e W1 ⟨hb1,rfl⟩;have HPre1:=hid (HPre.out.later hb1);have hb1':=hb1.mono HPre.out.bp;have hCo:=zaz (some ((c:Int),none)) W1 (HDW.out.keep hDb hb1');simp only[zn,kw] at hCo;have HCo:=hid hCo;have Hb1:=hid hb1';clear hCo hb1 hb1';go_wp2_with fail;refine HCo.out.mono ?_;rintro e W2 ⟨rfl,hb2⟩;have HR2:=hid (HPre1.out.row.later hb2);have Hb2:=hid ((Hb0W.out.trans Hb1.out).trans (hb2.mono (Nat.le_trans HPre.out.bp HPre1.out.lw)));clear hb2;go_wp2_with fail;refine(kr (c:=c) (o:=p) hc0 _).mono ?_;rintro e w' ⟨rfl,rfl⟩;go_wp2_with fail;go_ret
    exact⟨Hb2.out,rfl,_,HR2.out,rfl⟩
   | ok i=>
    obtain⟨k1,k2,k3⟩:=zd7 Hi1.out Hi2.out Hrr.out;have hfi:=zho Hi.out Hi1.out Hx.out Hrr.out;have Hfi:=hid hfi;by_cases h6:i.tag=6
    · have hvv:=HI.out i Hrr.out h6;have hlv:LtV i.v:=hfi.v;refine HPut.out.mono ?_;rintro e W1 ⟨hb1,rfl,hP1⟩;have hPre1:=HPre.out.later hb1;obtain⟨wb,kk1,kk2,kk3⟩:=hPre1.kv;have hKV:=kk1.steady kk2;have hd:decide (i.tag=6)=true:=decide_eq_true h6;have HVc:=hid (zmo pb P L i W1 hP1 h6);have v2:=hPre1.vrow.cell 2 rfl;have HPre1:=hid hPre1;have HKV:=hid hKV;have Hlv:=hid hlv;have Hvv:=hid hvv;have Hb1:=hid (Hb0W.out.trans (hb1.mono HPre.out.bp));have HD1:=hid (HDW.out.keep hDb (hb1.mono HPre.out.bp));have H6:=hid h6;clear hPre1 hKV kk1 kk2 kk3 hb1 hP1 hlv hvv k1 k2 k3 hfi h6;go_wp2_with fail;refine HVc.out.mono ?_;rintro e w' ⟨⟨V,rfl,hV⟩,rfl⟩;have hES:=hV.enSl Hlv.out;obtain⟨va,vn,vcap,rfl,hET⟩:=hES;have HET:=hid hET;obtain⟨ka,kc,hKe⟩:=HKV.out.len;subst hKe
      have hbx:∀W2,Below W1.heap.size W1 W2→VRows W2 base R L (.iface 196 (.pointer (some ⟨B,0,none⟩))) (.slice ka s.vs.length kc) U C B s.left (jg s p:Int) (.pointer (some ⟨P,0,none⟩)) s.ix s.vs:=fun _ hb=>
       ⟨HPre1.out.row.later hb,HPre1.out.vrow.later hb,HPre1.out.cur.later hb,HPre1.out.used.same (hb.block U HPre1.out.used.lt),HKV.out.later hb⟩
      have hbV:∀W2,Below W1.heap.size W1 W2→EnSl W2 0 (.slice va vn vcap) i.v:=fun _ hb=>(show EnSl W1 0 (.slice va vn vcap) i.v from⟨va,vn,vcap,rfl,HET.out⟩).steady (P:=fun _=>True) (.of_below hb) trivial trivial
      have Hbx:=hid hbx;have HbV:=hid hbV;have q6:=HPre1.out.row.cell 6 rfl;have hll:=HF.out.vsl;have hvl:s.vs.length+1≤1000000000000:=by omega
      have Hvl:=hid hvl;have Hlf:=hid HF.out.left;clear hV hET v2 hbx hbV hll hvl;by_cases h0:s.vs=[]
      · have hn0:s.vs.length=0:=by rw[h0];rfl
        have Hob:=hid (show ja s.vs i.v=false from by rw[h0];rfl);have Hn0:=hid hn0;obtain⟨gK,cK,w3,hrun,hb3,hR3,hB3,hC3,hu3,hK3⟩:=zfv (Hbx.out _ (Below.refl _ _)) hR0 (HbV.out _ (Below.refl _ _)) Hvl.out;rw[hn0] at hrun q6;have Hrun:=hid hrun;clear h0 hn0;have e2:(s.left:Int) - 1=((s.left - 1:Nat):Int):=by have:=Hleft.out;omega
        have e3:IntKind.u64.wrap ((s.left - 1:Nat):Int)=((s.left - 1:Nat):Int):=by have:=Hlf.out;rw[IntKind.wrap_u64];omega
        have p6:=hR3.cell 6 rfl;rw[Hn0.out] at p6;have z6:=hR3.fz 6;have p5:=hR3.cell 5 rfl;have z5:=hR3.fz 5;have b0:=hB3.cell 0 rfl;have b1:=hB3.cell 1 rfl;have y0:=hB3.fz 0;have y1':=hB3.fz 1;have hneRB:=hR3.ne hB3 (by decide);have hneBR:=hneRB.symm;by_cases hl1:s.left=1
        · have Hv:=hid (show vz L s p (.ok i)=.ok { s with tag:=2,vs:=s.vs++[i.v],left:=0,inner:=ps0 } from by
           show (if i.tag=6 then _ else _)=_;rw[if_pos H6.out,if_neg (by rw[Hob.out];decide),if_pos hl1])
          have HFin:=hid ((zb0 hR3 hB3 hC3 hu3 hK3 0).mid hR0 hU hC);have HBf:=hid (((((Hb1.out.trans hb3).setCell (p:=⟨R,6,none⟩) hR0 (.slice (some ⟨gK,0,none⟩) (s.vs.length+1) cK)).setCell (p:=⟨B,1,none⟩) hB0 (.int .i64 (-1))).setCell (p:=⟨B,0,none⟩) hB0 (.int .u64 ((0:Nat):Int))).setCell (p:=⟨R,5,none⟩) hR0 (.iface 200 (.agg #[])));rw[Hn0.out] at HFin HBf;rw[hl1] at b0;clear hR3 hB3 hC3 hu3 hK3 hb3 e2 e3 hl1 hrun;go_wp2_with (at_builtin;refine ym _ _ 27 rfl rfl _ _ rfl rfl _ _ Hrun.out ?_);go_ret;exact⟨HBf.out,by rw[Hv.out];exact⟨rfl,HFin.out⟩⟩
        · have Hv:=hid (show vz L s p (.ok i)=.ok { s with vs:=s.vs++[i.v],left:=s.left - 1,inner:=ps0 } from by
           show (if i.tag=6 then _ else _)=_;rw[if_pos H6.out,if_neg (by rw[Hob.out];decide),if_neg hl1])
          have HFin:=hid ((zb0 hR3 hB3 hC3 hu3 hK3 (s.left - 1)).more Ht.out hR0 hU hC hB0);have HBf:=hid ((((Hb1.out.trans hb3).setCell (p:=⟨R,6,none⟩) hR0 (.slice (some ⟨gK,0,none⟩) (s.vs.length+1) cK)).setCell (p:=⟨B,1,none⟩) hB0 (.int .i64 (-1))).setCell (p:=⟨B,0,none⟩) hB0 (.int .u64 ((s.left - 1:Nat):Int)));rw[Hn0.out] at HFin HBf;have h1l:(((s.left - 1:Nat):Int) == 0)=false:=by have:=Hleft.out;rw[beq_eq_false_iff_ne];omega
          have h1m:¬s.left - 1=0:=by have:=Hleft.out;omega
          clear hR3 hB3 hC3 hu3 hK3 hb3 hl1 hrun;generalize s.left - 1=left1 at*;go_wp2_with (at_builtin;refine ym _ _ 27 rfl rfl _ _ rfl rfl _ _ Hrun.out ?_);go_ret;exact⟨HBf.out,by rw[Hv.out];exact⟨rfl,HFin.out⟩⟩
      · have hpos:s.vs.length - 1<s.vs.length:=by have:=List.length_pos_iff.2 h0;omega
        obtain⟨gk,kcap,hke,hgk,hgkl,y,cy,-,hyE⟩:=HKV.out.at hpos;obtain⟨ya,yn,yc,rfl,hYT⟩:=hyE;have hka:ka=some ⟨gk,0,none⟩:=by injection hke
        subst hka;have hmem:yt s.vs (s.vs.length - 1)∈s.vs:=by rw[zbd hpos];exact List.getElem_mem hpos
        have HCmp:=hid (zks ya va yn yc vn vcap _ _ W1 hYT.ents HET.out.ents (HV.out _ hmem) Hvv.out)
        have Hob:=hid (show ja s.vs i.v=decide (0≤jm (yt s.vs (s.vs.length - 1)) i.v) from by
         unfold ja;rw[List.getLast?_eq_getElem?,List.getElem?_eq_getElem hpos,zbd hpos])
        obtain⟨n,hn⟩:∃n,n=s.vs.length:=⟨_,rfl⟩;have Hn:=hid hn;rw[←hn] at cy q6;have hn1:1≤n∧n≤1000000000000:=by have:=Hvl.out;omega
        have e1:(n:Int) - 1=((n - 1:Nat):Int):=by omega
        clear h0 hke hYT hmem hn;rcases zgo (yt s.vs (s.vs.length - 1)) i.v with hcv | hcv | hcv
        · rw[hcv] at HCmp Hob;have Hob:=hid (show ja s.vs i.v=false from Hob.out);clear hcv;go_wp2_with fail;refine HCmp.out.mono ?_;rintro e W2 ⟨rfl,hb2⟩;obtain⟨gK,cK,w3,hrun,hb3,hR3,hB3,hC3,hu3,hK3⟩:=zfv (Hbx.out _ hb2) hR0 (HbV.out _ hb2) Hvl.out;have p6:=(Hbx.out _ hb2).row.cell 6 rfl;rw[←Hn.out] at hrun p6;have Hrun:=hid hrun;have Hb2:=hid (Hb1.out.trans (hb2.mono (Nat.le_trans HPre.out.bp HPre1.out.lw)));clear hb2;have e2:(s.left:Int) - 1=((s.left - 1:Nat):Int):=by have:=Hleft.out;omega
          have e3:IntKind.u64.wrap ((s.left - 1:Nat):Int)=((s.left - 1:Nat):Int):=by have:=Hlf.out;rw[IntKind.wrap_u64];omega
          have p6:=hR3.cell 6 rfl;have z6:=hR3.fz 6;have p5:=hR3.cell 5 rfl;have z5:=hR3.fz 5;have b0:=hB3.cell 0 rfl;have b1:=hB3.cell 1 rfl;have y0:=hB3.fz 0;have y1':=hB3.fz 1;have hneRB:=hR3.ne hB3 (by decide);have hneBR:=hneRB.symm;by_cases hl1:s.left=1
          · have Hv:=hid (show vz L s p (.ok i)=.ok { s with tag:=2,vs:=s.vs++[i.v],left:=0,inner:=ps0 } from by
             show (if i.tag=6 then _ else _)=_;rw[if_pos H6.out,if_neg (by rw[Hob.out];decide),if_pos hl1])
            have HFin:=hid ((zb0 hR3 hB3 hC3 hu3 hK3 0).mid hR0 hU hC);have HBf:=hid (((((Hb2.out.trans hb3).setCell (p:=⟨R,6,none⟩) hR0 (.slice (some ⟨gK,0,none⟩) (s.vs.length+1) cK)).setCell (p:=⟨B,1,none⟩) hB0 (.int .i64 (-1))).setCell (p:=⟨B,0,none⟩) hB0 (.int .u64 ((0:Nat):Int))).setCell (p:=⟨R,5,none⟩) hR0 (.iface 200 (.agg #[])));rw[←Hn.out] at HFin HBf;rw[hl1] at b0;clear hR3 hB3 hC3 hu3 hK3 hb3 e2 e3 hl1 hrun;go_wp2_with (at_builtin;refine ym _ _ 27 rfl rfl _ _ rfl rfl _ _ Hrun.out ?_);go_ret;exact⟨HBf.out,by rw[Hv.out];exact⟨rfl,HFin.out⟩⟩
          · have Hv:=hid (show vz L s p (.ok i)=.ok { s with vs:=s.vs++[i.v],left:=s.left - 1,inner:=ps0 } from by
             show (if i.tag=6 then _ else _)=_;rw[if_pos H6.out,if_neg (by rw[Hob.out];decide),if_neg hl1])
            have HFin:=hid ((zb0 hR3 hB3 hC3 hu3 hK3 (s.left - 1)).more Ht.out hR0 hU hC hB0);have HBf:=hid ((((Hb2.out.trans hb3).setCell (p:=⟨R,6,none⟩) hR0 (.slice (some ⟨gK,0,none⟩) (s.vs.length+1) cK)).setCell (p:=⟨B,1,none⟩) hB0 (.int .i64 (-1))).setCell (p:=⟨B,0,none⟩) hB0 (.int .u64 ((s.left - 1:Nat):Int)));rw[←Hn.out] at HFin HBf;have h1l:(((s.left - 1:Nat):Int) == 0)=false:=by have:=Hleft.out;rw[beq_eq_false_iff_ne];omega
            have h1m:¬s.left - 1=0:=by have:=Hleft.out;omega
            clear hR3 hB3 hC3 hu3 hK3 hb3 hl1 hrun;generalize s.left - 1=left1 at*;go_wp2_with (at_builtin;refine ym _ _ 27 rfl rfl _ _ rfl rfl _ _ Hrun.out ?_);go_ret;exact⟨HBf.out,by rw[Hv.out];exact⟨rfl,HFin.out⟩⟩
        · rw[hcv] at HCmp Hob
          have Hv:=hid (show vz L s p (.ok i)=.error (3,jg s p) from by
           show (if i.tag=6 then _ else _)=_;rw[if_pos H6.out,if_pos (by rw[Hob.out];decide)])
          have v1:=fun W2 (hb:Below W1.heap.size W1 W2)=>(Hbx.out W2 hb).vrow.cell 1 rfl
          have HV1:=hid v1;clear hcv v1;go_wp2_with fail;refine HCmp.out.mono ?_;rintro e W2 ⟨rfl,hb2⟩;have v1:=HV1.out W2 hb2;have HR2:=hid (Hbx.out _ hb2).row;have Hb2:=hid (Hb1.out.trans (hb2.mono (Nat.le_trans HPre.out.bp HPre1.out.lw)));clear hb2;go_wp2_with fail;refine(kr (c:=3) (o:=jg s p) (by decide) _).mono ?_;rintro e w' ⟨rfl,rfl⟩;go_wp2_with fail;go_ret;exact⟨Hb2.out,by rw[Hv.out];exact⟨rfl,_,HR2.out,rfl⟩⟩
        · rw[hcv] at HCmp Hob
          have Hv:=hid (show vz L s p (.ok i)=.error (3,jg s p) from by
           show (if i.tag=6 then _ else _)=_;rw[if_pos H6.out,if_pos (by rw[Hob.out];decide)])
          have v1:=fun W2 (hb:Below W1.heap.size W1 W2)=>(Hbx.out W2 hb).vrow.cell 1 rfl
          have HV1:=hid v1;clear hcv v1;go_wp2_with fail;refine HCmp.out.mono ?_;rintro e W2 ⟨rfl,hb2⟩;have v1:=HV1.out W2 hb2;have HR2:=hid (Hbx.out _ hb2).row;have Hb2:=hid (Hb1.out.trans (hb2.mono (Nat.le_trans HPre.out.bp HPre1.out.lw)));clear hb2;go_wp2_with fail;refine(kr (c:=3) (o:=jg s p) (by decide) _).mono ?_;rintro e w' ⟨rfl,rfl⟩;go_wp2_with fail;go_ret;exact⟨Hb2.out,by rw[Hv.out];exact⟨rfl,_,HR2.out,rfl⟩⟩
    · have Hv:=hid (show vz L s p (.ok i)=.ok { s with frm:=jg s p,inner:=i } from if_neg h6);refine HPut.out.mono ?_;rintro e W1 ⟨hb1,rfl,hP1⟩;have HF:=hid (HPre.out.cont Ht.out hb1 k3 hP1);have Hb1:=hid (Hb0W.out.trans (hb1.mono HPre.out.bp));have hd:decide (i.tag=6)=false:=decide_eq_false h6;clear hb1 hP1 h6 k1 k2 k3 hfi;go_wp2_with fail;go_ret;exact⟨Hb1.out,by rw[Hv.out];exact⟨rfl,HF.out⟩⟩
end
section
def vk {α:Type} (E:Nat) (a:RR α):Prop:=match a with | .error e=>e.2≤E∧e.1≠0 | .ok y=>y.2≤E
structure TokE (T:zl) (E:Nat):Prop where
 ok:∀p x q,T p=.ok (x,q)→q≤E
 error:∀p c,T p=.error c→c≠0
theorem kd {α β:Type} {E:Nat} {a:RR α} {f:α→Nat→RR β} (h:vk E a) (hf:∀x q,q≤E→vk E (f x q)):vk E (thn a f):=by
 cases a with
 | error e=>exact h
 | ok y=>exact hf y.1 y.2 h
theorem zb1 {α:Type} {E:Nat} {c:Prop} [Decidable c] {a b:RR α} (h1:vk E a) (h2:vk E b):vk E (if c then a else b):=by split <;> assumption
variable {T:zl} {E:Nat}
theorem zde (h:TokE T E) {p:Nat} (hp:p≤E):vk E (nmP T p):=by
 unfold nmP
 cases hT:T p with
 | error c=>exact⟨hp,h.error p c hT⟩
 | ok y=>exact h.ok p y.1 y.2 hT
theorem zfy (h:TokE T E) (lim:Int) {p:Nat} (hp:p≤E):vk E (zv T E lim p):=kd (zde h hp) fun x q hq=>by
 split
 · exact hq
 · rename_i h1;exact⟨hp,h1⟩
theorem zut (h:TokE T E) (lo:Nat) {q:Nat} (hq:q≤E):vk E (hiP T lo q):=kd (zde h hq) fun x r hr=>zb1 hr ⟨hq,by simp⟩
theorem zuu (lo:Nat) {q r:Nat} {s:Iv×Nat} (h:hiP T lo q=.ok (s,r)):s.2=q:=by
 unfold hiP at h;obtain⟨x,r',-,h2⟩:=qs h;split at h2
 · cases h2;rfl
 · cases h2
theorem zmt (h:TokE T E) (prev:Option Nat) (a:Nat) {p:Nat} (hp:p≤E):vk E (ivP T prev a p):=kd (zde h hp) fun x q hq=>by
 cases loP prev a x with
 | none=>exact⟨hp,by simp⟩
 | some lo=>exact zut h lo hq
theorem zuv (h:TokE T E) {prev:Option Nat} {a p r:Nat} {s:Iv×Nat} (hv:ivP T prev a p=.ok (s,r)):s.2≤E:=by
 unfold ivP at hv;obtain⟨x,q,h1,h2⟩:=qs hv
 cases hlo:loP prev a x with
 | none=>rw[hlo] at h2;cases h2
 | some lo=>rw[hlo] at h2;rw[zuu lo h2];exact h.ok _ _ _ (zbz h1)
theorem zuw {α β:Type} {a:RR α} {f:α→Nat→RR β} (h:vk E a) (hf:∀x q,a=.ok (x,q)→q≤E→vk E (f x q)):vk E (thn a f):=by
 cases a with
 | error e=>exact h
 | ok y=>exact hf y.1 y.2 rfl h
theorem zmu (h:TokE T E) (mx:Nat):∀n acc {p:Nat},p≤E→vk E (y7 T mx n acc p)
 | 0,acc,p,hp=>hp
 | n+1,acc,p,hp=>by
   rw[y7];refine zuw (zmt h _ _ hp) fun s q hs hq=>?_
   unfold ko;exact zb1 ⟨zuv h hs,by simp⟩ (zmu h mx n _ hq)
theorem zmv (h:TokE T E) (lim:Int):∀n acc {p:Nat},p≤E→vk E (yx T E lim n acc p)
 | 0,acc,p,hp=>hp
 | n+1,acc,p,hp=>by
   rw[yx];refine kd (kd (zde h hp) fun x q hq=>?_) fun e q hq=>zmv h lim n _ hq
   cases jv acc x with
   | none=>exact⟨hp,by simp⟩
   | some r=>exact kd (zde h hq) fun mx q hq=>kd (zfy h lim hq) fun n q hq=>kd (zmu h mx n [] hq) fun _ _ hq=>hq
theorem zmw (h:TokE T E) (le lh:Int):∀n acc {p:Nat},p≤E→vk E (y8 T E le lh n acc p)
 | 0,acc,p,hp=>hp
 | n+1,acc,p,hp=>by
   rw[y8];refine kd (kd (zfy h le hp) fun n q hq=>zb1 ⟨hp,by simp⟩ (zmv h lh n [] hq)) fun v q hq=>zb1 ⟨hp,by simp⟩ (zmw h le lh n _ hq)
theorem zmx (h:TokE T E) (N:Nat):∀m l ix {p:Nat},p≤E→vk E (yz T N m l ix p)
 | 0,l,ix,p,hp=>hp
 | m+1,l,ix,p,hp=>by
   rw[yz];refine kd (zmt h _ _ hp) fun s q hq=>kd (zde h hq) fun x r hr=>zb1 ⟨hq,by simp⟩ (zb1 ⟨hq,by simp⟩ (zmx h N m _ _ hr))
theorem zmy (h:TokE T E) (L:zb) {p:Nat} (hp:p≤E):vk E (zx T E L p):=
 kd (zfy h _ hp) fun n q hq=>kd (zmw h _ _ n [] hq) fun vs q hq=>kd (zfy h _ hq) fun m q hq=>kd (zmx h _ m [] [] hq) fun s q hq=>zb1 ⟨hq,by simp⟩ (zb1 ⟨hq,by simp⟩ hq)
theorem zux {l:List Nat} (hl:∀c∈l,c<256):Fwd (qq l):=fun p x q h=>(zbx hl h).1
theorem zuy {l:List Nat} (hl:∀c∈l,c<256):T64 (qq l):=fun p x q h=>(zbx hl h).2.2.1
theorem zmz {l:List Nat} (hl:∀c∈l,c<256):TokE (qq l) l.length:=⟨fun p x q h=>(zbx hl h).2.1,fun p c h=>by
 unfold qq at h;split at h
 · cases h
 · cases h;decide
 · cases h;decide⟩
def zak (L:zb) (l:List Nat):RR Kno:=zx (qq l) l.length L 0
theorem zuz (ns:List Nat):∀c∈qy ns,c<256:=fun c hc=>by
 unfold qy at hc;obtain⟨x,-,hx⟩:=List.mem_flatMap.1 hc;exact zig x c hx
theorem zu0 {L:zb} {c:Kno} (hc:CanK c) (hK:EncK c) (t:List Nat) (ht:∀x∈t,x<256):
 (okK L c→zak L (qy (jl c)++t)=if 0<t.length then .error (11,(qy (jl c)).length) else .ok (c,(qy (jl c)).length))∧(¬okK L c→∃w,zak L (qy (jl c)++t)=.error (7,w)):=by
 have hl:∀x∈qy (jl c)++t,x<256:=fun x hx=>by
  rcases List.mem_append.1 hx with h | h
  · exact zuz _ x h
  · exact ht x h
 have hr:=zk2 (l:=qy (jl c)++t) (ns:=jl c) (t:=t) (p:=0) (zse hK) rfl;rw[Nat.zero_add] at hr;obtain⟨h1,h2⟩:=zt3 (E:=(qy (jl c)++t).length) (L:=L) (zux hl) hc hK.lt hr (by rw[List.length_append];omega);refine⟨fun h=>?_,h2⟩;unfold zak;rw[h1 h,List.length_append];by_cases h0:0<t.length
 · rw[if_pos h0,if_pos (by omega)]
 · rw[if_neg h0,if_neg (by omega)]
theorem zu1 {L:zb} {l:List Nat} (hl:∀c∈l,c<256) {c:Kno} {q:Nat} (h:zak L l=.ok (c,q)):CanK c∧LtK c∧okK L c∧qy (jl c)=l∧q=l.length:=by
 obtain⟨h1,h2,h3,h4,h5⟩:=zmr (zuy hl) h
 have hq:q=l.length:=by
  have:=zmy (zmz hl) L (p:=0) (Nat.zero_le _);have e:zx (qq l) l.length L 0=.ok (c,q):=h;rw[e] at this;exact Nat.le_antisymm this h5
 refine⟨h1,h2,h3,?_,hq⟩;have:=zhj hl h4;rw[hq,List.drop_length,List.append_nil] at this;exact this.symm
theorem zyk {L:zb} {l:List Nat} (hl:∀c∈l,c<256) {e:Nat×Nat} (h:zak L l=.error e):e.2≤l.length∧e.1≠0:=by
 have:=zmy (zmz hl) L (p:=0) (Nat.zero_le _);have e':zx (qq l) l.length L 0=.error e:=h;rw[e'] at this;exact this
abbrev unl:zb:=(9223372036854775807,9223372036854775807,9223372036854775807,9223372036854775807,9223372036854775807)
theorem zfz {n:Nat} (h:n≤100000):okC n 9223372036854775807:=.inl (by omega)
theorem zu2 {c:Kno} (hK:EncK c):(zf c).length≤1000:=by
 have h2:=zg8 c c.length (Nat.le_refl _);rw[List.take_length] at h2;have:=hK.sum;unfold zf;omega
theorem zm0 {c:Kno} (hK:EncK c):okK unl c:=
 ⟨zfz (by have:=hK.len;omega),fun i hi=>⟨zfz (by have:=(hK.vec _ (j7 hi)).len;omega),fun j hj=>zfz (by have:=(hK.vec _ (j7 hi)).holes _ (zc2 hj);omega)⟩,zfz (by have:=zu2 hK;omega)⟩
theorem zm1 {c:Kno} (hK:EncK c) {L:zb} (h:okK L c):zak L (qy (jl c))=.ok (c,(qy (jl c)).length):=by
 have:=(zu0 (L:=L) hK.can hK [] (fun x hx=>(by cases hx))).1 h;rw[List.append_nil] at this;exact this
theorem zyl {a b:Kno} (ka:EncK a) (kb:EncK b) (h:qy (jl a)=qy (jl b)):a=b:=by
 have h1:=zm1 ka (zm0 ka);have h2:=zm1 kb (zm0 kb);rw[h,h2] at h1;injection h1 with h1;injection h1 with h1 _;exact h1.symm
theorem zf0:∀(l:List Nat) (n j x:Nat),zh (l.take n) j x=zh l j x∨(zh (l.take n) j x).1=0
 | [],n,j,x=>by rw[List.take_nil];exact .inl rfl
 | c :: l,0,j,x=>.inr rfl
 | c :: l,n+1,j,x=>by
   rw[List.take_succ_cons,zh,zh];split
   · exact .inl rfl
   · split
     · exact .inl rfl
     · exact zf0 l n _ _
theorem zu3 (l:List Nat) (n p:Nat):qq (l.take n) p=qq l p∨qq (l.take n) p=.error 5:=by
 unfold qq;rw[List.drop_take];rcases zf0 (l.drop p) (n - p) 0 0 with h | h
 · rw[h];exact .inl rfl
 · refine .inr ?_;generalize zh ((l.drop p).take (n - p)) 0 0=s at h;obtain⟨a,b,d⟩:=s;simp only at h;subst h
   rfl
theorem zym {L:zb} {l:List Nat} (hl:∀c∈l,c<256) {c:Kno} {q n:Nat} (h:zak L l=.ok (c,q)) (hn:n<l.length):∃w,zak L (l.take n)=.error (5,w):=by
 obtain⟨-,-,-,-,hq⟩:=zu1 hl h;have hl':∀c∈l.take n,c<256:=fun c hc=>hl c (List.mem_of_mem_take hc)
 have e:(l.take n).length=n:=by rw[List.length_take];omega
 have:=zug (T:=qq l) (T':=qq (l.take n)) (E:=l.length) (E':=n) ⟨fun p=>zu3 l n p,.inr ⟨rfl,by omega⟩⟩ (fun p x q h=>by have:=(zbx hl' h).2.1;omega) L (Nat.zero_le _) h (by omega);unfold zak;rw[e];exact this
end
section
open Go.RowKit
theorem zu4 (w:World):Calls Tryz.prog 43 #[] w fun e w'=>e=.returned (lmV unl)∧Below w.heap.size w w':=by
 go_enter Tryz.func43,Tryz.ntmps43;go_wp2_with fail;refine bodyPost_ret (results_cell_row rfl _ _ w.heap.size 24 #[.int .i64 9223372036854775807,.int .i64 9223372036854775807,.int .i64 9223372036854775807,.int .i64 9223372036854775807,.int .i64 9223372036854775807] (0,0) _ rfl (heap_alloc_new w _) Tryz.underlying24 rfl (by kernel_rfl)) rfl ?_;exact⟨rfl,(Below.refl _ _).alloc (Nat.le_refl _) _⟩
theorem zm2:LimsI unl:=⟨⟨by decide,by decide⟩,⟨by decide,by decide⟩,⟨by decide,by decide⟩,⟨by decide,by decide⟩,⟨by decide,by decide⟩⟩
