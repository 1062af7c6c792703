/- Part 52. -/
import Derived.Test.YtmfhggnlainmiaaGreatDoorPk51
import Derived.Test.YtmfhggnlainmiaaGreatDoorPk39
import Derived.Test.YtmfhggnlainmiaaGreatDoorPk49
import Derived.Test.YtmfhggnlainmiaaGreatDoorPk41
set_option linter.unusedVariables false
set_option maxHeartbeats 16000000
namespace Go.Proofs.YtmfhggnlainmiaaGreatDoor
open Lib (hid)
section
open Go.RowKit
attribute [local go_sem] y9 Tryz.eqGuard_if
theorem NI.all {L:zc} {t:List Nat} {s:Dc} {ks:List Kno} {es:List Nat} (hl:∀c∈t,c<256) (hS:SI L t s ks es) (hN:NI (max L.1 0) t s) (hc:¬(s.vc=7∨s.vc=12∨s.vc=13)):s.sn=t.length+frN t 0+s.out.length∧lnN (max L.1 0) t 0:=by
 by_cases h4:s.st=4
 · exact(hN.bad h4).resolve_left hc
 · have hst:=hS.st;obtain⟨A,hA,h01,h2,h3⟩:=hN.run (by omega);obtain⟨hA0,hO0⟩:=hA [] fun c h=>(by cases h)
   rw[List.append_nil] at hA0 hO0;rcases(by omega:s.st=0∨s.st=1∨s.st=2∨s.st=3) with h0 | h0 | h0 | h0
   · have hI:=hS.s0 h0
     have he:∃c,ze t (s.fin+100) (s.fin+5)=.error c:=by
      refine⟨if s.fin+100≤t.length then 5 else 0,?_⟩;unfold ze;rw[List.drop_eq_nil_of_le (by rw[List.length_take];have:=hI.len;have:=hI.hd;omega)]
      rfl
     obtain⟨c,he⟩:=he;rw[hA0,zpq he];exact⟨by have:=h01 (by omega);omega,hO0 (zty he)⟩
   · have hI:=hS.s1 h0;have he:=hI.num.tokW (E:=s.fin+100) (by have:=hI.num.len;have:=hI.num.n;have:=hI.frm;omega);rw[hI.frm] at he;rw[hA0,zpq he];exact⟨by have:=h01 (by omega);omega,hO0 (zty he)⟩
   · obtain⟨n',s0',hI⟩:=hS.s2 h0;obtain⟨n,s0,ns,kM,k1,k2,k3,k4⟩:=h2 h0;have e1:=k1 [];have e3:=k3 [];rw[List.append_nil] at e1 e3;have hlf:=hI.left;have he:=hI.num.tokW (E:=s0+n) (by omega);have hq:s.frm<s0+n:=by have:=hI.num.len;omega
     rw[hA0,zpr hl e1 e3 hq he];exact⟨by omega,hO0 (zpt hl e1 kM e3 hq he)⟩
   · obtain⟨n',s0',hI⟩:=hS.s3 h0;obtain⟨n,s0,ns,kM,k1,k2,k3,k4⟩:=h3 h0;have e1:=k1 [];have e3:=k3 [];rw[List.append_nil] at e1 e3;have hv:=hI.hv;rw[hA0,zmd hl e1 e3,zmc (by omega)];exact⟨by omega,hO0 (zme hl e1 kM (zps (by omega)))⟩
set_option maxRecDepth 20000 in
theorem yge (a e:Option Addr) (n cap m cm:Nat) (l ss:List Nat) (L:zc) (w:World) (hB:Byts w a n cap l) (hS:Byts w e m cm ss) (hL:LimsI L) (hD:Door w):
 Calls Tryz.prog 8 #[.slice a n cap,lmV L,.slice e m cm] w fun x w'=>x=.returned (.bool true)∧Below w.heap.size w w':=by
 obtain⟨wB,hwB⟩:∃wB,wB=w.alloc (.cells #[.int .i64 L.1,.int .i64 L.2.1,.int .i64 L.2.2.1,.int .i64 L.2.2.2.1,.int .i64 L.2.2.2.2] 24):=⟨_,rfl⟩;have hbB:Below w.heap.size w wB:=by rw[hwB];exact(Below.refl _ _).alloc (Nat.le_refl _) _
 have HG:=hid (show Row wB w.heap.size 24 [.int .i64 L.1,.int .i64 L.2.1,.int .i64 L.2.2.1,.int .i64 L.2.2.2.1,.int .i64 L.2.2.2.2] from by rw[hwB];exact y7 w _ _);have HwB:=hid hwB;have HbB:=hid hbB;have HA:=hid (fun W (h:Below w.heap.size w W)=>zph W (hD.below (Nat.le_refl _) h));have hnm:n≤9223372036854775807:=Nat.le_trans hB.room hB.most;have hmm:m≤9223372036854775807:=Nat.le_trans hS.room hS.most;have HS0:=hid (fun W b hb=>ztk a e n cap m cm L W hnm hmm b hb);have l0:=HG.out.cell 0 rfl;have l1:=HG.out.cell 1 rfl;have l2:=HG.out.cell 2 rfl;have l3:=HG.out.cell 3 rfl;have l4:=HG.out.cell 4 rfl;have Hsz:=hid hbB.size;unfold lmV at HS0;by_cases hsm:n≤1000∧L.1≤1099511627776∧m≤100
 · have HS:=hid (fun W=>HS0.out W true (by rw[decide_eq_true hsm]));have HNw:=hid (fun V=>zma L V);have hgl:0<w.heap.size:=zf (p:=⟨0,0,none⟩) hD
   have hbl:0<n→∀b o k,a=some ⟨b,o,k⟩→b<w.heap.size:=fun hn b o k e=>by
    obtain⟨b',o',e',hc'⟩:=hB.cells hn;rw[e'] at e;injection e with e;injection e with e;subst e;exact zf (hc' 0 hn)
   have HCh:=hid (fun W (h:Below w.heap.size w W)=>ztj a e n cap m cm l ss W (hB.below h) (hS.below h) w.heap.size hbl h.size (by omega))
   have HFd:=hid (fun W B d t s ks es x mm cc c (h0:Below w.heap.size w W) (h1:DecM W B d L t s ks es) (h2:B≤W.heap.size) (h3:w.heap.size<d) (h4:d<B) (h5:t.length+mm≤800000000000) (hc:Byts W x mm cc c) (hx:0<mm→∀b o k,x=some ⟨b,o,k⟩→b<w.heap.size)=>
    zg3 h1 h2 h4 (by omega) (by omega) (hD.below (Nat.le_refl _) h0) hL x mm cc c hc (fun h b o k e=>by have:=hx h b o k e;omega) (by
     by_cases hm1:mm≤1
     · exact .inl hm1
     · exact .inr fun b o k e=>by have:=hx (by omega) b o k e;omega) h5)
   have HRp:=hid (fun W (h:Below w.heap.size w W)=>ztr a n cap l L W (hB.below h) hL (by omega) hsm.2.1);have HTd:=hid (fun W (h:Below w.heap.size w W)=>z2a a n cap l L W (hB.below h) hL hsm.1 hsm.2.1);have Hcp:=hid hB.room;have Hlen:=hid hB.len;have HBy:=hid (fun W (h:Below w.heap.size w W)=>hB.below h);have HLf:=hid hsm.2.1;have Hlt:=hid hB.lt;have Hn:=hid hsm.1;have Hm:=hid hsm.2.2;unfold lmV at HNw HRp HTd ⊢;clear hB hS hL hD hwB hbB hsm hgl hbl;go_enter Tryz.func8,Tryz.ntmps8;go_upto_region 1 with fail
   rw[←HwB.out];go_wp2_with fail;refine(HS.out _).mono ?_;rintro e w1 ⟨rfl,hb1⟩;have HG1:=hid (HG.out.later hb1);have Hb1:=hid (HbB.out.trans (hb1.mono Hsz.out));clear hb1 l0 l1 l2 l3 l4;have l0:=HG1.out.cell 0 rfl;have l1:=HG1.out.cell 1 rfl;have l2:=HG1.out.cell 2 rfl;have l3:=HG1.out.cell 3 rfl;have l4:=HG1.out.cell 4 rfl;go_wp2_with fail;refine(HNw.out _).mono ?_;rintro e w2 ⟨d,hd1,hd2,rfl,hr2,hb2⟩;have HG2:=hid (HG1.out.later hb2);have Hb2:=hid (Hb1.out.trans (hb2.mono Hb1.out.size));have HR2:=hid hr2;have Hd:=hid (show w.heap.size<d∧d<w2.heap.size from⟨Nat.lt_of_lt_of_le HG1.out.lt hd1,hd2⟩);clear hb2 hd1 hd2 hr2 l0 l1 l2 l3 l4;go_wp2_with fail;refine(HCh.out _ Hb2.out).mono ?_;rintro e w3 ⟨⟨g,gc,cs,rfl,hcl,hfl,hg1,hg2,hcs⟩,hb3⟩;have HG3:=hid (HG2.out.later hb3);have Hb3:=hid (Hb2.out.trans (hb3.mono Hb2.out.size));obtain⟨B,hBq⟩:∃B,w3.heap.size=B:=⟨_,rfl⟩;have HM3:=hid (show DecM w3 B d L [] dc0 [] [] from⟨_,_,Row.later HR2.out hb3,zi4 _,fun c h=>(by cases h),Nat.zero_le _,fun h=>by rcases h with h | h <;> cases h⟩);have Hdd:=hid (show w.heap.size<d∧d<B∧w.heap.size<B∧g<B∧d<g from⟨Hd.out.1,by have:=Hd.out.2;have:=hb3.size;omega,by have:=Hd.out;have:=hb3.size;omega,by omega,by have:=Hd.out.2;omega⟩);have HB3:=hid (Nat.le_of_eq hBq.symm);have Hfl:=hid hfl;have Hcl:=hid hcl;have Hcs:=hid hcs;have hcsm:cs.length≤101:=by have:=Hm.out;omega
   clear hb3 hg1 hg2 hcs hfl hcl hBq;go_wp2_with fail;go_loopw [8,9,11,12,13,33] (fun sn sv _ _ _ i wr=>∃(q:Nat) (t u:List Nat) (s:Dc) (ks:List Kno) (es:List Nat) (N K:Nat),q≤cs.length∧i=.int .i64 q∧sn=.int .i64 N∧sv=.int .i64 K∧Hid ((yk L dc0 (cs.take q).flatten).sn=N∧(yk L dc0 (cs.take q).flatten).out.length=K∧s=(yk L dc0 (cs.take q).flatten).re s.out s.sn)∧Hid (t++u=(cs.take q).flatten∧(s.st<4→u=[]))∧Hid (DecM wr B d L t s ks es)∧Hid (Below w.heap.size w wr)∧Hid (ChkS wr w.heap.size g cs.length cs)∧Hid (Row wr w.heap.size 24 [.int .i64 L.1,.int .i64 L.2.1,.int .i64 L.2.2.1,.int .i64 L.2.2.2.1,.int .i64 L.2.2.2.2])∧Hid (B≤wr.heap.size)) (fun _ _ _ _ _ i _=>cs.length - (intOf i).toNat)
   case atStart=>exact⟨0,[],[],dc0,[],[],0,0,Nat.zero_le _,rfl,rfl,rfl,hid ⟨rfl,rfl,rfl⟩,hid ⟨rfl,fun _=>rfl⟩,HM3,Hb3,Hcs,HG3,HB3⟩
   case round=>
    obtain⟨q,t,u,s,ks,es,N,K,hq,rfl,rfl,rfl,hF,hN,hM,hb,hC,hG,hBr⟩:=hrel;by_cases hqn:q<cs.length
    · obtain⟨x,mm,cc,hcell,hcb,hcx⟩:=hC.out.at_ q hqn;have hfn:=zti hqn;have hfl1:=zmb cs (q+1);have hfl0:=zmb cs q;rw[Hfl.out,Hlen.out] at hfl1 hfl0;have hcl:=hcb.len;have hN1:(cs.take (q+1)).flatten.length=(cs.take q).flatten.length+mm:=by rw[hfn,List.length_append,hcb.len]
      have htl:t.length≤(cs.take q).flatten.length:=by have:=congrArg List.length hN.out.1;rw[List.length_append] at this;omega
      have HF:=hid (HFd.out wr B d t s ks es x mm cc _ hb.out hM.out hBr.out Hdd.out.1 Hdd.out.2.1 (by have:=Hn.out;omega) hcb hcx);have hmmm:mm≤9223372036854775807:=by have:=Hn.out;omega
      have Hon:=hid (fun t5 u5 ks5 es5=>zpc (L:=L) (c:=cs.getD q []) (t5:=t5) (u5:=u5) (ks5:=ks5) (es5:=es5) hN.out.1 hN.out.2 (show SI L t s ks es from hM.out.choose_spec.choose_spec.2.1));have hvc:s.vc≤20:=by obtain⟨_,_,_,_,_,h,-⟩:=hM.out;exact h
      have hmr:=yf7 (c:=cs.getD q []) hF.out.2.2 hF.out.1 rfl;have hfs:=zi7 L (cs.getD q []) { s with out:=[],sn:=0 } hvc;have hfw:=zi7 L (cs.take (q+1)).flatten dc0 (Nat.zero_le _);have hfo:=zl7 L (cs.take (q+1)).flatten dc0 (Nat.zero_le _);rw[←hfn] at hmr;have Hfn:=hid hfn;clear htl hcb hcx hvc;go_wp2_with fail;refine HF.out.mono ?_;rintro e w5 ⟨V5,t5,u5,f5,rfl,hk5,e5,hu5,hM5,hlo5,-⟩;have hsi5:SI L t5 _ (ks++_) (es++f5):=hM5.choose_spec.choose_spec.2.1;obtain⟨v5,ev5,hv5⟩:=Hon.out t5 u5 _ _ e5 hu5 hsi5;obtain⟨s5,hs5⟩:∃s5,yk L { s with out:=[],sn:=0 } (cs.getD q [])=s5:=⟨_,rfl⟩;rw[hs5] at hk5 hM5 hsi5 hv5 hmr hfs ⊢;obtain⟨va,vc,rfl⟩:=hk5.slice;have hso:(yk L dc0 (cs.take (q+1)).flatten).out.length=K+s5.out.length:=by rw[hmr.2.2,List.length_append,hF.out.2.1]
      obtain⟨N5,hN5⟩:∃v,N+s5.sn=v:=⟨_,rfl⟩;obtain⟨K5,hK5⟩:∃v,K+s5.out.length=v:=⟨_,rfl⟩;have hfs2:s5.sn≤0+2*(cs.getD q []).length:=hfs.2.1;have hfw2:(yk L dc0 (cs.take (q+1)).flatten).sn≤0+2*(cs.take (q+1)).flatten.length:=hfw.2.1;have hfo2:(yk L dc0 (cs.take (q+1)).flatten).out.length≤0+(cs.take (q+1)).flatten.length:=hfo;have hmr2:=hmr.2.1;have HF5:=hid (show (yk L dc0 (cs.take (q+1)).flatten).sn=N5∧(yk L dc0 (cs.take (q+1)).flatten).out.length=K5∧s5=(yk L dc0 (cs.take (q+1)).flatten).re s5.out s5.sn from⟨by omega,by omega,hmr.1⟩);have haddN:IntKind.i64.wrap ((N:Int)+(s5.sn:Int))=(N5:Int):=by have:=Hn.out;rw[IntKind.wrap_i64];omega
      have haddK:IntKind.i64.wrap ((K:Int)+(s5.out.length:Int))=(K5:Int):=by have:=Hn.out;rw[IntKind.wrap_i64];omega
      have hmul:IntKind.i64.wrap (3*(mm:Int))=((3*mm:Nat):Int):=by have:=Hn.out;rw[IntKind.wrap_i64];omega
      have hlt0:decide ((s5.sn:Int)<0)=false:=by rw[decide_eq_false_iff_not];omega
      have hgt3:decide (((3*mm:Nat):Int)<(s5.sn:Int))=false:=by rw[decide_eq_false_iff_not];omega
      have hgt5:decide (3*(mm:Int)<(s5.sn:Int))=false:=by rw[decide_eq_false_iff_not];omega
      have hle5:(s5.sn:Int)≤3*(mm:Int):=by omega
      have hgt4:decide (3*mm<s5.sn)=false:=by rw[decide_eq_false_iff_not];omega
      have hsol:s5.out.length≤9223372036854775807:=by have:=Hn.out;omega
      have HN5:=hid (show t5++v5=(cs.take (q+1)).flatten∧(s5.st<4→v5=[]) from⟨by rw[Hfn.out];exact ev5,hv5⟩);have Hb5:=hid (hb.out.trans (hlo5.toBelow (Nat.le_of_lt Hdd.out.2.2.1) (Nat.le_of_lt Hdd.out.1)));have HG5:=hid (hG.out.lo hlo5 Hdd.out.2.2.1 (Nat.ne_of_lt Hdd.out.1));have HC5:=hid (hC.out.lo hlo5 (Nat.le_of_lt Hdd.out.2.2.1) (Nat.le_of_lt Hdd.out.1) Hdd.out.2.2.2.1 (by have:=Hdd.out;omega));have HB5:=hid (Nat.le_trans hBr.out hlo5.size);have HM5:=hid hM5;clear hk5 e5 hu5 hM5 hlo5 hsi5 ev5 hv5 hs5 hmr hmr2 hso hN5 hK5 hfs hfs2 hfw hfw2 hfo hfo2 hcl hN1 hfl0 hfl1 hfn hcell;go_wp2_with fail;go_roundw
      case rel=>exact⟨q+1,t5,v5,s5,_,_,N5,K5,by omega,by go_num,rfl,rfl,HF5,HN5,HM5,Hb5,HC5,HG5,HB5⟩
      case measure=>simp[intOf];omega
    · obtain rfl:q=cs.length:=by omega
      have hfl:(cs.take cs.length).flatten=l:=by rw[List.take_length,Hfl.out]
      have hF0:=hF.out;have hN0:=hN.out;rw[hfl] at hF0 hN0;obtain⟨t',u',ks',es',e1,hS1,hN1,hu1⟩:=z2h (L:=L) l (t:=[]) (s:=dc0) (ks:=[]) (es:=[]) (fun c h=>(by cases h)) Hlt.out (zi4 L) (yga _);rw[List.nil_append] at e1;obtain⟨S,hSe⟩:∃S,yk L dc0 l=S:=⟨_,rfl⟩;rw[hSe] at hF0 hS1 hN1 hu1;have hpar:=zl8 e1 hS1 hu1;have HPa:=hid hpar;have HTi:=hid (fun h hT=>z2b (h:=h) hS1 e1 hu1 hT);have htk:=hS1.tk;have hlt':∀c∈t',c<256:=fun c h=>Hlt.out c (by rw[←e1];exact List.mem_append_left _ h)
      have htn:t'.length≤n:=by have:=congrArg List.length e1;rw[List.length_append,Hlen.out] at this;omega
      have htake:l.take t'.length=t':=by rw[←e1,List.take_left]
      have HNl:=hid hN1.le;have hna:=fun hc=>hN1.all hlt' hS1 hc
      have hS2:=hN1.le;have hSb:=zi7 L l dc0 (Nat.zero_le _);have hSo:=zl7 L l dc0 (Nat.zero_le _);rw[hSe] at hSb hSo;have hsb:N≤2000:=by have h1:S.sn≤0+2*l.length:=hSb.2.1;have:=Hlen.out;have:=Hn.out;have:=hF0.1;omega
      have hkb:K≤1000:=by have h1:S.out.length≤0+l.length:=hSo;have:=Hlen.out;have:=Hn.out;have:=hF0.2.1;omega
      obtain⟨h,hh⟩:∃v,t'.length=v:=⟨_,rfl⟩;rw[hh] at htn htake hna hS2 htk;rw[hF0.1,hF0.2.1] at hS2 hna;rw[htk] at HTi
      have hTd2:∀W,Below w.heap.size w W→Calls Tryz.prog 50 #[.slice a n cap,.agg #[.int .i64 L.1,.int .i64 L.2.1,.int .i64 L.2.2.1,.int .i64 L.2.2.2.1,.int .i64 L.2.2.2.2]] W fun e W'=>e=.returned (.int .i64 (h:Int))∧Below W.heap.size W W':=fun W hW=>by
       refine(HTd.out W hW).mono ?_;rintro e W' ⟨⟨h',rfl,hT⟩,hb⟩;rw[HTi.out h' hT];exact⟨rfl,hb⟩
      have HTd2:=hid hTd2;have hhc:h≤cap:=by have:=Hcp.out;omega
      have HNb:=hid (fun W (hW:Below w.heap.size w W) (hO:lnN (max L.1 0) (l.take h) 0)=>ygd a h cap (l.take h) (max L.1 0) W (zke (HBy.out W hW) htn) (by have:=Hn.out;omega) (by have:=HLf.out;omega) hO);rw[htake] at HNb;have haddT:IntKind.i64.wrap ((h:Int)+(K:Int))=((h+K:Nat):Int):=by have:=Hn.out;rw[IntKind.wrap_i64];omega
      have hge1:decide (((h+K:Nat):Int)≤(N:Int))=true:=by rw[decide_eq_true_iff];omega
      have hge2:decide ((h:Int)+(K:Int)≤(N:Int))=true:=by rw[decide_eq_true_iff];omega
      have hge3:decide (h+K≤N)=true:=by rw[decide_eq_true_iff];omega
      have Hna:=hid hna;have Hhn:=hid (show h≤n from htn);clear hTd2 hfl hF0 hN0 e1 hS1 hN1 hu1 hSe hpar htk hlt' htn htake hna hS2 hSb hSo hh HNl;have l0:=hG.out.cell 0 rfl;have l1:=hG.out.cell 1 rfl;have l2:=hG.out.cell 2 rfl;have l3:=hG.out.cell 3 rfl;have l4:=hG.out.cell 4 rfl;go_wp2_with fail;refine(HTd2.out _ hb.out).mono ?_;rintro e w5 ⟨rfl,hb5⟩;have HG5:=hid (hG.out.later hb5);have Hb5:=hid (hb.out.trans (hb5.mono hb.out.size));clear hb5 l0 l1 l2 l3 l4;have l0:=HG5.out.cell 0 rfl;have l1:=HG5.out.cell 1 rfl;have l2:=HG5.out.cell 2 rfl;have l3:=HG5.out.cell 3 rfl;have l4:=HG5.out.cell 4 rfl;go_wp2_with fail;refine(HRp.out _ Hb5.out).mono ?_;rintro e w6 ⟨⟨ks2,es2,⟨x1,x2⟩,V2,E2,hP2,rfl,-,-⟩,hb6⟩;obtain⟨-,-,hx⟩:=zdl HPa.out hP2;injection hx with hx1 hx2;have Hb6:=hid (Hb5.out.trans (hb6.mono Hb5.out.size));have Hx:=hid hx1;clear hb6 hP2 hx1 hx2 l0 l1 l2 l3 l4;by_cases c7:x1=7
      · have d7:((x1:Int) == 7)=true:=by rw[beq_iff_eq];omega
        clear c7;go_wp2_with fail;refine(HA.out _ Hb6.out).mono ?_;rintro e w7 ⟨rfl,hb7⟩;have Hb7:=hid (Hb6.out.trans (hb7.mono Hb6.out.size));clear hb7;go_wp2_with fail;go_ret;exact⟨rfl,Hb7.out⟩
      have d7:((x1:Int) == 7)=false:=by rw[beq_eq_false_iff_ne];omega
      by_cases c12:x1=12
      · have d12:((x1:Int) == 12)=true:=by rw[beq_iff_eq];omega
        clear c7 c12;go_wp2_with fail;refine(HA.out _ Hb6.out).mono ?_;rintro e w7 ⟨rfl,hb7⟩;have Hb7:=hid (Hb6.out.trans (hb7.mono Hb6.out.size));clear hb7;go_wp2_with fail;go_ret;exact⟨rfl,Hb7.out⟩
      have d12:((x1:Int) == 12)=false:=by rw[beq_eq_false_iff_ne];omega
      by_cases c13:x1=13
      · have d13:((x1:Int) == 13)=true:=by rw[beq_iff_eq];omega
        clear c7 c12 c13;go_wp2_with fail;refine(HA.out _ Hb6.out).mono ?_;rintro e w7 ⟨rfl,hb7⟩;have Hb7:=hid (Hb6.out.trans (hb7.mono Hb6.out.size));clear hb7;go_wp2_with fail;go_ret;exact⟨rfl,Hb7.out⟩
      have d13:((x1:Int) == 13)=false:=by rw[beq_eq_false_iff_ne];omega
      obtain⟨hsum,hO⟩:=Hna.out (by have:=Hx.out;omega);obtain⟨F,hF⟩:∃v,frN t' 0=v:=⟨_,rfl⟩;have HNc:=hid (fun W (hW:Below w.heap.size w W)=>HNb.out W hW hO);rw[hF] at HNc hsum;have hs1:IntKind.i64.wrap ((h:Int)+(F:Int))=((h+F:Nat):Int):=by rw[IntKind.wrap_i64];omega
      have hs2:IntKind.i64.wrap (((h+F:Nat):Int)+(K:Int))=(N:Int):=by rw[IntKind.wrap_i64];omega
      have hs3:IntKind.i64.wrap ((h:Int)+(F:Int)+(K:Int))=(N:Int):=by rw[IntKind.wrap_i64];omega
      have hs4:((N:Int) == (h:Int)+(F:Int)+(K:Int))=true:=by rw[beq_iff_eq];omega
      clear c7 c12 c13 hsum hO hF haddT hge1 hge2 hge3;go_wp2_with fail;refine(HA.out _ Hb6.out).mono ?_;rintro e w7 ⟨rfl,hb7⟩;have Hb7:=hid (Hb6.out.trans (hb7.mono Hb6.out.size));clear hb7;go_wp2_with fail;refine(HNc.out _ Hb7.out).mono ?_;rintro e w8 ⟨rfl,rfl⟩;go_wp2_with fail;go_ret;exact⟨rfl,Hb7.out⟩
 · have HS:=hid (fun W=>HS0.out W false (by rw[decide_eq_false hsm]));clear hB hS hL hD hwB hbB hsm;unfold lmV;go_enter Tryz.func8,Tryz.ntmps8;go_upto_region 1 with fail
   rw[←HwB.out];go_wp2_with fail;refine(HS.out _).mono ?_;rintro e w1 ⟨rfl,hb1⟩;have Hb1:=hid (HbB.out.trans (hb1.mono Hsz.out));clear hb1 l0 l1 l2 l3 l4;go_wp2_with fail;refine(HA.out _ Hb1.out).mono ?_;rintro e w2 ⟨rfl,hb2⟩;have Hb2:=hid (Hb1.out.trans (hb2.mono Hb1.out.size));clear hb2;go_wp2_with fail;go_ret;exact⟨rfl,Hb2.out⟩
end
