/- Part 50. -/
import Derived.Test.YtmfhggnlainmiaaGreatDoorPk39
import Derived.Test.YtmfhggnlainmiaaGreatDoorPk29
import Derived.Test.YtmfhggnlainmiaaGreatDoorPk47
import Derived.Test.YtmfhggnlainmiaaGreatDoorPk49
import Derived.Test.YtmfhggnlainmiaaGreatDoorPk41
import Derived.Test.YtmfhggnlainmiaaGreatDoorPk48
set_option linter.unusedVariables false
set_option maxHeartbeats 16000000
namespace Go.Proofs.YtmfhggnlainmiaaGreatDoor
open Lib (hid)
section
open Go.RowKit
def KnosA (w:World) (B:Nat):List Value→List Kno→Prop
 | [],[]=>True
 | K :: Ks,k :: ks=>(∃wb:World,wb.heap.size≤B∧KnoS wb K k∧Steady 0 jw wb w)∧KnosA w B Ks ks
 | _,_=>False
theorem KnosA.go {w w':World} {B B':Nat} (hB:B≤B') (h:∀wb:World,wb.heap.size≤B→Steady 0 jw wb w→Steady 0 jw wb w'):∀{Ks:List Value} {ks:List Kno},KnosA w B Ks ks→KnosA w' B' Ks ks
 | [],[],_=>trivial
 | _ :: _,_ :: _,⟨⟨wb,h1,h2,h3⟩,h4⟩=>⟨⟨wb,Nat.le_trans h1 hB,h2,h wb h1 h3⟩,KnosA.go hB h h4⟩
 | [],_ :: _,h=>h.elim
 | _ :: _,[],h=>h.elim
theorem KnosA.of {wb w:World} {B:Nat} (hB:wb.heap.size≤B) (hs:Steady 0 jw wb w):∀{Ks:List Value} {ks:List Kno},KnosL wb Ks ks→KnosA w B Ks ks
 | [],[],_=>trivial
 | _ :: _,_ :: _,h=>⟨⟨wb,hB,h.1,hs⟩,KnosA.of hB hs h.2⟩
 | [],_ :: _,h=>h.elim
 | _ :: _,[],h=>h.elim
theorem KnosA.app {w:World} {B:Nat} {Ls:List Value} {ls:List Kno} (hL:KnosA w B Ls ls):∀{Ks:List Value} {ks:List Kno},KnosA w B Ks ks→KnosA w B (Ks++Ls) (ks++ls)
 | [],[],_=>hL
 | _ :: _,_ :: _,h=>⟨h.1,KnosA.app hL h.2⟩
 | [],_ :: _,h=>h.elim
 | _ :: _,[],h=>h.elim
theorem KnosA.all {w:World} {B:Nat}:∀{Ks:List Value} {ks:List Kno},KnosA w B Ks ks→KnosL w Ks ks
 | [],[],_=>trivial
 | _ :: _,_ :: _,⟨⟨_,_,h2,h3⟩,h4⟩=>⟨h2.steady h3,KnosA.all h4⟩
 | [],_ :: _,h=>h.elim
 | _ :: _,[],h=>h.elim
theorem KnosL.one {w:World}:∀{Ks:List Value} {ks:List Kno},KnosL w Ks ks→∀u∈Ks,u.oneCell'=true
 | [],_,_,u,hu=>(by cases hu)
 | K :: Ks,k :: ks,h,u,hu=>by
   rcases List.mem_cons.1 hu with rfl | hu
   · obtain⟨a,c,rfl,-⟩:=h.1.frags
     rfl
   · exact KnosL.one h.2 u hu
 | _ :: _,[],h,_,_=>h.elim
def OutM (w:World) (B base:Nat) (V:Value) (ks:List Kno):Prop:=∃Ks,w.ownsRow base 48 1 V ks.length Ks∧KnosA w B Ks ks
theorem yf3 (w:World) (B base:Nat):OutM w B base (.slice none 0 0) []:=⟨[],World.ownsRow_nil _ _ _ _,trivial⟩
theorem OutM.slice {w:World} {B base:Nat} {V:Value} {ks:List Kno} (h:OutM w B base V ks):∃a c,V=.slice a ks.length c:=by
 obtain⟨Ks,h1,-⟩:=h;exact jh h1
theorem OutM.knos {w:World} {B base:Nat} {V:Value} {ks:List Kno} (h:OutM w B base V ks):KnosM w base V ks:=by
 obtain⟨Ks,h1,h2⟩:=h;exact⟨Ks,h1,h2.all⟩
theorem OutM.fed {w w':World} {B B' d base:Nat} {L:zc} {s:Dc} {vp:Option Addr} {y V:Value} {ks:List Kno} (h:OutM w B base V ks) (hl:Lo B d w w') (ht:Ty w.heap.size d w w') (hr:DcR w d L s vp y) (hB:B≤B'):OutM w' B' base V ks:=by
 obtain⟨Ks,h1,h2⟩:=h
 have hs:Steady 0 (fun T=>T=48) w w':=⟨hl.size,fun k hk hp=>by
  rcases hp with h' | ⟨C,T,fr,hT,hc⟩
  · omega
  · refine ht k C T fr hk (fun e=>?_) hc (by subst hT;unfold zav jw;decide);subst e;rw[show w.heap[k]?=_ from hr] at hc;injection hc with hc;injection hc with _ hc _;subst hT;exact absurd hc (by decide)⟩
 exact⟨Ks,zd8 h1 hs rfl,h2.go hB fun wb k1 k2=>k2.lo hl k1 hr (by unfold jw;decide)⟩
theorem yf4 {w:World} {B base n:Nat} {V V5:Value} {ks ms:List Kno} (h:OutM w B base V ks) (h5:∃wb:World,wb.heap.size≤B∧KnosM wb n V5 ms∧Steady 0 zff wb w) (hb:ks.length+ms.length≤900000000000) (hbase:base≤w.heap.size):
 ∃V' w',(Builtin.append_ #[26,26] 26 #[V,V5]).run Tryz.prog w=.ok V' w'∧OutM w' B base V' (ks++ms)∧Below base w w'∧KeepR w w':=by
 obtain⟨Ks,h1,h2⟩:=h;obtain⟨wb,k1,⟨Ms,k2,k3⟩,k4⟩:=h5;have k2':=zd8 k2 k4 (.inr rfl);obtain⟨a,c,rfl⟩:=jh k2';obtain⟨V',w',e1,e2,e3⟩:=zcf base 26 26 48 _ 1 24 Tryz.underlying26 Tryz.info_kno rfl (by omega) V ks.length Ks h1 a ms.length c Ms (Rd.own k2') k3.one (by unfold maxLen;omega) (by omega) hbase;have hk:KeepR w w':=KeepR.own h1 e3 (by unfold zav jw;decide);refine⟨V',w',e1,⟨Ks++Ms,by rw[List.length_append];exact e2,?_⟩,(Below.refl base w).grown e3 hbase (fun k hk=>(h1.lt k hk).1),hk⟩;exact KnosA.app (KnosA.of k1 ((k4.weak fun T hT=>.inl hT).trans hk.fr) k3) (h2.go (Nat.le_refl _) fun wb _ h3=>h3.trans hk.fr)
theorem DecM.keep {w w':World} {B d base:Nat} {L:zc} {t:List Nat} {s:Dc} {ks:List Kno} {es:List Nat} (h:DecM w B d L t s ks es) (hb:Below base w w') (hd:d<base) (hk:KeepR w w'):DecM w' B d L t s ks es:=by
 obtain⟨vp,y,h1,h2,h3,hv,h4⟩:=h;exact⟨vp,y,Row.below h1 hb hd,h2,h3,hv,fun e=>by obtain⟨b,R,k1,k2,k3,k4⟩:=h4 e;exact⟨b,R,k1,Nat.le_trans k2 hb.size,k3,k4.keepR hk⟩⟩
end
section
open Go.RowKit
attribute [local go_sem] y9 Tryz.eqGuard_if
set_option maxRecDepth 20000 in
theorem yf5 (a e:Option Addr) (n cap m cm:Nat) (l ss:List Nat) (L:zc) (w:World) (hB:Byts w a n cap l) (hS:Byts w e m cm ss) (hL:LimsI L) (hD:Door w):
 Calls Tryz.prog 7 #[.slice a n cap,lmV L,.slice e m cm] w fun x w'=>x=.returned (.bool true)∧Below w.heap.size w w':=by
 obtain⟨wB,hwB⟩:∃wB,wB=w.alloc (.cells #[.int .i64 L.1,.int .i64 L.2.1,.int .i64 L.2.2.1,.int .i64 L.2.2.2.1,.int .i64 L.2.2.2.2] 24):=⟨_,rfl⟩;have hbB:Below w.heap.size w wB:=by rw[hwB];exact(Below.refl _ _).alloc (Nat.le_refl _) _
 have HG:=hid (show Row wB w.heap.size 24 [.int .i64 L.1,.int .i64 L.2.1,.int .i64 L.2.2.1,.int .i64 L.2.2.2.1,.int .i64 L.2.2.2.2] from by rw[hwB];exact y7 w _ _);have HwB:=hid hwB;have HbB:=hid hbB;have HA:=hid (fun W (h:Below w.heap.size w W)=>zph W (hD.below (Nat.le_refl _) h));have hnm:n≤9223372036854775807:=Nat.le_trans hB.room hB.most;have hmm:m≤9223372036854775807:=Nat.le_trans hS.room hS.most;have HS0:=hid (fun W b hb=>ztk a e n cap m cm L W hnm hmm b hb);have l0:=HG.out.cell 0 rfl;have l1:=HG.out.cell 1 rfl;have l2:=HG.out.cell 2 rfl;have l3:=HG.out.cell 3 rfl;have l4:=HG.out.cell 4 rfl;have Hsz:=hid hbB.size;unfold lmV at HS0;by_cases hsm:n≤1000∧L.1≤1099511627776∧m≤100
 · have HS:=hid (fun W=>HS0.out W true (by rw[decide_eq_true hsm]));have HNw:=hid (fun V=>zma L V);have hgl:0<w.heap.size:=zf (p:=⟨0,0,none⟩) hD
   have hbl:0<n→∀b o k,a=some ⟨b,o,k⟩→b<w.heap.size:=fun hn b o k e=>by
    obtain⟨b',o',e',hc'⟩:=hB.cells hn;rw[e'] at e;injection e with e;injection e with e;subst e;exact zf (hc' 0 hn)
   have HCh:=hid (fun W (h:Below w.heap.size w W)=>ztj a e n cap m cm l ss W (hB.below h) (hS.below h) w.heap.size hbl h.size (by omega))
   have HFd:=hid (fun W B d t s ks es x mm cc c (h0:Below w.heap.size w W) (h1:DecM W B d L t s ks es) (h2:B≤W.heap.size) (h3:w.heap.size<d) (h4:d<B) (h5:t.length+mm≤800000000000) (hc:Byts W x mm cc c) (hx:0<mm→∀b o k,x=some ⟨b,o,k⟩→b<w.heap.size)=>
    zg3 h1 h2 h4 (by omega) (by omega) (hD.below (Nat.le_refl _) h0) hL x mm cc c hc (fun h b o k e=>by have:=hx h b o k e;omega) (by
     by_cases hm1:mm≤1
     · exact .inl hm1
     · exact .inr fun b o k e=>by have:=hx (by omega) b o k e;omega) h5)
   have HRp:=hid (fun W (h:Below w.heap.size w W)=>ztr a n cap l L W (hB.below h) hL (by omega) hsm.2.1);have HTd:=hid (fun W (h:Below w.heap.size w W)=>z2a a n cap l L W (hB.below h) hL hsm.1 hsm.2.1);have Hcp:=hid hB.room;have Hlen:=hid hB.len;have Hlt:=hid hB.lt;have Hn:=hid hsm.1;have Hm:=hid hsm.2.2;unfold lmV at HNw HRp HTd ⊢;clear hB hS hL hD hwB hbB hsm hgl hbl;go_enter Tryz.func7,Tryz.ntmps7;go_upto_region 1 with fail
   rw[←HwB.out];go_wp2_with fail;refine(HS.out _).mono ?_;rintro e w1 ⟨rfl,hb1⟩;have HG1:=hid (HG.out.later hb1);have Hb1:=hid (HbB.out.trans (hb1.mono Hsz.out));clear hb1 l0 l1 l2 l3 l4;have l0:=HG1.out.cell 0 rfl;have l1:=HG1.out.cell 1 rfl;have l2:=HG1.out.cell 2 rfl;have l3:=HG1.out.cell 3 rfl;have l4:=HG1.out.cell 4 rfl;go_wp2_with fail;refine(HNw.out _).mono ?_;rintro e w2 ⟨d,hd1,hd2,rfl,hr2,hb2⟩;have HG2:=hid (HG1.out.later hb2);have Hb2:=hid (Hb1.out.trans (hb2.mono Hb1.out.size));have HR2:=hid hr2;have Hd:=hid (show w.heap.size<d∧d<w2.heap.size from⟨Nat.lt_of_lt_of_le HG1.out.lt hd1,hd2⟩);clear hb2 hd1 hd2 hr2 l0 l1 l2 l3 l4;go_wp2_with fail;refine(HCh.out _ Hb2.out).mono ?_;rintro e w3 ⟨⟨g,gc,cs,rfl,hcl,hfl,hg1,hg2,hcs⟩,hb3⟩;have HG3:=hid (HG2.out.later hb3);have Hb3:=hid (Hb2.out.trans (hb3.mono Hb2.out.size));obtain⟨B,hBq⟩:∃B,w3.heap.size=B:=⟨_,rfl⟩;have HM3:=hid (show DecM w3 B d L [] dc0 [] [] from⟨_,_,Row.later HR2.out hb3,zi4 _,fun c h=>(by cases h),Nat.zero_le _,fun h=>by rcases h with h | h <;> cases h⟩);have Hdd:=hid (show w.heap.size<d∧d<B∧w.heap.size<B∧g<B∧d<g from⟨Hd.out.1,by have:=Hd.out.2;have:=hb3.size;omega,by have:=Hd.out;have:=hb3.size;omega,by omega,by have:=Hd.out.2;omega⟩);have HB3:=hid (Nat.le_of_eq hBq.symm);have Hfl:=hid hfl;have Hcl:=hid hcl;have Hcs:=hid hcs;have hcsm:cs.length≤101:=by have:=Hm.out;omega
   clear hb3 hg1 hg2 hcs hfl hcl hBq;go_wp2_with fail;go_loopw [8,10,11,12,32] (fun ov _ _ _ i wr=>∃(q:Nat) (t u:List Nat) (s:Dc) (ks:List Kno) (es:List Nat) (B':Nat) (V:Value),q≤cs.length∧i=.int .i64 q∧ov=V∧Hid (t++u=(cs.take q).flatten∧(s.st<4→u=[]))∧Hid (B≤B'∧B'≤wr.heap.size)∧Hid (DecM wr B' d L t s ks es)∧Hid (OutM wr B' B V ks)∧Hid (Below w.heap.size w wr)∧Hid (ChkS wr w.heap.size g cs.length cs)∧Hid (Row wr w.heap.size 24 [.int .i64 L.1,.int .i64 L.2.1,.int .i64 L.2.2.1,.int .i64 L.2.2.2.1,.int .i64 L.2.2.2.2])) (fun _ _ _ _ i _=>cs.length - (intOf i).toNat)
   case atStart=>exact⟨0,[],[],dc0,[],[],B,.slice none 0 0,Nat.zero_le _,rfl,rfl,hid ⟨rfl,fun _=>rfl⟩,hid ⟨Nat.le_refl _,HB3.out⟩,HM3,hid (yf3 _ _ _),Hb3,Hcs,HG3⟩
   case round=>
    obtain⟨q,t,u,s,ks,es,B',V,hq,rfl,rfl,hN,hBr,hM,hO,hb,hC,hG⟩:=hrel;obtain⟨oa,oc,rfl⟩:=hO.out.slice;by_cases hqn:q<cs.length
    · obtain⟨x,mm,cc,hcell,hcb,hcx⟩:=hC.out.at_ q hqn;have hfn:=zti hqn;have hfl1:=zmb cs (q+1);have hfl0:=zmb cs q;rw[Hfl.out,Hlen.out] at hfl1 hfl0;have hN1:(cs.take (q+1)).flatten.length=(cs.take q).flatten.length+mm:=by rw[hfn,List.length_append,hcb.len]
      have htl:t.length≤(cs.take q).flatten.length:=by have:=congrArg List.length hN.out.1;rw[List.length_append] at this;omega
      have HF:=hid (HFd.out wr B' d t s ks es x mm cc _ hb.out hM.out hBr.out.2 Hdd.out.1 (Nat.lt_of_lt_of_le Hdd.out.2.1 hBr.out.1) (by have:=Hn.out;omega) hcb hcx);have hmmm:mm≤9223372036854775807:=by have:=Hn.out;omega
      have Hon:=hid (fun t5 u5 ks5 es5=>zpc (L:=L) (c:=cs.getD q []) (t5:=t5) (u5:=u5) (ks5:=ks5) (es5:=es5) hN.out.1 hN.out.2 (show SI L t s ks es from hM.out.choose_spec.choose_spec.2.1));have Hfn:=hid hfn;have Hf1:=hid hfl1;obtain⟨vp,y,hrow,-⟩:=hM.out;have Hrow:=hid hrow;clear hfn hfl1 hfl0 hN1 htl hcb hcx hrow;go_wp2_with fail;refine HF.out.mono ?_;rintro e w5 ⟨V5,t5,u5,f5,rfl,hk5,e5,hu5,hM5,hlo5,hty5,hold5⟩;have hsi5:SI L t5 _ (ks++_) (es++f5):=hM5.choose_spec.choose_spec.2.1;obtain⟨v5,ev5,hv5⟩:=Hon.out t5 u5 _ _ e5 hu5 hsi5;obtain⟨s5,hs5⟩:∃s5,yk L { s with out:=[],sn:=0 } (cs.getD q [])=s5:=⟨_,rfl⟩;rw[hs5] at hk5 hM5 hsi5 hv5 hold5 ⊢;obtain⟨va,vc,rfl⟩:=hk5.slice;have hpar:=zl8 ev5 hsi5 hv5;rw[←Hfn.out] at hpar
      have hkl:ks.length+s5.out.length≤1000:=by
       obtain⟨q',h1,-⟩:=hpar;have h2:=zkd (fun c hc=>Hlt.out c (by rw[z17,Hfl.out] at hc;exact List.mem_of_mem_take hc)) h1;rw[List.length_append] at h2;have:=h2.2 (Nat.zero_le _);have:=Hn.out;have:=Hf1.out;omega
      obtain⟨B2,wb,b1,b2,hM5',b3,b4,b5⟩:=hold5;have ho5:=hO.out.fed hlo5 hty5 Hrow.out b1;obtain⟨V6,w6,hrun,hO6,hb6,hk6⟩:=yf4 ho5 ⟨wb,b3,b4,b5⟩ (by omega) (Nat.le_trans hBr.out.1 (Nat.le_trans hBr.out.2 hlo5.size));have hlo6:Lo B d wr w6:=(hlo5.mono hBr.out.1).trans (Lo.of_below hb6 (Nat.le_refl _));have HM6:=hid (hM5'.keep hb6 Hdd.out.2.1 hk6);have HO6:=hid hO6;have HB6:=hid (show B≤B2∧B2≤w6.heap.size from⟨Nat.le_trans hBr.out.1 b1,Nat.le_trans b2 hb6.size⟩);have HN6:=hid (show t5++v5=(cs.take (q+1)).flatten∧(s5.st<4→v5=[]) from⟨by rw[Hfn.out];exact ev5,hv5⟩);have Hb6:=hid (hb.out.trans (hlo6.toBelow (Nat.le_of_lt Hdd.out.2.2.1) (Nat.le_of_lt Hdd.out.1)));have HG6:=hid (hG.out.lo hlo6 Hdd.out.2.2.1 (Nat.ne_of_lt Hdd.out.1));have HC6:=hid (hC.out.lo hlo6 (Nat.le_of_lt Hdd.out.2.2.1) (Nat.le_of_lt Hdd.out.1) Hdd.out.2.2.2.1 (by have:=Hdd.out;omega));clear hk5 e5 hu5 hM5 hlo5 hty5 hsi5 ev5 hv5 hs5 hpar hkl hM5' b1 b2 b3 b4 b5 ho5 hO6 hb6 hk6 hlo6 hmmm hcell;go_wp2_with (at_builtin;refine qf _ _ 26 rfl rfl _ _ rfl rfl _ _ hrun ?_);go_roundw
      case rel=>exact⟨q+1,t5,v5,s5,_,_,B2,V6,by omega,by go_num,rfl,HN6,HB6,HM6,HO6,Hb6,HC6,HG6⟩
      case measure=>simp[intOf];omega
    · obtain rfl:q=cs.length:=by omega
      have hpre:t++u=l:=by rw[hN.out.1,List.take_length,Hfl.out]
      have hsi:SI L t s ks es:=hM.out.choose_spec.choose_spec.2.1;have HPa:=hid (zl8 hpre hsi hN.out.2);have HTi:=hid (fun h hT=>z2b (h:=h) hsi hpre hN.out.2 hT);have l0:=hG.out.cell 0 rfl;have l1:=hG.out.cell 1 rfl;have l2:=hG.out.cell 2 rfl;have l3:=hG.out.cell 3 rfl;have l4:=hG.out.cell 4 rfl;clear hpre hsi;go_wp2_with fail;refine(HRp.out _ hb.out).mono ?_;rintro e w5 ⟨⟨ks2,es2,⟨x1,x2⟩,V2,E2,hP2,rfl,hK2,hE2⟩,hb5⟩;obtain⟨rfl,rfl,hx⟩:=zdl HPa.out hP2;injection hx with hx1 hx2;have HV:=hid (fun W (h:DecM W B' d L t s ks2 es2)=>zpf s x1 x2 hx1.symm hx2.symm h);obtain⟨tk,htk⟩:∃v,s.tk=v:=⟨_,rfl⟩;have HT:=hid (fun W (h:DecM W B' d L t s ks2 es2)=>zpg s tk htk h);rw[htk] at HTi
      have hTd2:∀W,Below w.heap.size w W→Calls Tryz.prog 50 #[.slice a n cap,.agg #[.int .i64 L.1,.int .i64 L.2.1,.int .i64 L.2.2.1,.int .i64 L.2.2.2.1,.int .i64 L.2.2.2.2]] W fun e W'=>e=.returned (.int .i64 (tk:Int))∧Below W.heap.size W W':=fun W h=>by
       refine(HTd.out W h).mono ?_;rintro e W' ⟨⟨h',rfl,hT⟩,hb⟩;rw[HTi.out h' hT];exact⟨rfl,hb⟩
      have HTd2:=hid hTd2;clear hTd2;have hO5:KnosM w5 _ (.slice oa ks2.length oc) ks2:=hO.out.knos.later hb5;obtain⟨oa',oc',hoa,hSo⟩:=hO5.read;injection hoa with hoa1 _ hoa2;subst hoa1 hoa2;obtain⟨va,vc,rfl,hSv⟩:=hK2.read;have Hb5:=hid (hb.out.trans (hb5.mono hb.out.size));have HG5:=hid (hG.out.later hb5);have HM5:=hid (hM.out.later hb5);have HSo:=hid hSo;have HSv:=hid hSv;clear hb5 hP2 hK2 hE2 hO5 hSo hSv hx1 hx2 htk l0 l1 l2 l3 l4;go_wp2_with fail;refine(HV.out _ HM5.out).mono ?_;rintro e w6 ⟨rfl,hb6⟩;have hal:=(Below.refl w6.heap.size w6).alloc (Nat.le_refl _) (.cells #[.int .i64 (x1:Nat),.int .i64 (x2:Nat)] 29);have HY0:=hid (y7 w6 29 [.int .i64 (x1:Nat),.int .i64 (x2:Nat)]);have hb7:=hb6.trans (hal.mono hb6.size);have Hb7:=hid (Hb5.out.trans (hb7.mono Hb5.out.size));have HG7:=hid (HG5.out.later hb7);have HM7:=hid (HM5.out.later hb7);have HSo7:=hid (HSo.out.below hb7);have HSv7:=hid (HSv.out.below hb7)
      have hSm:∀W,Below (w6.alloc (.cells #[.int .i64 (x1:Nat),.int .i64 (x2:Nat)] 29)).heap.size (w6.alloc (.cells #[.int .i64 (x1:Nat),.int .i64 (x2:Nat)] 29)) W→Calls Tryz.prog 21 #[.slice oa ks2.length oc,.slice va ks2.length vc] W fun e W'=>e=.returned (.int .i64 1)∧Below W.heap.size W W':=fun W h=>by
       refine(z16 _ _ _ _ _ _ _ _ W (HSo7.out.below h) (HSv7.out.below h)).mono ?_;rintro e W' ⟨⟨r,rfl,hr⟩,hb⟩;rcases hr with ⟨rfl,-⟩ | ⟨-,hne⟩
       · exact⟨rfl,hb⟩
       · exact absurd rfl hne
      have HSm0:=hid hSm;clear hb6 hb7 hal hSm;go_upto_region 15 with fail
      obtain⟨wE,hwE⟩:∃wE,w6.alloc (.cells #[.int .i64 (x1:Nat),.int .i64 (x2:Nat)] 29)=wE:=⟨_,rfl⟩;rw[hwE] at HY0 Hb7 HG7 HM7 HSm0 ⊢;clear HSo7 HSv7 hwE;refine jl (by kernel_rfl) (by kernel_rfl) ?_
      repeat (go_big_quiet_step ((intro hw;first
       | rfl
       | (go_at_call 46;exact jt hw (HA.out _ (Hb7.out.trans (hw.mono Hb7.out.size))))
       | (go_at_call 21;exact jt hw (HSm0.out _ hw))
       | (go_at_call 49;exact jt hw (HT.out _ (HM7.out.later hw)))
       | (go_at_call 50;exact jt hw (HTd2.out _ (Hb7.out.trans (hw.mono Hb7.out.size))))
       | (have y0:=(HY0.out.later hw).cell 0 rfl
          have y1:=(HY0.out.later hw).cell 1 rfl;have l0:=(HG7.out.later hw).cell 0 rfl;have l1:=(HG7.out.later hw).cell 1 rfl;have l2:=(HG7.out.later hw).cell 2 rfl;have l3:=(HG7.out.later hw).cell 3 rfl;have l4:=(HG7.out.later hw).cell 4 rfl;go_simp;first | rfl | exact⟨rfl,hw⟩ | (trace_state;fail)))))
      refine wpQuiet_nil ?_;intro w9 hb9;have Hb9:=hid (Hb7.out.trans (hb9.mono Hb7.out.size));clear hb9;go_wp2_with fail;go_ret;exact⟨rfl,Hb9.out⟩
 · have HS:=hid (fun W=>HS0.out W false (by rw[decide_eq_false hsm]));clear hB hS hL hD hwB hbB hsm;unfold lmV;go_enter Tryz.func7,Tryz.ntmps7;go_upto_region 1 with fail
   rw[←HwB.out];go_wp2_with fail;refine(HS.out _).mono ?_;rintro e w1 ⟨rfl,hb1⟩;have Hb1:=hid (HbB.out.trans (hb1.mono Hsz.out));clear hb1 l0 l1 l2 l3 l4;go_wp2_with fail;refine(HA.out _ Hb1.out).mono ?_;rintro e w2 ⟨rfl,hb2⟩;have Hb2:=hid (Hb1.out.trans (hb2.mono Hb1.out.size));clear hb2;go_wp2_with fail;go_ret;exact⟨rfl,Hb2.out⟩
end
