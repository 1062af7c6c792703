/- Walks and laws, joined: Wb42. -/
import Derived.Test.YtdnjfnofjaoajaaGreatDoorWb41
import Derived.Test.YtdnjfnofjaoajaaGreatDoorWb39
set_option linter.unusedVariables false
set_option maxHeartbeats 16000000
namespace Go.Proofs.YtdnjfnofjaoajaaGreatDoor
open Lib (hid)
section
open Go.RowKit
theorem z9t (aa ab:Option Addr) (na ca nb cb:Nat) (a b:List Iv) (w:World) (hIa:Ivs w aa na ca a) (hIb:Ivs w ab nb cb b) (hn:2*a.length+2*b.length+1≤100000):
 Calls Tryz.prog 127 #[.slice aa na ca,.slice ab nb cb] w fun e w'=>zcb w.heap.size (opL gOr a b) e w'∧Below w.heap.size w w':=by
 have hC:=hid (zl5 aa ab na ca nb cb 0 a b w hIa hIb (by omega) hn);clear hIa hIb hn;rw[show ((0:Nat):Int)=0 from rfl] at hC;go_enter Tryz.func127,Tryz.ntmps127;go_wp2_with fail;refine hC.out.mono ?_;rintro e w1 ⟨⟨v,rfl,ho⟩,hb⟩;have Ho:=hid ho;have Hb:=hid hb;clear ho hb;go_wp2;go_ret;exact⟨⟨v,rfl,Ho.out⟩,Hb.out⟩
theorem z9u {B g i j:Nat} {w W:World} {x y:Value} (h:Below B w W) (hg:B≤g):Below B w ((W.setCell ⟨g,i,none⟩ x).setCell ⟨g,j,none⟩ y):=(h.setCell hg _).setCell hg _
theorem zpg {w:World} {base inner g:Nat} (h:w.heap[g]?=some (.cells #[] 85 (0,0))) (hb:base≤g):OwnK w base inner (.slice (some ⟨g,0,none⟩) 0 0) []:=⟨[],zcq h hb,zh9 _ _⟩
set_option maxRecDepth 100000 in
theorem z9v (a:Option Addr) (n cap:Nat) (k:Kno) (w:World) (hE:Frags w a n cap k) (hR:∀f∈k,RawF f) (hF:∀f∈k,VecFits f.2) (hG:∀f∈k,VecFits (jm f.2)) (hS:yf k≤10000) (hn:n≤2000):
 Calls Tryz.prog 72 #[.slice a n cap] w fun x w'=>(∃y,x=.returned y∧OwnK w' w.heap.size w.heap.size y (zce k))∧Below w.heap.size w w':=by
 have HE:=hid hE;have HR:=hid hR;have HF:=hid hF;have HG:=hid hG;have Hl:=hid hE.len;have Hall:=hid (zkv k);have HS:=hid (fun d=>And.intro (Nat.le_trans (zid hR d).1 hS) (Nat.le_trans (zid hR d).2 (by rw[hE.len];exact hn)));have Hk1:=hid (fun f (hf:f∈k)=>Nat.le_trans (zc8 hf) hS);clear hE hR hF hG hS;go_enter Tryz.func72,Tryz.ntmps72;go_wp2;go_loopw [3,4,5,6] (fun y i _ _ wr=>∃d:Nat,d≤n∧i=.int .i64 d∧Below w.heap.size w wr∧Hid (OwnK wr w.heap.size w.heap.size y (zbr k d))) (fun _ i _ _ _=>n - (intOf i).toNat)
 case atStart=>exact⟨0,by omega,rfl,Below.refl _ _,zkp _ _ _⟩
 case round=>
  obtain⟨d,hd,rfl,hb,ho⟩:=hrel;have Hb:=hid hb;clear hb;by_cases hdn:d<n
  · have hdk:d<k.length:=by rw[Hl.out];exact hdn
    obtain⟨bb,oo,rfl⟩:=HE.out.some (by omega);obtain⟨x,m,c,y,m',c',hq⟩:=HE.out.fix hdn;have Hq:=hid hq;have hraw:=HR.out _ (yb hdk);have hfit:=HF.out _ (yb hdk);have Hgf:=hid (HG.out _ (yb hdk));have Hfl:=hid (Hk1.out _ (yb hdk));have Hst:=hid (zsi hdk);have HOg:=hid (zsj HR.out d);have HOf:=hid (zny HG.out d);have HOs:=hid (HS.out d);have hC:=hid (z9l y m' c' (za k d).2 wr (hq wr Hb.out).2.2.2 hfit);have Hcl:=hid (zhx hraw.lt.vec hraw.lt.asc).2.1;have Hil:=hid (show (za k d).1.length=m∧zq (za k d).1 from⟨(hq wr Hb.out).2.1.len,(hq wr Hb.out).2.1.lt⟩);have h0:(0:Int)≤d:=by omega
    have h04:(d:Int)<(n:Int):=by omega
    have HIold:=hid (show IvsT w w.heap.size x m c (za k d).1 from z84 (hq w (Below.refl _ _)).2.1);have q1:=(hq wr Hb.out).1;have q2:=(hq wr Hb.out).2.2.1;clear hq hraw hfit;generalize zbr k d=O at*;generalize za k d=f at*;unfold stepG at Hst;generalize jm f.2=V at*;go_wp2_with fail;refine hC.out.mono ?_;rintro e w1 ⟨⟨yv,rfl,hov⟩,hb1⟩;have Hw1:=hid (Hb.out.trans (hb1.mono Hb.out.size));have HoO:=hid (ho.out.below hb1);obtain⟨va,vc,rfl,hV⟩:=hov.entsT (base':=0) Hcl.out;have HV:=hid hV;clear hb1 hov hV q1 q2 hC;have q1:=(Hq.out w1 Hw1.out).1;obtain⟨L,hL⟩:∃L,L=V.length:=⟨_,rfl⟩;rw[←hL] at HV ⊢;have HL:=hid hL;clear hL;by_cases hemp:V=[]∨f.1=[]
    · rw[if_pos hemp] at Hst;by_cases hL0:L=0
      · have hz:((L:Int) == 0)=true:=by rw[hL0];rfl
        clear hemp hL0;go_wp2;go_roundw
        case rel=>exact⟨d+1,by omega,by go_num,Hw1.out,by rw[Hst.out];exact HoO.out⟩
        case measure=>simp[intOf];omega
      · have hz:((L:Int) == 0)=false:=by rw[beq_eq_false_iff_ne];omega
        have hz2:((m:Int) == 0)=true:=by
         rcases hemp with h | h
         · exact absurd (by rw[HL.out,h];rfl) hL0
         · have:m=0:=by rw[←Hil.out.1,h];rfl
           rw[this];rfl
        clear hemp hL0;go_wp2;go_roundw
        case rel=>exact⟨d+1,by omega,by go_num,Hw1.out,by rw[Hst.out];exact HoO.out⟩
        case measure=>simp[intOf];omega
    · rw[if_neg hemp] at Hst
      have hz:((L:Int) == 0)=false:=by
       rw[beq_eq_false_iff_ne];intro h;exact hemp (.inl (List.length_eq_zero_iff.1 (by have:=HL.out;omega)))
      have hz2:((m:Int) == 0)=false:=by
       rw[beq_eq_false_iff_ne];intro h;exact hemp (.inr (List.length_eq_zero_iff.1 (by have:=Hil.out.1;omega)))
      clear hemp;obtain⟨oa,oc,rfl,hO⟩:=HoO.out.frags;have HO:=hid hO;clear hO;have hOl:O.length≤2000:=HOs.out.2;go_wp2;go_loopw [6] (fun t wi=>∃p:Nat,p≤O.length∧t=.int .i64 p∧Below w1.heap.size w1 wi∧Hid (∀j,j<p→yk (za O j).2 V= -1)) (fun t _=>O.length - (intOf t).toNat)
      case atStart=>exact⟨0,by omega,rfl,Below.refl _ _,fun j h=>by omega⟩
      case round=>
       obtain⟨p,hp,rfl,hbi,ht⟩:=hrel;have Hbi:=hid hbi;clear hbi;have hp0:(0:Int)≤p:=by omega
       by_cases hpO:p<O.length
       · have HOr:=hid (HO.out.below Hbi.out);obtain⟨bo,oo',rfl⟩:=HOr.out.some (by omega);obtain⟨x1,m1,c1,x2,m2,c2,hq2⟩:=HOr.out.fix hpO;have Hq2:=hid hq2;have HVr:=hid (fun w' (h:Below wr.heap.size wr w')=>(HV.out.steady (P:=fun _=>True) (.of_below (Hbi.out.trans (h.mono Hbi.out.size))) trivial trivial).ents);have hg:=HOg.out _ (yb hpO);have hgf:=HOf.out _ (yb hpO);have hCmp:=hid (fun w' h=>zxh x2 va m2 c2 L vc (za O p).2 V w' (hq2 w' h).2.2.2 (HVr.out w' h) (zgo hgf) (zgo Hgf.out) (zgp hg.vec hgf) (zgp Hcl.out Hgf.out));have Huniq:=hid (fun h=>zh4 (k:=O) (v:=V) (i:=p) hp ht.out h);have Hat:=hid (fun h=>zki (k:=O) (v:=V) h);have Hgi:=hid hg.items;have Hgl:=hid (zc8 (yb hpO));have Hstep:=hid (fun h=>zi4 (p:=fun j=>yk (za O j).2 V= -1) ht.out h);have h04p:(p:Int)<(O.length:Int):=by omega
         obtain⟨q3,-,q4,-⟩:=hq2 _ (Below.refl _ _);clear hq2 hg hgf;rcases zet (za O p).2 V with hc | hc | hc
         · rw[hc] at hCmp;have Hs:=hid (Hstep.out hc);clear hc;go_wp2_with fail;refine(hCmp.out _ (Below.refl _ _)).mono ?_;rintro e w2 ⟨rfl,hb2⟩;have Hb2:=hid (Hbi.out.trans (hb2.mono Hbi.out.size));clear hb2;go_wp2;go_roundw
           case rel=>exact⟨p+1,by omega,by go_num,Hb2.out,Hs.out⟩
           case measure=>simp[intOf];omega
         · rw[hc] at hCmp;have hpos:p=qg O V:=Huniq.out (fun _=>by rw[hc];omega)
           have hhit:zbg O V=true:=by
            have:=(Hat.out (by rw[←hpos];exact hpO)).2;rw[←hpos,hc] at this;exact this
           have Hadd:=hid (znl (k:=O) (f:=(f.1,V)) hhit);rw[←hpos] at Hadd;clear hpos hhit hc Huniq Hat Hstep;go_wp2_with fail;refine(hCmp.out _ (Below.refl _ _)).mono ?_;rintro e w2 ⟨rfl,hb2⟩;have Hb2:=hid hb2;clear hb2 q3 q4;obtain⟨q3,-,q4,-⟩:=Hq2.out _ Hb2.out;go_wp2_with fail;refine(hCmp.out _ Hb2.out).mono ?_;rintro e w3 ⟨rfl,hb3⟩;have Hb3:=hid (Hb2.out.trans (hb3.mono Hb2.out.size));have Hw31:=hid (Hbi.out.trans (Hb3.out.mono Hbi.out.size));have Hw0:=hid (Hw1.out.trans (Hw31.out.mono Hw1.out.size));clear hb3 q3 q4;have hf3:=(Hq.out w3 Hw0.out).1;have hfI:=hid (fun w' h=>(Hq.out w' h).2.1);obtain⟨q3,hq3,q4,-⟩:=Hq2.out _ Hb3.out;have HU:=hid (fun w' (h:Below w3.heap.size w3 w')=>z9t x1 x m1 c1 m c _ _ w' (hq3.below h) (hfI.out w' (Hw0.out.trans (h.mono Hw0.out.size))) (by have:=Hfl.out;have:=Hgl.out;have:=HOs.out.1;omega));have HUl:=hid (zai (g:=gOr) Hgi.out Hil.out.2 rfl).2.2;have HKr:=hid (HoO.out.below Hw31.out);rcases HKr.out.form2 with ⟨he,-,-,hO0⟩ | ⟨g,ss,he,-,hgb,hgl,hgc,hgm,hro,hpt⟩
           · cases he
           · cases he;have Hro:=hid hro;have Hpt:=hid hpt;clear hro hpt hq3;rw[Nat.zero_add] at q3 q4;have Hz:=hid (fun w' (h:Below w3.heap.size w3 w')=>And.intro ((h.cell (p:=⟨bo,p*2,none⟩) (ze q3)).trans q3) (And.intro ((h.cell (p:=⟨bo,p*2+1,none⟩) (ze q4)).trans q4) (And.intro (kj (zm Hro.out h) (p*2)) (kj (zm Hro.out h) (p*2+1)))));have hgb2:w.heap.size≤bo:=hgb;generalize hop:opL gOr (za O p).1 f.1=U at*;go_wp2_with fail
             go_region_with (first
              | (go_at_call 127
                 refine(HU.out _ (by first | exact Below.refl _ _ | exact(Below.refl _ _).drew)).mono ?_;rintro e w4 ⟨⟨yu,rfl,hou⟩,hb4⟩;have hT4:Below w3.heap.size w3 w4:=⟨hb4.os,hb4.tape,hb4.output,hb4.size,hb4.block⟩;have hS4:Below w.heap.size w3 w4:=hT4.mono Hw0.out.size;obtain⟨ua,uc,rfl,hIu⟩:=zdn (base':=w.heap.size) hou HUl.out;have HIu:=hid hIu;have zz:=Hz.out w4 hT4;have z0:=zz.1;have z1:=zz.2.1;have z2:=zz.2.2.1;have z3:=zz.2.2.2;clear zz hb4 hou hIu))
             all_goals go_wp2
             all_goals
              go_roundw
              case rel=>exact⟨d+1,by omega,by go_num,Hw0.out.trans (z9u hS4 hgb2),by
               rw[Hst.out,Hadd.out];exact z86 (p:=p) rfl (zm Hro.out hT4) (Hpt.out.steady (P:=fun _=>True) (.of_below hT4) trivial trivial |>.raise (Nat.le_refl _)) (Nat.le_refl _) (U,V) _ _ ⟨_,_,_,rfl,HIu.out⟩ ⟨_,_,_,rfl,(HV.out.steady (P:=fun _=>True) (.of_below (Hw31.out.trans (hT4.mono Hw31.out.size))) trivial trivial).raise (Nat.zero_le _)⟩⟩
              case measure=>simp[intOf];omega
         · rw[hc] at hCmp;have hpos:p=qg O V:=Huniq.out (fun _=>by rw[hc];omega)
           have hhit:zbg O V=false:=by
            have:=(Hat.out (by rw[←hpos];exact hpO)).2;rw[←hpos,hc] at this;exact this
           have Hadd:=hid (zkk (k:=O) (f:=(f.1,V)) hhit);rw[←hpos] at Hadd;clear hpos hhit hc Huniq Hat Hstep;go_wp2_with fail;refine(hCmp.out _ (Below.refl _ _)).mono ?_;rintro e w2 ⟨rfl,hb2⟩;have Hb2:=hid hb2;clear hb2 q3 q4;obtain⟨q3,-,q4,-⟩:=Hq2.out _ Hb2.out;go_wp2_with fail;refine(hCmp.out _ Hb2.out).mono ?_;rintro e w3 ⟨rfl,hb3⟩;have Hb3:=hid (Hb2.out.trans (hb3.mono Hb2.out.size));have Hw31:=hid (Hbi.out.trans (Hb3.out.mono Hbi.out.size));have Hw0:=hid (Hw1.out.trans (Hw31.out.mono Hw1.out.size));clear hb3 q3 q4;have HIF:∀w',Below w3.heap.size w3 w'→IvSl w' w.heap.size (.slice x m c) f.1:=fun w' h=>⟨_,_,_,rfl,HIold.out.steady (P:=fun _=>True) (.of_below (Hw0.out.trans (h.mono Hw0.out.size))) trivial⟩
           have HEV:∀w',Below w3.heap.size w3 w'→EnSl w' w.heap.size (.slice va L vc) V:=fun w' h=>⟨_,_,_,rfl,(HV.out.steady (P:=fun _=>True) (.of_below (Hw31.out.trans (h.mono Hw31.out.size))) trivial trivial).raise (Nat.zero_le _)⟩
           have r3:∀w',Below w3.heap.size w3 w'→w'.cell? ⟨bb,oo+d*2,none⟩=some (.slice x m c):=fun w' h=>(Hq.out w' (Hw0.out.trans (h.mono Hw0.out.size))).1
           have hzw:w.heap.size≤w3.heap.size:=Hw0.out.size;have HKr:=hid (HoO.out.below Hw31.out);rcases HKr.out.form2 with ⟨he,-,-,hO0⟩ | ⟨g,ss,he,-,hgb,hgl,hgc,hgm,hro,hpt⟩
           · cases he
           · cases he;have hpc:p≤oc:=by omega
             have HPT:∀w',Below w3.heap.size w3 w'→PartsT w' w.heap.size (O.take p) (ss.take p):=fun w' h=>(hpt.steady (P:=fun _=>True) (.of_below h) trivial trivial).take _
             have HPD:∀w',Below w3.heap.size w3 w'→PartsT w' w.heap.size (O.drop p) (ss.drop p):=fun w' h=>(hpt.steady (P:=fun _=>True) (.of_below h) trivial trivial).drop _
             have Hhd:=hid (show ∀w',Below w3.heap.size w3 w'→Rd w' 2 (some ⟨bo,0,none⟩) p (yt (ss.take p)) from fun w' h=>by
              have:=zdh (zm hro h) p (by omega);rw[zku] at this;exact Rd.own this)
             have Htl:=hid (show ∀w',Below w3.heap.size w3 w'→Rd w' 2 (if oc=p then some ⟨bo,0,none⟩ else some ⟨bo,p*2,none⟩) (O.length - p) (yt (ss.drop p)) from fun w' h=>by
              have h1:=(zja hro p (by omega)).below h;rw[znw] at h1;split
              · exact⟨h1.1,fun h0=>by omega⟩
              · exact h1)
             go_wp2_with fail
             go_region_held3 (fun w'=>Below w3.heap.size w3 w') (first | assumption | exact(Below.refl _ _).drew | exact Below.alloc (by assumption) (Below.size (by assumption)) _) (first
              | (refine zc7 rfl (.tmp 77) (.tmp 80) rfl rfl w3.heap.size w.heap.size _ [] rfl (zpg (by first | exact zg _ _ _ (by simp) | exact yy _ _ _ _ (zg _ _ _ (by simp))) (by simp <;> omega)) _ _ p (O.take p) (by rw[List.length_take];omega) (ss.take p) (HPT _ (by assumption)) rfl (Hhd.out _ (by assumption)) (by simp <;> omega) (by simp <;> omega) (by omega) ?_
                 intro v1 w5 ho1 hg1 _
                 have hS1:Below w3.heap.size w3 w5:=by
                  refine Below.grown (B:=w3.heap.size) (by assumption) hg1 (by simp <;> omega) ?_;intro j hj;simp[Value.ownBlock,Act.eval] at hj
                  omega)
              | (refine zc7 rfl (.tmp 81) (.tmp 89) rfl rfl w3.heap.size w.heap.size _ _ rfl (by first | exact ho1 | exact ho1.below ((Below.refl _ _).alloc (Nat.le_refl _) _)) _ 1 1 [(f.1,V)] rfl [(_,_)] (zgm (HIF _ (by assumption)) (HEV _ (by assumption))) rfl (by first | exact yg (zg _ _ _ (by simp)) rfl rfl | exact zck hg1 (yg (by first | exact zg _ _ _ (by simp) | exact yy _ _ _ _ (zg _ _ _ (by simp))) rfl rfl) (by simp[Value.ownBlock,Act.eval]) (by simp <;> omega)) (by simp <;> omega) (by have:=hS1.size;simp <;> omega) (by omega) ?_
                 intro v2 w6 ho2 hg2 _
                 have hS2:Below w3.heap.size w3 w6:=by
                  refine Below.grown (B:=w3.heap.size) (by assumption) hg2 ?_ (fun j hj=>(ho1.lt j hj).1);have:=hS1.size
                  simp <;> omega)
              | (refine zc7 rfl (.tmp 90) (.tmp 93) rfl rfl w3.heap.size w.heap.size _ _ rfl ho2 _ _ (O.length - p) (O.drop p) (by rw[List.length_drop]) (ss.drop p) (HPD _ (by assumption)) rfl (Htl.out _ (by assumption)) (by simp <;> omega) (by have:=hS2.size;simp <;> omega) (by omega) ?_
                 intro v3 w7 ho3 hg3 _
                 have hS3:Below w3.heap.size w3 w7:=by
                  refine Below.grown (B:=w3.heap.size) (by assumption) hg3 ?_ (fun j hj=>(ho2.lt j hj).1);have:=hS2.size;simp <;> omega))
             all_goals go_wp2
             all_goals
              go_roundw
              case rel=>exact⟨d+1,by omega,by go_num,Hw0.out.trans (hS3.mono Hw0.out.size),by
               rw[Hst.out,Hadd.out];have h9:=ho3.lower (show w.heap.size≤w3.heap.size from Hw0.out.size);have h10:OwnK w7 w.heap.size w.heap.size v3 (O.take p++(f.1,V) :: O.drop p):=by simpa using h9
               exact h10⟩
              case measure=>simp[intOf];omega
       · obtain rfl:p=O.length:=by omega
         have hpos:O.length=qg O V:=zh4 (k:=O) (v:=V) (by omega) ht.out (fun h=>by omega);have hhit:zbg O V=false:=zkj hpos.symm;have hadd:=zkk (k:=O) (f:=(f.1,V)) hhit;rw[←hpos,List.drop_length] at hadd;have Hadd:=hid hadd;clear hpos hhit hadd;obtain⟨w3,hw3⟩:∃w3:World,w3=wr:=⟨_,rfl⟩;rw[←hw3] at Hbi ⊢;have Hw31:=hid Hbi.out;have Hw0:=hid (Hw1.out.trans (Hw31.out.mono Hw1.out.size));clear hw3;have HIF:∀w',Below w3.heap.size w3 w'→IvSl w' w.heap.size (.slice x m c) f.1:=fun w' h=>⟨_,_,_,rfl,HIold.out.steady (P:=fun _=>True) (.of_below (Hw0.out.trans (h.mono Hw0.out.size))) trivial⟩
         have HEV:∀w',Below w3.heap.size w3 w'→EnSl w' w.heap.size (.slice va L vc) V:=fun w' h=>⟨_,_,_,rfl,(HV.out.steady (P:=fun _=>True) (.of_below (Hw31.out.trans (h.mono Hw31.out.size))) trivial trivial).raise (Nat.zero_le _)⟩
         have r3:∀w',Below w3.heap.size w3 w'→w'.cell? ⟨bb,oo+d*2,none⟩=some (.slice x m c):=fun w' h=>(Hq.out w' (Hw0.out.trans (h.mono Hw0.out.size))).1
         have hzw:w.heap.size≤w3.heap.size:=Hw0.out.size;have HKr:=hid (HoO.out.below Hw31.out);rcases HKr.out.form2 with ⟨rfl,hn0,rfl,rfl⟩ | ⟨g,ss,rfl,-,hgb,hgl,hgc,hgm,hro,hpt⟩
         · clear hn0;have hO0:(([]:Kno).length:Int)=0:=rfl;rw[List.length_nil,show ((0:Nat):Int)=0 from rfl];go_wp2_with fail
           go_region_held3 (fun w'=>Below w3.heap.size w3 w') (first | assumption | exact(Below.refl _ _).drew | exact Below.alloc (by assumption) (Below.size (by assumption)) _) (first
            | (refine zc7 rfl (.tmp 77) (.tmp 80) rfl rfl w3.heap.size w.heap.size _ [] rfl (zpg (by first | exact zg _ _ _ (by simp) | exact yy _ _ _ _ (zg _ _ _ (by simp))) (by simp <;> omega)) _ _ 0 [] rfl [] (zh9 _ _) rfl (zfc _ _) (by simp <;> omega) (by simp <;> omega) (by omega) ?_
               intro v1 w5 ho1 hg1 _
               have hS1:Below w3.heap.size w3 w5:=by
                refine Below.grown (B:=w3.heap.size) (by assumption) hg1 (by simp <;> omega) ?_;intro j hj;simp[Value.ownBlock,Act.eval] at hj
                omega)
            | (refine zc7 rfl (.tmp 81) (.tmp 89) rfl rfl w3.heap.size w.heap.size _ _ rfl (by first | exact ho1 | exact ho1.below ((Below.refl _ _).alloc (Nat.le_refl _) _)) _ 1 1 [(f.1,V)] rfl [(_,_)] (zgm (HIF _ (by assumption)) (HEV _ (by assumption))) rfl (by first | exact yg (zg _ _ _ (by simp)) rfl rfl | exact zck hg1 (yg (by first | exact zg _ _ _ (by simp) | exact yy _ _ _ _ (zg _ _ _ (by simp))) rfl rfl) (by simp[Value.ownBlock,Act.eval]) (by simp <;> omega)) (by simp <;> omega) (by have:=hS1.size;simp <;> omega) (by omega) ?_
               intro v2 w6 ho2 hg2 _
               have hS2:Below w3.heap.size w3 w6:=by
                refine Below.grown (B:=w3.heap.size) (by assumption) hg2 ?_ (fun j hj=>(ho1.lt j hj).1);have:=hS1.size
                simp <;> omega)
            | (refine zc7 rfl (.tmp 90) (.tmp 93) rfl rfl w3.heap.size w.heap.size _ _ rfl ho2 _ _ 0 [] rfl [] (zh9 _ _) rfl (zfc _ _) (by simp <;> omega) (by have:=hS2.size;simp <;> omega) (by omega) ?_
               intro v3 w7 ho3 hg3 _
               have hS3:Below w3.heap.size w3 w7:=by
                refine Below.grown (B:=w3.heap.size) (by assumption) hg3 ?_ (fun j hj=>(ho2.lt j hj).1);have:=hS2.size;simp <;> omega))
           all_goals go_wp2
           all_goals
            go_roundw
            case rel=>exact⟨d+1,by omega,by go_num,Hw0.out.trans (hS3.mono Hw0.out.size),by
             rw[Hst.out,Hadd.out];have h9:=ho3.lower (show w.heap.size≤w3.heap.size from Hw0.out.size);have h10:OwnK w7 w.heap.size w.heap.size v3 [(f.1,V)]:=by simpa using h9
             exact h10⟩
            case measure=>simp[intOf];omega
         · skip
           have HPT:∀w',Below w3.heap.size w3 w'→PartsT w' w.heap.size (O.take O.length) (ss.take O.length):=fun w' h=>(hpt.steady (P:=fun _=>True) (.of_below h) trivial trivial).take _
           have Hhd:=hid (show ∀w',Below w3.heap.size w3 w'→Rd w' 2 (some ⟨g,0,none⟩) O.length (yt (ss.take O.length)) from fun w' h=>by
            have:=zdh (zm hro h) O.length (by omega);rw[zku] at this;exact Rd.own this)
           have Htl:=hid (show ∀w',Below w3.heap.size w3 w'→Rd w' 2 (if oc=O.length then some ⟨g,0,none⟩ else some ⟨g,O.length*2,none⟩) 0 (yt []) from fun w' h=>⟨rfl,fun h0=>by omega⟩);go_wp2_with fail
           go_region_held3 (fun w'=>Below w3.heap.size w3 w') (first | assumption | exact(Below.refl _ _).drew | exact Below.alloc (by assumption) (Below.size (by assumption)) _) (first
            | (refine zc7 rfl (.tmp 77) (.tmp 80) rfl rfl w3.heap.size w.heap.size _ [] rfl (zpg (by first | exact zg _ _ _ (by simp) | exact yy _ _ _ _ (zg _ _ _ (by simp))) (by simp <;> omega)) _ _ O.length (O.take O.length) (by rw[List.length_take];omega) (ss.take O.length) (HPT _ (by assumption)) rfl (Hhd.out _ (by assumption)) (by simp <;> omega) (by simp <;> omega) (by omega) ?_
               intro v1 w5 ho1 hg1 _
               have hS1:Below w3.heap.size w3 w5:=by
                refine Below.grown (B:=w3.heap.size) (by assumption) hg1 (by simp <;> omega) ?_;intro j hj;simp[Value.ownBlock,Act.eval] at hj
                omega)
            | (refine zc7 rfl (.tmp 81) (.tmp 89) rfl rfl w3.heap.size w.heap.size _ _ rfl (by first | exact ho1 | exact ho1.below ((Below.refl _ _).alloc (Nat.le_refl _) _)) _ 1 1 [(f.1,V)] rfl [(_,_)] (zgm (HIF _ (by assumption)) (HEV _ (by assumption))) rfl (by first | exact yg (zg _ _ _ (by simp)) rfl rfl | exact zck hg1 (yg (by first | exact zg _ _ _ (by simp) | exact yy _ _ _ _ (zg _ _ _ (by simp))) rfl rfl) (by simp[Value.ownBlock,Act.eval]) (by simp <;> omega)) (by simp <;> omega) (by have:=hS1.size;simp <;> omega) (by omega) ?_
               intro v2 w6 ho2 hg2 _
               have hS2:Below w3.heap.size w3 w6:=by
                refine Below.grown (B:=w3.heap.size) (by assumption) hg2 ?_ (fun j hj=>(ho1.lt j hj).1);have:=hS1.size
                simp <;> omega)
            | (refine zc7 rfl (.tmp 90) (.tmp 93) rfl rfl w3.heap.size w.heap.size _ _ rfl ho2 _ _ 0 [] rfl [] (zh9 _ _) rfl (Htl.out _ (by assumption)) (by simp <;> omega) (by have:=hS2.size;simp <;> omega) (by omega) ?_
               intro v3 w7 ho3 hg3 _
               have hS3:Below w3.heap.size w3 w7:=by
                refine Below.grown (B:=w3.heap.size) (by assumption) hg3 ?_ (fun j hj=>(ho2.lt j hj).1);have:=hS2.size;simp <;> omega))
           all_goals go_wp2
           all_goals
            go_roundw
            case rel=>exact⟨d+1,by omega,by go_num,Hw0.out.trans (hS3.mono Hw0.out.size),by
             rw[Hst.out,Hadd.out];have h9:=ho3.lower (show w.heap.size≤w3.heap.size from Hw0.out.size);have h10:OwnK w7 w.heap.size w.heap.size v3 (O.take O.length++[(f.1,V)]):=by simpa using h9
             exact h10⟩
            case measure=>simp[intOf];omega
  · obtain rfl:d=n:=by omega
    have Ho:=hid ho.out;rw[←Hl.out,Hall.out] at Ho;go_wp2;go_ret;exact⟨⟨_,rfl,Ho.out⟩,Hb.out⟩
set_option maxRecDepth 20000 in
theorem z9w (a:Option Addr) (n cap:Nat) (k:Kno) (w:World) (hE:Frags w a n cap k) (hL:LtK k) (hF:KnoFits k) (hA:(qd (k.map (·.1))).length≤2000):
 Calls Tryz.prog 73 #[.slice a n cap] w fun x w'=>(∃y,x=.returned y∧OwnK w' w.heap.size 0 y (qt k))∧Below w.heap.size w w':=by
 have HE:=hid hE;have HL:=hid hL;have HF:=hid hF;have hn:n≤500:=by rw[←hE.len];exact hF.len
 have hC:=hid (z9s a n cap k w hE hL hn hA);have Hall:=hid (zss k);have HLn:=hid (Nat.le_trans (zkw k) hA)
 have hPl:zq (jz k):=fun s hs=>by
  have:=zh1 hL hs;exact⟨by omega,this.2.1⟩
 have HPl:=hid hPl;clear hE hL hF hA hPl;go_enter Tryz.func73,Tryz.ntmps73;go_wp2_with fail;refine hC.out.mono ?_;rintro e w1 ⟨⟨v,rfl,ho⟩,hb1⟩;have Hb1:=hid hb1;obtain⟨aU,cU,rfl,hU⟩:=zah ho HPl.out;have HU:=hid hU;clear hb1 ho hU hC;obtain⟨N,hN⟩:∃N,N=(jz k).length:=⟨_,rfl⟩;have HN:=hid hN;rw[←hN] at HU HLn Hall ⊢;clear hN;have hN2:N≤2000:=HLn.out;go_wp2;go_loopw [4,5] (fun y i wr=>∃d:Nat,d≤N∧i=.int .i64 d∧Below w1.heap.size w1 wr∧Hid (OwnK wr w1.heap.size 0 y (zc9 k d))) (fun _ i _=>N - (intOf i).toNat)
 case atStart=>exact⟨0,by omega,rfl,Below.refl _ _,zkp _ _ _⟩
 case round=>
  obtain⟨d,hd,rfl,hb,ho⟩:=hrel;have Hb:=hid hb;clear hb;have Hbw:=hid (Hb1.out.trans (Hb.out.mono Hb1.out.size));by_cases hdN:d<N
  · have hcl:=HU.out.room;obtain⟨bS,oS,rfl,hcS⟩:=HU.out.cells (by omega);obtain⟨q1,q2⟩:=hcS d hdN;have Hst:=hid (zsr (k:=k) (d:=d) (by rw[←HN.out];exact hdN));have Hpl:=hid (zst k d);rw[←HN.out] at Hpl;have Hs:=hid (HPl.out _ (zaa (show d<(jz k).length by rw[←HN.out];exact hdN)));generalize zc9 k d=R0 at*;generalize zb (jz k) d=s at*;obtain⟨sx,sy⟩:=s;simp only at q1 q2 Hst Hs;have r1:∀w',Below w1.heap.size wr w'→w'.cell? ⟨bS,oS+d*2,none⟩=some (.int .u64 sx):=fun w' h=>((Hb.out.trans h).cell (p:=⟨bS,oS+d*2,none⟩) (ze q1)).trans q1
    have r2:∀w',Below w1.heap.size wr w'→w'.cell? ⟨bS,oS+d*2+1,none⟩=some (.int .u64 sy):=fun w' h=>((Hb.out.trans h).cell (p:=⟨bS,oS+d*2+1,none⟩) (ze q2)).trans q2
    have hz0:w.heap.size≤w1.heap.size:=Hb1.out.size;have hz1:w1.heap.size≤wr.heap.size:=Hb.out.size;have hAt:=hid (fun w' (h:Below w1.heap.size wr w')=>z9q a n cap sx k w' (HE.out.below (Hbw.out.trans (h.mono hz0))) HL.out HF.out);have Hlv:=hid (zc1 HL.out sx).2.1;generalize atK k sx=V at*;have h0:(0:Int)≤d:=by omega
    have h04:(d:Int)<(N:Int):=by omega
    clear hcS q1 q2;go_wp2_with fail
    go_region_held3 (fun w'=>Below w1.heap.size wr w') (first | assumption | exact(Below.refl _ _).drew | exact Below.alloc (by assumption) (Nat.le_trans hz1 (Below.size (by assumption))) _) (first
     | (go_at_call 129
        refine(hAt.out _ (by assumption)).mono ?_;rintro e w4 ⟨⟨y4,rfl,ho4⟩,hb4⟩;have hS4:Below w1.heap.size wr w4:=Below.trans (by assumption) (hb4.mono (Nat.le_trans hz1 (Below.size (by assumption))));have hT4:Below wr.heap.size wr w4:=Below.trans (by first | exact(Below.refl _ _).drew | exact((Below.refl _ _).drew).alloc (by simp) _ | exact((Below.refl _ _).alloc (Nat.le_refl _) _).drew) (hb4.mono (Below.size (by assumption)));have Ho4:=hid (ho.out.below hT4);obtain⟨ya,yc,rfl,hV⟩:=ho4.entsT (base':=0) Hlv.out;have HV:=hid hV
        first
         | (have zr:=zsv hb4)
         | (have zr:=zsw hb4)
         | skip
        clear hb4 ho4 hV hT4)
     | (refine zc7 rfl (.tmp 14) (.tmp 28) rfl rfl w1.heap.size 0 _ R0 rfl (Ho4.out.below (by first | exact(Below.refl _ _).alloc (Nat.le_refl _) _ | exact((Below.refl _ _).alloc (Nat.le_refl _) _).alloc (by simp) _)) _ 1 1 [([(sx,sy)],V)] rfl [(_,_)] (zgm (zsu (s:=(sx,sy)) (by first | exact yy _ _ _ _ (zg _ _ _ rfl) | exact yy _ _ _ _ zr) Hs.out 0) ⟨_,_,_,rfl,HV.out.steady (P:=fun _=>True) (.of_below (by first | exact(Below.refl _ _).alloc (Nat.le_refl _) _ | exact((Below.refl _ _).alloc (Nat.le_refl _) _).alloc (by simp) _)) trivial trivial⟩) rfl (yg (zg _ _ _ (by simp)) rfl rfl) (by have:=Hpl.out;simp;omega) (by have:=hS4.size;simp;omega) (Nat.zero_le _) ?_
        intro v8 w8 ho8 hg8 _;have hS8:Below w1.heap.size wr w8:=Below.grown (B:=w1.heap.size) (by assumption) hg8 (by have:=hS4.size;simp <;> omega) (fun j hj=>(Ho4.out.lt j hj).1)))
    all_goals
     go_wp2;go_roundw
     case rel=>exact⟨d+1,by omega,by go_num,Hb.out.trans hS8,by rw[Hst.out];exact ho8⟩
     case measure=>simp[intOf];omega
  · obtain rfl:d=N:=by omega
    have Ho:=hid ho.out;rw[Hall.out] at Ho;go_wp2;go_ret;exact⟨⟨_,rfl,Ho.out.lower Hb1.out.size⟩,Hbw.out⟩
def zph (k:Kno) (x:Ending) (w':World):Prop:=∃a c,x=.returned (.slice a k.length c)∧Frags w' a k.length c k
theorem zpi (a:Option Addr) (n cap:Nat) (k:Kno) (w:World) (hE:Frags w a n cap k) (hL:LtK k) (hF:KnoFits k) (hA:(qd (k.map (·.1))).length≤2000):
 Calls Tryz.prog 36 #[.slice a n cap] w fun x w'=>zph (zh k) x w'∧Below w.heap.size w w':=by
 have hC:=hid (z9w a n cap k w hE hL hF hA);have hl:(qt k).length≤2000:=by unfold qt;rw[List.length_map];exact Nat.le_trans (zkw k) hA
 have hs:yf (qt k)≤10000:=by
  unfold qt;rw[zsn k k];have:=zkw k;omega
 have hv:∀f∈qt k,VecFits f.2∧VecFits (jm f.2):=fun f hf=>by
  unfold qt at hf;obtain⟨s,hs,rfl⟩:=List.mem_map.1 hf;obtain⟨c1,c2,_⟩:=zc1 hL s.1;have h1:VecFits (atK k s.1):=by rw[←zia];exact hF.at_ _ _
  simp only;rw[zj9 c2 c1];exact⟨h1,h1⟩
 have hG:=hid (fun a c w' (h:Frags w' a (qt k).length c (qt k))=>z9v a _ c (qt k) w' h (zkl hL) (fun f hf=>(hv f hf).1) (fun f hf=>(hv f hf).2) hs hl);have Hck:=hid (show zh k=zce (qt k) from rfl);clear hE hL hF hA hl hs hv;go_enter Tryz.func36,Tryz.ntmps36;go_wp2_with fail;refine hC.out.mono ?_;rintro e w1 ⟨⟨v,rfl,ho⟩,hb⟩;have Hb:=hid hb;obtain⟨a1,c1,rfl,h1⟩:=ho.frags;have H1:=hid h1;clear ho hb h1;go_wp2_with fail;refine(hG.out _ _ _ H1.out).mono ?_;rintro e w2 ⟨⟨v,rfl,ho⟩,hb⟩;have Hb2:=hid (Hb.out.trans (hb.mono Hb.out.size));obtain⟨a2,c2,rfl,h2⟩:=ho.frags;have H2:=hid h2;clear ho hb h2;go_wp2;go_ret;exact⟨⟨_,_,by rw[Hck.out];rfl,by rw[Hck.out];exact H2.out⟩,Hb2.out⟩
end
end Go.Proofs.YtdnjfnofjaoajaaGreatDoor
