/- Part 45. -/
import Derived.Test.YtmfhggnlainmiaaGreatDoorPk44
set_option linter.unusedVariables false
set_option maxHeartbeats 16000000
namespace Go.Proofs.YtmfhggnlainmiaaGreatDoor
open Lib (hid)
section
open Go.RowKit
theorem yfs {l:List Nat} {E m:Nat} (hl:∀c∈l,c<256):∀(N:Nat) (acc:List Iv) (q:Nat) {h:List Iv} {q2:Nat},ke (ze l E) m N acc q=.ok (h,q2)→q≤l.length→q≤E→q≤q2∧q2≤l.length∧q2≤E:=by
 intro N
 induction N with
 | zero=>intro acc q h q2 e h1 h2;cases e;exact⟨Nat.le_refl _,h1,h2⟩
 | succ N ih=>
  intro acc q h q2 e h1 h2;unfold ke at e
  cases hi:ivP (ze l E) (qr acc) 1 q with
  | error x=>rw[hi] at e;cases e
  | ok y=>
   obtain⟨⟨s,wh⟩,q3⟩:=y;rw[hi,ja] at e;obtain⟨a1,a2,a3,-,-,-⟩:=zpl hl hi;unfold zc0 at e;split at e
   · cases e
   · have:=ih _ _ e a2 a3;omega
theorem zpn {l:List Nat} {E q q2 x:Nat} {lim:Int} (hl:∀c∈l,c<256) (h:jf (ze l E) E lim q=.ok (x,q2)):q+1≤q2:=by
 unfold jf nmP at h
 cases hT:ze l E q with
 | error c=>rw[hT] at h;cases h
 | ok y=>
  obtain⟨z,q1⟩:=y;obtain⟨t1,-,-,-,-⟩:=zap hl hT;simp only[hT,thn] at h;split at h
  · cases h;omega
  · cases h
theorem z12 {l:List Nat} {E q q2:Nat} {lim:Int} {v:Vec} {y:Ent} (hl:∀c∈l,c<256) (h:zao (ze l E) E lim v q=.ok (y,q2)):q+1≤q2∧q2≤l.length∧q2≤E:=by
 unfold zao nmP at h
 cases hT:ze l E q with
 | error c=>rw[hT] at h;cases h
 | ok z=>
  obtain⟨x,q1⟩:=z;obtain⟨t1,t2,t3,-,-⟩:=zap hl hT;simp only[hT,thn] at h;split at h
  · cases h
  · unfold zer nmP at h;rename_i r _
    cases hT2:ze l E q1 with
    | error c=>simp only[hT2,thn] at h;cases h
    | ok z2=>
     obtain⟨mx,q3⟩:=z2;obtain⟨u1,u2,u3,-,-⟩:=zap hl hT2;simp only[hT2,thn] at h;unfold ze7 at h
     cases hc:jf (ze l E) E lim q3 with
     | error c=>rw[hc] at h;cases h
     | ok z3=>
      obtain⟨n,q4⟩:=z3;rw[hc,ja] at h;obtain⟨b1,b2,-⟩:=zkk hl hc
      cases hh:ke (ze l E) mx n [] q4 with
      | error c=>rw[hh] at h;cases h
      | ok z4=>
       obtain⟨hs,q5⟩:=z4;rw[hh,ja] at h;cases h;have:=yfs hl n [] q4 hh b1 b2;have:=zpn hl hc;omega
theorem OwnV.junk {w:World} {base:Nat} {V:Value} {v:Vec} {r m x:Nat} {a:Option Addr} {y:Nat} (hV:OwnV w base V v) (A:Option Addr) (c:Nat) (hr:Rd w 3 A 1 [.int .u64 (r:Nat),.int .u64 (m:Nat),.slice a x y]) (hb:v.length+1≤1000000000000) (hbase:base≤w.heap.size):
 ∃V' w',(Builtin.append_ #[125,125] 125 #[V,.slice A 1 c]).run Tryz.prog w=.ok V' w'∧w.grownBy w' V.ownBlock∧(∀k,V.ownBlock=some k→base≤k):=by
 obtain⟨ss,ho,hh⟩:=hV;obtain⟨V',w',h1,h2,h3⟩:=zcf base _ _ _ _ 3 40 Tryz.underlying125 Tryz.info_ent rfl (by omega) V v.length _ ho A 1 c _ hr (by simp[Value.oneCell']) (by unfold maxLen;omega) (by omega) hbase;exact⟨V',w',h1,h3,fun k hk=>(ho.lt k hk).1⟩
def zes (w:World) (g:Nat) (B:Value) (E:Nat) (r:RR Vec) (e:Ending) (w':World):Prop:=
 qu r e w w' g B E (fun v=>∃V,e=.returned V∧OwnV w' w.heap.size V v∧LtV v) (e=.returned (.slice none 0 0))
def z13 (w wi:World) (l:List Nat) (E n N:Nat) (lim:Int) (V:Value) (k:Nat) (res:RR Vec):Except (Nat×Nat) Nat→Prop
 | .ok q=>∃v,v.length=k∧q≤n∧q≤E∧LtV v∧v.length≤q∧OwnV wi w.heap.size V v∧vu (ze l E) E lim (N - k) v q=res
 | .error x=>res=.error x
set_option maxRecDepth 20000 in
theorem yft {w:World} {g n cap E q:Nat} {a:Option Addr} {l:List Nat} {L:zc} (hB:∀W,w.grownBy W (some g)→Rf W a n cap E l) (h:CurM w g (.slice a n cap) E (.ok q)) (hq:q≤n) (hqE:q≤E) (hn6:n≤1000000) (hL:LimsI L):
 Calls Tryz.prog 140 #[.pointer (some ⟨g,0,none⟩),lmV L] w (zes w g (.slice a n cap) E (za3 (ze l E) E L.2.2.1 L.2.2.2.1 q)):=by
 have hg:=CurM.lt h;have Hlt:=hid (hB w (vy _ _)).b.lt;have Hbl:=hid (hB w (vy _ _)).b.len;have HEb:=hid (hB w (vy _ _)).E;obtain⟨w0,hw0⟩:∃w0,w0=w.alloc (.cells #[.int .i64 L.1,.int .i64 L.2.1,.int .i64 L.2.2.1,.int .i64 L.2.2.2.1,.int .i64 L.2.2.2.2] 24):=⟨_,rfl⟩;have hb0:Below w.heap.size w w0:=by rw[hw0];exact(Below.refl _ _).alloc (Nat.le_refl _) _
 have HL0:=hid (show Row w0 w.heap.size 24 [.int .i64 L.1,.int .i64 L.2.1,.int .i64 L.2.2.1,.int .i64 L.2.2.2.1,.int .i64 L.2.2.2.2] from by rw[hw0];exact y7 w _ _);have HG0:=hid (show w.grownBy w0 (some g) from vg (vy _ _) hb0);have hC0:=CurM.later h hb0;have HCt:=hid (zpk (hB _ HG0.out) hC0 hq hqE hL.c);have HC0:=hid hC0;have HB:=hid hB;have HLi:=hid hL;have HnL:=hid (show some w.heap.size≠some g from by intro e;injection e;omega);have Hw0:=hid hw0;have c1:=Row.cell hC0 1 rfl;have l2:=HL0.out.cell 2 rfl;rw[hw0] at c1 l2;clear hw0 hB h hb0 hg hC0 hL;unfold lmV;go_enter Tryz.func140,Tryz.ntmps140;go_wp2_with fail;clear c1 l2;rw[←Hw0.out];refine HCt.out.mono ?_;rintro e w1 hres;unfold qu at hres;obtain⟨hg1,hres⟩:=hres;have HG1:=hid (zw HG0.out hg1);have HL1:=hid (HL0.out.grown hg1 HnL.out);clear hg1
 cases hct:jf (ze l E) E L.2.2.1 q with
 | error ex=>
  rw[hct] at hres;obtain⟨hC1,rfl⟩:=hres;have Hr:=hid (show za3 (ze l E) E L.2.2.1 L.2.2.2.1 q=.error ex from by unfold za3;rw[hct];rfl);have HC1:=hid hC1;clear hC1 hct;go_wp2_with fail;refine(zpj (c:=9) (p:=q) HC1.out).mono ?_;rintro e wz ⟨rfl,rfl⟩;go_wp2;go_loopw [7,8] (fun y i wi=>i=.int .i64 0∧y=.slice none 0 0∧wi=w1) (fun _ _ _=>0)
  case atStart=>exact⟨rfl,rfl,rfl⟩
  case round=>
   obtain⟨rfl,rfl,rfl⟩:=hrel;go_wp2_with fail;refine(zbg HC1.out).mono ?_;rintro e wz ⟨rfl,rfl⟩;go_wp2_with fail;go_ret;show zes _ _ _ _ _ _ _;unfold zes qu;rw[Hr.out]
   exact⟨HG1.out,HC1.out,rfl⟩
 | ok y=>
  obtain⟨N,q1⟩:=y;rw[hct] at hres;obtain⟨hC1,rfl⟩:=hres;have hqq:=zkk Hlt.out hct;rw[Hbl.out] at hqq;have HC1:=hid hC1;rcases Nat.eq_zero_or_pos N with h0 | h0
  · have Hr:=hid (show za3 (ze l E) E L.2.2.1 L.2.2.2.1 q=.error (9,q) from by unfold za3;rw[hct,h0];rfl);subst h0;clear hC1 hct hqq;rw[show ((0:Nat):Int)=0 from rfl];go_wp2_with fail;refine(zdy (c:=9) (p:=q) HC1.out (by decide)).mono ?_;rintro e w2 ⟨rfl,hg2,hC2⟩;have HG2:=hid (zw HG1.out hg2);have HC2:=hid hC2;clear hg2 hC2;go_wp2;go_loopw [7,8] (fun y i wi=>i=.int .i64 0∧y=.slice none 0 0∧wi=w2) (fun _ _ _=>0)
    case atStart=>exact⟨rfl,rfl,rfl⟩
    case round=>
     obtain⟨rfl,rfl,rfl⟩:=hrel;go_wp2_with fail;refine(zbg HC2.out).mono ?_;rintro e wz ⟨rfl,rfl⟩;go_wp2_with fail;go_ret;show zes _ _ _ _ _ _ _;unfold zes qu;rw[Hr.out];exact⟨HG2.out,HC2.out,rfl⟩
  · have hz:((N:Int) == 0)=false:=by rw[beq_eq_false_iff_ne];omega
    obtain⟨res,hres⟩:∃res,vu (ze l E) E L.2.2.2.1 N [] q1=res:=⟨_,rfl⟩;have hen:za3 (ze l E) E L.2.2.1 L.2.2.2.1 q=res:=by unfold za3;rw[hct,ja,if_neg (by omega),hres]
    have Hr:=hid hen;have hN:N≤4000000000000000000:=Nat.le_trans hqq.2.2 HEb.out;have Hq1:=hid (show q1≤n∧q1≤E from⟨hqq.1,hqq.2.1⟩);have Hres:=hid (show vu (ze l E) E L.2.2.2.1 (N - 0) [] q1=res from hres);clear hC1 hct hqq hres hen;go_wp2;go_loopw [7,8] (fun y i wi=>∃(k:Nat) (V:Value) (cs:Except (Nat×Nat) Nat),k≤N∧i=.int .i64 k∧y=V∧Hid (w.grownBy wi (some g))∧Hid (Row wi w.heap.size 24 [.int .i64 L.1,.int .i64 L.2.1,.int .i64 L.2.2.1,.int .i64 L.2.2.2.1,.int .i64 L.2.2.2.2])∧Hid (CurM wi g (.slice a n cap) E cs)∧Hid (z13 w wi l E n N L.2.2.2.1 V k res cs)) (fun _ i _=>N - (intOf i).toNat)
    case atStart=>exact⟨0,.slice none 0 0,.ok q1,by omega,rfl,rfl,HG1.out,HL1.out,HC1.out,[],rfl,Hq1.out.1,Hq1.out.2,(fun e he=>(by cases he)),Nat.zero_le _,zjz _ _,Hres.out⟩
    case round=>
     obtain⟨k,V,cs,hk,rfl,rfl,hGr,hLm,hC,hI⟩:=hrel;by_cases hkN:k<N
     · have hd:decide ((k:Int)<(N:Int))=true:=by rw[decide_eq_true_iff];omega
       have hd':decide (k<N)=true:=by rw[decide_eq_true_iff];omega
       cases cs with
       | error ex=>
        have Hr2:=hid (Hr.out.trans hI.out);go_wp2_with fail;refine(zbg hC.out).mono ?_;rintro e wz ⟨rfl,rfl⟩;go_wp2_with fail;refine(zbg hC.out).mono ?_;rintro e wz ⟨rfl,rfl⟩;go_wp2_with fail;go_ret;show zes _ _ _ _ _ _ _;unfold zes qu;rw[Hr2.out]
        exact⟨hGr.out,hC.out,rfl⟩
       | ok q4=>
        obtain⟨v,e1,j1,j2,j3,j4,j5,j6⟩:=hI.out;have HV:=hid j5;have Hj:=hid (And.intro j1 (And.intro j2 (And.intro j3 (And.intro e1 j4))));have Hst:=hid (show thn (zao (ze l E) E L.2.2.2.1 v q4) (fun e q=>vu (ze l E) E L.2.2.2.1 (N - (k+1)) (v++[e]) q)=res from by rw[←j6,show N - k=(N - (k+1))+1 by omega];rfl);obtain⟨av,cv,rfl,hE⟩:=j5.ents j3;have l0:=hLm.out.cell 0 rfl;have l1:=hLm.out.cell 1 rfl;have l2:=hLm.out.cell 2 rfl;have l3:=hLm.out.cell 3 rfl;have l4:=hLm.out.cell 4 rfl;have HEn:=hid (fun fst bf hv hbf=>yfr (v:=v) (fst:=fst) (bf:=bf) (Rf.keep HB.out hGr.out) hC.out j1 j2 hn6 hv hbf HLi.out);rcases Nat.eq_zero_or_pos k with hk0 | hk0
        case' inl=>
         have hz0:decide (0<(k:Int))=false:=by rw[decide_eq_false_iff_not];omega
         have hz1:((k:Int) == 0)=true:=by rw[beq_iff_eq];omega
         have HEr:=hid (HEn.out true 0 (.inl ⟨List.length_eq_zero_iff.1 (e1.trans hk0),rfl⟩) (by decide));clear hE
        case' inr=>
         have hz0:decide (0<(k:Int))=true:=by rw[decide_eq_true_iff];omega
         have hz1:((k:Int) == 0)=false:=by rw[beq_eq_false_iff_ne];omega
         have hge:v.getLast?=some (zg v (k - 1)):=by rw[List.getLast?_eq_getElem?,e1,List.getElem?_eq_getElem (by omega),j0 (by omega)]
         have hbf:(zg v (k - 1)).1<18446744073709551616:=(j3 _ (vq (by omega))).1;have HEr:=hid (HEn.out false (zg v (k - 1)).1 (.inr ⟨_,hge,rfl,rfl⟩) hbf);obtain⟨bb,oo,rfl,hcells⟩:=hE.cells (by omega);have hcell:=(hcells (k - 1) (by omega)).1;have hsub:IntKind.i64.wrap ((k:Int) - 1)=((k - 1:Nat):Int):=by rw[IntKind.wrap_i64];omega
         have h1:(0:Int)≤((k - 1:Nat):Int):=by omega
         have h2:((k - 1:Nat):Int)<(v.length:Int):=by omega
         clear hE hge hbf hcells;generalize zg v (k - 1)=en at*;generalize k - 1=km at*
        all_goals
         clear e1 j1 j2 j3 j4 j5 j6 HEn;go_wp2_with fail;refine(zb3 hC.out).mono ?_;rintro e wz ⟨rfl,rfl⟩;go_wp2_with fail;refine HEr.out.mono ?_;rintro e w2 hres;unfold zb4 qu at hres;obtain⟨hg2,hres⟩:=hres;have HG2:=hid (zw hGr.out hg2);have HL2:=hid (hLm.out.grown hg2 HnL.out);have HV2:=hid (HV.out.grown (CurM.notT hC.out) hg2)
         cases hep:zao (ze l E) E L.2.2.2.1 v q4 with
         | error ex=>
          rw[hep] at hres;obtain⟨hC2,x,y,ax,nx,cx,rfl⟩:=hres;have Hnew:=hid (show res=.error ex from by rw[←Hst.out,hep];rfl);have hal:=(Below.refl w2.heap.size w2).alloc (Nat.le_refl _) (.cells #[.int .u64 x,.int .u64 y,.slice ax nx cx] 137);have hV3:=HV2.out.below hal;obtain⟨V',w4,hrun,hg4,hk4⟩:=hV3.junk (some ⟨w2.heap.size,0,none⟩) 1 (zf1 _ _ _ 1 _ rfl rfl) (by have:=Hj.out;omega) (by have:=(HG2.out).size;simp only[World.size_alloc];omega);have HG4:=hid (zfw (vg HG2.out hal) hg4 hk4);have HL4:=hid ((HL2.out.later hal).grown hg4 (hV3.row (HL2.out.later hal) (by decide)));have HC4:=hid ((CurM.later hC2 hal).grown hg4 (hV3.ne (CurM.later hC2 hal)));clear hg2 hep hal hV3 hg4 hk4 hC2;go_wp2_with (at_builtin;refine qf _ _ 125 rfl rfl _ _ rfl rfl _ _ hrun ?_);clear hrun;go_roundw
          case rel=>exact⟨k+1,_,.error ex,by omega,by go_num,rfl,HG4.out,HL4.out,HC4.out,Hnew.out⟩
          case measure=>simp[intOf];omega
         | ok y=>
          obtain⟨⟨r,m,hs⟩,q5⟩:=y;rw[hep] at hres;obtain⟨hC2,S,rfl,hS,hls,hr64,hm64⟩:=hres;simp only[] at hS hls hr64 hm64;have hw:=z12 Hlt.out hep;rw[Hbl.out] at hw;have hal:=(Below.refl w2.heap.size w2).alloc (Nat.le_refl _) (.cells #[.int .u64 r,.int .u64 m,S] 137);have hV3:=HV2.out.below hal;have hS3:=vh (w':=w2.alloc (.cells #[.int .u64 r,.int .u64 m,S] 137)) hS fun k hk=>Below.heap_alloc _ _ _ (hS.lt k hk).2
          obtain⟨V',w4,hrun,hV4,hg4,hk4⟩:=hV3.add hS3 hls (some ⟨w2.heap.size,0,none⟩) 1 (zf1 _ _ _ 1 _ rfl rfl) (by have:=Hj.out;omega) (by have:=(HG2.out).size;simp only[World.size_alloc];omega);have HG4:=hid (zfw (vg HG2.out hal) hg4 hk4);have HL4:=hid ((HL2.out.later hal).grown hg4 (hV3.row (HL2.out.later hal) (by decide)));have HC4:=hid ((CurM.later hC2 hal).grown hg4 (hV3.ne (CurM.later hC2 hal)))
          have Hnew:=hid (show z13 w w4 l E n N L.2.2.2.1 V' (k+1) res (.ok q5) from⟨v++[(r,m,hs)],by rw[List.length_append,Hj.out.2.2.2.1];rfl,hw.2.1,hw.2.2,fun t ht=>by
           rcases List.mem_append.1 ht with h | h
           · exact Hj.out.2.2.1 t h
           · rw[List.mem_singleton] at h;subst h;exact⟨hr64,hm64,hls⟩,by have:=Hj.out;simp;omega,hV4,by rw[←Hst.out,hep,ja]⟩)
          obtain⟨a4,c4,rfl⟩:=hV4.slice;obtain⟨a6,c6,rfl⟩:=jh hS;clear hg2 hep hal hV3 hg4 hk4 hC2 hS hls hr64 hm64 hw hS3 hV4;generalize (v++[(r,m,hs)]).length=n4 at*;go_wp2_with (at_builtin;refine qf _ _ 125 rfl rfl _ _ rfl rfl _ _ hrun ?_);clear hrun;go_roundw
          case rel=>exact⟨k+1,_,.ok q5,by omega,by go_num,rfl,HG4.out,HL4.out,HC4.out,Hnew.out⟩
          case measure=>simp[intOf];omega
     · obtain rfl:k=N:=by omega
       have hd:decide ((k:Int)<(k:Int))=false:=by rw[decide_eq_false_iff_not];omega
       cases cs with
       | error ex=>
        have Hr2:=hid (Hr.out.trans hI.out);go_wp2_with fail;refine(zbg hC.out).mono ?_;rintro e wz ⟨rfl,rfl⟩;go_wp2_with fail;go_ret;show zes _ _ _ _ _ _ _;unfold zes qu;rw[Hr2.out]
        exact⟨hGr.out,hC.out,rfl⟩
       | ok q4=>
        obtain⟨v,e1,j1,j2,j3,j4,j5,j6⟩:=hI.out;have Hr2:=hid (show za3 (ze l E) E L.2.2.1 L.2.2.2.1 q=.ok (v,q4) from by rw[Hr.out,←j6,Nat.sub_self];rfl);have Hv:=hid (And.intro j5 j3);clear e1 j1 j2 j3 j4 j5 j6;go_wp2_with fail;refine(zb3 hC.out).mono ?_;rintro e wz ⟨rfl,rfl⟩;go_wp2_with fail;go_ret;show zes _ _ _ _ _ _ _;unfold zes qu;rw[Hr2.out];exact⟨hGr.out,hC.out,_,rfl,Hv.out.1,Hv.out.2⟩
theorem yfu {l:List Nat} {E m:Nat} (hl:∀c∈l,c<256):∀(N:Nat) (acc:List Iv) (q:Nat) {h:List Iv} {q2:Nat},ke (ze l E) m N acc q=.ok (h,q2)→q+2*h.length≤q2+2*acc.length:=by
 intro N
 induction N with
 | zero=>intro acc q h q2 e;cases e;exact Nat.le_refl _
 | succ N ih=>
  intro acc q h q2 e;unfold ke at e
  cases hi:ivP (ze l E) (qr acc) 1 q with
  | error x=>rw[hi] at e;cases e
  | ok y=>
   obtain⟨⟨s,wh⟩,q3⟩:=y;rw[hi,ja] at e;obtain⟨a1,-⟩:=zpl hl hi;unfold zc0 at e;split at e
   · cases e
   · have:=ih _ _ e;rw[List.length_append,List.length_singleton] at this;omega
theorem yfv {l:List Nat} {E q q2:Nat} {lim:Int} {v:Vec} {y:Ent} (hl:∀c∈l,c<256) (h:zao (ze l E) E lim v q=.ok (y,q2)):q+3+2*y.2.2.length≤q2:=by
 unfold zao nmP at h
 cases hT:ze l E q with
 | error c=>rw[hT] at h;cases h
 | ok z=>
  obtain⟨x,q1⟩:=z;obtain⟨t1,-⟩:=zap hl hT;simp only[hT,thn] at h;split at h
  · cases h
  · unfold zer nmP at h;rename_i r _
    cases hT2:ze l E q1 with
    | error c=>simp only[hT2,thn] at h;cases h
    | ok z2=>
     obtain⟨mx,q3⟩:=z2;obtain⟨u1,-⟩:=zap hl hT2;simp only[hT2,thn] at h;unfold ze7 at h
     cases hc:jf (ze l E) E lim q3 with
     | error c=>rw[hc] at h;cases h
     | ok z3=>
      obtain⟨n,q4⟩:=z3;rw[hc,ja] at h
      cases hh:ke (ze l E) mx n [] q4 with
      | error c=>rw[hh] at h;cases h
      | ok z4=>
       obtain⟨hs,q5⟩:=z4;rw[hh,ja] at h;cases h;have:=yfu hl n [] q4 hh;have:=zpn hl hc;simp only[List.length_nil] at*;omega
theorem yfw {l:List Nat} {E:Nat} {lim:Int} (hl:∀c∈l,c<256):∀(N:Nat) (v:Vec) (q:Nat) {u:Vec} {q2:Nat},vu (ze l E) E lim N v q=.ok (u,q2)→q≤l.length→q≤E→q+(u.flatMap ko).length≤q2+(v.flatMap ko).length∧q2≤l.length∧q2≤E∧(u=[]→v=[]):=by
 intro N
 induction N with
 | zero=>intro v q u q2 e h1 h2;cases e;exact⟨Nat.le_refl _,h1,h2,fun h=>h⟩
 | succ N ih=>
  intro v q u q2 e h1 h2;unfold vu at e
  cases hi:zao (ze l E) E lim v q with
  | error x=>rw[hi] at e;cases e
  | ok y=>
   obtain⟨y,q3⟩:=y;rw[hi,ja] at e;obtain⟨a1,a2,a3⟩:=z12 hl hi;have b:=yfv hl hi;obtain⟨c1,c2,c3,c4⟩:=ih _ _ e a2 a3;rw[List.flatMap_append,List.length_append,List.flatMap_singleton,zlf] at c1;exact⟨by omega,c2,c3,fun h=>by have:=c4 h;simp at this⟩
theorem yfx {l:List Nat} {E q q2:Nat} {le lh:Int} {v:Vec} (hl:∀c∈l,c<256) (h:za3 (ze l E) E le lh q=.ok (v,q2)):q+(yj v).length≤q2∧q2≤l.length∧q2≤E:=by
 unfold za3 at h
 cases hc:jf (ze l E) E le q with
 | error c=>rw[hc] at h;cases h
 | ok z=>
  obtain⟨n,q1⟩:=z;rw[hc,ja] at h;obtain⟨b1,b2,-⟩:=zkk hl hc;have b3:=zpn hl hc;split at h
  · cases h
  · obtain⟨c1,c2,c3,-⟩:=yfw hl _ _ _ h b1 b2;refine⟨?_,c2,c3⟩;unfold yj;rw[List.length_cons];simp only[List.flatMap_nil,List.length_nil] at c1;omega
theorem KV.segB {w:World} {base:Nat} {K:Value} {vs:List Vec} (h:KV w base K vs) (hb:base≤w.heap.size):SegB w w base K vs [] [] (.slice none 0 0) []:=by
 obtain⟨Y,h1,h2⟩:=h;exact⟨zgu,Y,hb,⟨Nat.le_refl _,fun _ _ _=>rfl⟩,h2,h1,fun i hi=>World.ownsRow_nil _ _ _ _,(fun i hi j hj _ b hb=>by simp[zgu,Value.ownBlock] at hb),World.ownsRow_nil _ _ _ _,fun i hi b hb=>by simp[zgu,Value.ownBlock] at hb⟩
