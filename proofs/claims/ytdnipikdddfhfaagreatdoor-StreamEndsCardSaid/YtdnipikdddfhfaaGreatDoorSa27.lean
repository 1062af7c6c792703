/- Part 27. -/
import Derived.Test.YtdnipikdddfhfaaGreatDoorSa26
import Derived.Test.YtdnipikdddfhfaaGreatDoorSa17
set_option linter.unusedVariables false
set_option maxHeartbeats 16000000
namespace Go.Proofs.YtdnipikdddfhfaaGreatDoor
open Lib (hid)
section
open Go.RowKit
theorem zyl {l:List Nat} {E m:Nat} (hl:∀c∈l,c<256):∀(N:Nat) (acc:List Iv) (q:Nat) {h:List Iv} {q2:Nat},qa (zb l E) m N acc q=.ok (h,q2)→q≤l.length→q≤E→q≤q2∧q2≤l.length∧q2≤E:=by
 intro N
 induction N with
 | zero=>intro acc q h q2 e h1 h2;cases e;exact⟨Nat.le_refl _,h1,h2⟩
 | succ N ih=>
  intro acc q h q2 e h1 h2;unfold qa at e
  cases hi:ivP (zb l E) (zp acc) 1 q with
  | error x=>rw[hi] at e;cases e
  | ok y=>
   obtain⟨⟨s,wh⟩,q3⟩:=y;rw[hi,zt] at e;obtain⟨a1,a2,a3,-,-,-⟩:=zf5 hl hi;unfold kq at e;split at e
   · cases e
   · have:=ih _ _ e a2 a3;omega
theorem zf7 {l:List Nat} {E q q2 x:Nat} {lim:Int} (hl:∀c∈l,c<256) (h:zv (zb l E) E lim q=.ok (x,q2)):q+1≤q2:=by
 unfold zv nmP at h
 cases hT:zb l E q with
 | error c=>rw[hT] at h;cases h
 | ok y=>
  obtain⟨z,q1⟩:=y;obtain⟨t1,-,-,-,-⟩:=ve hl hT;simp only[hT,thn] at h;split at h
  · cases h;omega
  · cases h
theorem zo1 {l:List Nat} {E q q2:Nat} {lim:Int} {v:Vec} {y:Ent} (hl:∀c∈l,c<256) (h:qr (zb l E) E lim v q=.ok (y,q2)):q+1≤q2∧q2≤l.length∧q2≤E:=by
 unfold qr nmP at h
 cases hT:zb l E q with
 | error c=>rw[hT] at h;cases h
 | ok z=>
  obtain⟨x,q1⟩:=z;obtain⟨t1,t2,t3,-,-⟩:=ve hl hT;simp only[hT,thn] at h;split at h
  · cases h
  · unfold zao nmP at h;rename_i r _
    cases hT2:zb l E q1 with
    | error c=>simp only[hT2,thn] at h;cases h
    | ok z2=>
     obtain⟨mx,q3⟩:=z2;obtain⟨u1,u2,u3,-,-⟩:=ve hl hT2;simp only[hT2,thn] at h;unfold za0 at h
     cases hc:zv (zb l E) E lim q3 with
     | error c=>rw[hc] at h;cases h
     | ok z3=>
      obtain⟨n,q4⟩:=z3;rw[hc,zt] at h;obtain⟨b1,b2,-⟩:=zdk hl hc
      cases hh:qa (zb l E) mx n [] q4 with
      | error c=>rw[hh] at h;cases h
      | ok z4=>
       obtain⟨hs,q5⟩:=z4;rw[hh,zt] at h;cases h;have:=zyl hl n [] q4 hh b1 b2;have:=zf7 hl hc;omega
theorem OwnV.junk {w:World} {base:Nat} {V:Value} {v:Vec} {r m x:Nat} {a:Option Addr} {y:Nat} (hV:OwnV w base V v) (A:Option Addr) (c:Nat) (hr:Rd w 3 A 1 [.int .u64 (r:Nat),.int .u64 (m:Nat),.slice a x y]) (hb:v.length+1≤1000000000000) (hbase:base≤w.heap.size):
 ∃V' w',(Builtin.append_ #[95,95] 95 #[V,.slice A 1 c]).run Tryz.prog w=.ok V' w'∧w.grownBy w' V.ownBlock∧(∀k,V.ownBlock=some k→base≤k):=by
 obtain⟨ss,ho,hh⟩:=hV;obtain⟨V',w',h1,h2,h3⟩:=zbu base _ _ _ _ 3 40 Tryz.underlying95 Tryz.info_ent rfl (by omega) V v.length _ ho A 1 c _ hr (by simp[Value.oneCell']) (by unfold maxLen;omega) (by omega) hbase;exact⟨V',w',h1,h3,fun k hk=>(ho.lt k hk).1⟩
def zar (w:World) (g:Nat) (B:Value) (E:Nat) (r:RR Vec) (e:Ending) (w':World):Prop:=
 zr r e w w' g B E (fun v=>∃V,e=.returned V∧OwnV w' w.heap.size V v∧LtV v) (e=.returned (.slice none 0 0))
def zo2 (w wi:World) (l:List Nat) (E n N:Nat) (lim:Int) (V:Value) (k:Nat) (res:RR Vec):Except (Nat×Nat) Nat→Prop
 | .ok q=>∃v,v.length=k∧q≤n∧q≤E∧LtV v∧v.length≤q∧OwnV wi w.heap.size V v∧y8 (zb l E) E lim (N - k) v q=res
 | .error x=>res=.error x
set_option maxRecDepth 20000 in
theorem zym {w:World} {g n cap E q:Nat} {a:Option Addr} {l:List Nat} {L:za} (hB:∀W,w.grownBy W (some g)→Rf W a n cap E l) (h:CurM w g (.slice a n cap) E (.ok q)) (hq:q≤n) (hqE:q≤E) (hn6:n≤1000000) (hL:LimsI L):
 Calls Tryz.prog 96 #[.pointer (some ⟨g,0,none⟩),lmV L] w (zar w g (.slice a n cap) E (jb (zb l E) E L.2.2.1 L.2.2.2.1 q)):=by
 have hg:=CurM.lt h;have Hlt:=hid (hB w (y7 _ _)).b.lt;have Hbl:=hid (hB w (y7 _ _)).b.len;have HEb:=hid (hB w (y7 _ _)).E;obtain⟨w0,hw0⟩:∃w0,w0=w.alloc (.cells #[.int .i64 L.1,.int .i64 L.2.1,.int .i64 L.2.2.1,.int .i64 L.2.2.2.1,.int .i64 L.2.2.2.2] 24):=⟨_,rfl⟩;have hb0:Below w.heap.size w w0:=by rw[hw0];exact(Below.refl _ _).alloc (Nat.le_refl _) _
 have HL0:=hid (show Row w0 w.heap.size 24 [.int .i64 L.1,.int .i64 L.2.1,.int .i64 L.2.2.1,.int .i64 L.2.2.2.1,.int .i64 L.2.2.2.2] from by rw[hw0];exact yo w _ _);have HG0:=hid (show w.grownBy w0 (some g) from ym (y7 _ _) hb0);have hC0:=CurM.later h hb0;have HCt:=hid (zf4 (hB _ HG0.out) hC0 hq hqE hL.c);have HC0:=hid hC0;have HB:=hid hB;have HLi:=hid hL;have HnL:=hid (show some w.heap.size≠some g from by intro e;injection e;omega);have Hw0:=hid hw0;have c1:=Row.cell hC0 1 rfl;have l2:=HL0.out.cell 2 rfl;rw[hw0] at c1 l2;clear hw0 hB h hb0 hg hC0 hL;unfold lmV;go_enter Tryz.func96,Tryz.ntmps96;go_wp2_with fail;clear c1 l2;rw[←Hw0.out];refine HCt.out.mono ?_;rintro e w1 hres;unfold zr at hres;obtain⟨hg1,hres⟩:=hres;have HG1:=hid (zg HG0.out hg1);have HL1:=hid (HL0.out.grown hg1 HnL.out);clear hg1
 cases hct:zv (zb l E) E L.2.2.1 q with
 | error ex=>
  rw[hct] at hres;obtain⟨hC1,rfl⟩:=hres;have Hr:=hid (show jb (zb l E) E L.2.2.1 L.2.2.2.1 q=.error ex from by unfold jb;rw[hct];rfl);have HC1:=hid hC1;clear hC1 hct;go_wp2_with fail;refine(zf3 (c:=9) (p:=q) HC1.out).mono ?_;rintro e wz ⟨rfl,rfl⟩;go_wp2;go_loopw [7,8] (fun y i wi=>i=.int .i64 0∧y=.slice none 0 0∧wi=w1) (fun _ _ _=>0)
  case atStart=>exact⟨rfl,rfl,rfl⟩
  case round=>
   obtain⟨rfl,rfl,rfl⟩:=hrel;go_wp2_with fail;refine(jg HC1.out).mono ?_;rintro e wz ⟨rfl,rfl⟩;go_wp2_with fail;go_ret;show zar _ _ _ _ _ _ _;unfold zar zr;rw[Hr.out]
   exact⟨HG1.out,HC1.out,rfl⟩
 | ok y=>
  obtain⟨N,q1⟩:=y;rw[hct] at hres;obtain⟨hC1,rfl⟩:=hres;have hqq:=zdk Hlt.out hct;rw[Hbl.out] at hqq;have HC1:=hid hC1;rcases Nat.eq_zero_or_pos N with h0 | h0
  · have Hr:=hid (show jb (zb l E) E L.2.2.1 L.2.2.2.1 q=.error (9,q) from by unfold jb;rw[hct,h0];rfl);subst h0;clear hC1 hct hqq;rw[show ((0:Nat):Int)=0 from rfl];go_wp2_with fail;refine(k9 (c:=9) (p:=q) HC1.out (by decide)).mono ?_;rintro e w2 ⟨rfl,hg2,hC2⟩;have HG2:=hid (zg HG1.out hg2);have HC2:=hid hC2;clear hg2 hC2;go_wp2;go_loopw [7,8] (fun y i wi=>i=.int .i64 0∧y=.slice none 0 0∧wi=w2) (fun _ _ _=>0)
    case atStart=>exact⟨rfl,rfl,rfl⟩
    case round=>
     obtain⟨rfl,rfl,rfl⟩:=hrel;go_wp2_with fail;refine(jg HC2.out).mono ?_;rintro e wz ⟨rfl,rfl⟩;go_wp2_with fail;go_ret;show zar _ _ _ _ _ _ _;unfold zar zr;rw[Hr.out];exact⟨HG2.out,HC2.out,rfl⟩
  · have hz:((N:Int) == 0)=false:=by rw[beq_eq_false_iff_ne];omega
    obtain⟨res,hres⟩:∃res,y8 (zb l E) E L.2.2.2.1 N [] q1=res:=⟨_,rfl⟩;have hen:jb (zb l E) E L.2.2.1 L.2.2.2.1 q=res:=by unfold jb;rw[hct,zt,if_neg (by omega),hres]
    have Hr:=hid hen;have hN:N≤4000000000000000000:=Nat.le_trans hqq.2.2 HEb.out;have Hq1:=hid (show q1≤n∧q1≤E from⟨hqq.1,hqq.2.1⟩);have Hres:=hid (show y8 (zb l E) E L.2.2.2.1 (N - 0) [] q1=res from hres);clear hC1 hct hqq hres hen;go_wp2;go_loopw [7,8] (fun y i wi=>∃(k:Nat) (V:Value) (cs:Except (Nat×Nat) Nat),k≤N∧i=.int .i64 k∧y=V∧Hid (w.grownBy wi (some g))∧Hid (Row wi w.heap.size 24 [.int .i64 L.1,.int .i64 L.2.1,.int .i64 L.2.2.1,.int .i64 L.2.2.2.1,.int .i64 L.2.2.2.2])∧Hid (CurM wi g (.slice a n cap) E cs)∧Hid (zo2 w wi l E n N L.2.2.2.1 V k res cs)) (fun _ i _=>N - (intOf i).toNat)
    case atStart=>exact⟨0,.slice none 0 0,.ok q1,by omega,rfl,rfl,HG1.out,HL1.out,HC1.out,[],rfl,Hq1.out.1,Hq1.out.2,(fun e he=>(by cases he)),Nat.zero_le _,zj3 _ _,Hres.out⟩
    case round=>
     obtain⟨k,V,cs,hk,rfl,rfl,hGr,hLm,hC,hI⟩:=hrel;by_cases hkN:k<N
     · have hd:decide ((k:Int)<(N:Int))=true:=by rw[decide_eq_true_iff];omega
       have hd':decide (k<N)=true:=by rw[decide_eq_true_iff];omega
       cases cs with
       | error ex=>
        have Hr2:=hid (Hr.out.trans hI.out);go_wp2_with fail;refine(jg hC.out).mono ?_;rintro e wz ⟨rfl,rfl⟩;go_wp2_with fail;refine(jg hC.out).mono ?_;rintro e wz ⟨rfl,rfl⟩;go_wp2_with fail;go_ret;show zar _ _ _ _ _ _ _;unfold zar zr;rw[Hr2.out]
        exact⟨hGr.out,hC.out,rfl⟩
       | ok q4=>
        obtain⟨v,e1,j1,j2,j3,j4,j5,j6⟩:=hI.out;have HV:=hid j5;have Hj:=hid (And.intro j1 (And.intro j2 (And.intro j3 (And.intro e1 j4))));have Hst:=hid (show thn (qr (zb l E) E L.2.2.2.1 v q4) (fun e q=>y8 (zb l E) E L.2.2.2.1 (N - (k+1)) (v++[e]) q)=res from by rw[←j6,show N - k=(N - (k+1))+1 by omega];rfl);obtain⟨av,cv,rfl,hE⟩:=j5.ents j3;have l0:=hLm.out.cell 0 rfl;have l1:=hLm.out.cell 1 rfl;have l2:=hLm.out.cell 2 rfl;have l3:=hLm.out.cell 3 rfl;have l4:=hLm.out.cell 4 rfl;have HEn:=hid (fun fst bf hv hbf=>zyk (v:=v) (fst:=fst) (bf:=bf) (Rf.keep HB.out hGr.out) hC.out j1 j2 hn6 hv hbf HLi.out);rcases Nat.eq_zero_or_pos k with hk0 | hk0
        case' inl=>
         have hz0:decide (0<(k:Int))=false:=by rw[decide_eq_false_iff_not];omega
         have hz1:((k:Int) == 0)=true:=by rw[beq_iff_eq];omega
         have HEr:=hid (HEn.out true 0 (.inl ⟨List.length_eq_zero_iff.1 (e1.trans hk0),rfl⟩) (by decide));clear hE
        case' inr=>
         have hz0:decide (0<(k:Int))=true:=by rw[decide_eq_true_iff];omega
         have hz1:((k:Int) == 0)=false:=by rw[beq_eq_false_iff_ne];omega
         have hge:v.getLast?=some (zi v (k - 1)):=by rw[List.getLast?_eq_getElem?,e1,List.getElem?_eq_getElem (by omega),vz (by omega)]
         have hbf:(zi v (k - 1)).1<18446744073709551616:=(j3 _ (zc3 (by omega))).1;have HEr:=hid (HEn.out false (zi v (k - 1)).1 (.inr ⟨_,hge,rfl,rfl⟩) hbf);obtain⟨bb,oo,rfl,hcells⟩:=hE.cells (by omega);have hcell:=(hcells (k - 1) (by omega)).1;have hsub:IntKind.i64.wrap ((k:Int) - 1)=((k - 1:Nat):Int):=by rw[IntKind.wrap_i64];omega
         have h1:(0:Int)≤((k - 1:Nat):Int):=by omega
         have h2:((k - 1:Nat):Int)<(v.length:Int):=by omega
         clear hE hge hbf hcells;generalize zi v (k - 1)=en at*;generalize k - 1=km at*
        all_goals
         clear e1 j1 j2 j3 j4 j5 j6 HEn;go_wp2_with fail;refine(jz hC.out).mono ?_;rintro e wz ⟨rfl,rfl⟩;go_wp2_with fail;refine HEr.out.mono ?_;rintro e w2 hres;unfold j0 zr at hres;obtain⟨hg2,hres⟩:=hres;have HG2:=hid (zg hGr.out hg2);have HL2:=hid (hLm.out.grown hg2 HnL.out);have HV2:=hid (HV.out.grown (CurM.notT hC.out) hg2)
         cases hep:qr (zb l E) E L.2.2.2.1 v q4 with
         | error ex=>
          rw[hep] at hres;obtain⟨hC2,x,y,ax,nx,cx,rfl⟩:=hres;have Hnew:=hid (show res=.error ex from by rw[←Hst.out,hep];rfl);have hal:=(Below.refl w2.heap.size w2).alloc (Nat.le_refl _) (.cells #[.int .u64 x,.int .u64 y,.slice ax nx cx] 93);have hV3:=HV2.out.below hal;obtain⟨V',w4,hrun,hg4,hk4⟩:=hV3.junk (some ⟨w2.heap.size,0,none⟩) 1 (zbg _ _ _ 1 _ rfl rfl) (by have:=Hj.out;omega) (by have:=(HG2.out).size;simp only[World.size_alloc];omega);have HG4:=hid (zbb (ym HG2.out hal) hg4 hk4);have HL4:=hid ((HL2.out.later hal).grown hg4 (hV3.row (HL2.out.later hal) (by decide)));have HC4:=hid ((CurM.later hC2 hal).grown hg4 (hV3.ne (CurM.later hC2 hal)));clear hg2 hep hal hV3 hg4 hk4 hC2;go_wp2_with (at_builtin;refine yv _ _ 95 rfl rfl _ _ rfl rfl _ _ hrun ?_);clear hrun;go_roundw
          case rel=>exact⟨k+1,_,.error ex,by omega,by go_num,rfl,HG4.out,HL4.out,HC4.out,Hnew.out⟩
          case measure=>simp[intOf];omega
         | ok y=>
          obtain⟨⟨r,m,hs⟩,q5⟩:=y;rw[hep] at hres;obtain⟨hC2,S,rfl,hS,hls,hr64,hm64⟩:=hres;simp only[] at hS hls hr64 hm64;have hw:=zo1 Hlt.out hep;rw[Hbl.out] at hw;have hal:=(Below.refl w2.heap.size w2).alloc (Nat.le_refl _) (.cells #[.int .u64 r,.int .u64 m,S] 93);have hV3:=HV2.out.below hal;have hS3:=yj (w':=w2.alloc (.cells #[.int .u64 r,.int .u64 m,S] 93)) hS fun k hk=>Below.heap_alloc _ _ _ (hS.lt k hk).2
          obtain⟨V',w4,hrun,hV4,hg4,hk4⟩:=hV3.add hS3 hls (some ⟨w2.heap.size,0,none⟩) 1 (zbg _ _ _ 1 _ rfl rfl) (by have:=Hj.out;omega) (by have:=(HG2.out).size;simp only[World.size_alloc];omega);have HG4:=hid (zbb (ym HG2.out hal) hg4 hk4);have HL4:=hid ((HL2.out.later hal).grown hg4 (hV3.row (HL2.out.later hal) (by decide)));have HC4:=hid ((CurM.later hC2 hal).grown hg4 (hV3.ne (CurM.later hC2 hal)))
          have Hnew:=hid (show zo2 w w4 l E n N L.2.2.2.1 V' (k+1) res (.ok q5) from⟨v++[(r,m,hs)],by rw[List.length_append,Hj.out.2.2.2.1];rfl,hw.2.1,hw.2.2,fun t ht=>by
           rcases List.mem_append.1 ht with h | h
           · exact Hj.out.2.2.1 t h
           · rw[List.mem_singleton] at h;subst h;exact⟨hr64,hm64,hls⟩,by have:=Hj.out;simp;omega,hV4,by rw[←Hst.out,hep,zt]⟩)
          obtain⟨a4,c4,rfl⟩:=hV4.slice;obtain⟨a6,c6,rfl⟩:=jm hS;clear hg2 hep hal hV3 hg4 hk4 hC2 hS hls hr64 hm64 hw hS3 hV4;generalize (v++[(r,m,hs)]).length=n4 at*;go_wp2_with (at_builtin;refine yv _ _ 95 rfl rfl _ _ rfl rfl _ _ hrun ?_);clear hrun;go_roundw
          case rel=>exact⟨k+1,_,.ok q5,by omega,by go_num,rfl,HG4.out,HL4.out,HC4.out,Hnew.out⟩
          case measure=>simp[intOf];omega
     · obtain rfl:k=N:=by omega
       have hd:decide ((k:Int)<(k:Int))=false:=by rw[decide_eq_false_iff_not];omega
       cases cs with
       | error ex=>
        have Hr2:=hid (Hr.out.trans hI.out);go_wp2_with fail;refine(jg hC.out).mono ?_;rintro e wz ⟨rfl,rfl⟩;go_wp2_with fail;go_ret;show zar _ _ _ _ _ _ _;unfold zar zr;rw[Hr2.out]
        exact⟨hGr.out,hC.out,rfl⟩
       | ok q4=>
        obtain⟨v,e1,j1,j2,j3,j4,j5,j6⟩:=hI.out;have Hr2:=hid (show jb (zb l E) E L.2.2.1 L.2.2.2.1 q=.ok (v,q4) from by rw[Hr.out,←j6,Nat.sub_self];rfl);have Hv:=hid (And.intro j5 j3);clear e1 j1 j2 j3 j4 j5 j6;go_wp2_with fail;refine(jz hC.out).mono ?_;rintro e wz ⟨rfl,rfl⟩;go_wp2_with fail;go_ret;show zar _ _ _ _ _ _ _;unfold zar zr;rw[Hr2.out];exact⟨hGr.out,hC.out,_,rfl,Hv.out.1,Hv.out.2⟩
theorem zyn {l:List Nat} {E m:Nat} (hl:∀c∈l,c<256):∀(N:Nat) (acc:List Iv) (q:Nat) {h:List Iv} {q2:Nat},qa (zb l E) m N acc q=.ok (h,q2)→q+2*h.length≤q2+2*acc.length:=by
 intro N
 induction N with
 | zero=>intro acc q h q2 e;cases e;exact Nat.le_refl _
 | succ N ih=>
  intro acc q h q2 e;unfold qa at e
  cases hi:ivP (zb l E) (zp acc) 1 q with
  | error x=>rw[hi] at e;cases e
  | ok y=>
   obtain⟨⟨s,wh⟩,q3⟩:=y;rw[hi,zt] at e;obtain⟨a1,-⟩:=zf5 hl hi;unfold kq at e;split at e
   · cases e
   · have:=ih _ _ e;rw[List.length_append,List.length_singleton] at this;omega
theorem zyo {l:List Nat} {E q q2:Nat} {lim:Int} {v:Vec} {y:Ent} (hl:∀c∈l,c<256) (h:qr (zb l E) E lim v q=.ok (y,q2)):q+3+2*y.2.2.length≤q2:=by
 unfold qr nmP at h
 cases hT:zb l E q with
 | error c=>rw[hT] at h;cases h
 | ok z=>
  obtain⟨x,q1⟩:=z;obtain⟨t1,-⟩:=ve hl hT;simp only[hT,thn] at h;split at h
  · cases h
  · unfold zao nmP at h;rename_i r _
    cases hT2:zb l E q1 with
    | error c=>simp only[hT2,thn] at h;cases h
    | ok z2=>
     obtain⟨mx,q3⟩:=z2;obtain⟨u1,-⟩:=ve hl hT2;simp only[hT2,thn] at h;unfold za0 at h
     cases hc:zv (zb l E) E lim q3 with
     | error c=>rw[hc] at h;cases h
     | ok z3=>
      obtain⟨n,q4⟩:=z3;rw[hc,zt] at h
      cases hh:qa (zb l E) mx n [] q4 with
      | error c=>rw[hh] at h;cases h
      | ok z4=>
       obtain⟨hs,q5⟩:=z4;rw[hh,zt] at h;cases h;have:=zyn hl n [] q4 hh;have:=zf7 hl hc;simp only[List.length_nil] at*;omega
theorem zyp {l:List Nat} {E:Nat} {lim:Int} (hl:∀c∈l,c<256):∀(N:Nat) (v:Vec) (q:Nat) {u:Vec} {q2:Nat},y8 (zb l E) E lim N v q=.ok (u,q2)→q≤l.length→q≤E→q+(u.flatMap qy).length≤q2+(v.flatMap qy).length∧q2≤l.length∧q2≤E∧(u=[]→v=[]):=by
 intro N
 induction N with
 | zero=>intro v q u q2 e h1 h2;cases e;exact⟨Nat.le_refl _,h1,h2,fun h=>h⟩
 | succ N ih=>
  intro v q u q2 e h1 h2;unfold y8 at e
  cases hi:qr (zb l E) E lim v q with
  | error x=>rw[hi] at e;cases e
  | ok y=>
   obtain⟨y,q3⟩:=y;rw[hi,zt] at e;obtain⟨a1,a2,a3⟩:=zo1 hl hi;have b:=zyo hl hi;obtain⟨c1,c2,c3,c4⟩:=ih _ _ e a2 a3;rw[List.flatMap_append,List.length_append,List.flatMap_singleton,zd3] at c1;exact⟨by omega,c2,c3,fun h=>by have:=c4 h;simp at this⟩
theorem zyq {l:List Nat} {E q q2:Nat} {le lh:Int} {v:Vec} (hl:∀c∈l,c<256) (h:jb (zb l E) E le lh q=.ok (v,q2)):q+(zh v).length≤q2∧q2≤l.length∧q2≤E:=by
 unfold jb at h
 cases hc:zv (zb l E) E le q with
 | error c=>rw[hc] at h;cases h
 | ok z=>
  obtain⟨n,q1⟩:=z;rw[hc,zt] at h;obtain⟨b1,b2,-⟩:=zdk hl hc;have b3:=zf7 hl hc;split at h
  · cases h
  · obtain⟨c1,c2,c3,-⟩:=zyp hl _ _ _ h b1 b2;refine⟨?_,c2,c3⟩;unfold zh;rw[List.length_cons];simp only[List.flatMap_nil,List.length_nil] at c1;omega
theorem KV.segB {w:World} {base:Nat} {K:Value} {vs:List Vec} (h:KV w base K vs) (hb:base≤w.heap.size):SegB w w base K vs [] [] (.slice none 0 0) []:=by
 obtain⟨Y,h1,h2⟩:=h;exact⟨zbl,Y,hb,⟨Nat.le_refl _,fun _ _ _=>rfl⟩,h2,h1,fun i hi=>World.ownsRow_nil _ _ _ _,(fun i hi j hj _ b hb=>by simp[zbl,Value.ownBlock] at hb),World.ownsRow_nil _ _ _ _,fun i hi b hb=>by simp[zbl,Value.ownBlock] at hb⟩
end
section
theorem zo3 (l:List Nat) (p:Nat) (most:Int):vq l p most=match yu l p most with | .error e=>(0,0,some ((e.1:Int),some (e.2:Int))) | .ok y=>(y.1,y.2,none):=by
 unfold vq yu
 cases ji l p with
 | some e=>rfl
 | none=>
  simp only;generalize zj (l.drop (p+5)) 0 0=s;obtain⟨a,x,j⟩:=s;rcases a with _ | _ | _ | a
  · rfl
  · simp only;split <;> rfl
  · rfl
  · rfl
theorem zo4 {l:List Nat} {L:za}:∀{ks:List Kno} {es:List Nat} {p q:Nat},ku l L ks es p q→ks.length=es.length
 | [],[],p,q,h=>rfl
 | k' :: ks,e :: es,p,q,h=>by rw[List.length_cons,List.length_cons,zo4 h.2]
 | [],_ :: _,_,_,h=>h.elim
 | _ :: _,[],_,_,h=>h.elim
theorem zo5 {l:List Nat} {L:za} {e:Nat×Nat}:∀{ks ks':List Kno} {es es':List Nat} {p q q':Nat},ku l L ks es p q→ku l L ks' es' p q'→qg l L q'=.error e→∃ms fs,ks'=ks++ms∧es'=es++fs∧ku l L ms fs q q'
 | [],ks',[],es',p,q,q',h,h',h1=>by
   have h:p=q:=h;subst h
   exact⟨ks',es',rfl,rfl,h'⟩
 | k :: ks,[],x :: es,[],p,q,q',h,h',h1=>by
   have h':p=q':=h';subst h';rw[h.1] at h1
   cases h1
 | k :: ks,k' :: ks',x :: es,x' :: es',p,q,q',h,h',h1=>by
   have e1:=h.1.symm.trans h'.1;injection e1 with e1;injection e1 with e1 e2;subst e1 e2;obtain⟨ms,fs,a,b,c⟩:=zo5 h.2 h'.2 h1
   exact⟨ms,fs,by rw[a];rfl,by rw[b];rfl,c⟩
 | [],_,_ :: _,_,_,_,_,h,_,_=>h.elim
 | _ :: _,_,[],_,_,_,_,h,_,_=>h.elim
 | _ :: _,[],_ :: _,_ :: _,_,_,_,_,h,_=>h.elim
 | _ :: _,_ :: _,_ :: _,[],_,_,_,_,h,_=>h.elim
theorem zii {l:List Nat} {L:za} {ks ks':List Kno} {es es':List Nat} {e e':Nat×Nat} (h:vy l L ks es e) (h':vy l L ks' es' e'):ks'=ks∧es'=es∧e'=e:=by
 obtain⟨q,a,b⟩:=h;obtain⟨q',a',b'⟩:=h';obtain⟨ms,fs,e1,e2,c⟩:=zo5 a a' b'
 cases ms with
 | nil=>
  cases fs with
  | nil=>
   have c:q=q':=c;subst c;rw[b] at b';injection b' with b'
   exact⟨by rw[e1,List.append_nil],by rw[e2,List.append_nil],b'.symm⟩
  | cons _ _=>exact c.elim
 | cons m ms=>
  cases fs with
  | nil=>exact c.elim
  | cons f fs=>
   have:=c.1;rw[b] at this;cases this
theorem zyr {l:List Nat} {p i:Nat} {e:Nat×Nat} (h:j7 l p i=some e):(e=(5,p))∨(e=(if i=4 then 13 else 12,p+i)∧p+i<l.length):=by
 unfold j7 at h;split at h
 · injection h with h;exact .inl h.symm
 · split at h
   · cases h
   · injection h with h;exact .inr ⟨h.symm,by omega⟩
theorem zys {l:List Nat} {p:Nat} {most:Int} {e:Nat×Nat} (h:yu l p most=.error e):(e=(5,p))∨(e.1=6∧e.2=p+5)∨(e.1=7∧e.2=p+5)∨((e.1=12∨e.1=13)∧e.2<l.length):=by
 unfold yu at h
 cases hb:ji l p with
 | some x=>
  rw[hb] at h;injection h with h;subst h;unfold ji at hb;obtain⟨i,-,hi⟩:=List.exists_of_findSome?_eq_some hb;rcases zyr hi with rfl | ⟨rfl,h2⟩
  · exact .inl rfl
  · exact .inr (.inr (.inr ⟨by simp only;split <;> simp,h2⟩))
 | none=>
  rw[hb] at h;simp only at h;split at h
  · split at h
    · injection h with h;subst h;exact .inr (.inr (.inl ⟨rfl,rfl⟩))
    · cases h
  · injection h with h;subst h;exact .inr (.inl ⟨rfl,rfl⟩)
  · injection h with h;subst h;exact .inl rfl
theorem zo6 {l:List Nat} (hl:∀c∈l,c<256) {L:za} {p q:Nat} {k:Kno} (h:qg l L p=.ok (k,q)):p+10≤q∧q≤l.length:=by
 unfold qg at h
 cases hh:yu l p L.1 with
 | error e=>rw[hh] at h;simp only at h;split at h <;> cases h
 | ok y=>
  obtain⟨s,n⟩:=y;rw[hh] at h;simp only at h;have:=zb7 hl hh;split at h
  · split at h <;> cases h
  · split at h
    · cases h
    · split at h
      · injection h with h;injection h with h1 h2;omega
      · cases h
theorem zyt {l:List Nat} (u:List Nat) {L:za} {ks:List Kno} {es:List Nat} {e:Nat×Nat} (h:vy l L ks es e) (he:e.1≠0):vy (l++u) L ks es e:=by
 obtain⟨q,a,b⟩:=h;refine⟨q,zei u a,?_⟩;rcases znt l u L q with h1 | h1
 · rw[b] at h1;injection h1 with h1;rw[h1] at he;exact absurd rfl he
 · rw[h1];exact b
theorem zo7 {l:List Nat} (hl:∀c∈l,c<256) {L:za}:∀{ks:List Kno} {es:List Nat} {p q:Nat},ku l L ks es p q→p+10*ks.length≤q∧(p≤l.length→q≤l.length)
 | [],[],p,q,h=>by have h:p=q:=h;subst h;exact⟨Nat.le_refl _,fun h=>h⟩
 | k :: ks,e :: es,p,q,h=>by
   have h1:=zo6 hl h.1;have h2:=zo7 hl h.2;rw[List.length_cons]
   exact⟨by omega,fun _=>h2.2 h1.2⟩
 | [],_ :: _,_,_,h=>h.elim
 | _ :: _,[],_,_,h=>h.elim
