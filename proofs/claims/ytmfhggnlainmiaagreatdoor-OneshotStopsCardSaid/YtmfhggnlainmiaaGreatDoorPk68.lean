/- Part 68. -/
import Derived.Test.YtmfhggnlainmiaaGreatDoorPk67
import Derived.Test.YtmfhggnlainmiaaGreatDoorPk54
import Derived.Test.YtmfhggnlainmiaaGreatDoorPk65
import Derived.Test.YtmfhggnlainmiaaGreatDoorPk60
import Derived.Test.YtmfhggnlainmiaaGreatDoorPk20
set_option linter.unusedVariables false
set_option maxHeartbeats 16000000
namespace Go.Proofs.YtmfhggnlainmiaaGreatDoor
open Lib (hid)
section
open Go.RowKit
theorem yjl {v:Vec} {k:Nat} (h:k<v.length):kh (v.take (k+1))=kh (v.take k)++(zdo (zg v k)).toList:=by
 unfold kh;rw[List.take_succ_eq_append_getElem h,List.filterMap_append,j0 h];simp only[List.filterMap_cons,List.filterMap_nil];cases zdo v[k] <;> rfl
theorem yjm (v:Vec):(kh v).length≤v.length:=List.length_filterMap_le _ _
set_option maxRecDepth 20000 in
theorem yjn (a:Option Addr) (n cap:Nat) (v:Vec) (w:World) (hE:Ents w a n cap v) (hF:VecFits v):
 Calls Tryz.prog 152 #[.slice a n cap] w fun x w'=>(∃y,x=.returned y∧OwnV w' w.heap.size y (kh v))∧Below w.heap.size w w':=by
 have HE:=hid hE;have HF:=hid hF;have Hl:=hid hE.len;have hm:n≤9223372036854775807:=Nat.le_trans hE.room hE.most;have hn3:n≤340:=by rw[←hE.len];exact hF.len
 clear hE hF;go_enter Tryz.func152,Tryz.ntmps152;go_wp2;go_loopw [3,4,5,6] (fun y i _ _ wr=>∃k:Nat,k≤n∧i=.int .i64 k∧Below w.heap.size w wr∧Hid (OwnV wr w.heap.size y (kh (v.take k)))) (fun _ i _ _ _=>n - (intOf i).toNat)
 case atStart=>exact⟨0,by omega,rfl,Below.refl _ _,by rw[List.take_zero];exact zjz _ _⟩
 case round=>
  obtain⟨k,hk,rfl,hb,ho⟩:=hrel;have Hb:=hid hb;clear hb;by_cases hkn:k<n
  · have hkv:k<v.length:=by rw[Hl.out];exact hkn
    have HEr:=hid (HE.out.below Hb.out);obtain⟨bb,oo,rfl⟩:=HEr.out.some (by omega);have Hlt:=hid (HE.out.lt (zg v k) (vq hkv));have Hho:=hid (HF.out.holes (zg v k) (vq hkv));have Hst:=hid (yjl hkv)
    have HoL:=hid (show (kh (v.take k)).length≤340 from by
     have:=yjm (v.take k);rw[List.length_take] at this;omega)
    obtain⟨x,m,c,hq⟩:=HEr.out.fix hkn;obtain⟨q1,q2,q3,q4⟩:=hq _ (Below.refl _ _);have hC:=hid (yji (zg v k) x m c wr q4 Hlt.out.max (by have:=Hho.out;omega));have Hfl:=hid (fun f (hf:zdo (zg v k)=some f)=>(zia Hlt.out hf).2.2.1);generalize zg v k=e at*;have h0:(0:Int)≤k:=by omega
    have h04:(k:Int)<(n:Int):=by omega
    obtain⟨er,em,eh⟩:=e;simp only at q1 q2 q3;clear q4 hq;generalize kh (v.take k)=T at*
    cases h:zdo (er,em,eh) with
    | none=>
     rw[h] at hC Hst;simp only[zfg,Option.toList,List.append_nil] at hC Hst;clear h Hfl;go_wp2_with fail;refine hC.out.mono ?_;rintro z w1 ⟨rfl,hb1⟩;have Hb1:=hid (Hb.out.trans (hb1.mono Hb.out.size));have Ho1:=hid (ho.out.below hb1);clear hb1;go_wp2;go_roundw
     case rel=>
      have hal:Below w1.heap.size w1 (w1.alloc (.cells #[.int .u64 0,.int .u64 0,.slice none 0 0] 137)):=(Below.refl _ _).alloc (Nat.le_refl _) _;exact⟨k+1,by omega,by go_num,Hb1.out.trans (hal.mono Hb1.out.size),by rw[Hst.out];exact Ho1.out.below hal⟩
     case measure=>simp[intOf];omega
    | some f=>
     have Hfl:=hid (Hfl.out f h);rw[h] at hC Hst;simp only[Option.toList] at Hst;clear h;obtain⟨fr,fm,fh⟩:=f;go_wp2_with fail;refine hC.out.mono ?_;rintro z w1 ⟨hz,hb1⟩;obtain⟨sa,sc,rfl,hs⟩:=z3a hz Hfl.out.holes;simp only at hs;have Hs:=hid (hs 0);have Hb1:=hid (Hb.out.trans (hb1.mono Hb.out.size));have Ho1:=hid (ho.out.below hb1);clear hb1 hs hz
     have hal:Below w1.heap.size w1 ((w1.alloc (.cells #[.int .u64 fr,.int .u64 fm,.slice sa fh.length sc] 137)).alloc (.cells #[.int .u64 fr,.int .u64 fm,.slice sa fh.length sc] 137)):=
      ((Below.refl w1.heap.size w1).alloc (Nat.le_refl _) _).alloc (by simp) _
     have Hal:=hid hal;clear hal;go_wp2_with (at_builtin;refine zuq rfl (.tmp 22) (.tmp 24) rfl rfl w.heap.size _ T rfl (Ho1.out.below Hal.out) _ 1 (fr,fm,fh) sa fh.length sc (Hs.out.steady (P:=fun _=>True) (.of_below Hal.out) trivial) rfl (yq (zh _ _ _ (by simp)) rfl rfl) (by have:=HoL.out;omega) (by have:=Hb1.out.size;simp;omega) ?_;intro v' w7 ho7 hg7 _);have Hb7:=hid (Below.grown (Hb1.out.trans (Hal.out.mono Hb1.out.size)) hg7 (by have:=Hb1.out.size;have:=Hal.out.size;omega) (fun k hk=>(Ho1.out.lt k hk).1));go_roundw
     case rel=>exact⟨k+1,by omega,by go_num,Hb7.out,by rw[Hst.out];exact ho7⟩
     case measure=>simp[intOf];omega
  · obtain rfl:k=n:=by omega
    have Ho:=hid ho.out;rw[show kh (v.take k)=kh v from by rw[List.take_of_length_le (by rw[Hl.out];exact Nat.le_refl _)]] at Ho;go_wp2;go_ret;exact⟨⟨_,rfl,Ho.out⟩,Hb.out⟩
set_option maxRecDepth 20000 in
theorem yjo (a:Option Addr) (n cap:Nat) (k:Kno) (w:World) (hE:Frags w a n cap k) (hL:LtK k) (hn:n≤500) (hA:(jk (k.map (·.1))).length≤2000):
 Calls Tryz.prog 154 #[.slice a n cap] w fun x w'=>zef w.heap.size (zai k) x w'∧Below w.heap.size w w':=by
 have HE:=hid hE;have hC:=hid (yjd a n cap k w hE hL hn hA);have Hall:=hid (zmt k);have Hsa:=hid (zg5 k);have Hlt:=hid (zus hL);have HLn:=hid (Nat.le_trans (z4d k) hA);clear hE hL hA;go_enter Tryz.func154,Tryz.ntmps154;go_wp2_with fail;refine hC.out.mono ?_;rintro e w1 ⟨⟨v,rfl,ho⟩,hb1⟩;have Hb1:=hid hb1;obtain⟨aU,cU,rfl,hU⟩:=zcx ho Hlt.out;have HU:=hid hU;clear hb1 ho hU hC;obtain⟨N,hN⟩:∃N,N=(yb k).length:=⟨_,rfl⟩;have HN:=hid hN;rw[←hN] at HU HLn Hall ⊢;clear hN;have hN2:N≤2000:=HLn.out;go_wp2;go_loopw [4,5] (fun y i wr=>∃d:Nat,d≤N∧i=.int .i64 d∧Below w1.heap.size w1 wr∧Hid (wr.ownsRow w1.heap.size 135 2 y (zdp k d).length (ivC (zdp k d)))) (fun _ i _=>N - (intOf i).toNat)
 case atStart=>exact⟨0,by omega,rfl,Below.refl _ _,World.ownsRow_nil _ _ _ _⟩
 case round=>
  obtain⟨d,hd,rfl,hb,ho⟩:=hrel;have Hb:=hid hb;clear hb;have Hbw:=hid (Hb1.out.trans (Hb.out.mono Hb1.out.size));by_cases hdN:d<N
  · have HUr:=hid (HU.out.below Hb.out);have hcl:=HUr.out.room
    have hP:=hid (fun w' (h:Below wr.heap.size wr w')=>z34 aU N cU d (yb k) w' (HUr.out.below h) hdN (by omega) (fun h2=>by
     have:=zev Hsa.out (i:=d) (j:=d+1) (by omega) (by rw[←HN.out];exact h2);omega))
    obtain⟨bS,oS,rfl,hcS⟩:=HUr.out.cells (by omega);have q1:=hcS d hdN;have Hst:=hid (z3r (k:=k) (d:=d) (by rw[←HN.out];exact hdN));have Hpl:=hid (zmu k d);rw[←HN.out] at Hpl;have hD:=hid (yjk a n cap (nth (yb k) d) k wr (HE.out.below Hbw.out) hn);have Hin:=hid (show inK k (nth (yb k) d)=decide (zx k (nth (yb k) d)≠[]) from rfl);clear hcS;generalize zdp k d=P0 at*;generalize zct (yb k) d=p at*;generalize nth (yb k) d=x at*;generalize zx k x=M at*;have h0:(0:Int)≤d:=by omega
    have h04:(d:Int)<(N:Int):=by omega
    obtain⟨px,py⟩:=p;go_wp2_with fail;refine hD.out.mono ?_;rintro e w2 ⟨⟨y,rfl,ho2⟩,hb2⟩;have Hb2:=hid hb2;have Hb2w:=hid (Hb.out.trans (hb2.mono Hb.out.size));have Ho2:=hid (zm ho.out hb2);obtain⟨am,cm,rfl,-⟩:=yi0 ho2;clear ho2 hb2;by_cases hM:M=[]
    · have hd0:decide (0<(M.length:Int))=false:=by rw[hM];rfl
      have hd1:decide (0<M.length)=false:=by rw[hM];rfl
      rw[Hin.out,if_neg (by simpa using hM),List.append_nil] at Hst;clear hM Hin;go_wp2;go_roundw
      case rel=>exact⟨d+1,by omega,by go_num,Hb2w.out,by rw[Hst.out];exact Ho2.out⟩
      case measure=>simp[intOf];omega
    · have hMl:0<M.length:=List.length_pos_iff.2 hM;have hd0:decide (0<(M.length:Int))=true:=by rw[decide_eq_true_iff];omega
      have hd1:decide (0<M.length)=true:=by rw[decide_eq_true_iff];omega
      rw[Hin.out,if_pos (by simpa using hM)] at Hst;clear hM Hin;go_wp2_with fail;refine(hP.out _ Hb2.out).mono ?_;rintro e w3 ⟨rfl,hb3⟩;have Hb3:=hid (Hb2w.out.trans (hb3.mono Hb2w.out.size));have Ho3:=hid (zm Ho2.out hb3);clear hb3;go_wp2_with (at_builtin;refine zkt rfl (.tmp 22) (.tmp 26) rfl rfl w1.heap.size _ _ P0 rfl (Ho3.out.alloc _) _ 1 _ [(px,py)] rfl (yq (zh _ _ _ (by simp)) rfl rfl) (by have:=Hpl.out;omega) (by have:=Hb3.out.size;simp;omega) ?_;intro v' w8 ho8 hg8);have Hb8:=hid (Below.grown (B:=w1.heap.size) (Hb3.out.alloc Hb3.out.size _) hg8 (by have:=Hb3.out.size;simp;omega) (fun k hk=>(Ho3.out.lt k hk).1));go_roundw
      case rel=>exact⟨d+1,by omega,by go_num,Hb8.out,by rw[Hst.out,List.length_append];exact ho8⟩
      case measure=>simp[intOf];omega
  · obtain rfl:d=N:=by omega
    have Ho:=hid ho.out;rw[Hall.out] at Ho;go_wp2;go_ret;exact⟨⟨_,rfl,qt Ho.out Hb1.out.size⟩,Hbw.out⟩
set_option maxRecDepth 20000 in
theorem z40 (a:Option Addr) (n cap:Nat) (k:Kno) (w:World) (hE:Frags w a n cap k) (hL:LtK k) (hF:KnoFits k) (hA:(jk (k.map (·.1))).length≤2000):
 Calls Tryz.prog 99 #[.slice a n cap] w fun x w'=>(∃y,x=.returned y∧OwnK w' w.heap.size 0 y (jb k))∧Below w.heap.size w w':=by
 have HE:=hid hE;have HL:=hid hL;have HF:=hid hF;have hn:n≤500:=by rw[←hE.len];exact hF.len
 have hC:=hid (yjo a n cap k w hE hL hn hA);have Hall:=hid (z3m k);have HLn:=hid (Nat.le_trans (zkv k) hA)
 have hPl:zo (zai k):=fun s hs=>by
  have:=zms hL hs;exact⟨by omega,this.2.1⟩
 have HPl:=hid hPl;clear hE hL hF hA hPl;go_enter Tryz.func99,Tryz.ntmps99;go_wp2_with fail;refine hC.out.mono ?_;rintro e w1 ⟨⟨v,rfl,ho⟩,hb1⟩;have Hb1:=hid hb1;obtain⟨aU,cU,rfl,hU⟩:=za2 ho HPl.out;have HU:=hid hU;clear hb1 ho hU hC;obtain⟨N,hN⟩:∃N,N=(zai k).length:=⟨_,rfl⟩;have HN:=hid hN;rw[←hN] at HU HLn Hall ⊢;clear hN;have hN2:N≤2000:=HLn.out;go_wp2;go_loopw [4,5] (fun y i wr=>∃d:Nat,d≤N∧i=.int .i64 d∧Below w1.heap.size w1 wr∧Hid (OwnK wr w1.heap.size 0 y (zfi k d))) (fun _ i _=>N - (intOf i).toNat)
 case atStart=>exact⟨0,by omega,rfl,Below.refl _ _,zqa _ _ _⟩
 case round=>
  obtain⟨d,hd,rfl,hb,ho⟩:=hrel;have Hb:=hid hb;clear hb;have Hbw:=hid (Hb1.out.trans (Hb.out.mono Hb1.out.size));by_cases hdN:d<N
  · have hcl:=HU.out.room;obtain⟨bS,oS,rfl,hcS⟩:=HU.out.cells (by omega);obtain⟨q1,q2⟩:=hcS d hdN;have Hst:=hid (z3l (k:=k) (d:=d) (by rw[←HN.out];exact hdN));have Hpl:=hid (z3n k d);rw[←HN.out] at Hpl;have Hs:=hid (HPl.out _ (zbo (show d<(zai k).length by rw[←HN.out];exact hdN)));generalize zfi k d=R0 at*;generalize zb (zai k) d=s at*;obtain⟨sx,sy⟩:=s;simp only at q1 q2 Hst Hs;have r1:∀w',Below w1.heap.size wr w'→w'.cell? ⟨bS,oS+d*2,none⟩=some (.int .u64 sx):=fun w' h=>((Hb.out.trans h).cell (p:=⟨bS,oS+d*2,none⟩) (zf q1)).trans q1
    have r2:∀w',Below w1.heap.size wr w'→w'.cell? ⟨bS,oS+d*2+1,none⟩=some (.int .u64 sy):=fun w' h=>((Hb.out.trans h).cell (p:=⟨bS,oS+d*2+1,none⟩) (zf q2)).trans q2
    have hz0:w.heap.size≤w1.heap.size:=Hb1.out.size;have hz1:w1.heap.size≤wr.heap.size:=Hb.out.size;have hAt:=hid (fun w' (h:Below w1.heap.size wr w')=>yjj a n cap sx k w' (HE.out.below (Hbw.out.trans (h.mono hz0))) HL.out HF.out);have Hlv:=hid (zex HL.out sx).2.1;generalize atK k sx=V at*;have h0:(0:Int)≤d:=by omega
    have h04:(d:Int)<(N:Int):=by omega
    clear hcS q1 q2;go_wp2_with fail
    go_region_held3 (fun w'=>Below w1.heap.size wr w') (first | assumption | exact(Below.refl _ _).drew | exact Below.alloc (by assumption) (Nat.le_trans hz1 (Below.size (by assumption))) _) (first
     | (go_at_call 155
        refine(hAt.out _ (by assumption)).mono ?_;rintro e w4 ⟨⟨y4,rfl,ho4⟩,hb4⟩;have hS4:Below w1.heap.size wr w4:=Below.trans (by assumption) (hb4.mono (Nat.le_trans hz1 (Below.size (by assumption))));have hT4:Below wr.heap.size wr w4:=Below.trans (by first | exact(Below.refl _ _).drew | exact((Below.refl _ _).drew).alloc (by simp) _ | exact((Below.refl _ _).alloc (Nat.le_refl _) _).drew) (hb4.mono (Below.size (by assumption)));have Ho4:=hid (ho.out.below hT4);obtain⟨ya,yc,rfl,hV⟩:=ho4.entsT (base':=0) Hlv.out;have HV:=hid hV
        first
         | (have zr:=z3p hb4)
         | (have zr:=z3q hb4)
         | skip
        clear hb4 ho4 hV hT4)
     | (refine zfh rfl (.tmp 14) (.tmp 28) rfl rfl w1.heap.size 0 _ R0 rfl (Ho4.out.below (by first | exact(Below.refl _ _).alloc (Nat.le_refl _) _ | exact((Below.refl _ _).alloc (Nat.le_refl _) _).alloc (by simp) _)) _ 1 1 [([(sx,sy)],V)] rfl [(_,_)] (zks (z3o (s:=(sx,sy)) (by first | exact jp _ _ _ _ (zh _ _ _ rfl) | exact jp _ _ _ _ zr) Hs.out 0) ⟨_,_,_,rfl,HV.out.steady (P:=fun _=>True) (.of_below (by first | exact(Below.refl _ _).alloc (Nat.le_refl _) _ | exact((Below.refl _ _).alloc (Nat.le_refl _) _).alloc (by simp) _)) trivial trivial⟩) rfl (yq (zh _ _ _ (by simp)) rfl rfl) (by have:=Hpl.out;simp;omega) (by have:=hS4.size;simp;omega) (Nat.zero_le _) ?_
        intro v8 w8 ho8 hg8 _;have hS8:Below w1.heap.size wr w8:=Below.grown (B:=w1.heap.size) (by assumption) hg8 (by have:=hS4.size;simp <;> omega) (fun j hj=>(Ho4.out.lt j hj).1)))
    all_goals
     go_wp2;go_roundw
     case rel=>exact⟨d+1,by omega,by go_num,Hb.out.trans hS8,by rw[Hst.out];exact ho8⟩
     case measure=>simp[intOf];omega
  · obtain rfl:d=N:=by omega
    have Ho:=hid ho.out;rw[Hall.out] at Ho;go_wp2;go_ret;exact⟨⟨_,rfl,Ho.out.lower Hb1.out.size⟩,Hbw.out⟩
theorem yjp (aa ab:Option Addr) (na ca nb cb:Nat) (a b:List Iv) (w:World) (hIa:Ivs w aa na ca a) (hIb:Ivs w ab nb cb b) (hn:2*a.length+2*b.length+1≤100000):
 Calls Tryz.prog 153 #[.slice aa na ca,.slice ab nb cb] w fun e w'=>zef w.heap.size (opL gOr a b) e w'∧Below w.heap.size w w':=by
 have hC:=hid (zqo aa ab na ca nb cb 0 a b w hIa hIb (by omega) hn);clear hIa hIb hn;rw[show ((0:Nat):Int)=0 from rfl] at hC;go_enter Tryz.func153,Tryz.ntmps153;go_wp2_with fail;refine hC.out.mono ?_;rintro e w1 ⟨⟨v,rfl,ho⟩,hb⟩;have Ho:=hid ho;have Hb:=hid hb;clear ho hb;go_wp2;go_ret;exact⟨⟨v,rfl,Ho.out⟩,Hb.out⟩
theorem zve {w:World} {base inner g:Nat} (h:w.heap[g]?=some (.cells #[] 127 (0,0))) (hb:base≤g):OwnK w base inner (.slice (some ⟨g,0,none⟩) 0 0) []:=⟨[],zet h hb,zmq _ _⟩
set_option maxRecDepth 100000 in
theorem z41 (z:Nat) (a:Option Addr) (n cap:Nat) (k:Kno) (w:World) (hE:Frags w a n cap k) (hz:z≤w.heap.size) (hT:∀b o,a=some ⟨b,o,none⟩→∀d,d<n→∀x m c,w.cell? ⟨b,o+d*2,none⟩=some (.slice x m c)→IvsT w z x m c (za k d).1) (hR:∀f∈k,RawF f) (hF:∀f∈k,VecFits f.2) (hG:∀f∈k,VecFits (kh f.2)) (hS:yg k≤10000) (hn:n≤2000):
 Calls Tryz.prog 98 #[.slice a n cap] w fun x w'=>(∃y,x=.returned y∧OwnK w' w.heap.size z y (zdq k))∧Below w.heap.size w w':=by
 have HT:=hid hT;have HzI:=hid hz;have HE:=hid hE;have HR:=hid hR;have HF:=hid hF;have HG:=hid hG;have Hl:=hid hE.len;have Hall:=hid (zqk k);have HS:=hid (fun d=>And.intro (Nat.le_trans (zm0 hR d).1 hS) (Nat.le_trans (zm0 hR d).2 (by rw[hE.len];exact hn)));have Hk1:=hid (fun f (hf:f∈k)=>Nat.le_trans (zfj hf) hS);clear hE hR hF hG hS hT hz;go_enter Tryz.func98,Tryz.ntmps98;go_wp2;go_loopw [3,4,5,6] (fun y i _ _ wr=>∃d:Nat,d≤n∧i=.int .i64 d∧Below w.heap.size w wr∧Hid (OwnK wr w.heap.size z y (zdr k d))) (fun _ i _ _ _=>n - (intOf i).toNat)
 case atStart=>exact⟨0,by omega,rfl,Below.refl _ _,zqa _ _ _⟩
 case round=>
  obtain⟨d,hd,rfl,hb,ho⟩:=hrel;have Hb:=hid hb;clear hb;by_cases hdn:d<n
  · have hdk:d<k.length:=by rw[Hl.out];exact hdn
    obtain⟨bb,oo,rfl⟩:=HE.out.some (by omega);obtain⟨x,m,c,y,m',c',hq⟩:=HE.out.fix hdn;have Hq:=hid hq;have hraw:=HR.out _ (yh hdk);have hfit:=HF.out _ (yh hdk);have Hgf:=hid (HG.out _ (yh hdk));have Hfl:=hid (Hk1.out _ (yh hdk));have Hst:=hid (z3v hdk);have HOg:=hid (z3w HR.out d);have HOf:=hid (zuz HG.out d);have HOs:=hid (HS.out d);have hC:=hid (yjn y m' c' (za k d).2 wr (hq wr Hb.out).2.2.2 hfit);have Hcl:=hid (zmo hraw.lt.vec hraw.lt.asc).2.1;have Hil:=hid (show (za k d).1.length=m∧zo (za k d).1 from⟨(hq wr Hb.out).2.1.len,(hq wr Hb.out).2.1.lt⟩);have h0:(0:Int)≤d:=by omega
    have h04:(d:Int)<(n:Int):=by omega
    have HIold:=hid (show IvsT w z x m c (za k d).1 from HT.out bb oo rfl d hdn x m c (hq w (Below.refl _ _)).1);have q1:=(hq wr Hb.out).1;have q2:=(hq wr Hb.out).2.2.1;clear hq hraw hfit;generalize zdr k d=O at*;generalize za k d=f at*;unfold stepG at Hst;generalize kh f.2=V at*;go_wp2_with fail;refine hC.out.mono ?_;rintro e w1 ⟨⟨yv,rfl,hov⟩,hb1⟩;have Hw1:=hid (Hb.out.trans (hb1.mono Hb.out.size));have HoO:=hid (ho.out.below hb1);obtain⟨va,vc,rfl,hV⟩:=hov.entsT (base':=0) Hcl.out;have HV:=hid hV;clear hb1 hov hV q1 q2 hC;have q1:=(Hq.out w1 Hw1.out).1;obtain⟨L,hL⟩:∃L,L=V.length:=⟨_,rfl⟩;rw[←hL] at HV ⊢;have HL:=hid hL;clear hL;by_cases hemp:V=[]∨f.1=[]
    · rw[if_pos hemp] at Hst;by_cases hL0:L=0
      · have hz:((L:Int) == 0)=true:=by rw[hL0];rfl
        clear hemp hL0;go_wp2;go_roundw
        case rel=>exact⟨d+1,by omega,by go_num,Hw1.out,by rw[Hst.out];exact HoO.out⟩
        case measure=>simp[intOf];omega
      · have hz:((L:Int) == 0)=false:=by rw[beq_eq_false_iff_ne];omega
        have hz2:((m:Int) == 0)=true:=by
         rcases hemp with h | h
         · exact absurd (by rw[HL.out,h];rfl) hL0
         · have:m=0:=by rw[←Hil.out.1,h];rfl
           rw[this];rfl
        clear hemp hL0;go_wp2;go_roundw
        case rel=>exact⟨d+1,by omega,by go_num,Hw1.out,by rw[Hst.out];exact HoO.out⟩
        case measure=>simp[intOf];omega
    · rw[if_neg hemp] at Hst
      have hz:((L:Int) == 0)=false:=by
       rw[beq_eq_false_iff_ne];intro h;exact hemp (.inl (List.length_eq_zero_iff.1 (by have:=HL.out;omega)))
      have hz2:((m:Int) == 0)=false:=by
       rw[beq_eq_false_iff_ne];intro h;exact hemp (.inr (List.length_eq_zero_iff.1 (by have:=Hil.out.1;omega)))
      clear hemp;obtain⟨oa,oc,rfl,hO⟩:=HoO.out.frags;have HO:=hid hO;clear hO;have hOl:O.length≤2000:=HOs.out.2;go_wp2;go_loopw [6] (fun t wi=>∃p:Nat,p≤O.length∧t=.int .i64 p∧Below w1.heap.size w1 wi∧Hid (∀j,j<p→yx (za O j).2 V= -1)) (fun t _=>O.length - (intOf t).toNat)
      case atStart=>exact⟨0,by omega,rfl,Below.refl _ _,fun j h=>by omega⟩
      case round=>
       obtain⟨p,hp,rfl,hbi,ht⟩:=hrel;have Hbi:=hid hbi;clear hbi;have hp0:(0:Int)≤p:=by omega
       by_cases hpO:p<O.length
       · have HOr:=hid (HO.out.below Hbi.out);obtain⟨bo,oo',rfl⟩:=HOr.out.some (by omega);obtain⟨x1,m1,c1,x2,m2,c2,hq2⟩:=HOr.out.fix hpO;have Hq2:=hid hq2;have HVr:=hid (fun w' (h:Below wr.heap.size wr w')=>(HV.out.steady (P:=fun _=>True) (.of_below (Hbi.out.trans (h.mono Hbi.out.size))) trivial trivial).ents);have hg:=HOg.out _ (yh hpO);have hgf:=HOf.out _ (yh hpO);have hCmp:=hid (fun w' h=>zs3 x2 va m2 c2 L vc (za O p).2 V w' (hq2 w' h).2.2.2 (HVr.out w' h) (zjh hgf) (zjh Hgf.out) (zqn hg.vec hgf) (zqn Hcl.out Hgf.out));have Huniq:=hid (fun h=>zmv (k:=O) (v:=V) (i:=p) hp ht.out h);have Hat:=hid (fun h=>zqf (k:=O) (v:=V) h);have Hgi:=hid hg.items;have Hgl:=hid (zfj (yh hpO));have Hstep:=hid (fun h=>zm6 (p:=fun j=>yx (za O j).2 V= -1) ht.out h);have h04p:(p:Int)<(O.length:Int):=by omega
         obtain⟨q3,-,q4,-⟩:=hq2 _ (Below.refl _ _);clear hq2 hg hgf;rcases zhe (za O p).2 V with hc | hc | hc
         · rw[hc] at hCmp;have Hs:=hid (Hstep.out hc);clear hc;go_wp2_with fail;refine(hCmp.out _ (Below.refl _ _)).mono ?_;rintro e w2 ⟨rfl,hb2⟩;have Hb2:=hid (Hbi.out.trans (hb2.mono Hbi.out.size));clear hb2;go_wp2;go_roundw
           case rel=>exact⟨p+1,by omega,by go_num,Hb2.out,Hs.out⟩
           case measure=>simp[intOf];omega
         · rw[hc] at hCmp;have hpos:p=js O V:=Huniq.out (fun _=>by rw[hc];omega)
           have hhit:zc6 O V=true:=by
            have:=(Hat.out (by rw[←hpos];exact hpO)).2;rw[←hpos,hc] at this;exact this
           have Hadd:=hid (zut (k:=O) (f:=(f.1,V)) hhit);rw[←hpos] at Hadd;clear hpos hhit hc Huniq Hat Hstep;go_wp2_with fail;refine(hCmp.out _ (Below.refl _ _)).mono ?_;rintro e w2 ⟨rfl,hb2⟩;have Hb2:=hid hb2;clear hb2 q3 q4;obtain⟨q3,-,q4,-⟩:=Hq2.out _ Hb2.out;go_wp2_with fail;refine(hCmp.out _ Hb2.out).mono ?_;rintro e w3 ⟨rfl,hb3⟩;have Hb3:=hid (Hb2.out.trans (hb3.mono Hb2.out.size));have Hw31:=hid (Hbi.out.trans (Hb3.out.mono Hbi.out.size));have Hw0:=hid (Hw1.out.trans (Hw31.out.mono Hw1.out.size));clear hb3 q3 q4;have hf3:=(Hq.out w3 Hw0.out).1;have hfI:=hid (fun w' h=>(Hq.out w' h).2.1);obtain⟨q3,hq3,q4,-⟩:=Hq2.out _ Hb3.out;have HU:=hid (fun w' (h:Below w3.heap.size w3 w')=>yjp x1 x m1 c1 m c _ _ w' (hq3.below h) (hfI.out w' (Hw0.out.trans (h.mono Hw0.out.size))) (by have:=Hfl.out;have:=Hgl.out;have:=HOs.out.1;omega));have HUl:=hid (zb5 (g:=gOr) Hgi.out Hil.out.2 rfl).2.2;have HKr:=hid (HoO.out.below Hw31.out);rcases HKr.out.form2 with ⟨he,-,-,hO0⟩ | ⟨g,ss,he,-,hgb,hgl,hgc,hgm,hro,hpt⟩
           · cases he
           · cases he;have Hro:=hid hro;have Hpt:=hid hpt;clear hro hpt hq3;rw[Nat.zero_add] at q3 q4;have Hz:=hid (fun w' (h:Below w3.heap.size w3 w')=>And.intro ((h.cell (p:=⟨bo,p*2,none⟩) (zf q3)).trans q3) (And.intro ((h.cell (p:=⟨bo,p*2+1,none⟩) (zf q4)).trans q4) (And.intro (zeh (zm Hro.out h) (p*2)) (zeh (zm Hro.out h) (p*2+1)))));have hgb2:w.heap.size≤bo:=hgb;generalize hop:opL gOr (za O p).1 f.1=U at*;go_wp2_with fail
             go_region_with (first
              | (go_at_call 153
                 refine(HU.out _ (by first | exact Below.refl _ _ | exact(Below.refl _ _).drew)).mono ?_;rintro e w4 ⟨⟨yu,rfl,hou⟩,hb4⟩;have hT4:Below w3.heap.size w3 w4:=⟨hb4.os,hb4.tape,hb4.output,hb4.size,hb4.block⟩;have hS4:Below w.heap.size w3 w4:=hT4.mono Hw0.out.size;obtain⟨ua,uc,rfl,hIu⟩:=ze3 (base':=z) hou HUl.out;have HIu:=hid hIu;have zz:=Hz.out w4 hT4;have z0:=zz.1;have z1:=zz.2.1;have z2:=zz.2.2.1;have z3:=zz.2.2.2;clear zz hb4 hou hIu))
             all_goals go_wp2
             all_goals
              go_roundw
              case rel=>exact⟨d+1,by omega,by go_num,Hw0.out.trans (zmf hS4 hgb2),by
               rw[Hst.out,Hadd.out];exact yi7 (p:=p) rfl (zm Hro.out hT4) (Hpt.out.steady (P:=fun _=>True) (.of_below hT4) trivial trivial |>.raise (Nat.le_refl _)) HzI.out (U,V) _ _ ⟨_,_,_,rfl,HIu.out⟩ ⟨_,_,_,rfl,(HV.out.steady (P:=fun _=>True) (.of_below (Hw31.out.trans (hT4.mono Hw31.out.size))) trivial trivial).raise (Nat.zero_le _)⟩⟩
              case measure=>simp[intOf];omega
         · rw[hc] at hCmp;have hpos:p=js O V:=Huniq.out (fun _=>by rw[hc];omega)
           have hhit:zc6 O V=false:=by
            have:=(Hat.out (by rw[←hpos];exact hpO)).2;rw[←hpos,hc] at this;exact this
           have Hadd:=hid (zqh (k:=O) (f:=(f.1,V)) hhit);rw[←hpos] at Hadd;clear hpos hhit hc Huniq Hat Hstep;go_wp2_with fail;refine(hCmp.out _ (Below.refl _ _)).mono ?_;rintro e w2 ⟨rfl,hb2⟩;have Hb2:=hid hb2;clear hb2 q3 q4;obtain⟨q3,-,q4,-⟩:=Hq2.out _ Hb2.out;go_wp2_with fail;refine(hCmp.out _ Hb2.out).mono ?_;rintro e w3 ⟨rfl,hb3⟩;have Hb3:=hid (Hb2.out.trans (hb3.mono Hb2.out.size));have Hw31:=hid (Hbi.out.trans (Hb3.out.mono Hbi.out.size));have Hw0:=hid (Hw1.out.trans (Hw31.out.mono Hw1.out.size));clear hb3 q3 q4;have HIF:∀w',Below w3.heap.size w3 w'→IvSl w' z (.slice x m c) f.1:=fun w' h=>⟨_,_,_,rfl,HIold.out.steady (P:=fun _=>True) (.of_below (Hw0.out.trans (h.mono Hw0.out.size))) trivial⟩
           have HEV:∀w',Below w3.heap.size w3 w'→EnSl w' z (.slice va L vc) V:=fun w' h=>⟨_,_,_,rfl,(HV.out.steady (P:=fun _=>True) (.of_below (Hw31.out.trans (h.mono Hw31.out.size))) trivial trivial).raise (Nat.zero_le _)⟩
           have r3:∀w',Below w3.heap.size w3 w'→w'.cell? ⟨bb,oo+d*2,none⟩=some (.slice x m c):=fun w' h=>(Hq.out w' (Hw0.out.trans (h.mono Hw0.out.size))).1
           have hzw:z≤w3.heap.size:=Nat.le_trans HzI.out Hw0.out.size;have hzw0:w.heap.size≤w3.heap.size:=Hw0.out.size;have HKr:=hid (HoO.out.below Hw31.out);rcases HKr.out.form2 with ⟨he,-,-,hO0⟩ | ⟨g,ss,he,-,hgb,hgl,hgc,hgm,hro,hpt⟩
           · cases he
           · cases he;have hpc:p≤oc:=by omega
             have HPT:∀w',Below w3.heap.size w3 w'→PartsT w' z (O.take p) (ss.take p):=fun w' h=>(hpt.steady (P:=fun _=>True) (.of_below h) trivial trivial).take _
             have HPD:∀w',Below w3.heap.size w3 w'→PartsT w' z (O.drop p) (ss.drop p):=fun w' h=>(hpt.steady (P:=fun _=>True) (.of_below h) trivial trivial).drop _
             have Hhd:=hid (show ∀w',Below w3.heap.size w3 w'→Rd w' 2 (some ⟨bo,0,none⟩) p (qs (ss.take p)) from fun w' h=>by
              have:=zfk (zm hro h) p (by omega);rw[zqj] at this;exact Rd.own this)
             have Htl:=hid (show ∀w',Below w3.heap.size w3 w'→Rd w' 2 (if oc=p then some ⟨bo,0,none⟩ else some ⟨bo,p*2,none⟩) (O.length - p) (qs (ss.drop p)) from fun w' h=>by
              have h1:=(zm4 hro p (by omega)).below h;rw[zux] at h1;split
              · exact⟨h1.1,fun h0=>by omega⟩
              · exact h1)
             go_wp2_with fail
             go_region_held3 (fun w'=>Below w3.heap.size w3 w') (first | assumption | exact(Below.refl _ _).drew | exact Below.alloc (by assumption) (Below.size (by assumption)) _) (first
              | (refine zfh rfl (.tmp 77) (.tmp 80) rfl rfl w3.heap.size z _ [] rfl (zve (by first | exact zh _ _ _ (by simp) | exact jp _ _ _ _ (zh _ _ _ (by simp))) (by simp <;> omega)) _ _ p (O.take p) (by rw[List.length_take];omega) (ss.take p) (HPT _ (by assumption)) rfl (Hhd.out _ (by assumption)) (by simp <;> omega) (by simp <;> omega) (by omega) ?_
                 intro v1 w5 ho1 hg1 _
                 have hS1:Below w3.heap.size w3 w5:=by
                  refine Below.grown (B:=w3.heap.size) (by assumption) hg1 (by simp <;> omega) ?_;intro j hj;simp[Value.ownBlock,Act.eval] at hj
                  omega)
              | (refine zfh rfl (.tmp 81) (.tmp 89) rfl rfl w3.heap.size z _ _ rfl (by first | exact ho1 | exact ho1.below ((Below.refl _ _).alloc (Nat.le_refl _) _)) _ 1 1 [(f.1,V)] rfl [(_,_)] (zks (HIF _ (by assumption)) (HEV _ (by assumption))) rfl (by first | exact yq (zh _ _ _ (by simp)) rfl rfl | exact zei hg1 (yq (by first | exact zh _ _ _ (by simp) | exact jp _ _ _ _ (zh _ _ _ (by simp))) rfl rfl) (by simp[Value.ownBlock,Act.eval]) (by simp <;> omega)) (by simp <;> omega) (by have:=hS1.size;simp <;> omega) (by omega) ?_
                 intro v2 w6 ho2 hg2 _
                 have hS2:Below w3.heap.size w3 w6:=by
                  refine Below.grown (B:=w3.heap.size) (by assumption) hg2 ?_ (fun j hj=>(ho1.lt j hj).1);have:=hS1.size
                  simp <;> omega)
              | (refine zfh rfl (.tmp 90) (.tmp 93) rfl rfl w3.heap.size z _ _ rfl ho2 _ _ (O.length - p) (O.drop p) (by rw[List.length_drop]) (ss.drop p) (HPD _ (by assumption)) rfl (Htl.out _ (by assumption)) (by simp <;> omega) (by have:=hS2.size;simp <;> omega) (by omega) ?_
                 intro v3 w7 ho3 hg3 _
                 have hS3:Below w3.heap.size w3 w7:=by
                  refine Below.grown (B:=w3.heap.size) (by assumption) hg3 ?_ (fun j hj=>(ho2.lt j hj).1);have:=hS2.size;simp <;> omega))
             all_goals go_wp2
             all_goals
              go_roundw
              case rel=>exact⟨d+1,by omega,by go_num,Hw0.out.trans (hS3.mono Hw0.out.size),by
               rw[Hst.out,Hadd.out];have h9:=ho3.lower (show w.heap.size≤w3.heap.size from Hw0.out.size);have h10:OwnK w7 w.heap.size z v3 (O.take p++(f.1,V) :: O.drop p):=by simpa using h9
               exact h10⟩
              case measure=>simp[intOf];omega
       · obtain rfl:p=O.length:=by omega
         have hpos:O.length=js O V:=zmv (k:=O) (v:=V) (by omega) ht.out (fun h=>by omega);have hhit:zc6 O V=false:=zqg hpos.symm;have hadd:=zqh (k:=O) (f:=(f.1,V)) hhit;rw[←hpos,List.drop_length] at hadd;have Hadd:=hid hadd;clear hpos hhit hadd;obtain⟨w3,hw3⟩:∃w3:World,w3=wr:=⟨_,rfl⟩;rw[←hw3] at Hbi ⊢;have Hw31:=hid Hbi.out;have Hw0:=hid (Hw1.out.trans (Hw31.out.mono Hw1.out.size));clear hw3;have HIF:∀w',Below w3.heap.size w3 w'→IvSl w' z (.slice x m c) f.1:=fun w' h=>⟨_,_,_,rfl,HIold.out.steady (P:=fun _=>True) (.of_below (Hw0.out.trans (h.mono Hw0.out.size))) trivial⟩
         have HEV:∀w',Below w3.heap.size w3 w'→EnSl w' z (.slice va L vc) V:=fun w' h=>⟨_,_,_,rfl,(HV.out.steady (P:=fun _=>True) (.of_below (Hw31.out.trans (h.mono Hw31.out.size))) trivial trivial).raise (Nat.zero_le _)⟩
         have r3:∀w',Below w3.heap.size w3 w'→w'.cell? ⟨bb,oo+d*2,none⟩=some (.slice x m c):=fun w' h=>(Hq.out w' (Hw0.out.trans (h.mono Hw0.out.size))).1
         have hzw:z≤w3.heap.size:=Nat.le_trans HzI.out Hw0.out.size;have hzw0:w.heap.size≤w3.heap.size:=Hw0.out.size;have HKr:=hid (HoO.out.below Hw31.out);rcases HKr.out.form2 with ⟨rfl,hn0,rfl,rfl⟩ | ⟨g,ss,rfl,-,hgb,hgl,hgc,hgm,hro,hpt⟩
         · clear hn0;have hO0:(([]:Kno).length:Int)=0:=rfl;rw[List.length_nil,show ((0:Nat):Int)=0 from rfl];go_wp2_with fail
           go_region_held3 (fun w'=>Below w3.heap.size w3 w') (first | assumption | exact(Below.refl _ _).drew | exact Below.alloc (by assumption) (Below.size (by assumption)) _) (first
            | (refine zfh rfl (.tmp 77) (.tmp 80) rfl rfl w3.heap.size z _ [] rfl (zve (by first | exact zh _ _ _ (by simp) | exact jp _ _ _ _ (zh _ _ _ (by simp))) (by simp <;> omega)) _ _ 0 [] rfl [] (zmq _ _) rfl (zib _ _) (by simp <;> omega) (by simp <;> omega) (by omega) ?_
               intro v1 w5 ho1 hg1 _
               have hS1:Below w3.heap.size w3 w5:=by
                refine Below.grown (B:=w3.heap.size) (by assumption) hg1 (by simp <;> omega) ?_;intro j hj;simp[Value.ownBlock,Act.eval] at hj
                omega)
            | (refine zfh rfl (.tmp 81) (.tmp 89) rfl rfl w3.heap.size z _ _ rfl (by first | exact ho1 | exact ho1.below ((Below.refl _ _).alloc (Nat.le_refl _) _)) _ 1 1 [(f.1,V)] rfl [(_,_)] (zks (HIF _ (by assumption)) (HEV _ (by assumption))) rfl (by first | exact yq (zh _ _ _ (by simp)) rfl rfl | exact zei hg1 (yq (by first | exact zh _ _ _ (by simp) | exact jp _ _ _ _ (zh _ _ _ (by simp))) rfl rfl) (by simp[Value.ownBlock,Act.eval]) (by simp <;> omega)) (by simp <;> omega) (by have:=hS1.size;simp <;> omega) (by omega) ?_
               intro v2 w6 ho2 hg2 _
               have hS2:Below w3.heap.size w3 w6:=by
                refine Below.grown (B:=w3.heap.size) (by assumption) hg2 ?_ (fun j hj=>(ho1.lt j hj).1);have:=hS1.size
                simp <;> omega)
            | (refine zfh rfl (.tmp 90) (.tmp 93) rfl rfl w3.heap.size z _ _ rfl ho2 _ _ 0 [] rfl [] (zmq _ _) rfl (zib _ _) (by simp <;> omega) (by have:=hS2.size;simp <;> omega) (by omega) ?_
               intro v3 w7 ho3 hg3 _
               have hS3:Below w3.heap.size w3 w7:=by
                refine Below.grown (B:=w3.heap.size) (by assumption) hg3 ?_ (fun j hj=>(ho2.lt j hj).1);have:=hS2.size;simp <;> omega))
           all_goals go_wp2
           all_goals
            go_roundw
            case rel=>exact⟨d+1,by omega,by go_num,Hw0.out.trans (hS3.mono Hw0.out.size),by
             rw[Hst.out,Hadd.out];have h9:=ho3.lower (show w.heap.size≤w3.heap.size from Hw0.out.size);have h10:OwnK w7 w.heap.size z v3 [(f.1,V)]:=by simpa using h9
             exact h10⟩
            case measure=>simp[intOf];omega
         · skip
           have HPT:∀w',Below w3.heap.size w3 w'→PartsT w' z (O.take O.length) (ss.take O.length):=fun w' h=>(hpt.steady (P:=fun _=>True) (.of_below h) trivial trivial).take _
           have Hhd:=hid (show ∀w',Below w3.heap.size w3 w'→Rd w' 2 (some ⟨g,0,none⟩) O.length (qs (ss.take O.length)) from fun w' h=>by
            have:=zfk (zm hro h) O.length (by omega);rw[zqj] at this;exact Rd.own this)
           have Htl:=hid (show ∀w',Below w3.heap.size w3 w'→Rd w' 2 (if oc=O.length then some ⟨g,0,none⟩ else some ⟨g,O.length*2,none⟩) 0 (qs []) from fun w' h=>⟨rfl,fun h0=>by omega⟩);go_wp2_with fail
           go_region_held3 (fun w'=>Below w3.heap.size w3 w') (first | assumption | exact(Below.refl _ _).drew | exact Below.alloc (by assumption) (Below.size (by assumption)) _) (first
            | (refine zfh rfl (.tmp 77) (.tmp 80) rfl rfl w3.heap.size z _ [] rfl (zve (by first | exact zh _ _ _ (by simp) | exact jp _ _ _ _ (zh _ _ _ (by simp))) (by simp <;> omega)) _ _ O.length (O.take O.length) (by rw[List.length_take];omega) (ss.take O.length) (HPT _ (by assumption)) rfl (Hhd.out _ (by assumption)) (by simp <;> omega) (by simp <;> omega) (by omega) ?_
               intro v1 w5 ho1 hg1 _
               have hS1:Below w3.heap.size w3 w5:=by
                refine Below.grown (B:=w3.heap.size) (by assumption) hg1 (by simp <;> omega) ?_;intro j hj;simp[Value.ownBlock,Act.eval] at hj
                omega)
            | (refine zfh rfl (.tmp 81) (.tmp 89) rfl rfl w3.heap.size z _ _ rfl (by first | exact ho1 | exact ho1.below ((Below.refl _ _).alloc (Nat.le_refl _) _)) _ 1 1 [(f.1,V)] rfl [(_,_)] (zks (HIF _ (by assumption)) (HEV _ (by assumption))) rfl (by first | exact yq (zh _ _ _ (by simp)) rfl rfl | exact zei hg1 (yq (by first | exact zh _ _ _ (by simp) | exact jp _ _ _ _ (zh _ _ _ (by simp))) rfl rfl) (by simp[Value.ownBlock,Act.eval]) (by simp <;> omega)) (by simp <;> omega) (by have:=hS1.size;simp <;> omega) (by omega) ?_
               intro v2 w6 ho2 hg2 _
               have hS2:Below w3.heap.size w3 w6:=by
                refine Below.grown (B:=w3.heap.size) (by assumption) hg2 ?_ (fun j hj=>(ho1.lt j hj).1);have:=hS1.size
                simp <;> omega)
            | (refine zfh rfl (.tmp 90) (.tmp 93) rfl rfl w3.heap.size z _ _ rfl ho2 _ _ 0 [] rfl [] (zmq _ _) rfl (Htl.out _ (by assumption)) (by simp <;> omega) (by have:=hS2.size;simp <;> omega) (by omega) ?_
               intro v3 w7 ho3 hg3 _
               have hS3:Below w3.heap.size w3 w7:=by
                refine Below.grown (B:=w3.heap.size) (by assumption) hg3 ?_ (fun j hj=>(ho2.lt j hj).1);have:=hS2.size;simp <;> omega))
           all_goals go_wp2
           all_goals
            go_roundw
            case rel=>exact⟨d+1,by omega,by go_num,Hw0.out.trans (hS3.mono Hw0.out.size),by
             rw[Hst.out,Hadd.out];have h9:=ho3.lower (show w.heap.size≤w3.heap.size from Hw0.out.size);have h10:OwnK w7 w.heap.size z v3 (O.take O.length++[(f.1,V)]):=by simpa using h9
             exact h10⟩
            case measure=>simp[intOf];omega
  · obtain rfl:d=n:=by omega
    have Ho:=hid ho.out;rw[←Hl.out,Hall.out] at Ho;go_wp2;go_ret;exact⟨⟨_,rfl,Ho.out⟩,Hb.out⟩
theorem yjq (a:Option Addr) (n cap:Nat) (k:Kno) (w:World) (hE:Frags w a n cap k) (hR:∀f∈k,RawF f) (hF:∀f∈k,VecFits f.2) (hG:∀f∈k,VecFits (kh f.2)) (hS:yg k≤10000) (hn:n≤2000):
 Calls Tryz.prog 98 #[.slice a n cap] w fun x w'=>(∃y,x=.returned y∧OwnK w' w.heap.size w.heap.size y (zdq k))∧Below w.heap.size w w':=
 z41 w.heap.size a n cap k w hE (Nat.le_refl _) (fun b o e d hd x m c hc=>by
  subst e;obtain⟨x',m',c',y,m2,c2,hq⟩:=hE.fix hd;obtain⟨h1,h2,-⟩:=hq w (Below.refl _ _);rw[h1] at hc;cases hc;exact yiz h2) hR hF hG hS hn
def z42 (k:Kno) (x:Ending) (w':World):Prop:=∃a c,x=.returned (.slice a k.length c)∧Frags w' a k.length c k
theorem z43 (a:Option Addr) (n cap:Nat) (k:Kno) (w:World) (hE:Frags w a n cap k) (hL:LtK k) (hF:KnoFits k) (hA:(jk (k.map (·.1))).length≤2000):
 Calls Tryz.prog 56 #[.slice a n cap] w fun x w'=>z42 (zv k) x w'∧Below w.heap.size w w':=by
 have hC:=hid (z40 a n cap k w hE hL hF hA);have hl:(jb k).length≤2000:=by unfold jb;rw[List.length_map];exact Nat.le_trans (zkv k) hA
 have hs:yg (jb k)≤10000:=by
  unfold jb;rw[zuo k k];have:=zkv k;omega
 have hv:∀f∈jb k,VecFits f.2∧VecFits (kh f.2):=fun f hf=>by
  unfold jb at hf;obtain⟨s,hs,rfl⟩:=List.mem_map.1 hf;obtain⟨c1,c2,_⟩:=zex hL s.1;have h1:VecFits (atK k s.1):=by rw[←zkr];exact hF.at_ _ _
  simp only;rw[zmp c2 c1];exact⟨h1,h1⟩
 have hG:=hid (fun a c w' (h:Frags w' a (jb k).length c (jb k))=>yjq a _ c (jb k) w' h (zmx hL) (fun f hf=>(hv f hf).1) (fun f hf=>(hv f hf).2) hs hl);have Hck:=hid (show zv k=zdq (jb k) from rfl);clear hE hL hF hA hl hs hv;go_enter Tryz.func56,Tryz.ntmps56;go_wp2_with fail;refine hC.out.mono ?_;rintro e w1 ⟨⟨v,rfl,ho⟩,hb⟩;have Hb:=hid hb;obtain⟨a1,c1,rfl,h1⟩:=ho.frags;have H1:=hid h1;clear ho hb h1;go_wp2_with fail;refine(hG.out _ _ _ H1.out).mono ?_;rintro e w2 ⟨⟨v,rfl,ho⟩,hb⟩;have Hb2:=hid (Hb.out.trans (hb.mono Hb.out.size));obtain⟨a2,c2,rfl,h2⟩:=ho.frags;have H2:=hid h2;clear ho hb h2;go_wp2;go_ret;exact⟨⟨_,_,by rw[Hck.out];rfl,by rw[Hck.out];exact H2.out⟩,Hb2.out⟩
set_option maxRecDepth 20000 in
theorem z44 (a:Option Addr) (n cap:Nat) (c:Kno) (w:World) (hE:Frags w a n cap c) (hK:EncK c):
 Calls Tryz.prog 80 #[.slice a n cap] w fun x w'=>(∃y,x=.returned y∧OwnB w' w.heap.size y (zn c))∧Below w.heap.size w w':=by
 have HN:=hid (z4s a n cap c w hE hK);have HJ:=hid (fun A cp W (h:Rd W 1 A (zn c).length (zi (zn c)))=>z4r A (zn c).length cp (zn c) W h rfl (zoe hK) (by have:=zvd hK;omega));clear hE hK;go_enter Tryz.func80,Tryz.ntmps80;go_wp2_with fail;refine HN.out.mono ?_;rintro z w1 ⟨⟨v1,rfl,ho1⟩,hb1⟩;obtain⟨a1,c1,rfl⟩:=jh ho1;have HJ1:=hid (HJ.out a1 c1 w1 (Rd.own ho1));have Hb1:=hid hb1;clear ho1 hb1 HN HJ;go_wp2_with fail;refine HJ1.out.mono ?_;rintro z w2 ⟨⟨v2,rfl,ho2⟩,hb2⟩;have Ho2:=hid (show OwnB w2 w.heap.size v2 (zn c) from qt ho2 Hb1.out.size);have Hb2:=hid (Hb1.out.trans (hb2.mono Hb1.out.size));clear ho2 hb2;go_wp2;go_ret;exact⟨⟨_,rfl,Ho2.out⟩,Hb2.out⟩
structure RightL (ks:List Kno):Prop where
 len:ks.length≤6
 one:∀k∈ks,zcm k=true∧ckF k=none
theorem zif {ks:List Kno} {i:Nat} (h:i<ks.length):zt ks i∈ks:=by rw[zb2 h];exact List.getElem_mem h
theorem zm8 {c:Kno} (hK:EncK c):(zq (zn c)).length≤9000000000:=by
 have h1:=zji (zn c);have h2:=zvd hK;omega
theorem z47 (c:Kno):(kw c).length≤(zq (zn c)).length+19∧(zq (zn c)).length≤(kw c).length:=by
 unfold kw;rw[zgy];have:(yp (zq (zn c)).length).length≤9+1:=zdc 9 _;omega
theorem z48 {cs:List Kno} {i:Nat} (h:i<cs.length):yo (cs.take (i+1))=yo (cs.take i)++kw (zt cs i):=by
 rw[List.take_succ_eq_append_getElem h,zql,zb2 h];simp[yo]
theorem zqs {ks:List Kno} {i:Nat} (h:i<ks.length):zt (ks.map zv) i=zv (zt ks i):=by
 rw[zb2 (by rw[List.length_map];exact h),zb2 h,List.getElem_map]
theorem zg8 {k:Kno} (hall:∀f∈k,zo f.1∧LtV f.2) (hf:zcm k=true) (hck:ckF k=none):LtK k∧SmallK k∧yg k≤240∧KnoFits k∧(jk (k.map (·.1))).length≤2000∧EncK (zv k):=by
 obtain⟨hs,h12,h240⟩:=zu8 hf;have hk:=zu9 hall hck;exact⟨hk,hs,h240,zqp hk hs,Nat.le_trans (zup _) (by omega),zqq hk hs h240⟩
