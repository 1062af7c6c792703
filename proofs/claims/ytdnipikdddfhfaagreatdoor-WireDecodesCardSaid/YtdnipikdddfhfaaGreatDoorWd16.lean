/- Part 16. -/
import Derived.WalkMore
import Derived.Test.YtdnipikdddfhfaaGreatDoorWd15
set_option linter.unusedVariables false
set_option maxHeartbeats 16000000
namespace Go.Proofs.YtdnipikdddfhfaaGreatDoor
open Lib (hid)
section
open Go.RowKit
theorem zyw {e:Ent} (h:CanE e) {l:List Iv} {t:Iv} (he:e.2.2=l++[t]):t.2<e.2.1:=by
 have h1:=h.below t (by rw[he];simp);have h2:=h.top;rcases Nat.lt_or_ge t.2 e.2.1 with h3 | h3
 · exact h3
 · have h4:=(zjk h.good (s:=t) (by rw[he];simp)).1;rw[show t.2=e.2.1 by omega,h2] at h4;cases h4
set_option maxRecDepth 20000 in
theorem zyx (e:Ent) (a:Option Addr) (n c:Nat) (w:World) (hI:Ivs w a n c e.2.2) (hC:CanE e) (hn:n≤100000):
 Calls Tryz.prog 209 #[zbm e (.slice a n c)] w fun x w'=>zha w.heap.size (some e) x w'∧Below w.heap.size w w':=by
 obtain⟨r,m,hs⟩:=e;simp only at hI;have hlast:=fun l t (h:hs=l++[t])=>zyw hC (l:=l) (t:=t) h
 simp only at hlast;have hlen:=hI.len;have hlt:=hI.lt;have hal:Below w.heap.size w ((w.alloc (.cells #[.int .u64 r,.int .u64 m,.slice a n c] 93)).alloc (.cells #[.int .u64 0,.int .u64 0,.slice none 0 0] 93)):=((Below.refl _ _).alloc (Nat.le_refl _) _).alloc (by simp) _;have hrow:((w.alloc (.cells #[.int .u64 r,.int .u64 m,.slice a n c] 93)).alloc (.cells #[.int .u64 0,.int .u64 0,.slice none 0 0] 93)).heap[w.heap.size+1]?=some (.cells #[.int .u64 0,.int .u64 0,.slice none 0 0] 93):=yh (by simp);have hbox:((w.alloc (.cells #[.int .u64 r,.int .u64 m,.slice a n c] 93)).alloc (.cells #[.int .u64 0,.int .u64 0,.slice none 0 0] 93)).heap[w.heap.size]?=some (.cells #[.int .u64 r,.int .u64 m,.slice a n c] 93):=(Below.heap_alloc _ _ _ (by simp)).trans (yh rfl);have hsz:((w.alloc (.cells #[.int .u64 r,.int .u64 m,.slice a n c] 93)).alloc (.cells #[.int .u64 0,.int .u64 0,.slice none 0 0] 93)).heap.size=w.heap.size+2:=by simp
 have hRd:=(hI.below hal).rd;have hB:=zhm hbox;have b0:=hB.1;have b1:=hB.2.1;have b2:=hB.2.2.1;clear hI hC hB;go_enter Tryz.func209,Tryz.ntmps209;generalize hW:(w.alloc (.cells #[.int .u64 r,.int .u64 m,.slice a n c] 93)).alloc (.cells #[.int .u64 0,.int .u64 0,.slice none 0 0] 93)=W at*;go_wp2;go_step3
 go_wp2_with (at_builtin;(refine zf1 rfl (.const (.slice none 0 0)) (.tmp 8) rfl rfl W.heap.size _ 0 [] rfl (World.ownsRow_nil _ _ _ _) _ n _ hs rfl hRd (by omega) (Nat.le_refl _) ?_
                          intro v2 w2 ho2 hg2;obtain⟨a2,c2,rfl⟩:=jz ho2;have hb2:Below W.heap.size W w2:=Below.grown (Below.refl _ _) hg2 (Nat.le_refl _) (by intro k hk;simp[Value.ownBlock,Act.eval] at hk);have hx2:=zhm ((hb2.block _ (by omega)).trans hbox);have x0:=hx2.1;have x1:=hx2.2.1;have x2:=hx2.2.2.1;have x3:=hx2.2.2.2.1;have x4:=hx2.2.2.2.2.1;have x5:=hx2.2.2.2.2.2;clear hx2 b0 b1 b2))
 have hz2:=zhm (w':=w2.setCell ⟨w.heap.size,2,none⟩ (.slice a2 (0+n) c2)) ((Below.heap_setCell _ _ _ _ (by simp)).trans ((hb2.block (w.heap.size+1) (by omega)).trans hrow));have hbig:∀k,W.heap.size≤k→(w2.setCell ⟨w.heap.size,2,none⟩ (.slice a2 (0+n) c2)).heap[k]?=w2.heap[k]?:=fun k hk=>Below.heap_setCell _ _ _ _ (by simp;omega)
 have hy0:(w2.setCell ⟨w.heap.size,2,none⟩ (.slice a2 (0+n) c2)).cell? ⟨w.heap.size,0,none⟩=some (.int .u64 r):=by simp[go_sem,x0]
 have hy1:(w2.setCell ⟨w.heap.size,2,none⟩ (.slice a2 (0+n) c2)).cell? ⟨w.heap.size,1,none⟩=some (.int .u64 m):=by simp[go_sem,x1]
 have hy2:(w2.setCell ⟨w.heap.size,2,none⟩ (.slice a2 (0+n) c2)).cell? ⟨w.heap.size,2,none⟩=some (.slice a2 (0+n) c2):=by simp[go_sem,x2]
 have hB3:Below w.heap.size w (w2.setCell ⟨w.heap.size,2,none⟩ (.slice a2 (0+n) c2)):=(hal.trans (hb2.mono hal.size)).setCell (Nat.le_refl _) _;have ho3:=qk ho2 (fun k h1 h2=>hbig k h1)
 have hz3:W.heap.size≤(w2.setCell ⟨w.heap.size,2,none⟩ (.slice a2 (0+n) c2)).heap.size:=by
  have:=hb2.size;rw[World.size_setCell];exact this
 go_step3
 go_wp2;simp only[Nat.zero_add] at hz2 hbig hy0 hy1 hy2 hB3 ho3 hz3;generalize w2.setCell ⟨w.heap.size,2,none⟩ (.slice a2 n c2)=W3 at*;have Hz:=hid hz2;have HB3:=hid hB3;have Ho3:=hid ho3;have Hz3:=hid hz3;have Hsz:=hid hsz;have Hlast:=hid hlast;have Hlen:=hid hlen;have Hlt:=hid hlt;clear hz2 hbig hB3 ho3 hz3 x0 x1 x2 x3 x4 x5 hb2 hg2 ho2 hRd hrow hbox hW hal hsz hlast hlen hlt;go_loopw [4,5,6] (fun _ _ _ wr=>wr=W3) (fun _ _ _ _=>0)
 case atStart=>rfl
 case round=>
  subst hrel;have Hy:=hid (And.intro hy0 (And.intro hy1 hy2));by_cases hn0:n=0
  · have hd:decide (0<(n:Int))=false:=by rw[decide_eq_false_iff_not];omega
    have hdn:decide (0<n)=false:=by rw[decide_eq_false_iff_not];omega
    have hz:=Hz.out;have z0:=hz.1;have z1:=hz.2.1;have z2:=hz.2.2.1;have z3:=hz.2.2.2.1;have z4:=hz.2.2.2.2.1;have z5:=hz.2.2.2.2.2;clear hz hn0;go_wp2;rw[Exit.noGoto_ret];refine bodyPost_ret (v:=.tuple #[.agg #[.int .u64 r,.int .u64 m,.slice a2 n c2],.bool true]) (by simp[results,Tryz.results209,go_sem,z0,z1,z2]) rfl ?_;refine⟨⟨_,rfl,?_⟩,zor HB3.out (by omega)⟩
    have h:=qk (w':=((wr.setCell ⟨w.heap.size+1,0,none⟩ (.int .u64 r)).setCell ⟨w.heap.size+1,1,none⟩ (.int .u64 m)).setCell ⟨w.heap.size+1,2,none⟩ (.slice a2 n c2)) Ho3.out (fun k h1 _=>by
     have:=Hsz.out;rw[Below.heap_setCell _ _ _ _ (by simp;omega),Below.heap_setCell _ _ _ _ (by simp;omega),Below.heap_setCell _ _ _ _ (by simp;omega)])
    have h2:=vz (b:=w.heap.size) h (by have:=Hsz.out;omega);simpa [Hlen.out] using h2
  · obtain⟨l,s,rfl⟩:∃l s,hs=l++[s]:=by
     rcases zca hs with rfl | ⟨l,s,rfl⟩
     · exact absurd (by simpa using Hlen.out.symm) hn0
     · exact⟨l,s,rfl⟩
    have hlk:=Hlen.out;rw[List.length_append,List.length_singleton] at hlk;obtain⟨k,hk⟩:∃k:Nat,k=l.length:=⟨_,rfl⟩;have hIv:=zbd Ho3.out (by simpa using Hlt.out);obtain⟨a3,c3,he,hI3⟩:=hIv;cases he;obtain⟨bb,oo,rfl,hcell⟩:=hI3.cells (by omega);obtain⟨k1,k2⟩:=hcell k (by omega);rw[show za ([]++(l++[s])) k=s from by rw[hk];simp[za]] at k1 k2;have hlm:=Hlast.out l s rfl;have hroom:=hI3.room;obtain⟨sx,sy⟩:=s;simp only at k1 k2 hlm;have hd:decide (0<(n:Int))=true:=by rw[decide_eq_true_iff];omega
    have hdn:decide (0<n)=true:=by rw[decide_eq_true_iff];omega
    have hsub:IntKind.i64.wrap ((n:Int) - 1)=(k:Int):=by rw[IntKind.wrap_i64];omega
    have h01:(0:Int)≤k:=by omega
    have h02:(k:Int)<(n:Int):=by omega
    have hd1:decide ((sy:Int)<(m:Int))=true:=by rw[decide_eq_true_iff];omega
    have hd2:decide (sy<m)=true:=by rw[decide_eq_true_iff];omega
    have hal:Below wr.heap.size wr (wr.alloc (.cells #[.int .u64 sx,.int .u64 sy] 89)):=(Below.refl _ _).alloc (Nat.le_refl _) _;have hz:=Hz.out;have z0:=(hal.cell (zh hz.1)).trans hz.1;have z1:=(hal.cell (zh hz.2.1)).trans hz.2.1;have z2:=(hal.cell (zh hz.2.2.1)).trans hz.2.2.1;have z3:=(hal.frozen (p:=⟨w.heap.size+1,0,none⟩) (zh hz.1)).trans hz.2.2.2.1;have z4:=(hal.frozen (p:=⟨w.heap.size+1,1,none⟩) (zh hz.2.1)).trans hz.2.2.2.2.1;have z5:=(hal.frozen (p:=⟨w.heap.size+1,2,none⟩) (zh hz.2.2.1)).trans hz.2.2.2.2.2;have y0:=(hal.cell (zh hy0)).trans hy0;have y1:=(hal.cell (zh hy1)).trans hy1;have y2:=(hal.cell (zh hy2)).trans hy2;have Hal:=hid hal;clear hz hcell hI3 hlm hn0 hlk hal hk;go_wp2;rw[Exit.noGoto_ret];refine bodyPost_ret (v:=.tuple #[.agg #[.int .u64 r,.int .u64 m,.slice (some ⟨bb,oo,none⟩) n c2],.bool true]) (by simp[results,Tryz.results209,go_sem,z0,z1,z2]) rfl ?_;refine⟨⟨_,rfl,?_⟩,zor (HB3.out.trans (Hal.out.mono HB3.out.size)) (by omega)⟩
    have h:=qk (w':=(((wr.alloc (.cells #[.int .u64 sx,.int .u64 sy] 89)).setCell ⟨w.heap.size+1,0,none⟩ (.int .u64 r)).setCell ⟨w.heap.size+1,1,none⟩ (.int .u64 m)).setCell ⟨w.heap.size+1,2,none⟩ (.slice (some ⟨bb,oo,none⟩) n c2)) Ho3.out (fun k h1 h2=>by
     have:=Hsz.out;rw[Below.heap_setCell _ _ _ _ (by simp;omega),Below.heap_setCell _ _ _ _ (by simp;omega),Below.heap_setCell _ _ _ _ (by simp;omega),Below.heap_alloc _ _ _ h2])
    have h2:=vz (b:=w.heap.size) h (by have:=Hsz.out;omega);have e:(l++[(sx,sy)]).length=n:=Hlen.out;rw[List.nil_append] at h2;simp only[e];exact h2
def ke (v:Vec) (k:Nat):List Nat:=v.length :: (v.take k).flatMap qz
theorem zpq {v:Vec} {k:Nat} (h:k<v.length):ke v (k+1)=ke v k++qz (ze v k):=by
 unfold ke;rw[List.take_succ_eq_append_getElem h,List.flatMap_append,ja h];simp
theorem zpr (v:Vec):ke v v.length=zl v:=by unfold ke zl;rw[List.take_length]
theorem zyy {v:Vec} {k:Nat}:(ke v k).length≤(zl v).length:=by
 unfold ke zl;rw[List.length_cons,List.length_cons];have h:v.flatMap qz=(v.take k).flatMap qz++(v.drop k).flatMap qz:=by rw[←List.flatMap_append,List.take_append_drop]
 rw[h,List.length_append];omega
theorem zps (l:List Iv) (k:Nat) (h:k<l.length):qf (l.take (k+1))=qf (l.take k)++[(za l k).1,(za l k).2]:=by
 unfold qf;rw[List.take_succ_eq_append_getElem h,List.flatMap_append,yw h];simp
theorem zf3 (l:List Iv):(qf l).length=2*l.length:=by
 unfold qf
 induction l with
 | nil=>rfl
 | cons s l ih=>simp only[List.flatMap_cons,List.length_append,ih,List.length_cons,List.length_nil];omega
set_option maxRecDepth 20000 in
theorem zpt (a:Option Addr) (n cap:Nat) (v:Vec) (w:World) (hE:Ents w a n cap v) (hN:(zl v).length≤1000000000000):
 Calls Tryz.prog 135 #[.slice a n cap] w fun x w'=>(∃y,x=.returned y∧w'.ownsRow w.heap.size 43 1 y (zl v).length (zo (zl v)))∧Below w.heap.size w w':=by
 have HE:=hid hE;have HN:=hid hN;have Hl:=hid hE.len;have hm:n≤9223372036854775807:=Nat.le_trans hE.room hE.most;have hw:IntKind.u64.wrap (n:Int)=(n:Int):=by rw[IntKind.wrap_u64];omega
 have ho0:=World.ownsRow_lit (e:=43) (size:=1) (base:=w.heap.size) w (zo [n]).toArray 1 (Nat.le_refl _) (by unfold maxLen;omega) rfl;have Ho0:=hid ho0;have hb0:Below w.heap.size w (w.alloc (.cells (zo [n]).toArray 43)):=(Below.refl _ _).alloc (Nat.le_refl _) _;clear hE hN ho0;go_enter Tryz.func135,Tryz.ntmps135;go_wp2;go_loopw [3,4,5] (fun y i _ wr=>∃k:Nat,k≤n∧i=.int .i64 k∧Below w.heap.size w wr∧Hid (wr.ownsRow w.heap.size 43 1 y (ke v k).length (zo (ke v k)))) (fun _ i _ _=>n - (intOf i).toNat)
 case atStart=>exact⟨0,by omega,rfl,hb0,by
  have:=Ho0.out;rw[show ke v 0=[n] from by unfold ke;rw[Hl.out];rfl];exact this⟩
 case round=>
  obtain⟨k,hk,rfl,hb,ho⟩:=hrel;have Hb:=hid hb;clear hb;by_cases hkn:k<n
  · have hkv:k<v.length:=by rw[Hl.out];exact hkn
    obtain⟨bb,oo,rfl⟩:=HE.out.some (by omega);obtain⟨x,m,c,hq⟩:=HE.out.fix hkn;have Hst:=hid (zpq hkv);have Hpl:=hid (zyy (v:=v) (k:=k+1));obtain⟨-,-,-,hIv⟩:=hq _ (Below.refl _ _);have HIv:=hid hIv;obtain⟨P1,hP1⟩:∃P1,ke v (k+1)=P1:=⟨_,rfl⟩;rw[hP1] at Hst Hpl;have HP1:=hid hP1;clear hP1;generalize ke v k=P at*;generalize ze v k=e at*;obtain⟨er,em,eh⟩:=e;simp only at hq HIv hIv;have Hel:=hid hIv.len;have hcm:m≤9223372036854775807:=Nat.le_trans hIv.room hIv.most;have hwm:IntKind.u64.wrap (m:Int)=(m:Int):=by rw[IntKind.wrap_u64];omega
    have Hlen:=hid (show P.length+3+2*m≤1000000000000 from by
     have h1:=Hpl.out;have h2:=HN.out;rw[Hst.out,List.length_append] at h1;simp only[qz,List.length_cons,zf3,Hel.out] at h1;omega)
    have hbr:Below w.heap.size w wr:=Hb.out;have r1:∀w',Below w.heap.size wr w'→w'.cell? ⟨bb,oo+k*3,none⟩=some (.int .u64 er):=fun w' h=>(hq w' (hbr.trans h)).1
    have r2:∀w',Below w.heap.size wr w'→w'.cell? ⟨bb,oo+k*3+1,none⟩=some (.int .u64 em):=fun w' h=>(hq w' (hbr.trans h)).2.1
    have r3:∀w',Below w.heap.size wr w'→w'.cell? ⟨bb,oo+k*3+2,none⟩=some (.slice x m c):=fun w' h=>(hq w' (hbr.trans h)).2.2.1
    have h0:(0:Int)≤k:=by omega
    have h04:(k:Int)<(n:Int):=by omega
    have HoW:=hid (fun W (h:Below wr.heap.size wr W)=>qc ho.out h);clear hIv;go_wp2_with fail;have hz:w.heap.size≤wr.heap.size:=Hb.out.size;have R3:=hid (fun w' (h:Below w.heap.size w w')=>(hq w' h).2.2.1);clear hq
    go_region_held3 (fun w'=>Below w.heap.size wr w') (first | assumption | exact(Below.refl _ _).drew | exact Below.alloc (by assumption) (Nat.le_trans hz (Below.size (by assumption))) _) (first
     | (refine zmv rfl (.tmp 16) (.tmp 34) rfl rfl w.heap.size _ P.length P rfl (HoW.out _ (by first | exact((Below.refl _ _).alloc (Nat.le_refl _) _).drew | exact((Below.refl _ _).drew).alloc (by simp) _)) _ 3 _ [er,em,m] rfl (vy (by first | exact yp _ _ _ (by simp) | exact zdv _ _ _ _ (yp _ _ _ (by simp))) rfl rfl) (by have:=Hlen.out;omega) (by simp <;> omega) ?_
        intro v1 w1 ho1 hg1
        have hS1:Below w.heap.size wr w1:=by
         refine Below.grown (B:=w.heap.size) (by assumption) hg1 (by simp <;> omega) ?_;intro j hj;exact((HoW.out wr (Below.refl _ _)).lt j hj).1))
    all_goals
     have Hb1:=hid (hbr.trans hS1);have Ho1:=hid ho1;clear hS1 hg1 ho1;go_wp2;go_loopw [3,5] (fun y j wi=>∃d:Nat,d≤m∧j=.int .i64 d∧Below w.heap.size w wi∧Hid (wi.ownsRow w.heap.size 43 1 y (P++[er,em,m]++qf (eh.take d)).length (zo (P++[er,em,m]++qf (eh.take d))))) (fun _ j _=>m - (intOf j).toNat)
     case atStart=>exact⟨0,by omega,rfl,Hb1.out,by
      have:=Ho1.out;rw[show (P++[er,em,m]++qf (eh.take 0))=P++[er,em,m] from by simp[qf]];rw[List.length_append];exact this⟩
     case round=>
      obtain⟨d,hd,rfl,hbi,hoi⟩:=hrel;have Hbi:=hid hbi;clear hbi;have s3:=R3.out wr Hbi.out;have Hel2:=hid (show d<m→qf (eh.take (d+1))=qf (eh.take d)++[(za eh d).1,(za eh d).2] from fun h=>zps eh d (by rw[Hel.out];exact h))
      have Hnl:=hid (show (P++[er,em,m]++qf (eh.take d)).length≤P.length+3+2*d from by
       rw[List.length_append,List.length_append,zf3,List.length_take];simp only[List.length_cons,List.length_nil];omega)
      by_cases hdm:d<m
      · obtain⟨hb,ho,rfl,hc⟩:=HIv.out.cells (by omega);obtain⟨c1,c2⟩:=hc d hdm;clear hc;have Hel2:=hid (Hel2.out hdm);generalize qf (eh.take d)=N at*;generalize za eh d=p at*;obtain⟨px,py⟩:=p;simp only at c1 c2 Hel2;have h0d:(0:Int)≤d:=by omega
        have h04d:(d:Int)<(m:Int):=by omega
        obtain⟨wz,hwz⟩:∃wz:World,wz=wr:=⟨_,rfl⟩;have hz2:w.heap.size≤wr.heap.size:=Hbi.out.size;have s1:∀w',Below w.heap.size wr w'→w'.cell? ⟨bb,oo+k*3+2,none⟩=some (.slice (some ⟨hb,ho,none⟩) m c):=fun w' h=>R3.out w' (Hbi.out.trans h)
        have s4:∀w',Below w.heap.size wr w'→w'.cell? ⟨hb,ho+d*2,none⟩=some (.int .u64 px):=fun w' h=>((Hbi.out.trans h).cell (p:=⟨hb,ho+d*2,none⟩) (zh c1)).trans c1
        have s5:∀w',Below w.heap.size wr w'→w'.cell? ⟨hb,ho+d*2+1,none⟩=some (.int .u64 py):=fun w' h=>((Hbi.out.trans h).cell (p:=⟨hb,ho+d*2+1,none⟩) (zh c2)).trans c2
        have HoI:=hid (fun W (h:Below wr.heap.size wr W)=>qc hoi.out h);clear c1 c2 hwz;go_wp2_with fail;clear s3
        go_region_held3 (fun w'=>Below w.heap.size wr w') (first | assumption | exact(Below.refl _ _).drew | exact Below.alloc (by assumption) (Nat.le_trans hz2 (Below.size (by assumption))) _) (first
         | (refine zmv rfl (.tmp 46) (.tmp 65) rfl rfl w.heap.size _ _ (P++[er,em,m]++N) rfl (HoI.out _ (by first | exact((Below.refl _ _).alloc (Nat.le_refl _) _).drew | exact((Below.refl _ _).drew).alloc (by simp) _)) _ 2 _ [px,py] rfl (vy (by first | exact yp _ _ _ (by simp) | exact zdv _ _ _ _ (yp _ _ _ (by simp))) rfl rfl) (by have:=Hlen.out;have:=Hnl.out;omega) (by simp <;> omega) ?_
            intro v2 w2 ho2 hg2
            have hS2:Below w.heap.size wr w2:=by
             refine Below.grown (B:=w.heap.size) (by assumption) hg2 (by simp <;> omega) ?_;intro j hj;exact((HoI.out wr (Below.refl _ _)).lt j hj).1))
        all_goals
         go_wp2;go_roundw
         case rel=>exact⟨d+1,by omega,by go_num,Hbi.out.trans hS2,by
          rw[Hel2.out,←List.append_assoc];rw[List.length_append (bs:=[px,py])];exact ho2⟩
         case measure=>simp[intOf];omega
      · obtain rfl:d=m:=by omega
        have Hoi:=hid hoi.out
        have hall:P++[er,em,d]++qf (eh.take d)=P1:=by
         rw[Hst.out,List.take_of_length_le (by rw[Hel.out];exact Nat.le_refl _),List.append_assoc];simp only[qz,Hel.out]
         rfl
        rw[hall] at Hoi;clear hall;go_wp2;go_roundw
        case rel=>exact⟨k+1,by omega,by go_num,Hbi.out,by rw[HP1.out];exact Hoi.out⟩
        case measure=>simp[intOf];omega
  · obtain rfl:k=n:=by omega
    have Ho:=hid ho.out;rw[←Hl.out,zpr] at Ho;go_wp2;go_ret;exact⟨⟨_,rfl,Ho.out⟩,Hb.out⟩
end
section
def jv (k:Kno):List Iv:=k.flatMap (·.1)
theorem zkr {k:Kno} {d:Nat} (h:d<k.length):jv (k.take (d+1))=jv (k.take d)++(zb k d).1:=by
 unfold jv;rw[List.take_succ_eq_append_getElem h,List.flatMap_append,ym h];simp
theorem zyz (k:Kno):(jv k).length=zu k:=by
 induction k with
 | nil=>rfl
 | cons f k ih=>unfold jv at ih ⊢;rw[List.flatMap_cons,List.length_append,ih,zu]
theorem zy0 (k:Kno) (d:Nat):(jv (k.take d)).length≤zu k:=by rw[zyz];exact zkm k d
theorem zhx {k:Kno} {s:Iv}:s∈jv k↔∃f∈k,s∈f.1:=by unfold jv;exact List.mem_flatMap
def zbp (k:Kno) (x:Nat):Nat:=(jy (fun i=>if mem (zb k i).1 x=true then some i else none) k.length).getD 0
theorem zy1 {k:Kno} {x:Nat} (h:∃f∈k,mem f.1 x=true):zhl (jy (fun i=>if mem (zb k i).1 x=true then some i else none) k.length)=((zbp k x:Nat):Int):=by
 unfold zbp
 cases hf:jy (fun i=>if mem (zb k i).1 x=true then some i else none) k.length with
 | some i=>rfl
 | none=>
  obtain⟨f,hf',hm⟩:=h;obtain⟨i,hi,rfl⟩:=List.getElem_of_mem hf';have:=zdx hf i hi;rw[ym hi,if_pos hm] at this;cases this
end
section
open Go.RowKit
theorem zy2 (f:Value) (w:World):Calls Tryz.prog 216 #[.slice none 0 0,.int .i64 0,.int .i64 0,f] w fun e w'=>e=.returned (.tuple #[])∧w'=w:=by
 go_enter Tryz.func216,Tryz.ntmps216;go_wp2;go_loopw [8,9] (fun i _ wr=>i=.int .i64 1∧wr=w) (fun _ _ _=>0)
 case atStart=>exact⟨rfl,rfl⟩
 case round=>
  obtain⟨rfl,rfl⟩:=hrel;go_wp2;go_end0
  exact⟨rfl,rfl⟩
theorem zy3 (f l:Value) (w:World):Calls Tryz.prog 176 #[.slice none 0 0,.int .i64 0,.int .i64 0,l,f] w fun e w'=>e=.returned (.tuple #[])∧w'=w:=by
 go_enter Tryz.func176,Tryz.ntmps176;go_wp2;go_loopw [1,2,3,10,11,12,13,14,15,16,17,18,19,20] (fun a b _ _ _ _ _ _ _ _ _ _ _ _ wr=>a=.int .i64 0∧b=.int .i64 0∧wr=w) (fun _ _ _ _ _ _ _ _ _ _ _ _ _ _ _=>0)
 case atStart=>exact⟨rfl,rfl,rfl⟩
 case round=>
  obtain⟨rfl,rfl,rfl⟩:=hrel;go_wp2_with (go_at_call 216;refine(zy2 _ _).mono ?_;rintro e w' ⟨rfl,rfl⟩);exact bodyPost_ret (results_none rfl _ _ _) rfl ⟨rfl,rfl⟩
theorem zy4 (w:World):Calls Tryz.prog 129 #[.slice none 0 0,.func (.func 130) #[] #[]] w fun e w'=>e=.returned (.tuple #[])∧w'=w:=by
 have Hl:=hid (fun w=>Tryz.bits_Len (0:Int) w (by omega) (by omega));have wr:IntKind.u64.wrap (0:Int)=0:=rfl;go_enter Tryz.func129,Tryz.ntmps129;go_wp2_with (first | (go_at_call 177;refine(Hl.out _).mono ?_;rintro e w' ⟨rfl,rfl⟩) | (go_at_call 176;refine(zy3 _ _ _).mono ?_;rintro e w' ⟨rfl,rfl⟩));go_end0
 exact⟨rfl,rfl⟩
theorem zy5 (n:Nat):(madeCells (Value.int .i64 0).cells (n*1)).toList=qo (List.replicate n 0):=by
 apply List.ext_getElem?;intro i;by_cases h:i<n
 · simp[madeCells,qo,Value.cells,h,Nat.mod_one]
 · simp[madeCells,qo,h]
theorem zy6 (w:World) (base n:Nat) (hn:n≤1000000) (hb:base≤w.heap.size):
 ∃w',(Instr.makeSlice 60 (.int .i64 (n:Int)) (.int .i64 (n:Int))).run Tryz.prog w=.ok (.slice (some ⟨w.heap.size,0,none⟩) n n) w'∧w'.ownsRow base 3 1 (.slice (some ⟨w.heap.size,0,none⟩) n n) n (qo (List.replicate n 0))∧Below w.heap.size w w':=by
 obtain⟨i,hi,hz⟩:=Option.map_eq_some_iff.1 Tryz.info_int;simp only[Prod.mk.injEq] at hz;obtain⟨h1,h2,h3⟩:=hz;obtain⟨w',hr,ho,hg⟩:=run_make_full (P:=Tryz.prog) w base 60 3 i _ 1 Tryz.underlying60 hi h1 h2 .i64 .i64 n (by rw[h3];omega) (by unfold maxLen;omega) hb;rw[zy5] at ho;exact⟨w',hr,ho,(Below.refl _ _).grown hg (Nat.le_refl _) (by intro k h;cases h)⟩
theorem zy7 {w:World} {g n c:Nat} {l:List Iv} (h:Ivs w (some ⟨g,0,none⟩) n n l) (h1:n≤c) (h2:c≤maxLen):Ivs w (some ⟨g,0,none⟩) n c l:=
 ⟨h.len,h.lt,h1,by unfold maxLen at h2;omega,(fun e=>by cases e),h.cells⟩
theorem zpu {w w':World} {p:Nat→Prop} {g n c:Nat} {l:List Iv} (h:Ivs w (some ⟨g,0,none⟩) n c l) (hk:Kept p w w') (hg:p g):Ivs w' (some ⟨g,0,none⟩) n c l:=by
 refine⟨h.len,h.lt,h.room,h.most,h.nilc,fun hn=>?_⟩;obtain⟨b,o,e,hc⟩:=h.cells hn;cases e;exact⟨g,0,rfl,fun i hi=>⟨hk.cell (hc i hi).1 hg,hk.cell (hc i hi).2 hg⟩⟩
def zy8 (base:Nat) (ss:List Value):Prop:=∀p n c,Value.slice (some p) n c∈ss→0<n→base≤p.block
def OwnV2 (w:World) (base:Nat) (x:Value) (v:Vec):Prop:=∃ss,w.ownsRow base 93 3 x v.length (zah v ss)∧HolesT w 0 v ss∧zy8 base ss
theorem OwnV2.toOwnV {w:World} {base:Nat} {x:Value} {v:Vec} (h:OwnV2 w base x v):OwnV w base x v:=let ⟨ss,h1,h2,_⟩:=h;⟨ss,h1,h2⟩
theorem zpv (w:World) (base:Nat):OwnV2 w base (.slice none 0 0) []:=⟨[],World.ownsRow_nil ..,zod w 0,fun p n c h=>by cases h⟩
theorem OwnV2.lower {w:World} {base base':Nat} {x:Value} {v:Vec} (h:OwnV2 w base x v) (hb:base'≤base):OwnV2 w base' x v:=by
 obtain⟨ss,ho,hh,ha⟩:=h;exact⟨ss,vz ho hb,hh,fun p n c h1 h2=>Nat.le_trans hb (ha p n c h1 h2)⟩
theorem OwnV2.lt {w:World} {base:Nat} {v:Value} {vs:Vec} (h:OwnV2 w base v vs):∀k,v.ownBlock=some k→base≤k∧k<w.heap.size:=h.toOwnV.lt
theorem zpw {w w':World} {a:Option Addr} {n c:Nat} {l:List Iv} (h:IvsT w 0 a n c l) (hs:0<n→∀p,a=some p→p.block<w.heap.size→w'.heap[p.block]?=w.heap[p.block]?):IvsT w' 0 a n c l:=by
 refine⟨⟨h.ivs.len,h.ivs.lt,h.ivs.room,h.ivs.most,h.ivs.nilc,fun hn=>?_⟩,fun hn p hp=>?_⟩
 · obtain⟨b,o,ha,hc⟩:=h.ivs.cells hn;have hrow:=hs hn _ ha (zh (hc 0 hn).1);exact⟨b,o,ha,fun i hi=>⟨(World.cell?_of_block (a:=⟨b,o+i*2,none⟩) hrow).trans (hc i hi).1,(World.cell?_of_block (a:=⟨b,o+i*2+1,none⟩) hrow).trans (hc i hi).2⟩⟩
 · obtain⟨b,o,ha,hc⟩:=h.ivs.cells hn;have hrow:=hs hn _ ha (zh (hc 0 hn).1);rw[ha] at hp;cases hp;rcases h.row hn _ ha with h' | ⟨C,fr,h'⟩
   · omega
   · exact .inr ⟨C,fr,hrow.trans h'⟩
theorem OwnV2.same {w w':World} {base:Nat} {x:Value} {v:Vec} (h:OwnV2 w base x v) (hk:∀k,base≤k→k<w.heap.size→w'.heap[k]?=w.heap[k]?):OwnV2 w' base x v:=by
 obtain⟨ss,ho,hh,ha⟩:=h;refine⟨ss,qk ho hk,⟨hh.1,fun i hi=>?_⟩,ha⟩;obtain⟨a,n,c,h1,h2⟩:=hh.2 i hi;exact⟨a,n,c,h1,zpw h2 fun hn p hp hw=>hk _ (ha p n c (by rw[←hp];exact List.mem_of_getElem? h1) hn) hw⟩
theorem OwnV2.below {w w':World} {base:Nat} {x:Value} {v:Vec} (h:OwnV2 w base x v) (hb:Below w.heap.size w w'):OwnV2 w' base x v:=h.same fun k _ hk=>hb.block k hk
theorem zy9 {w:World} (base:Nat) (x:Value) (v:Vec) (e:Ent) (hown:OwnV2 w base x v) (a:Option Addr) (n c:Nat) (hI:IvsT w 0 a n c e.2.2) (hB:0<n→∀p,a=some p→base≤p.block) (A:Option Addr) (cA:Nat)
 (hr:Rd w 3 A 1 [.int .u64 ((e.1:Nat):Int),.int .u64 ((e.2.1:Nat):Int),.slice a n c]) (hb:v.length+1≤1000000) (hbase:base≤w.heap.size):
 ∃x' w',(Builtin.append_ #[95,95] 95 #[x,.slice A 1 cA]).run Tryz.prog w=.ok x' w'∧OwnV2 w' base x' (v++[e])∧w.grownBy w' x.ownBlock:=by
 obtain⟨ss,ho,hh,ha⟩:=hown;obtain⟨x',w',h1,h2,h3⟩:=zbi base _ _ _ _ 3 40 Tryz.underlying95 Tryz.info_ent rfl (by omega) x v.length _ ho A 1 cA _ hr (by simp[Value.oneCell']) (by unfold maxLen;omega) (by omega) hbase;have hs:Steady base zat w w':=.grown ho h3 (by intro h;cases h);refine⟨x',w',h1,⟨ss++[.slice a n c],?_,(hh.steady (hs.lower (Nat.zero_le _)) rfl).snoc (hI.steady (hs.lower (Nat.zero_le _)) rfl),fun p n' c' hm hn'=>?_⟩,h3⟩
 · rw[zhe hh.1,List.length_append];exact h2
 · rcases List.mem_append.1 hm with h | h
   · exact ha p n' c' h hn'
   · rw[List.mem_singleton] at h;cases h;exact hB hn' p rfl
theorem zza {w:World} {ops:Array Oper} {rest:List Oper} {o:Oper} {a:Act} {Q:Exit→Act→World→Prop} (hgd:o.guard=none) (s x:Operand)
 (ho:o.op=.call { callee:=.builtin .append,args:= #[s,x],argTypes:= #[95,95] }) (hty:o.type=95)
 (base:Nat) (v:Value) (vs:Vec) (hs:a.eval s=v) (hown:OwnV2 w base v vs) (A:Option Addr) (c:Nat) (e:Ent) (ea:Option Addr) (en ec:Nat) (hI:IvsT w 0 ea en ec e.2.2) (hB:0<en→∀p,ea=some p→base≤p.block) (hx:a.eval x=.slice A 1 c)
 (hr:Rd w 3 A 1 [.int .u64 ((e.1:Nat):Int),.int .u64 ((e.2.1:Nat):Int),.slice ea en ec]) (hb:vs.length+1≤1000000) (hbase:base≤w.heap.size)
 (h:∀v' w',OwnV2 w' base v' (vs++[e])→w.grownBy w' v.ownBlock→wpList Tryz.prog ops Q rest (a.put o.dst v') w'):wpList Tryz.prog ops Q (o :: rest) a w:=by
 obtain⟨v',w',hrun,h1,h2⟩:=zy9 base v vs e hown ea en ec hI hB A c hr hb hbase;exact jh _ _ _ ho (by simp[Region.wanted,hgd]) _ _ hs hx v' w' (by rw[hty];exact hrun) (h v' w' h1 h2)
theorem zzb {base:Nat} {f:Ent} {x:Ending} {w':World} (h:zha base (some f) x w') (hl:zk f.2.2):∃a c,x=.returned (.tuple #[zbm f (.slice a f.2.2.length c),.bool true])∧(∀b,IvsT w' b a f.2.2.length c f.2.2)∧∀p,a=some p→base≤p.block:=by
 obtain⟨s,rfl,ho⟩:=h;obtain⟨a,c,rfl,h0⟩:=zda (base':=0) ho hl;exact⟨a,c,rfl,fun b=>h0.raise (Nat.zero_le _),fun p hp=>by subst hp;exact(ho.lt _ rfl).1⟩
theorem zks {c:Nat} (a:Nat) (h:c≠0):zem (c:Int) (a:Int)=some ((c:Int),some (a:Int)):=by
 unfold zem;rw[if_neg (by omega)]
theorem zzc (r:Nat) (e:Ent) (s:Value) (w:World):Calls Tryz.prog 171 #[.int .u64 r,zbm e s] w fun x w'=>x=.returned (.int .i64 (Lib.compareInt (e.1:Int) (r:Int)))∧Below w.heap.size w w':=by
 obtain⟨er,em,eh⟩:=e;obtain⟨q0,q1,q2⟩:=zd2 w (.int .u64 er) (.int .u64 em) s 93 _ (Below.refl _ _);have Hal:=hid ((Below.refl w.heap.size w).alloc (Nat.le_refl _) (.cells #[.int .u64 er,.int .u64 em,s] 93));go_enter Tryz.func171,Tryz.ntmps171;go_wp2_with fail;refine(ziu er r _).mono ?_;rintro e w1 ⟨rfl,rfl⟩;go_wp2;go_ret;exact⟨rfl,Hal.out⟩
set_option maxRecDepth 20000 in
theorem zzd (a:Option Addr) (n cap:Nat) (v:Vec) (w:World) (hE:Ents w a n cap v) (hD:Door w):
 Calls Tryz.prog 125 #[.slice a n cap] w fun x w'=>x=.returned (yt (zae (ckV v)))∧Below w.heap.size w w':=by
 have HE:=hid hE;have HD:=hid hD;have Hl:=hid hE.len;have hm:n≤9223372036854775807:=Nat.le_trans hE.room hE.most;have Hck:=hid (show ckV v=jy (zd3 v) v.length from rfl);clear hE hD;go_enter Tryz.func125,Tryz.ntmps125;go_wp2;go_loopw [3,4,5,8] (fun _ _ _ i wr=>∃k:Nat,k≤n∧i=.int .i64 k∧Below w.heap.size w wr∧Hid (∀j,j<k→zd3 v j=none)) (fun _ _ _ i _=>n - (intOf i).toNat)
 case atStart=>exact⟨0,by omega,rfl,Below.refl _ _,fun j h=>by omega⟩
 case round=>
  obtain⟨k,hk,rfl,hb,ht⟩:=hrel;have Hb:=hid hb;clear hb;by_cases hkn:k<n
  · have hkv:k<v.length:=by rw[Hl.out];exact hkn
    have HEr:=hid (HE.out.below Hb.out);obtain⟨bb,oo,rfl⟩:=HEr.out.some (by omega);obtain⟨x,m,c,hq⟩:=HEr.out.fix hkn;have Hat:=hid (show zd3 v k=match ckE (ze v k) with | some x=>some (x.1,k) | none=>if 0<k∧(ze v k).1≤(ze v (k - 1)).1 then some (3,k) else none from rfl);have Hp:=hid (show 0<k→∀w',Below wr.heap.size wr w'→w'.cell? ⟨bb,oo+(k - 1)*3,none⟩=some (.int .u64 (((ze v (k - 1)).1:Nat):Int)) from fun h0 w' h=>(HEr.out.at (k:=k - 1) (by omega) w' h).1);generalize ze v k=e at*;generalize ze v (k - 1)=p at*;have h0:(0:Int)≤k:=by omega
    have h04:(k:Int)<(n:Int):=by omega
    obtain⟨q1,q2,q3,-⟩:=hq _ (Below.refl _ _);have hal:Below wr.heap.size wr (wr.alloc (.cells #[.int .u64 e.1,.int .u64 e.2.1,.slice x m c] 93)):=(Below.refl _ _).alloc (Nat.le_refl _) _;have HX:=hid (zd2 wr (.int .u64 e.1) (.int .u64 e.2.1) (.slice x m c) 93);have hDa:=HD.out.below (Nat.le_refl _) (Hb.out.trans (hal.mono Hb.out.size));have hC:=hid (zyc e x m c (wr.alloc (.cells #[.int .u64 e.1,.int .u64 e.2.1,.slice x m c] 93)) (hq _ hal).2.2.2 hDa);have Hal:=hid hal;have HalW:=hid (Hb.out.trans (hal.mono Hb.out.size));clear hq hal hDa;obtain⟨er,em,eh⟩:=e;obtain⟨pr,pm,ph⟩:=p;simp only at q1 q2 q3 Hp Hat hC HX Hal HalW
    cases h:ckE (er,em,eh) with
    | some y=>
     obtain⟨cd,ci⟩:=y;rw[h] at Hat hC;simp only[zae,yt] at Hat hC;have hc0:=zot h;simp only at hc0;have Hr:=hid (zcq hkv ht.out Hat.out);clear h;go_wp2_with fail;refine hC.out.mono ?_;rintro z w1 ⟨rfl,hb1⟩;have Hb1:=hid (HalW.out.trans (hb1.mono HalW.out.size));clear hb1;go_wp2_with fail;refine(zc4 (some ((cd:Int),some (ci:Int))) _ (HD.out.below (Nat.le_refl _) Hb1.out)).mono ?_;rintro z w2 ⟨rfl,hb2⟩;have Hb2:=hid (Hb1.out.trans (hb2.mono Hb1.out.size));clear hb2;simp only[zcm];go_wp2_with fail;refine(zby cd k _).mono ?_;rintro z w3 ⟨rfl,rfl⟩;go_wp2;go_ret
     exact⟨by rw[Hck.out,Hr.out];show _=Ending.returned (yt (some ((cd:Int),some (k:Int))));rw[←zks k hc0];rfl,Hb2.out⟩
    | none=>
     rw[h] at Hat hC;simp only[zae,yt] at Hat hC;clear h;go_wp2_with fail;refine hC.out.mono ?_;rintro z w1 ⟨rfl,hb1⟩;have Hb1:=hid hb1;have Hw1:=hid (HalW.out.trans (hb1.mono HalW.out.size));clear hb1;by_cases hk0:0<k
     · have hg:decide (0<(k:Int))=true:=by rw[decide_eq_true_iff];omega
       have hsub:IntKind.i64.wrap ((k:Int) - 1)=((k - 1:Nat):Int):=by rw[IntKind.wrap_i64];omega
       have h01:(0:Int)≤((k - 1:Nat):Int):=by omega
       have h03:((k - 1:Nat):Int)<(n:Int):=by omega
       have HX1:=hid (fun w' (h:Below w1.heap.size w1 w')=>HX.out w' (Hb1.out.trans (h.mono Hb1.out.size)));have HP1:=hid (fun w' (h:Below w1.heap.size w1 w')=>Hp.out hk0 w' (Hal.out.trans ((Hb1.out.trans (h.mono Hb1.out.size)).mono Hal.out.size)));have hK:=hid (fun w'=>zzc pr (er,em,eh) (.slice x m c) w');generalize k - 1=k1 at*;by_cases hle:er≤pr
       · have Hr:=hid (zcq hkv ht.out (Hat.out.trans (if_pos ⟨hk0,hle⟩)))
         have hci:decide (Lib.compareInt (er:Int) (pr:Int)≤0)=true:=by
          unfold Lib.compareInt;rw[decide_eq_true_iff];split
          · omega
          · rw[if_neg (by omega)];omega
         generalize Lib.compareInt (er:Int) (pr:Int)=ci at*;clear hle;go_wp2_with fail;go_cut [33] (fun t wc=>t=.bool true∧Hid (Below w1.heap.size w1 wc))
         case first=>
          refine za1 (by kernel_rfl) (by kernel_rfl) ?_
          repeat (go_big_quiet_step ((intro hw;first
           | rfl
           | (have q0:=HX1.out _ hw
              have q1:=q0.1;have q2:=q0.2.1;have q3:=q0.2.2;have q4:=HP1.out _ hw;clear q0
              first
              | (go_at_call 171;exact zcn hw (hK.out _))
              | (go_simp
                 first | rfl | exact⟨rfl,hw⟩ | (trace_state;fail))))))
          refine wpQuiet_nil ?_;intro w3 hb3;go_wp2;go_meet
          exact⟨rfl,hb3⟩
         case rest=>
          obtain⟨rfl,hb2⟩:=hcut;have Hb2:=hid (Hw1.out.trans (hb2.out.mono Hw1.out.size));clear hb2;go_wp2_with fail;refine(zby 3 k _).mono ?_;rintro z w3 ⟨rfl,rfl⟩;go_wp2;go_ret;exact⟨by rw[Hck.out,Hr.out];rfl,Hb2.out⟩
       · have Hr:=hid (zfe ht.out (Hat.out.trans (if_neg (fun h=>hle h.2))))
         have hci:decide (Lib.compareInt (er:Int) (pr:Int)≤0)=false:=by
          unfold Lib.compareInt;rw[decide_eq_false_iff_not,if_neg (by omega),if_pos (by omega)];omega
         generalize Lib.compareInt (er:Int) (pr:Int)=ci at*;clear hle;go_wp2_with fail;go_cut [33] (fun t wc=>t=.bool false∧Hid (Below w1.heap.size w1 wc))
         case first=>
          refine za1 (by kernel_rfl) (by kernel_rfl) ?_
          repeat (go_big_quiet_step ((intro hw;first
           | rfl
           | (have q0:=HX1.out _ hw
              have q1:=q0.1;have q2:=q0.2.1;have q3:=q0.2.2;have q4:=HP1.out _ hw;clear q0
              first
              | (go_at_call 171;exact zcn hw (hK.out _))
              | (go_simp
                 first | rfl | exact⟨rfl,hw⟩ | (trace_state;fail))))))
          refine wpQuiet_nil ?_;intro w3 hb3;go_wp2;go_meet
          exact⟨rfl,hb3⟩
         case rest=>
          obtain⟨rfl,hb2⟩:=hcut;have Hb2:=hid (Hw1.out.trans (hb2.out.mono Hw1.out.size));clear hb2;go_wp2;go_roundw
          case rel=>exact⟨k+1,by omega,by go_num,Hb2.out,Hr.out⟩
          case measure=>simp[intOf];omega
     · have hg:decide (0<(k:Int))=false:=by rw[decide_eq_false_iff_not];omega
       have hgn:decide (0<k)=false:=by rw[decide_eq_false_iff_not];exact hk0
       have Hr:=hid (zfe ht.out (Hat.out.trans (if_neg (fun h=>hk0 h.1))));clear hk0;go_wp2;go_quiet (fail);go_wp2;go_roundw
       case rel=>exact⟨k+1,by omega,by go_num,by first | exact Hw1.out | exact zy Hw1.out _,Hr.out⟩
       case measure=>simp[intOf];omega
  · obtain rfl:k=n:=by omega
    have Hr:=hid (zcr (n:=v.length) (fun j hj=>ht.out j (by rw[←Hl.out];exact hj)));go_wp2;go_ret;exact⟨by rw[Hck.out,Hr.out];rfl,Hb.out⟩
end
section
open Go.RowKit Go.Shelf
theorem zpx (e:Ent) (a:Option Addr) (n c:Nat) (w:World) (hI:Ivs w a n c e.2.2) (hG:Good e.2.2) (hm:e.2.1<18446744073709551616) (hn:2*e.2.2.length+3≤900000):
 Calls Tryz.prog 286 #[zbm e (.slice a n c)] w fun x w'=>zew w.heap.size (jo e) x w'∧Below w.heap.size w w':=by
 obtain⟨r,m,hs⟩:=e;have HI:=hid hI;have Hg:=hid hG;have Hn:=hid hn;have Hm:=hid hm;clear hI hG hn hm;go_enter Tryz.func286,Tryz.ntmps286;go_wp2_with fail;have hal:Below w.heap.size w (w.alloc (.cells #[.int .u64 r,.int .u64 m,.slice a n c] 93)):=(Below.refl _ _).alloc (Nat.le_refl _) _;have q1:(w.alloc (.cells #[.int .u64 r,.int .u64 m,.slice a n c] 93)).cell? ⟨w.heap.size,1,none⟩=some (.int .u64 m):=by simp[go_sem]
 have q2:(w.alloc (.cells #[.int .u64 r,.int .u64 m,.slice a n c] 93)).cell? ⟨w.heap.size,2,none⟩=some (.slice a n c):=by simp[go_sem]
 have Ha:=hid hal;clear hal;generalize w.alloc (.cells #[.int .u64 r,.int .u64 m,.slice a n c] 93)=W at*
 go_region_with (first
  | (go_at_call 290;refine(zpn _ _).mono ?_;rintro e w1 ⟨rfl,hb1⟩
     have q3:=(hb1.cell (zh q2)).trans q2
     have Hb1:=hid (show Below W.heap.size W w1 from⟨hb1.os,hb1.tape,hb1.output,hb1.size,hb1.block⟩);clear hb1)
  | (go_at_call 289;refine(zpm a n c hs (0,m) _ (HI.out.below (Ha.out.trans (Hb1.out.mono Ha.out.size))) Hg.out (Nat.zero_le _) Hm.out (by have:=Hn.out;simp at this;omega)).mono ?_
     rintro e w2 ⟨⟨v,rfl,ho⟩,hb2⟩;have Ho:=hid ho;have Hb2:=hid hb2;clear ho hb2))
 all_goals go_wp2
 all_goals go_ret
 all_goals exact⟨⟨v,rfl,vz Ho.out (Nat.le_trans Ha.out.size Hb1.out.size)⟩,Ha.out.trans ((Hb1.out.trans (Hb2.out.mono Hb1.out.size)).mono Ha.out.size)⟩
set_option maxRecDepth 20000 in
theorem zze (r:Nat) (a:Option Addr) (n c:Nat) (L:List Iv) (w:World) (hI:Ivs w a n c L) (hG:Good L) (hn:2*L.length+3≤900000):
 Calls Tryz.prog 270 #[.int .u64 r,.slice a n c] w fun x w'=>zha w.heap.size (ofE r L) x w'∧Below w.heap.size w w':=by
 rcases zca L with rfl | ⟨l,t,rfl⟩
 · obtain rfl:n=0:=by simpa using hI.len.symm
   have e:ofE r []=none:=rfl;rw[e];clear hI hG hn e;go_enter Tryz.func270,Tryz.ntmps270;go_wp2;refine bodyPost_ret (v:=.tuple #[zbm (0,0,[]) (.slice none 0 0),.bool false]) (by simp[results,Tryz.results270,go_sem]) rfl ?_;exact⟨rfl,(Below.refl _ _).alloc (Nat.le_refl _) _⟩
 · have hne:l++[t]≠[]:=by simp
   have htop:v7 (l++[t])=t.2:=by simp[v7]
   have e:ofE r (l++[t])=some (r,t.2,opL js [(0,t.2)] (l++[t])):=by unfold ofE;rw[if_neg hne,htop]
   rw[e];have hlen:=hI.len;rw[List.length_append,List.length_singleton] at hlen;obtain⟨bb,oo,rfl,hcell⟩:=hI.cells (by omega);obtain⟨-,c2⟩:=hcell l.length (by omega);have hnt:za (l++[t]) l.length=t:=by simp[za]
   rw[hnt] at c2;have HI:=hid hI;have Hg:=hid hG;have Hn:=hid hn;have Ht:=hid (hI.lt t (by simp)).2;obtain⟨k,hk⟩:∃k:Nat,k=l.length:=⟨_,rfl⟩;rw[←hk] at c2 hlen;have hsub:IntKind.i64.wrap ((n:Int) - 1)=(k:Int):=by have:=hI.room;have:=hI.most;rw[IntKind.wrap_i64];omega
   have hz:((n:Int) == 0)=false:=by rw[beq_eq_false_iff_ne];omega
   have h01:(k:Int)<(n:Int):=by omega
   have hkn:k<n:=by omega
   have hnc:=hI.room;obtain⟨tx,ty⟩:=t;simp only at c2 Ht htop ⊢;have hal:Below w.heap.size w (w.alloc (.cells #[.int .u64 0,.int .u64 0,.slice none 0 0] 93)):=(Below.refl _ _).alloc (Nat.le_refl _) _;have q1:=(hal.cell (zh c2)).trans c2;have Ha:=hid hal;clear hI hG hn hcell hne htop e hk hlen hal hnt;go_enter Tryz.func270,Tryz.ntmps270;go_wp2_with (go_at_call 290;refine(zpn _ _).mono ?_;rintro e w1 ⟨rfl,hb1⟩;have Hb1:=hid hb1;clear hb1);refine(zpm _ _ _ _ (0,ty) _ (HI.out.below (Ha.out.trans (Hb1.out.mono Ha.out.size))) Hg.out (Nat.zero_le _) Ht.out (by have:=Hn.out;simp at this ⊢;omega)).mono ?_;rintro e w2 ⟨⟨v,rfl,ho⟩,hb2⟩;have Ho:=hid ho;have Hb2:=hid (Hb1.out.trans (hb2.mono Hb1.out.size));have hrow:w2.heap[w.heap.size]?=some (.cells #[.int .u64 0,.int .u64 0,.slice none 0 0] 93):=(Hb2.out.block _ (by simp)).trans (yh rfl);have z0:w2.cell? ⟨w.heap.size,0,none⟩=some (.int .u64 0):=by simp[World.cell?,hrow]
   have z1:w2.cell? ⟨w.heap.size,1,none⟩=some (.int .u64 0):=by simp[World.cell?,hrow]
   have z2:w2.cell? ⟨w.heap.size,2,none⟩=some (.slice none 0 0):=by simp[World.cell?,hrow]
   have z3:w2.frozen? ⟨w.heap.size,0,none⟩=false:=by simp[World.frozen?,hrow]
   have z4:w2.frozen? ⟨w.heap.size,1,none⟩=false:=by simp[World.frozen?,hrow]
   have z5:w2.frozen? ⟨w.heap.size,2,none⟩=false:=by simp[World.frozen?,hrow]
   have Hw:=hid (Ha.out.trans (Hb2.out.mono Ha.out.size));have Hs1:=hid (show w.heap.size<w1.heap.size from by have:=Hb1.out.size;simp at this;omega)
   obtain⟨vb,vn,vc,rfl⟩:∃vb vn vc,v=.slice vb vn vc:=by
    rcases ho.2 with ⟨rfl,_⟩ | ⟨g,cap,cur,rfl,_⟩
    · exact⟨_,_,_,rfl⟩
    · exact⟨_,_,_,rfl⟩
   clear ho hb2 hrow;go_wp2;refine bodyPost_ret (v:=.tuple #[.agg #[.int .u64 r,.int .u64 ty,.slice vb vn vc],.bool true]) (by simp[results,Tryz.results270,go_sem,z0,z1,z2]) rfl ?_;have Hh:∀(a:Addr) (u:Value) (W:World),a.block=w.heap.size→∀k,w1.heap.size≤k→(W.setCell a u).heap[k]?=W.heap[k]?:=fun a u W ha k hk=>Below.heap_setCell _ _ _ _ (by have:=Hs1.out;omega)
   refine⟨⟨_,rfl,vz (qk Ho.out (fun k hk1 _=>?_)) (Nat.le_of_lt Hs1.out)⟩,((Hw.out.setCell (Nat.le_refl _) _).setCell (Nat.le_refl _) _).setCell (Nat.le_refl _) _⟩;rw[Hh _ _ _ rfl k hk1,Hh _ _ _ rfl k hk1,Hh _ _ _ rfl k hk1]
