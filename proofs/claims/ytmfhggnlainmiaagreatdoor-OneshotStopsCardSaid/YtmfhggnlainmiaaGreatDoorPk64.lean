/- Part 64. -/
import Derived.Test.YtmfhggnlainmiaaGreatDoorPk63
set_option linter.unusedVariables false
set_option maxHeartbeats 16000000
namespace Go.Proofs.YtmfhggnlainmiaaGreatDoor
open Lib (hid)
section
open Go.RowKit
set_option maxRecDepth 20000 in
theorem yiu (a:Option Addr) (n cap:Nat) (k:Kno) (w:World) (hE:Frags w a n cap k) (hS:yg k≤1000) (hn:n≤1000):
 Calls Tryz.prog 84 #[.slice a n cap] w fun x w'=>(∃v u,x=.returned (.tuple #[v,u])∧Own2 w' w.heap.size (zk k) v u)∧Below w.heap.size w w':=by
 have HE:=hid hE;have Hl:=hid hE.len;have HS:=hid (fun d (hd:d≤k.length)=>show (k7 k d).length≤1000 from by rw[zfv k d hd];exact Nat.le_trans (zku k d) hS);have Hone:=hid (fun f (hf:f∈k)=>Nat.le_trans (zfj hf) hS)
 have HLt:=hid (show ∀d,d<k.length→∀e,∀s∈yi (zbt (k7 k d) ((za k d).1.take e) d),s.1<18446744073709551616∧s.2<18446744073709551616 from fun d hd e s hs=>by
  obtain⟨h1,-,h3⟩:=zep k d (Nat.le_of_lt hd);rcases yim h1 hs with h | h
  · obtain⟨p,hp,rfl⟩:=List.mem_map.1 h;exact(hE.all _ (yh (Nat.lt_trans (h3 p hp).1 hd))).1 _ (h3 p hp).2
  · exact(hE.all _ (yh hd)).1 _ (List.mem_of_mem_take h))
 clear hE hS;go_enter Tryz.func84,Tryz.ntmps84;go_wp2;go_loopw [4,5,6,7,8] (fun v u i _ _ wr=>∃d:Nat,d≤n∧i=.int .i64 d∧Below w.heap.size w wr∧Hid (Own2 wr w.heap.size (k7 k d) v u)) (fun _ _ i _ _ _=>n - (intOf i).toNat)
 case atStart=>exact⟨0,by omega,rfl,Below.refl _ _,yil _ _⟩
 case round=>
  obtain⟨d,hd,rfl,hb,ho⟩:=hrel;have Hb:=hid hb;clear hb;by_cases hdn:d<n
  · have hdk:d<k.length:=by rw[Hl.out];exact hdn
    obtain⟨bb,oo,rfl⟩:=HE.out.some (by omega);obtain⟨x,m,c,y,m',c',hq⟩:=HE.out.fix hdn;have Hq:=hid hq;have h0:(0:Int)≤d:=by omega
    have h04:(d:Int)<(n:Int):=by omega
    have Hfl:=hid (Hone.out _ (yh hdk));have HSd:=hid (HS.out d (Nat.le_of_lt hdk));have HLd:=hid (HLt.out d hdk);have HSd1:=hid (HS.out (d+1) hdk);have Hst:=hid (show k7 k (d+1)=zbt (k7 k d) (za k d).1 d from rfl);have hml:=(hq wr Hb.out).2.1.len;have Hml:=hid hml;have hm1:m≤1000:=by have:=Hfl.out;omega
    clear hq hml HS HLt Hone;generalize k7 k d=L0 at*;generalize za k d=f at*;obtain⟨fi,fv⟩:=f;simp only at Hst Hml Hq Hfl HLd;obtain⟨wo,hwo⟩:∃wo:World,wo=wr:=⟨_,rfl⟩;rw[←hwo] at Hb ho ⊢;clear hwo;go_wp2;go_loopw [4,5,7,8] (fun v u j _ wq=>∃e:Nat,e≤m∧j=.int .i64 e∧Below w.heap.size w wq∧Hid (Own2 wq w.heap.size (zbt L0 (fi.take e) d) v u)) (fun _ _ j _ _=>m - (intOf j).toNat)
    case atStart=>exact⟨0,by omega,rfl,Hb.out,ho⟩
    case round=>
     obtain⟨e,he,rfl,hbq,hoq⟩:=hrel;have Hbq:=hid hbq;obtain⟨qq,h1q,-,-⟩:=Hq.out wr hbq;clear hbq ho Hb;have he0:(0:Int)≤e:=by omega
     by_cases hem:e<m
     · have hel:e<fi.length:=by rw[Hml.out];exact hem
       have Hs:=hid (yig (L:=L0) (i:=d) hel);obtain⟨bi,oi,rfl,-⟩:=h1q.cells (by omega)
       have Hc:=hid (show ∀w',Below w.heap.size w w'→w'.cell? ⟨bb,oo+d*2,none⟩=some (.slice (some ⟨bi,oi,none⟩) m c)∧w'.cell? ⟨bi,oi+e*2,none⟩=some (.int .u64 (((zb fi e).1:Nat):Int))∧w'.cell? ⟨bi,oi+e*2+1,none⟩=some (.int .u64 (((zb fi e).2:Nat):Int)) from fun w' h=>by
        obtain⟨h1,h2,-⟩:=Hq.out w' h;obtain⟨b',o',e',hc⟩:=h2.cells (by omega);cases e';exact⟨h1,(hc e hem).1,(hc e hem).2⟩)
       have hLl:(zbt L0 (fi.take e) d).length≤1000:=by
        have h1:=HSd1.out;rw[Hst.out,zn6] at h1;rw[zn6,List.length_take];omega
       have HLe:=hid (HLd.out e);have hem':(e:Int)<(m:Int):=by omega
       clear h1q HLd;generalize zbt L0 (fi.take e) d=L at*;generalize zb fi e=s at*;obtain⟨sx,sy⟩:=s;simp only at Hc;obtain⟨wq,hwq⟩:∃wq:World,wq=wr:=⟨_,rfl⟩;rw[←hwq] at Hbq hoq qq ⊢;clear hwq;by_cases hLe:L=[]
       · obtain⟨rfl,rfl⟩:=hoq.out.nil hLe;subst hLe;go_wp2;go_loopw [8] (fun t wi=>t=.int .i64 0∧Below wq.heap.size wq wi) (fun t _=>0)
         case atStart=>exact⟨rfl,Below.refl _ _⟩
         case round=>
          obtain⟨rfl,hbi⟩:=hrel;have Hbi:=hid hbi;clear hbi;have Hwi:=hid (Hbq.out.trans (Hbi.out.mono Hbq.out.size));go_wp2;go_quiet (fail);go_wp2;have hzw:w.heap.size≤wr.heap.size:=Hwi.out.size;have zz1:∀w',Below wr.heap.size wr w'→w'.cell? ⟨bb,oo+d*2,none⟩=some (.slice (some ⟨bi,oi,none⟩) m c):=fun w' h=>(Hc.out w' (Hwi.out.trans (h.mono Hwi.out.size))).1
          have zz2:∀w',Below wr.heap.size wr w'→w'.cell? ⟨bi,oi+e*2,none⟩=some (.int .u64 ((sx:Nat):Int)):=fun w' h=>(Hc.out w' (Hwi.out.trans (h.mono Hwi.out.size))).2.1
          have zz3:∀w',Below wr.heap.size wr w'→w'.cell? ⟨bi,oi+e*2+1,none⟩=some (.int .u64 ((sy:Nat):Int)):=fun w' h=>(Hc.out w' (Hwi.out.trans (h.mono Hwi.out.size))).2.2
          go_region_held3 (fun w'=>Below wr.heap.size wr w') (first | assumption | exact Below.refl _ _ | exact(Below.refl _ _).drew | exact z7 (Below.refl _ _) _ | exact(z7 (Below.refl _ _) _).drew | exact Below.drew (by assumption) | exact Below.alloc (by assumption) (Below.size (by assumption)) _) (first
           | ((refine zfl rfl (.tmp 48) (.tmp 51) rfl rfl wr.heap.size _ 0 [] rfl (zet (by first | exact zh _ _ _ (by simp) | exact jp _ _ _ _ (zh _ _ _ (by simp))) (by first | omega | (simp <;> omega))) _ 0 _ [] rfl (zib _ _) (by first | omega | (simp <;> omega)) (by first | omega | (simp <;> omega)) ?_)
              intro v1 w5 ho1 hg1
              have hS1:Below wr.heap.size wr w5:=by
               refine Below.grown (B:=wr.heap.size) (by assumption) hg1 (by first | omega | (simp <;> omega)) ?_;intro j hj;simp[Value.ownBlock,Act.eval] at hj
               omega)
           | ((refine zfl rfl (.tmp 52) (.tmp 61) rfl rfl wr.heap.size _ _ _ rfl (by first | exact ho1 | exact ho1.alloc _ | exact zm ho1 ((Below.refl _ _).alloc (Nat.le_refl _) _)) _ 1 1 [(sx,sy)] rfl (by first | exact yq (zh _ _ _ (by simp)) rfl rfl | exact zei hg1 (yq (by first | exact zh _ _ _ (by simp) | exact jp _ _ _ _ (zh _ _ _ (by simp))) rfl rfl) (by simp[Value.ownBlock,Act.eval]) (by first | omega | (simp <;> omega))) (by first | omega | (simp <;> omega)) (by have:=hS1.size;simp <;> omega) ?_)
              intro v2 w6 ho2 hg2
              have hS2:Below wr.heap.size wr w6:=by
               refine Below.grown (B:=wr.heap.size) (by assumption) hg2 ?_ (fun j hj=>(ho1.lt j hj).1);have:=hS1.size
               simp <;> omega)
           | ((refine zfl rfl (.tmp 62) (.tmp 65) rfl rfl wr.heap.size _ _ _ rfl ho2 _ 0 _ [] rfl (zib _ _) (by first | omega | (simp <;> omega)) (by have:=hS2.size;simp <;> omega) ?_)
              intro v3 w7 ho3 hg3
              have hS3:Below wr.heap.size wr w7:=by
               refine Below.grown (B:=wr.heap.size) (by assumption) hg3 ?_ (fun j hj=>(ho2.lt j hj).1);have:=hS2.size;simp <;> omega))
          all_goals
           have hS3':=hS3.size;go_wp2_with fail
           go_region_held3 (fun w'=>Below w7.heap.size w7 w') (first | assumption | exact Below.refl _ _ | exact(Below.refl _ _).drew | exact z7 (Below.refl _ _) _ | exact(z7 (Below.refl _ _) _).drew | exact Below.drew (by assumption) | exact Below.alloc (by assumption) (Below.size (by assumption)) _) (first
            | ((refine zg7 rfl (.tmp 67) (.tmp 70) rfl rfl w7.heap.size _ 0 [] rfl (zet (by first | exact zh _ _ _ (by simp) | exact jp _ _ _ _ (zh _ _ _ (by simp))) (by first | omega | (simp <;> omega))) _ 0 _ [] rfl (zib _ _) (by first | omega | (simp <;> omega)) (by first | omega | (simp <;> omega)) ?_)
               intro v1u w5u ho1u hg1u
               have hS1u:Below w7.heap.size w7 w5u:=by
                refine Below.grown (B:=w7.heap.size) (by assumption) hg1u (by first | omega | (simp <;> omega)) ?_;intro j hj;simp[Value.ownBlock,Act.eval] at hj
                omega)
            | ((refine zg7 rfl (.tmp 71) (.tmp 73) rfl rfl w7.heap.size _ _ _ rfl (by first | exact ho1u | exact ho1u.alloc _ | exact zm ho1u ((Below.refl _ _).alloc (Nat.le_refl _) _)) _ 1 1 [d] rfl (by first | exact yq (zh _ _ _ (by simp)) rfl rfl | exact zei hg1u (yq (by first | exact zh _ _ _ (by simp) | exact jp _ _ _ _ (zh _ _ _ (by simp))) rfl rfl) (by simp[Value.ownBlock,Act.eval]) (by first | omega | (simp <;> omega))) (by first | omega | (simp <;> omega)) (by have:=hS1u.size;simp <;> omega) ?_)
               intro v2u w6u ho2u hg2u
               have hS2u:Below w7.heap.size w7 w6u:=by
                refine Below.grown (B:=w7.heap.size) (by assumption) hg2u ?_ (fun j hj=>(ho1u.lt j hj).1);have:=hS1u.size
                simp <;> omega)
            | ((refine zg7 rfl (.tmp 74) (.tmp 77) rfl rfl w7.heap.size _ _ _ rfl ho2u _ 0 _ [] rfl (zib _ _) (by first | omega | (simp <;> omega)) (by have:=hS2u.size;simp <;> omega) ?_)
               intro v3u w7u ho3u hg3u
               have hS3u:Below w7.heap.size w7 w7u:=by
                refine Below.grown (B:=w7.heap.size) (by assumption) hg3u ?_ (fun j hj=>(ho2u.lt j hj).1);have:=hS2u.size;simp <;> omega))
           all_goals go_wp2
           all_goals
            go_roundw
            case rel=>exact⟨e+1,by omega,by go_num,Hwi.out.trans ((hS3.trans (hS3u.mono hS3.size)).mono Hwi.out.size),by
             rw[Hs.out];refine⟨qt (zm ho3 hS3u) hzw,qt ho3u (Nat.le_trans hzw hS3.size),fun h=>by cases h⟩⟩
            case measure=>simp[intOf];omega
       · have hLp:0<L.length:=List.length_pos_iff.2 hLe;clear hLe;obtain⟨gv,cv,rfl,hgv,hgvl,hncv,hcmv⟩:=zcz hoq.out.ivs hLp;obtain⟨gu,cu,rfl,hgu,hgul,hncu,hcmu⟩:=zcz hoq.out.idx hLp;obtain⟨av,cv',hav,hIv⟩:=za2 hoq.out.ivs HLe.out;cases hav;have HIv:=hid hIv;clear hIv;go_wp2;go_loopw [8] (fun t wi=>∃p:Nat,p≤L.length∧t=.int .i64 p∧Below wq.heap.size wq wi∧Hid (∀i,i<p→(zb (yi L) i).1<sx)) (fun t _=>L.length - (intOf t).toNat)
         case atStart=>exact⟨0,by omega,rfl,Below.refl _ _,fun i h=>by omega⟩
         case round=>
          obtain⟨p,hp,rfl,hbi,ht⟩:=hrel;have Hbi:=hid hbi;clear hbi;have Hwi:=hid (Hbq.out.trans (Hbi.out.mono Hbq.out.size));have hp0:(0:Int)≤p:=by omega
          by_cases hpL:p<L.length
          · have hpL':(p:Int)<(L.length:Int):=by omega
            obtain⟨bv,ov,hbv,hcv⟩:=(HIv.out.below Hbi.out).cells (by omega);cases hbv;obtain⟨l1,-⟩:=hcv p hpL;rw[Nat.zero_add] at l1;obtain⟨z1,z2,-⟩:=Hc.out wr Hwi.out;clear hcv;by_cases hlt:(zb (yi L) p).1<sx
            · have hd1:decide (((zb (yi L) p).1:Int)<(sx:Int))=true:=by rw[decide_eq_true_iff];omega
              have hd2:decide ((zb (yi L) p).1<sx)=true:=by rw[decide_eq_true_iff];exact hlt
              have Hs2:=hid (zm6 (p:=fun i=>(zb (yi L) i).1<sx) ht.out hlt);generalize (zb (yi L) p).1=lx at*;clear hlt;go_wp2;go_quiet (fail);go_wp2;go_roundw
              case rel=>exact⟨p+1,by omega,by go_num,by first | exact Hbi.out | exact z7 Hbi.out _,Hs2.out⟩
              case measure=>simp[intOf];omega
            · have hd1:decide (((zb (yi L) p).1:Int)<(sx:Int))=false:=by rw[decide_eq_false_iff_not];omega
              have hd2:decide ((zb (yi L) p).1<sx)=false:=by rw[decide_eq_false_iff_not];exact hlt
              have Hpos:=hid (z4h ht.out hp (fun _=>hlt));generalize (zb (yi L) p).1=lx at*;clear hlt;go_wp2;go_quiet (fail);go_wp2;have hzw:w.heap.size≤wr.heap.size:=Hwi.out.size;have zz1:∀w',Below wr.heap.size wr w'→w'.cell? ⟨bb,oo+d*2,none⟩=some (.slice (some ⟨bi,oi,none⟩) m c):=fun w' h=>(Hc.out w' (Hwi.out.trans (h.mono Hwi.out.size))).1
              have zz2:∀w',Below wr.heap.size wr w'→w'.cell? ⟨bi,oi+e*2,none⟩=some (.int .u64 ((sx:Nat):Int)):=fun w' h=>(Hc.out w' (Hwi.out.trans (h.mono Hwi.out.size))).2.1
              have zz3:∀w',Below wr.heap.size wr w'→w'.cell? ⟨bi,oi+e*2+1,none⟩=some (.int .u64 ((sy:Nat):Int)):=fun w' h=>(Hc.out w' (Hwi.out.trans (h.mono Hwi.out.size))).2.2
              have hpc:p≤cv:=by omega
              have hpu:p≤cu:=by omega
              have hor:=hoq.out.below Hbi.out
              have Hhd:=hid (show ∀w',Below wr.heap.size wr w'→Rd w' 2 (some ⟨gv,0,none⟩) p (ivC ((yi L).take p)) from fun w' h=>by
               have:=zfk (zm hor.ivs h) p hp;rw[zu6] at this;exact Rd.own this)
              have Htl:=hid (show ∀w',Below wr.heap.size wr w'→Rd w' 2 (if cv=p then some ⟨gv,0,none⟩ else some ⟨gv,p*2,none⟩) (L.length - p) (ivC ((yi L).drop p)) from fun w' h=>by
               have h1:=(zm4 hor.ivs p hp).below h;rw[zu7] at h1;split
               · exact⟨h1.1,fun h0=>by omega⟩
               · exact h1)
              have Hou:=hid (show ∀w',Below wr.heap.size wr w'→w'.ownsRow w.heap.size 3 1 (.slice (some ⟨gu,0,none⟩) L.length cu) L.length (qi (qn L)) from fun w' h=>zm hor.idx h);clear hor
              go_region_held3 (fun w'=>Below wr.heap.size wr w') (first | assumption | exact Below.refl _ _ | exact(Below.refl _ _).drew | exact z7 (Below.refl _ _) _ | exact(z7 (Below.refl _ _) _).drew | exact Below.drew (by assumption) | exact Below.alloc (by assumption) (Below.size (by assumption)) _) (first
               | ((refine zfl rfl (.tmp 48) (.tmp 51) rfl rfl wr.heap.size _ 0 [] rfl (zet (by first | exact zh _ _ _ (by simp) | exact jp _ _ _ _ (zh _ _ _ (by simp))) (by first | omega | (simp <;> omega))) _ p _ ((yi L).take p) rfl (Hhd.out _ (by assumption)) (by first | omega | (simp <;> omega)) (by first | omega | (simp <;> omega)) ?_)
                  intro v1 w5 ho1 hg1
                  have hS1:Below wr.heap.size wr w5:=by
                   refine Below.grown (B:=wr.heap.size) (by assumption) hg1 (by first | omega | (simp <;> omega)) ?_;intro j hj;simp[Value.ownBlock,Act.eval] at hj
                   omega)
               | ((refine zfl rfl (.tmp 52) (.tmp 61) rfl rfl wr.heap.size _ _ _ rfl (by first | exact ho1 | exact ho1.alloc _ | exact zm ho1 ((Below.refl _ _).alloc (Nat.le_refl _) _)) _ 1 1 [(sx,sy)] rfl (by first | exact yq (zh _ _ _ (by simp)) rfl rfl | exact zei hg1 (yq (by first | exact zh _ _ _ (by simp) | exact jp _ _ _ _ (zh _ _ _ (by simp))) rfl rfl) (by simp[Value.ownBlock,Act.eval]) (by first | omega | (simp <;> omega))) (by first | omega | (simp <;> omega)) (by have:=hS1.size;simp <;> omega) ?_)
                  intro v2 w6 ho2 hg2
                  have hS2:Below wr.heap.size wr w6:=by
                   refine Below.grown (B:=wr.heap.size) (by assumption) hg2 ?_ (fun j hj=>(ho1.lt j hj).1);have:=hS1.size
                   simp <;> omega)
               | ((refine zfl rfl (.tmp 62) (.tmp 65) rfl rfl wr.heap.size _ _ _ rfl ho2 _ (L.length - p) _ ((yi L).drop p) rfl (Htl.out _ (by assumption)) (by first | omega | (simp <;> omega)) (by have:=hS2.size;simp <;> omega) ?_)
                  intro v3 w7 ho3 hg3
                  have hS3:Below wr.heap.size wr w7:=by
                   refine Below.grown (B:=wr.heap.size) (by assumption) hg3 ?_ (fun j hj=>(ho2.lt j hj).1);have:=hS2.size;simp <;> omega))
              all_goals
               have hS3':=hS3.size;have hou:=Hou.out _ hS3;clear Hhd Htl Hou zz1 zz2 zz3 hg1 hg2 hg3 ho1 ho2 hS1 hS2
               have Hhd:=hid (show ∀w',Below w7.heap.size w7 w'→Rd w' 1 (some ⟨gu,0,none⟩) p (qi ((qn L).take p)) from fun w' h=>by
                have:=zfk (zm hou h) p hp;rw[Nat.mul_one,z4i] at this;exact Rd.own this)
               have Htl:=hid (show ∀w',Below w7.heap.size w7 w'→Rd w' 1 (if cu=p then some ⟨gu,0,none⟩ else some ⟨gu,p,none⟩) (L.length - p) (qi ((qn L).drop p)) from fun w' h=>by
                have h1:=(zm4 hou p hp).below h;rw[Nat.mul_one,z4j] at h1;split
                · exact⟨h1.1,fun h0=>by omega⟩
                · exact h1)
               clear hou;go_wp2_with fail
               go_region_held3 (fun w'=>Below w7.heap.size w7 w') (first | assumption | exact Below.refl _ _ | exact(Below.refl _ _).drew | exact z7 (Below.refl _ _) _ | exact(z7 (Below.refl _ _) _).drew | exact Below.drew (by assumption) | exact Below.alloc (by assumption) (Below.size (by assumption)) _) (first
                | ((refine zg7 rfl (.tmp 67) (.tmp 70) rfl rfl w7.heap.size _ 0 [] rfl (zet (by first | exact zh _ _ _ (by simp) | exact jp _ _ _ _ (zh _ _ _ (by simp))) (by first | omega | (simp <;> omega))) _ p _ ((qn L).take p) rfl (Hhd.out _ (by assumption)) (by first | omega | (simp <;> omega)) (by first | omega | (simp <;> omega)) ?_)
                   intro v1u w5u ho1u hg1u
                   have hS1u:Below w7.heap.size w7 w5u:=by
                    refine Below.grown (B:=w7.heap.size) (by assumption) hg1u (by first | omega | (simp <;> omega)) ?_;intro j hj;simp[Value.ownBlock,Act.eval] at hj
                    omega)
                | ((refine zg7 rfl (.tmp 71) (.tmp 73) rfl rfl w7.heap.size _ _ _ rfl (by first | exact ho1u | exact ho1u.alloc _ | exact zm ho1u ((Below.refl _ _).alloc (Nat.le_refl _) _)) _ 1 1 [d] rfl (by first | exact yq (zh _ _ _ (by simp)) rfl rfl | exact zei hg1u (yq (by first | exact zh _ _ _ (by simp) | exact jp _ _ _ _ (zh _ _ _ (by simp))) rfl rfl) (by simp[Value.ownBlock,Act.eval]) (by first | omega | (simp <;> omega))) (by first | omega | (simp <;> omega)) (by have:=hS1u.size;simp <;> omega) ?_)
                   intro v2u w6u ho2u hg2u
                   have hS2u:Below w7.heap.size w7 w6u:=by
                    refine Below.grown (B:=w7.heap.size) (by assumption) hg2u ?_ (fun j hj=>(ho1u.lt j hj).1);have:=hS1u.size
                    simp <;> omega)
                | ((refine zg7 rfl (.tmp 74) (.tmp 77) rfl rfl w7.heap.size _ _ _ rfl ho2u _ (L.length - p) _ ((qn L).drop p) rfl (Htl.out _ (by assumption)) (by first | omega | (simp <;> omega)) (by have:=hS2u.size;simp <;> omega) ?_)
                   intro v3u w7u ho3u hg3u
                   have hS3u:Below w7.heap.size w7 w7u:=by
                    refine Below.grown (B:=w7.heap.size) (by assumption) hg3u ?_ (fun j hj=>(ho2u.lt j hj).1);have:=hS2u.size;simp <;> omega))
               all_goals go_wp2
               all_goals
                go_roundw
                case rel=>exact⟨e+1,by omega,by go_num,Hwi.out.trans ((hS3.trans (hS3u.mono hS3.size)).mono Hwi.out.size),by
                 rw[Hs.out];have e1:0+p+1+(L.length - p)=(zbz L (sx,sy) d).length:=by rw[zlj];omega
                 have ho4:=qt (zm ho3 hS3u) hzw;have ho4u:=qt ho3u (Nat.le_trans hzw hS3.size);rw[e1,List.nil_append] at ho4 ho4u;refine⟨?_,?_,fun h=>by have:=zlj L (sx,sy) d;rw[h] at this;simp at this⟩
                 · rw[z4f,←Hpos.out];exact ho4
                 · rw[z4g,←Hpos.out];exact ho4u⟩
                case measure=>simp[intOf];omega
          · have Hpos:=hid (z4h ht.out hp (fun h=>absurd h hpL));go_wp2;go_quiet (fail);go_wp2;have hzw:w.heap.size≤wr.heap.size:=Hwi.out.size;have zz1:∀w',Below wr.heap.size wr w'→w'.cell? ⟨bb,oo+d*2,none⟩=some (.slice (some ⟨bi,oi,none⟩) m c):=fun w' h=>(Hc.out w' (Hwi.out.trans (h.mono Hwi.out.size))).1
            have zz2:∀w',Below wr.heap.size wr w'→w'.cell? ⟨bi,oi+e*2,none⟩=some (.int .u64 ((sx:Nat):Int)):=fun w' h=>(Hc.out w' (Hwi.out.trans (h.mono Hwi.out.size))).2.1
            have zz3:∀w',Below wr.heap.size wr w'→w'.cell? ⟨bi,oi+e*2+1,none⟩=some (.int .u64 ((sy:Nat):Int)):=fun w' h=>(Hc.out w' (Hwi.out.trans (h.mono Hwi.out.size))).2.2
            have hpc:p≤cv:=by omega
            have hpu:p≤cu:=by omega
            have hor:=hoq.out.below Hbi.out
            have Hhd:=hid (show ∀w',Below wr.heap.size wr w'→Rd w' 2 (some ⟨gv,0,none⟩) p (ivC ((yi L).take p)) from fun w' h=>by
             have:=zfk (zm hor.ivs h) p hp;rw[zu6] at this;exact Rd.own this)
            have Htl:=hid (show ∀w',Below wr.heap.size wr w'→Rd w' 2 (if cv=p then some ⟨gv,0,none⟩ else some ⟨gv,p*2,none⟩) (L.length - p) (ivC ((yi L).drop p)) from fun w' h=>by
             have h1:=(zm4 hor.ivs p hp).below h;rw[zu7] at h1;split
             · exact⟨h1.1,fun h0=>by omega⟩
             · exact h1)
            have Hou:=hid (show ∀w',Below wr.heap.size wr w'→w'.ownsRow w.heap.size 3 1 (.slice (some ⟨gu,0,none⟩) L.length cu) L.length (qi (qn L)) from fun w' h=>zm hor.idx h);clear hor
            go_region_held3 (fun w'=>Below wr.heap.size wr w') (first | assumption | exact Below.refl _ _ | exact(Below.refl _ _).drew | exact z7 (Below.refl _ _) _ | exact(z7 (Below.refl _ _) _).drew | exact Below.drew (by assumption) | exact Below.alloc (by assumption) (Below.size (by assumption)) _) (first
             | ((refine zfl rfl (.tmp 48) (.tmp 51) rfl rfl wr.heap.size _ 0 [] rfl (zet (by first | exact zh _ _ _ (by simp) | exact jp _ _ _ _ (zh _ _ _ (by simp))) (by first | omega | (simp <;> omega))) _ p _ ((yi L).take p) rfl (Hhd.out _ (by assumption)) (by first | omega | (simp <;> omega)) (by first | omega | (simp <;> omega)) ?_)
                intro v1 w5 ho1 hg1
                have hS1:Below wr.heap.size wr w5:=by
                 refine Below.grown (B:=wr.heap.size) (by assumption) hg1 (by first | omega | (simp <;> omega)) ?_;intro j hj;simp[Value.ownBlock,Act.eval] at hj
                 omega)
             | ((refine zfl rfl (.tmp 52) (.tmp 61) rfl rfl wr.heap.size _ _ _ rfl (by first | exact ho1 | exact ho1.alloc _ | exact zm ho1 ((Below.refl _ _).alloc (Nat.le_refl _) _)) _ 1 1 [(sx,sy)] rfl (by first | exact yq (zh _ _ _ (by simp)) rfl rfl | exact zei hg1 (yq (by first | exact zh _ _ _ (by simp) | exact jp _ _ _ _ (zh _ _ _ (by simp))) rfl rfl) (by simp[Value.ownBlock,Act.eval]) (by first | omega | (simp <;> omega))) (by first | omega | (simp <;> omega)) (by have:=hS1.size;simp <;> omega) ?_)
                intro v2 w6 ho2 hg2
                have hS2:Below wr.heap.size wr w6:=by
                 refine Below.grown (B:=wr.heap.size) (by assumption) hg2 ?_ (fun j hj=>(ho1.lt j hj).1);have:=hS1.size
                 simp <;> omega)
             | ((refine zfl rfl (.tmp 62) (.tmp 65) rfl rfl wr.heap.size _ _ _ rfl ho2 _ (L.length - p) _ ((yi L).drop p) rfl (Htl.out _ (by assumption)) (by first | omega | (simp <;> omega)) (by have:=hS2.size;simp <;> omega) ?_)
                intro v3 w7 ho3 hg3
                have hS3:Below wr.heap.size wr w7:=by
                 refine Below.grown (B:=wr.heap.size) (by assumption) hg3 ?_ (fun j hj=>(ho2.lt j hj).1);have:=hS2.size;simp <;> omega))
            all_goals
             have hS3':=hS3.size;have hou:=Hou.out _ hS3;clear Hhd Htl Hou zz1 zz2 zz3 hg1 hg2 hg3 ho1 ho2 hS1 hS2
             have Hhd:=hid (show ∀w',Below w7.heap.size w7 w'→Rd w' 1 (some ⟨gu,0,none⟩) p (qi ((qn L).take p)) from fun w' h=>by
              have:=zfk (zm hou h) p hp;rw[Nat.mul_one,z4i] at this;exact Rd.own this)
             have Htl:=hid (show ∀w',Below w7.heap.size w7 w'→Rd w' 1 (if cu=p then some ⟨gu,0,none⟩ else some ⟨gu,p,none⟩) (L.length - p) (qi ((qn L).drop p)) from fun w' h=>by
              have h1:=(zm4 hou p hp).below h;rw[Nat.mul_one,z4j] at h1;split
              · exact⟨h1.1,fun h0=>by omega⟩
              · exact h1)
             clear hou;go_wp2_with fail
             all_goals
              go_region_held3 (fun w'=>Below w7.heap.size w7 w') (first | assumption | exact Below.refl _ _ | exact(Below.refl _ _).drew | exact z7 (Below.refl _ _) _ | exact(z7 (Below.refl _ _) _).drew | exact Below.drew (by assumption) | exact Below.alloc (by assumption) (Below.size (by assumption)) _) (first
               | ((refine zg7 rfl (.tmp 67) (.tmp 70) rfl rfl w7.heap.size _ 0 [] rfl (zet (by first | exact zh _ _ _ (by simp) | exact jp _ _ _ _ (zh _ _ _ (by simp))) (by first | omega | (simp <;> omega))) _ p _ ((qn L).take p) rfl (Hhd.out _ (by assumption)) (by first | omega | (simp <;> omega)) (by first | omega | (simp <;> omega)) ?_)
                  intro v1u w5u ho1u hg1u
                  have hS1u:Below w7.heap.size w7 w5u:=by
                   refine Below.grown (B:=w7.heap.size) (by assumption) hg1u (by first | omega | (simp <;> omega)) ?_;intro j hj;simp[Value.ownBlock,Act.eval] at hj
                   omega)
               | ((refine zg7 rfl (.tmp 71) (.tmp 73) rfl rfl w7.heap.size _ _ _ rfl (by first | exact ho1u | exact ho1u.alloc _ | exact zm ho1u ((Below.refl _ _).alloc (Nat.le_refl _) _)) _ 1 1 [d] rfl (by first | exact yq (zh _ _ _ (by simp)) rfl rfl | exact zei hg1u (yq (by first | exact zh _ _ _ (by simp) | exact jp _ _ _ _ (zh _ _ _ (by simp))) rfl rfl) (by simp[Value.ownBlock,Act.eval]) (by first | omega | (simp <;> omega))) (by first | omega | (simp <;> omega)) (by have:=hS1u.size;simp <;> omega) ?_)
                  intro v2u w6u ho2u hg2u
                  have hS2u:Below w7.heap.size w7 w6u:=by
                   refine Below.grown (B:=w7.heap.size) (by assumption) hg2u ?_ (fun j hj=>(ho1u.lt j hj).1);have:=hS1u.size
                   simp <;> omega)
               | ((refine zg7 rfl (.tmp 74) (.tmp 77) rfl rfl w7.heap.size _ _ _ rfl ho2u _ (L.length - p) _ ((qn L).drop p) rfl (Htl.out _ (by assumption)) (by first | omega | (simp <;> omega)) (by have:=hS2u.size;simp <;> omega) ?_)
                  intro v3u w7u ho3u hg3u
                  have hS3u:Below w7.heap.size w7 w7u:=by
                   refine Below.grown (B:=w7.heap.size) (by assumption) hg3u ?_ (fun j hj=>(ho2u.lt j hj).1);have:=hS2u.size;simp <;> omega))
             all_goals go_wp2
             all_goals
              go_roundw
              case rel=>exact⟨e+1,by omega,by go_num,Hwi.out.trans ((hS3.trans (hS3u.mono hS3.size)).mono Hwi.out.size),by
               rw[Hs.out];have e1:0+p+1+(L.length - p)=(zbz L (sx,sy) d).length:=by rw[zlj];omega
               have ho4:=qt (zm ho3 hS3u) hzw;have ho4u:=qt ho3u (Nat.le_trans hzw hS3.size);rw[e1,List.nil_append] at ho4 ho4u;refine⟨?_,?_,fun h=>by have:=zlj L (sx,sy) d;rw[h] at this;simp at this⟩
               · rw[z4f,←Hpos.out];exact ho4
               · rw[z4g,←Hpos.out];exact ho4u⟩
              case measure=>simp[intOf];omega
     · obtain rfl:e=m:=by omega
       have Ho:=hid hoq.out;rw[←Hml.out,List.take_length,←Hst.out] at Ho;go_wp2;go_roundw
       case rel=>exact⟨d+1,by omega,by go_num,Hbq.out,Ho.out⟩
       case measure=>simp[intOf];omega
  · obtain rfl:d=n:=by omega
    have Ho:=hid ho.out;rw[←Hl.out] at Ho;go_wp2;go_ret2;exact⟨⟨_,_,rfl,Ho.out⟩,Hb.out⟩
theorem zqq {k:Kno} (hk:LtK k) (hs:SmallK k) (hi:yg k≤240):EncK (zv k):=by
 obtain⟨h1,h2,h3⟩:=z4m hk (zqp hk hs) hi;obtain⟨c1,c2,-⟩:=zmy hk;exact⟨c1,c2,h3,by omega,by omega⟩
