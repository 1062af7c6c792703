/- Walks and laws, joined: Wb46. -/
import Derived.Test.YtdnjfnofjaoajaaGreatDoorWb45
import Derived.Test.YtdnjfnofjaoajaaGreatDoorWb37
import Derived.Test.YtdnjfnofjaoajaaGreatDoorWb28
import Derived.Test.YtdnjfnofjaoajaaGreatDoorWb44
set_option linter.unusedVariables false
set_option maxHeartbeats 16000000
namespace Go.Proofs.YtdnjfnofjaoajaaGreatDoor
open Lib (hid)
section
open Go.RowKit
set_option maxRecDepth 20000 in
theorem z99 (a:Option Addr) (n cap:Nat) (k:Kno) (w:World) (hE:Frags w a n cap k) (hS:yf k≤1000) (hn:n≤1000):
 Calls Tryz.prog 61 #[.slice a n cap] w fun x w'=>(∃v u,x=.returned (.tuple #[v,u])∧Own2 w' w.heap.size (zj k) v u)∧Below w.heap.size w w':=by
 have HE:=hid hE;have Hl:=hid hE.len;have HS:=hid (fun d (hd:d≤k.length)=>show (zab k d).length≤1000 from by rw[ze0 k d hd];exact Nat.le_trans (zic k d) hS);have Hone:=hid (fun f (hf:f∈k)=>Nat.le_trans (zc8 hf) hS)
 have HLt:=hid (show ∀d,d<k.length→∀e,∀s∈yd (zal (zab k d) ((za k d).1.take e) d),s.1<18446744073709551616∧s.2<18446744073709551616 from fun d hd e s hs=>by
  obtain⟨h1,-,h3⟩:=zcx k d (Nat.le_of_lt hd);rcases z94 h1 hs with h | h
  · obtain⟨p,hp,rfl⟩:=List.mem_map.1 h;exact(hE.all _ (yb (Nat.lt_trans (h3 p hp).1 hd))).1 _ (h3 p hp).2
  · exact(hE.all _ (yb hd)).1 _ (List.mem_of_mem_take h))
 clear hE hS;go_enter Tryz.func61,Tryz.ntmps61;go_wp2;go_loopw [4,5,6,7,8] (fun v u i _ _ wr=>∃d:Nat,d≤n∧i=.int .i64 d∧Below w.heap.size w wr∧Hid (Own2 wr w.heap.size (zab k d) v u)) (fun _ _ i _ _ _=>n - (intOf i).toNat)
 case atStart=>exact⟨0,by omega,rfl,Below.refl _ _,z93 _ _⟩
 case round=>
  obtain⟨d,hd,rfl,hb,ho⟩:=hrel;have Hb:=hid hb;clear hb;by_cases hdn:d<n
  · have hdk:d<k.length:=by rw[Hl.out];exact hdn
    obtain⟨bb,oo,rfl⟩:=HE.out.some (by omega);obtain⟨x,m,c,y,m',c',hq⟩:=HE.out.fix hdn;have Hq:=hid hq;have h0:(0:Int)≤d:=by omega
    have h04:(d:Int)<(n:Int):=by omega
    have Hfl:=hid (Hone.out _ (yb hdk));have HSd:=hid (HS.out d (Nat.le_of_lt hdk));have HLd:=hid (HLt.out d hdk);have HSd1:=hid (HS.out (d+1) hdk);have Hst:=hid (show zab k (d+1)=zal (zab k d) (za k d).1 d from rfl);have hml:=(hq wr Hb.out).2.1.len;have Hml:=hid hml;have hm1:m≤1000:=by have:=Hfl.out;omega
    clear hq hml HS HLt Hone;generalize zab k d=L0 at*;generalize za k d=f at*;obtain⟨fi,fv⟩:=f;simp only at Hst Hml Hq Hfl HLd;obtain⟨wo,hwo⟩:∃wo:World,wo=wr:=⟨_,rfl⟩;rw[←hwo] at Hb ho ⊢;clear hwo;go_wp2;go_loopw [4,5,7,8] (fun v u j _ wq=>∃e:Nat,e≤m∧j=.int .i64 e∧Below w.heap.size w wq∧Hid (Own2 wq w.heap.size (zal L0 (fi.take e) d) v u)) (fun _ _ j _ _=>m - (intOf j).toNat)
    case atStart=>exact⟨0,by omega,rfl,Hb.out,ho⟩
    case round=>
     obtain⟨e,he,rfl,hbq,hoq⟩:=hrel;have Hbq:=hid hbq;obtain⟨qq,h1q,-,-⟩:=Hq.out wr hbq;clear hbq ho Hb;have he0:(0:Int)≤e:=by omega
     by_cases hem:e<m
     · have hel:e<fi.length:=by rw[Hml.out];exact hem
       have Hs:=hid (z92 (L:=L0) (i:=d) hel);obtain⟨bi,oi,rfl,-⟩:=h1q.cells (by omega)
       have Hc:=hid (show ∀w',Below w.heap.size w w'→w'.cell? ⟨bb,oo+d*2,none⟩=some (.slice (some ⟨bi,oi,none⟩) m c)∧w'.cell? ⟨bi,oi+e*2,none⟩=some (.int .u64 (((zb fi e).1:Nat):Int))∧w'.cell? ⟨bi,oi+e*2+1,none⟩=some (.int .u64 (((zb fi e).2:Nat):Int)) from fun w' h=>by
        obtain⟨h1,h2,-⟩:=Hq.out w' h;obtain⟨b',o',e',hc⟩:=h2.cells (by omega);cases e';exact⟨h1,(hc e hem).1,(hc e hem).2⟩)
       have hLl:(zal L0 (fi.take e) d).length≤1000:=by
        have h1:=HSd1.out;rw[Hst.out,zn6] at h1;rw[zn6,List.length_take];omega
       have HLe:=hid (HLd.out e);have hem':(e:Int)<(m:Int):=by omega
       clear h1q HLd;generalize zal L0 (fi.take e) d=L at*;generalize zb fi e=s at*;obtain⟨sx,sy⟩:=s;simp only at Hc;obtain⟨wq,hwq⟩:∃wq:World,wq=wr:=⟨_,rfl⟩;rw[←hwq] at Hbq hoq qq ⊢;clear hwq;by_cases hLe:L=[]
       · obtain⟨rfl,rfl⟩:=hoq.out.nil hLe;subst hLe;go_wp2;go_loopw [8] (fun t wi=>t=.int .i64 0∧Below wq.heap.size wq wi) (fun t _=>0)
         case atStart=>exact⟨rfl,Below.refl _ _⟩
         case round=>
          obtain⟨rfl,hbi⟩:=hrel;have Hbi:=hid hbi;clear hbi;have Hwi:=hid (Hbq.out.trans (Hbi.out.mono Hbq.out.size));go_wp2;go_quiet (fail);go_wp2;have hzw:w.heap.size≤wr.heap.size:=Hwi.out.size;have zz1:∀w',Below wr.heap.size wr w'→w'.cell? ⟨bb,oo+d*2,none⟩=some (.slice (some ⟨bi,oi,none⟩) m c):=fun w' h=>(Hc.out w' (Hwi.out.trans (h.mono Hwi.out.size))).1
          have zz2:∀w',Below wr.heap.size wr w'→w'.cell? ⟨bi,oi+e*2,none⟩=some (.int .u64 ((sx:Nat):Int)):=fun w' h=>(Hc.out w' (Hwi.out.trans (h.mono Hwi.out.size))).2.1
          have zz3:∀w',Below wr.heap.size wr w'→w'.cell? ⟨bi,oi+e*2+1,none⟩=some (.int .u64 ((sy:Nat):Int)):=fun w' h=>(Hc.out w' (Hwi.out.trans (h.mono Hwi.out.size))).2.2
          go_region_held3 (fun w'=>Below wr.heap.size wr w') (first | assumption | exact Below.refl _ _ | exact(Below.refl _ _).drew | exact ye (Below.refl _ _) _ | exact(ye (Below.refl _ _) _).drew | exact Below.drew (by assumption) | exact Below.alloc (by assumption) (Below.size (by assumption)) _) (first
           | ((refine zdi rfl (.tmp 48) (.tmp 51) rfl rfl wr.heap.size _ 0 [] rfl (zcq (by first | exact zg _ _ _ (by simp) | exact yy _ _ _ _ (zg _ _ _ (by simp))) (by first | omega | (simp <;> omega))) _ 0 _ [] rfl (zfc _ _) (by first | omega | (simp <;> omega)) (by first | omega | (simp <;> omega)) ?_)
              intro v1 w5 ho1 hg1
              have hS1:Below wr.heap.size wr w5:=by
               refine Below.grown (B:=wr.heap.size) (by assumption) hg1 (by first | omega | (simp <;> omega)) ?_;intro j hj;simp[Value.ownBlock,Act.eval] at hj
               omega)
           | ((refine zdi rfl (.tmp 52) (.tmp 61) rfl rfl wr.heap.size _ _ _ rfl (by first | exact ho1 | exact ho1.alloc _ | exact zm ho1 ((Below.refl _ _).alloc (Nat.le_refl _) _)) _ 1 1 [(sx,sy)] rfl (by first | exact yg (zg _ _ _ (by simp)) rfl rfl | exact zck hg1 (yg (by first | exact zg _ _ _ (by simp) | exact yy _ _ _ _ (zg _ _ _ (by simp))) rfl rfl) (by simp[Value.ownBlock,Act.eval]) (by first | omega | (simp <;> omega))) (by first | omega | (simp <;> omega)) (by have:=hS1.size;simp <;> omega) ?_)
              intro v2 w6 ho2 hg2
              have hS2:Below wr.heap.size wr w6:=by
               refine Below.grown (B:=wr.heap.size) (by assumption) hg2 ?_ (fun j hj=>(ho1.lt j hj).1);have:=hS1.size
               simp <;> omega)
           | ((refine zdi rfl (.tmp 62) (.tmp 65) rfl rfl wr.heap.size _ _ _ rfl ho2 _ 0 _ [] rfl (zfc _ _) (by first | omega | (simp <;> omega)) (by have:=hS2.size;simp <;> omega) ?_)
              intro v3 w7 ho3 hg3
              have hS3:Below wr.heap.size wr w7:=by
               refine Below.grown (B:=wr.heap.size) (by assumption) hg3 ?_ (fun j hj=>(ho2.lt j hj).1);have:=hS2.size;simp <;> omega))
          all_goals
           have hS3':=hS3.size;go_wp2_with fail
           go_region_held3 (fun w'=>Below w7.heap.size w7 w') (first | assumption | exact Below.refl _ _ | exact(Below.refl _ _).drew | exact ye (Below.refl _ _) _ | exact(ye (Below.refl _ _) _).drew | exact Below.drew (by assumption) | exact Below.alloc (by assumption) (Below.size (by assumption)) _) (first
            | ((refine zef rfl (.tmp 67) (.tmp 70) rfl rfl w7.heap.size _ 0 [] rfl (zcq (by first | exact zg _ _ _ (by simp) | exact yy _ _ _ _ (zg _ _ _ (by simp))) (by first | omega | (simp <;> omega))) _ 0 _ [] rfl (zfc _ _) (by first | omega | (simp <;> omega)) (by first | omega | (simp <;> omega)) ?_)
               intro v1u w5u ho1u hg1u
               have hS1u:Below w7.heap.size w7 w5u:=by
                refine Below.grown (B:=w7.heap.size) (by assumption) hg1u (by first | omega | (simp <;> omega)) ?_;intro j hj;simp[Value.ownBlock,Act.eval] at hj
                omega)
            | ((refine zef rfl (.tmp 71) (.tmp 73) rfl rfl w7.heap.size _ _ _ rfl (by first | exact ho1u | exact ho1u.alloc _ | exact zm ho1u ((Below.refl _ _).alloc (Nat.le_refl _) _)) _ 1 1 [d] rfl (by first | exact yg (zg _ _ _ (by simp)) rfl rfl | exact zck hg1u (yg (by first | exact zg _ _ _ (by simp) | exact yy _ _ _ _ (zg _ _ _ (by simp))) rfl rfl) (by simp[Value.ownBlock,Act.eval]) (by first | omega | (simp <;> omega))) (by first | omega | (simp <;> omega)) (by have:=hS1u.size;simp <;> omega) ?_)
               intro v2u w6u ho2u hg2u
               have hS2u:Below w7.heap.size w7 w6u:=by
                refine Below.grown (B:=w7.heap.size) (by assumption) hg2u ?_ (fun j hj=>(ho1u.lt j hj).1);have:=hS1u.size
                simp <;> omega)
            | ((refine zef rfl (.tmp 74) (.tmp 77) rfl rfl w7.heap.size _ _ _ rfl ho2u _ 0 _ [] rfl (zfc _ _) (by first | omega | (simp <;> omega)) (by have:=hS2u.size;simp <;> omega) ?_)
               intro v3u w7u ho3u hg3u
               have hS3u:Below w7.heap.size w7 w7u:=by
                refine Below.grown (B:=w7.heap.size) (by assumption) hg3u ?_ (fun j hj=>(ho2u.lt j hj).1);have:=hS2u.size;simp <;> omega))
           all_goals go_wp2
           all_goals
            go_roundw
            case rel=>exact⟨e+1,by omega,by go_num,Hwi.out.trans ((hS3.trans (hS3u.mono hS3.size)).mono Hwi.out.size),by
             rw[Hs.out];refine⟨y9 (zm ho3 hS3u) hzw,y9 ho3u (Nat.le_trans hzw hS3.size),fun h=>by cases h⟩⟩
            case measure=>simp[intOf];omega
       · have hLp:0<L.length:=List.length_pos_iff.2 hLe;clear hLe;obtain⟨gv,cv,rfl,hgv,hgvl,hncv,hcmv⟩:=zb3 hoq.out.ivs hLp;obtain⟨gu,cu,rfl,hgu,hgul,hncu,hcmu⟩:=zb3 hoq.out.idx hLp;obtain⟨av,cv',hav,hIv⟩:=zah hoq.out.ivs HLe.out;cases hav;have HIv:=hid hIv;clear hIv;go_wp2;go_loopw [8] (fun t wi=>∃p:Nat,p≤L.length∧t=.int .i64 p∧Below wq.heap.size wq wi∧Hid (∀i,i<p→(zb (yd L) i).1<sx)) (fun t _=>L.length - (intOf t).toNat)
         case atStart=>exact⟨0,by omega,rfl,Below.refl _ _,fun i h=>by omega⟩
         case round=>
          obtain⟨p,hp,rfl,hbi,ht⟩:=hrel;have Hbi:=hid hbi;clear hbi;have Hwi:=hid (Hbq.out.trans (Hbi.out.mono Hbq.out.size));have hp0:(0:Int)≤p:=by omega
          by_cases hpL:p<L.length
          · have hpL':(p:Int)<(L.length:Int):=by omega
            obtain⟨bv,ov,hbv,hcv⟩:=(HIv.out.below Hbi.out).cells (by omega);cases hbv;obtain⟨l1,-⟩:=hcv p hpL;rw[Nat.zero_add] at l1;obtain⟨z1,z2,-⟩:=Hc.out wr Hwi.out;clear hcv;by_cases hlt:(zb (yd L) p).1<sx
            · have hd1:decide (((zb (yd L) p).1:Int)<(sx:Int))=true:=by rw[decide_eq_true_iff];omega
              have hd2:decide ((zb (yd L) p).1<sx)=true:=by rw[decide_eq_true_iff];exact hlt
              have Hs2:=hid (zi4 (p:=fun i=>(zb (yd L) i).1<sx) ht.out hlt);generalize (zb (yd L) p).1=lx at*;clear hlt;go_wp2;go_quiet (fail);go_wp2;go_roundw
              case rel=>exact⟨p+1,by omega,by go_num,by first | exact Hbi.out | exact ye Hbi.out _,Hs2.out⟩
              case measure=>simp[intOf];omega
            · have hd1:decide (((zb (yd L) p).1:Int)<(sx:Int))=false:=by rw[decide_eq_false_iff_not];omega
              have hd2:decide ((zb (yd L) p).1<sx)=false:=by rw[decide_eq_false_iff_not];exact hlt
              have Hpos:=hid (zxr ht.out hp (fun _=>hlt));generalize (zb (yd L) p).1=lx at*;clear hlt;go_wp2;go_quiet (fail);go_wp2;have hzw:w.heap.size≤wr.heap.size:=Hwi.out.size;have zz1:∀w',Below wr.heap.size wr w'→w'.cell? ⟨bb,oo+d*2,none⟩=some (.slice (some ⟨bi,oi,none⟩) m c):=fun w' h=>(Hc.out w' (Hwi.out.trans (h.mono Hwi.out.size))).1
              have zz2:∀w',Below wr.heap.size wr w'→w'.cell? ⟨bi,oi+e*2,none⟩=some (.int .u64 ((sx:Nat):Int)):=fun w' h=>(Hc.out w' (Hwi.out.trans (h.mono Hwi.out.size))).2.1
              have zz3:∀w',Below wr.heap.size wr w'→w'.cell? ⟨bi,oi+e*2+1,none⟩=some (.int .u64 ((sy:Nat):Int)):=fun w' h=>(Hc.out w' (Hwi.out.trans (h.mono Hwi.out.size))).2.2
              have hpc:p≤cv:=by omega
              have hpu:p≤cu:=by omega
              have hor:=hoq.out.below Hbi.out
              have Hhd:=hid (show ∀w',Below wr.heap.size wr w'→Rd w' 2 (some ⟨gv,0,none⟩) p (ivC ((yd L).take p)) from fun w' h=>by
               have:=zdh (zm hor.ivs h) p hp;rw[zpk] at this;exact Rd.own this)
              have Htl:=hid (show ∀w',Below wr.heap.size wr w'→Rd w' 2 (if cv=p then some ⟨gv,0,none⟩ else some ⟨gv,p*2,none⟩) (L.length - p) (ivC ((yd L).drop p)) from fun w' h=>by
               have h1:=(zja hor.ivs p hp).below h;rw[zpl] at h1;split
               · exact⟨h1.1,fun h0=>by omega⟩
               · exact h1)
              have Hou:=hid (show ∀w',Below wr.heap.size wr w'→w'.ownsRow w.heap.size 3 1 (.slice (some ⟨gu,0,none⟩) L.length cu) L.length (yw (yq L)) from fun w' h=>zm hor.idx h);clear hor
              go_region_held3 (fun w'=>Below wr.heap.size wr w') (first | assumption | exact Below.refl _ _ | exact(Below.refl _ _).drew | exact ye (Below.refl _ _) _ | exact(ye (Below.refl _ _) _).drew | exact Below.drew (by assumption) | exact Below.alloc (by assumption) (Below.size (by assumption)) _) (first
               | ((refine zdi rfl (.tmp 48) (.tmp 51) rfl rfl wr.heap.size _ 0 [] rfl (zcq (by first | exact zg _ _ _ (by simp) | exact yy _ _ _ _ (zg _ _ _ (by simp))) (by first | omega | (simp <;> omega))) _ p _ ((yd L).take p) rfl (Hhd.out _ (by assumption)) (by first | omega | (simp <;> omega)) (by first | omega | (simp <;> omega)) ?_)
                  intro v1 w5 ho1 hg1
                  have hS1:Below wr.heap.size wr w5:=by
                   refine Below.grown (B:=wr.heap.size) (by assumption) hg1 (by first | omega | (simp <;> omega)) ?_;intro j hj;simp[Value.ownBlock,Act.eval] at hj
                   omega)
               | ((refine zdi rfl (.tmp 52) (.tmp 61) rfl rfl wr.heap.size _ _ _ rfl (by first | exact ho1 | exact ho1.alloc _ | exact zm ho1 ((Below.refl _ _).alloc (Nat.le_refl _) _)) _ 1 1 [(sx,sy)] rfl (by first | exact yg (zg _ _ _ (by simp)) rfl rfl | exact zck hg1 (yg (by first | exact zg _ _ _ (by simp) | exact yy _ _ _ _ (zg _ _ _ (by simp))) rfl rfl) (by simp[Value.ownBlock,Act.eval]) (by first | omega | (simp <;> omega))) (by first | omega | (simp <;> omega)) (by have:=hS1.size;simp <;> omega) ?_)
                  intro v2 w6 ho2 hg2
                  have hS2:Below wr.heap.size wr w6:=by
                   refine Below.grown (B:=wr.heap.size) (by assumption) hg2 ?_ (fun j hj=>(ho1.lt j hj).1);have:=hS1.size
                   simp <;> omega)
               | ((refine zdi rfl (.tmp 62) (.tmp 65) rfl rfl wr.heap.size _ _ _ rfl ho2 _ (L.length - p) _ ((yd L).drop p) rfl (Htl.out _ (by assumption)) (by first | omega | (simp <;> omega)) (by have:=hS2.size;simp <;> omega) ?_)
                  intro v3 w7 ho3 hg3
                  have hS3:Below wr.heap.size wr w7:=by
                   refine Below.grown (B:=wr.heap.size) (by assumption) hg3 ?_ (fun j hj=>(ho2.lt j hj).1);have:=hS2.size;simp <;> omega))
              all_goals
               have hS3':=hS3.size;have hou:=Hou.out _ hS3;clear Hhd Htl Hou zz1 zz2 zz3 hg1 hg2 hg3 ho1 ho2 hS1 hS2
               have Hhd:=hid (show ∀w',Below w7.heap.size w7 w'→Rd w' 1 (some ⟨gu,0,none⟩) p (yw ((yq L).take p)) from fun w' h=>by
                have:=zdh (zm hou h) p hp;rw[Nat.mul_one,zxs] at this;exact Rd.own this)
               have Htl:=hid (show ∀w',Below w7.heap.size w7 w'→Rd w' 1 (if cu=p then some ⟨gu,0,none⟩ else some ⟨gu,p,none⟩) (L.length - p) (yw ((yq L).drop p)) from fun w' h=>by
                have h1:=(zja hou p hp).below h;rw[Nat.mul_one,zxt] at h1;split
                · exact⟨h1.1,fun h0=>by omega⟩
                · exact h1)
               clear hou;go_wp2_with fail
               go_region_held3 (fun w'=>Below w7.heap.size w7 w') (first | assumption | exact Below.refl _ _ | exact(Below.refl _ _).drew | exact ye (Below.refl _ _) _ | exact(ye (Below.refl _ _) _).drew | exact Below.drew (by assumption) | exact Below.alloc (by assumption) (Below.size (by assumption)) _) (first
                | ((refine zef rfl (.tmp 67) (.tmp 70) rfl rfl w7.heap.size _ 0 [] rfl (zcq (by first | exact zg _ _ _ (by simp) | exact yy _ _ _ _ (zg _ _ _ (by simp))) (by first | omega | (simp <;> omega))) _ p _ ((yq L).take p) rfl (Hhd.out _ (by assumption)) (by first | omega | (simp <;> omega)) (by first | omega | (simp <;> omega)) ?_)
                   intro v1u w5u ho1u hg1u
                   have hS1u:Below w7.heap.size w7 w5u:=by
                    refine Below.grown (B:=w7.heap.size) (by assumption) hg1u (by first | omega | (simp <;> omega)) ?_;intro j hj;simp[Value.ownBlock,Act.eval] at hj
                    omega)
                | ((refine zef rfl (.tmp 71) (.tmp 73) rfl rfl w7.heap.size _ _ _ rfl (by first | exact ho1u | exact ho1u.alloc _ | exact zm ho1u ((Below.refl _ _).alloc (Nat.le_refl _) _)) _ 1 1 [d] rfl (by first | exact yg (zg _ _ _ (by simp)) rfl rfl | exact zck hg1u (yg (by first | exact zg _ _ _ (by simp) | exact yy _ _ _ _ (zg _ _ _ (by simp))) rfl rfl) (by simp[Value.ownBlock,Act.eval]) (by first | omega | (simp <;> omega))) (by first | omega | (simp <;> omega)) (by have:=hS1u.size;simp <;> omega) ?_)
                   intro v2u w6u ho2u hg2u
                   have hS2u:Below w7.heap.size w7 w6u:=by
                    refine Below.grown (B:=w7.heap.size) (by assumption) hg2u ?_ (fun j hj=>(ho1u.lt j hj).1);have:=hS1u.size
                    simp <;> omega)
                | ((refine zef rfl (.tmp 74) (.tmp 77) rfl rfl w7.heap.size _ _ _ rfl ho2u _ (L.length - p) _ ((yq L).drop p) rfl (Htl.out _ (by assumption)) (by first | omega | (simp <;> omega)) (by have:=hS2u.size;simp <;> omega) ?_)
                   intro v3u w7u ho3u hg3u
                   have hS3u:Below w7.heap.size w7 w7u:=by
                    refine Below.grown (B:=w7.heap.size) (by assumption) hg3u ?_ (fun j hj=>(ho2u.lt j hj).1);have:=hS2u.size;simp <;> omega))
               all_goals go_wp2
               all_goals
                go_roundw
                case rel=>exact⟨e+1,by omega,by go_num,Hwi.out.trans ((hS3.trans (hS3u.mono hS3.size)).mono Hwi.out.size),by
                 rw[Hs.out];have e1:0+p+1+(L.length - p)=(zak L (sx,sy) d).length:=by rw[zig];omega
                 have ho4:=y9 (zm ho3 hS3u) hzw;have ho4u:=y9 ho3u (Nat.le_trans hzw hS3.size);rw[e1,List.nil_append] at ho4 ho4u;refine⟨?_,?_,fun h=>by have:=zig L (sx,sy) d;rw[h] at this;simp at this⟩
                 · rw[zxp,←Hpos.out];exact ho4
                 · rw[zxq,←Hpos.out];exact ho4u⟩
                case measure=>simp[intOf];omega
          · have Hpos:=hid (zxr ht.out hp (fun h=>absurd h hpL));go_wp2;go_quiet (fail);go_wp2;have hzw:w.heap.size≤wr.heap.size:=Hwi.out.size;have zz1:∀w',Below wr.heap.size wr w'→w'.cell? ⟨bb,oo+d*2,none⟩=some (.slice (some ⟨bi,oi,none⟩) m c):=fun w' h=>(Hc.out w' (Hwi.out.trans (h.mono Hwi.out.size))).1
            have zz2:∀w',Below wr.heap.size wr w'→w'.cell? ⟨bi,oi+e*2,none⟩=some (.int .u64 ((sx:Nat):Int)):=fun w' h=>(Hc.out w' (Hwi.out.trans (h.mono Hwi.out.size))).2.1
            have zz3:∀w',Below wr.heap.size wr w'→w'.cell? ⟨bi,oi+e*2+1,none⟩=some (.int .u64 ((sy:Nat):Int)):=fun w' h=>(Hc.out w' (Hwi.out.trans (h.mono Hwi.out.size))).2.2
            have hpc:p≤cv:=by omega
            have hpu:p≤cu:=by omega
            have hor:=hoq.out.below Hbi.out
            have Hhd:=hid (show ∀w',Below wr.heap.size wr w'→Rd w' 2 (some ⟨gv,0,none⟩) p (ivC ((yd L).take p)) from fun w' h=>by
             have:=zdh (zm hor.ivs h) p hp;rw[zpk] at this;exact Rd.own this)
            have Htl:=hid (show ∀w',Below wr.heap.size wr w'→Rd w' 2 (if cv=p then some ⟨gv,0,none⟩ else some ⟨gv,p*2,none⟩) (L.length - p) (ivC ((yd L).drop p)) from fun w' h=>by
             have h1:=(zja hor.ivs p hp).below h;rw[zpl] at h1;split
             · exact⟨h1.1,fun h0=>by omega⟩
             · exact h1)
            have Hou:=hid (show ∀w',Below wr.heap.size wr w'→w'.ownsRow w.heap.size 3 1 (.slice (some ⟨gu,0,none⟩) L.length cu) L.length (yw (yq L)) from fun w' h=>zm hor.idx h);clear hor
            go_region_held3 (fun w'=>Below wr.heap.size wr w') (first | assumption | exact Below.refl _ _ | exact(Below.refl _ _).drew | exact ye (Below.refl _ _) _ | exact(ye (Below.refl _ _) _).drew | exact Below.drew (by assumption) | exact Below.alloc (by assumption) (Below.size (by assumption)) _) (first
             | ((refine zdi rfl (.tmp 48) (.tmp 51) rfl rfl wr.heap.size _ 0 [] rfl (zcq (by first | exact zg _ _ _ (by simp) | exact yy _ _ _ _ (zg _ _ _ (by simp))) (by first | omega | (simp <;> omega))) _ p _ ((yd L).take p) rfl (Hhd.out _ (by assumption)) (by first | omega | (simp <;> omega)) (by first | omega | (simp <;> omega)) ?_)
                intro v1 w5 ho1 hg1
                have hS1:Below wr.heap.size wr w5:=by
                 refine Below.grown (B:=wr.heap.size) (by assumption) hg1 (by first | omega | (simp <;> omega)) ?_;intro j hj;simp[Value.ownBlock,Act.eval] at hj
                 omega)
             | ((refine zdi rfl (.tmp 52) (.tmp 61) rfl rfl wr.heap.size _ _ _ rfl (by first | exact ho1 | exact ho1.alloc _ | exact zm ho1 ((Below.refl _ _).alloc (Nat.le_refl _) _)) _ 1 1 [(sx,sy)] rfl (by first | exact yg (zg _ _ _ (by simp)) rfl rfl | exact zck hg1 (yg (by first | exact zg _ _ _ (by simp) | exact yy _ _ _ _ (zg _ _ _ (by simp))) rfl rfl) (by simp[Value.ownBlock,Act.eval]) (by first | omega | (simp <;> omega))) (by first | omega | (simp <;> omega)) (by have:=hS1.size;simp <;> omega) ?_)
                intro v2 w6 ho2 hg2
                have hS2:Below wr.heap.size wr w6:=by
                 refine Below.grown (B:=wr.heap.size) (by assumption) hg2 ?_ (fun j hj=>(ho1.lt j hj).1);have:=hS1.size
                 simp <;> omega)
             | ((refine zdi rfl (.tmp 62) (.tmp 65) rfl rfl wr.heap.size _ _ _ rfl ho2 _ (L.length - p) _ ((yd L).drop p) rfl (Htl.out _ (by assumption)) (by first | omega | (simp <;> omega)) (by have:=hS2.size;simp <;> omega) ?_)
                intro v3 w7 ho3 hg3
                have hS3:Below wr.heap.size wr w7:=by
                 refine Below.grown (B:=wr.heap.size) (by assumption) hg3 ?_ (fun j hj=>(ho2.lt j hj).1);have:=hS2.size;simp <;> omega))
            all_goals
             have hS3':=hS3.size;have hou:=Hou.out _ hS3;clear Hhd Htl Hou zz1 zz2 zz3 hg1 hg2 hg3 ho1 ho2 hS1 hS2
             have Hhd:=hid (show ∀w',Below w7.heap.size w7 w'→Rd w' 1 (some ⟨gu,0,none⟩) p (yw ((yq L).take p)) from fun w' h=>by
              have:=zdh (zm hou h) p hp;rw[Nat.mul_one,zxs] at this;exact Rd.own this)
             have Htl:=hid (show ∀w',Below w7.heap.size w7 w'→Rd w' 1 (if cu=p then some ⟨gu,0,none⟩ else some ⟨gu,p,none⟩) (L.length - p) (yw ((yq L).drop p)) from fun w' h=>by
              have h1:=(zja hou p hp).below h;rw[Nat.mul_one,zxt] at h1;split
              · exact⟨h1.1,fun h0=>by omega⟩
              · exact h1)
             clear hou;go_wp2_with fail
             all_goals
              go_region_held3 (fun w'=>Below w7.heap.size w7 w') (first | assumption | exact Below.refl _ _ | exact(Below.refl _ _).drew | exact ye (Below.refl _ _) _ | exact(ye (Below.refl _ _) _).drew | exact Below.drew (by assumption) | exact Below.alloc (by assumption) (Below.size (by assumption)) _) (first
               | ((refine zef rfl (.tmp 67) (.tmp 70) rfl rfl w7.heap.size _ 0 [] rfl (zcq (by first | exact zg _ _ _ (by simp) | exact yy _ _ _ _ (zg _ _ _ (by simp))) (by first | omega | (simp <;> omega))) _ p _ ((yq L).take p) rfl (Hhd.out _ (by assumption)) (by first | omega | (simp <;> omega)) (by first | omega | (simp <;> omega)) ?_)
                  intro v1u w5u ho1u hg1u
                  have hS1u:Below w7.heap.size w7 w5u:=by
                   refine Below.grown (B:=w7.heap.size) (by assumption) hg1u (by first | omega | (simp <;> omega)) ?_;intro j hj;simp[Value.ownBlock,Act.eval] at hj
                   omega)
               | ((refine zef rfl (.tmp 71) (.tmp 73) rfl rfl w7.heap.size _ _ _ rfl (by first | exact ho1u | exact ho1u.alloc _ | exact zm ho1u ((Below.refl _ _).alloc (Nat.le_refl _) _)) _ 1 1 [d] rfl (by first | exact yg (zg _ _ _ (by simp)) rfl rfl | exact zck hg1u (yg (by first | exact zg _ _ _ (by simp) | exact yy _ _ _ _ (zg _ _ _ (by simp))) rfl rfl) (by simp[Value.ownBlock,Act.eval]) (by first | omega | (simp <;> omega))) (by first | omega | (simp <;> omega)) (by have:=hS1u.size;simp <;> omega) ?_)
                  intro v2u w6u ho2u hg2u
                  have hS2u:Below w7.heap.size w7 w6u:=by
                   refine Below.grown (B:=w7.heap.size) (by assumption) hg2u ?_ (fun j hj=>(ho1u.lt j hj).1);have:=hS1u.size
                   simp <;> omega)
               | ((refine zef rfl (.tmp 74) (.tmp 77) rfl rfl w7.heap.size _ _ _ rfl ho2u _ (L.length - p) _ ((yq L).drop p) rfl (Htl.out _ (by assumption)) (by first | omega | (simp <;> omega)) (by have:=hS2u.size;simp <;> omega) ?_)
                  intro v3u w7u ho3u hg3u
                  have hS3u:Below w7.heap.size w7 w7u:=by
                   refine Below.grown (B:=w7.heap.size) (by assumption) hg3u ?_ (fun j hj=>(ho2u.lt j hj).1);have:=hS2u.size;simp <;> omega))
             all_goals go_wp2
             all_goals
              go_roundw
              case rel=>exact⟨e+1,by omega,by go_num,Hwi.out.trans ((hS3.trans (hS3u.mono hS3.size)).mono Hwi.out.size),by
               rw[Hs.out];have e1:0+p+1+(L.length - p)=(zak L (sx,sy) d).length:=by rw[zig];omega
               have ho4:=y9 (zm ho3 hS3u) hzw;have ho4u:=y9 ho3u (Nat.le_trans hzw hS3.size);rw[e1,List.nil_append] at ho4 ho4u;refine⟨?_,?_,fun h=>by have:=zig L (sx,sy) d;rw[h] at this;simp at this⟩
               · rw[zxp,←Hpos.out];exact ho4
               · rw[zxq,←Hpos.out];exact ho4u⟩
              case measure=>simp[intOf];omega
     · obtain rfl:e=m:=by omega
       have Ho:=hid hoq.out;rw[←Hml.out,List.take_length,←Hst.out] at Ho;go_wp2;go_roundw
       case rel=>exact⟨d+1,by omega,by go_num,Hbq.out,Ho.out⟩
       case measure=>simp[intOf];omega
  · obtain rfl:d=n:=by omega
    have Ho:=hid ho.out;rw[←Hl.out] at Ho;go_wp2;go_ret2;exact⟨⟨_,_,rfl,Ho.out⟩,Hb.out⟩
theorem yaa (l:List Iv) (x:List Nat) (d:Nat):ja l x (d+1)=ja l x d++[jd l 0 d]++[(zb l d).2 - (zb l d).1,nth x d]:=by
 rw[ja,List.append_assoc]
 rfl
set_option maxRecDepth 100000 in
theorem yab (a:Option Addr) (n cap:Nat) (c:Kno) (w:World) (hE:Frags w a n cap c) (hK:EncK c):
 Calls Tryz.prog 26 #[.slice a n cap] w fun x w'=>(∃y,x=.returned y∧w'.ownsRow w.heap.size 52 1 y (zk c).length (zi (zk c)))∧Below w.heap.size w w':=by
 have HE:=hid hE;have HK:=hid hK;have Hl:=hid hE.len;have hnn:n≤1000:=by rw[←hE.len];exact hK.len
 have Hlen:=hid (fun d (hd:d≤c.length)=>zlq hK d hd);have HSeg:=hid (fun W (h:Below w.heap.size w W)=>z99 a n cap c W (hE.below h) hK.sum hnn);have hw:IntKind.u64.wrap (n:Int)=(n:Int):=by rw[IntKind.wrap_u64];omega
 have ho0:=World.ownsRow_lit (e:=52) (size:=1) (base:=w.heap.size) w (zi [n]).toArray 1 (Nat.le_refl _) (by unfold maxLen;omega) rfl;have Ho0:=hid ho0;have hb0:Below w.heap.size w (w.alloc (.cells (zi [n]).toArray 52)):=(Below.refl _ _).alloc (Nat.le_refl _) _;clear hE hK ho0;go_enter Tryz.func26,Tryz.ntmps26;go_wp2;go_loopw [3,4] (fun y i wr=>∃d:Nat,d≤n∧i=.int .i64 d∧Below w.heap.size w wr∧Hid (wr.ownsRow w.heap.size 52 1 y (y8 c d).length (zi (y8 c d)))) (fun _ i _=>n - (intOf i).toNat)
 case atStart=>exact⟨0,by omega,rfl,hb0,by
  have:=Ho0.out;rw[show y8 c 0=[n] from by rw[y8,Hl.out]];exact this⟩
 case round=>
  obtain⟨d,hd,rfl,hb,ho⟩:=hrel;have Hb:=hid hb;clear hb;by_cases hdn:d<n
  · have hdc:d<c.length:=by rw[Hl.out];exact hdn
    obtain⟨bb,oo,rfl⟩:=HE.out.some (by omega);obtain⟨x,m,cx,y,m',c',hq⟩:=HE.out.fix hdn;obtain⟨-,-,q3,hEn⟩:=hq _ Hb.out;have hmem:=yb hdc;have hcv:=(HK.out.can.vec _ hmem).1;have hfit:=HK.out.vec _ hmem;have HN:=hid (z97 y m' c' (za c d).2 wr hEn hcv.asc (fun e he=>(hcv.ent e he).good) (by rw[←hEn.len];exact hfit.len) hfit.holes);have Hst:=hid (show y8 c (d+1)=y8 c d++vw (za c d).2 from rfl);have hl1:=Hlen.out (d+1) hdc;rw[Hst.out,List.length_append] at hl1;have h0:(0:Int)≤d:=by omega
    have h04:(d:Int)<(n:Int):=by omega
    clear hq hEn hmem hcv hfit;generalize vw (za c d).2=pk at*;generalize y8 c d=P at*;have hbnd:P.length+pk.length≤1000000000000:=by omega
    clear hl1;go_wp2_with fail;refine HN.out.mono ?_;rintro z w1 ⟨⟨v1,rfl,ho1⟩,hb1⟩;obtain⟨a1,c1,rfl⟩:=ks ho1;have Hrd:=hid (Rd.own ho1);have Ho1:=hid (zm ho.out hb1);have hbb:Below w.heap.size w w1:=Hb.out.trans (hb1.mono Hb.out.size);clear ho1 hb1 q3;go_wp2_with (at_builtin;refine zl6 rfl (.tmp 18) (.tmp 24) rfl rfl w.heap.size _ _ _ rfl Ho1.out _ pk.length _ pk rfl Hrd.out hbnd hbb.size ?_;intro v2 w2 ho2 hg2);have hb2:=hbb.trans hg2;clear hg2;go_wp2;go_roundw
    case rel=>exact⟨d+1,by omega,by go_num,hb2,by
     rw[Hst.out,List.length_append];exact ho2⟩
    case measure=>simp[intOf];omega
  · obtain rfl:d=n:=by omega
    have HSg:=hid (HSeg.out wr Hb.out);have hl0:=Hlen.out d (by rw[Hl.out];exact Nat.le_refl _);have HoV:=hid ho.out;obtain⟨wV,hwV⟩:∃wV:World,wV=wr:=⟨_,rfl⟩;rw[←hwV] at Hb HoV HSg ⊢;clear hwV ho;have HcL:=hid (show c.length=d from Hl.out)
    have hsl:(zj c).length≤1000:=by
     have:=ze0 c c.length (Nat.le_refl _);rw[List.take_length] at this;have:=HK.out.sum;unfold zj;omega
    have HSlt:=hid (show ∀s∈yd (zj c),s.1<18446744073709551616∧s.2<18446744073709551616 from fun s hs=>by
     obtain⟨p,hp,rfl⟩:=List.mem_map.1 hs;obtain⟨-,-,h3⟩:=zcx c c.length (Nat.le_refl _);exact(HK.out.lt _ (yb (h3 p hp).1)).1 _ (h3 p hp).2)
    have HDf:=hid (show zb4 (yd (zj c)) 0 from by exact zov HK.out.can);have HIx:=hid (fun i (h:i<(zj c).length)=>zlp (k:=c) h)
    have Hend:=hid (show zk c=y8 c d++ja (yd (zj c)) (yq (zj c)) (zj c).length from by
     unfold zk;rw[HcL.out]
     rfl)
    generalize u3=bV at*;clear HSeg Hlen HK hb0 Ho0;have HlV:=hid (show ∀k,bV.ownBlock=some k→w.heap.size≤k∧k<wV.heap.size from HoV.out.lt);go_wp2_with fail;refine HSg.out.mono ?_;rintro z w4 ⟨⟨vl,vx,rfl,hO2⟩,hb4⟩;obtain⟨al,cl,rfl⟩:=ks hO2.ivs;obtain⟨ax,cx,rfl⟩:=ks hO2.idx;obtain⟨S,hS⟩:∃S,S=(zj c).length:=⟨_,rfl⟩;have hSl:(yd (zj c)).length=S:=by rw[hS];unfold yd;rw[List.length_map]
    have hXl:(yq (zj c)).length=S:=by rw[hS];unfold yq;rw[List.length_map]
    have hRi:=hO2.ivs;have hRx:=hO2.idx;rw[←hS] at hsl hRi hRx Hend HIx ⊢;have hcvS:IntKind.u64.wrap (S:Int)=(S:Int):=by rw[IntKind.wrap_u64];omega
    have hb4w:=Hb.out.trans (hb4.mono Hb.out.size);have Ho4:=hid (zm HoV.out hb4);have HRi:=hid hRi;have HRx:=hid hRx;have HSl:=hid hSl;have HXl:=hid hXl
    have Hxl:=hid (show ∀t,t<S→nth (yq (zj c)) t<1001 from fun t ht=>by
     have:=HIx.out t ht;have:=HcL.out;unfold yq;omega)
    have Hal4:=hid (Below.alloc (Below.refl w4.heap.size w4) (Nat.le_refl _) (.cells #[.int .u64 S] 52));clear hO2 hRi hRx hS hSl hXl HIx hb4 HSg HoV;generalize yd (zj c)=LS at*;generalize yq (zj c)=XS at*;generalize y8 c d=P0 at*;have hbnd0:P0.length+1≤1000000000000:=by omega
    have hzz:w.heap.size≤w4.heap.size:=hb4w.size;have HneI:=hid (fun k (hk:(Value.slice al S cl).ownBlock=some k)=>show bV.ownBlock≠some k from fun e=>absurd (HlV.out k e).2 (Nat.not_lt.2 (HRi.out.lt k hk).1));have HneX:=hid (fun k (hk:(Value.slice ax S cx).ownBlock=some k)=>show bV.ownBlock≠some k from fun e=>absurd (HlV.out k e).2 (Nat.not_lt.2 (HRx.out.lt k hk).1));have HeB:=hid (fun W y (h:Grw w4 W bV y)=>show Below w.heap.size w W from hb4w.trans (h.toBelow hzz (fun k hk=>(HlV.out k hk).1)));clear HlV hb4w Hb;go_wp2_with (at_builtin;refine zxv rfl (.tmp 31) (.tmp 35) rfl rfl w.heap.size _ _ _ rfl (zm Ho4.out Hal4.out) _ 1 1 [S] rfl (yg (zg _ _ _ rfl) rfl rfl) hbnd0 (Nat.le_trans hzz Hal4.out.size) (by omega) ?_;intro v5 w5 ho5 hg5);have Hg5:=hid (((Grw.refl w4 bV).alloc _).trans hg5)
    have Ho5:=hid (show w5.ownsRow w.heap.size 52 1 v5 (P0++ja LS XS 0).length (zi (P0++ja LS XS 0)) from by
     rw[show ja LS XS 0=[S] from by rw[ja,HSl.out],List.length_append];exact ho5)
    clear hg5 ho5 Hal4 Ho4;go_wp2;go_loopw [3,7] (fun y i wr=>∃t:Nat,t≤S∧i=.int .i64 t∧Hid (Grw w4 wr bV y)∧Hid (wr.ownsRow w.heap.size 52 1 y (P0++ja LS XS t).length (zi (P0++ja LS XS t)))) (fun _ i _=>S - (intOf i).toNat)
    case atStart=>exact⟨0,by omega,rfl,Hg5,Ho5⟩
    case round=>
     obtain⟨t,ht,rfl,hgi,hoi⟩:=hrel;by_cases htS:t<S
     · obtain⟨gl,cl',hgl,-⟩:=zb3 HRi.out (by omega);cases hgl;obtain⟨gx,cx',hgx,-⟩:=zb3 HRx.out (by omega);cases hgx
       have HC:=hid (fun w' (h:GrwE w4 w' bV) j (hj:j<S)=>show w'.cell? ⟨gl,j*2,none⟩=some (.int .u64 (((zb LS j).1:Nat):Int))∧w'.cell? ⟨gl,j*2+1,none⟩=some (.int .u64 (((zb LS j).2:Nat):Int))∧w'.cell? ⟨gx,j,none⟩=some (.int .i64 ((nth XS j:Nat):Int)) from by
        obtain⟨y,h⟩:=h;obtain⟨e1,e2⟩:=zd2 LS j (by rw[HSl.out];exact hj);have h1:=(h.row HRi.out HneI.out).cells (g:=gl) rfl _ _ e1;have h2:=(h.row HRi.out HneI.out).cells (g:=gl) rfl _ _ e2;have h3:=(h.row HRx.out HneX.out).cells (g:=gx) rfl j _ (zgg XS j (by rw[HXl.out];exact hj));rw[yp,Nat.zero_add] at h1 h2 h3;exact⟨h1,h2,h3⟩)
       have hE:GrwE w4 wr bV:=⟨_,hgi.out⟩;have r1:∀w',GrwE w4 w' bV→w'.cell? ⟨gl,t*2,none⟩=some (.int .u64 (((zb LS t).1:Nat):Int)):=fun w' h=>(HC.out w' h t htS).1
       have r2:∀w',GrwE w4 w' bV→w'.cell? ⟨gl,t*2+1,none⟩=some (.int .u64 (((zb LS t).2:Nat):Int)):=fun w' h=>(HC.out w' h t htS).2.1
       have r3:∀w',GrwE w4 w' bV→w'.cell? ⟨gx,t,none⟩=some (.int .i64 ((nth XS t:Nat):Int)):=fun w' h=>(HC.out w' h t htS).2.2
       have Hc':=hid (fun (h1:t - 1<S)=>show ∀w',GrwE w4 w' bV→w'.cell? ⟨gl,(t - 1)*2+1,none⟩=some (.int .u64 (((zb LS (t - 1)).2:Nat):Int)) from fun w' h=>(HC.out w' h (t - 1) h1).2.1);have hxl:=Hxl.out t htS;obtain⟨g1,g2⟩:=HDf.out t (by rw[HSl.out];exact htS);have l1:=HSlt.out _ (zaa (l:=LS) (k:=t) (by rw[HSl.out];exact htS));have Hst:=hid (yaa LS XS t);have Hg:=hid (show jd LS 0 t=if t=0 then (zb LS 0).1 else (zb LS t).1 - (zb LS (t - 1)).2 - 1 - 0 from rfl);have hg0:t=0→zb LS 0=zb LS t:=fun h=>by rw[h]
       have hln:(P0++ja LS XS t).length+1≤1000000000000:=by rw[List.length_append,zeb];omega
       have hln2:(P0++ja LS XS t).length+1+2≤1000000000000:=by rw[List.length_append,zeb];omega
       have hcx:IntKind.u64.wrap ((nth XS t:Nat):Int)=((nth XS t:Nat):Int):=by rw[IntKind.wrap_u64];omega
       have hs0:w.heap.size≤wr.heap.size:=Nat.le_trans hzz hgi.out.g.size;clear HC;generalize jd LS 0 t=gp at*;generalize zb LS 0=s0 at*;generalize zb LS t=s at*;generalize zb LS (t - 1)=p at*;generalize nth XS t=sx3 at*;obtain⟨sx,sy⟩:=s;obtain⟨px,py⟩:=p;simp only at r1 r2 Hc' Hst Hg g1 g2 l1;have hsz:IntKind.u64.wrap ((sy:Int) - (sx:Int))=((sy - sx:Nat):Int):=by rw[IntKind.wrap_u64];omega
       generalize sy - sx=sz at*;generalize ja LS XS t=P1 at*;have HoW:=hid (fun W (h:Below wr.heap.size wr W)=>zm hoi.out h);rcases Nat.eq_zero_or_pos t with hd0 | hd0
       case' inl=>
        have hgp:gp=sx:=by rw[Hg.out,if_pos hd0,hg0 hd0]
        have hq1:((t:Int) == 0)=true:=by rw[beq_iff_eq];omega
        have q1:=r1 _ hE;have Hal:=hid (Below.alloc (Below.refl wr.heap.size wr) (Nat.le_refl _) (.cells #[.int .u64 gp] 52));subst hgp;clear Hc' g1 g2 l1 Hg hg0 hd0;go_wp2_with (at_builtin;refine zxv rfl (.tmp 45) (.tmp 51) rfl rfl w.heap.size _ _ _ rfl (HoW.out _ Hal.out) _ 1 1 [gp] rfl (yg (zg _ _ _ rfl) rfl rfl) hln (Nat.le_trans hs0 Hal.out.size) (by omega) ?_;intro v1 w1 ho1 hg1);have HG1:=hid (((hgi.out.below Hal.out)).trans hg1);have hE1:GrwE w4 w1 bV:=⟨_,HG1.out⟩;clear hg1 q1 Hal
       case' inr=>
        have g2:=g2 hd0;have hgp:gp=sx - py - 1:=by rw[Hg.out,if_neg (by omega)];omega
        have hq1:((t:Int) == 0)=false:=by rw[beq_eq_false_iff_ne];omega
        have hsub:IntKind.i64.wrap ((t:Int) - 1)=((t - 1:Nat):Int):=by rw[IntKind.wrap_i64];omega
        have h01:(0:Int)≤((t - 1:Nat):Int):=by omega
        have h03:((t - 1:Nat):Int)<(S:Int):=by omega
        have h0:(0:Int)≤t:=by omega
        have h04:(t:Int)<(S:Int):=by omega
        have r4:=Hc'.out (by omega);have hw1:IntKind.u64.wrap ((sx:Int) - (py:Int))=((sx - py:Nat):Int):=by rw[IntKind.wrap_u64];omega
        have hw2:IntKind.u64.wrap (((sx - py:Nat):Int) - 1)=(gp:Int):=by rw[IntKind.wrap_u64,hgp];omega
        clear Hc' g1 g2 l1 Hg hg0 hgp;generalize sx - py=t1 at*;generalize t - 1=d1 at*;go_wp2_with fail
        go_region_held3 (fun w'=>GrwE w4 w' bV) (first | assumption | exact GrwE.drew (by assumption) | exact GrwE.alloc (by assumption) _) (first
         | (refine zxw rfl (.tmp 53) (.tmp 67) rfl rfl w.heap.size _ _ _ rfl (HoW.out _ (by first | exact((Below.refl _ _).alloc (Nat.le_refl _) _).drew | exact((Below.refl _ _).drew).alloc (by simp) _)) _ 1 _ [gp] rfl (yg (by first | exact zg _ _ _ (by simp) | exact yy _ _ _ _ (zg _ _ _ (by simp))) rfl rfl) hln (by simp <;> omega) (by omega) ?_
            intro v1 w1 ho1 hg1;have HG1:=hid ((hgi.out.below (by first | exact((Below.refl _ _).alloc (Nat.le_refl _) _).drew | exact((Below.refl _ _).drew).alloc (by simp) _)).trans hg1);have hE1:GrwE w4 w1 bV:=⟨_,HG1.out⟩))
        all_goals clear hg1 r4
        all_goals go_wp2_with fail
       all_goals
        have h0:(0:Int)≤t:=by omega
        have h04:(t:Int)<(S:Int):=by omega
        have hs1:w.heap.size≤w1.heap.size:=Nat.le_trans hzz HG1.out.g.size
        go_region_held3 (fun w'=>GrwE w4 w' bV) (first | assumption | exact GrwE.drew (by assumption) | exact GrwE.alloc (by assumption) _) (first
         | (refine zxw rfl (.tmp 69) (.tmp 86) rfl rfl w.heap.size _ _ _ rfl (zm ho1 (by first | exact((Below.refl _ _).alloc (Nat.le_refl _) _).drew | exact((Below.refl _ _).drew).alloc (by simp) _)) _ 2 _ [sz,sx3] rfl (yg (by first | exact zg _ _ _ (by simp) | exact yy _ _ _ _ (zg _ _ _ (by simp))) rfl rfl) hln2 (by simp <;> omega) (by omega) ?_
            intro v2 w2 ho2 hg2;have HG2:=hid ((HG1.out.below (by first | exact((Below.refl _ _).alloc (Nat.le_refl _) _).drew | exact((Below.refl _ _).drew).alloc (by simp) _)).trans hg2);have hE2:GrwE w4 w2 bV:=⟨_,HG2.out⟩))
        all_goals
         clear hg2;go_wp2;go_roundw
         case rel=>exact⟨t+1,by omega,by go_num,HG2,by
          rw[Hst.out,←List.append_assoc,←List.append_assoc];exact zxx ho2 (by simp only[List.length_append,List.length_cons,List.length_nil])⟩
         case measure=>simp[intOf];omega
     · obtain rfl:t=S:=by omega
       have Ho:=hid hoi.out;rw[←Hend.out] at Ho;have HbF:=hid (HeB.out _ _ hgi.out);go_wp2;go_ret;exact⟨⟨_,rfl,Ho.out⟩,HbF.out⟩
set_option maxRecDepth 20000 in
theorem zxy (a:Option Addr) (n cap:Nat) (c:Kno) (w:World) (hE:Frags w a n cap c) (hK:EncK c):
 Calls Tryz.prog 32 #[.slice a n cap] w fun x w'=>(∃y,x=.returned y∧OwnB w' w.heap.size y (zk c))∧Below w.heap.size w w':=by
 have HN:=hid (yab a n cap c w hE hK);have HJ:=hid (fun A cp W (h:Rd W 1 A (zk c).length (zi (zk c)))=>z98 A (zk c).length cp (zk c) W h rfl (zv2 hK) (by have:=zpj hK;omega));clear hE hK;go_enter Tryz.func32,Tryz.ntmps32;go_wp2_with fail;refine HN.out.mono ?_;rintro z w1 ⟨⟨v1,rfl,ho1⟩,hb1⟩;obtain⟨a1,c1,rfl⟩:=ks ho1;have HJ1:=hid (HJ.out a1 c1 w1 (Rd.own ho1));have Hb1:=hid hb1;clear ho1 hb1 HN HJ;go_wp2_with fail;refine HJ1.out.mono ?_;rintro z w2 ⟨⟨v2,rfl,ho2⟩,hb2⟩;have Ho2:=hid (show OwnB w2 w.heap.size v2 (zk c) from y9 ho2 Hb1.out.size);have Hb2:=hid (Hb1.out.trans (hb2.mono Hb1.out.size));clear ho2 hb2;go_wp2;go_ret;exact⟨⟨_,rfl,Ho2.out⟩,Hb2.out⟩
end
end Go.Proofs.YtdnjfnofjaoajaaGreatDoor
