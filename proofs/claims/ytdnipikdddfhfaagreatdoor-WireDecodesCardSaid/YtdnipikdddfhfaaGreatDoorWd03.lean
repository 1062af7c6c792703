/- Part 03. -/
import Derived.Laws.CopyOwn
import Derived.Lib.Overlaps
import Derived.Lib.AppendZerosOnto
import Derived.Shelf.RegionOpenPlain
import Derived.Test.YtdnipikdddfhfaaGreatDoorWd01
set_option linter.unusedVariables false
set_option maxHeartbeats 16000000
namespace Go.Proofs.YtdnipikdddfhfaaGreatDoor
open Lib (hid)
section
open Go.RowKit Go.Sort
set_option maxRecDepth 100000 in
theorem zt9 (blk off cap a b pivot:Nat) (d:Array Nat) (w:World) (hH:Holds zc w blk off d) (hap:a≤pivot) (hpb:pivot<b) (hb:b≤d.size) (hsz:d.size<4611686018427387904):
 Calls Tryz.prog 285 #[.slice (some ⟨blk,off,none⟩) d.size cap,.int .i64 a,.int .i64 b,.int .i64 pivot] w fun e w'=>
  e=.returned (.tuple #[.int .i64 (Sort.partition ltU d a b pivot).1,.bool (Sort.partition ltU d a b pivot).2.1])∧∃n,w'=(putRow zc w blk off (Sort.partition ltU d a b pivot).2.2).drewN n:=by
 have hla:a<d.size:=by omega
 have hlp:pivot<d.size:=by omega
 obtain⟨G,hG⟩:∃G:Nat→Nat,∀j,G j=d[j]! :=⟨fun j=>d[j]!,fun _=>rfl⟩;have ca:w.cell? ⟨blk,off+a,none⟩=some (.int .u64 (G a)):=by rw[hG];exact(hH a hla).1
 have fa:=(hH a hla).2;have cp:w.cell? ⟨blk,off+pivot,none⟩=some (.int .u64 (G pivot)):=by rw[hG];exact(hH pivot hlp).1
 have fp:=(hH pivot hlp).2;obtain⟨v',hy'⟩:=cell?_setCell_some (w:=w) (p:=⟨blk,off+a,none⟩) (x:=.int .u64 (G pivot)) (q:=⟨blk,off+pivot,none⟩) cp
 have hw:((w.setCell ⟨blk,off+a,none⟩ (.int .u64 (G pivot))).setCell ⟨blk,off+pivot,none⟩ (.int .u64 (G a))).drew=(putRow zc w blk off (Sort.swp d a pivot)).drewN 1:=by
  have e:=swap_worldC zc w blk off d 0 a pivot hla hlp;rw[putRow_self _ w blk off d hH] at e;rw[hG a,hG pivot];exact e
 have AH:Hid (Holds zc w blk off d):=hH;have HW0:=Hid.mk' hw;clear hG hH hw;go_enter Tryz.func285,Tryz.ntmps285;go_wp2;go_region
 go_wp2;clear ca fa cp fp hy' v';have hw:=HW0.out;clear HW0;generalize ((w.setCell ⟨blk,off+a,none⟩ (.int .u64 (G pivot))).setCell ⟨blk,off+pivot,none⟩ (.int .u64 (G a))).drew=W1 at hw ⊢;obtain⟨dk,hdk⟩:∃dk,dk=Sort.swp d a pivot:=⟨_,rfl⟩;obtain⟨n,hn⟩:∃n:Nat,n=1:=⟨_,rfl⟩;rw[←hdk,←hn] at hw;clear hn;have hs:dk.size=d.size:=by rw[hdk,size_swp]
 have e1:((a:Int)+1)=((a+1:Nat):Int):=by omega
 have e2:((b:Int) - 1)=((b - 1:Nat):Int):=by omega
 rw[e1,e2];clear e1 e2;obtain⟨i,hi⟩:∃i,i=a+1:=⟨_,rfl⟩;obtain⟨j,hj⟩:∃j,j=b - 1:=⟨_,rfl⟩;rw[←hi,←hj];have hai:a<i:=by omega
 have hij:i≤j+1:=by omega
 have hjb:j<b:=by omega
 have HI:=Hid.mk' hi;have HJ:=Hid.mk' hj;have HDK:=Hid.mk' hdk;clear hi hj hdk
 have hHk:Holds zc W1 blk off dk:=by
  rw[hw];exact holds_putRow zc w blk off d dk AH.out hs
 obtain⟨Gk,hG⟩:∃Gk:Nat→Nat,∀t,Gk t=dk[t]! :=⟨fun t=>dk[t]!,fun _=>rfl⟩;have hc:∀t,t<d.size→W1.cell? ⟨blk,off+t,none⟩=some (.int .u64 (Gk t)):=fun t ht=>by rw[hG];exact(hHk t (by omega)).1
 have hf:∀t,t<d.size→W1.frozen? ⟨blk,off+t,none⟩=false:=fun t ht=>(hHk t (by omega)).2
 have AG:Hid (∀t,Gk t=dk[t]!):=hG;have AW:Hid (W1=(putRow zc w blk off dk).drewN n):=hw;clear hG hw hHk
 go_loopw [10] (fun vi w1=>∃(i' n1:Nat),vi=.int .i64 i'∧i≤i'∧i'≤j+1∧w1=W1.drewN n1∧
  Hid (Sort.scanUp (fun x=>ltU x dk[a]!) dk j i'=Sort.scanUp (fun x=>ltU x dk[a]!) dk j i))
  (fun vi _=>j+1 - (intOf vi).toNat)
 case atStart=>exact⟨i,0,rfl,Nat.le_refl _,hij,rfl,rfl⟩
 case round=>
  obtain⟨i',n1,rfl,hii,hij',hw1,hsc⟩:=hrel;have hcw:∀t,t<d.size→wr.cell? ⟨blk,off+t,none⟩=some (.int .u64 (Gk t)):=fun t ht=>by rw[hw1];exact hc t ht
  have HW1:Hid (wr=W1.drewN n1):=hw1;clear hw1;by_cases hle:i'≤j
  · go_wp2_with fail;go_big_quiet (first | (go_at_call 283;refine Calls.quiet_of_same (qw _ _ _)))
    go_wp2
    ·
     have ht:ltU (Gk i') (Gk a)=true:=by assumption
     go_roundw
     case rel=>exact⟨i'+1,n1+nq,by go_num,by omega,by omega,by rw[HW1.out,World.drewN_drewN],(scanUp_go (fun x=>ltU x dk[a]!) dk j i' hle (by rw[←AG.out a,←AG.out i'];exact ht)).symm.trans hsc.out⟩
     case measure=>simp[intOf];omega
    ·
     have ht:ltU (Gk i') (Gk a)=false:=by assumption
     have hi2:Hid (i'=Sort.scanUp (fun x=>ltU x dk[a]!) dk j i):=(scanUp_end (fun x=>ltU x dk[a]!) dk j i' (Or.inr (by rw[←AG.out a,←AG.out i'];exact ht))).symm.trans hsc.out;clear ht;have hw2:wr.drewN nq=W1.drewN (n1+nq):=by rw[HW1.out,World.drewN_drewN]
     clear hcw HW1 hsc
     go_loopw [11] (fun vj w2=>∃(j' n2:Nat),vj=.int .i64 j'∧j'≤j∧i'≤j'+1∧w2=W1.drewN n2∧
      Hid (Sort.scanDown (fun x=> !ltU x dk[a]!) dk i' j'=Sort.scanDown (fun x=> !ltU x dk[a]!) dk i' j))
      (fun vj _=>(intOf vj).toNat)
     case atStart=>exact⟨j,n1+nq,rfl,Nat.le_refl _,hij',hw2,rfl⟩
     case round=>
      clear hw2;obtain⟨j',n2,rfl,hjj,hij2,hw2,hsd⟩:=hrel;have hcw:∀t,t<d.size→wr.cell? ⟨blk,off+t,none⟩=some (.int .u64 (Gk t)):=fun t ht=>by rw[hw2];exact hc t ht
      have HW2:Hid (wr=W1.drewN n2):=hw2;clear hw2;by_cases hle2:i'≤j'
      · go_wp2_with fail;go_big_quiet (first | (go_at_call 283;refine Calls.quiet_of_same (qw _ _ _)))
        go_wp2
        ·
         have ht:(!ltU (Gk j') (Gk a))=true:=by assumption
         go_roundw
         case rel=>exact⟨j' - 1,n2+nq,by go_num,by omega,by omega,by rw[HW2.out,World.drewN_drewN],(scanDown_go (fun x=> !ltU x dk[a]!) dk i' j' hle2 (by omega) (by rw[←AG.out a,←AG.out j'];exact ht)).symm.trans hsd.out⟩
         case measure=>simp[intOf];omega
        ·
         have ht:(!ltU (Gk j') (Gk a))=false:=by assumption
         have hj2:Hid (j'=Sort.scanDown (fun x=> !ltU x dk[a]!) dk i' j):=(scanDown_end (fun x=> !ltU x dk[a]!) dk i' j' (Or.inr (by rw[←AG.out a,←AG.out j'];exact ht))).symm.trans hsd.out;clear hcw hsd ht;have hw3:wr.drewN nq=W1.drewN (n2+nq):=by rw[HW2.out,World.drewN_drewN]
         generalize wr.drewN nq=W3 at hw3 ⊢;have hc3:∀t,t<d.size→W3.cell? ⟨blk,off+t,none⟩=some (.int .u64 (Gk t)):=fun t ht=>by rw[hw3];exact hc t ht
         have hf3:∀t,t<d.size→W3.frozen? ⟨blk,off+t,none⟩=false:=fun t ht=>by rw[hw3];exact hf t ht
         have HW3:Hid (W3=W1.drewN (n2+nq)):=hw3;clear hw3;obtain⟨v3,hy3⟩:=cell?_setCell_some (w:=W3) (p:=⟨blk,off+i',none⟩) (x:=.int .u64 (Gk j')) (q:=⟨blk,off+j',none⟩) (hc3 j' (by omega));have hlt3:=part_scans_lt ltU a i j dk (by omega) hi2.out hj2.out hle2;go_wp2;go_region
         all_goals go_wp2
         obtain⟨R,hR⟩:∃R,R=Sort.partLoop ltU a (i'+1) (j' - 1) (Sort.swp dk i' j'):=⟨_,rfl⟩;have HP:Hid (Sort.partition ltU d a b pivot=(R.1,false,Sort.swp R.2 R.1 a)):=by rw[hR];exact part_first_go ltU d a b pivot HI.out HJ.out HDK.out hi2.out hj2.out (by omega)
         have hw0:((W3.setCell ⟨blk,off+i',none⟩ (.int .u64 (Gk j'))).setCell ⟨blk,off+j',none⟩ (.int .u64 (Gk i'))).drew=(putRow zc w blk off (Sort.swp dk i' j')).drewN (n+(n2+nq)+1):=by
          rw[HW3.out,AW.out,World.drewN_drewN,AG.out i',AG.out j'];exact swap_worldC zc w blk off dk _ i' j' (by omega) (by omega)
         have HR:Hid (R=Sort.partLoop ltU a (i'+1) (j' - 1) (Sort.swp dk i' j')):=hR;clear hR hc hf hc3 hf3 hy3 HW3 AW AG hi2 hj2
         go_loopw [10,11] (fun vi vj wr=>∃(i j n:Nat) (dk:Array Nat),vi=.int .i64 i∧vj=.int .i64 j∧a<i∧i≤j+1∧j<b∧dk.size=d.size∧wr=(putRow zc w blk off dk).drewN n∧
          Sort.partLoop ltU a i j dk=R)
          (fun vi vj _=>(intOf vj).toNat+1 - (intOf vi).toNat)
         case atStart=>exact⟨i'+1,j' - 1,_,Sort.swp dk i' j',by go_num,by go_num,by omega,by omega,by omega,by rw[size_swp];exact hs,hw0,HR.out.symm⟩
         case round=>
          clear hw0 HR;obtain⟨i,j,n,dk,rfl,rfl,hai,hij,hjb,hs,hw,heq⟩:=hrel
          rename World=>W1
          have AE:Hid (Sort.partLoop ltU a i j dk=R):=heq;clear heq
          have hHk:Holds zc W1 blk off dk:=by
           rw[hw];exact holds_putRow zc w blk off d dk AH.out hs
          obtain⟨Gk,hG⟩:∃Gk:Nat→Nat,∀t,Gk t=dk[t]! :=⟨fun t=>dk[t]!,fun _=>rfl⟩;have hc:∀t,t<d.size→W1.cell? ⟨blk,off+t,none⟩=some (.int .u64 (Gk t)):=fun t ht=>by rw[hG];exact(hHk t (by omega)).1
          have hf:∀t,t<d.size→W1.frozen? ⟨blk,off+t,none⟩=false:=fun t ht=>(hHk t (by omega)).2
          have AG:Hid (∀t,Gk t=dk[t]!):=hG;have AW:Hid (W1=(putRow zc w blk off dk).drewN n):=hw;clear hG hw hHk;go_wp2
          go_loopw [10] (fun vi w1=>∃(i' n1:Nat),vi=.int .i64 i'∧i≤i'∧i'≤j+1∧w1=W1.drewN n1∧
           Hid (Sort.scanUp (fun x=>ltU x dk[a]!) dk j i'=Sort.scanUp (fun x=>ltU x dk[a]!) dk j i))
           (fun vi _=>j+1 - (intOf vi).toNat)
          case atStart=>exact⟨i,0,rfl,Nat.le_refl _,hij,rfl,rfl⟩
          case round=>
           obtain⟨i',n1,rfl,hii,hij',hw1,hsc⟩:=hrel;have hcw:∀t,t<d.size→wr.cell? ⟨blk,off+t,none⟩=some (.int .u64 (Gk t)):=fun t ht=>by rw[hw1];exact hc t ht
           have HW1:Hid (wr=W1.drewN n1):=hw1;clear hw1;by_cases hle:i'≤j
           · go_wp2_with fail;go_big_quiet (first | (go_at_call 283;refine Calls.quiet_of_same (qw _ _ _)))
             go_wp2
             ·
              have ht:ltU (Gk i') (Gk a)=true:=by assumption
              go_roundw
              case rel=>exact⟨i'+1,n1+nq,by go_num,by omega,by omega,by rw[HW1.out,World.drewN_drewN],(scanUp_go (fun x=>ltU x dk[a]!) dk j i' hle (by rw[←AG.out a,←AG.out i'];exact ht)).symm.trans hsc.out⟩
              case measure=>simp[intOf];omega
             ·
              have ht:ltU (Gk i') (Gk a)=false:=by assumption
              have hi2:Hid (i'=Sort.scanUp (fun x=>ltU x dk[a]!) dk j i):=(scanUp_end (fun x=>ltU x dk[a]!) dk j i' (Or.inr (by rw[←AG.out a,←AG.out i'];exact ht))).symm.trans hsc.out;clear ht;have hw2:wr.drewN nq=W1.drewN (n1+nq):=by rw[HW1.out,World.drewN_drewN]
              clear hcw HW1 hsc
              go_loopw [11] (fun vj w2=>∃(j' n2:Nat),vj=.int .i64 j'∧j'≤j∧i'≤j'+1∧w2=W1.drewN n2∧
               Hid (Sort.scanDown (fun x=> !ltU x dk[a]!) dk i' j'=Sort.scanDown (fun x=> !ltU x dk[a]!) dk i' j))
               (fun vj _=>(intOf vj).toNat)
              case atStart=>exact⟨j,n1+nq,rfl,Nat.le_refl _,hij',hw2,rfl⟩
              case round=>
               clear hw2;obtain⟨j',n2,rfl,hjj,hij2,hw2,hsd⟩:=hrel;have hcw:∀t,t<d.size→wr.cell? ⟨blk,off+t,none⟩=some (.int .u64 (Gk t)):=fun t ht=>by rw[hw2];exact hc t ht
               have HW2:Hid (wr=W1.drewN n2):=hw2;clear hw2;by_cases hle2:i'≤j'
               · go_wp2_with fail;go_big_quiet (first | (go_at_call 283;refine Calls.quiet_of_same (qw _ _ _)))
                 go_wp2
                 ·
                  have ht:(!ltU (Gk j') (Gk a))=true:=by assumption
                  go_roundw
                  case rel=>exact⟨j' - 1,n2+nq,by go_num,by omega,by omega,by rw[HW2.out,World.drewN_drewN],(scanDown_go (fun x=> !ltU x dk[a]!) dk i' j' hle2 (by omega) (by rw[←AG.out a,←AG.out j'];exact ht)).symm.trans hsd.out⟩
                  case measure=>simp[intOf];omega
                 ·
                  have ht:(!ltU (Gk j') (Gk a))=false:=by assumption
                  have hj2:Hid (j'=Sort.scanDown (fun x=> !ltU x dk[a]!) dk i' j):=(scanDown_end (fun x=> !ltU x dk[a]!) dk i' j' (Or.inr (by rw[←AG.out a,←AG.out j'];exact ht))).symm.trans hsd.out;clear hcw hsd ht;have hw3:wr.drewN nq=W1.drewN (n2+nq):=by rw[HW2.out,World.drewN_drewN]
                  generalize wr.drewN nq=W3 at hw3 ⊢;have hc3:∀t,t<d.size→W3.cell? ⟨blk,off+t,none⟩=some (.int .u64 (Gk t)):=fun t ht=>by rw[hw3];exact hc t ht
                  have hf3:∀t,t<d.size→W3.frozen? ⟨blk,off+t,none⟩=false:=fun t ht=>by rw[hw3];exact hf t ht
                  have HW3:Hid (W3=W1.drewN (n2+nq)):=hw3;clear hw3;obtain⟨v3,hy3⟩:=cell?_setCell_some (w:=W3) (p:=⟨blk,off+i',none⟩) (x:=.int .u64 (Gk j')) (q:=⟨blk,off+j',none⟩) (hc3 j' (by omega));have hlt3:=part_scans_lt ltU a i j dk (by omega) hi2.out hj2.out hle2;go_wp2;go_region
                  all_goals go_wp2
                  all_goals go_roundw
                  case rel=>
                   refine⟨i'+1,j' - 1,n+(n2+nq)+1,Sort.swp dk i' j',by go_num,by go_num,by omega,by omega,by omega,by rw[size_swp];exact hs,?_,?_⟩
                   · rw[HW3.out,AW.out,World.drewN_drewN,AG.out i',AG.out j'];exact swap_worldC zc w blk off dk _ i' j' (by omega) (by omega)
                   · exact(part_go ltU a i j dk hi2.out hj2.out (by omega)).symm.trans AE.out
                  case measure=>simp[intOf];omega
               · go_wp2_with fail;go_big_quiet (first | (go_at_call 283;refine Calls.quiet_of_same (qw _ _ _)))
                 have hj2:Hid (j'=Sort.scanDown (fun x=> !ltU x dk[a]!) dk i' j):=(scanDown_end (fun x=> !ltU x dk[a]!) dk i' j' (Or.inl hle2)).symm.trans hsd.out;clear hcw hsd;have hw3:wr.drewN nq=W1.drewN (n2+nq):=by rw[HW2.out,World.drewN_drewN]
                 generalize wr.drewN nq=W3 at hw3 ⊢;have hc3:∀t,t<d.size→W3.cell? ⟨blk,off+t,none⟩=some (.int .u64 (Gk t)):=fun t ht=>by rw[hw3];exact hc t ht
                 have hf3:∀t,t<d.size→W3.frozen? ⟨blk,off+t,none⟩=false:=fun t ht=>by rw[hw3];exact hf t ht
                 have HW3:Hid (W3=W1.drewN (n2+nq)):=hw3;clear hw3;obtain⟨v3,hy3⟩:=cell?_setCell_some (w:=W3) (p:=⟨blk,off+j',none⟩) (x:=.int .u64 (Gk a)) (q:=⟨blk,off+a,none⟩) (hc3 a (by omega));have hlj:j'<d.size:=by omega
                 go_wp2;go_region
                 all_goals go_wp2
                 all_goals go_ret2
                 have e:Sort.partition ltU d a b pivot=(j',false,Sort.swp dk j' a):=by
                  have e0:=(part_break ltU a i j dk hi2.out hj2.out (by omega)).symm.trans AE.out;rw[HP.out,←e0]
                 refine⟨?_,n+(n2+nq)+1,?_⟩
                 · rw[e];rfl
                 · rw[e,HW3.out,AW.out,World.drewN_drewN,AG.out a,AG.out j'];exact swap_worldC zc w blk off dk _ j' a (by omega) (by omega)
           · go_wp2_with fail;go_big_quiet (first | (go_at_call 283;refine Calls.quiet_of_same (qw _ _ _)))
             go_wp2;have hi2:Hid (i'=Sort.scanUp (fun x=>ltU x dk[a]!) dk j i):=(scanUp_end (fun x=>ltU x dk[a]!) dk j i' (Or.inl hle)).symm.trans hsc.out;have hw2:wr.drewN nq=W1.drewN (n1+nq):=by rw[HW1.out,World.drewN_drewN]
             clear hcw HW1 hsc
             go_loopw [11] (fun vj w2=>∃(j' n2:Nat),vj=.int .i64 j'∧j'≤j∧i'≤j'+1∧w2=W1.drewN n2∧
              Hid (Sort.scanDown (fun x=> !ltU x dk[a]!) dk i' j'=Sort.scanDown (fun x=> !ltU x dk[a]!) dk i' j))
              (fun vj _=>(intOf vj).toNat)
             case atStart=>exact⟨j,n1+nq,rfl,Nat.le_refl _,hij',hw2,rfl⟩
             case round=>
              clear hw2;obtain⟨j',n2,rfl,hjj,hij2,hw2,hsd⟩:=hrel;have hcw:∀t,t<d.size→wr.cell? ⟨blk,off+t,none⟩=some (.int .u64 (Gk t)):=fun t ht=>by rw[hw2];exact hc t ht
              have HW2:Hid (wr=W1.drewN n2):=hw2;clear hw2;by_cases hle2:i'≤j'
              · exfalso;omega
              · go_wp2_with fail;go_big_quiet (first | (go_at_call 283;refine Calls.quiet_of_same (qw _ _ _)))
                have hj2:Hid (j'=Sort.scanDown (fun x=> !ltU x dk[a]!) dk i' j):=(scanDown_end (fun x=> !ltU x dk[a]!) dk i' j' (Or.inl hle2)).symm.trans hsd.out;clear hcw hsd;have hw3:wr.drewN nq=W1.drewN (n2+nq):=by rw[HW2.out,World.drewN_drewN]
                generalize wr.drewN nq=W3 at hw3 ⊢;have hc3:∀t,t<d.size→W3.cell? ⟨blk,off+t,none⟩=some (.int .u64 (Gk t)):=fun t ht=>by rw[hw3];exact hc t ht
                have hf3:∀t,t<d.size→W3.frozen? ⟨blk,off+t,none⟩=false:=fun t ht=>by rw[hw3];exact hf t ht
                have HW3:Hid (W3=W1.drewN (n2+nq)):=hw3;clear hw3;obtain⟨v3,hy3⟩:=cell?_setCell_some (w:=W3) (p:=⟨blk,off+j',none⟩) (x:=.int .u64 (Gk a)) (q:=⟨blk,off+a,none⟩) (hc3 a (by omega));have hlj:j'<d.size:=by omega
                go_wp2;go_region
                all_goals go_wp2
                all_goals go_ret2
                have e:Sort.partition ltU d a b pivot=(j',false,Sort.swp dk j' a):=by
                 have e0:=(part_break ltU a i j dk hi2.out hj2.out (by omega)).symm.trans AE.out;rw[HP.out,←e0]
                refine⟨?_,n+(n2+nq)+1,?_⟩
                · rw[e];rfl
                · rw[e,HW3.out,AW.out,World.drewN_drewN,AG.out a,AG.out j'];exact swap_worldC zc w blk off dk _ j' a (by omega) (by omega)
      · go_wp2_with fail;go_big_quiet (first | (go_at_call 283;refine Calls.quiet_of_same (qw _ _ _)))
        have hj2:Hid (j'=Sort.scanDown (fun x=> !ltU x dk[a]!) dk i' j):=(scanDown_end (fun x=> !ltU x dk[a]!) dk i' j' (Or.inl hle2)).symm.trans hsd.out;clear hcw hsd;have hw3:wr.drewN nq=W1.drewN (n2+nq):=by rw[HW2.out,World.drewN_drewN]
        generalize wr.drewN nq=W3 at hw3 ⊢;have hc3:∀t,t<d.size→W3.cell? ⟨blk,off+t,none⟩=some (.int .u64 (Gk t)):=fun t ht=>by rw[hw3];exact hc t ht
        have hf3:∀t,t<d.size→W3.frozen? ⟨blk,off+t,none⟩=false:=fun t ht=>by rw[hw3];exact hf t ht
        have HW3:Hid (W3=W1.drewN (n2+nq)):=hw3;clear hw3;obtain⟨v3,hy3⟩:=cell?_setCell_some (w:=W3) (p:=⟨blk,off+j',none⟩) (x:=.int .u64 (Gk a)) (q:=⟨blk,off+a,none⟩) (hc3 a (by omega));have hlj:j'<d.size:=by omega
        go_wp2;go_region
        all_goals go_wp2
        all_goals go_ret2
        have e:Sort.partition ltU d a b pivot=(j',true,Sort.swp dk j' a):=part_first_break ltU d a b pivot HI.out HJ.out HDK.out hi2.out hj2.out (by omega);refine⟨?_,n+(n2+nq)+1,?_⟩
        · rw[e];rfl
        · rw[e,HW3.out,AW.out,World.drewN_drewN,AG.out a,AG.out j'];exact swap_worldC zc w blk off dk _ j' a (by omega) (by omega)
  · go_wp2_with fail;go_big_quiet (first | (go_at_call 283;refine Calls.quiet_of_same (qw _ _ _)))
    go_wp2;have hi2:Hid (i'=Sort.scanUp (fun x=>ltU x dk[a]!) dk j i):=(scanUp_end (fun x=>ltU x dk[a]!) dk j i' (Or.inl hle)).symm.trans hsc.out;have hw2:wr.drewN nq=W1.drewN (n1+nq):=by rw[HW1.out,World.drewN_drewN]
    clear hcw HW1 hsc
    go_loopw [11] (fun vj w2=>∃(j' n2:Nat),vj=.int .i64 j'∧j'≤j∧i'≤j'+1∧w2=W1.drewN n2∧
     Hid (Sort.scanDown (fun x=> !ltU x dk[a]!) dk i' j'=Sort.scanDown (fun x=> !ltU x dk[a]!) dk i' j))
     (fun vj _=>(intOf vj).toNat)
    case atStart=>exact⟨j,n1+nq,rfl,Nat.le_refl _,hij',hw2,rfl⟩
    case round=>
     clear hw2;obtain⟨j',n2,rfl,hjj,hij2,hw2,hsd⟩:=hrel;have hcw:∀t,t<d.size→wr.cell? ⟨blk,off+t,none⟩=some (.int .u64 (Gk t)):=fun t ht=>by rw[hw2];exact hc t ht
     have HW2:Hid (wr=W1.drewN n2):=hw2;clear hw2;by_cases hle2:i'≤j'
     · exfalso;omega
     · go_wp2_with fail;go_big_quiet (first | (go_at_call 283;refine Calls.quiet_of_same (qw _ _ _)))
       have hj2:Hid (j'=Sort.scanDown (fun x=> !ltU x dk[a]!) dk i' j):=(scanDown_end (fun x=> !ltU x dk[a]!) dk i' j' (Or.inl hle2)).symm.trans hsd.out;clear hcw hsd;have hw3:wr.drewN nq=W1.drewN (n2+nq):=by rw[HW2.out,World.drewN_drewN]
       generalize wr.drewN nq=W3 at hw3 ⊢;have hc3:∀t,t<d.size→W3.cell? ⟨blk,off+t,none⟩=some (.int .u64 (Gk t)):=fun t ht=>by rw[hw3];exact hc t ht
       have hf3:∀t,t<d.size→W3.frozen? ⟨blk,off+t,none⟩=false:=fun t ht=>by rw[hw3];exact hf t ht
       have HW3:Hid (W3=W1.drewN (n2+nq)):=hw3;clear hw3;obtain⟨v3,hy3⟩:=cell?_setCell_some (w:=W3) (p:=⟨blk,off+j',none⟩) (x:=.int .u64 (Gk a)) (q:=⟨blk,off+a,none⟩) (hc3 a (by omega));have hlj:j'<d.size:=by omega
       go_wp2;go_region
       all_goals go_wp2
       all_goals go_ret2
       have e:Sort.partition ltU d a b pivot=(j',true,Sort.swp dk j' a):=part_first_break ltU d a b pivot HI.out HJ.out HDK.out hi2.out hj2.out (by omega);refine⟨?_,n+(n2+nq)+1,?_⟩
       · rw[e];rfl
       · rw[e,HW3.out,AW.out,World.drewN_drewN,AG.out a,AG.out j'];exact swap_worldC zc w blk off dk _ j' a (by omega) (by omega)
theorem zua (blk off cap a b pivot:Nat) (d:Array Nat) (w:World) (hH:Holds zc w blk off d) (hap:a≤pivot) (hpb:pivot<b) (hb:b≤d.size) (hsz:d.size<4611686018427387904):
 Calls Tryz.prog 285 #[.slice (some ⟨blk,off,none⟩) d.size cap,.int .i64 a,.int .i64 b,.int .i64 pivot] w fun e w'=>
  e=.returned (.tuple #[.int .i64 (Sort.partition ltU d a b pivot).1,.bool (Sort.partition ltU d a b pivot).2.1])∧∃n,w'=putRow zc (Sort.ahead w n) blk off (Sort.partition ltU d a b pivot).2.2:=
 (zt9 blk off cap a b pivot d w hH hap hpb hb hsz).mono fun _ _ ⟨he,n,hw⟩=>⟨he,n,hw⟩
set_option maxRecDepth 100000 in
theorem zub (blk off cap a b pivot:Nat) (d:Array Nat) (w:World) (hH:Holds zc w blk off d) (hap:a≤pivot) (hpb:pivot<b) (hb:b≤d.size) (hsz:d.size<4611686018427387904):
 Calls Tryz.prog 284 #[.slice (some ⟨blk,off,none⟩) d.size cap,.int .i64 a,.int .i64 b,.int .i64 pivot] w fun e w'=>
  e=.returned (.int .i64 (Sort.partitionEqual ltU d a b pivot).1)∧∃n,w'=(putRow zc w blk off (Sort.partitionEqual ltU d a b pivot).2).drewN n:=by
 have hla:a<d.size:=by omega
 have hlp:pivot<d.size:=by omega
 obtain⟨G,hG⟩:∃G:Nat→Nat,∀j,G j=d[j]! :=⟨fun j=>d[j]!,fun _=>rfl⟩;have ca:w.cell? ⟨blk,off+a,none⟩=some (.int .u64 (G a)):=by rw[hG];exact(hH a hla).1
 have fa:=(hH a hla).2;have cp:w.cell? ⟨blk,off+pivot,none⟩=some (.int .u64 (G pivot)):=by rw[hG];exact(hH pivot hlp).1
 have fp:=(hH pivot hlp).2;obtain⟨v',hy'⟩:=cell?_setCell_some (w:=w) (p:=⟨blk,off+a,none⟩) (x:=.int .u64 (G pivot)) (q:=⟨blk,off+pivot,none⟩) cp;have AG:Hid (∀j,G j=d[j]!):=hG;have AH:Hid (Holds zc w blk off d):=hH;clear hG hH;go_enter Tryz.func284,Tryz.ntmps284;go_wp2;go_region
 go_wp2
 go_loopw [9,10] (fun vi vj wr=>∃(i j n:Nat) (dk:Array Nat),vi=.int .i64 i∧vj=.int .i64 j∧a<i∧i≤j+1∧j<b∧dk.size=d.size∧wr=(putRow zc w blk off dk).drewN n∧
  Sort.partEqLoop ltU a i j dk=Sort.partEqLoop ltU a (a+1) (b - 1) (Sort.swp d a pivot))
  (fun vi vj _=>(intOf vj).toNat+1 - (intOf vi).toNat)
 case atStart=>
  refine⟨a+1,b - 1,1,Sort.swp d a pivot,by go_num,by go_num,by omega,by omega,by omega,size_swp _ _ _,?_,rfl⟩;have e:=swap_worldC zc w blk off d 0 a pivot hla hlp;rw[putRow_self _ w blk off d AH.out] at e;rw[AG.out a,AG.out pivot];exact e
 case round=>
  obtain⟨i,j,n,dk,rfl,rfl,hai,hij,hjb,hs,hw,heq⟩:=hrel;clear ca fa cp fp hy' v' AG
  rename World=>W1
  have hHk:Holds zc W1 blk off dk:=by
   rw[hw];exact holds_putRow zc w blk off d dk AH.out hs
  obtain⟨Gk,hG⟩:∃Gk:Nat→Nat,∀t,Gk t=dk[t]! :=⟨fun t=>dk[t]!,fun _=>rfl⟩;have hc:∀t,t<d.size→W1.cell? ⟨blk,off+t,none⟩=some (.int .u64 (Gk t)):=fun t ht=>by rw[hG];exact(hHk t (by omega)).1
  have hf:∀t,t<d.size→W1.frozen? ⟨blk,off+t,none⟩=false:=fun t ht=>(hHk t (by omega)).2
  have AG:Hid (∀t,Gk t=dk[t]!):=hG;have AW:Hid (W1=(putRow zc w blk off dk).drewN n):=hw;have AE:Hid (Sort.partEqLoop ltU a i j dk=Sort.partEqLoop ltU a (a+1) (b - 1) (Sort.swp d a pivot)):=heq;clear hG hw heq hHk;go_wp2
  go_loopw [9] (fun vi w1=>∃(i' n1:Nat),vi=.int .i64 i'∧i≤i'∧i'≤j+1∧w1=W1.drewN n1∧
   Hid (Sort.scanUp (fun x=> !ltU dk[a]! x) dk j i'=Sort.scanUp (fun x=> !ltU dk[a]! x) dk j i))
   (fun vi _=>j+1 - (intOf vi).toNat)
  case atStart=>exact⟨i,0,rfl,Nat.le_refl _,hij,rfl,rfl⟩
  case round=>
   obtain⟨i',n1,rfl,hii,hij',hw1,hsc⟩:=hrel;have hcw:∀t,t<d.size→wr.cell? ⟨blk,off+t,none⟩=some (.int .u64 (Gk t)):=fun t ht=>by rw[hw1];exact hc t ht
   have HW1:Hid (wr=W1.drewN n1):=hw1;clear hw1;by_cases hle:i'≤j
   · go_wp2_with fail;go_big_quiet (first | (go_at_call 283;refine Calls.quiet_of_same (qw _ _ _)))
     go_wp2
     ·
      have ht:(!ltU (Gk a) (Gk i'))=true:=by assumption
      go_roundw
      case rel=>exact⟨i'+1,n1+nq,by go_num,by omega,by omega,by rw[HW1.out,World.drewN_drewN],(scanUp_go (fun x=> !ltU dk[a]! x) dk j i' hle (by rw[←AG.out a,←AG.out i'];exact ht)).symm.trans hsc.out⟩
      case measure=>simp[intOf];omega
     ·
      have ht:(!ltU (Gk a) (Gk i'))=false:=by assumption
      have hi2:Hid (i'=Sort.scanUp (fun x=> !ltU dk[a]! x) dk j i):=(scanUp_end (fun x=> !ltU dk[a]! x) dk j i' (Or.inr (by rw[←AG.out a,←AG.out i'];exact ht))).symm.trans hsc.out;clear ht;have hw2:wr.drewN nq=W1.drewN (n1+nq):=by rw[HW1.out,World.drewN_drewN]
      clear hcw HW1 hsc
      go_loopw [10] (fun vj w2=>∃(j' n2:Nat),vj=.int .i64 j'∧j'≤j∧i'≤j'+1∧w2=W1.drewN n2∧
       Hid (Sort.scanDown (fun x=>ltU dk[a]! x) dk i' j'=Sort.scanDown (fun x=>ltU dk[a]! x) dk i' j))
       (fun vj _=>(intOf vj).toNat)
      case atStart=>exact⟨j,n1+nq,rfl,Nat.le_refl _,hij',hw2,rfl⟩
      case round=>
       clear hw2;obtain⟨j',n2,rfl,hjj,hij2,hw2,hsd⟩:=hrel;have hcw:∀t,t<d.size→wr.cell? ⟨blk,off+t,none⟩=some (.int .u64 (Gk t)):=fun t ht=>by rw[hw2];exact hc t ht
       have HW2:Hid (wr=W1.drewN n2):=hw2;clear hw2;by_cases hle2:i'≤j'
       · go_wp2_with fail;go_big_quiet (first | (go_at_call 283;refine Calls.quiet_of_same (qw _ _ _)))
         go_wp2
         ·
          have ht:ltU (Gk a) (Gk j')=true:=by assumption
          go_roundw
          case rel=>exact⟨j' - 1,n2+nq,by go_num,by omega,by omega,by rw[HW2.out,World.drewN_drewN],(scanDown_go (fun x=>ltU dk[a]! x) dk i' j' hle2 (by omega) (by rw[←AG.out a,←AG.out j'];exact ht)).symm.trans hsd.out⟩
          case measure=>simp[intOf];omega
         ·
          have ht:ltU (Gk a) (Gk j')=false:=by assumption
          have hj2:Hid (j'=Sort.scanDown (fun x=>ltU dk[a]! x) dk i' j):=(scanDown_end (fun x=>ltU dk[a]! x) dk i' j' (Or.inr (by rw[←AG.out a,←AG.out j'];exact ht))).symm.trans hsd.out;clear hcw hsd ht;have hw3:wr.drewN nq=W1.drewN (n2+nq):=by rw[HW2.out,World.drewN_drewN]
          generalize wr.drewN nq=W3 at hw3 ⊢;have hc3:∀t,t<d.size→W3.cell? ⟨blk,off+t,none⟩=some (.int .u64 (Gk t)):=fun t ht=>by rw[hw3];exact hc t ht
          have hf3:∀t,t<d.size→W3.frozen? ⟨blk,off+t,none⟩=false:=fun t ht=>by rw[hw3];exact hf t ht
          have HW3:Hid (W3=W1.drewN (n2+nq)):=hw3;clear hw3;obtain⟨v3,hy3⟩:=cell?_setCell_some (w:=W3) (p:=⟨blk,off+i',none⟩) (x:=.int .u64 (Gk j')) (q:=⟨blk,off+j',none⟩) (hc3 j' (by omega));have hlt3:=scans_lt ltU a i j dk (by omega) hi2.out hj2.out hle2;go_wp2;go_region
          all_goals go_wp2
          all_goals go_roundw
          case rel=>
           refine⟨i'+1,j' - 1,n+(n2+nq)+1,Sort.swp dk i' j',by go_num,by go_num,by omega,by omega,by omega,by rw[size_swp];exact hs,?_,?_⟩
           · rw[HW3.out,AW.out,World.drewN_drewN,AG.out i',AG.out j'];exact swap_worldC zc w blk off dk _ i' j' (by omega) (by omega)
           · rw[←AE.out];exact(partEq_go ltU a i j dk hi2.out hj2.out (by omega)).symm
          case measure=>simp[intOf];omega
       · go_wp2_with fail;go_big_quiet (first | (go_at_call 283;refine Calls.quiet_of_same (qw _ _ _)))
         have hj2:Hid (j'=Sort.scanDown (fun x=>ltU dk[a]! x) dk i' j):=(scanDown_end (fun x=>ltU dk[a]! x) dk i' j' (Or.inl hle2)).symm.trans hsd.out;clear hcw hsd;have hw3:wr.drewN nq=W1.drewN (n2+nq):=by rw[HW2.out,World.drewN_drewN]
         generalize wr.drewN nq=W3 at hw3 ⊢;have hc3:∀t,t<d.size→W3.cell? ⟨blk,off+t,none⟩=some (.int .u64 (Gk t)):=fun t ht=>by rw[hw3];exact hc t ht
         have hf3:∀t,t<d.size→W3.frozen? ⟨blk,off+t,none⟩=false:=fun t ht=>by rw[hw3];exact hf t ht
         have HW3:Hid (W3=W1.drewN (n2+nq)):=hw3;clear hw3;go_wp2;go_ret;have e:=partEq_break ltU a i j dk hi2.out hj2.out (by omega);refine⟨?_,n+(n2+nq),?_⟩
         · unfold Sort.partitionEqual;rw[←AE.out,e];rfl
         · unfold Sort.partitionEqual;rw[←AE.out,e,HW3.out,AW.out,World.drewN_drewN]
   · go_wp2_with fail;go_big_quiet (first | (go_at_call 283;refine Calls.quiet_of_same (qw _ _ _)))
     go_wp2;have hi2:Hid (i'=Sort.scanUp (fun x=> !ltU dk[a]! x) dk j i):=(scanUp_end (fun x=> !ltU dk[a]! x) dk j i' (Or.inl hle)).symm.trans hsc.out;have hw2:wr.drewN nq=W1.drewN (n1+nq):=by rw[HW1.out,World.drewN_drewN]
     clear hcw HW1 hsc
     go_loopw [10] (fun vj w2=>∃(j' n2:Nat),vj=.int .i64 j'∧j'≤j∧i'≤j'+1∧w2=W1.drewN n2∧
      Hid (Sort.scanDown (fun x=>ltU dk[a]! x) dk i' j'=Sort.scanDown (fun x=>ltU dk[a]! x) dk i' j))
      (fun vj _=>(intOf vj).toNat)
     case atStart=>exact⟨j,n1+nq,rfl,Nat.le_refl _,hij',hw2,rfl⟩
     case round=>
      clear hw2;obtain⟨j',n2,rfl,hjj,hij2,hw2,hsd⟩:=hrel;have hcw:∀t,t<d.size→wr.cell? ⟨blk,off+t,none⟩=some (.int .u64 (Gk t)):=fun t ht=>by rw[hw2];exact hc t ht
      have HW2:Hid (wr=W1.drewN n2):=hw2;clear hw2;by_cases hle2:i'≤j'
      · exfalso;omega
      · go_wp2_with fail;go_big_quiet (first | (go_at_call 283;refine Calls.quiet_of_same (qw _ _ _)))
        have hj2:Hid (j'=Sort.scanDown (fun x=>ltU dk[a]! x) dk i' j):=(scanDown_end (fun x=>ltU dk[a]! x) dk i' j' (Or.inl hle2)).symm.trans hsd.out;clear hcw hsd;have hw3:wr.drewN nq=W1.drewN (n2+nq):=by rw[HW2.out,World.drewN_drewN]
        generalize wr.drewN nq=W3 at hw3 ⊢;have hc3:∀t,t<d.size→W3.cell? ⟨blk,off+t,none⟩=some (.int .u64 (Gk t)):=fun t ht=>by rw[hw3];exact hc t ht
        have hf3:∀t,t<d.size→W3.frozen? ⟨blk,off+t,none⟩=false:=fun t ht=>by rw[hw3];exact hf t ht
        have HW3:Hid (W3=W1.drewN (n2+nq)):=hw3;clear hw3;go_wp2;go_ret;have e:=partEq_break ltU a i j dk hi2.out hj2.out (by omega);refine⟨?_,n+(n2+nq),?_⟩
        · unfold Sort.partitionEqual;rw[←AE.out,e];rfl
        · unfold Sort.partitionEqual;rw[←AE.out,e,HW3.out,AW.out,World.drewN_drewN]
theorem zuc (blk off cap a b pivot:Nat) (d:Array Nat) (w:World) (hH:Holds zc w blk off d) (hap:a≤pivot) (hpb:pivot<b) (hb:b≤d.size) (hsz:d.size<4611686018427387904):
 Calls Tryz.prog 284 #[.slice (some ⟨blk,off,none⟩) d.size cap,.int .i64 a,.int .i64 b,.int .i64 pivot] w fun e w'=>
  e=.returned (.int .i64 (Sort.partitionEqual ltU d a b pivot).1)∧∃n,w'=putRow zc (Sort.ahead w n) blk off (Sort.partitionEqual ltU d a b pivot).2:=
 (zub blk off cap a b pivot d w hH hap hpb hb hsz).mono fun _ _ ⟨he,n,hw⟩=>⟨he,n,hw⟩
end
section
open Go.RowKit
set_option maxRecDepth 20000 in
theorem zud (g o c a b:Nat) (d:Array Nat) (w:World) (hH:Sort.Holds zc w g o d) (hab:a≤b) (hb:b≤d.size) (hsz:d.size<4611686018427387904):
 Calls Tryz.prog 281 #[.slice (some ⟨g,o,none⟩) d.size c,.int .i64 a,.int .i64 b] w fun e w'=>
  e=.returned (.tuple #[])∧∃n,w'=Sort.putRow zc (Sort.ahead w n) g o (Sort.reverseRange d a b):=by
 have HH:=hid hH;have H0:=hid (Sort.putRow_self zc w g o d hH).symm;clear hH;go_enter Tryz.func281,Tryz.ntmps281;go_wp2
 go_loopw [6,7] (fun vi vj wr=>∃(i q n:Nat) (z:Int) (dk:Array Nat),vi=.int .i64 i∧vj=.int .i64 z∧((i:Int)<z→z=q∧q<d.size)∧(¬(i:Int)<z→¬i<q)∧dk.size=d.size∧
  i≤d.size∧ -1≤z∧z≤d.size∧Hid (wr=Sort.putRow zc (Sort.ahead w n) g o dk)∧Hid (Sort.reverseLoop i q dk=Sort.reverseLoop a (b - 1) d)) (fun vi vj _=>(intOf vj - intOf vi).toNat)
 case atStart=>exact⟨a,b - 1,0,(b:Int) - 1,d,rfl,rfl,fun h=>⟨by omega,by omega⟩,fun h=>by omega,rfl,by omega,by omega,by omega,H0,rfl⟩
 case round=>
  obtain⟨i,q,n,z,dk,rfl,rfl,h1,h2,hs,hi,hz1,hz2,HW,HR⟩:=hrel;by_cases hlt:(i:Int)<z
  · obtain⟨rfl,hq⟩:=h1 hlt;have hiq:i<q:=by omega
    obtain⟨G,⟨hcw,hfw,hG⟩⟩:=zgm (zfg HH.out hs HW.out) hs;have HG:=hid hG;clear hG h1 h2;go_wp2_with fail;go_region
    go_wp2;go_roundw
    case rel=>
     refine⟨i+1,q - 1,n+1,(q:Int) - 1,Sort.swp dk i q,by go_num,rfl,fun h=>⟨by omega,by omega⟩,fun h=>by omega,by rw[Sort.size_swp];exact hs,by omega,by omega,by omega,?_,?_⟩
     · show _=_;rw[HG.out,HG.out];exact zgn HW.out 1 i q (by omega) (by omega)
     · show _=_;rw[←HR.out]
       conv=>rhs;rw[Sort.reverseLoop,if_pos hiq]
    case measure=>simp[intOf];omega
  · have hn:=h2 hlt;go_wp2;go_end0
    refine⟨rfl,n,?_⟩;rw[HW.out];unfold Sort.reverseRange;rw[←HR.out,Sort.reverseLoop,if_neg hn]
set_option maxRecDepth 20000 in
theorem zue (g o c root hi f:Nat) (d:Array Nat) (w:World) (hH:Sort.Holds zc w g o d) (hlo:root≤hi) (hb:f+hi≤d.size) (hsz:d.size<4611686018427387904):
 Calls Tryz.prog 292 #[.slice (some ⟨g,o,none⟩) d.size c,.int .i64 root,.int .i64 hi,.int .i64 f] w fun e w'=>
  e=.returned (.tuple #[])∧∃n,w'=Sort.putRow zc (Sort.ahead w n) g o (Sort.siftDown ltU hi f root d):=by
 have HH:=hid hH;have H0:=hid (Sort.putRow_self zc w g o d hH).symm;clear hH;go_enter Tryz.func292,Tryz.ntmps292;go_wp2;go_loopw [8,9] (fun vr _ wr=>∃(r n:Nat) (dk:Array Nat),vr=.int .i64 r∧r≤hi∧dk.size=d.size∧Hid (wr=Sort.putRow zc (Sort.ahead w n) g o dk)∧Hid (Sort.siftDown ltU hi f r dk=Sort.siftDown ltU hi f root d)) (fun vr _ _=>hi - (intOf vr).toNat)
 case atStart=>exact⟨root,0,d,rfl,hlo,rfl,H0,rfl⟩
 case round=>
  obtain⟨r,n,dk,rfl,hr,hs,HW,HR⟩:=hrel;by_cases h0:hi≤2*r+1
  · have h0z:(hi:Int)≤2*(r:Int)+1:=by omega
    go_wp2;go_end0
    exact⟨rfl,n,by rw[HW.out,←HR.out,Sort.sd_end ltU dk h0]⟩
  · have h0z:¬((hi:Int)≤2*(r:Int)+1):=by omega
    obtain⟨G,⟨hcw,hfw,hG⟩⟩:=zgm (zfg HH.out hs HW.out) hs;have HG:=hid hG;clear hG;obtain⟨z,hz⟩:∃z:Bool,z=(decide (2*r+2<hi) && ltU (G (f+(2*r+1))) (G (f+(2*r+2)))):=⟨_,rfl⟩;have Hz:=hid hz;obtain⟨k,hk⟩:∃k,k=if z=true then 2*r+2 else 2*r+1:=⟨_,rfl⟩;have hz1:z=true→2*r+2<hi∧ltU (G (f+(2*r+1))) (G (f+(2*r+2)))=true:=fun h=>by rw[hz] at h;simpa using h
    have hz2:z=false→2*r+2<hi→ltU (G (f+(2*r+1))) (G (f+(2*r+2)))=false:=fun h h2=>by rw[hz] at h;simpa [h2] using h
    have hkh:k<hi:=by
     rw[hk];split
     · rename_i h;exact(hz1 h).1
     · omega
    have hkr:r<k:=by rw[hk];split <;> omega
    have STOP:=hid (fun (h:ltU (G (f+r)) (G (f+k))=false)=>show Sort.siftDown ltU hi f r dk=dk from by
     rw[HG.out,HG.out] at h
     cases hc:z with
     | true=>
      rw[hk,if_pos hc] at h
      exact Sort.sd_right_stop ltU dk (hz1 hc).1 (by rw[←HG.out,←HG.out];exact(hz1 hc).2) h
     | false=>
      rw[hk,if_neg (by rw[hc];simp)] at h;exact Sort.sd_left_stop ltU dk (by omega) (fun h2=>by rw[←HG.out,←HG.out];exact hz2 hc h2) h)
    have GO:=hid (fun (h:ltU (G (f+r)) (G (f+k))=true)=>show Sort.siftDown ltU hi f r dk=Sort.siftDown ltU hi f k (Sort.swp dk (f+r) (f+k)) from by
     rw[HG.out,HG.out] at h
     cases hc:z with
     | true=>
      rw[hk,if_pos hc] at h ⊢
      exact Sort.sd_right_go ltU dk (hz1 hc).1 (by rw[←HG.out,←HG.out];exact(hz1 hc).2) h
     | false=>
      rw[hk,if_neg (by rw[hc];simp)] at h ⊢;exact Sort.sd_left_go ltU dk (by omega) (fun h2=>by rw[←HG.out,←HG.out];exact hz2 hc h2) h)
    have Hkt:=hid (fun h:z=true=>show k=2*r+2 by rw[hk,if_pos h]);have Hkf:=hid (fun h:z=false=>show k=2*r+1 by rw[hk,if_neg (by rw[h];simp)]);clear hk hz hz1 hz2;go_wp2_with fail;go_cut [36] (fun v wc=>v=.bool z∧∃q,Hid (wc=wr.drewN q))
    case first=>
     by_cases h1:2*r+2<hi
     · have h1z:2*(r:Int)+1+1<(hi:Int):=by omega
       go_quiet (first | (go_at_call 283;refine Calls.quiet_of_same (qw _ _ _)));go_wp2;go_meet
       refine⟨?_,nq,rfl⟩;rw[Hz.out];simp[h1,Nat.add_assoc]
     · have h1z:¬2*(r:Int)+1+1<(hi:Int):=by omega
       go_quiet (first | (go_at_call 283;refine Calls.quiet_of_same (qw _ _ _)));go_wp2;go_meet
       refine⟨?_,nq,rfl⟩;rw[Hz.out];simp[h1]
    case rest=>
     obtain⟨rfl,q,HC⟩:=hcut;have hcw2:∀t,t<d.size→wc.cell? ⟨g,o+t,none⟩=some (.int .u64 (G t:Int)):=by rw[HC.out];exact hcw
     have hfw2:∀t,t<d.size→wc.frozen? ⟨g,o+t,none⟩=false:=by rw[HC.out];exact hfw
     have HS:=hid (fun q2 (h:ltU (G (f+r)) (G (f+k))=false)=>show ∃n,wc.drewN q2=Sort.putRow zc (Sort.ahead w n) g o (Sort.siftDown ltU hi f root d) from
      ⟨n+q+q2,by rw[HC.out,HW.out,putRow_drewN,putRow_drewN,←HR.out,STOP.out h]⟩)
     have HT:=hid (fun q2 (h:ltU (G (f+r)) (G (f+k))=true)=>show ∃n2,(((wc.drewN q2).setCell ⟨g,o+(f+r),none⟩ (zc (G (f+k)))).setCell ⟨g,o+(f+k),none⟩ (zc (G (f+r))))=Sort.putRow zc (Sort.ahead w n2) g o (Sort.swp dk (f+r) (f+k)) from
      ⟨n+q+q2,by rw[HG.out,HG.out];exact zgn (by rw[HC.out,HW.out,putRow_drewN]) q2 (f+r) (f+k) (by omega) (by omega)⟩)
     clear hcw hfw
     cases z with
     | true=>
      have hk:=Hkt.out rfl;subst hk;go_wp2_with fail;go_quiet (first | (go_at_call 283;refine Calls.quiet_of_same (qw _ _ _)));go_wp2_with fail
      · have hl:(!ltU (G (f+r)) (G (f+2*r+2)))=true:=by assumption
        (try simp only[Exit.inBlock,Exit.then])
        refine bodyPost_ret (results_none rfl _ _ _) rfl ?_;exact⟨rfl,HS.out nq (by rw[←Nat.add_assoc];simpa using hl)⟩
      · have hl:(!ltU (G (f+r)) (G (f+2*r+2)))=false:=by assumption
        have hl2:ltU (G (f+r)) (G (f+(2*r+2)))=true:=by rw[←Nat.add_assoc];simpa using hl
        obtain⟨n2,hn2⟩:=HT.out (nq+1) hl2;have Hn2:=hid hn2;have Hgo:=hid (GO.out hl2);clear hn2 hl2;go_region
        all_goals go_wp2
        go_roundw
        case rel=>
         refine⟨2*r+2,n2,Sort.swp dk (f+r) (f+(2*r+2)),by go_num,by omega,by rw[Sort.size_swp];exact hs,?_,?_⟩
         · show _=_;rw[←Hn2.out]
           rfl
         · show _=_;rw[←HR.out,Hgo.out]
        case measure=>simp[intOf];omega
     | false=>
      have hk:=Hkf.out rfl;subst hk;go_wp2_with fail;go_quiet (first | (go_at_call 283;refine Calls.quiet_of_same (qw _ _ _)));go_wp2_with fail
      · have hl:(!ltU (G (f+r)) (G (f+2*r+1)))=true:=by assumption
        (try simp only[Exit.inBlock,Exit.then])
        refine bodyPost_ret (results_none rfl _ _ _) rfl ?_;exact⟨rfl,HS.out nq (by rw[←Nat.add_assoc];simpa using hl)⟩
      · have hl:(!ltU (G (f+r)) (G (f+2*r+1)))=false:=by assumption
        have hl2:ltU (G (f+r)) (G (f+(2*r+1)))=true:=by rw[←Nat.add_assoc];simpa using hl
        obtain⟨n2,hn2⟩:=HT.out (nq+1) hl2;have Hn2:=hid hn2;have Hgo:=hid (GO.out hl2);clear hn2 hl2;go_region
        all_goals go_wp2
        go_roundw
        case rel=>
         refine⟨2*r+1,n2,Sort.swp dk (f+r) (f+(2*r+1)),by go_num,by omega,by rw[Sort.size_swp];exact hs,?_,?_⟩
         · show _=_;rw[←Hn2.out]
           rfl
         · show _=_;rw[←HR.out,Hgo.out]
        case measure=>simp[intOf];omega
theorem zcb {W:World} {g i:Nat} {C:Array Value} {T:TypeId} {fr:Nat×Nat} {v:Value} (h:W.heap[g]?=some (.cells C T fr)) (hv:C[i]?=some v):W.cell? ⟨g,i,none⟩=some v:=by
 simp[World.cell?,h,hv]
theorem zme {P:Program} {e:TypeId} {sz:Nat} (h:(P.info? e).map (·.size)=some sz) (w:World):(Go.sizeOf e).run P w=.ok sz w:=by
 cases hq:P.info? e with
 | none=>simp[hq] at h
 | some i=>simp[sizeOf,typeInfo,hq] at h ⊢;exact h
theorem zc3 {P:Program} (w:World) (dT sT ty elem:TypeId) (sz g o dLen dCap:Nat) (a:Addr) (sLen sCap:Nat) (cur:List Value) (t:TypeId) (cs:List Value) (m:Nat)
 (hu:P.underlying dT=some (.slice elem)) (hs:(P.info? elem).map (·.size)=some sz)
 (hg:w.heap[g]?=some (.cells cur.toArray t (0,0))) (hm:Nat.min sLen dLen=m) (hn:cs.length=m*sz)
 (hsrc:∀j v,cs[j]?=some v→w.cell? (a.add j)=some v) (hfit:o+cs.length≤cur.length) (h1:∀v∈cs,v.oneCell'=true):
 (Builtin.copy_ #[dT,sT] ty #[.slice (some ⟨g,o,none⟩) dLen dCap,.slice (some a) sLen sCap]).run P w=
   .ok (goInt m) (w.setRow g (splice cur o cs).toArray):=by
 have hl:=run_loadCells_list (P:=P) w a cs hsrc;have hst:=run_storeCells_at P g o t cs 0 cur.toArray w hg (by simpa using hfit) h1
 cases hq:P.info? elem with
 | none=>simp[hq] at hs
 | some i=>
  have hi:i.size=sz:=by simpa [hq] using hs
  rw[hn] at hl;simp[Builtin.copy_,run_underlying hu,Builtin.lenOf,Builtin.firstCells,sizeOf,typeInfo,hq,hi,hm,hl,hst,splice]
theorem zgq {P:Program} {w:World} {ops:Array Oper} {rest:List Oper} {o:Oper} {a:Act} {Q:Exit→Act→World→Prop} (hgd:o.guard=none) (d s:Operand) (t t':TypeId)
 (ho:o.op=.call { callee:=.builtin .copy,args:= #[d,s],argTypes:= #[t,t'] }) (v u:Value) (hd:a.eval d=v) (hs:a.eval s=u) {v':Value} {w':World}
 (hr:(Builtin.copy_ #[t,t'] o.type #[v,u]).run P w=.ok v' w') (h:wpList P ops Q rest (a.put o.dst v') w'):wpList P ops Q (o :: rest) a w:=by
 refine wpList_plain hgd fun _ hK=>?_
 unfold Oper.wp execOp;simp only[ho,resolve,invoke,builtin,Sem.run_bind,Sem.run_pure,Result.andThen_ok,List.map_toArray,List.map_cons,List.map_nil,hd,hs,hr];exact hK _ _ h
theorem zgr {P:Program} {ops:Array Oper} {o:Oper} {a:Act} {w:World} {K:Act→World→Prop} {Q:Exit→Act→World→Prop} {E:Prop}
 (hg:o.guard=none) (d x:Operand) (dT sT:TypeId) (hop:o.op=Op.call { callee:=Callee.builtin Builtin.copy,args:= #[d,x],argTypes:= #[dT,sT] })
 (v u:Value) (hd:a.eval d=v) (hx:a.eval x=u) {v':Value} {w':World} (hr:(Builtin.copy_ #[dT,sT] o.type #[v,u]).run P w=.ok v' w') (hK:K (a.put o.dst v') w'):
 if Region.wanted o (yielded ops a.tmps)=true then Oper.wp P o a w K Q else E:=by
 have hw:Region.wanted o (yielded ops a.tmps)=true:=by simp[Region.wanted,hg]
 rw[if_pos hw];unfold Oper.wp;simp[execOp,hop,resolve,invoke,builtin,hd,hx,hr,Result.andThen];exact hK
theorem zmf {α:Type} (cur ys:List α) (p q r:Nat) (hp:p≤q) (hy:ys.length=r) (hr:q+r≤cur.length):
 (splice (splice cur (p+r) ((cur.take q).drop p)) p ys).take (q+r)=(cur.take q).take p++(ys++(cur.take q).drop p):=by
 obtain⟨A,B,hA,rfl⟩:∃A B,A.length=p∧cur=A++B:=⟨cur.take p,cur.drop p,by simp;omega,by simp⟩;obtain⟨C,D,hC,rfl⟩:∃C D,C.length=q - p∧B=C++D:=⟨B.take (q - p),B.drop (q - p),by simp at hr ⊢;omega,by simp⟩
 have e1:(A++(C++D)).take q=A++C:=by
  rw[←List.append_assoc,List.take_append_of_le_length (by simp;omega)];exact List.take_of_length_le (by simp;omega)
 rw[e1];have e2:(A++C).drop p=C:=by rw[←hA];simp
 have e3:(A++C).take p=A:=by rw[←hA];simp
 rw[e2,e3];have hl:(splice (A++(C++D)) (p+r) C).length=(A++(C++D)).length:=length_splice _ _ _ (by simp at hr ⊢;omega);obtain⟨E,hE⟩:∃E,splice (A++(C++D)) (p+r) C=(A++(C++D)).take (p+r)++(C++E):=⟨_,rfl⟩
 have h4:(splice (A++(C++D)) (p+r) C).take p=A:=by
  rw[hE,List.take_append_of_le_length (by simp at hr ⊢;omega),List.take_take,Nat.min_eq_left (by omega),←hA];simp
 have h5:(splice (A++(C++D)) (p+r) C).drop (p+r)=C++E:=by
  rw[hE];have:((A++(C++D)).take (p+r)).length=p+r:=by simp at hr ⊢;omega
  rw[List.drop_append,this];simp
 unfold splice at h4 h5 ⊢;rw[h4,hy,h5];have:q+r=(A++(ys++C)).length:=by simp;omega
 rw[this,show A++(ys++(C++E))=(A++(ys++C))++E by simp,List.take_left]
theorem zmg {α:Type} (Z ys:List α) (xs:List α) (p q r:Nat) (hp:p≤q) (hx:xs.length=q) (hy:ys.length=r) (hr:q+r≤Z.length) (hz:Z.take p=xs.take p):
 (splice (splice Z p ys) (p+r) (xs.drop p)).take (q+r)=xs.take p++(ys++xs.drop p):=by
 have hl1:(splice Z p ys).length=Z.length:=length_splice _ _ _ (by omega)
 have h1:(splice Z p ys).take (p+r)=Z.take p++ys:=by
  have:p+r=(Z.take p++ys).length:=by simp;omega
  unfold splice;rw[this,←List.append_assoc,List.take_left]
 have:q+r=(xs.take p++(ys++xs.drop p)).length:=by simp;omega
 generalize splice Z p ys=Y at h1 hl1;unfold splice;rw[h1,hz,this,show ∀T,(xs.take p++ys)++(xs.drop p++T)=(xs.take p++(ys++xs.drop p))++T from fun T=>by simp,List.take_left]
