/- Part 47. -/
import Derived.Test.YtmfhggnlainmiaaGreatDoorPk40
import Derived.Test.YtmfhggnlainmiaaGreatDoorPk20
set_option linter.unusedVariables false
set_option maxHeartbeats 16000000
namespace Go.Proofs.YtmfhggnlainmiaaGreatDoor
open Lib (hid)
section
open Go.RowKit
theorem yfy {ks us:List Kno} (hl:ks.length=us.length) (h:∀i,i<ks.length→zt ks i=zt us i):ks=us:=
 List.ext_getElem hl fun i h1 h2=>by have:=h i h1;rwa [zb2 h1,zb2 h2] at this
set_option maxRecDepth 20000 in
theorem z16 (a d:Option Addr) (n c n' c':Nat) (ks us:List Kno) (w:World) (hE:KnS w a n c ks) (hF:KnS w d n' c' us):
 Calls Tryz.prog 21 #[.slice a n c,.slice d n' c'] w fun x w'=>(∃r:Nat,x=.returned (.int .i64 r)∧((r=1∧ks=us)∨(r=0∧ks≠us)))∧Below w.heap.size w w':=by
 have HE:=hid (fun W (h:Below w.heap.size w W)=>hE.below h);have HF:=hid (fun W (h:Below w.heap.size w W)=>hF.below h);have Hl:=hid hE.len;have Hl':=hid hF.len;have hm:n≤9223372036854775807:=Nat.le_trans hE.room hE.most;have hm':n'≤9223372036854775807:=Nat.le_trans hF.room hF.most;have hr:=hE.room;have hr':=hF.room;clear hE hF;go_enter Tryz.func21,Tryz.ntmps21;by_cases hn:n=n'
 · subst hn;have Hle:=hid (Hl.out.trans Hl'.out.symm);go_wp2_with fail;go_loopw [13] (fun i wr=>∃k:Nat,k≤n∧i=.int .i64 k∧Hid (Below w.heap.size w wr)∧Hid (∀j,j<k→zt ks j=zt us j)) (fun i _=>n - (intOf i).toNat)
   case atStart=>exact⟨0,Nat.zero_le _,rfl,hid (Below.refl _ _),hid fun j hj=>absurd hj (Nat.not_lt_zero j)⟩
   case round=>
    obtain⟨k,hk,rfl,hb,hI⟩:=hrel;by_cases hkn:k<n
    · obtain⟨b,o,rfl,hc⟩:=(HE.out _ hb.out).cells (by omega);obtain⟨b',o',rfl,hc'⟩:=(HF.out _ hb.out).cells (by omega);obtain⟨x,m,q,e1,f1⟩:=hc k hkn;obtain⟨x',m',q',e2,f2⟩:=hc' k hkn;have HS:=hid (fun W (h:Below wr.heap.size wr W)=>zpi x x' m q m' q' _ _ W (f1.below h) (f2.below h));have hd:decide ((k:Int)<(n:Int))=true:=by rw[decide_eq_true_iff];omega
      have hk1:IntKind.i64.wrap ((k:Int)+1)=((k+1:Nat):Int):=by rw[IntKind.wrap_i64];omega
      have h0:(0:Int)≤(k:Int):=by omega
      have h0n:(k:Int)<(n:Int):=by omega
      obtain⟨r,hr⟩:∃r,r=decide (zt ks k=zt us k):=⟨_,rfl⟩;rw[←hr] at HS;have Hr:=hid hr;clear hc hc' f1 f2 hr;go_wp2_with fail;go_region_with (go_at_call 44;refine(HS.out _ (Below.refl _ _).drew).mono ?_;rintro e w2 ⟨rfl,hb2⟩;have Hb2:=hid (hb.out.trans (((Below.refl wr.heap.size wr).drew.trans (hb2.mono (Nat.le_refl _))).mono hb.out.size));clear hb2)
      all_goals
       cases r with
       | false=>
        have Hne:=hid (show ks≠us from fun e=>by rw[e] at Hr;exact absurd (Hr.out.trans (decide_eq_true rfl)) (by decide));go_wp2_with fail;go_ret
        exact⟨⟨0,rfl,.inr ⟨rfl,Hne.out⟩⟩,Hb2.out⟩
       | true=>
        have HI2:=hid (show ∀j,j<k+1→zt ks j=zt us j from fun j hj=>by
         by_cases e:j=k
         · subst e;exact of_decide_eq_true Hr.out.symm
         · exact hI.out j (by omega))
        go_wp2_with fail;go_roundw
        case rel=>exact⟨k+1,hkn,rfl,Hb2,HI2⟩
        case measure=>simp[intOf];omega
    · have hd:decide ((k:Int)<(n:Int))=false:=by rw[decide_eq_false_iff_not];omega
      have Heq:=hid (show ks=us from yfy (Hl.out.trans Hl'.out.symm) fun i hi=>hI.out i (by have:=Hl.out;omega));go_wp2_with fail;go_ret;exact⟨⟨1,rfl,.inl ⟨rfl,Heq.out⟩⟩,hb.out⟩
 · have hd:((n:Int) != (n':Int))=true:=by rw[bne_iff_ne];omega
   have Hne:=hid (show ks≠us from fun e=>by have:=Hl.out;have:=Hl'.out;rw[e] at *;omega);go_wp2_with fail;go_ret;exact⟨⟨0,rfl,.inr ⟨rfl,Hne.out⟩⟩,Below.refl _ _⟩
