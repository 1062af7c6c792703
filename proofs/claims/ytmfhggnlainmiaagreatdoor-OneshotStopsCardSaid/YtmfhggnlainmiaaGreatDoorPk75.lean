/- Part 75. -/
import Derived.Sort.LotD5
import Derived.Sort.Walk7a
import Derived.Test.YtmfhggnlainmiaaGreatDoorPk58
set_option linter.unusedVariables false
namespace Go.Proofs.YtmfhggnlainmiaaGreatDoor
section
open Go.RowKit Go.Maps
theorem z5h (b1 b2:Nat) (u v:Value) (P Q:List Nat) (w:World) (hp:w.ownsRow b1 3 1 u P.length (qi P)) (hq:w.ownsRow b2 3 1 v Q.length (qi Q)) (lp:P.length≤1000) (lq:Q.length≤1000):
 Calls Tryz.prog 96 #[u,v] w fun e w'=>e=.returned (.bool (decide (P=Q)))∧Below w.heap.size w w':=by
 have hP:=hp;have hQ:=hq;obtain⟨a,c,rfl⟩:=jh hp;obtain⟨a',c',rfl⟩:=jh hq;by_cases hl:P.length=Q.length
 · by_cases h0:P.length=0
   · obtain rfl:P=[]:=List.length_eq_zero_iff.1 h0;obtain rfl:Q=[]:=List.length_eq_zero_iff.1 hl.symm;refine(Tryz.slices_Equal_int_empty a a' c 0 c' w (by omega)).mono ?_;rintro e w' ⟨rfl,rfl⟩;exact⟨rfl,Below.refl _ _⟩
   · rcases hp.2 with ⟨h,h'⟩ | ⟨g,cap,cur,h,_⟩
     · omega
     · cases h;rcases hq.2 with ⟨h,h'⟩ | ⟨g',cap',cur',h,_⟩
       · omega
       · cases h
         have c1:∀j,j<(P.map fun (x:Nat)=>(x:Int)).length→w.cell? ⟨g,0+j,none⟩=some (.int .i64 ((P.map fun (x:Nat)=>(x:Int)).getD j 0)):=fun j hj=>by
          have hj':j<P.length:=by simpa using hj
          have:=hP.cells (g:=g) rfl j _ (zjf P j hj');rw[qg] at this;rw[this];simp[nth,hj']
         have c2:∀j,j<(Q.map fun (x:Nat)=>(x:Int)).length→w.cell? ⟨g',0+j,none⟩=some (.int .i64 ((Q.map fun (x:Nat)=>(x:Int)).getD j 0)):=fun j hj=>by
          have hj':j<Q.length:=by simpa using hj
          have:=hQ.cells (g:=g') rfl j _ (zjf Q j hj');rw[qg] at this;rw[this];simp[nth,hj']
         refine(Tryz.slices_Equal_int g 0 P.length c g' 0 Q.length c' (P.map fun (x:Nat)=>(x:Int)) (Q.map fun (x:Nat)=>(x:Int)) w (by simp) (by simp) (by omega) (by omega) c1 c2).mono ?_;rintro e w' ⟨rfl,q,rfl⟩;refine⟨zd5 ?_,⟨rfl,rfl,rfl,Nat.le_refl _,fun _ _=>rfl⟩⟩;rw[List.take_of_length_le (by simp),List.take_of_length_le (by simp)];by_cases e:P=Q
         · subst e;simp
         · rw[decide_eq_false e,beq_eq_false_iff_ne];intro h;apply e;have:=congrArg (List.map Int.toNat) h;simpa [List.map_map,Function.comp_def] using this
 · refine(Tryz.slices_Equal_int_lens a a' P.length c Q.length c' w hl).mono ?_;rintro e w' ⟨rfl,rfl⟩;exact⟨zd5 (by rw[decide_eq_false (fun e=>hl (by rw[e]))]),Below.refl _ _⟩
