/- Part 67. -/
import Derived.Test.YtmfhggnlainmiaaGreatDoorPk66
set_option linter.unusedVariables false
set_option maxHeartbeats 16000000
namespace Go.Proofs.YtmfhggnlainmiaaGreatDoor
open Lib (hid)
section
open Go.RowKit
theorem yje (g:Bool→Bool→Bool) (a b:List Iv):(opL g a b).length≤1+2*a.length+2*b.length:=by
 unfold opL;have h1:=zp0 (qz (fun x=>g (mem a x) (mem b x)) (zek (jk [a,b]))) [];rw[zcj] at h1;have h2:=ze1 (zh7 (jk [a,b])) (M:=jk [a,b]) (fun y hy=>(zf4 _ y).1 hy);have h3:=zjc a;have h4:=zjc b;simp[jk] at h1 h2 ⊢;omega
theorem z4y (a:Option Addr) (n cap r:Nat) (v:Vec) (w:World) (hE:Ents w a n cap v) (hF:VecFits v):
 Calls Tryz.prog 269 #[.slice a n cap,.int .u64 r] w fun x w'=>zef w.heap.size (yw v r) x w'∧Below w.heap.size w w':=by
 have hC:=hid (yi1 a n cap r v w hE);have Hk:=hid (z29 v r);have HE:=hid hE;have Hl:=hid hE.len;have HF:=hid hF;clear hE hF
 cases h:zh9 v r with
 | none=>
  rw[h] at hC Hk;simp only[zck] at hC Hk;clear h;go_enter Tryz.func269,Tryz.ntmps269;go_wp2_with fail;refine hC.out.mono ?_;rintro e w1 ⟨rfl,hb1⟩;have Hb1:=hid hb1;clear hb1;go_wp2;go_ret
  exact⟨⟨_,rfl,by rw[Hk.out];exact World.ownsRow_nil _ _ _ _⟩,Hb1.out⟩
 | some i=>
  obtain⟨hi,-⟩:=z20 h;rw[h] at hC Hk;simp only[zck] at hC Hk;have hin:i<n:=by rw[←Hl.out];exact hi
  have h0:(0:Int)≤i:=by omega
  have h04:(i:Int)<(n:Int):=by omega
  have hd:decide ((i:Int)<0)=false:=by rw[decide_eq_false_iff_not];omega
  obtain⟨bb,oo,rfl⟩:=HE.out.some (by omega);obtain⟨s,m,c,hq⟩:=HE.out.fix hin;have Hq:=hid hq;have hlt:=HE.out.lt _ (vq hi);have hho:=HF.out.holes _ (vq hi);have hk:=hid (fun w' h=>z4w (zg v i) s m c w' ((hq w' h).2.2.2) hlt.max (by omega));clear hlt hho;generalize zg v i=e at*;obtain⟨er,em,eh⟩:=e;simp only at Hq hk;clear h hi hq;go_enter Tryz.func269,Tryz.ntmps269;go_wp2_with fail;refine hC.out.mono ?_;rintro e w1 ⟨rfl,hb1⟩;have Hb1:=hid hb1;clear hb1;obtain⟨q1,q2,q3,-⟩:=Hq.out _ Hb1.out;go_wp2_with fail;refine(hk.out _ Hb1.out).mono ?_;rintro e w2 ⟨⟨y,rfl,ho⟩,hb2⟩;have Hb2:=hid hb2;have Ho:=hid ho;clear hb2 ho;go_wp2;go_ret;exact⟨⟨_,rfl,by rw[Hk.out];exact qt Ho.out Hb1.out.size⟩,Hb1.out.trans (Hb2.out.mono Hb1.out.size)⟩
def za9 (a:Vec) (k:Nat) (acc:List Nat):List Nat:=((a.take k).map (·.1)).foldl ky acc
theorem zvb {a:Vec} {k:Nat} {acc:List Nat} (h:k<a.length):za9 a (k+1) acc=ky (za9 a k acc) (zg a k).1:=by
 unfold za9;rw[List.take_succ_eq_append_getElem h,List.map_append,List.foldl_append,j0 h]
 rfl
theorem zvc {a:Vec} {acc:List Nat} (hA:Asc acc):∀k,(za9 a k acc).length≤acc.length+k∧Asc (za9 a k acc)
 | 0=>⟨by simp[za9],by simpa [za9] using hA⟩
 | k+1=>by
   obtain⟨h1,h2⟩:=zvc (a:=a) hA k;by_cases h:k<a.length
   · rw[zvb h];have:=yi5 (x:=(zg a k).1) h2;exact⟨by omega,ziu h2⟩
   · have:za9 a (k+1) acc=za9 a k acc:=by unfold za9;rw[List.take_of_length_le (by omega),List.take_of_length_le (by omega)]
     rw[this];exact⟨by omega,h2⟩
theorem z4z {a:Vec} {acc:List Nat} (k:Nat) (y:Nat) (h:y∈za9 a k acc):y∈acc∨∃e∈a,e.1=y:=by
 have:∀(l:List Nat) (acc:List Nat),y∈l.foldl ky acc→y∈acc∨y∈l:=by
  intro l
  induction l with
  | nil=>intro acc h;exact .inl h
  | cons x l ih=>
   intro acc h;rcases ih _ h with h | h
   · rcases zhc.1 h with h | rfl
     · exact .inl h
     · exact .inr List.mem_cons_self
   · exact .inr (List.mem_cons_of_mem _ h)
 rcases this _ _ h with h | h
 · exact .inl h
 · rw[List.mem_map] at h;obtain⟨e,he,rfl⟩:=h;exact .inr ⟨e,List.mem_of_mem_take he,rfl⟩
theorem yjf (a b:Vec):za9 b b.length (za9 a a.length [])=zcl a b:=by
 unfold za9 zcl zek;rw[List.take_length,List.take_length,List.foldl_append]
theorem yjg {base:Nat} {f:Ent} {x:Ending} {w':World} (h:zfg base (some f) x w') (hl:zo f.2.2):∃a c,x=.returned (.tuple #[zbm f (.slice a f.2.2.length c),.bool true])∧
 ∀w'',(∀k,base≤k→k<w'.heap.size→w''.heap[k]?=w'.heap[k]?)→IvsT w'' 0 a f.2.2.length c f.2.2:=by
 obtain⟨s,rfl,ho⟩:=h;obtain⟨a,c,rfl,-⟩:=ze3 (base':=0) ho hl;refine⟨a,c,rfl,fun w'' hk=>?_⟩;obtain⟨a',c',e,h⟩:=ze3 (base':=0) (j8 ho hk) hl;cases e;exact h
theorem zic {X w':World} {x y z:Value} {T:TypeId} (h:Below (X.alloc (.cells #[x,y,z] T)).heap.size (X.alloc (.cells #[x,y,z] T)) w'):w'.heap[X.heap.size]?=some (.cells #[x,y,z] T):=
 (h.block _ (by simp)).trans (qa rfl)
theorem zid {X w':World} {x y z:Value} {T:TypeId} (h:Below (X.alloc (.cells #[x,y,z] T)).drew.heap.size (X.alloc (.cells #[x,y,z] T)).drew w'):w'.heap[X.heap.size]?=some (.cells #[x,y,z] T):=
 (h.block _ (by show X.heap.size<(X.alloc _).heap.size;simp)).trans (qa rfl)
theorem zie {W w':World} {g:Nat} {x y z:Value} {T:TypeId} (h:Below W.heap.size W w') (hr:W.heap[g]?=some (.cells #[x,y,z] T)):w'.heap[g]?=some (.cells #[x,y,z] T):=
 (h.block _ (Array.getElem?_eq_some_iff.1 hr).1).trans hr
set_option maxRecDepth 20000 in
theorem yjh (a d:Option Addr) (n c n' c' op:Nat) (v u:Vec) (w:World) (hE:Ents w a n c v) (hF:Ents w d n' c' u) (hop:op<3) (fv:VecFits v) (fu:VecFits u):
 Calls Tryz.prog 218 #[.slice a n c,.slice d n' c',.int .i64 op] w fun x w'=>(∃y,x=.returned y∧OwnV w' w.heap.size y (doV (gOf op) v u))∧Below w.heap.size w w':=by
 have HE:=hid hE;have HF:=hid hF;have Hfv:=hid fv;have Hfu:=hid fu;have Hop:=hid hop;have Hl:=hid hE.len;have Hl':=hid hF.len;have hn3:n≤340:=by rw[←hE.len];exact fv.len
 have hn3':n'≤340:=by rw[←hF.len];exact fu.len
 clear hE hF fv fu hop;go_enter Tryz.func218,Tryz.ntmps218;go_wp2;go_loopw [7,8] (fun y i wr=>∃k:Nat,k≤n∧i=.int .i64 k∧Below w.heap.size w wr∧Hid (wr.ownsRow w.heap.size 64 1 y (za9 v k []).length (zi (za9 v k [])))) (fun _ i _=>n - (intOf i).toNat)
 case atStart=>exact⟨0,by omega,rfl,Below.refl _ _,World.ownsRow_nil _ _ _ _⟩
 case round=>
  obtain⟨k,hk,rfl,hb,ho⟩:=hrel;have Hb:=hid hb;clear hb;obtain⟨hRl,hRa⟩:=zvc (a:=v) (acc:=[]) trivial k;simp only[List.length_nil,Nat.zero_add] at hRl
  have Hlt:=hid (show ∀y∈za9 v k [],y<18446744073709551616 from fun y hy=>by
   rcases z4z k y hy with h | ⟨e,he,rfl⟩
   · cases h
   · exact(HE.out.lt e he).rep)
  by_cases hkn:k<n
  · have hkv:k<v.length:=by rw[Hl.out];exact hkn
    have HEr:=hid (HE.out.below Hb.out);obtain⟨bb,oo,rfl⟩:=HEr.out.some (by omega);obtain⟨q1,-,-⟩:=HEr.out.at hkn _ (Below.refl _ _);have Hst:=hid (zvb (acc:=[]) hkv);have hC:=hid (z4u w.heap.size _ (zg v k).1 _ _ wr ho.out Hb.out.size hRa Hlt.out (by omega));generalize za9 v k []=R at*;generalize (zg v k).1=r at*;have h0:(0:Int)≤k:=by omega
    have h04:(k:Int)<(n:Int):=by omega
    go_wp2_with fail;refine hC.out.mono ?_;rintro e w1 ⟨⟨y,rfl,ho1⟩,hb1⟩;have Hb1:=hid (Hb.out.trans (hb1.mono Hb.out.size));have Ho1:=hid ho1;clear hb1 ho1;go_wp2;go_roundw
    case rel=>exact⟨k+1,by omega,by go_num,Hb1.out,by rw[Hst.out];exact Ho1.out⟩
    case measure=>simp[intOf];omega
  · obtain rfl:k=n:=by omega
    have HE2:=hid (HE.out.below Hb.out);have HF2:=hid (HF.out.below Hb.out);generalize hR0:za9 v k []=R0 at*;have HR0:=hid hR0;clear hR0;obtain⟨w2,hw2⟩:∃w2:World,w2=wr:=⟨_,rfl⟩;rw[←hw2] at ho Hb HE2 HF2 ⊢;clear hw2;go_wp2;go_loopw [7,9] (fun y i wr=>∃j:Nat,j≤n'∧i=.int .i64 j∧Below w.heap.size w wr∧Hid (wr.ownsRow w.heap.size 64 1 y (za9 u j R0).length (zi (za9 u j R0)))) (fun _ i _=>n' - (intOf i).toNat)
    case atStart=>exact⟨0,by omega,rfl,Hb.out,by
     have:za9 u 0 R0=R0:=rfl;rw[this];exact ho.out⟩
    case round=>
     obtain⟨j,hj,rfl,hb,hoj⟩:=hrel;have Hbj:=hid hb;clear hb;obtain⟨hRl',hRa'⟩:=zvc (a:=u) (acc:=R0) hRa j
     have Hlt':=hid (show ∀y∈za9 u j R0,y<18446744073709551616 from fun y hy=>by
      rcases z4z j y hy with h | ⟨e,he,rfl⟩
      · exact Hlt.out y h
      · exact(HF.out.lt e he).rep)
     by_cases hjn:j<n'
     · have hjv:j<u.length:=by rw[Hl'.out];exact hjn
       have HFr:=hid (HF.out.below Hbj.out);obtain⟨bb,oo,rfl⟩:=HFr.out.some (by omega);obtain⟨q1,-,-⟩:=HFr.out.at hjn _ (Below.refl _ _);have Hst:=hid (zvb (acc:=R0) hjv);have hC:=hid (z4u w.heap.size _ (zg u j).1 _ _ wr hoj.out Hbj.out.size hRa' Hlt'.out (by omega));generalize za9 u j R0=R at*;generalize (zg u j).1=r at*;have h0:(0:Int)≤j:=by omega
       have h04:(j:Int)<(n':Int):=by omega
       go_wp2_with fail;refine hC.out.mono ?_;rintro e w1 ⟨⟨y,rfl,ho1⟩,hb1⟩;have Hb1:=hid (Hbj.out.trans (hb1.mono Hbj.out.size));have Ho1:=hid ho1;clear hb1 ho1;go_wp2;go_roundw
       case rel=>exact⟨j+1,by omega,by go_num,Hb1.out,by rw[Hst.out];exact Ho1.out⟩
       case measure=>simp[intOf];omega
     · obtain rfl:j=n':=by omega
       have hall:za9 u j R0=zcl v u:=by rw[←HR0.out,←Hl.out,←Hl'.out];exact yjf v u
       rw[hall] at hoj hRl' hRa' Hlt';generalize hS:zcl v u=S at*;have HS:=hid hS;obtain⟨aS,cS,rfl,hU⟩:=zcx hoj.out Hlt'.out;have HU:=hid hU;obtain⟨N,hN⟩:∃N,N=S.length:=⟨_,rfl⟩;rw[←hN] at HU hRl' ⊢;have HN:=hid hN;have Hsl:=hid Hlt'.out;clear hoj hU hall hS hN Hlt' Hlt;obtain⟨w3,hw3⟩:∃w3:World,w3=wr:=⟨_,rfl⟩;rw[←hw3] at Hbj HU ⊢;clear hw3;have hN6:N≤680:=by omega
       obtain⟨f,hf⟩:∃f:Nat→Option Ent,f=fun r=>ofE r (opL (gOf op) (yw v r) (yw u r)):=⟨_,rfl⟩
       have hdo:doV (gOf op) v u=S.filterMap f:=by rw[hf,←HS.out];rfl
       have Hdo:=hid hdo;have Hfr:=hid (show ∀r,f r=ofE r (opL (gOf op) (yw v r) (yw u r)) from fun r=>by rw[hf]);clear hdo hf HS HR0 HE2 HF2;go_wp2;go_loopw [10,11,12,13] (fun y i _ _ wr=>∃k:Nat,k≤N∧i=.int .i64 k∧Below w3.heap.size w3 wr∧Hid (OwnV wr w3.heap.size y ((S.take k).filterMap f))) (fun _ i _ _ _=>N - (intOf i).toNat)
       case atStart=>exact⟨0,by omega,rfl,Below.refl _ _,zjz _ _⟩
       case round=>
        obtain⟨k',hk',rfl,hb,ho⟩:=hrel;have Hb:=hid hb;clear hb;have Hb3:=hid (Hbj.out.trans (Hb.out.mono Hbj.out.size));by_cases hkN:k'<N
        · have HUr:=hid (HU.out.below Hb.out);obtain⟨bS,oS,rfl,hcS⟩:=HUr.out.cells (by omega);have q1:=hcS k' hkN;have r1:∀w',Below wr.heap.size wr w'→w'.cell? ⟨bS,oS+k',none⟩=some (.int .u64 ((nth S k':Nat):Int)):=fun w' h=>(h.cell (p:=⟨bS,oS+k',none⟩) (zf q1)).trans q1
          clear hcS
          have Hst:=hid (show (S.take (k'+1)).filterMap f=(S.take k').filterMap f++(f (nth S k')).toList from by
           rw[List.take_succ_eq_append_getElem (by rw[←HN.out];exact hkN),List.filterMap_append];have e:S[k']'(by rw[←HN.out];exact hkN)=nth S k':=by simp[nth,show k'<S.length by rw[←HN.out];exact hkN]
           rw[e];simp only[List.filterMap_cons,List.filterMap_nil];cases f (nth S k') <;> rfl)
          have HoL:=hid (show ((S.take k').filterMap f).length≤680 from by
           have:=List.length_filterMap_le f (S.take k');rw[List.length_take] at this;omega)
          have hcS2:=HUr.out.room;have Hfr2:=hid (Hfr.out (nth S k'));generalize (S.take k').filterMap f=T at*;generalize nth S k'=r at*;have hK1:=hid (fun w' (h:Below wr.heap.size wr w')=>z4y a _ c r v w' (HE.out.below (Hb3.out.trans (h.mono Hb3.out.size))) Hfv.out);have hK2:=hid (fun w' (h:Below wr.heap.size wr w')=>z4y d _ c' r u w' (HF.out.below (Hb3.out.trans (h.mono Hb3.out.size))) Hfu.out);have hk1:=zp6 HE.out.lt Hfv.out r;have hk2:=zp6 HF.out.lt Hfu.out r;have Hl1:=hid (zew HE.out.lt r);have Hl2:=hid (zew HF.out.lt r);have hk3:=yje (gOf op) (yw v r) (yw u r);have Hl3:=hid (zb5 (g:=gOf op) Hl1.out Hl2.out (yi6 op)).2.2;have Hll:=hid (show 2*(opL (gOf op) (yw v r) (yw u r)).length+3≤100000 from by omega);have hDo:=hid (fun a1 n1 c1 a2 n2 c2 w' (h1:Ivs w' a1 n1 c1 (yw v r)) (h2:Ivs w' a2 n2 c2 (yw u r))=>zqo a1 a2 n1 c1 n2 c2 op _ _ w' h1 h2 Hop.out (by omega));generalize opL (gOf op) (yw v r) (yw u r)=L at*;generalize yw v r=L1 at*;generalize yw u r=L2 at*;have hOf:=hid (fun a1 n1 c1 w' (h1:Ivs w' a1 n1 c1 L)=>z4x r a1 n1 c1 L w' h1 Hll.out)
          have hfl:=hid (fun e (h:ofE r L=some e)=>show zo e.2.2 from by
           unfold ofE at h;split at h
           · cases h
           · cases h;exact(zb5 (g:=ku) (zhd (by omega) (zua Hl3.out)) Hl3.out rfl).2.2)
          have h0:(0:Int)≤k':=by omega
          have h04:(k':Int)<(N:Int):=by omega
          cases hfr:ofE r L with
          | none=>
           rw[Hfr2.out,hfr] at Hst;rw[hfr] at hOf;simp only[zfg,Option.toList,List.append_nil] at hOf Hst;clear hfr hfl hk1 hk2 hk3 q1;go_wp2_with fail;go_cut [12,13] (fun p ok wc=>ok=.bool false∧Hid (Below wr.heap.size wr wc))
           case first=>
            go_region_held3 (fun w'=>Below wr.heap.size wr w') (first | assumption | exact(Below.refl _ _).drew | exact Below.alloc (by assumption) (Below.size (by assumption)) _ | exact zp7 (by assumption) (by first | exact Nat.le_refl _ | exact Below.size (by assumption))) (first
            | (go_at_call 269
               first
               | (with_reducible refine(hK1.out _ (by assumption)).mono ?_
                  rintro e w4 ⟨⟨y1,rfl,ho1⟩,hb1⟩;have hS1:Below wr.heap.size wr w4:=Below.trans (by assumption) (hb1.mono (Below.size (by assumption)));obtain⟨a1,c1,rfl,hI1⟩:=za2 ho1 Hl1.out;have HI1:=hid hI1;clear ho1 hI1
                  try (first | have HI2:=hid (HI2.out.below hb1) | have HI2:=hid ((HI2.out.below ((Below.refl _ _).alloc (Nat.le_refl _) _)).below hb1))
                  first
                  | (have zs:wr.heap.size≤_:=Below.size (by assumption)
                     first | have zr:=zic hb1 | have zr:=zid hb1
                     have zz:=zby zr;have z0:=zz.1;have z1:=zz.2.1;have z2:=zz.2.2.1;have z3:=zz.2.2.2.1;have z4:=zz.2.2.2.2.1;have z5:=zz.2.2.2.2.2
                     clear zz)
                  | (have zr:=zie hb1 zr
                     have zz:=zby zr;have z0:=zz.1;have z1:=zz.2.1;have z2:=zz.2.2.1;have z3:=zz.2.2.2.1;have z4:=zz.2.2.2.2.1;have z5:=zz.2.2.2.2.2
                     clear zz)
                  | skip
                  clear hb1)
               | (with_reducible refine(hK2.out _ (by assumption)).mono ?_
                  rintro e w5 ⟨⟨y2,rfl,ho2⟩,hb2⟩;have hS2:Below wr.heap.size wr w5:=Below.trans (by assumption) (hb2.mono (Below.size (by assumption)));obtain⟨a2,c2,rfl,hI2⟩:=za2 ho2 Hl2.out;have HI2:=hid hI2;clear ho2 hI2
                  try (first | have HI1:=hid (HI1.out.below hb2) | have HI1:=hid ((HI1.out.below ((Below.refl _ _).alloc (Nat.le_refl _) _)).below hb2))
                  first
                  | (have zs:wr.heap.size≤_:=Below.size (by assumption)
                     first | have zr:=zic hb2 | have zr:=zid hb2
                     have zz:=zby zr;have z0:=zz.1;have z1:=zz.2.1;have z2:=zz.2.2.1;have z3:=zz.2.2.2.1;have z4:=zz.2.2.2.2.1;have z5:=zz.2.2.2.2.2
                     clear zz)
                  | (have zr:=zie hb2 zr
                     have zz:=zby zr;have z0:=zz.1;have z1:=zz.2.1;have z2:=zz.2.2.1;have z3:=zz.2.2.2.1;have z4:=zz.2.2.2.2.1;have z5:=zz.2.2.2.2.2
                     clear zz)
                  | skip
                  clear hb2))
            | (go_at_call 213
               refine(hDo.out _ _ _ _ _ _ _ (by first | exact HI1.out | exact HI1.out.below ((Below.refl _ _).alloc (Nat.le_refl _) _)) (by first | exact HI2.out | exact HI2.out.below ((Below.refl _ _).alloc (Nat.le_refl _) _))).mono ?_;rintro e w6 ⟨⟨y3,rfl,ho3⟩,hb3⟩;have hS3:Below wr.heap.size wr w6:=Below.trans (by assumption) (hb3.mono (Below.size (by assumption)));obtain⟨a3,c3,rfl,hI3⟩:=za2 ho3 Hl3.out;have HI3:=hid hI3;clear ho3 hI3
               first
               | (have zs:wr.heap.size≤_:=Below.size (by assumption)
                  first | have zr:=zic hb3 | have zr:=zid hb3
                  have zz:=zby zr;have z0:=zz.1;have z1:=zz.2.1;have z2:=zz.2.2.1;have z3:=zz.2.2.2.1;have z4:=zz.2.2.2.2.1;have z5:=zz.2.2.2.2.2
                  clear zz)
               | (have zr:=zie hb3 zr
                  have zz:=zby zr;have z0:=zz.1;have z1:=zz.2.1;have z2:=zz.2.2.1;have z3:=zz.2.2.2.1;have z4:=zz.2.2.2.2.1;have z5:=zz.2.2.2.2.2
                  clear zz)
               | skip
               clear hb3)
            | (go_at_call 261
               refine(hOf.out _ _ _ _ (by first | exact HI3.out | exact HI3.out.below ((Below.refl _ _).alloc (Nat.le_refl _) _))).mono ?_;rintro e w7 ⟨hz,hb4⟩
               try (have zl:=(Array.getElem?_eq_some_iff.1 zr).1)
               have hS4:Below wr.heap.size wr w7:=Below.trans (by assumption) (hb4.mono (Below.size (by assumption)));subst hz
               first
               | (have zs:wr.heap.size≤_:=Below.size (by assumption)
                  first | have zr:=zic hb4 | have zr:=zid hb4
                  have zz:=zby zr;have z0:=zz.1;have z1:=zz.2.1;have z2:=zz.2.2.1;have z3:=zz.2.2.2.1;have z4:=zz.2.2.2.2.1;have z5:=zz.2.2.2.2.2
                  clear zz)
               | (have zr:=zie hb4 zr
                  have zz:=zby zr;have z0:=zz.1;have z1:=zz.2.1;have z2:=zz.2.2.1;have z3:=zz.2.2.2.1;have z4:=zz.2.2.2.2.1;have z5:=zz.2.2.2.2.2
                  clear zz)
               | skip
               clear hb4))
            all_goals go_wp2
            all_goals go_meet
            all_goals exact⟨rfl,by assumption⟩
           case rest=>
            obtain⟨rfl,hb2⟩:=hcut;have Hb5:=hid (Hb.out.trans (hb2.out.mono Hb.out.size));have Ho5:=hid (ho.out.below hb2.out);clear hb2;go_wp2;go_roundw
            case rel=>exact⟨k'+1,by omega,by go_num,Hb5.out,by rw[Hst.out];exact Ho5.out⟩
            case measure=>simp[intOf];omega
          | some e=>
           have Hel:=hid (hfl.out e hfr);rw[Hfr2.out,hfr] at Hst;rw[hfr] at hOf;simp only[Option.toList] at Hst;obtain⟨er,em,eh⟩:=e;clear hfr hfl hk1 hk2 hk3 q1;go_wp2_with fail;go_cut [12,13] (fun p ok wc=>ok=.bool true∧∃s,p=.pointer (some ⟨s,0,none⟩)∧Hid (Below wr.heap.size wr wc∧wc.cell? ⟨s,0,none⟩=some (.int .u64 er)∧wc.cell? ⟨s,1,none⟩=some (.int .u64 em)∧∃sa sc,wc.cell? ⟨s,2,none⟩=some (.slice sa eh.length sc)∧IvsT wc 0 sa eh.length sc eh))
           case first=>
            go_region_held3 (fun w'=>Below wr.heap.size wr w') (first | assumption | exact(Below.refl _ _).drew | exact Below.alloc (by assumption) (Below.size (by assumption)) _ | exact zp7 (by assumption) (by first | exact Nat.le_refl _ | exact Below.size (by assumption))) (first
            | (go_at_call 269
               first
               | (with_reducible refine(hK1.out _ (by assumption)).mono ?_
                  rintro e w4 ⟨⟨y1,rfl,ho1⟩,hb1⟩;have hS1:Below wr.heap.size wr w4:=Below.trans (by assumption) (hb1.mono (Below.size (by assumption)));obtain⟨a1,c1,rfl,hI1⟩:=za2 ho1 Hl1.out;have HI1:=hid hI1;clear ho1 hI1
                  try (first | have HI2:=hid (HI2.out.below hb1) | have HI2:=hid ((HI2.out.below ((Below.refl _ _).alloc (Nat.le_refl _) _)).below hb1))
                  first
                  | (have zs:wr.heap.size≤_:=Below.size (by assumption)
                     first | have zr:=zic hb1 | have zr:=zid hb1
                     have zz:=zby zr;have z0:=zz.1;have z1:=zz.2.1;have z2:=zz.2.2.1;have z3:=zz.2.2.2.1;have z4:=zz.2.2.2.2.1;have z5:=zz.2.2.2.2.2
                     clear zz)
                  | (have zr:=zie hb1 zr
                     have zz:=zby zr;have z0:=zz.1;have z1:=zz.2.1;have z2:=zz.2.2.1;have z3:=zz.2.2.2.1;have z4:=zz.2.2.2.2.1;have z5:=zz.2.2.2.2.2
                     clear zz)
                  | skip
                  clear hb1)
               | (with_reducible refine(hK2.out _ (by assumption)).mono ?_
                  rintro e w5 ⟨⟨y2,rfl,ho2⟩,hb2⟩;have hS2:Below wr.heap.size wr w5:=Below.trans (by assumption) (hb2.mono (Below.size (by assumption)));obtain⟨a2,c2,rfl,hI2⟩:=za2 ho2 Hl2.out;have HI2:=hid hI2;clear ho2 hI2
                  try (first | have HI1:=hid (HI1.out.below hb2) | have HI1:=hid ((HI1.out.below ((Below.refl _ _).alloc (Nat.le_refl _) _)).below hb2))
                  first
                  | (have zs:wr.heap.size≤_:=Below.size (by assumption)
                     first | have zr:=zic hb2 | have zr:=zid hb2
                     have zz:=zby zr;have z0:=zz.1;have z1:=zz.2.1;have z2:=zz.2.2.1;have z3:=zz.2.2.2.1;have z4:=zz.2.2.2.2.1;have z5:=zz.2.2.2.2.2
                     clear zz)
                  | (have zr:=zie hb2 zr
                     have zz:=zby zr;have z0:=zz.1;have z1:=zz.2.1;have z2:=zz.2.2.1;have z3:=zz.2.2.2.1;have z4:=zz.2.2.2.2.1;have z5:=zz.2.2.2.2.2
                     clear zz)
                  | skip
                  clear hb2))
            | (go_at_call 213
               refine(hDo.out _ _ _ _ _ _ _ (by first | exact HI1.out | exact HI1.out.below ((Below.refl _ _).alloc (Nat.le_refl _) _)) (by first | exact HI2.out | exact HI2.out.below ((Below.refl _ _).alloc (Nat.le_refl _) _))).mono ?_;rintro e w6 ⟨⟨y3,rfl,ho3⟩,hb3⟩;have hS3:Below wr.heap.size wr w6:=Below.trans (by assumption) (hb3.mono (Below.size (by assumption)));obtain⟨a3,c3,rfl,hI3⟩:=za2 ho3 Hl3.out;have HI3:=hid hI3;clear ho3 hI3
               first
               | (have zs:wr.heap.size≤_:=Below.size (by assumption)
                  first | have zr:=zic hb3 | have zr:=zid hb3
                  have zz:=zby zr;have z0:=zz.1;have z1:=zz.2.1;have z2:=zz.2.2.1;have z3:=zz.2.2.2.1;have z4:=zz.2.2.2.2.1;have z5:=zz.2.2.2.2.2
                  clear zz)
               | (have zr:=zie hb3 zr
                  have zz:=zby zr;have z0:=zz.1;have z1:=zz.2.1;have z2:=zz.2.2.1;have z3:=zz.2.2.2.1;have z4:=zz.2.2.2.2.1;have z5:=zz.2.2.2.2.2
                  clear zz)
               | skip
               clear hb3)
            | (go_at_call 261
               refine(hOf.out _ _ _ _ (by first | exact HI3.out | exact HI3.out.below ((Below.refl _ _).alloc (Nat.le_refl _) _))).mono ?_;rintro e w7 ⟨hz,hb4⟩
               try (have zl:=(Array.getElem?_eq_some_iff.1 zr).1)
               have hS4:Below wr.heap.size wr w7:=Below.trans (by assumption) (hb4.mono (Below.size (by assumption)));obtain⟨sa,sc,rfl,hs⟩:=yjg hz Hel.out;have Hs:=hid hs;have hb4s:=hid (Below.size hb4);clear hs hz
               first
               | (have zs:wr.heap.size≤_:=Below.size (by assumption)
                  first | have zr:=zic hb4 | have zr:=zid hb4
                  have zz:=zby zr;have z0:=zz.1;have z1:=zz.2.1;have z2:=zz.2.2.1;have z3:=zz.2.2.2.1;have z4:=zz.2.2.2.2.1;have z5:=zz.2.2.2.2.2
                  clear zz)
               | (have zr:=zie hb4 zr
                  have zz:=zby zr;have z0:=zz.1;have z1:=zz.2.1;have z2:=zz.2.2.1;have z3:=zz.2.2.2.1;have z4:=zz.2.2.2.2.1;have z5:=zz.2.2.2.2.2
                  clear zz)
               | skip
               clear hb4))
            all_goals go_wp2
            all_goals go_meet
            all_goals refine⟨rfl,_,rfl,by assumption,?_,?_,sa,sc,?_,Hs.out _ fun g hg1 hg2=>?_⟩
            all_goals first
             | (simp[go_sem,z0,z1,z2];done)
             | (simp[go_sem];done)
             | exact Below.heap_alloc _ _ _ hg2
             | (rw[Below.heap_setCell _ _ _ _ (by simp at hg1 ⊢ <;> omega),Below.heap_setCell _ _ _ _ (by simp at hg1 ⊢ <;> omega),Below.heap_setCell _ _ _ _ (by simp at hg1 ⊢ <;> omega)];done)
             | (have:=(Array.getElem?_eq_some_iff.1 zr).1
                rw[Below.heap_setCell _ _ _ _ (by simp at hg1 ⊢ <;> omega),Below.heap_setCell _ _ _ _ (by simp at hg1 ⊢ <;> omega),Below.heap_setCell _ _ _ _ (by simp at hg1 ⊢ <;> omega)];done)
             | (trace_state;fail)
           case rest=>
            obtain⟨rfl,s,rfl,hcut⟩:=hcut;obtain⟨hb2,p1,p2,sa,sc,p3,hs⟩:=hcut.out;have Hb5:=hid (Hb.out.trans (hb2.mono Hb.out.size));have Ho5:=hid (ho.out.below hb2);have Hs:=hid hs;have hal:Below wc.heap.size wc (wc.alloc (.cells #[.int .u64 er,.int .u64 em,.slice sa eh.length sc] 137)):=(Below.refl _ _).alloc (Nat.le_refl _) _;have Hal:=hid hal;clear hb2 hs hcut hal;go_wp2_with (at_builtin;refine zuq rfl (.tmp 69) (.tmp 71) rfl rfl w3.heap.size _ T rfl (Ho5.out.below Hal.out) _ 1 (er,em,eh) sa eh.length sc (Hs.out.steady (P:=fun _=>True) (.of_below Hal.out) trivial) rfl (yq (zh _ _ _ (by simp)) rfl rfl) (by have:=HoL.out;omega) (by have:=Hb5.out.size;simp;omega) ?_;intro v' w8 ho8 hg8 _);have Hb8:=hid (Below.grown (Hb5.out.trans (Hal.out.mono Hb5.out.size)) hg8 (by have:=Hb5.out.size;have:=Hal.out.size;omega) (fun k hk=>(Ho5.out.lt k hk).1));go_roundw
            case rel=>exact⟨k'+1,by omega,by go_num,Hb8.out,by rw[Hst.out];exact ho8⟩
            case measure=>simp[intOf];omega
        · obtain rfl:k'=N:=by omega
          have Ho:=hid ho.out;rw[show S.take k'=S from List.take_of_length_le (by rw[←HN.out];exact Nat.le_refl _)] at Ho;go_wp2;go_ret;exact⟨⟨_,rfl,by rw[Hdo.out];exact Ho.out.lower Hbj.out.size⟩,Hb3.out⟩
set_option maxRecDepth 20000 in
theorem yji (e:Ent) (a:Option Addr) (n c:Nat) (w:World) (hI:Ivs w a n c e.2.2) (hm:e.2.1<18446744073709551616) (hn:2*e.2.2.length+5≤100000):
 Calls Tryz.prog 212 #[zbm e (.slice a n c)] w fun x w'=>zfg w.heap.size (zdo e) x w'∧Below w.heap.size w w':=by
 obtain⟨r,m,hs⟩:=e;simp only at hI hm hn;have HI:=hid hI;have hKl:=hid (yiy (e:=(r,m,hs)) hI.lt hm);have hKn:=hid (show 2*(vw (r,m,hs)).length+3≤100000 from by have:=zuc (e:=(r,m,hs)) hI.lt hm;simp only at this;omega);have hal:Below w.heap.size w ((w.alloc (.cells #[.int .u64 r,.int .u64 m,.slice a n c] 137)).alloc (.cells #[.int .u64 0,.int .u64 0,.slice none 0 0] 137)):=((Below.refl _ _).alloc (Nat.le_refl _) _).alloc (by simp) _;have hq:=zd7 w (.int .u64 r) (.int .u64 m) (.slice a n c) 137 ((w.alloc (.cells #[.int .u64 r,.int .u64 m,.slice a n c] 137)).alloc (.cells #[.int .u64 0,.int .u64 0,.slice none 0 0] 137)) ((Below.refl _ _).alloc (Nat.le_refl _) _);have hrow:((w.alloc (.cells #[.int .u64 r,.int .u64 m,.slice a n c] 137)).alloc (.cells #[.int .u64 0,.int .u64 0,.slice none 0 0] 137)).heap[w.heap.size+1]?=some (.cells #[.int .u64 0,.int .u64 0,.slice none 0 0] 137):=qa (by simp);have hsz:((w.alloc (.cells #[.int .u64 r,.int .u64 m,.slice a n c] 137)).alloc (.cells #[.int .u64 0,.int .u64 0,.slice none 0 0] 137)).heap.size=w.heap.size+2:=by simp
 have Hcan:=hid (show zdo (r,m,hs)=ofE r (vw (r,m,hs)) from rfl);go_enter Tryz.func212,Tryz.ntmps212;go_wp2_with fail;generalize (w.alloc (.cells #[.int .u64 r,.int .u64 m,.slice a n c] 137)).alloc (.cells #[.int .u64 0,.int .u64 0,.slice none 0 0] 137)=W at*;obtain⟨q0,q1,q2⟩:=hq;have HA:=hid hal;have Hrow:=hid hrow;have Hsz:=hid hsz;have Hm:=hid hm;have Hn:=hid (show 2*hs.length+3≤100000 from by omega);have hK:=hid (fun w' (h:Below W.heap.size W w')=>z4w (r,m,hs) a n c w' (HI.out.below (HA.out.trans (h.mono HA.out.size))) Hm.out Hn.out);have hO:=hid (fun a n c w' (h:Ivs w' a n c (vw (r,m,hs)))=>z4x r a n c (vw (r,m,hs)) w' h hKn.out)
 have Hres:∀w',Below W.heap.size W w'→w'.cell? ⟨w.heap.size+1,0,none⟩=some (.int .u64 0)∧w'.cell? ⟨w.heap.size+1,1,none⟩=some (.int .u64 0)∧w'.cell? ⟨w.heap.size+1,2,none⟩=some (.slice none 0 0)∧
  w'.frozen? ⟨w.heap.size+1,0,none⟩=false∧w'.frozen? ⟨w.heap.size+1,1,none⟩=false∧w'.frozen? ⟨w.heap.size+1,2,none⟩=false:=fun w' h=>by
  have hr:w'.heap[w.heap.size+1]?=some (.cells #[.int .u64 0,.int .u64 0,.slice none 0 0] 137):=(h.block _ (by rw[Hsz.out];omega)).trans Hrow.out;exact⟨ym (i:=0) hr rfl,ym (i:=1) hr rfl,ym (i:=2) hr rfl,by simp[World.frozen?,hr],by simp[World.frozen?,hr],by simp[World.frozen?,hr]⟩
 have HR:=hid Hres;have Hq:=hid (fun w' (h:Below W.heap.size W w')=>And.intro ((h.cell (p:=⟨w.heap.size,0,none⟩) (zf q0)).trans q0) (And.intro ((h.cell (p:=⟨w.heap.size,1,none⟩) (zf q1)).trans q1) ((h.cell (p:=⟨w.heap.size,2,none⟩) (zf q2)).trans q2)));clear hal hrow hsz hI hm hn Hres;generalize hg:vw (r,m,hs)=L at*
 cases hc:ofE r L with
 | none=>
  have Hnone:=hid (Hcan.out.trans hc);rw[hc] at hO;clear hc
  go_region_with (first
   | (go_at_call 262;refine(hK.out _ (by first | exact Below.refl _ _ | exact(Below.refl _ _).drew)).mono ?_
      rintro e w1 ⟨⟨v,rfl,ho⟩,hb1⟩;have Hb1:=hid (show Below W.heap.size W w1 from⟨hb1.os,hb1.tape,hb1.output,hb1.size,hb1.block⟩);obtain⟨av,cv,rfl,hIv⟩:=za2 ho hKl.out;have HIv:=hid hIv;clear hb1 ho hIv;have qq:=Hq.out _ Hb1.out;have q3:=qq.1;have q4:=qq.2.1;have q5:=qq.2.2
      clear qq)
   | (go_at_call 261;refine(hO.out _ _ _ _ (by first | exact HIv.out | exact HIv.out.below (Below.refl _ _).drew)).mono ?_
      rintro e w2 ⟨hof,hb2⟩;simp only[zfg] at hof;subst hof;have Hb2:=hid (show Below w1.heap.size w1 w2 from⟨hb2.os,hb2.tape,hb2.output,hb2.size,hb2.block⟩);have Hb3:=hid (Hb1.out.trans (Hb2.out.mono Hb1.out.size));clear hb2;have qq:=HR.out _ Hb3.out;have z0:=qq.1;have z1:=qq.2.1;have z2:=qq.2.2.1;have z3:=qq.2.2.2.1;have z4:=qq.2.2.2.2.1;have z5:=qq.2.2.2.2.2;clear qq))
  all_goals go_wp2
  all_goals refine bodyPost_ret (v:=.tuple #[zbm (0,0,[]) (.slice none 0 0),.bool false]) (by simp[results,Tryz.results212,go_sem,z0,z1,z2]) rfl ?_
  all_goals
   rw[Hnone.out];refine⟨rfl,?_⟩;have hz:=HA.out.trans (Hb3.out.mono HA.out.size)
   first
    | exact((hz.setCell (by simp) _).setCell (by simp) _).setCell (by simp) _
    | exact(((hz.setCell (by simp) _).setCell (by simp) _).setCell (by simp) _).drew
    | (refine Below.setCell (Below.setCell (Below.setCell ?_ (by simp) _) (by simp) _) (by simp) _;exact hz.drew)
    | (trace_state;fail)
 | some f=>
  have Hsome:=hid (Hcan.out.trans hc);rw[hc] at hO;clear hc;obtain⟨fr,fm,fh⟩:=f
  go_region_with (first
   | (go_at_call 262;refine(hK.out _ (by first | exact Below.refl _ _ | exact(Below.refl _ _).drew)).mono ?_
      rintro e w1 ⟨⟨v,rfl,ho⟩,hb1⟩;have Hb1:=hid (show Below W.heap.size W w1 from⟨hb1.os,hb1.tape,hb1.output,hb1.size,hb1.block⟩);obtain⟨av,cv,rfl,hIv⟩:=za2 ho hKl.out;have HIv:=hid hIv;clear hb1 ho hIv;have qq:=Hq.out _ Hb1.out;have q3:=qq.1;have q4:=qq.2.1;have q5:=qq.2.2
      clear qq)
   | (go_at_call 261;refine(hO.out _ _ _ _ (by first | exact HIv.out | exact HIv.out.below (Below.refl _ _).drew)).mono ?_
      rintro e w2 ⟨hof,hb2⟩;simp only[zfg] at hof;obtain⟨s,rfl,ho2⟩:=hof;obtain⟨sa,sc,rfl⟩:=jh ho2;have Ho2:=hid ho2;have Hb2:=hid (show Below w1.heap.size w1 w2 from⟨hb2.os,hb2.tape,hb2.output,hb2.size,hb2.block⟩);have Hb3:=hid (Hb1.out.trans (Hb2.out.mono Hb1.out.size));clear hb2 ho2;have qq:=HR.out _ Hb3.out;have z0:=qq.1;have z1:=qq.2.1;have z2:=qq.2.2.1;have z3:=qq.2.2.2.1;have z4:=qq.2.2.2.2.1;have z5:=qq.2.2.2.2.2;clear qq))
  all_goals go_wp2
  all_goals refine bodyPost_ret (v:=.tuple #[.agg #[.int .u64 fr,.int .u64 fm,.slice sa fh.length sc],.bool true]) (by simp[results,Tryz.results212,go_sem,z0,z1,z2]) rfl ?_
  all_goals
   rw[Hsome.out];have hz:=HA.out.trans (Hb3.out.mono HA.out.size);have Hh:∀(a:Addr) (u:Value) (V:World),a.block=w.heap.size+1→∀k,W.heap.size≤k→(V.setCell a u).heap[k]?=V.heap[k]?:=fun a u V ha k hk=>Below.heap_setCell _ _ _ _ (by have:=Hsz.out;omega)
   have hw1:=Hb1.out.size;refine⟨⟨_,rfl,qt (base:=W.heap.size) (j8 (qt Ho2.out (by first | exact Hb1.out.size | (simp;exact Hb1.out.size))) (fun k hk1 _=>?_)) (by have:=Hsz.out;omega)⟩,?_⟩
   · first
      | rw[Hh _ _ _ rfl k hk1,Hh _ _ _ rfl k hk1,Hh _ _ _ rfl k hk1]
      | (show (World.setCell _ _ _).heap[k]?=_;rw[Hh _ _ _ rfl k hk1,Hh _ _ _ rfl k hk1,Hh _ _ _ rfl k hk1])
      | (trace_state;fail)
   · first
      | exact((hz.setCell (by simp) _).setCell (by simp) _).setCell (by simp) _
      | exact(((hz.setCell (by simp) _).setCell (by simp) _).setCell (by simp) _).drew
      | (refine Below.setCell (Below.setCell (Below.setCell ?_ (by simp) _) (by simp) _) (by simp) _;exact hz.drew)
      | (trace_state;fail)
theorem zvd {c:Kno} (hK:EncK c):(zn c).length≤900000000:=by
 have h1:=zm1 hK c.length (Nat.le_refl _);have h2:=zfv c c.length (Nat.le_refl _);rw[List.take_length] at h2;have:=hK.sum;have:=hK.len;unfold zn;rw[List.length_append,zgq];unfold zk;omega
set_option maxRecDepth 20000 in
theorem yjj (a:Option Addr) (n cap t:Nat) (k:Kno) (w:World) (hE:Frags w a n cap k) (hL:LtK k) (hF:KnoFits k):
 Calls Tryz.prog 155 #[.slice a n cap,.int .u64 t] w fun x w'=>(∃y,x=.returned y∧OwnV w' w.heap.size y (atK k t))∧Below w.heap.size w w':=by
 have HE:=hid hE;have HL:=hid hL;have HF:=hid hF;have Hl:=hid hE.len;have hm:n≤9223372036854775807:=Nat.le_trans hE.room hE.most;clear hE hL hF;go_enter Tryz.func155,Tryz.ntmps155;go_wp2;go_loopw [5,6] (fun y i wr=>∃d:Nat,d≤n∧i=.int .i64 d∧Below w.heap.size w wr∧Hid (OwnV wr w.heap.size y (zbj k t d))) (fun _ i _=>n - (intOf i).toNat)
 case atStart=>exact⟨0,by omega,rfl,Below.refl _ _,zjz _ _⟩
 case round=>
  obtain⟨d,hd,rfl,hb,ho⟩:=hrel;have Hb:=hid hb;clear hb;by_cases hdn:d<n
  · have hdk:d<k.length:=by rw[Hl.out];exact hdn
    have HEr:=hid (HE.out.below Hb.out);obtain⟨bb,oo,rfl⟩:=HEr.out.some (by omega);obtain⟨x,m,c,y,m',c',hq⟩:=HEr.out.fix hdn;have Hq:=hid hq;have Hst:=hid (zp8 (x:=t) hdk);have Hvf:=hid (HF.out.vec _ (yh hdk));have Haf:=hid (HF.out.at_ t d);obtain⟨av,cv,rfl,hV⟩:=ho.out.ents (zp9 HL.out t d);have HV:=hid hV;have hC:=hid (fun w' h=>zjj x m c t (za k d).1 w' (hq w' h).2.1);have hD:=hid (fun w' (h:Below wr.heap.size wr w')=>yjh av y _ cv m' c' 0 (zbj k t d) (za k d).2 w' (hV.below h) (hq w' h).2.2.2 (by omega) Haf.out Hvf.out);have h0:(0:Int)≤d:=by omega
    have h04:(d:Int)<(n:Int):=by omega
    obtain⟨q1,-,q2,-⟩:=hq _ (Below.refl _ _);clear hq hV;generalize zbj k t d=V0 at*;generalize za k d=f at*;generalize mem f.1 t=b1 at*
    cases b1 with
    | false=>
     rw[if_neg (by simp)] at Hst;clear hD;go_wp2_with fail;refine(hC.out _ (Below.refl _ _)).mono ?_;rintro e w1 ⟨rfl,hb1⟩;have Hb1:=hid hb1;clear hb1;go_wp2;go_roundw
     case rel=>exact⟨d+1,by omega,by go_num,Hb.out.trans (Hb1.out.mono Hb.out.size),by rw[Hst.out];exact ho.out.below Hb1.out⟩
     case measure=>simp[intOf];omega
    | true=>
     rw[if_pos rfl] at Hst;go_wp2_with fail;refine(hC.out _ (Below.refl _ _)).mono ?_;rintro e w1 ⟨rfl,hb1⟩;have Hb1:=hid hb1;clear hb1 q1 q2;obtain⟨q1,-,q2,-⟩:=Hq.out _ Hb1.out;have Hw1:=hid (Hb.out.trans (Hb1.out.mono Hb.out.size));have hD1:=hid (hD.out _ Hb1.out);rw[show ((0:Nat):Int)=0 from rfl] at hD1;go_wp2_with fail;refine hD1.out.mono ?_;rintro e w2 ⟨⟨y2,rfl,ho2⟩,hb2⟩;have Hw2:=hid (Hw1.out.trans (hb2.mono Hw1.out.size));have Ho2:=hid ho2;clear hb2 ho2;go_wp2;go_roundw
     case rel=>exact⟨d+1,by omega,by go_num,Hw2.out,by rw[Hst.out];exact Ho2.out.lower Hw1.out.size⟩
     case measure=>simp[intOf];omega
  · obtain rfl:d=n:=by omega
    have Ho:=hid ho.out;rw[←Hl.out,zkr] at Ho;go_wp2;go_ret;exact⟨⟨_,rfl,Ho.out⟩,Hb.out⟩
set_option maxRecDepth 20000 in
theorem yjk (a:Option Addr) (n cap t:Nat) (k:Kno) (w:World) (hE:Frags w a n cap k) (hn:n≤500):
 Calls Tryz.prog 215 #[.slice a n cap,.int .u64 t] w fun x w'=>(∃y,x=.returned y∧w'.ownsRow w.heap.size 3 1 y (zx k t).length (qi (zx k t)))∧Below w.heap.size w w':=by
 have HE:=hid hE;have Hl:=hid hE.len;have Hmk:=hid (show zx k t=zbl k t k.length from rfl);clear hE;go_enter Tryz.func215,Tryz.ntmps215;go_wp2;go_loopw [5,6] (fun y i wr=>∃d:Nat,d≤n∧i=.int .i64 d∧Below w.heap.size w wr∧Hid (wr.ownsRow w.heap.size 3 1 y (zbl k t d).length (qi (zbl k t d)))) (fun _ i _=>n - (intOf i).toNat)
 case atStart=>exact⟨0,by omega,rfl,Below.refl _ _,World.ownsRow_nil _ _ _ _⟩
 case round=>
  obtain⟨d,hd,rfl,hb,ho⟩:=hrel;have Hb:=hid hb;clear hb;by_cases hdn:d<n
  · have hdk:d<k.length:=by rw[Hl.out];exact hdn
    have HEr:=hid (HE.out.below Hb.out);obtain⟨bb,oo,rfl⟩:=HEr.out.some (by omega);obtain⟨x,m,c,y,m',c',hq⟩:=HEr.out.fix hdn;have Hst:=hid (zk7 k t d);have Hlen:=hid (znq k t d);have hC:=hid (zjj x m c t (za k d).1 wr (hq wr (Below.refl _ _)).2.1);have h0:(0:Int)≤d:=by omega
    have h04:(d:Int)<(n:Int):=by omega
    obtain⟨q1,-,q2,-⟩:=hq _ (Below.refl _ _);clear hq;generalize zbl k t d=M0 at*;generalize za k d=f at*;generalize mem f.1 t=b1 at*
    cases b1 with
    | false=>
     rw[if_neg (by simp),List.append_nil] at Hst;go_wp2_with fail;refine hC.out.mono ?_;rintro e w1 ⟨rfl,hb1⟩;have Hb1:=hid hb1;clear hb1;go_wp2;go_roundw
     case rel=>exact⟨d+1,by omega,by go_num,Hb.out.trans (Hb1.out.mono Hb.out.size),by rw[Hst.out];exact zm ho.out Hb1.out⟩
     case measure=>simp[intOf];omega
    | true=>
     rw[if_pos rfl] at Hst;go_wp2_with fail;refine hC.out.mono ?_;rintro e w1 ⟨rfl,hb1⟩;have Hb1:=hid hb1;have Hw1:=hid (Hb.out.trans (hb1.mono Hb.out.size));have Ho1:=hid (zm ho.out hb1);clear hb1;go_wp2_with (at_builtin;refine zwv rfl (.tmp 20) (.tmp 22) rfl rfl w.heap.size _ _ M0 rfl (Ho1.out.alloc _) _ 1 _ [d] rfl (yq (zh _ _ _ (by simp)) rfl rfl) (by have:=Hlen.out;omega) (by have:=Hw1.out.size;simp;omega) ?_;intro v' w8 ho8 hg8);have Hb8:=hid (Below.grown (B:=w.heap.size) (Hw1.out.alloc Hw1.out.size _) hg8 (by have:=Hw1.out.size;simp;omega) (fun k hk=>(Ho1.out.lt k hk).1));go_roundw
     case rel=>exact⟨d+1,by omega,by go_num,Hb8.out,by rw[Hst.out,List.length_append];exact ho8⟩
     case measure=>simp[intOf];omega
  · obtain rfl:d=n:=by omega
    have Ho:=hid ho.out;rw[←Hl.out,←Hmk.out] at Ho;go_wp2;go_ret;exact⟨⟨_,rfl,Ho.out⟩,Hb.out⟩
