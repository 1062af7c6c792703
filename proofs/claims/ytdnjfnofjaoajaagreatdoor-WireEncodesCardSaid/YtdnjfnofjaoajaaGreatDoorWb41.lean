/- Walks and laws, joined: Wb41. -/
import Derived.Test.YtdnjfnofjaoajaaGreatDoorWb40
set_option linter.unusedVariables false
set_option maxHeartbeats 16000000
namespace Go.Proofs.YtdnjfnofjaoajaaGreatDoor
open Lib (hid)
section
open Go.RowKit
theorem z9j {v:Vec} {k:Nat} (h:k<v.length):jm (v.take (k+1))=jm (v.take k)++(zbo (zc v k)).toList:=by
 unfold jm;rw[List.take_succ_eq_append_getElem h,List.filterMap_append,qn h];simp only[List.filterMap_cons,List.filterMap_nil];cases zbo v[k] <;> rfl
theorem z9k (v:Vec):(jm v).length≤v.length:=List.length_filterMap_le _ _
set_option maxRecDepth 20000 in
theorem z9l (a:Option Addr) (n cap:Nat) (v:Vec) (w:World) (hE:Ents w a n cap v) (hF:VecFits v):
 Calls Tryz.prog 126 #[.slice a n cap] w fun x w'=>(∃y,x=.returned y∧OwnV w' w.heap.size y (jm v))∧Below w.heap.size w w':=by
 have HE:=hid hE;have HF:=hid hF;have Hl:=hid hE.len;have hm:n≤9223372036854775807:=Nat.le_trans hE.room hE.most;have hn3:n≤300:=by rw[←hE.len];exact hF.len
 clear hE hF;go_enter Tryz.func126,Tryz.ntmps126;go_wp2;go_loopw [3,4,5,6] (fun y i _ _ wr=>∃k:Nat,k≤n∧i=.int .i64 k∧Below w.heap.size w wr∧Hid (OwnV wr w.heap.size y (jm (v.take k)))) (fun _ i _ _ _=>n - (intOf i).toNat)
 case atStart=>exact⟨0,by omega,rfl,Below.refl _ _,by rw[List.take_zero];exact zhy _ _⟩
 case round=>
  obtain⟨k,hk,rfl,hb,ho⟩:=hrel;have Hb:=hid hb;clear hb;by_cases hkn:k<n
  · have hkv:k<v.length:=by rw[Hl.out];exact hkn
    have HEr:=hid (HE.out.below Hb.out);obtain⟨bb,oo,rfl⟩:=HEr.out.some (by omega);have Hlt:=hid (HE.out.lt (zc v k) (jb hkv));have Hho:=hid (HF.out.holes (zc v k) (jb hkv));have Hst:=hid (z9j hkv)
    have HoL:=hid (show (jm (v.take k)).length≤300 from by
     have:=z9k (v.take k);rw[List.length_take] at this;omega)
    obtain⟨x,m,c,hq⟩:=HEr.out.fix hkn;obtain⟨q1,q2,q3,q4⟩:=hq _ (Below.refl _ _);have hC:=hid (z9i (zc v k) x m c wr q4 Hlt.out.max (by have:=Hho.out;omega));have Hfl:=hid (fun f (hf:zbo (zc v k)=some f)=>(zew Hlt.out hf).2.2.1);generalize zc v k=e at*;have h0:(0:Int)≤k:=by omega
    have h04:(k:Int)<(n:Int):=by omega
    obtain⟨er,em,eh⟩:=e;simp only at q1 q2 q3;clear q4 hq;generalize jm (v.take k)=T at*
    cases h:zbo (er,em,eh) with
    | none=>
     rw[h] at hC Hst;simp only[zc0,Option.toList,List.append_nil] at hC Hst;clear h Hfl;go_wp2_with fail;refine hC.out.mono ?_;rintro z w1 ⟨rfl,hb1⟩;have Hb1:=hid (Hb.out.trans (hb1.mono Hb.out.size));have Ho1:=hid (ho.out.below hb1);clear hb1;go_wp2;go_roundw
     case rel=>
      have hal:Below w1.heap.size w1 (w1.alloc (.cells #[.int .u64 0,.int .u64 0,.slice none 0 0] 101)):=(Below.refl _ _).alloc (Nat.le_refl _) _;exact⟨k+1,by omega,by go_num,Hb1.out.trans (hal.mono Hb1.out.size),by rw[Hst.out];exact Ho1.out.below hal⟩
     case measure=>simp[intOf];omega
    | some f=>
     have Hfl:=hid (Hfl.out f h);rw[h] at hC Hst;simp only[Option.toList] at Hst;clear h;obtain⟨fr,fm,fh⟩:=f;go_wp2_with fail;refine hC.out.mono ?_;rintro z w1 ⟨hz,hb1⟩;obtain⟨sa,sc,rfl,hs⟩:=zsa hz Hfl.out.holes;simp only at hs;have Hs:=hid (hs 0);have Hb1:=hid (Hb.out.trans (hb1.mono Hb.out.size));have Ho1:=hid (ho.out.below hb1);clear hb1 hs hz
     have hal:Below w1.heap.size w1 ((w1.alloc (.cells #[.int .u64 fr,.int .u64 fm,.slice sa fh.length sc] 101)).alloc (.cells #[.int .u64 fr,.int .u64 fm,.slice sa fh.length sc] 101)):=
      ((Below.refl w1.heap.size w1).alloc (Nat.le_refl _) _).alloc (by simp) _
     have Hal:=hid hal;clear hal;go_wp2_with (at_builtin;refine znt rfl (.tmp 22) (.tmp 24) rfl rfl w.heap.size _ T rfl (Ho1.out.below Hal.out) _ 1 (fr,fm,fh) sa fh.length sc (Hs.out.steady (P:=fun _=>True) (.of_below Hal.out) trivial) rfl (yg (zg _ _ _ (by simp)) rfl rfl) (by have:=HoL.out;omega) (by have:=Hb1.out.size;simp;omega) ?_;intro v' w7 ho7 hg7 _);have Hb7:=hid (Below.grown (Hb1.out.trans (Hal.out.mono Hb1.out.size)) hg7 (by have:=Hb1.out.size;have:=Hal.out.size;omega) (fun k hk=>(Ho1.out.lt k hk).1));go_roundw
     case rel=>exact⟨k+1,by omega,by go_num,Hb7.out,by rw[Hst.out];exact ho7⟩
     case measure=>simp[intOf];omega
  · obtain rfl:k=n:=by omega
    have Ho:=hid ho.out;rw[show jm (v.take k)=jm v from by rw[List.take_of_length_le (by rw[Hl.out];exact Nat.le_refl _)]] at Ho;go_wp2;go_ret;exact⟨⟨_,rfl,Ho.out⟩,Hb.out⟩
theorem z9m (g:Bool→Bool→Bool) (a b:List Iv):(opL g a b).length≤1+2*a.length+2*b.length:=by
 unfold opL;have h1:=zjw (yx (fun x=>g (mem a x) (mem b x)) (zcs (qd [a,b]))) [];rw[zav] at h1;have h2:=zcz (zeq (qd [a,b])) (M:=qd [a,b]) (fun y hy=>(zdl _ y).1 hy);have h3:=zfl a;have h4:=zfl b;simp[qd] at h1 h2 ⊢;omega
theorem zxn (a:Option Addr) (n cap r:Nat) (v:Vec) (w:World) (hE:Ents w a n cap v) (hF:VecFits v):
 Calls Tryz.prog 226 #[.slice a n cap,.int .u64 r] w fun x w'=>zcb w.heap.size (yi v r) x w'∧Below w.heap.size w w':=by
 have hC:=hid (z85 a n cap r v w hE);have Hk:=hid (zsx v r);have HE:=hid hE;have Hl:=hid hE.len;have HF:=hid hF;clear hE hF
 cases h:zey v r with
 | none=>
  rw[h] at hC Hk;simp only[zax] at hC Hk;clear h;go_enter Tryz.func226,Tryz.ntmps226;go_wp2_with fail;refine hC.out.mono ?_;rintro e w1 ⟨rfl,hb1⟩;have Hb1:=hid hb1;clear hb1;go_wp2;go_ret
  exact⟨⟨_,rfl,by rw[Hk.out];exact World.ownsRow_nil _ _ _ _⟩,Hb1.out⟩
 | some i=>
  obtain⟨hi,-⟩:=zru h;rw[h] at hC Hk;simp only[zax] at hC Hk;have hin:i<n:=by rw[←Hl.out];exact hi
  have h0:(0:Int)≤i:=by omega
  have h04:(i:Int)<(n:Int):=by omega
  have hd:decide ((i:Int)<0)=false:=by rw[decide_eq_false_iff_not];omega
  obtain⟨bb,oo,rfl⟩:=HE.out.some (by omega);obtain⟨s,m,c,hq⟩:=HE.out.fix hin;have Hq:=hid hq;have hlt:=HE.out.lt _ (jb hi);have hho:=HF.out.holes _ (jb hi);have hk:=hid (fun w' h=>zxj (zc v i) s m c w' ((hq w' h).2.2.2) hlt.max (by omega));clear hlt hho;generalize zc v i=e at*;obtain⟨er,em,eh⟩:=e;simp only at Hq hk;clear h hi hq;go_enter Tryz.func226,Tryz.ntmps226;go_wp2_with fail;refine hC.out.mono ?_;rintro e w1 ⟨rfl,hb1⟩;have Hb1:=hid hb1;clear hb1;obtain⟨q1,q2,q3,-⟩:=Hq.out _ Hb1.out;go_wp2_with fail;refine(hk.out _ Hb1.out).mono ?_;rintro e w2 ⟨⟨y,rfl,ho⟩,hb2⟩;have Hb2:=hid hb2;have Ho:=hid ho;clear hb2 ho;go_wp2;go_ret;exact⟨⟨_,rfl,by rw[Hk.out];exact y9 Ho.out Hb1.out.size⟩,Hb1.out.trans (Hb2.out.mono Hb1.out.size)⟩
def km (a:Vec) (k:Nat) (acc:List Nat):List Nat:=((a.take k).map (·.1)).foldl jo acc
theorem zpe {a:Vec} {k:Nat} {acc:List Nat} (h:k<a.length):km a (k+1) acc=jo (km a k acc) (zc a k).1:=by
 unfold km;rw[List.take_succ_eq_append_getElem h,List.map_append,List.foldl_append,qn h]
 rfl
theorem zpf {a:Vec} {acc:List Nat} (hA:Asc acc):∀k,(km a k acc).length≤acc.length+k∧Asc (km a k acc)
 | 0=>⟨by simp[km],by simpa [km] using hA⟩
 | k+1=>by
   obtain⟨h1,h2⟩:=zpf (a:=a) hA k;by_cases h:k<a.length
   · rw[zpe h];have:=z9h (x:=(zc a k).1) h2;exact⟨by omega,zfs h2⟩
   · have:km a (k+1) acc=km a k acc:=by unfold km;rw[List.take_of_length_le (by omega),List.take_of_length_le (by omega)]
     rw[this];exact⟨by omega,h2⟩
theorem zxo {a:Vec} {acc:List Nat} (k:Nat) (y:Nat) (h:y∈km a k acc):y∈acc∨∃e∈a,e.1=y:=by
 have:∀(l:List Nat) (acc:List Nat),y∈l.foldl jo acc→y∈acc∨y∈l:=by
  intro l
  induction l with
  | nil=>intro acc h;exact .inl h
  | cons x l ih=>
   intro acc h;rcases ih _ h with h | h
   · rcases zep.1 h with h | rfl
     · exact .inl h
     · exact .inr List.mem_cons_self
   · exact .inr (List.mem_cons_of_mem _ h)
 rcases this _ _ h with h | h
 · exact .inl h
 · rw[List.mem_map] at h;obtain⟨e,he,rfl⟩:=h;exact .inr ⟨e,List.mem_of_mem_take he,rfl⟩
theorem z9n (a b:Vec):km b b.length (km a a.length [])=zaw a b:=by
 unfold km zaw zcs;rw[List.take_length,List.take_length,List.foldl_append]
theorem z9o {base:Nat} {f:Ent} {x:Ending} {w':World} (h:zc0 base (some f) x w') (hl:zq f.2.2):∃a c,x=.returned (.tuple #[ky f (.slice a f.2.2.length c),.bool true])∧
 ∀w'',(∀k,base≤k→k<w'.heap.size→w''.heap[k]?=w'.heap[k]?)→IvsT w'' 0 a f.2.2.length c f.2.2:=by
 obtain⟨s,rfl,ho⟩:=h;obtain⟨a,c,rfl,-⟩:=zdn (base':=0) ho hl;refine⟨a,c,rfl,fun w'' hk=>?_⟩;obtain⟨a',c',e,h⟩:=zdn (base':=0) (qr ho hk) hl;cases e;exact h
theorem zfd {X w':World} {x y z:Value} {T:TypeId} (h:Below (X.alloc (.cells #[x,y,z] T)).heap.size (X.alloc (.cells #[x,y,z] T)) w'):w'.heap[X.heap.size]?=some (.cells #[x,y,z] T):=
 (h.block _ (by simp)).trans (z7 rfl)
theorem zfe {X w':World} {x y z:Value} {T:TypeId} (h:Below (X.alloc (.cells #[x,y,z] T)).drew.heap.size (X.alloc (.cells #[x,y,z] T)).drew w'):w'.heap[X.heap.size]?=some (.cells #[x,y,z] T):=
 (h.block _ (by show X.heap.size<(X.alloc _).heap.size;simp)).trans (z7 rfl)
theorem zff {W w':World} {g:Nat} {x y z:Value} {T:TypeId} (h:Below W.heap.size W w') (hr:W.heap[g]?=some (.cells #[x,y,z] T)):w'.heap[g]?=some (.cells #[x,y,z] T):=
 (h.block _ (Array.getElem?_eq_some_iff.1 hr).1).trans hr
set_option maxRecDepth 20000 in
theorem z9p (a d:Option Addr) (n c n' c' op:Nat) (v u:Vec) (w:World) (hE:Ents w a n c v) (hF:Ents w d n' c' u) (hop:op<3) (fv:VecFits v) (fu:VecFits u):
 Calls Tryz.prog 173 #[.slice a n c,.slice d n' c',.int .i64 op] w fun x w'=>(∃y,x=.returned y∧OwnV w' w.heap.size y (doV (gOf op) v u))∧Below w.heap.size w w':=by
 have HE:=hid hE;have HF:=hid hF;have Hfv:=hid fv;have Hfu:=hid fu;have Hop:=hid hop;have Hl:=hid hE.len;have Hl':=hid hF.len;have hn3:n≤300:=by rw[←hE.len];exact fv.len
 have hn3':n'≤300:=by rw[←hF.len];exact fu.len
 clear hE hF fv fu hop;go_enter Tryz.func173,Tryz.ntmps173;go_wp2;go_loopw [7,8] (fun y i wr=>∃k:Nat,k≤n∧i=.int .i64 k∧Below w.heap.size w wr∧Hid (wr.ownsRow w.heap.size 52 1 y (km v k []).length (zi (km v k [])))) (fun _ i _=>n - (intOf i).toNat)
 case atStart=>exact⟨0,by omega,rfl,Below.refl _ _,World.ownsRow_nil _ _ _ _⟩
 case round=>
  obtain⟨k,hk,rfl,hb,ho⟩:=hrel;have Hb:=hid hb;clear hb;obtain⟨hRl,hRa⟩:=zpf (a:=v) (acc:=[]) trivial k;simp only[List.length_nil,Nat.zero_add] at hRl
  have Hlt:=hid (show ∀y∈km v k [],y<18446744073709551616 from fun y hy=>by
   rcases zxo k y hy with h | ⟨e,he,rfl⟩
   · cases h
   · exact(HE.out.lt e he).rep)
  by_cases hkn:k<n
  · have hkv:k<v.length:=by rw[Hl.out];exact hkn
    have HEr:=hid (HE.out.below Hb.out);obtain⟨bb,oo,rfl⟩:=HEr.out.some (by omega);obtain⟨q1,-,-⟩:=HEr.out.at hkn _ (Below.refl _ _);have Hst:=hid (zpe (acc:=[]) hkv);have hC:=hid (zxm w.heap.size _ (zc v k).1 _ _ wr ho.out Hb.out.size hRa Hlt.out (by omega));generalize km v k []=R at*;generalize (zc v k).1=r at*;have h0:(0:Int)≤k:=by omega
    have h04:(k:Int)<(n:Int):=by omega
    go_wp2_with fail;refine hC.out.mono ?_;rintro e w1 ⟨⟨y,rfl,ho1⟩,hb1⟩;have Hb1:=hid (Hb.out.trans (hb1.mono Hb.out.size));have Ho1:=hid ho1;clear hb1 ho1;go_wp2;go_roundw
    case rel=>exact⟨k+1,by omega,by go_num,Hb1.out,by rw[Hst.out];exact Ho1.out⟩
    case measure=>simp[intOf];omega
  · obtain rfl:k=n:=by omega
    have HE2:=hid (HE.out.below Hb.out);have HF2:=hid (HF.out.below Hb.out);generalize hR0:km v k []=R0 at*;have HR0:=hid hR0;clear hR0;obtain⟨w2,hw2⟩:∃w2:World,w2=wr:=⟨_,rfl⟩;rw[←hw2] at ho Hb HE2 HF2 ⊢;clear hw2;go_wp2;go_loopw [7,9] (fun y i wr=>∃j:Nat,j≤n'∧i=.int .i64 j∧Below w.heap.size w wr∧Hid (wr.ownsRow w.heap.size 52 1 y (km u j R0).length (zi (km u j R0)))) (fun _ i _=>n' - (intOf i).toNat)
    case atStart=>exact⟨0,by omega,rfl,Hb.out,by
     have:km u 0 R0=R0:=rfl;rw[this];exact ho.out⟩
    case round=>
     obtain⟨j,hj,rfl,hb,hoj⟩:=hrel;have Hbj:=hid hb;clear hb;obtain⟨hRl',hRa'⟩:=zpf (a:=u) (acc:=R0) hRa j
     have Hlt':=hid (show ∀y∈km u j R0,y<18446744073709551616 from fun y hy=>by
      rcases zxo j y hy with h | ⟨e,he,rfl⟩
      · exact Hlt.out y h
      · exact(HF.out.lt e he).rep)
     by_cases hjn:j<n'
     · have hjv:j<u.length:=by rw[Hl'.out];exact hjn
       have HFr:=hid (HF.out.below Hbj.out);obtain⟨bb,oo,rfl⟩:=HFr.out.some (by omega);obtain⟨q1,-,-⟩:=HFr.out.at hjn _ (Below.refl _ _);have Hst:=hid (zpe (acc:=R0) hjv);have hC:=hid (zxm w.heap.size _ (zc u j).1 _ _ wr hoj.out Hbj.out.size hRa' Hlt'.out (by omega));generalize km u j R0=R at*;generalize (zc u j).1=r at*;have h0:(0:Int)≤j:=by omega
       have h04:(j:Int)<(n':Int):=by omega
       go_wp2_with fail;refine hC.out.mono ?_;rintro e w1 ⟨⟨y,rfl,ho1⟩,hb1⟩;have Hb1:=hid (Hbj.out.trans (hb1.mono Hbj.out.size));have Ho1:=hid ho1;clear hb1 ho1;go_wp2;go_roundw
       case rel=>exact⟨j+1,by omega,by go_num,Hb1.out,by rw[Hst.out];exact Ho1.out⟩
       case measure=>simp[intOf];omega
     · obtain rfl:j=n':=by omega
       have hall:km u j R0=zaw v u:=by rw[←HR0.out,←Hl.out,←Hl'.out];exact z9n v u
       rw[hall] at hoj hRl' hRa' Hlt';generalize hS:zaw v u=S at*;have HS:=hid hS;obtain⟨aS,cS,rfl,hU⟩:=zbf hoj.out Hlt'.out;have HU:=hid hU;obtain⟨N,hN⟩:∃N,N=S.length:=⟨_,rfl⟩;rw[←hN] at HU hRl' ⊢;have HN:=hid hN;have Hsl:=hid Hlt'.out;clear hoj hU hall hS hN Hlt' Hlt;obtain⟨w3,hw3⟩:∃w3:World,w3=wr:=⟨_,rfl⟩;rw[←hw3] at Hbj HU ⊢;clear hw3;have hN6:N≤600:=by omega
       obtain⟨f,hf⟩:∃f:Nat→Option Ent,f=fun r=>ofE r (opL (gOf op) (yi v r) (yi u r)):=⟨_,rfl⟩
       have hdo:doV (gOf op) v u=S.filterMap f:=by rw[hf,←HS.out];rfl
       have Hdo:=hid hdo;have Hfr:=hid (show ∀r,f r=ofE r (opL (gOf op) (yi v r) (yi u r)) from fun r=>by rw[hf]);clear hdo hf HS HR0 HE2 HF2;go_wp2;go_loopw [10,11,12,13] (fun y i _ _ wr=>∃k:Nat,k≤N∧i=.int .i64 k∧Below w3.heap.size w3 wr∧Hid (OwnV wr w3.heap.size y ((S.take k).filterMap f))) (fun _ i _ _ _=>N - (intOf i).toNat)
       case atStart=>exact⟨0,by omega,rfl,Below.refl _ _,zhy _ _⟩
       case round=>
        obtain⟨k',hk',rfl,hb,ho⟩:=hrel;have Hb:=hid hb;clear hb;have Hb3:=hid (Hbj.out.trans (Hb.out.mono Hbj.out.size));by_cases hkN:k'<N
        · have HUr:=hid (HU.out.below Hb.out);obtain⟨bS,oS,rfl,hcS⟩:=HUr.out.cells (by omega);have q1:=hcS k' hkN;have r1:∀w',Below wr.heap.size wr w'→w'.cell? ⟨bS,oS+k',none⟩=some (.int .u64 ((nth S k':Nat):Int)):=fun w' h=>(h.cell (p:=⟨bS,oS+k',none⟩) (ze q1)).trans q1
          clear hcS
          have Hst:=hid (show (S.take (k'+1)).filterMap f=(S.take k').filterMap f++(f (nth S k')).toList from by
           rw[List.take_succ_eq_append_getElem (by rw[←HN.out];exact hkN),List.filterMap_append];have e:S[k']'(by rw[←HN.out];exact hkN)=nth S k':=by simp[nth,show k'<S.length by rw[←HN.out];exact hkN]
           rw[e];simp only[List.filterMap_cons,List.filterMap_nil];cases f (nth S k') <;> rfl)
          have HoL:=hid (show ((S.take k').filterMap f).length≤600 from by
           have:=List.length_filterMap_le f (S.take k');rw[List.length_take] at this;omega)
          have hcS2:=HUr.out.room;have Hfr2:=hid (Hfr.out (nth S k'));generalize (S.take k').filterMap f=T at*;generalize nth S k'=r at*;have hK1:=hid (fun w' (h:Below wr.heap.size wr w')=>zxn a _ c r v w' (HE.out.below (Hb3.out.trans (h.mono Hb3.out.size))) Hfv.out);have hK2:=hid (fun w' (h:Below wr.heap.size wr w')=>zxn d _ c' r u w' (HF.out.below (Hb3.out.trans (h.mono Hb3.out.size))) Hfu.out);have hk1:=zky HE.out.lt Hfv.out r;have hk2:=zky HF.out.lt Hfu.out r;have Hl1:=hid (zct HE.out.lt r);have Hl2:=hid (zct HF.out.lt r);have hk3:=z9m (gOf op) (yi v r) (yi u r);have Hl3:=hid (zai (g:=gOf op) Hl1.out Hl2.out (z87 op)).2.2;have Hll:=hid (show 2*(opL (gOf op) (yi v r) (yi u r)).length+3≤100000 from by omega);have hDo:=hid (fun a1 n1 c1 a2 n2 c2 w' (h1:Ivs w' a1 n1 c1 (yi v r)) (h2:Ivs w' a2 n2 c2 (yi u r))=>zl5 a1 a2 n1 c1 n2 c2 op _ _ w' h1 h2 Hop.out (by omega));generalize opL (gOf op) (yi v r) (yi u r)=L at*;generalize yi v r=L1 at*;generalize yi u r=L2 at*;have hOf:=hid (fun a1 n1 c1 w' (h1:Ivs w' a1 n1 c1 L)=>zxk r a1 n1 c1 L w' h1 Hll.out)
          have hfl:=hid (fun e (h:ofE r L=some e)=>show zq e.2.2 from by
           unfold ofE at h;split at h
           · cases h
           · cases h;exact(zai (g:=jl) (zer (by omega) (zmx Hl3.out)) Hl3.out rfl).2.2)
          have h0:(0:Int)≤k':=by omega
          have h04:(k':Int)<(N:Int):=by omega
          cases hfr:ofE r L with
          | none=>
           rw[Hfr2.out,hfr] at Hst;rw[hfr] at hOf;simp only[zc0,Option.toList,List.append_nil] at hOf Hst;clear hfr hfl hk1 hk2 hk3 q1;go_wp2_with fail;go_cut [12,13] (fun p ok wc=>ok=.bool false∧Hid (Below wr.heap.size wr wc))
           case first=>
            go_region_held3 (fun w'=>Below wr.heap.size wr w') (first | assumption | exact(Below.refl _ _).drew | exact Below.alloc (by assumption) (Below.size (by assumption)) _ | exact zkz (by assumption) (by first | exact Nat.le_refl _ | exact Below.size (by assumption))) (first
            | (go_at_call 226
               first
               | (with_reducible refine(hK1.out _ (by assumption)).mono ?_
                  rintro e w4 ⟨⟨y1,rfl,ho1⟩,hb1⟩;have hS1:Below wr.heap.size wr w4:=Below.trans (by assumption) (hb1.mono (Below.size (by assumption)));obtain⟨a1,c1,rfl,hI1⟩:=zah ho1 Hl1.out;have HI1:=hid hI1;clear ho1 hI1
                  try (first | have HI2:=hid (HI2.out.below hb1) | have HI2:=hid ((HI2.out.below ((Below.refl _ _).alloc (Nat.le_refl _) _)).below hb1))
                  first
                  | (have zs:wr.heap.size≤_:=Below.size (by assumption)
                     first | have zr:=zfd hb1 | have zr:=zfe hb1
                     have zz:=zaj zr;have z0:=zz.1;have z1:=zz.2.1;have z2:=zz.2.2.1;have z3:=zz.2.2.2.1;have z4:=zz.2.2.2.2.1;have z5:=zz.2.2.2.2.2
                     clear zz)
                  | (have zr:=zff hb1 zr
                     have zz:=zaj zr;have z0:=zz.1;have z1:=zz.2.1;have z2:=zz.2.2.1;have z3:=zz.2.2.2.1;have z4:=zz.2.2.2.2.1;have z5:=zz.2.2.2.2.2
                     clear zz)
                  | skip
                  clear hb1)
               | (with_reducible refine(hK2.out _ (by assumption)).mono ?_
                  rintro e w5 ⟨⟨y2,rfl,ho2⟩,hb2⟩;have hS2:Below wr.heap.size wr w5:=Below.trans (by assumption) (hb2.mono (Below.size (by assumption)));obtain⟨a2,c2,rfl,hI2⟩:=zah ho2 Hl2.out;have HI2:=hid hI2;clear ho2 hI2
                  try (first | have HI1:=hid (HI1.out.below hb2) | have HI1:=hid ((HI1.out.below ((Below.refl _ _).alloc (Nat.le_refl _) _)).below hb2))
                  first
                  | (have zs:wr.heap.size≤_:=Below.size (by assumption)
                     first | have zr:=zfd hb2 | have zr:=zfe hb2
                     have zz:=zaj zr;have z0:=zz.1;have z1:=zz.2.1;have z2:=zz.2.2.1;have z3:=zz.2.2.2.1;have z4:=zz.2.2.2.2.1;have z5:=zz.2.2.2.2.2
                     clear zz)
                  | (have zr:=zff hb2 zr
                     have zz:=zaj zr;have z0:=zz.1;have z1:=zz.2.1;have z2:=zz.2.2.1;have z3:=zz.2.2.2.1;have z4:=zz.2.2.2.2.1;have z5:=zz.2.2.2.2.2
                     clear zz)
                  | skip
                  clear hb2))
            | (go_at_call 168
               refine(hDo.out _ _ _ _ _ _ _ (by first | exact HI1.out | exact HI1.out.below ((Below.refl _ _).alloc (Nat.le_refl _) _)) (by first | exact HI2.out | exact HI2.out.below ((Below.refl _ _).alloc (Nat.le_refl _) _))).mono ?_;rintro e w6 ⟨⟨y3,rfl,ho3⟩,hb3⟩;have hS3:Below wr.heap.size wr w6:=Below.trans (by assumption) (hb3.mono (Below.size (by assumption)));obtain⟨a3,c3,rfl,hI3⟩:=zah ho3 Hl3.out;have HI3:=hid hI3;clear ho3 hI3
               first
               | (have zs:wr.heap.size≤_:=Below.size (by assumption)
                  first | have zr:=zfd hb3 | have zr:=zfe hb3
                  have zz:=zaj zr;have z0:=zz.1;have z1:=zz.2.1;have z2:=zz.2.2.1;have z3:=zz.2.2.2.1;have z4:=zz.2.2.2.2.1;have z5:=zz.2.2.2.2.2
                  clear zz)
               | (have zr:=zff hb3 zr
                  have zz:=zaj zr;have z0:=zz.1;have z1:=zz.2.1;have z2:=zz.2.2.1;have z3:=zz.2.2.2.1;have z4:=zz.2.2.2.2.1;have z5:=zz.2.2.2.2.2
                  clear zz)
               | skip
               clear hb3)
            | (go_at_call 218
               refine(hOf.out _ _ _ _ (by first | exact HI3.out | exact HI3.out.below ((Below.refl _ _).alloc (Nat.le_refl _) _))).mono ?_;rintro e w7 ⟨hz,hb4⟩
               try (have zl:=(Array.getElem?_eq_some_iff.1 zr).1)
               have hS4:Below wr.heap.size wr w7:=Below.trans (by assumption) (hb4.mono (Below.size (by assumption)));subst hz
               first
               | (have zs:wr.heap.size≤_:=Below.size (by assumption)
                  first | have zr:=zfd hb4 | have zr:=zfe hb4
                  have zz:=zaj zr;have z0:=zz.1;have z1:=zz.2.1;have z2:=zz.2.2.1;have z3:=zz.2.2.2.1;have z4:=zz.2.2.2.2.1;have z5:=zz.2.2.2.2.2
                  clear zz)
               | (have zr:=zff hb4 zr
                  have zz:=zaj zr;have z0:=zz.1;have z1:=zz.2.1;have z2:=zz.2.2.1;have z3:=zz.2.2.2.1;have z4:=zz.2.2.2.2.1;have z5:=zz.2.2.2.2.2
                  clear zz)
               | skip
               clear hb4))
            all_goals go_wp2
            all_goals go_meet
            all_goals exact⟨rfl,by assumption⟩
           case rest=>
            obtain⟨rfl,hb2⟩:=hcut;have Hb5:=hid (Hb.out.trans (hb2.out.mono Hb.out.size));have Ho5:=hid (ho.out.below hb2.out);clear hb2;go_wp2;go_roundw
            case rel=>exact⟨k'+1,by omega,by go_num,Hb5.out,by rw[Hst.out];exact Ho5.out⟩
            case measure=>simp[intOf];omega
          | some e=>
           have Hel:=hid (hfl.out e hfr);rw[Hfr2.out,hfr] at Hst;rw[hfr] at hOf;simp only[Option.toList] at Hst;obtain⟨er,em,eh⟩:=e;clear hfr hfl hk1 hk2 hk3 q1;go_wp2_with fail;go_cut [12,13] (fun p ok wc=>ok=.bool true∧∃s,p=.pointer (some ⟨s,0,none⟩)∧Hid (Below wr.heap.size wr wc∧wc.cell? ⟨s,0,none⟩=some (.int .u64 er)∧wc.cell? ⟨s,1,none⟩=some (.int .u64 em)∧∃sa sc,wc.cell? ⟨s,2,none⟩=some (.slice sa eh.length sc)∧IvsT wc 0 sa eh.length sc eh))
           case first=>
            go_region_held3 (fun w'=>Below wr.heap.size wr w') (first | assumption | exact(Below.refl _ _).drew | exact Below.alloc (by assumption) (Below.size (by assumption)) _ | exact zkz (by assumption) (by first | exact Nat.le_refl _ | exact Below.size (by assumption))) (first
            | (go_at_call 226
               first
               | (with_reducible refine(hK1.out _ (by assumption)).mono ?_
                  rintro e w4 ⟨⟨y1,rfl,ho1⟩,hb1⟩;have hS1:Below wr.heap.size wr w4:=Below.trans (by assumption) (hb1.mono (Below.size (by assumption)));obtain⟨a1,c1,rfl,hI1⟩:=zah ho1 Hl1.out;have HI1:=hid hI1;clear ho1 hI1
                  try (first | have HI2:=hid (HI2.out.below hb1) | have HI2:=hid ((HI2.out.below ((Below.refl _ _).alloc (Nat.le_refl _) _)).below hb1))
                  first
                  | (have zs:wr.heap.size≤_:=Below.size (by assumption)
                     first | have zr:=zfd hb1 | have zr:=zfe hb1
                     have zz:=zaj zr;have z0:=zz.1;have z1:=zz.2.1;have z2:=zz.2.2.1;have z3:=zz.2.2.2.1;have z4:=zz.2.2.2.2.1;have z5:=zz.2.2.2.2.2
                     clear zz)
                  | (have zr:=zff hb1 zr
                     have zz:=zaj zr;have z0:=zz.1;have z1:=zz.2.1;have z2:=zz.2.2.1;have z3:=zz.2.2.2.1;have z4:=zz.2.2.2.2.1;have z5:=zz.2.2.2.2.2
                     clear zz)
                  | skip
                  clear hb1)
               | (with_reducible refine(hK2.out _ (by assumption)).mono ?_
                  rintro e w5 ⟨⟨y2,rfl,ho2⟩,hb2⟩;have hS2:Below wr.heap.size wr w5:=Below.trans (by assumption) (hb2.mono (Below.size (by assumption)));obtain⟨a2,c2,rfl,hI2⟩:=zah ho2 Hl2.out;have HI2:=hid hI2;clear ho2 hI2
                  try (first | have HI1:=hid (HI1.out.below hb2) | have HI1:=hid ((HI1.out.below ((Below.refl _ _).alloc (Nat.le_refl _) _)).below hb2))
                  first
                  | (have zs:wr.heap.size≤_:=Below.size (by assumption)
                     first | have zr:=zfd hb2 | have zr:=zfe hb2
                     have zz:=zaj zr;have z0:=zz.1;have z1:=zz.2.1;have z2:=zz.2.2.1;have z3:=zz.2.2.2.1;have z4:=zz.2.2.2.2.1;have z5:=zz.2.2.2.2.2
                     clear zz)
                  | (have zr:=zff hb2 zr
                     have zz:=zaj zr;have z0:=zz.1;have z1:=zz.2.1;have z2:=zz.2.2.1;have z3:=zz.2.2.2.1;have z4:=zz.2.2.2.2.1;have z5:=zz.2.2.2.2.2
                     clear zz)
                  | skip
                  clear hb2))
            | (go_at_call 168
               refine(hDo.out _ _ _ _ _ _ _ (by first | exact HI1.out | exact HI1.out.below ((Below.refl _ _).alloc (Nat.le_refl _) _)) (by first | exact HI2.out | exact HI2.out.below ((Below.refl _ _).alloc (Nat.le_refl _) _))).mono ?_;rintro e w6 ⟨⟨y3,rfl,ho3⟩,hb3⟩;have hS3:Below wr.heap.size wr w6:=Below.trans (by assumption) (hb3.mono (Below.size (by assumption)));obtain⟨a3,c3,rfl,hI3⟩:=zah ho3 Hl3.out;have HI3:=hid hI3;clear ho3 hI3
               first
               | (have zs:wr.heap.size≤_:=Below.size (by assumption)
                  first | have zr:=zfd hb3 | have zr:=zfe hb3
                  have zz:=zaj zr;have z0:=zz.1;have z1:=zz.2.1;have z2:=zz.2.2.1;have z3:=zz.2.2.2.1;have z4:=zz.2.2.2.2.1;have z5:=zz.2.2.2.2.2
                  clear zz)
               | (have zr:=zff hb3 zr
                  have zz:=zaj zr;have z0:=zz.1;have z1:=zz.2.1;have z2:=zz.2.2.1;have z3:=zz.2.2.2.1;have z4:=zz.2.2.2.2.1;have z5:=zz.2.2.2.2.2
                  clear zz)
               | skip
               clear hb3)
            | (go_at_call 218
               refine(hOf.out _ _ _ _ (by first | exact HI3.out | exact HI3.out.below ((Below.refl _ _).alloc (Nat.le_refl _) _))).mono ?_;rintro e w7 ⟨hz,hb4⟩
               try (have zl:=(Array.getElem?_eq_some_iff.1 zr).1)
               have hS4:Below wr.heap.size wr w7:=Below.trans (by assumption) (hb4.mono (Below.size (by assumption)));obtain⟨sa,sc,rfl,hs⟩:=z9o hz Hel.out;have Hs:=hid hs;have hb4s:=hid (Below.size hb4);clear hs hz
               first
               | (have zs:wr.heap.size≤_:=Below.size (by assumption)
                  first | have zr:=zfd hb4 | have zr:=zfe hb4
                  have zz:=zaj zr;have z0:=zz.1;have z1:=zz.2.1;have z2:=zz.2.2.1;have z3:=zz.2.2.2.1;have z4:=zz.2.2.2.2.1;have z5:=zz.2.2.2.2.2
                  clear zz)
               | (have zr:=zff hb4 zr
                  have zz:=zaj zr;have z0:=zz.1;have z1:=zz.2.1;have z2:=zz.2.2.1;have z3:=zz.2.2.2.1;have z4:=zz.2.2.2.2.1;have z5:=zz.2.2.2.2.2
                  clear zz)
               | skip
               clear hb4))
            all_goals go_wp2
            all_goals go_meet
            all_goals refine⟨rfl,_,rfl,by assumption,?_,?_,sa,sc,?_,Hs.out _ fun g hg1 hg2=>?_⟩
            all_goals first
             | (simp[go_sem,z0,z1,z2];done)
             | (simp[go_sem];done)
             | exact Below.heap_alloc _ _ _ hg2
             | (rw[Below.heap_setCell _ _ _ _ (by simp at hg1 ⊢ <;> omega),Below.heap_setCell _ _ _ _ (by simp at hg1 ⊢ <;> omega),Below.heap_setCell _ _ _ _ (by simp at hg1 ⊢ <;> omega)];done)
             | (have:=(Array.getElem?_eq_some_iff.1 zr).1
                rw[Below.heap_setCell _ _ _ _ (by simp at hg1 ⊢ <;> omega),Below.heap_setCell _ _ _ _ (by simp at hg1 ⊢ <;> omega),Below.heap_setCell _ _ _ _ (by simp at hg1 ⊢ <;> omega)];done)
             | (trace_state;fail)
           case rest=>
            obtain⟨rfl,s,rfl,hcut⟩:=hcut;obtain⟨hb2,p1,p2,sa,sc,p3,hs⟩:=hcut.out;have Hb5:=hid (Hb.out.trans (hb2.mono Hb.out.size));have Ho5:=hid (ho.out.below hb2);have Hs:=hid hs;have hal:Below wc.heap.size wc (wc.alloc (.cells #[.int .u64 er,.int .u64 em,.slice sa eh.length sc] 101)):=(Below.refl _ _).alloc (Nat.le_refl _) _;have Hal:=hid hal;clear hb2 hs hcut hal;go_wp2_with (at_builtin;refine znt rfl (.tmp 69) (.tmp 71) rfl rfl w3.heap.size _ T rfl (Ho5.out.below Hal.out) _ 1 (er,em,eh) sa eh.length sc (Hs.out.steady (P:=fun _=>True) (.of_below Hal.out) trivial) rfl (yg (zg _ _ _ (by simp)) rfl rfl) (by have:=HoL.out;omega) (by have:=Hb5.out.size;simp;omega) ?_;intro v' w8 ho8 hg8 _);have Hb8:=hid (Below.grown (Hb5.out.trans (Hal.out.mono Hb5.out.size)) hg8 (by have:=Hb5.out.size;have:=Hal.out.size;omega) (fun k hk=>(Ho5.out.lt k hk).1));go_roundw
            case rel=>exact⟨k'+1,by omega,by go_num,Hb8.out,by rw[Hst.out];exact ho8⟩
            case measure=>simp[intOf];omega
        · obtain rfl:k'=N:=by omega
          have Ho:=hid ho.out;rw[show S.take k'=S from List.take_of_length_le (by rw[←HN.out];exact Nat.le_refl _)] at Ho;go_wp2;go_ret;exact⟨⟨_,rfl,by rw[Hdo.out];exact Ho.out.lower Hbj.out.size⟩,Hb3.out⟩
set_option maxRecDepth 20000 in
theorem z9q (a:Option Addr) (n cap t:Nat) (k:Kno) (w:World) (hE:Frags w a n cap k) (hL:LtK k) (hF:KnoFits k):
 Calls Tryz.prog 129 #[.slice a n cap,.int .u64 t] w fun x w'=>(∃y,x=.returned y∧OwnV w' w.heap.size y (atK k t))∧Below w.heap.size w w':=by
 have HE:=hid hE;have HL:=hid hL;have HF:=hid hF;have Hl:=hid hE.len;have hm:n≤9223372036854775807:=Nat.le_trans hE.room hE.most;clear hE hL hF;go_enter Tryz.func129,Tryz.ntmps129;go_wp2;go_loopw [5,6] (fun y i wr=>∃d:Nat,d≤n∧i=.int .i64 d∧Below w.heap.size w wr∧Hid (OwnV wr w.heap.size y (kt k t d))) (fun _ i _=>n - (intOf i).toNat)
 case atStart=>exact⟨0,by omega,rfl,Below.refl _ _,zhy _ _⟩
 case round=>
  obtain⟨d,hd,rfl,hb,ho⟩:=hrel;have Hb:=hid hb;clear hb;by_cases hdn:d<n
  · have hdk:d<k.length:=by rw[Hl.out];exact hdn
    have HEr:=hid (HE.out.below Hb.out);obtain⟨bb,oo,rfl⟩:=HEr.out.some (by omega);obtain⟨x,m,c,y,m',c',hq⟩:=HEr.out.fix hdn;have Hq:=hid hq;have Hst:=hid (zkr (x:=t) hdk);have Hvf:=hid (HF.out.vec _ (yb hdk));have Haf:=hid (HF.out.at_ t d);obtain⟨av,cv,rfl,hV⟩:=ho.out.ents (zks HL.out t d);have HV:=hid hV;have hC:=hid (fun w' h=>zf5 x m c t (za k d).1 w' (hq w' h).2.1);have hD:=hid (fun w' (h:Below wr.heap.size wr w')=>z9p av y _ cv m' c' 0 (kt k t d) (za k d).2 w' (hV.below h) (hq w' h).2.2.2 (by omega) Haf.out Hvf.out);have h0:(0:Int)≤d:=by omega
    have h04:(d:Int)<(n:Int):=by omega
    obtain⟨q1,-,q2,-⟩:=hq _ (Below.refl _ _);clear hq hV;generalize kt k t d=V0 at*;generalize za k d=f at*;generalize mem f.1 t=b1 at*
    cases b1 with
    | false=>
     rw[if_neg (by simp)] at Hst;clear hD;go_wp2_with fail;refine(hC.out _ (Below.refl _ _)).mono ?_;rintro e w1 ⟨rfl,hb1⟩;have Hb1:=hid hb1;clear hb1;go_wp2;go_roundw
     case rel=>exact⟨d+1,by omega,by go_num,Hb.out.trans (Hb1.out.mono Hb.out.size),by rw[Hst.out];exact ho.out.below Hb1.out⟩
     case measure=>simp[intOf];omega
    | true=>
     rw[if_pos rfl] at Hst;go_wp2_with fail;refine(hC.out _ (Below.refl _ _)).mono ?_;rintro e w1 ⟨rfl,hb1⟩;have Hb1:=hid hb1;clear hb1 q1 q2;obtain⟨q1,-,q2,-⟩:=Hq.out _ Hb1.out;have Hw1:=hid (Hb.out.trans (Hb1.out.mono Hb.out.size));have hD1:=hid (hD.out _ Hb1.out);rw[show ((0:Nat):Int)=0 from rfl] at hD1;go_wp2_with fail;refine hD1.out.mono ?_;rintro e w2 ⟨⟨y2,rfl,ho2⟩,hb2⟩;have Hw2:=hid (Hw1.out.trans (hb2.mono Hw1.out.size));have Ho2:=hid ho2;clear hb2 ho2;go_wp2;go_roundw
     case rel=>exact⟨d+1,by omega,by go_num,Hw2.out,by rw[Hst.out];exact Ho2.out.lower Hw1.out.size⟩
     case measure=>simp[intOf];omega
  · obtain rfl:d=n:=by omega
    have Ho:=hid ho.out;rw[←Hl.out,zia] at Ho;go_wp2;go_ret;exact⟨⟨_,rfl,Ho.out⟩,Hb.out⟩
set_option maxRecDepth 20000 in
theorem z9r (a:Option Addr) (n cap t:Nat) (k:Kno) (w:World) (hE:Frags w a n cap k) (hn:n≤500):
 Calls Tryz.prog 170 #[.slice a n cap,.int .u64 t] w fun x w'=>(∃y,x=.returned y∧w'.ownsRow w.heap.size 3 1 y (zw k t).length (yw (zw k t)))∧Below w.heap.size w w':=by
 have HE:=hid hE;have Hl:=hid hE.len;have Hmk:=hid (show zw k t=kz k t k.length from rfl);clear hE;go_enter Tryz.func170,Tryz.ntmps170;go_wp2;go_loopw [5,6] (fun y i wr=>∃d:Nat,d≤n∧i=.int .i64 d∧Below w.heap.size w wr∧Hid (wr.ownsRow w.heap.size 3 1 y (kz k t d).length (yw (kz k t d)))) (fun _ i _=>n - (intOf i).toNat)
 case atStart=>exact⟨0,by omega,rfl,Below.refl _ _,World.ownsRow_nil _ _ _ _⟩
 case round=>
  obtain⟨d,hd,rfl,hb,ho⟩:=hrel;have Hb:=hid hb;clear hb;by_cases hdn:d<n
  · have hdk:d<k.length:=by rw[Hl.out];exact hdn
    have HEr:=hid (HE.out.below Hb.out);obtain⟨bb,oo,rfl⟩:=HEr.out.some (by omega);obtain⟨x,m,c,y,m',c',hq⟩:=HEr.out.fix hdn;have Hst:=hid (zib k t d);have Hlen:=hid (zkt k t d);have hC:=hid (zf5 x m c t (za k d).1 wr (hq wr (Below.refl _ _)).2.1);have h0:(0:Int)≤d:=by omega
    have h04:(d:Int)<(n:Int):=by omega
    obtain⟨q1,-,q2,-⟩:=hq _ (Below.refl _ _);clear hq;generalize kz k t d=M0 at*;generalize za k d=f at*;generalize mem f.1 t=b1 at*
    cases b1 with
    | false=>
     rw[if_neg (by simp),List.append_nil] at Hst;go_wp2_with fail;refine hC.out.mono ?_;rintro e w1 ⟨rfl,hb1⟩;have Hb1:=hid hb1;clear hb1;go_wp2;go_roundw
     case rel=>exact⟨d+1,by omega,by go_num,Hb.out.trans (Hb1.out.mono Hb.out.size),by rw[Hst.out];exact zm ho.out Hb1.out⟩
     case measure=>simp[intOf];omega
    | true=>
     rw[if_pos rfl] at Hst;go_wp2_with fail;refine hC.out.mono ?_;rintro e w1 ⟨rfl,hb1⟩;have Hb1:=hid hb1;have Hw1:=hid (Hb.out.trans (hb1.mono Hb.out.size));have Ho1:=hid (zm ho.out hb1);clear hb1;go_wp2_with (at_builtin;refine zqo rfl (.tmp 20) (.tmp 22) rfl rfl w.heap.size _ _ M0 rfl (Ho1.out.alloc _) _ 1 _ [d] rfl (yg (zg _ _ _ (by simp)) rfl rfl) (by have:=Hlen.out;omega) (by have:=Hw1.out.size;simp;omega) ?_;intro v' w8 ho8 hg8);have Hb8:=hid (Below.grown (B:=w.heap.size) (Hw1.out.alloc Hw1.out.size _) hg8 (by have:=Hw1.out.size;simp;omega) (fun k hk=>(Ho1.out.lt k hk).1));go_roundw
     case rel=>exact⟨d+1,by omega,by go_num,Hb8.out,by rw[Hst.out,List.length_append];exact ho8⟩
     case measure=>simp[intOf];omega
  · obtain rfl:d=n:=by omega
    have Ho:=hid ho.out;rw[←Hl.out,←Hmk.out] at Ho;go_wp2;go_ret;exact⟨⟨_,rfl,Ho.out⟩,Hb.out⟩
set_option maxRecDepth 20000 in
theorem z9s (a:Option Addr) (n cap:Nat) (k:Kno) (w:World) (hE:Frags w a n cap k) (hL:LtK k) (hn:n≤500) (hA:(qd (k.map (·.1))).length≤2000):
 Calls Tryz.prog 128 #[.slice a n cap] w fun x w'=>zcb w.heap.size (jz k) x w'∧Below w.heap.size w w':=by
 have HE:=hid hE;have hC:=hid (z9d a n cap k w hE hL hn hA);have Hall:=hid (zie k);have Hsa:=hid (zd9 k);have Hlt:=hid (zni hL);have HLn:=hid (Nat.le_trans (zsm k) hA);clear hE hL hA;go_enter Tryz.func128,Tryz.ntmps128;go_wp2_with fail;refine hC.out.mono ?_;rintro e w1 ⟨⟨v,rfl,ho⟩,hb1⟩;have Hb1:=hid hb1;obtain⟨aU,cU,rfl,hU⟩:=zbf ho Hlt.out;have HU:=hid hU;clear hb1 ho hU hC;obtain⟨N,hN⟩:∃N,N=(zx k).length:=⟨_,rfl⟩;have HN:=hid hN;rw[←hN] at HU HLn Hall ⊢;clear hN;have hN2:N≤2000:=HLn.out;go_wp2;go_loopw [4,5] (fun y i wr=>∃d:Nat,d≤N∧i=.int .i64 d∧Below w1.heap.size w1 wr∧Hid (wr.ownsRow w1.heap.size 99 2 y (zbs k d).length (ivC (zbs k d)))) (fun _ i _=>N - (intOf i).toNat)
 case atStart=>exact⟨0,by omega,rfl,Below.refl _ _,World.ownsRow_nil _ _ _ _⟩
 case round=>
  obtain⟨d,hd,rfl,hb,ho⟩:=hrel;have Hb:=hid hb;clear hb;have Hbw:=hid (Hb1.out.trans (Hb.out.mono Hb1.out.size));by_cases hdN:d<N
  · have HUr:=hid (HU.out.below Hb.out);have hcl:=HUr.out.room
    have hP:=hid (fun w' (h:Below wr.heap.size wr w')=>zw9 aU N cU d (zx k) w' (HUr.out.below h) hdN (by omega) (fun h2=>by
     have:=zco Hsa.out (i:=d) (j:=d+1) (by omega) (by rw[←HN.out];exact h2);omega))
    obtain⟨bS,oS,rfl,hcS⟩:=HUr.out.cells (by omega);have q1:=hcS d hdN;have Hst:=hid (zsl (k:=k) (d:=d) (by rw[←HN.out];exact hdN));have Hpl:=hid (zif k d);rw[←HN.out] at Hpl;have hD:=hid (z9r a n cap (nth (zx k) d) k wr (HE.out.below Hbw.out) hn);have Hin:=hid (show inK k (nth (zx k) d)=decide (zw k (nth (zx k) d)≠[]) from rfl);clear hcS;generalize zbs k d=P0 at*;generalize za4 (zx k) d=p at*;generalize nth (zx k) d=x at*;generalize zw k x=M at*;have h0:(0:Int)≤d:=by omega
    have h04:(d:Int)<(N:Int):=by omega
    obtain⟨px,py⟩:=p;go_wp2_with fail;refine hD.out.mono ?_;rintro e w2 ⟨⟨y,rfl,ho2⟩,hb2⟩;have Hb2:=hid hb2;have Hb2w:=hid (Hb.out.trans (hb2.mono Hb.out.size));have Ho2:=hid (zm ho.out hb2);obtain⟨am,cm,rfl,-⟩:=z82 ho2;clear ho2 hb2;by_cases hM:M=[]
    · have hd0:decide (0<(M.length:Int))=false:=by rw[hM];rfl
      have hd1:decide (0<M.length)=false:=by rw[hM];rfl
      rw[Hin.out,if_neg (by simpa using hM),List.append_nil] at Hst;clear hM Hin;go_wp2;go_roundw
      case rel=>exact⟨d+1,by omega,by go_num,Hb2w.out,by rw[Hst.out];exact Ho2.out⟩
      case measure=>simp[intOf];omega
    · have hMl:0<M.length:=List.length_pos_iff.2 hM;have hd0:decide (0<(M.length:Int))=true:=by rw[decide_eq_true_iff];omega
      have hd1:decide (0<M.length)=true:=by rw[decide_eq_true_iff];omega
      rw[Hin.out,if_pos (by simpa using hM)] at Hst;clear hM Hin;go_wp2_with fail;refine(hP.out _ Hb2.out).mono ?_;rintro e w3 ⟨rfl,hb3⟩;have Hb3:=hid (Hb2w.out.trans (hb3.mono Hb2w.out.size));have Ho3:=hid (zm Ho2.out hb3);clear hb3;go_wp2_with (at_builtin;refine zgn rfl (.tmp 22) (.tmp 26) rfl rfl w1.heap.size _ _ P0 rfl (Ho3.out.alloc _) _ 1 _ [(px,py)] rfl (yg (zg _ _ _ (by simp)) rfl rfl) (by have:=Hpl.out;omega) (by have:=Hb3.out.size;simp;omega) ?_;intro v' w8 ho8 hg8);have Hb8:=hid (Below.grown (B:=w1.heap.size) (Hb3.out.alloc Hb3.out.size _) hg8 (by have:=Hb3.out.size;simp;omega) (fun k hk=>(Ho3.out.lt k hk).1));go_roundw
      case rel=>exact⟨d+1,by omega,by go_num,Hb8.out,by rw[Hst.out,List.length_append];exact ho8⟩
      case measure=>simp[intOf];omega
  · obtain rfl:d=N:=by omega
    have Ho:=hid ho.out;rw[Hall.out] at Ho;go_wp2;go_ret;exact⟨⟨_,rfl,y9 Ho.out Hb1.out.size⟩,Hbw.out⟩
end
end Go.Proofs.YtdnjfnofjaoajaaGreatDoor
