/- Part 31. -/
import Derived.Test.YtdnipikdddfhfaaGreatDoorWd29
import Derived.Test.YtdnipikdddfhfaaGreatDoorWd30
set_option linter.unusedVariables false
set_option maxHeartbeats 16000000
namespace Go.Proofs.YtdnipikdddfhfaaGreatDoor
open Lib (hid)
section
structure VsInv (le lh:Int) (vs:List Vec):Prop where
 all:∀v∈vs,CanV v∧LtV v∧v≠[]∧okV le lh v
 asc:vs.Pairwise fun u v=>zw u v= -1
theorem z36 {vs:List Vec} {v:Vec} (ha:vs.Pairwise fun u v=>zw u v= -1) (h:¬vm vs v=true):∀u∈vs,zw u v= -1:=by
 intro u hu;unfold vm at h;rw[List.getLast?_eq_getElem?] at h;have h0:0<vs.length:=List.length_pos_iff.2 (List.ne_nil_of_mem hu);rw[List.getElem?_eq_getElem (by omega)] at h;simp only[decide_eq_true_eq] at h
 have hl:zw (vs[vs.length - 1]'(by omega)) v= -1:=by
  rcases zfp (vs[vs.length - 1]'(by omega)) v with h1 | h1 | h1
  · exact h1
  · rw[h1] at h;exact absurd (Int.le_refl _) h
  · rw[h1] at h;exact absurd (by decide) h
 obtain⟨i,hi,rfl⟩:=List.getElem_of_mem hu;rcases Nat.lt_or_ge i (vs.length - 1) with h1 | h1
 · exact zg4 (List.pairwise_iff_getElem.1 ha i (vs.length - 1) hi (by omega) h1) hl
 · have e:i=vs.length - 1:=by omega
   subst e;exact hl
theorem zsr {T:zt} {E:Nat} {le lh:Int} (hT:T64 T):∀(n:Nat) (acc:List Vec) {p q:Nat} {vs:List Vec},jc T E le lh n acc p=.ok (vs,q)→VsInv le lh acc→
 ∀{P0:Nat},jg T P0 (acc.flatMap zam) p→jg T P0 (vs.flatMap zam) q∧VsInv le lh vs∧vs.length=acc.length+n
 | 0,acc,p,q,vs,h,hI,P0,hr=>by cases h;exact⟨hr,hI,rfl⟩
 | n+1,acc,p,q,vs,h,hI,P0,hr=>by
   rw[jc] at h;obtain⟨v,r,h1,h2⟩:=j8 h;obtain⟨a1,a2,a3,a4,a5⟩:=z3g hT h1;split at h2
   · cases h2
   · rename_i ho
     obtain⟨b1,b2,b3⟩:=zsr hT n (acc++[v]) h2 ⟨fun x hx=>by
      rcases List.mem_append.1 hx with hx | hx
      · exact hI.all x hx
      · simp at hx;subst hx;exact⟨a2,a3,a4,a5⟩,List.pairwise_append.2 ⟨hI.asc,List.pairwise_singleton _ _,fun x hx y hy=>by
      simp at hy;subst hy;exact z36 hI.asc ho x hx⟩⟩ (P0:=P0) (by
      rw[List.flatMap_append];exact kj.2 ⟨p,hr,by simpa using a1⟩)
     refine⟨b1,b2,?_⟩;rw[b3,List.length_append,List.length_cons,List.length_nil];omega
def zck (l:List Iv) (x:List Nat):Nat→List Nat
 | 0=>[]
 | d+1=>zck l x d++[jq l 0 d,(za l d).2 - (za l d).1,nth x d]
theorem zss (l:List Iv) (x:List Nat):∀d,kf l x d=l.length :: zck l x d
 | 0=>rfl
 | d+1=>by rw[kf,zck,zss l x d];rfl
theorem zgh {l t:List Nat} {i:Nat} (h:i<l.length):nth (l++t) i=nth l i:=by simp[nth,List.getElem?_append_left h]
theorem zlr (l:List Nat) (x:Nat):nth (l++[x]) l.length=x:=by simp[nth]
theorem zst (l t:List Iv) (x y:List Nat) (hl:l.length=x.length):∀d,d≤l.length→zck (l++t) (x++y) d=zck l x d
 | 0,_=>rfl
 | d+1,h=>by
   rw[zck,zck,zst l t x y hl d (by omega),za0 h,zgh (by omega)]
   have:jq (l++t) 0 d=jq l 0 d:=by
    unfold jq;rw[za0 (by omega),za0 (i:=d) h,za0 (by omega)]
   rw[this]
structure SInv (N:Nat) (l:List Iv) (ix:List Nat):Prop where
 diff:zbr l 0
 lt:zk l
 len:l.length=ix.length
 idx:∀i,i<l.length→nth ix i<N
 apart:∀i,0<i→i<l.length→(za l i).1=(za l (i - 1)).2+1→nth ix i≠nth ix (i - 1)
theorem zsu {T:zt} {N:Nat} (hT:T64 T):∀(m:Nat) (l:List Iv) (ix:List Nat) {p q:Nat} {l':List Iv} {ix':List Nat},qv T N m l ix p=.ok ((l',ix'),q)→SInv N l ix→
 ∀{P0:Nat},jg T P0 (zck l ix l.length) p→jg T P0 (zck l' ix' l'.length) q∧SInv N l' ix'∧l'.length=l.length+m
 | 0,l,ix,p,q,l',ix',h,hI,P0,hr=>by cases h;exact⟨hr,hI,rfl⟩
 | m+1,l,ix,p,q,l',ix',h,hI,P0,hr=>by
   rw[qv] at h;obtain⟨⟨s,w⟩,r,h1,h2⟩:=j8 h;obtain⟨d1,d2,d3⟩:=zsb hT hI.diff hI.lt h1;unfold za5 at h2;obtain⟨x,r2,h3,h4⟩:=j8 h2;have t3:=zdg h3;split at h4
   · cases h4
   · rename_i hN;split at h4
     · cases h4
     · rename_i ht;simp only at ht h4
       obtain⟨b1,b2,b3⟩:=zsu hT m (l++[s]) (ix++[x]) h4 ⟨d1,d2,by simp[hI.len],fun i hi=>by
        rw[List.length_append,List.length_cons,List.length_nil] at hi;rcases Nat.lt_or_ge i l.length with h5 | h5
        · rw[zgh (by rw[←hI.len];exact h5)];exact hI.idx i h5
        · rw[show i=ix.length by have:=hI.len;omega,zlr];omega,fun i h0 hi he=>by
        rw[List.length_append,List.length_cons,List.length_nil] at hi;rcases Nat.lt_or_ge i l.length with h5 | h5
        · rw[za0 h5,za0 (by omega)] at he;rw[zgh (by rw[←hI.len];exact h5),zgh (by rw[←hI.len];omega)];exact hI.apart i h0 h5 he
        · have e:i=l.length:=by omega
          subst e;rw[zgf,za0 (by omega)] at he;rw[hI.len,zlr,zgh (by rw[←hI.len];omega)];intro e2;refine ht ⟨?_,?_⟩
          · unfold zan;rw[zsa,if_neg (by omega)];simp only[decide_eq_true_eq];exact he
          · rw[List.getLast?_eq_getElem?,List.getElem?_eq_getElem (by rw[←hI.len];omega),e2];simp[nth,List.getElem?_eq_getElem (show ix.length - 1<ix.length by rw[←hI.len];omega)]⟩ (P0:=P0) (by
        rw[List.length_append,List.length_cons,List.length_nil,Nat.zero_add,zck,zst l [s] ix [x] hI.len l.length (Nat.le_refl _),zgf];rw[show nth (ix++[x]) l.length=x by rw[hI.len,zlr]];exact kj.2 ⟨p,hr,kj (a:=[jq (l++[s]) 0 l.length,s.2 - s.1]) (b:=[x]).2 ⟨r,d3,r2,t3,rfl⟩⟩)
       refine⟨b1,b2,?_⟩;rw[b3,List.length_append,List.length_cons,List.length_nil];omega
theorem zsv (L:List Seg) (i:Nat):∀d,d≤L.length→itB (y9 L) ((ql L).map fun (n:Nat)=>(n:Int)) i d=((L.take d).filter fun p=>decide (p.2=i)).map (·.1)
 | 0,_=>by simp[itB]
 | d+1,h=>by
   have e1:za (y9 L) d=L[d].1:=by rw[yw (by rw[kq];exact h)];simp[y9]
   have e2:zb4 ((ql L).map fun (n:Nat)=>(n:Int)) d=(L[d].2:Int):=by rw[zh1 (by simp[ql];exact h)];simp[ql]
   rw[itB,zsv L i d (by omega),e1,e2,List.take_succ_eq_append_getElem h,List.filter_append,List.map_append];congr 1;by_cases e:L[d].2=i
   · rw[if_pos (by omega),List.filter_cons_of_pos (by simpa using e)];rfl
   · rw[if_neg (by omega),List.filter_cons_of_neg (by simpa using e)];rfl
abbrev zls (p q:Seg):Prop:=p.1.2<q.1.1∧(p.2=q.2→p.1.2+1<q.1.1)
theorem zsw {N:Nat} {L:List Seg} (h:SInv N (y9 L) (ql L)):L.Pairwise zls∧∀p∈L,p.1.1≤p.1.2∧p.2<N:=by
 have at1:∀i (hi:i<L.length),za (y9 L) i=L[i].1:=fun i hi=>by rw[yw (by rw[kq];exact hi)];simp[y9]
 have at2:∀i (hi:i<L.length),nth (ql L) i=L[i].2:=fun i hi=>by simp[nth,ql,hi]
 have one:∀i (hi:i<L.length),L[i].1.1≤L[i].1.2:=fun i hi=>by
  have:=(h.diff i (by rw[kq];exact hi)).1;rwa [at1 i hi] at this
 have stp:∀i (hi:i+1<L.length),zls L[i] L[i+1]:=fun i hi=>by
  have h1:=(h.diff (i+1) (by rw[kq];exact hi)).2 (by omega);rw[show i+1 - 1=i by omega,at1 (i+1) hi,at1 i (by omega)] at h1;refine⟨by omega,fun e=>?_⟩;rcases Nat.lt_or_ge (L[i].1.2+1) L[i+1].1.1 with h2 | h2
  · exact h2
  · have h3:=h.apart (i+1) (by omega) (by rw[kq];exact hi) (by rw[show i+1 - 1=i by omega,at1 (i+1) hi,at1 i (by omega)];omega);rw[show i+1 - 1=i by omega,at2 (i+1) hi,at2 i (by omega)] at h3;exact absurd e.symm h3
 refine⟨List.pairwise_iff_getElem.2 fun i j hi hj hij=>?_,fun p hp=>?_⟩
 · obtain⟨d,rfl⟩:∃d,j=i+1+d:=⟨j - i - 1,by omega⟩;clear hij
   induction d with
   | zero=>exact stp i hj
   | succ d ih=>
    have h1:=ih (by omega);have h2:=stp (i+1+d) hj;have h3:=one (i+1+d) (by omega);have e:L[i+1+d+1]'hj=L[i+1+(d+1)]'hj:=rfl;rw[e] at h2;exact⟨by have:=h1.1;have:=h2.1;omega,fun _=>by have:=h1.1;have:=h2.1;omega⟩
 · obtain⟨i,hi,rfl⟩:=List.getElem_of_mem hp;refine⟨one i hi,?_⟩;have:=h.idx i (by rw[kq];exact hi);rwa [at2 i hi] at this
theorem zsx:∀{l:List Iv},(l.Pairwise fun s t=>s.2+1<t.1)→(∀s∈l,s.1≤s.2)→Good l
 | [],_,_=>zgz fun i hi=>(by simp at hi)
 | s :: l,h,h2=>by
   obtain⟨a,b⟩:=List.pairwise_cons.1 h;exact ziv (h2 s List.mem_cons_self) a (zsx b fun t ht=>h2 t (List.mem_cons_of_mem _ ht))
end
section
open Go.RowKit
attribute [local go_sem] zad
theorem PkB.other {w w':World} {base g:Nat} {s:PS} {V cu:Value} {T:TypeId} {C:List Value} (h:PkB w base s V cu) (hR:Row w g T C) (hN:¬zai T) (hT:T≠193) (hg:w.grownBy w' (some g)):PkB w' base s V cu:=by
 have hN:=hR.notT hN;unfold PkB at h ⊢;split at h
 · exact h
 · exact h.grown hN hg
 · exact h.grown hN hg
 · exact h.grown hN hg
 · exact⟨h.1.grown hN hg,h.2.grown hR hT hg⟩
 · exact⟨h.1.grown hN hg,h.2.grown hR hT hg⟩
 · exact h.grown hN hg
theorem PkR.other {w w':World} {base g g':Nat} {L:zg} {nx:Value} {s:PS} {T:TypeId} {C:List Value} (h:PkR w base g L nx s) (hR:Row w g' T C) (hN:¬zai T) (hT:T≠193) (hT2:T≠282) (hg:w.grownBy w' (some g')):PkR w' base g L nx s:=by
 obtain⟨h1,V,cu,h2,h3⟩:=h;exact⟨h1,V,cu,h2.grown hg fun e=>by injection e with e;exact hR.ne h2 hT2 e.symm,h3.other hR hN hT hg⟩
theorem zsy {le lh:Int} {s:PS} {x rest c:Nat} (h:qa le lh s x rest=.error c):c≠0:=by
 unfold qa at h;split at h
 · split at h
   · cases h;assumption
   · split at h
     · cases h;decide
     · cases h
 · split at h
   · cases h;decide
   · cases h
 · cases h
 · split at h
   · cases h;assumption
   · cases h
 · split at h
   · cases h;decide
   · cases h
 · split at h
   · cases h
   · cases h;decide
structure VPre (W:World) (base R:Nat) (L:zg) (s:WS) (K:Value) (U C B pb P fr:Nat) (i:PS):Prop where
 row:Row W R 130 (wkC L (.iface 196 (.pointer (some ⟨B,0,none⟩))) K U C .nilIface)
 vrow:Row W B 199 (vcC s.left (fr:Int) (.pointer (some ⟨P,0,none⟩)))
 cur:Row W C 193 (jj C 0 0 none false)
 used:UsedM W U s.ix
 kv:∃wb,KV wb base K s.vs∧Steady 0 zai wb W∧wb.heap.size≤pb
 bR:base≤R
 bU:base≤U
 bC:base≤C
 bB:base≤B
 bp:base≤pb
 lR:R<pb
 lU:U<pb
 lC:C<pb
 lB:B<pb
 lw:pb≤W.heap.size
theorem VPre.later {W W1:World} {base R:Nat} {L:zg} {s:WS} {K:Value} {U C B pb P fr:Nat} {i:PS} (h:VPre W base R L s K U C B pb P fr i) (hb:Below pb W W1):VPre W1 base R L s K U C B pb P fr i:=by
 obtain⟨h1,h2,h3,h4,⟨wb,k1,k2,k3⟩,b1,b2,b3,b4,b5,l1,l2,l3,l4,l5⟩:=h;refine⟨h1.below hb l1,h2.below hb l4,h3.below hb l3,h4.same (hb.block U l2),⟨wb,k1,⟨Nat.le_trans k2.size hb.size,fun k hk hp=>(hb.block k (by omega)).trans (k2.row k hk hp)⟩,k3⟩,b1,b2,b3,b4,b5,l1,l2,l3,l4,Nat.le_trans l5 hb.size⟩
def zsz (B:Nat):Value:=.iface 196 (.pointer (some ⟨B,0,none⟩))
def zap (L:zg) (s:WS) (p:Nat) (r:Except Nat PS):Except (Nat×Nat) WS:=
 match r with
 | .error c=>.error (c,p)
 | .ok i=>if i.tag=6 then
    if vm s.vs i.v=true then .error (3,vv s p) else if s.left=1 then .ok { s with tag:=2,vs:=s.vs++[i.v],left:=0,inner:=ps0 } else .ok { s with vs:=s.vs++[i.v],left:=s.left - 1,inner:=ps0 }
   else .ok { s with frm:=vv s p,inner:=i }
theorem z37 {E:Nat} {L:zg} {s:WS} {x p q:Nat} (ht:s.tag=1):jd E L s x p q=zap L s p (qa L.2.2.1 L.2.2.2.1 s.inner x (E - q)):=by
 obtain⟨tag,vs,l,ix,left,frm,inner,turn,lo,hi,tch⟩:=s;simp only at ht;subst ht
 rfl
theorem Door.keep {w w':World} {n:Nat} (hD:Door w) (hn:0<n) (hb:Below n w w'):Door w':=(hb.cell (p:=⟨0,0,none⟩) hn).trans hD
theorem VPre.cont {W W1:World} {base R:Nat} {L:zg} {s:WS} {K:Value} {U C B pb P fr:Nat} {i j:PS} (ht:s.tag=1) (h:VPre W base R L s K U C B pb P fr i) (hb:Below pb W W1) (hj:1≤j.tag) (hP:PkR W1 pb P L (pkF P j.tag) j):WkR W1 base R L { s with frm:=fr,inner:=j }:=by
 obtain⟨h1,h2,h3,h4,⟨wb,k1,k2,k3⟩,b1,b2,b3,b4,b5,l1,l2,l3,l4,l5⟩:=h.later hb;refine⟨b1,_,K,U,C,b2,b3,h1,h4,?_⟩;unfold WkB;simp only[ht];exact⟨B,rfl,b4,h3,.inr ⟨hj,P,pb,wb,h2,k1,k2,k3,b5,l1,l2,l3,l4,hP⟩⟩
set_option maxRecDepth 100000 in
theorem z38 (base R:Nat) (L:zg) (s:WS) (K:Value) (U C B rest x p:Nat) (w0 w:World) (ht:s.tag=1) (hR0:base≤R) (hU:base≤U) (hC:base≤C) (hB0:base≤B) (hb0:Below base w0 w)
 (hR:Row w R 130 (wkC L (zsz B) K U C .nilIface)) (hu:UsedM w U s.ix) (hc:Row w C 193 (jj C 0 0 none false)) (hV:VecAt w base R L K U C B s) (hD:Door w) (hDb:0<base)
 (hL:LimsI L) (hx:x<18446744073709551616) (hr:rest<9223372036854775808) (hp:p≤900000000000) (hF:WFit s p) (hI:WInv s)
 (hvf:∀v∈s.vs,(zl v).length≤1000000000000) (hif:∀i,qa L.2.2.1 L.2.2.2.1 s.inner x rest=.ok i→i.tag=6→(zl i.v).length≤1000000000000) (rr:Except Nat PS) (hrr:qa L.2.2.1 L.2.2.2.1 s.inner x rest=rr):
 Calls Tryz.prog 111 #[.pointer (some ⟨R,0,none⟩),.pointer (some ⟨B,0,none⟩),.int .u64 (x:Int),.int .i64 (p:Int),.int .i64 (rest:Int)] w (WkS w0 base R L (zap L s p rr)):=by
 obtain⟨i1,i2⟩:=hI.inner ht;have hinn:PFit s.inner 900000000000:=hF.inner.mono (by omega);unfold zsz at hR;have Hrr:=hid hrr;have HV:=hid hvf;have HI:=hid hif;have Hi:=hid hinn;have HL:=hid hL;have Hx:=hid hx;have Hr:=hid hr;have Hi1:=hid i1;have Hi2:=hid i2;have Ht:=hid ht;have HF:=hid hF;have Hleft:=hid (hI.left (.inl ht));clear hrr hvf hif hinn hL hx hr i1 i2 ht hF hI;rcases hV with ⟨h0,⟨ip,hB⟩,hK⟩ | ⟨h1,P,pb,wb,hB,hK,hS,hwb,hbp,lR,lU,lC,lB,hP⟩
 · have H0:=hid h0;have q0:=hR.cell 0 rfl;have q1:=hR.cell 1 rfl;have q2:=hR.cell 2 rfl;have q3:=hR.cell 3 rfl;have q4:=hR.cell 4 rfl;have v1:=hB.cell 1 rfl;have HBg:=z23 L w;unfold lmV at HBg;have HB:=hid HBg;have Hfr:=hid (show vv s p=p from by unfold vv;rw[h0];rfl);have HR:=hid hR;have HVr:=hid hB;have Hu:=hid hu;have Hc:=hid hc;have HK:=hid hK;have HDr:=hid hD;have Hb0:=hid hb0;clear HBg h0 hR hB hu hc hK hD hb0;go_enter Tryz.func111,Tryz.ntmps111;go_wp2_with fail;refine HB.out.mono ?_;rintro e w1 ⟨rfl,hP1,hb1⟩;have hV1:=HVr.out.later hb1;have v1:=hV1.cell 1 rfl;have v2:=hV1.cell 2 rfl;have y1:=hV1.fz 1;have y2:=hV1.fz 2;have hV2:Row ((w1.setCell ⟨B,1,none⟩ (.int .i64 (p:Int))).setCell ⟨B,2,none⟩ (.pointer (some ⟨w.heap.size+1,0,none⟩))) B 199 (vcC s.left (p:Int) (.pointer (some ⟨w.heap.size+1,0,none⟩))):=(hV1.set 1 _).set 2 _;have hg2:w1.grownBy ((w1.setCell ⟨B,1,none⟩ (.int .i64 (p:Int))).setCell ⟨B,2,none⟩ (.pointer (some ⟨w.heap.size+1,0,none⟩))) (some B):=zn (a:=⟨B,2,none⟩) (zn (a:=⟨B,1,none⟩) (jk w1 _) _ (.inr rfl)) _ (.inr rfl);have hne:B≠w.heap.size+1:=by have:=HVr.out.lt;omega
   have hnT:∀{C'},Row w1 B 199 C'→NotT w1 B:=fun h=>h.notT (by rintro(h | h | h) <;> cases h)
   have HP2:=hid (hP1.other hV1 (by rintro(h | h | h) <;> cases h) (by decide) (by decide) hg2)
   have HPre:=hid (show VPre ((w1.setCell ⟨B,1,none⟩ (.int .i64 (p:Int))).setCell ⟨B,2,none⟩ (.pointer (some ⟨w.heap.size+1,0,none⟩))) base R L s K U C B w.heap.size (w.heap.size+1) (vv s p) s.inner from
    ⟨(HR.out.later hb1).grown hg2 (fun e=>by injection e with e;exact HR.out.ne HVr.out (by decide) e),by rw[Hfr.out];exact hV2,(Hc.out.later hb1).grown hg2 (fun e=>by injection e with e;exact Hc.out.ne HVr.out (by decide) e),
      (Hu.out.same (hb1.block U Hu.out.lt)).same (hg2.block U (Nat.lt_of_lt_of_le Hu.out.lt hb1.size) (fun e=>by injection e with e;exact Hu.out.ne (show w.heap[B]?=_ from HVr.out) e)),
      ⟨w,HK.out,(Steady.of_below hb1).trans (zeb (hnT hV1) (Nat.zero_le _) hg2),Nat.le_refl _⟩,hR0,hU,hC,hB0,by have:=HR.out.lt;omega,HR.out.lt,Hu.out.lt,Hc.out.lt,HVr.out.lt,Nat.le_trans hb1.size hg2.size⟩)
   have Hb0W:=hid (Hb0.out.trans (((hb1.mono (show base≤w.heap.size by have:=HR.out.lt;omega)).setCell (p:=⟨B,1,none⟩) hB0 (.int .i64 (p:Int))).setCell (p:=⟨B,2,none⟩) hB0 (.pointer (some ⟨w.heap.size+1,0,none⟩))));have HDW:=hid (HDr.out.keep hDb (((hb1.mono (show base≤w.heap.size by have:=HR.out.lt;omega)).setCell (p:=⟨B,1,none⟩) hB0 (.int .i64 (p:Int))).setCell (p:=⟨B,2,none⟩) hB0 (.pointer (some ⟨w.heap.size+1,0,none⟩))));have HP2:=hid (show PkR ((w1.setCell ⟨B,1,none⟩ (.int .i64 (p:Int))).setCell ⟨B,2,none⟩ (.pointer (some ⟨w.heap.size+1,0,none⟩))) w.heap.size (w.heap.size+1) L (pkF (w.heap.size+1) s.inner.tag) s.inner from by rw[H0.out];exact HP2.out);have hvp:=HPre.out.vrow.cell 2 rfl;clear hV1 hP1 hb1 hV2 hg2 hne hnT HR HVr Hu Hc HK HDr Hb0 q0 q1 q2 q3 q4;go_wp2_with fail;generalize ((w1.setCell ⟨B,1,none⟩ (.int .i64 (p:Int))).setCell ⟨B,2,none⟩ (.pointer (some ⟨w.heap.size+1,0,none⟩)))=W at*;generalize w.heap.size=pb at*;generalize pb+1=P at*;have HPut:=hid (zsp pb P L s.inner x rest W HP2.out Hi1.out HL.out Hx.out Hr.out Hi.out Hi2.out);rw[Hrr.out] at HPut;clear hvp v1
   cases rr with
   | error c=>
    have hc0:=zsy Hrr.out;refine HPut.out.mono ?_;rintro e W1 ⟨hb1,rfl⟩;have HPre1:=hid (HPre.out.later hb1);have hb1':=hb1.mono HPre.out.bp;have hCo:=zc4 (some ((c:Int),none)) W1 (HDW.out.keep hDb hb1');simp only[yt,zcm] at hCo;have HCo:=hid hCo;have Hb1:=hid hb1';clear hCo hb1 hb1';go_wp2_with fail;refine HCo.out.mono ?_;rintro e W2 ⟨rfl,hb2⟩;have HR2:=hid (HPre1.out.row.later hb2);have Hb2:=hid ((Hb0W.out.trans Hb1.out).trans (hb2.mono (Nat.le_trans HPre.out.bp HPre1.out.lw)));clear hb2;go_wp2_with fail;refine(za9 (c:=c) (o:=p) hc0 _).mono ?_;rintro e w' ⟨rfl,rfl⟩;go_wp2_with fail;go_ret
    exact⟨Hb2.out,rfl,_,HR2.out,rfl⟩
   | ok i=>
    obtain⟨k1,k2,k3⟩:=zf7 Hi1.out Hi2.out Hrr.out;have hfi:=zlg Hi.out Hi1.out Hx.out Hrr.out;have Hfi:=hid hfi;by_cases h6:i.tag=6
    · have hvv:=HI.out i Hrr.out h6;have hlv:LtV i.v:=hfi.v;refine HPut.out.mono ?_;rintro e W1 ⟨hb1,rfl,hP1⟩;have hPre1:=HPre.out.later hb1;obtain⟨wb,kk1,kk2,kk3⟩:=hPre1.kv;have hKV:=kk1.steady kk2;have hd:decide (i.tag=6)=true:=decide_eq_true h6;have HVc:=hid (zsq pb P L i W1 hP1 h6);have v2:=hPre1.vrow.cell 2 rfl;have HPre1:=hid hPre1;have HKV:=hid hKV;have Hlv:=hid hlv;have Hvv:=hid hvv;have Hb1:=hid (Hb0W.out.trans (hb1.mono HPre.out.bp));have HD1:=hid (HDW.out.keep hDb (hb1.mono HPre.out.bp));have H6:=hid h6;clear hPre1 hKV kk1 kk2 kk3 hb1 hP1 hlv hvv k1 k2 k3 hfi h6;go_wp2_with fail;refine HVc.out.mono ?_;rintro e w' ⟨⟨V,rfl,hV⟩,rfl⟩;have hES:=hV.enSl Hlv.out;obtain⟨va,vn,vcap,rfl,hET⟩:=hES;have HET:=hid hET;obtain⟨ka,kc,hKe⟩:=HKV.out.len;subst hKe
      have hbx:∀W2,Below W1.heap.size W1 W2→VRows W2 base R L (.iface 196 (.pointer (some ⟨B,0,none⟩))) (.slice ka s.vs.length kc) U C B s.left (vv s p:Int) (.pointer (some ⟨P,0,none⟩)) s.ix s.vs:=fun _ hb=>
       ⟨HPre1.out.row.later hb,HPre1.out.vrow.later hb,HPre1.out.cur.later hb,HPre1.out.used.same (hb.block U HPre1.out.used.lt),HKV.out.later hb⟩
      have hbV:∀W2,Below W1.heap.size W1 W2→EnSl W2 0 (.slice va vn vcap) i.v:=fun _ hb=>(show EnSl W1 0 (.slice va vn vcap) i.v from⟨va,vn,vcap,rfl,HET.out⟩).steady (P:=fun _=>True) (.of_below hb) trivial trivial
      have Hbx:=hid hbx;have HbV:=hid hbV;have q6:=HPre1.out.row.cell 6 rfl;have hll:=HF.out.vsl;have hvl:s.vs.length+1≤1000000000000:=by omega
      have Hvl:=hid hvl;have Hlf:=hid HF.out.left;clear hV hET v2 hbx hbV hll hvl;by_cases h0:s.vs=[]
      · have hn0:s.vs.length=0:=by rw[h0];rfl
        have Hob:=hid (show vm s.vs i.v=false from by rw[h0];rfl);have Hn0:=hid hn0;obtain⟨gK,cK,w3,hrun,hb3,hR3,hB3,hC3,hu3,hK3⟩:=zif (Hbx.out _ (Below.refl _ _)) hR0 (HbV.out _ (Below.refl _ _)) Hvl.out;rw[hn0] at hrun q6;have Hrun:=hid hrun;clear h0 hn0;have e2:(s.left:Int) - 1=((s.left - 1:Nat):Int):=by have:=Hleft.out;omega
        have e3:IntKind.u64.wrap ((s.left - 1:Nat):Int)=((s.left - 1:Nat):Int):=by have:=Hlf.out;rw[IntKind.wrap_u64];omega
        have p6:=hR3.cell 6 rfl;rw[Hn0.out] at p6;have z6:=hR3.fz 6;have p5:=hR3.cell 5 rfl;have z5:=hR3.fz 5;have b0:=hB3.cell 0 rfl;have b1:=hB3.cell 1 rfl;have y0:=hB3.fz 0;have y1':=hB3.fz 1;have hneRB:=hR3.ne hB3 (by decide);have hneBR:=hneRB.symm;by_cases hl1:s.left=1
        · have Hv:=hid (show zap L s p (.ok i)=.ok { s with tag:=2,vs:=s.vs++[i.v],left:=0,inner:=ps0 } from by
           show (if i.tag=6 then _ else _)=_;rw[if_pos H6.out,if_neg (by rw[Hob.out];decide),if_pos hl1])
          have HFin:=hid ((zdh hR3 hB3 hC3 hu3 hK3 0).mid hR0 hU hC);have HBf:=hid (((((Hb1.out.trans hb3).setCell (p:=⟨R,6,none⟩) hR0 (.slice (some ⟨gK,0,none⟩) (s.vs.length+1) cK)).setCell (p:=⟨B,1,none⟩) hB0 (.int .i64 (-1))).setCell (p:=⟨B,0,none⟩) hB0 (.int .u64 ((0:Nat):Int))).setCell (p:=⟨R,5,none⟩) hR0 (.iface 200 (.agg #[])));rw[Hn0.out] at HFin HBf;rw[hl1] at b0;clear hR3 hB3 hC3 hu3 hK3 hb3 e2 e3 hl1 hrun;go_wp2_with (at_builtin;refine jh _ _ 27 rfl rfl _ _ rfl rfl _ _ Hrun.out ?_);go_ret;exact⟨HBf.out,by rw[Hv.out];exact⟨rfl,HFin.out⟩⟩
        · have Hv:=hid (show zap L s p (.ok i)=.ok { s with vs:=s.vs++[i.v],left:=s.left - 1,inner:=ps0 } from by
           show (if i.tag=6 then _ else _)=_;rw[if_pos H6.out,if_neg (by rw[Hob.out];decide),if_neg hl1])
          have HFin:=hid ((zdh hR3 hB3 hC3 hu3 hK3 (s.left - 1)).more Ht.out hR0 hU hC hB0);have HBf:=hid ((((Hb1.out.trans hb3).setCell (p:=⟨R,6,none⟩) hR0 (.slice (some ⟨gK,0,none⟩) (s.vs.length+1) cK)).setCell (p:=⟨B,1,none⟩) hB0 (.int .i64 (-1))).setCell (p:=⟨B,0,none⟩) hB0 (.int .u64 ((s.left - 1:Nat):Int)));rw[Hn0.out] at HFin HBf;have h1l:(((s.left - 1:Nat):Int) == 0)=false:=by have:=Hleft.out;rw[beq_eq_false_iff_ne];omega
          have h1m:¬s.left - 1=0:=by have:=Hleft.out;omega
          clear hR3 hB3 hC3 hu3 hK3 hb3 hl1 hrun;generalize s.left - 1=left1 at*;go_wp2_with (at_builtin;refine jh _ _ 27 rfl rfl _ _ rfl rfl _ _ Hrun.out ?_);go_ret;exact⟨HBf.out,by rw[Hv.out];exact⟨rfl,HFin.out⟩⟩
      · have hpos:s.vs.length - 1<s.vs.length:=by have:=List.length_pos_iff.2 h0;omega
        obtain⟨gk,kcap,hke,hgk,hgkl,y,cy,-,hyE⟩:=HKV.out.at hpos;obtain⟨ya,yn,yc,rfl,hYT⟩:=hyE;have hka:ka=some ⟨gk,0,none⟩:=by injection hke
        subst hka;have hmem:qq s.vs (s.vs.length - 1)∈s.vs:=by rw[zcx hpos];exact List.getElem_mem hpos
        have HCmp:=hid (zk2 ya va yn yc vn vcap _ _ W1 hYT.ents HET.out.ents (HV.out _ hmem) Hvv.out)
        have Hob:=hid (show vm s.vs i.v=decide (0≤zw (qq s.vs (s.vs.length - 1)) i.v) from by
         unfold vm;rw[List.getLast?_eq_getElem?,List.getElem?_eq_getElem hpos,zcx hpos])
        obtain⟨n,hn⟩:∃n,n=s.vs.length:=⟨_,rfl⟩;have Hn:=hid hn;rw[←hn] at cy q6;have hn1:1≤n∧n≤1000000000000:=by have:=Hvl.out;omega
        have e1:(n:Int) - 1=((n - 1:Nat):Int):=by omega
        clear h0 hke hYT hmem hn;rcases zfp (qq s.vs (s.vs.length - 1)) i.v with hcv | hcv | hcv
        · rw[hcv] at HCmp Hob;have Hob:=hid (show vm s.vs i.v=false from Hob.out);clear hcv;go_wp2_with fail;refine HCmp.out.mono ?_;rintro e W2 ⟨rfl,hb2⟩;obtain⟨gK,cK,w3,hrun,hb3,hR3,hB3,hC3,hu3,hK3⟩:=zif (Hbx.out _ hb2) hR0 (HbV.out _ hb2) Hvl.out;have p6:=(Hbx.out _ hb2).row.cell 6 rfl;rw[←Hn.out] at hrun p6;have Hrun:=hid hrun;have Hb2:=hid (Hb1.out.trans (hb2.mono (Nat.le_trans HPre.out.bp HPre1.out.lw)));clear hb2;have e2:(s.left:Int) - 1=((s.left - 1:Nat):Int):=by have:=Hleft.out;omega
          have e3:IntKind.u64.wrap ((s.left - 1:Nat):Int)=((s.left - 1:Nat):Int):=by have:=Hlf.out;rw[IntKind.wrap_u64];omega
          have p6:=hR3.cell 6 rfl;have z6:=hR3.fz 6;have p5:=hR3.cell 5 rfl;have z5:=hR3.fz 5;have b0:=hB3.cell 0 rfl;have b1:=hB3.cell 1 rfl;have y0:=hB3.fz 0;have y1':=hB3.fz 1;have hneRB:=hR3.ne hB3 (by decide);have hneBR:=hneRB.symm;by_cases hl1:s.left=1
          · have Hv:=hid (show zap L s p (.ok i)=.ok { s with tag:=2,vs:=s.vs++[i.v],left:=0,inner:=ps0 } from by
             show (if i.tag=6 then _ else _)=_;rw[if_pos H6.out,if_neg (by rw[Hob.out];decide),if_pos hl1])
            have HFin:=hid ((zdh hR3 hB3 hC3 hu3 hK3 0).mid hR0 hU hC);have HBf:=hid (((((Hb2.out.trans hb3).setCell (p:=⟨R,6,none⟩) hR0 (.slice (some ⟨gK,0,none⟩) (s.vs.length+1) cK)).setCell (p:=⟨B,1,none⟩) hB0 (.int .i64 (-1))).setCell (p:=⟨B,0,none⟩) hB0 (.int .u64 ((0:Nat):Int))).setCell (p:=⟨R,5,none⟩) hR0 (.iface 200 (.agg #[])));rw[←Hn.out] at HFin HBf;rw[hl1] at b0;clear hR3 hB3 hC3 hu3 hK3 hb3 e2 e3 hl1 hrun;go_wp2_with (at_builtin;refine jh _ _ 27 rfl rfl _ _ rfl rfl _ _ Hrun.out ?_);go_ret;exact⟨HBf.out,by rw[Hv.out];exact⟨rfl,HFin.out⟩⟩
          · have Hv:=hid (show zap L s p (.ok i)=.ok { s with vs:=s.vs++[i.v],left:=s.left - 1,inner:=ps0 } from by
             show (if i.tag=6 then _ else _)=_;rw[if_pos H6.out,if_neg (by rw[Hob.out];decide),if_neg hl1])
            have HFin:=hid ((zdh hR3 hB3 hC3 hu3 hK3 (s.left - 1)).more Ht.out hR0 hU hC hB0);have HBf:=hid ((((Hb2.out.trans hb3).setCell (p:=⟨R,6,none⟩) hR0 (.slice (some ⟨gK,0,none⟩) (s.vs.length+1) cK)).setCell (p:=⟨B,1,none⟩) hB0 (.int .i64 (-1))).setCell (p:=⟨B,0,none⟩) hB0 (.int .u64 ((s.left - 1:Nat):Int)));rw[←Hn.out] at HFin HBf;have h1l:(((s.left - 1:Nat):Int) == 0)=false:=by have:=Hleft.out;rw[beq_eq_false_iff_ne];omega
            have h1m:¬s.left - 1=0:=by have:=Hleft.out;omega
            clear hR3 hB3 hC3 hu3 hK3 hb3 hl1 hrun;generalize s.left - 1=left1 at*;go_wp2_with (at_builtin;refine jh _ _ 27 rfl rfl _ _ rfl rfl _ _ Hrun.out ?_);go_ret;exact⟨HBf.out,by rw[Hv.out];exact⟨rfl,HFin.out⟩⟩
        · rw[hcv] at HCmp Hob
          have Hv:=hid (show zap L s p (.ok i)=.error (3,vv s p) from by
           show (if i.tag=6 then _ else _)=_;rw[if_pos H6.out,if_pos (by rw[Hob.out];decide)])
          have v1:=fun W2 (hb:Below W1.heap.size W1 W2)=>(Hbx.out W2 hb).vrow.cell 1 rfl
          have HV1:=hid v1;clear hcv v1;go_wp2_with fail;refine HCmp.out.mono ?_;rintro e W2 ⟨rfl,hb2⟩;have v1:=HV1.out W2 hb2;have HR2:=hid (Hbx.out _ hb2).row;have Hb2:=hid (Hb1.out.trans (hb2.mono (Nat.le_trans HPre.out.bp HPre1.out.lw)));clear hb2;go_wp2_with fail;refine(za9 (c:=3) (o:=vv s p) (by decide) _).mono ?_;rintro e w' ⟨rfl,rfl⟩;go_wp2_with fail;go_ret;exact⟨Hb2.out,by rw[Hv.out];exact⟨rfl,_,HR2.out,rfl⟩⟩
        · rw[hcv] at HCmp Hob
          have Hv:=hid (show zap L s p (.ok i)=.error (3,vv s p) from by
           show (if i.tag=6 then _ else _)=_;rw[if_pos H6.out,if_pos (by rw[Hob.out];decide)])
          have v1:=fun W2 (hb:Below W1.heap.size W1 W2)=>(Hbx.out W2 hb).vrow.cell 1 rfl
          have HV1:=hid v1;clear hcv v1;go_wp2_with fail;refine HCmp.out.mono ?_;rintro e W2 ⟨rfl,hb2⟩;have v1:=HV1.out W2 hb2;have HR2:=hid (Hbx.out _ hb2).row;have Hb2:=hid (Hb1.out.trans (hb2.mono (Nat.le_trans HPre.out.bp HPre1.out.lw)));clear hb2;go_wp2_with fail;refine(za9 (c:=3) (o:=vv s p) (by decide) _).mono ?_;rintro e w' ⟨rfl,rfl⟩;go_wp2_with fail;go_ret;exact⟨Hb2.out,by rw[Hv.out];exact⟨rfl,_,HR2.out,rfl⟩⟩
    · have Hv:=hid (show zap L s p (.ok i)=.ok { s with frm:=vv s p,inner:=i } from if_neg h6);refine HPut.out.mono ?_;rintro e W1 ⟨hb1,rfl,hP1⟩;have HF:=hid (HPre.out.cont Ht.out hb1 k3 hP1);have Hb1:=hid (Hb0W.out.trans (hb1.mono HPre.out.bp));have hd:decide (i.tag=6)=false:=decide_eq_false h6;clear hb1 hP1 h6 k1 k2 k3 hfi;go_wp2_with fail;go_ret;exact⟨Hb1.out,by rw[Hv.out];exact⟨rfl,HF.out⟩⟩
 · obtain⟨W,rfl⟩:∃W,W=w:=⟨w,rfl⟩
   have HPre:=hid (show VPre W base R L s K U C B pb P (vv s p) s.inner from
    ⟨hR,by unfold vv;rw[if_neg (by omega)];exact hB,hc,hu,⟨wb,hK,hS,hwb⟩,hR0,hU,hC,hB0,hbp,lR,lU,lC,lB,by have:=hP.1;obtain⟨_,_,_,hr,_⟩:=hP;have:=hr.lt;omega⟩)
   have HP2:=hid hP;have Hb0W:=hid hb0;have HDW:=hid hD;have v1:=hB.cell 1 rfl;have hvp:=hB.cell 2 rfl;clear hR hB hu hc hK hS hwb hbp lR lU lC lB hP hD hb0 h1 wb;go_enter Tryz.func111,Tryz.ntmps111;go_wp2_with fail;have HPut:=hid (zsp pb P L s.inner x rest W HP2.out Hi1.out HL.out Hx.out Hr.out Hi.out Hi2.out);rw[Hrr.out] at HPut;clear hvp v1
   cases rr with
   | error c=>
    have hc0:=zsy Hrr.out;refine HPut.out.mono ?_;rintro e W1 ⟨hb1,rfl⟩;have HPre1:=hid (HPre.out.later hb1);have hb1':=hb1.mono HPre.out.bp;have hCo:=zc4 (some ((c:Int),none)) W1 (HDW.out.keep hDb hb1');simp only[yt,zcm] at hCo;have HCo:=hid hCo;have Hb1:=hid hb1';clear hCo hb1 hb1';go_wp2_with fail;refine HCo.out.mono ?_;rintro e W2 ⟨rfl,hb2⟩;have HR2:=hid (HPre1.out.row.later hb2);have Hb2:=hid ((Hb0W.out.trans Hb1.out).trans (hb2.mono (Nat.le_trans HPre.out.bp HPre1.out.lw)));clear hb2;go_wp2_with fail;refine(za9 (c:=c) (o:=p) hc0 _).mono ?_;rintro e w' ⟨rfl,rfl⟩;go_wp2_with fail;go_ret
    exact⟨Hb2.out,rfl,_,HR2.out,rfl⟩
   | ok i=>
    obtain⟨k1,k2,k3⟩:=zf7 Hi1.out Hi2.out Hrr.out;have hfi:=zlg Hi.out Hi1.out Hx.out Hrr.out;have Hfi:=hid hfi;by_cases h6:i.tag=6
    · have hvv:=HI.out i Hrr.out h6;have hlv:LtV i.v:=hfi.v;refine HPut.out.mono ?_;rintro e W1 ⟨hb1,rfl,hP1⟩;have hPre1:=HPre.out.later hb1;obtain⟨wb,kk1,kk2,kk3⟩:=hPre1.kv;have hKV:=kk1.steady kk2;have hd:decide (i.tag=6)=true:=decide_eq_true h6;have HVc:=hid (zsq pb P L i W1 hP1 h6);have v2:=hPre1.vrow.cell 2 rfl;have HPre1:=hid hPre1;have HKV:=hid hKV;have Hlv:=hid hlv;have Hvv:=hid hvv;have Hb1:=hid (Hb0W.out.trans (hb1.mono HPre.out.bp));have HD1:=hid (HDW.out.keep hDb (hb1.mono HPre.out.bp));have H6:=hid h6;clear hPre1 hKV kk1 kk2 kk3 hb1 hP1 hlv hvv k1 k2 k3 hfi h6;go_wp2_with fail;refine HVc.out.mono ?_;rintro e w' ⟨⟨V,rfl,hV⟩,rfl⟩;have hES:=hV.enSl Hlv.out;obtain⟨va,vn,vcap,rfl,hET⟩:=hES;have HET:=hid hET;obtain⟨ka,kc,hKe⟩:=HKV.out.len;subst hKe
      have hbx:∀W2,Below W1.heap.size W1 W2→VRows W2 base R L (.iface 196 (.pointer (some ⟨B,0,none⟩))) (.slice ka s.vs.length kc) U C B s.left (vv s p:Int) (.pointer (some ⟨P,0,none⟩)) s.ix s.vs:=fun _ hb=>
       ⟨HPre1.out.row.later hb,HPre1.out.vrow.later hb,HPre1.out.cur.later hb,HPre1.out.used.same (hb.block U HPre1.out.used.lt),HKV.out.later hb⟩
      have hbV:∀W2,Below W1.heap.size W1 W2→EnSl W2 0 (.slice va vn vcap) i.v:=fun _ hb=>(show EnSl W1 0 (.slice va vn vcap) i.v from⟨va,vn,vcap,rfl,HET.out⟩).steady (P:=fun _=>True) (.of_below hb) trivial trivial
      have Hbx:=hid hbx;have HbV:=hid hbV;have q6:=HPre1.out.row.cell 6 rfl;have hll:=HF.out.vsl;have hvl:s.vs.length+1≤1000000000000:=by omega
      have Hvl:=hid hvl;have Hlf:=hid HF.out.left;clear hV hET v2 hbx hbV hll hvl;by_cases h0:s.vs=[]
      · have hn0:s.vs.length=0:=by rw[h0];rfl
        have Hob:=hid (show vm s.vs i.v=false from by rw[h0];rfl);have Hn0:=hid hn0;obtain⟨gK,cK,w3,hrun,hb3,hR3,hB3,hC3,hu3,hK3⟩:=zif (Hbx.out _ (Below.refl _ _)) hR0 (HbV.out _ (Below.refl _ _)) Hvl.out;rw[hn0] at hrun q6;have Hrun:=hid hrun;clear h0 hn0;have e2:(s.left:Int) - 1=((s.left - 1:Nat):Int):=by have:=Hleft.out;omega
        have e3:IntKind.u64.wrap ((s.left - 1:Nat):Int)=((s.left - 1:Nat):Int):=by have:=Hlf.out;rw[IntKind.wrap_u64];omega
        have p6:=hR3.cell 6 rfl;rw[Hn0.out] at p6;have z6:=hR3.fz 6;have p5:=hR3.cell 5 rfl;have z5:=hR3.fz 5;have b0:=hB3.cell 0 rfl;have b1:=hB3.cell 1 rfl;have y0:=hB3.fz 0;have y1':=hB3.fz 1;have hneRB:=hR3.ne hB3 (by decide);have hneBR:=hneRB.symm;by_cases hl1:s.left=1
        · have Hv:=hid (show zap L s p (.ok i)=.ok { s with tag:=2,vs:=s.vs++[i.v],left:=0,inner:=ps0 } from by
           show (if i.tag=6 then _ else _)=_;rw[if_pos H6.out,if_neg (by rw[Hob.out];decide),if_pos hl1])
          have HFin:=hid ((zdh hR3 hB3 hC3 hu3 hK3 0).mid hR0 hU hC);have HBf:=hid (((((Hb1.out.trans hb3).setCell (p:=⟨R,6,none⟩) hR0 (.slice (some ⟨gK,0,none⟩) (s.vs.length+1) cK)).setCell (p:=⟨B,1,none⟩) hB0 (.int .i64 (-1))).setCell (p:=⟨B,0,none⟩) hB0 (.int .u64 ((0:Nat):Int))).setCell (p:=⟨R,5,none⟩) hR0 (.iface 200 (.agg #[])));rw[Hn0.out] at HFin HBf;rw[hl1] at b0;clear hR3 hB3 hC3 hu3 hK3 hb3 e2 e3 hl1 hrun;go_wp2_with (at_builtin;refine jh _ _ 27 rfl rfl _ _ rfl rfl _ _ Hrun.out ?_);go_ret;exact⟨HBf.out,by rw[Hv.out];exact⟨rfl,HFin.out⟩⟩
        · have Hv:=hid (show zap L s p (.ok i)=.ok { s with vs:=s.vs++[i.v],left:=s.left - 1,inner:=ps0 } from by
           show (if i.tag=6 then _ else _)=_;rw[if_pos H6.out,if_neg (by rw[Hob.out];decide),if_neg hl1])
          have HFin:=hid ((zdh hR3 hB3 hC3 hu3 hK3 (s.left - 1)).more Ht.out hR0 hU hC hB0);have HBf:=hid ((((Hb1.out.trans hb3).setCell (p:=⟨R,6,none⟩) hR0 (.slice (some ⟨gK,0,none⟩) (s.vs.length+1) cK)).setCell (p:=⟨B,1,none⟩) hB0 (.int .i64 (-1))).setCell (p:=⟨B,0,none⟩) hB0 (.int .u64 ((s.left - 1:Nat):Int)));rw[Hn0.out] at HFin HBf;have h1l:(((s.left - 1:Nat):Int) == 0)=false:=by have:=Hleft.out;rw[beq_eq_false_iff_ne];omega
          have h1m:¬s.left - 1=0:=by have:=Hleft.out;omega
          clear hR3 hB3 hC3 hu3 hK3 hb3 hl1 hrun;generalize s.left - 1=left1 at*;go_wp2_with (at_builtin;refine jh _ _ 27 rfl rfl _ _ rfl rfl _ _ Hrun.out ?_);go_ret;exact⟨HBf.out,by rw[Hv.out];exact⟨rfl,HFin.out⟩⟩
      · have hpos:s.vs.length - 1<s.vs.length:=by have:=List.length_pos_iff.2 h0;omega
        obtain⟨gk,kcap,hke,hgk,hgkl,y,cy,-,hyE⟩:=HKV.out.at hpos;obtain⟨ya,yn,yc,rfl,hYT⟩:=hyE;have hka:ka=some ⟨gk,0,none⟩:=by injection hke
        subst hka;have hmem:qq s.vs (s.vs.length - 1)∈s.vs:=by rw[zcx hpos];exact List.getElem_mem hpos
        have HCmp:=hid (zk2 ya va yn yc vn vcap _ _ W1 hYT.ents HET.out.ents (HV.out _ hmem) Hvv.out)
        have Hob:=hid (show vm s.vs i.v=decide (0≤zw (qq s.vs (s.vs.length - 1)) i.v) from by
         unfold vm;rw[List.getLast?_eq_getElem?,List.getElem?_eq_getElem hpos,zcx hpos])
        obtain⟨n,hn⟩:∃n,n=s.vs.length:=⟨_,rfl⟩;have Hn:=hid hn;rw[←hn] at cy q6;have hn1:1≤n∧n≤1000000000000:=by have:=Hvl.out;omega
        have e1:(n:Int) - 1=((n - 1:Nat):Int):=by omega
        clear h0 hke hYT hmem hn;rcases zfp (qq s.vs (s.vs.length - 1)) i.v with hcv | hcv | hcv
        · rw[hcv] at HCmp Hob;have Hob:=hid (show vm s.vs i.v=false from Hob.out);clear hcv;go_wp2_with fail;refine HCmp.out.mono ?_;rintro e W2 ⟨rfl,hb2⟩;obtain⟨gK,cK,w3,hrun,hb3,hR3,hB3,hC3,hu3,hK3⟩:=zif (Hbx.out _ hb2) hR0 (HbV.out _ hb2) Hvl.out;have p6:=(Hbx.out _ hb2).row.cell 6 rfl;rw[←Hn.out] at hrun p6;have Hrun:=hid hrun;have Hb2:=hid (Hb1.out.trans (hb2.mono (Nat.le_trans HPre.out.bp HPre1.out.lw)));clear hb2;have e2:(s.left:Int) - 1=((s.left - 1:Nat):Int):=by have:=Hleft.out;omega
          have e3:IntKind.u64.wrap ((s.left - 1:Nat):Int)=((s.left - 1:Nat):Int):=by have:=Hlf.out;rw[IntKind.wrap_u64];omega
          have p6:=hR3.cell 6 rfl;have z6:=hR3.fz 6;have p5:=hR3.cell 5 rfl;have z5:=hR3.fz 5;have b0:=hB3.cell 0 rfl;have b1:=hB3.cell 1 rfl;have y0:=hB3.fz 0;have y1':=hB3.fz 1;have hneRB:=hR3.ne hB3 (by decide);have hneBR:=hneRB.symm;by_cases hl1:s.left=1
          · have Hv:=hid (show zap L s p (.ok i)=.ok { s with tag:=2,vs:=s.vs++[i.v],left:=0,inner:=ps0 } from by
             show (if i.tag=6 then _ else _)=_;rw[if_pos H6.out,if_neg (by rw[Hob.out];decide),if_pos hl1])
            have HFin:=hid ((zdh hR3 hB3 hC3 hu3 hK3 0).mid hR0 hU hC);have HBf:=hid (((((Hb2.out.trans hb3).setCell (p:=⟨R,6,none⟩) hR0 (.slice (some ⟨gK,0,none⟩) (s.vs.length+1) cK)).setCell (p:=⟨B,1,none⟩) hB0 (.int .i64 (-1))).setCell (p:=⟨B,0,none⟩) hB0 (.int .u64 ((0:Nat):Int))).setCell (p:=⟨R,5,none⟩) hR0 (.iface 200 (.agg #[])));rw[←Hn.out] at HFin HBf;rw[hl1] at b0;clear hR3 hB3 hC3 hu3 hK3 hb3 e2 e3 hl1 hrun;go_wp2_with (at_builtin;refine jh _ _ 27 rfl rfl _ _ rfl rfl _ _ Hrun.out ?_);go_ret;exact⟨HBf.out,by rw[Hv.out];exact⟨rfl,HFin.out⟩⟩
          · have Hv:=hid (show zap L s p (.ok i)=.ok { s with vs:=s.vs++[i.v],left:=s.left - 1,inner:=ps0 } from by
             show (if i.tag=6 then _ else _)=_;rw[if_pos H6.out,if_neg (by rw[Hob.out];decide),if_neg hl1])
            have HFin:=hid ((zdh hR3 hB3 hC3 hu3 hK3 (s.left - 1)).more Ht.out hR0 hU hC hB0);have HBf:=hid ((((Hb2.out.trans hb3).setCell (p:=⟨R,6,none⟩) hR0 (.slice (some ⟨gK,0,none⟩) (s.vs.length+1) cK)).setCell (p:=⟨B,1,none⟩) hB0 (.int .i64 (-1))).setCell (p:=⟨B,0,none⟩) hB0 (.int .u64 ((s.left - 1:Nat):Int)));rw[←Hn.out] at HFin HBf;have h1l:(((s.left - 1:Nat):Int) == 0)=false:=by have:=Hleft.out;rw[beq_eq_false_iff_ne];omega
            have h1m:¬s.left - 1=0:=by have:=Hleft.out;omega
            clear hR3 hB3 hC3 hu3 hK3 hb3 hl1 hrun;generalize s.left - 1=left1 at*;go_wp2_with (at_builtin;refine jh _ _ 27 rfl rfl _ _ rfl rfl _ _ Hrun.out ?_);go_ret;exact⟨HBf.out,by rw[Hv.out];exact⟨rfl,HFin.out⟩⟩
        · rw[hcv] at HCmp Hob
          have Hv:=hid (show zap L s p (.ok i)=.error (3,vv s p) from by
           show (if i.tag=6 then _ else _)=_;rw[if_pos H6.out,if_pos (by rw[Hob.out];decide)])
          have v1:=fun W2 (hb:Below W1.heap.size W1 W2)=>(Hbx.out W2 hb).vrow.cell 1 rfl
          have HV1:=hid v1;clear hcv v1;go_wp2_with fail;refine HCmp.out.mono ?_;rintro e W2 ⟨rfl,hb2⟩;have v1:=HV1.out W2 hb2;have HR2:=hid (Hbx.out _ hb2).row;have Hb2:=hid (Hb1.out.trans (hb2.mono (Nat.le_trans HPre.out.bp HPre1.out.lw)));clear hb2;go_wp2_with fail;refine(za9 (c:=3) (o:=vv s p) (by decide) _).mono ?_;rintro e w' ⟨rfl,rfl⟩;go_wp2_with fail;go_ret;exact⟨Hb2.out,by rw[Hv.out];exact⟨rfl,_,HR2.out,rfl⟩⟩
        · rw[hcv] at HCmp Hob
          have Hv:=hid (show zap L s p (.ok i)=.error (3,vv s p) from by
           show (if i.tag=6 then _ else _)=_;rw[if_pos H6.out,if_pos (by rw[Hob.out];decide)])
          have v1:=fun W2 (hb:Below W1.heap.size W1 W2)=>(Hbx.out W2 hb).vrow.cell 1 rfl
          have HV1:=hid v1;clear hcv v1;go_wp2_with fail;refine HCmp.out.mono ?_;rintro e W2 ⟨rfl,hb2⟩;have v1:=HV1.out W2 hb2;have HR2:=hid (Hbx.out _ hb2).row;have Hb2:=hid (Hb1.out.trans (hb2.mono (Nat.le_trans HPre.out.bp HPre1.out.lw)));clear hb2;go_wp2_with fail;refine(za9 (c:=3) (o:=vv s p) (by decide) _).mono ?_;rintro e w' ⟨rfl,rfl⟩;go_wp2_with fail;go_ret;exact⟨Hb2.out,by rw[Hv.out];exact⟨rfl,_,HR2.out,rfl⟩⟩
    · have Hv:=hid (show zap L s p (.ok i)=.ok { s with frm:=vv s p,inner:=i } from if_neg h6);refine HPut.out.mono ?_;rintro e W1 ⟨hb1,rfl,hP1⟩;have HF:=hid (HPre.out.cont Ht.out hb1 k3 hP1);have Hb1:=hid (Hb0W.out.trans (hb1.mono HPre.out.bp));have hd:decide (i.tag=6)=false:=decide_eq_false h6;clear hb1 hP1 h6 k1 k2 k3 hfi;go_wp2_with fail;go_ret;exact⟨Hb1.out,by rw[Hv.out];exact⟨rfl,HF.out⟩⟩
end
section
open Go.RowKit
theorem OwnV.add {w:World} {base base':Nat} {V S:Value} {v:Vec} {r m:Nat} {h:List Iv} (hV:OwnV w base V v) (hS:w.ownsRow base' 89 2 S h.length (ivC h)) (hl:zk h) (A:Option Addr) (c:Nat) (hr:Rd w 3 A 1 [.int .u64 (r:Nat),.int .u64 (m:Nat),S]) (hb:v.length+1≤1000000000000) (hbase:base≤w.heap.size):
 ∃V' w',(Builtin.append_ #[95,95] 95 #[V,.slice A 1 c]).run Tryz.prog w=.ok V' w'∧OwnV w' base V' (v++[(r,m,h)])∧w.grownBy w' V.ownBlock∧(∀k,V.ownBlock=some k→base≤k):=by
 obtain⟨ss,ho,hh⟩:=hV;obtain⟨a,cs,rfl,hI⟩:=zda (base':=0) hS hl;obtain⟨V',w',h1,h2,h3⟩:=zbi base _ _ _ _ 3 40 Tryz.underlying95 Tryz.info_ent rfl (by omega) V v.length _ ho A 1 c _ hr (by simp[Value.oneCell']) (by unfold maxLen;omega) (by omega) hbase;have hs:Steady base zat w w':=.grown ho h3 (show ¬(93:TypeId)=89 by decide);refine⟨V',w',h1,⟨ss++[.slice a h.length cs],?_,(hh.snoc (e:=(r,m,h)) hI).steady (hs.lower (Nat.zero_le _)) rfl⟩,h3,fun k hk=>(ho.lt k hk).1⟩;rw[zhe hh.1,List.length_append];exact h2
