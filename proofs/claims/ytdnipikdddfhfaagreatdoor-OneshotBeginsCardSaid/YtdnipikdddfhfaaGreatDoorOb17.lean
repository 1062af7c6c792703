/- Part 17. -/
import Derived.Test.YtdnipikdddfhfaaGreatDoorOb16
set_option linter.unusedVariables false
set_option maxHeartbeats 16000000
namespace Go.Proofs.YtdnipikdddfhfaaGreatDoor
open Lib (hid)
section
def itL (L:List Seg) (i:Nat):List Iv:=(L.filter fun p=>decide (p.2=i)).map (·.1)
def ja (vs:List Vec) (L:List Seg):Kno:=zt vs (zp L) (zw L)
theorem zab (vs:List Vec) (L:List Seg):(ja vs L).length=vs.length:=ziv _ _ _ _
theorem zbe {vs:List Vec} {L:List Seg} {i:Nat} (h:i<vs.length):zc (ja vs L) i=(itL L i,yt vs i):=by
 have:=zp4 (vs:=vs) (l:=zp L) (ix:=(zw L).map fun (n:Nat)=>(n:Int)) (d:=(zp L).length) h;rw[zkl L i _ (by rw[qz];exact Nat.le_refl _),qz,List.take_length] at this;unfold ja zt zd3;rw[qz];exact this
theorem zeh {L:List Seg} {i:Nat} {s:Iv} (h:s∈itL L i):(s,i)∈L:=by
 obtain⟨p,hp,rfl⟩:=List.mem_map.1 h;obtain⟨h1,h2⟩:=List.mem_filter.1 hp;have e:p.2=i:=of_decide_eq_true h2;subst e;exact h1
theorem zs4 {L:List Seg} (h:L.Pairwise zf9):∀p∈L,∀q∈L,p=q∨p.1.2<q.1.1∨q.1.2<p.1.1:=by
 intro p hp q hq;obtain⟨i,hi,rfl⟩:=List.getElem_of_mem hp;obtain⟨j,hj,rfl⟩:=List.getElem_of_mem hq;rcases Nat.lt_trichotomy i j with h1 | h1 | h1
 · exact .inr (.inl (List.pairwise_iff_getElem.1 h i j hi hj h1).1)
 · subst h1;exact .inl rfl
 · exact .inr (.inr (List.pairwise_iff_getElem.1 h j i hj hi h1).1)
theorem zkw {le lh:Int} {vs:List Vec} {L:List Seg} (hv:VsInv le lh vs) (hs:SInv vs.length (zp L) (zw L)) (hne:∀f∈ja vs L,f.1≠[]):CanK (ja vs L)∧LtK (ja vs L):=by
 obtain⟨h1,h2⟩:=zkm hs
 have hmem:∀f∈ja vs L,∃i,i<vs.length∧f=(itL L i,yt vs i):=fun f hf=>by
  obtain⟨i,hi,rfl⟩:=List.getElem_of_mem hf;have hi':=hi;rw[zab] at hi';exact⟨i,hi',by rw[←z7 hi,zbe hi']⟩
 have hgood:∀i,Good (itL L i):=fun i=>zkn (List.pairwise_map.2 ((h1.filter _).imp_of_mem fun {p q} hp hq hpq=>by
  have e1:p.2=i:=of_decide_eq_true (List.mem_filter.1 hp).2;have e2:q.2=i:=of_decide_eq_true (List.mem_filter.1 hq).2;exact hpq.2 (by rw[e1,e2]))) fun s hs=>(h2 _ (zeh hs)).1
 refine⟨⟨fun f hf=>?_,fun f hf=>?_,fun f hf g hg x hx hy=>?_,?_⟩,fun f hf=>?_⟩
 · obtain⟨i,hi,rfl⟩:=hmem f hf;exact⟨hgood i,hne _ hf⟩
 · obtain⟨i,hi,rfl⟩:=hmem f hf;have:=hv.all _ (zfn hi);exact⟨this.1,this.2.2.1⟩
 · obtain⟨i,hi,rfl⟩:=hmem f hf;obtain⟨j,hj,rfl⟩:=hmem g hg;obtain⟨s,hs1,hs2,hs3⟩:=mem_iff.1 hx;obtain⟨t,ht1,ht2,ht3⟩:=mem_iff.1 hy;rcases zs4 h1 _ (zeh hs1) _ (zeh ht1) with e | e | e
   · have e':i=j:=congrArg Prod.snd e;subst e'
     rfl
   · simp only at e;omega
   · simp only at e;omega
 · refine List.pairwise_iff_getElem.2 fun i j hi hj hij=>?_
   have hi':=hi;have hj':=hj;rw[zab] at hi' hj';have h3:=List.pairwise_iff_getElem.1 hv.asc i j hi' hj' hij;unfold zcj;rw[←z7 hi,←z7 hj,zbe hi',zbe hj',zaf hi',zaf hj'];exact h3
 · obtain⟨i,hi,rfl⟩:=hmem f hf;have:=hv.all _ (zfn hi);exact⟨fun s hs'=>hs.lt s (List.mem_map.2 ⟨_,zeh hs',rfl⟩),this.2.1,this.1.asc⟩
theorem zs5 {n:Nat}:∀{L:List Seg},(∀p∈L,p.2<n)→L.Perm ((List.range n).flatMap fun i=>L.filter fun p=>decide (p.2=i)):=by
 induction n with
 | zero=>
  intro L h
  cases L with
  | nil=>simp
  | cons p L=>exact absurd (h p List.mem_cons_self) (by omega)
 | succ n ih=>
  intro L h;rw[List.range_succ,List.flatMap_append];have e:((L.filter fun p=>decide (p.2=n))++(L.filter fun p=> !decide (p.2=n))).Perm L:=List.filter_append_perm _ _;refine e.symm.trans (List.perm_append_comm.trans ?_)
  have h1:=ih (L:=L.filter fun p=> !decide (p.2=n)) (fun p hp=>by
   obtain⟨a,b⟩:=List.mem_filter.1 hp;have:=h p a;have b':p.2≠n:=by simpa using b
   omega)
  have e2:((List.range n).flatMap fun i=>(L.filter fun p=> !decide (p.2=n)).filter fun p=>decide (p.2=i))=(List.range n).flatMap fun i=>L.filter fun p=>decide (p.2=i):=by
   rw[List.flatMap_def,List.flatMap_def];refine congrArg List.flatten (List.map_congr_left fun i hi=>?_);rw[List.filter_filter];refine List.filter_congr fun p _=>?_
   have:=List.mem_range.1 hi;by_cases hp:p.2=i
   · have:p.2≠n:=by omega
     simp[hp];omega
   · simp[hp]
  rw[e2] at h1;refine h1.append ?_;simp
theorem zkx (c:Kno):∀d,d≤c.length→ju c d=c.length :: ((vsK c).take d).flatMap km
 | 0,_=>by simp[ju]
 | d+1,h=>by
   rw[ju,zkx c d (by omega),List.take_succ_eq_append_getElem (by rw[zat];exact h),zee h,List.flatMap_append];simp
theorem zs6 (vs:List Vec) (L:List Seg):vsK (ja vs L)=vs:=by
 refine List.ext_getElem (by rw[zat,zab]) fun i h1 h2=>?_
 rw[zee (by rw[zab];exact h2),zbe h2,zaf h2]
theorem zs7 {le lh:Int} {vs:List Vec} {L:List Seg} (hv:VsInv le lh vs) (hs:SInv vs.length (zp L) (zw L)) (hne:∀f∈ja vs L,f.1≠[]):(zd (ja vs L)).map (·.1)=zp L∧(zd (ja vs L)).map (·.2)=zw L:=by
 obtain⟨hc,hl⟩:=zkw hv hs hne;obtain⟨h1,h2⟩:=zkm hs
 have hp:(zp L).Perm (kj (ja vs L)):=by
  have e:=(zs5 (n:=vs.length) (L:=L) fun p hp=>(h2 p hp).2).map (·.1);refine e.trans ?_;rw[List.map_flatMap]
  have:kj (ja vs L)=(List.range vs.length).flatMap fun i=>(L.filter fun p=>decide (p.2=i)).map (·.1):=by
   unfold kj
   have:ja vs L=(List.range vs.length).map fun i=>(itL L i,yt vs i):=List.ext_getElem (by rw[zab];simp) fun i a b=>by
    rw[zab] at a;rw[←z7,zbe a,List.getElem_map,List.getElem_range]
   rw[this,List.flatMap_map]
   rfl
  rw[this]
 have ha:ze2 (zp L):=fun i j hij hj=>by
  rw[qz] at hj;have h3:=(List.pairwise_iff_getElem.1 h1 i j (by omega) hj hij).1;have h4:=(h2 _ (List.getElem_mem (show i<L.length by omega))).1;rw[yr (by rw[qz];omega),yr (by rw[qz];exact hj)];simp only[zp,List.getElem_map];omega
 obtain⟨e1,e2⟩:=zpi hc hp ha;refine⟨e1.symm,?_⟩;rw[←e2];unfold zp zw;rw[List.map_map];refine List.map_congr_left fun p hp=>?_
 have hi:=(h2 p hp).2
 have:=zik hc (i:=p.2) (s:=p.1) (by rw[zab];exact hi) (by
  rw[zbe hi];exact List.mem_map.2 ⟨p,List.mem_filter.2 ⟨hp,decide_eq_true rfl⟩,rfl⟩)
 exact this
theorem zky {T:zg} (hT:T64 T) {E p q:Nat} {L:za} {c:Kno} (h:yl T E L p=.ok (c,q)):CanK c∧LtK c∧okK L c∧zy T p (qi c) q∧E≤q:=by
 unfold yl at h;obtain⟨n,r,h1,h2⟩:=y7 h;obtain⟨t1,c1⟩:=zc0 h1;obtain⟨vs,r2,h3,h4⟩:=y7 h2;obtain⟨a1,a2,a3⟩:=zkh hT n [] h3 ⟨fun v hv=>(by cases hv),List.Pairwise.nil⟩ (P0:=r) rfl;have hn:vs.length=n:=by simpa using a3
 unfold vz at h4;obtain⟨m,r3,h5,h6⟩:=y7 h4;obtain⟨t2,c2⟩:=zc0 h5;obtain⟨⟨l,ix⟩,r4,h7,h8⟩:=y7 h6;obtain⟨b1,b2,b3⟩:=zkk hT m [] [] h7 ⟨fun i hi=>(by simp at hi),fun t ht=>(by cases ht),rfl,fun i hi=>(by simp at hi),fun i _ hi=>(by simp at hi)⟩ (P0:=r3) rfl;have hm:l.length=m:=by simpa using b3
 simp only at h8;obtain⟨S,e1,e2⟩:∃S:List Seg,zp S=l∧zw S=ix:=⟨l.zip ix,List.map_fst_zip (by rw[b2.len];exact Nat.le_refl _),List.map_snd_zip (by rw[b2.len];exact Nat.le_refl _)⟩;subst e1 e2;unfold jv at h8;split at h8
 · cases h8
 · rename_i h9;split at h8
   · cases h8
   · rename_i h10;cases h8;have hne:∀f∈ja vs S,f.1≠[]:=fun f hf e=>h9 ⟨f,hf,e⟩
     obtain⟨g1,g2⟩:=zkw a2 b2 hne;obtain⟨g3,g4⟩:=zs7 a2 b2 hne;have hsl:(zd (ja vs S)).length=(zp S).length:=by rw[←g3,List.length_map]
     refine⟨g1,g2,⟨?_,fun i hi=>?_,?_⟩,?_,by omega⟩
     · show okC (ja vs S).length _;rw[zab,hn];exact c1
     · have hi':i<vs.length:=by rw[←zab vs S];exact hi
       show okV _ _ (zc (ja vs S) i).2;rw[zbe hi'];exact(a2.all _ (zfn hi')).2.2.2
     · show okC (zd (ja vs S)).length _;rw[hsl,hm];exact c2
     · show zy T p (qi (ja vs S)) _;unfold qi;rw[g3,g4,hsl,zkx _ _ (Nat.le_refl _),List.take_of_length_le (by rw[zat];exact Nat.le_refl _),zs6,zab,zki];refine qv.2 ⟨r2,⟨r,by rw[hn];exact t1,a1⟩,⟨r3,by rw[hm];exact t2,b1⟩⟩
end
section
open Go.RowKit
attribute [local go_sem] qj
theorem PkB.other {w w':World} {base g:Nat} {s:PS} {V cu:Value} {T:TypeId} {C:List Value} (h:PkB w base s V cu) (hR:Row w g T C) (hN:¬qh T) (hT:T≠193) (hg:w.grownBy w' (some g)):PkB w' base s V cu:=by
 have hN:=hR.notT hN;unfold PkB at h ⊢;split at h
 · exact h
 · exact h.grown hN hg
 · exact h.grown hN hg
 · exact h.grown hN hg
 · exact⟨h.1.grown hN hg,h.2.grown hR hT hg⟩
 · exact⟨h.1.grown hN hg,h.2.grown hR hT hg⟩
 · exact h.grown hN hg
theorem PkR.other {w w':World} {base g g':Nat} {L:za} {nx:Value} {s:PS} {T:TypeId} {C:List Value} (h:PkR w base g L nx s) (hR:Row w g' T C) (hN:¬qh T) (hT:T≠193) (hT2:T≠282) (hg:w.grownBy w' (some g')):PkR w' base g L nx s:=by
 obtain⟨h1,V,cu,h2,h3⟩:=h;exact⟨h1,V,cu,h2.grown hg fun e=>by injection e with e;exact hR.ne h2 hT2 e.symm,h3.other hR hN hT hg⟩
theorem zgb {le lh:Int} {s:PS} {x rest c:Nat} (h:zm le lh s x rest=.error c):c≠0:=by
 unfold zm at h;split at h
 · split at h
   · cases h;assumption
   · split at h
     · cases h;decide
     · cases h
 · split at h
   · cases h;decide
   · cases h
 · cases h
 · split at h
   · cases h;assumption
   · cases h
 · split at h
   · cases h;decide
   · cases h
 · split at h
   · cases h
   · cases h;decide
structure VPre (W:World) (base R:Nat) (L:za) (s:WS) (K:Value) (U C B pb P fr:Nat) (i:PS):Prop where
 row:Row W R 130 (wkC L (.iface 196 (.pointer (some ⟨B,0,none⟩))) K U C .nilIface)
 vrow:Row W B 199 (vcC s.left (fr:Int) (.pointer (some ⟨P,0,none⟩)))
 cur:Row W C 193 (ym C 0 0 none false)
 used:UsedM W U s.ix
 kv:∃wb,KV wb base K s.vs∧Steady 0 qh wb W∧wb.heap.size≤pb
 bR:base≤R
 bU:base≤U
 bC:base≤C
 bB:base≤B
 bp:base≤pb
 lR:R<pb
 lU:U<pb
 lC:C<pb
 lB:B<pb
 lw:pb≤W.heap.size
theorem VPre.later {W W1:World} {base R:Nat} {L:za} {s:WS} {K:Value} {U C B pb P fr:Nat} {i:PS} (h:VPre W base R L s K U C B pb P fr i) (hb:Below pb W W1):VPre W1 base R L s K U C B pb P fr i:=by
 obtain⟨h1,h2,h3,h4,⟨wb,k1,k2,k3⟩,b1,b2,b3,b4,b5,l1,l2,l3,l4,l5⟩:=h;refine⟨h1.below hb l1,h2.below hb l4,h3.below hb l3,h4.same (hb.block U l2),⟨wb,k1,⟨Nat.le_trans k2.size hb.size,fun k hk hp=>(hb.block k (by omega)).trans (k2.row k hk hp)⟩,k3⟩,b1,b2,b3,b4,b5,l1,l2,l3,l4,Nat.le_trans l5 hb.size⟩
def zkz (B:Nat):Value:=.iface 196 (.pointer (some ⟨B,0,none⟩))
def jw (L:za) (s:WS) (p:Nat) (r:Except Nat PS):Except (Nat×Nat) WS:=
 match r with
 | .error c=>.error (c,p)
 | .ok i=>if i.tag=6 then
    if qt s.vs i.v=true then .error (3,qd s p) else if s.left=1 then .ok { s with tag:=2,vs:=s.vs++[i.v],left:=0,inner:=ps0 } else .ok { s with vs:=s.vs++[i.v],left:=s.left - 1,inner:=ps0 }
   else .ok { s with frm:=qd s p,inner:=i }
theorem zs8 {E:Nat} {L:za} {s:WS} {x p q:Nat} (ht:s.tag=1):zr E L s x p q=jw L s p (zm L.2.2.1 L.2.2.2.1 s.inner x (E - q)):=by
 obtain⟨tag,vs,l,ix,left,frm,inner,turn,lo,hi,tch⟩:=s;simp only at ht;subst ht
 rfl
theorem Door.keep {w w':World} {n:Nat} (hD:Door w) (hn:0<n) (hb:Below n w w'):Door w':=(hb.cell (p:=⟨0,0,none⟩) hn).trans hD
theorem VPre.cont {W W1:World} {base R:Nat} {L:za} {s:WS} {K:Value} {U C B pb P fr:Nat} {i j:PS} (ht:s.tag=1) (h:VPre W base R L s K U C B pb P fr i) (hb:Below pb W W1) (hj:1≤j.tag) (hP:PkR W1 pb P L (pkF P j.tag) j):WkR W1 base R L { s with frm:=fr,inner:=j }:=by
 obtain⟨h1,h2,h3,h4,⟨wb,k1,k2,k3⟩,b1,b2,b3,b4,b5,l1,l2,l3,l4,l5⟩:=h.later hb;refine⟨b1,_,K,U,C,b2,b3,h1,h4,?_⟩;unfold WkB;simp only[ht];exact⟨B,rfl,b4,h3,.inr ⟨hj,P,pb,wb,h2,k1,k2,k3,b5,l1,l2,l3,l4,hP⟩⟩
set_option maxRecDepth 100000 in
theorem zs9 (base R:Nat) (L:za) (s:WS) (K:Value) (U C B rest x p:Nat) (w0 w:World) (ht:s.tag=1) (hR0:base≤R) (hU:base≤U) (hC:base≤C) (hB0:base≤B) (hb0:Below base w0 w)
 (hR:Row w R 130 (wkC L (zkz B) K U C .nilIface)) (hu:UsedM w U s.ix) (hc:Row w C 193 (ym C 0 0 none false)) (hV:VecAt w base R L K U C B s) (hD:Door w) (hDb:0<base)
 (hL:LimsI L) (hx:x<18446744073709551616) (hr:rest<9223372036854775808) (hp:p≤900000000000) (hF:WFit s p) (hI:WInv s)
 (hvf:∀v∈s.vs,(zj v).length≤1000000000000) (hif:∀i,zm L.2.2.1 L.2.2.2.1 s.inner x rest=.ok i→i.tag=6→(zj i.v).length≤1000000000000) (rr:Except Nat PS) (hrr:zm L.2.2.1 L.2.2.2.1 s.inner x rest=rr):
 Calls Tryz.prog 111 #[.pointer (some ⟨R,0,none⟩),.pointer (some ⟨B,0,none⟩),.int .u64 (x:Int),.int .i64 (p:Int),.int .i64 (rest:Int)] w (WkS w0 base R L (jw L s p rr)):=by
 obtain⟨i1,i2⟩:=hI.inner ht;have hinn:PFit s.inner 900000000000:=hF.inner.mono (by omega);unfold zkz at hR;have Hrr:=hid hrr;have HV:=hid hvf;have HI:=hid hif;have Hi:=hid hinn;have HL:=hid hL;have Hx:=hid hx;have Hr:=hid hr;have Hi1:=hid i1;have Hi2:=hid i2;have Ht:=hid ht;have HF:=hid hF;have Hleft:=hid (hI.left (.inl ht));clear hrr hvf hif hinn hL hx hr i1 i2 ht hF hI;rcases hV with ⟨h0,⟨ip,hB⟩,hK⟩ | ⟨h1,P,pb,wb,hB,hK,hS,hwb,hbp,lR,lU,lC,lB,hP⟩
 · have H0:=hid h0;have q0:=hR.cell 0 rfl;have q1:=hR.cell 1 rfl;have q2:=hR.cell 2 rfl;have q3:=hR.cell 3 rfl;have q4:=hR.cell 4 rfl;have v1:=hB.cell 1 rfl;have HBg:=zr4 L w;unfold lmV at HBg;have HB:=hid HBg;have Hfr:=hid (show qd s p=p from by unfold qd;rw[h0];rfl);have HR:=hid hR;have HVr:=hid hB;have Hu:=hid hu;have Hc:=hid hc;have HK:=hid hK;have HDr:=hid hD;have Hb0:=hid hb0;clear HBg h0 hR hB hu hc hK hD hb0;go_enter Tryz.func111,Tryz.ntmps111;go_wp2_with fail;refine HB.out.mono ?_;rintro e w1 ⟨rfl,hP1,hb1⟩;have hV1:=HVr.out.later hb1;have v1:=hV1.cell 1 rfl;have v2:=hV1.cell 2 rfl;have y1:=hV1.fz 1;have y2:=hV1.fz 2;have hV2:Row ((w1.setCell ⟨B,1,none⟩ (.int .i64 (p:Int))).setCell ⟨B,2,none⟩ (.pointer (some ⟨w.heap.size+1,0,none⟩))) B 199 (vcC s.left (p:Int) (.pointer (some ⟨w.heap.size+1,0,none⟩))):=(hV1.set 1 _).set 2 _;have hg2:w1.grownBy ((w1.setCell ⟨B,1,none⟩ (.int .i64 (p:Int))).setCell ⟨B,2,none⟩ (.pointer (some ⟨w.heap.size+1,0,none⟩))) (some B):=jd (a:=⟨B,2,none⟩) (jd (a:=⟨B,1,none⟩) (za7 w1 _) _ (.inr rfl)) _ (.inr rfl);have hne:B≠w.heap.size+1:=by have:=HVr.out.lt;omega
   have hnT:∀{C'},Row w1 B 199 C'→NotT w1 B:=fun h=>h.notT (by rintro(h | h | h) <;> cases h)
   have HP2:=hid (hP1.other hV1 (by rintro(h | h | h) <;> cases h) (by decide) (by decide) hg2)
   have HPre:=hid (show VPre ((w1.setCell ⟨B,1,none⟩ (.int .i64 (p:Int))).setCell ⟨B,2,none⟩ (.pointer (some ⟨w.heap.size+1,0,none⟩))) base R L s K U C B w.heap.size (w.heap.size+1) (qd s p) s.inner from
    ⟨(HR.out.later hb1).grown hg2 (fun e=>by injection e with e;exact HR.out.ne HVr.out (by decide) e),by rw[Hfr.out];exact hV2,(Hc.out.later hb1).grown hg2 (fun e=>by injection e with e;exact Hc.out.ne HVr.out (by decide) e),
      (Hu.out.same (hb1.block U Hu.out.lt)).same (hg2.block U (Nat.lt_of_lt_of_le Hu.out.lt hb1.size) (fun e=>by injection e with e;exact Hu.out.ne (show w.heap[B]?=_ from HVr.out) e)),
      ⟨w,HK.out,(Steady.of_below hb1).trans (zbu (hnT hV1) (Nat.zero_le _) hg2),Nat.le_refl _⟩,hR0,hU,hC,hB0,by have:=HR.out.lt;omega,HR.out.lt,Hu.out.lt,Hc.out.lt,HVr.out.lt,Nat.le_trans hb1.size hg2.size⟩)
   have Hb0W:=hid (Hb0.out.trans (((hb1.mono (show base≤w.heap.size by have:=HR.out.lt;omega)).setCell (p:=⟨B,1,none⟩) hB0 (.int .i64 (p:Int))).setCell (p:=⟨B,2,none⟩) hB0 (.pointer (some ⟨w.heap.size+1,0,none⟩))));have HDW:=hid (HDr.out.keep hDb (((hb1.mono (show base≤w.heap.size by have:=HR.out.lt;omega)).setCell (p:=⟨B,1,none⟩) hB0 (.int .i64 (p:Int))).setCell (p:=⟨B,2,none⟩) hB0 (.pointer (some ⟨w.heap.size+1,0,none⟩))));have HP2:=hid (show PkR ((w1.setCell ⟨B,1,none⟩ (.int .i64 (p:Int))).setCell ⟨B,2,none⟩ (.pointer (some ⟨w.heap.size+1,0,none⟩))) w.heap.size (w.heap.size+1) L (pkF (w.heap.size+1) s.inner.tag) s.inner from by rw[H0.out];exact HP2.out);have hvp:=HPre.out.vrow.cell 2 rfl;clear hV1 hP1 hb1 hV2 hg2 hne hnT HR HVr Hu Hc HK HDr Hb0 q0 q1 q2 q3 q4;go_wp2_with fail;generalize ((w1.setCell ⟨B,1,none⟩ (.int .i64 (p:Int))).setCell ⟨B,2,none⟩ (.pointer (some ⟨w.heap.size+1,0,none⟩)))=W at*;generalize w.heap.size=pb at*;generalize pb+1=P at*;have HPut:=hid (zku pb P L s.inner x rest W HP2.out Hi1.out HL.out Hx.out Hr.out Hi.out Hi2.out);rw[Hrr.out] at HPut;clear hvp v1
   cases rr with
   | error c=>
    have hc0:=zgb Hrr.out;refine HPut.out.mono ?_;rintro e W1 ⟨hb1,rfl⟩;have HPre1:=hid (HPre.out.later hb1);have hb1':=hb1.mono HPre.out.bp;have hCo:=kx (some ((c:Int),none)) W1 (HDW.out.keep hDb hb1');simp only[zh,kh] at hCo;have HCo:=hid hCo;have Hb1:=hid hb1';clear hCo hb1 hb1';go_wp2_with fail;refine HCo.out.mono ?_;rintro e W2 ⟨rfl,hb2⟩;have HR2:=hid (HPre1.out.row.later hb2);have Hb2:=hid ((Hb0W.out.trans Hb1.out).trans (hb2.mono (Nat.le_trans HPre.out.bp HPre1.out.lw)));clear hb2;go_wp2_with fail;refine(vd (c:=c) (o:=p) hc0 _).mono ?_;rintro e w' ⟨rfl,rfl⟩;go_wp2_with fail;go_ret
    exact⟨Hb2.out,rfl,_,HR2.out,rfl⟩
   | ok i=>
    obtain⟨k1,k2,k3⟩:=zct Hi1.out Hi2.out Hrr.out;have hfi:=zf1 Hi.out Hi1.out Hx.out Hrr.out;have Hfi:=hid hfi;by_cases h6:i.tag=6
    · have hvv:=HI.out i Hrr.out h6;have hlv:LtV i.v:=hfi.v;refine HPut.out.mono ?_;rintro e W1 ⟨hb1,rfl,hP1⟩;have hPre1:=HPre.out.later hb1;obtain⟨wb,kk1,kk2,kk3⟩:=hPre1.kv;have hKV:=kk1.steady kk2;have hd:decide (i.tag=6)=true:=decide_eq_true h6;have HVc:=hid (zkv pb P L i W1 hP1 h6);have v2:=hPre1.vrow.cell 2 rfl;have HPre1:=hid hPre1;have HKV:=hid hKV;have Hlv:=hid hlv;have Hvv:=hid hvv;have Hb1:=hid (Hb0W.out.trans (hb1.mono HPre.out.bp));have HD1:=hid (HDW.out.keep hDb (hb1.mono HPre.out.bp));have H6:=hid h6;clear hPre1 hKV kk1 kk2 kk3 hb1 hP1 hlv hvv k1 k2 k3 hfi h6;go_wp2_with fail;refine HVc.out.mono ?_;rintro e w' ⟨⟨V,rfl,hV⟩,rfl⟩;have hES:=hV.enSl Hlv.out;obtain⟨va,vn,vcap,rfl,hET⟩:=hES;have HET:=hid hET;obtain⟨ka,kc,hKe⟩:=HKV.out.len;subst hKe
      have hbx:∀W2,Below W1.heap.size W1 W2→VRows W2 base R L (.iface 196 (.pointer (some ⟨B,0,none⟩))) (.slice ka s.vs.length kc) U C B s.left (qd s p:Int) (.pointer (some ⟨P,0,none⟩)) s.ix s.vs:=fun _ hb=>
       ⟨HPre1.out.row.later hb,HPre1.out.vrow.later hb,HPre1.out.cur.later hb,HPre1.out.used.same (hb.block U HPre1.out.used.lt),HKV.out.later hb⟩
      have hbV:∀W2,Below W1.heap.size W1 W2→EnSl W2 0 (.slice va vn vcap) i.v:=fun _ hb=>(show EnSl W1 0 (.slice va vn vcap) i.v from⟨va,vn,vcap,rfl,HET.out⟩).steady (P:=fun _=>True) (.of_below hb) trivial trivial
      have Hbx:=hid hbx;have HbV:=hid hbV;have q6:=HPre1.out.row.cell 6 rfl;have hll:=HF.out.vsl;have hvl:s.vs.length+1≤1000000000000:=by omega
      have Hvl:=hid hvl;have Hlf:=hid HF.out.left;clear hV hET v2 hbx hbV hll hvl;by_cases h0:s.vs=[]
      · have hn0:s.vs.length=0:=by rw[h0];rfl
        have Hob:=hid (show qt s.vs i.v=false from by rw[h0];rfl);have Hn0:=hid hn0;obtain⟨gK,cK,w3,hrun,hb3,hR3,hB3,hC3,hu3,hK3⟩:=zef (Hbx.out _ (Below.refl _ _)) hR0 (HbV.out _ (Below.refl _ _)) Hvl.out;rw[hn0] at hrun q6;have Hrun:=hid hrun;clear h0 hn0;have e2:(s.left:Int) - 1=((s.left - 1:Nat):Int):=by have:=Hleft.out;omega
        have e3:IntKind.u64.wrap ((s.left - 1:Nat):Int)=((s.left - 1:Nat):Int):=by have:=Hlf.out;rw[IntKind.wrap_u64];omega
        have p6:=hR3.cell 6 rfl;rw[Hn0.out] at p6;have z6:=hR3.fz 6;have p5:=hR3.cell 5 rfl;have z5:=hR3.fz 5;have b0:=hB3.cell 0 rfl;have b1:=hB3.cell 1 rfl;have y0:=hB3.fz 0;have y1':=hB3.fz 1;have hneRB:=hR3.ne hB3 (by decide);have hneBR:=hneRB.symm;by_cases hl1:s.left=1
        · have Hv:=hid (show jw L s p (.ok i)=.ok { s with tag:=2,vs:=s.vs++[i.v],left:=0,inner:=ps0 } from by
           show (if i.tag=6 then _ else _)=_;rw[if_pos H6.out,if_neg (by rw[Hob.out];decide),if_pos hl1])
          have HFin:=hid ((zav hR3 hB3 hC3 hu3 hK3 0).mid hR0 hU hC);have HBf:=hid (((((Hb1.out.trans hb3).setCell (p:=⟨R,6,none⟩) hR0 (.slice (some ⟨gK,0,none⟩) (s.vs.length+1) cK)).setCell (p:=⟨B,1,none⟩) hB0 (.int .i64 (-1))).setCell (p:=⟨B,0,none⟩) hB0 (.int .u64 ((0:Nat):Int))).setCell (p:=⟨R,5,none⟩) hR0 (.iface 200 (.agg #[])));rw[Hn0.out] at HFin HBf;rw[hl1] at b0;clear hR3 hB3 hC3 hu3 hK3 hb3 e2 e3 hl1 hrun;go_wp2_with (at_builtin;refine qf _ _ 27 rfl rfl _ _ rfl rfl _ _ Hrun.out ?_);go_ret;exact⟨HBf.out,by rw[Hv.out];exact⟨rfl,HFin.out⟩⟩
        · have Hv:=hid (show jw L s p (.ok i)=.ok { s with vs:=s.vs++[i.v],left:=s.left - 1,inner:=ps0 } from by
           show (if i.tag=6 then _ else _)=_;rw[if_pos H6.out,if_neg (by rw[Hob.out];decide),if_neg hl1])
          have HFin:=hid ((zav hR3 hB3 hC3 hu3 hK3 (s.left - 1)).more Ht.out hR0 hU hC hB0);have HBf:=hid ((((Hb1.out.trans hb3).setCell (p:=⟨R,6,none⟩) hR0 (.slice (some ⟨gK,0,none⟩) (s.vs.length+1) cK)).setCell (p:=⟨B,1,none⟩) hB0 (.int .i64 (-1))).setCell (p:=⟨B,0,none⟩) hB0 (.int .u64 ((s.left - 1:Nat):Int)));rw[Hn0.out] at HFin HBf;have h1l:(((s.left - 1:Nat):Int) == 0)=false:=by have:=Hleft.out;rw[beq_eq_false_iff_ne];omega
          have h1m:¬s.left - 1=0:=by have:=Hleft.out;omega
          clear hR3 hB3 hC3 hu3 hK3 hb3 hl1 hrun;generalize s.left - 1=left1 at*;go_wp2_with (at_builtin;refine qf _ _ 27 rfl rfl _ _ rfl rfl _ _ Hrun.out ?_);go_ret;exact⟨HBf.out,by rw[Hv.out];exact⟨rfl,HFin.out⟩⟩
      · have hpos:s.vs.length - 1<s.vs.length:=by have:=List.length_pos_iff.2 h0;omega
        obtain⟨gk,kcap,hke,hgk,hgkl,y,cy,-,hyE⟩:=HKV.out.at hpos;obtain⟨ya,yn,yc,rfl,hYT⟩:=hyE;have hka:ka=some ⟨gk,0,none⟩:=by injection hke
        subst hka;have hmem:yt s.vs (s.vs.length - 1)∈s.vs:=by rw[zaf hpos];exact List.getElem_mem hpos
        have HCmp:=hid (ziz ya va yn yc vn vcap _ _ W1 hYT.ents HET.out.ents (HV.out _ hmem) Hvv.out)
        have Hob:=hid (show qt s.vs i.v=decide (0≤jp (yt s.vs (s.vs.length - 1)) i.v) from by
         unfold qt;rw[List.getLast?_eq_getElem?,List.getElem?_eq_getElem hpos,zaf hpos])
        obtain⟨n,hn⟩:∃n,n=s.vs.length:=⟨_,rfl⟩;have Hn:=hid hn;rw[←hn] at cy q6;have hn1:1≤n∧n≤1000000000000:=by have:=Hvl.out;omega
        have e1:(n:Int) - 1=((n - 1:Nat):Int):=by omega
        clear h0 hke hYT hmem hn;rcases ze6 (yt s.vs (s.vs.length - 1)) i.v with hcv | hcv | hcv
        · rw[hcv] at HCmp Hob;have Hob:=hid (show qt s.vs i.v=false from Hob.out);clear hcv;go_wp2_with fail;refine HCmp.out.mono ?_;rintro e W2 ⟨rfl,hb2⟩;obtain⟨gK,cK,w3,hrun,hb3,hR3,hB3,hC3,hu3,hK3⟩:=zef (Hbx.out _ hb2) hR0 (HbV.out _ hb2) Hvl.out;have p6:=(Hbx.out _ hb2).row.cell 6 rfl;rw[←Hn.out] at hrun p6;have Hrun:=hid hrun;have Hb2:=hid (Hb1.out.trans (hb2.mono (Nat.le_trans HPre.out.bp HPre1.out.lw)));clear hb2;have e2:(s.left:Int) - 1=((s.left - 1:Nat):Int):=by have:=Hleft.out;omega
          have e3:IntKind.u64.wrap ((s.left - 1:Nat):Int)=((s.left - 1:Nat):Int):=by have:=Hlf.out;rw[IntKind.wrap_u64];omega
          have p6:=hR3.cell 6 rfl;have z6:=hR3.fz 6;have p5:=hR3.cell 5 rfl;have z5:=hR3.fz 5;have b0:=hB3.cell 0 rfl;have b1:=hB3.cell 1 rfl;have y0:=hB3.fz 0;have y1':=hB3.fz 1;have hneRB:=hR3.ne hB3 (by decide);have hneBR:=hneRB.symm;by_cases hl1:s.left=1
          · have Hv:=hid (show jw L s p (.ok i)=.ok { s with tag:=2,vs:=s.vs++[i.v],left:=0,inner:=ps0 } from by
             show (if i.tag=6 then _ else _)=_;rw[if_pos H6.out,if_neg (by rw[Hob.out];decide),if_pos hl1])
            have HFin:=hid ((zav hR3 hB3 hC3 hu3 hK3 0).mid hR0 hU hC);have HBf:=hid (((((Hb2.out.trans hb3).setCell (p:=⟨R,6,none⟩) hR0 (.slice (some ⟨gK,0,none⟩) (s.vs.length+1) cK)).setCell (p:=⟨B,1,none⟩) hB0 (.int .i64 (-1))).setCell (p:=⟨B,0,none⟩) hB0 (.int .u64 ((0:Nat):Int))).setCell (p:=⟨R,5,none⟩) hR0 (.iface 200 (.agg #[])));rw[←Hn.out] at HFin HBf;rw[hl1] at b0;clear hR3 hB3 hC3 hu3 hK3 hb3 e2 e3 hl1 hrun;go_wp2_with (at_builtin;refine qf _ _ 27 rfl rfl _ _ rfl rfl _ _ Hrun.out ?_);go_ret;exact⟨HBf.out,by rw[Hv.out];exact⟨rfl,HFin.out⟩⟩
          · have Hv:=hid (show jw L s p (.ok i)=.ok { s with vs:=s.vs++[i.v],left:=s.left - 1,inner:=ps0 } from by
             show (if i.tag=6 then _ else _)=_;rw[if_pos H6.out,if_neg (by rw[Hob.out];decide),if_neg hl1])
            have HFin:=hid ((zav hR3 hB3 hC3 hu3 hK3 (s.left - 1)).more Ht.out hR0 hU hC hB0);have HBf:=hid ((((Hb2.out.trans hb3).setCell (p:=⟨R,6,none⟩) hR0 (.slice (some ⟨gK,0,none⟩) (s.vs.length+1) cK)).setCell (p:=⟨B,1,none⟩) hB0 (.int .i64 (-1))).setCell (p:=⟨B,0,none⟩) hB0 (.int .u64 ((s.left - 1:Nat):Int)));rw[←Hn.out] at HFin HBf;have h1l:(((s.left - 1:Nat):Int) == 0)=false:=by have:=Hleft.out;rw[beq_eq_false_iff_ne];omega
            have h1m:¬s.left - 1=0:=by have:=Hleft.out;omega
            clear hR3 hB3 hC3 hu3 hK3 hb3 hl1 hrun;generalize s.left - 1=left1 at*;go_wp2_with (at_builtin;refine qf _ _ 27 rfl rfl _ _ rfl rfl _ _ Hrun.out ?_);go_ret;exact⟨HBf.out,by rw[Hv.out];exact⟨rfl,HFin.out⟩⟩
        · rw[hcv] at HCmp Hob
          have Hv:=hid (show jw L s p (.ok i)=.error (3,qd s p) from by
           show (if i.tag=6 then _ else _)=_;rw[if_pos H6.out,if_pos (by rw[Hob.out];decide)])
          have v1:=fun W2 (hb:Below W1.heap.size W1 W2)=>(Hbx.out W2 hb).vrow.cell 1 rfl
          have HV1:=hid v1;clear hcv v1;go_wp2_with fail;refine HCmp.out.mono ?_;rintro e W2 ⟨rfl,hb2⟩;have v1:=HV1.out W2 hb2;have HR2:=hid (Hbx.out _ hb2).row;have Hb2:=hid (Hb1.out.trans (hb2.mono (Nat.le_trans HPre.out.bp HPre1.out.lw)));clear hb2;go_wp2_with fail;refine(vd (c:=3) (o:=qd s p) (by decide) _).mono ?_;rintro e w' ⟨rfl,rfl⟩;go_wp2_with fail;go_ret;exact⟨Hb2.out,by rw[Hv.out];exact⟨rfl,_,HR2.out,rfl⟩⟩
        · rw[hcv] at HCmp Hob
          have Hv:=hid (show jw L s p (.ok i)=.error (3,qd s p) from by
           show (if i.tag=6 then _ else _)=_;rw[if_pos H6.out,if_pos (by rw[Hob.out];decide)])
          have v1:=fun W2 (hb:Below W1.heap.size W1 W2)=>(Hbx.out W2 hb).vrow.cell 1 rfl
          have HV1:=hid v1;clear hcv v1;go_wp2_with fail;refine HCmp.out.mono ?_;rintro e W2 ⟨rfl,hb2⟩;have v1:=HV1.out W2 hb2;have HR2:=hid (Hbx.out _ hb2).row;have Hb2:=hid (Hb1.out.trans (hb2.mono (Nat.le_trans HPre.out.bp HPre1.out.lw)));clear hb2;go_wp2_with fail;refine(vd (c:=3) (o:=qd s p) (by decide) _).mono ?_;rintro e w' ⟨rfl,rfl⟩;go_wp2_with fail;go_ret;exact⟨Hb2.out,by rw[Hv.out];exact⟨rfl,_,HR2.out,rfl⟩⟩
    · have Hv:=hid (show jw L s p (.ok i)=.ok { s with frm:=qd s p,inner:=i } from if_neg h6);refine HPut.out.mono ?_;rintro e W1 ⟨hb1,rfl,hP1⟩;have HF:=hid (HPre.out.cont Ht.out hb1 k3 hP1);have Hb1:=hid (Hb0W.out.trans (hb1.mono HPre.out.bp));have hd:decide (i.tag=6)=false:=decide_eq_false h6;clear hb1 hP1 h6 k1 k2 k3 hfi;go_wp2_with fail;go_ret;exact⟨Hb1.out,by rw[Hv.out];exact⟨rfl,HF.out⟩⟩
 · obtain⟨W,rfl⟩:∃W,W=w:=⟨w,rfl⟩
   have HPre:=hid (show VPre W base R L s K U C B pb P (qd s p) s.inner from
    ⟨hR,by unfold qd;rw[if_neg (by omega)];exact hB,hc,hu,⟨wb,hK,hS,hwb⟩,hR0,hU,hC,hB0,hbp,lR,lU,lC,lB,by have:=hP.1;obtain⟨_,_,_,hr,_⟩:=hP;have:=hr.lt;omega⟩)
   have HP2:=hid hP;have Hb0W:=hid hb0;have HDW:=hid hD;have v1:=hB.cell 1 rfl;have hvp:=hB.cell 2 rfl;clear hR hB hu hc hK hS hwb hbp lR lU lC lB hP hD hb0 h1 wb;go_enter Tryz.func111,Tryz.ntmps111;go_wp2_with fail;have HPut:=hid (zku pb P L s.inner x rest W HP2.out Hi1.out HL.out Hx.out Hr.out Hi.out Hi2.out);rw[Hrr.out] at HPut;clear hvp v1
   cases rr with
   | error c=>
    have hc0:=zgb Hrr.out;refine HPut.out.mono ?_;rintro e W1 ⟨hb1,rfl⟩;have HPre1:=hid (HPre.out.later hb1);have hb1':=hb1.mono HPre.out.bp;have hCo:=kx (some ((c:Int),none)) W1 (HDW.out.keep hDb hb1');simp only[zh,kh] at hCo;have HCo:=hid hCo;have Hb1:=hid hb1';clear hCo hb1 hb1';go_wp2_with fail;refine HCo.out.mono ?_;rintro e W2 ⟨rfl,hb2⟩;have HR2:=hid (HPre1.out.row.later hb2);have Hb2:=hid ((Hb0W.out.trans Hb1.out).trans (hb2.mono (Nat.le_trans HPre.out.bp HPre1.out.lw)));clear hb2;go_wp2_with fail;refine(vd (c:=c) (o:=p) hc0 _).mono ?_;rintro e w' ⟨rfl,rfl⟩;go_wp2_with fail;go_ret
    exact⟨Hb2.out,rfl,_,HR2.out,rfl⟩
   | ok i=>
    obtain⟨k1,k2,k3⟩:=zct Hi1.out Hi2.out Hrr.out;have hfi:=zf1 Hi.out Hi1.out Hx.out Hrr.out;have Hfi:=hid hfi;by_cases h6:i.tag=6
    · have hvv:=HI.out i Hrr.out h6;have hlv:LtV i.v:=hfi.v;refine HPut.out.mono ?_;rintro e W1 ⟨hb1,rfl,hP1⟩;have hPre1:=HPre.out.later hb1;obtain⟨wb,kk1,kk2,kk3⟩:=hPre1.kv;have hKV:=kk1.steady kk2;have hd:decide (i.tag=6)=true:=decide_eq_true h6;have HVc:=hid (zkv pb P L i W1 hP1 h6);have v2:=hPre1.vrow.cell 2 rfl;have HPre1:=hid hPre1;have HKV:=hid hKV;have Hlv:=hid hlv;have Hvv:=hid hvv;have Hb1:=hid (Hb0W.out.trans (hb1.mono HPre.out.bp));have HD1:=hid (HDW.out.keep hDb (hb1.mono HPre.out.bp));have H6:=hid h6;clear hPre1 hKV kk1 kk2 kk3 hb1 hP1 hlv hvv k1 k2 k3 hfi h6;go_wp2_with fail;refine HVc.out.mono ?_;rintro e w' ⟨⟨V,rfl,hV⟩,rfl⟩;have hES:=hV.enSl Hlv.out;obtain⟨va,vn,vcap,rfl,hET⟩:=hES;have HET:=hid hET;obtain⟨ka,kc,hKe⟩:=HKV.out.len;subst hKe
      have hbx:∀W2,Below W1.heap.size W1 W2→VRows W2 base R L (.iface 196 (.pointer (some ⟨B,0,none⟩))) (.slice ka s.vs.length kc) U C B s.left (qd s p:Int) (.pointer (some ⟨P,0,none⟩)) s.ix s.vs:=fun _ hb=>
       ⟨HPre1.out.row.later hb,HPre1.out.vrow.later hb,HPre1.out.cur.later hb,HPre1.out.used.same (hb.block U HPre1.out.used.lt),HKV.out.later hb⟩
      have hbV:∀W2,Below W1.heap.size W1 W2→EnSl W2 0 (.slice va vn vcap) i.v:=fun _ hb=>(show EnSl W1 0 (.slice va vn vcap) i.v from⟨va,vn,vcap,rfl,HET.out⟩).steady (P:=fun _=>True) (.of_below hb) trivial trivial
      have Hbx:=hid hbx;have HbV:=hid hbV;have q6:=HPre1.out.row.cell 6 rfl;have hll:=HF.out.vsl;have hvl:s.vs.length+1≤1000000000000:=by omega
      have Hvl:=hid hvl;have Hlf:=hid HF.out.left;clear hV hET v2 hbx hbV hll hvl;by_cases h0:s.vs=[]
      · have hn0:s.vs.length=0:=by rw[h0];rfl
        have Hob:=hid (show qt s.vs i.v=false from by rw[h0];rfl);have Hn0:=hid hn0;obtain⟨gK,cK,w3,hrun,hb3,hR3,hB3,hC3,hu3,hK3⟩:=zef (Hbx.out _ (Below.refl _ _)) hR0 (HbV.out _ (Below.refl _ _)) Hvl.out;rw[hn0] at hrun q6;have Hrun:=hid hrun;clear h0 hn0;have e2:(s.left:Int) - 1=((s.left - 1:Nat):Int):=by have:=Hleft.out;omega
        have e3:IntKind.u64.wrap ((s.left - 1:Nat):Int)=((s.left - 1:Nat):Int):=by have:=Hlf.out;rw[IntKind.wrap_u64];omega
        have p6:=hR3.cell 6 rfl;rw[Hn0.out] at p6;have z6:=hR3.fz 6;have p5:=hR3.cell 5 rfl;have z5:=hR3.fz 5;have b0:=hB3.cell 0 rfl;have b1:=hB3.cell 1 rfl;have y0:=hB3.fz 0;have y1':=hB3.fz 1;have hneRB:=hR3.ne hB3 (by decide);have hneBR:=hneRB.symm;by_cases hl1:s.left=1
        · have Hv:=hid (show jw L s p (.ok i)=.ok { s with tag:=2,vs:=s.vs++[i.v],left:=0,inner:=ps0 } from by
           show (if i.tag=6 then _ else _)=_;rw[if_pos H6.out,if_neg (by rw[Hob.out];decide),if_pos hl1])
          have HFin:=hid ((zav hR3 hB3 hC3 hu3 hK3 0).mid hR0 hU hC);have HBf:=hid (((((Hb1.out.trans hb3).setCell (p:=⟨R,6,none⟩) hR0 (.slice (some ⟨gK,0,none⟩) (s.vs.length+1) cK)).setCell (p:=⟨B,1,none⟩) hB0 (.int .i64 (-1))).setCell (p:=⟨B,0,none⟩) hB0 (.int .u64 ((0:Nat):Int))).setCell (p:=⟨R,5,none⟩) hR0 (.iface 200 (.agg #[])));rw[Hn0.out] at HFin HBf;rw[hl1] at b0;clear hR3 hB3 hC3 hu3 hK3 hb3 e2 e3 hl1 hrun;go_wp2_with (at_builtin;refine qf _ _ 27 rfl rfl _ _ rfl rfl _ _ Hrun.out ?_);go_ret;exact⟨HBf.out,by rw[Hv.out];exact⟨rfl,HFin.out⟩⟩
        · have Hv:=hid (show jw L s p (.ok i)=.ok { s with vs:=s.vs++[i.v],left:=s.left - 1,inner:=ps0 } from by
           show (if i.tag=6 then _ else _)=_;rw[if_pos H6.out,if_neg (by rw[Hob.out];decide),if_neg hl1])
          have HFin:=hid ((zav hR3 hB3 hC3 hu3 hK3 (s.left - 1)).more Ht.out hR0 hU hC hB0);have HBf:=hid ((((Hb1.out.trans hb3).setCell (p:=⟨R,6,none⟩) hR0 (.slice (some ⟨gK,0,none⟩) (s.vs.length+1) cK)).setCell (p:=⟨B,1,none⟩) hB0 (.int .i64 (-1))).setCell (p:=⟨B,0,none⟩) hB0 (.int .u64 ((s.left - 1:Nat):Int)));rw[Hn0.out] at HFin HBf;have h1l:(((s.left - 1:Nat):Int) == 0)=false:=by have:=Hleft.out;rw[beq_eq_false_iff_ne];omega
          have h1m:¬s.left - 1=0:=by have:=Hleft.out;omega
          clear hR3 hB3 hC3 hu3 hK3 hb3 hl1 hrun;generalize s.left - 1=left1 at*;go_wp2_with (at_builtin;refine qf _ _ 27 rfl rfl _ _ rfl rfl _ _ Hrun.out ?_);go_ret;exact⟨HBf.out,by rw[Hv.out];exact⟨rfl,HFin.out⟩⟩
      · have hpos:s.vs.length - 1<s.vs.length:=by have:=List.length_pos_iff.2 h0;omega
        obtain⟨gk,kcap,hke,hgk,hgkl,y,cy,-,hyE⟩:=HKV.out.at hpos;obtain⟨ya,yn,yc,rfl,hYT⟩:=hyE;have hka:ka=some ⟨gk,0,none⟩:=by injection hke
        subst hka;have hmem:yt s.vs (s.vs.length - 1)∈s.vs:=by rw[zaf hpos];exact List.getElem_mem hpos
        have HCmp:=hid (ziz ya va yn yc vn vcap _ _ W1 hYT.ents HET.out.ents (HV.out _ hmem) Hvv.out)
        have Hob:=hid (show qt s.vs i.v=decide (0≤jp (yt s.vs (s.vs.length - 1)) i.v) from by
         unfold qt;rw[List.getLast?_eq_getElem?,List.getElem?_eq_getElem hpos,zaf hpos])
        obtain⟨n,hn⟩:∃n,n=s.vs.length:=⟨_,rfl⟩;have Hn:=hid hn;rw[←hn] at cy q6;have hn1:1≤n∧n≤1000000000000:=by have:=Hvl.out;omega
        have e1:(n:Int) - 1=((n - 1:Nat):Int):=by omega
        clear h0 hke hYT hmem hn;rcases ze6 (yt s.vs (s.vs.length - 1)) i.v with hcv | hcv | hcv
        · rw[hcv] at HCmp Hob;have Hob:=hid (show qt s.vs i.v=false from Hob.out);clear hcv;go_wp2_with fail;refine HCmp.out.mono ?_;rintro e W2 ⟨rfl,hb2⟩;obtain⟨gK,cK,w3,hrun,hb3,hR3,hB3,hC3,hu3,hK3⟩:=zef (Hbx.out _ hb2) hR0 (HbV.out _ hb2) Hvl.out;have p6:=(Hbx.out _ hb2).row.cell 6 rfl;rw[←Hn.out] at hrun p6;have Hrun:=hid hrun;have Hb2:=hid (Hb1.out.trans (hb2.mono (Nat.le_trans HPre.out.bp HPre1.out.lw)));clear hb2;have e2:(s.left:Int) - 1=((s.left - 1:Nat):Int):=by have:=Hleft.out;omega
          have e3:IntKind.u64.wrap ((s.left - 1:Nat):Int)=((s.left - 1:Nat):Int):=by have:=Hlf.out;rw[IntKind.wrap_u64];omega
          have p6:=hR3.cell 6 rfl;have z6:=hR3.fz 6;have p5:=hR3.cell 5 rfl;have z5:=hR3.fz 5;have b0:=hB3.cell 0 rfl;have b1:=hB3.cell 1 rfl;have y0:=hB3.fz 0;have y1':=hB3.fz 1;have hneRB:=hR3.ne hB3 (by decide);have hneBR:=hneRB.symm;by_cases hl1:s.left=1
          · have Hv:=hid (show jw L s p (.ok i)=.ok { s with tag:=2,vs:=s.vs++[i.v],left:=0,inner:=ps0 } from by
             show (if i.tag=6 then _ else _)=_;rw[if_pos H6.out,if_neg (by rw[Hob.out];decide),if_pos hl1])
            have HFin:=hid ((zav hR3 hB3 hC3 hu3 hK3 0).mid hR0 hU hC);have HBf:=hid (((((Hb2.out.trans hb3).setCell (p:=⟨R,6,none⟩) hR0 (.slice (some ⟨gK,0,none⟩) (s.vs.length+1) cK)).setCell (p:=⟨B,1,none⟩) hB0 (.int .i64 (-1))).setCell (p:=⟨B,0,none⟩) hB0 (.int .u64 ((0:Nat):Int))).setCell (p:=⟨R,5,none⟩) hR0 (.iface 200 (.agg #[])));rw[←Hn.out] at HFin HBf;rw[hl1] at b0;clear hR3 hB3 hC3 hu3 hK3 hb3 e2 e3 hl1 hrun;go_wp2_with (at_builtin;refine qf _ _ 27 rfl rfl _ _ rfl rfl _ _ Hrun.out ?_);go_ret;exact⟨HBf.out,by rw[Hv.out];exact⟨rfl,HFin.out⟩⟩
          · have Hv:=hid (show jw L s p (.ok i)=.ok { s with vs:=s.vs++[i.v],left:=s.left - 1,inner:=ps0 } from by
             show (if i.tag=6 then _ else _)=_;rw[if_pos H6.out,if_neg (by rw[Hob.out];decide),if_neg hl1])
            have HFin:=hid ((zav hR3 hB3 hC3 hu3 hK3 (s.left - 1)).more Ht.out hR0 hU hC hB0);have HBf:=hid ((((Hb2.out.trans hb3).setCell (p:=⟨R,6,none⟩) hR0 (.slice (some ⟨gK,0,none⟩) (s.vs.length+1) cK)).setCell (p:=⟨B,1,none⟩) hB0 (.int .i64 (-1))).setCell (p:=⟨B,0,none⟩) hB0 (.int .u64 ((s.left - 1:Nat):Int)));rw[←Hn.out] at HFin HBf;have h1l:(((s.left - 1:Nat):Int) == 0)=false:=by have:=Hleft.out;rw[beq_eq_false_iff_ne];omega
            have h1m:¬s.left - 1=0:=by have:=Hleft.out;omega
            clear hR3 hB3 hC3 hu3 hK3 hb3 hl1 hrun;generalize s.left - 1=left1 at*;go_wp2_with (at_builtin;refine qf _ _ 27 rfl rfl _ _ rfl rfl _ _ Hrun.out ?_);go_ret;exact⟨HBf.out,by rw[Hv.out];exact⟨rfl,HFin.out⟩⟩
        · rw[hcv] at HCmp Hob
          have Hv:=hid (show jw L s p (.ok i)=.error (3,qd s p) from by
           show (if i.tag=6 then _ else _)=_;rw[if_pos H6.out,if_pos (by rw[Hob.out];decide)])
          have v1:=fun W2 (hb:Below W1.heap.size W1 W2)=>(Hbx.out W2 hb).vrow.cell 1 rfl
          have HV1:=hid v1;clear hcv v1;go_wp2_with fail;refine HCmp.out.mono ?_;rintro e W2 ⟨rfl,hb2⟩;have v1:=HV1.out W2 hb2;have HR2:=hid (Hbx.out _ hb2).row;have Hb2:=hid (Hb1.out.trans (hb2.mono (Nat.le_trans HPre.out.bp HPre1.out.lw)));clear hb2;go_wp2_with fail;refine(vd (c:=3) (o:=qd s p) (by decide) _).mono ?_;rintro e w' ⟨rfl,rfl⟩;go_wp2_with fail;go_ret;exact⟨Hb2.out,by rw[Hv.out];exact⟨rfl,_,HR2.out,rfl⟩⟩
        · rw[hcv] at HCmp Hob
          have Hv:=hid (show jw L s p (.ok i)=.error (3,qd s p) from by
           show (if i.tag=6 then _ else _)=_;rw[if_pos H6.out,if_pos (by rw[Hob.out];decide)])
          have v1:=fun W2 (hb:Below W1.heap.size W1 W2)=>(Hbx.out W2 hb).vrow.cell 1 rfl
          have HV1:=hid v1;clear hcv v1;go_wp2_with fail;refine HCmp.out.mono ?_;rintro e W2 ⟨rfl,hb2⟩;have v1:=HV1.out W2 hb2;have HR2:=hid (Hbx.out _ hb2).row;have Hb2:=hid (Hb1.out.trans (hb2.mono (Nat.le_trans HPre.out.bp HPre1.out.lw)));clear hb2;go_wp2_with fail;refine(vd (c:=3) (o:=qd s p) (by decide) _).mono ?_;rintro e w' ⟨rfl,rfl⟩;go_wp2_with fail;go_ret;exact⟨Hb2.out,by rw[Hv.out];exact⟨rfl,_,HR2.out,rfl⟩⟩
    · have Hv:=hid (show jw L s p (.ok i)=.ok { s with frm:=qd s p,inner:=i } from if_neg h6);refine HPut.out.mono ?_;rintro e W1 ⟨hb1,rfl,hP1⟩;have HF:=hid (HPre.out.cont Ht.out hb1 k3 hP1);have Hb1:=hid (Hb0W.out.trans (hb1.mono HPre.out.bp));have hd:decide (i.tag=6)=false:=decide_eq_false h6;clear hb1 hP1 h6 k1 k2 k3 hfi;go_wp2_with fail;go_ret;exact⟨Hb1.out,by rw[Hv.out];exact⟨rfl,HF.out⟩⟩
end
