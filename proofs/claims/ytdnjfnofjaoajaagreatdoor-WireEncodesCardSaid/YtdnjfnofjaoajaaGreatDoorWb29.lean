/- Walks and laws, joined: Wb29. -/
import Derived.Test.YtdnjfnofjaoajaaGreatDoorWb28
set_option linter.unusedVariables false
set_option maxHeartbeats 16000000
namespace Go.Proofs.YtdnjfnofjaoajaaGreatDoor
open Lib (hid)
section
def vsK (c:Kno):List Vec:=c.map (·.2)
theorem zfa (c:Kno):(vsK c).length=c.length:=by simp[vsK]
theorem zlr {c:Kno} {d:Nat} (hd:d<c.length):(vsK c)[d]'(by rw[zfa];exact hd)=(za c d).2:=by simp[vsK,ym hd]
theorem z61 {c:Kno} (hc:CanK c) {d:Nat} (hd:d<c.length):zad ((vsK c).take d) (za c d).2=false:=by
 unfold zad
 cases d with
 | zero=>simp
 | succ n=>
  rw[ziv (by rw[zfa];omega),zlr (show n<c.length by omega)];have h1:=List.pairwise_iff_getElem.1 hc.asc n (n+1) (by omega) hd (by omega);unfold jy at h1;rw[←ym (by omega),←ym hd] at h1;simp only[h1]
  rfl
theorem zoy {T:yo} {E:Nat} {le lh:Int} (hT:Fwd T) {c:Kno} (hc:CanK c) (hl:LtK c):∀d,d≤c.length→∀{p r:Nat},jr T p (y8 c d) r→r≤E→
 ∃r0,T p=.ok (c.length,r0)∧r0+d≤r∧∀k,(∀i,i<d→okV le lh (za c i).2)→vz T E le lh (d+k) [] r0=vz T E le lh k ((vsK c).take d) r
 | 0,_,p,r,hr,hE=>by
   obtain⟨r0,h1,rfl⟩:=hr
   exact⟨r0,h1,by omega,fun k _=>by rw[List.take_zero,Nat.zero_add]⟩
 | d+1,hd,p,r,hr,hE=>by
   rw[y8] at hr;obtain⟨s,h1,h2⟩:=zae.1 hr;have h3:=zdo hT h2;have hm:=yb (show d<c.length from hd);obtain⟨hv,hne⟩:=hc.vec _ hm
   have h4:1≤(vw (za c d).2).length:=by
    obtain⟨R,e⟩:=zor (za c d).2 0 (za c d).2.length (Nat.zero_le _);unfold vw;rw[e];simp[ql]
   obtain⟨r0,h5,h6,h7⟩:=zoy hT hc hl d (by omega) h1 (show s≤E by omega);refine⟨r0,h5,by omega,fun k hk=>?_⟩;rw[show d+1+k=d+(k+1) by omega,h7 (k+1) (fun i hi=>hk i (by omega)),vz,(zve hT hv (hl _ hm).vec hne h2 hE).1 (hk d (by omega)),jq,z61 hc hd,if_neg (by simp),List.take_succ_eq_append_getElem (by rw[zfa];exact hd),zlr hd]
theorem zv3 (c:Kno) (i:Nat):∀d,i≤d→∃R,y8 c d=y8 c i++R
 | 0,h=>⟨[],by rw[show i=0 by omega,List.append_nil]⟩
 | d+1,h=>by
   rcases Nat.lt_or_ge d i with h1 | h1
   · exact⟨[],by rw[show i=d+1 by omega,List.append_nil]⟩
   · obtain⟨R,e⟩:=zv3 c i d h1;exact⟨R++vw (za c d).2,by rw[y8,e,List.append_assoc]⟩
theorem zan (L:List Seg):(yd L).length=L.length:=by simp[yd]
theorem zg9 (L:List Seg):(yq L).length=L.length:=by simp[yq]
theorem z62 {c:Kno} (hc:CanK c) {d:Nat} (hd:d<(zj c).length):¬(zdc ((yd (zj c)).take d) (zb (yd (zj c)) d).1=true∧((yq (zj c)).take d).getLast?=some (nth (yq (zj c)) d)):=by
 rintro⟨h1,h2⟩
 cases d with
 | zero=>simp at h2
 | succ n=>
  have hp:=List.pairwise_iff_getElem.1 (zs6 hc) n (n+1) (by omega) hd (by omega);unfold zdc jv at h1;rw[ziv (by rw[zan];omega)] at h1;rw[ziv (by rw[zg9];omega)] at h2;have e1:(yd (zj c))[n]'(by rw[zan];omega)=(zj c)[n].1:=by simp[yd]
  have e2:zb (yd (zj c)) (n+1)=(zj c)[n+1].1:=by rw[qf (by rw[zan];exact hd)];simp[yd]
  have e3:(yq (zj c))[n]'(by rw[zg9];omega)=(zj c)[n].2:=by simp[yq]
  have e4:nth (yq (zj c)) (n+1)=(zj c)[n+1].2:=by simp[nth,yq,hd]
  rw[e1,e2] at h1;rw[e3,e4] at h2;simp only[Option.map_some,decide_eq_true_eq] at h1;have:=hp.2 (Option.some.inj h2);omega
theorem zv4 {T:yo} {c:Kno} (hc:CanK c) (hl:LtK c):∀d,d≤(zj c).length→∀{p r:Nat},jr T p (ja (yd (zj c)) (yq (zj c)) d) r→
 ∃r0,T p=.ok ((zj c).length,r0)∧∀k,vm T c.length (d+k) [] [] r0=vm T c.length k ((yd (zj c)).take d) ((yq (zj c)).take d) r
 | 0,_,p,r,hr=>by
   obtain⟨r0,h1,rfl⟩:=hr;rw[zan] at h1
   exact⟨r0,h1,fun k=>by rw[List.take_zero,List.take_zero,Nat.zero_add]⟩
 | d+1,hd,p,r,hr=>by
   rw[ja] at hr;obtain⟨s,h1,h2⟩:=zae.1 hr;obtain⟨t,h3,h4⟩:=zae (a:=[jd (yd (zj c)) 0 d,(zb (yd (zj c)) d).2 - (zb (yd (zj c)) d).1]) (b:=[nth (yq (zj c)) d]).1 h2;obtain⟨r',h5,rfl⟩:=h4;obtain⟨r0,h6,h7⟩:=zv4 hc hl d (by omega) h1
   have hlt:zq (yd (zj c)):=fun s hs=>by
    obtain⟨p,hp,rfl⟩:=List.mem_map.1 hs;obtain⟨-,-,h3⟩:=zcx c c.length (Nat.le_refl _);exact(hl _ (yb (h3 p hp).1)).items _ (h3 p hp).2
   obtain⟨w,h8⟩:=zu9 (l:=yd (zj c)) (a:=0) (zov hc) hlt (by rw[zan];exact hd) h3;refine⟨r0,h6,fun k=>?_⟩;rw[show d+1+k=d+(k+1) by omega,h7 (k+1),vm,h8,jq];unfold zdd;have hx:nth (yq (zj c)) d<c.length:=zlp (k:=c) hd;rw[zf1 h5,jq,if_neg (by omega),if_neg (z62 hc hd),List.take_succ_eq_append_getElem (by rw[zan];exact hd),List.take_succ_eq_append_getElem (by rw[zg9];exact hd)]
   have e:nth (yq (zj c)) d=(yq (zj c))[d]'(by rw[zg9];exact hd):=by
    unfold nth;rw[List.getD_eq_getElem?_getD,List.getElem?_eq_getElem (by rw[zg9];exact hd)]
    rfl
   rw[qf (by rw[zan];exact hd),e]
structure okK (L:zt) (c:Kno):Prop where
 vecs:okC c.length L.2.1
 vec:∀i,i<c.length→okV L.2.2.1 L.2.2.2.1 (za c i).2
 segs:okC (zj c).length L.2.2.2.2
theorem z63 {c:Kno} (hc:CanK c):vo (vsK c) (yd (zj c)) (yq (zj c))=c:=by
 have h:=z2o hc;unfold vo yq;rw[List.map_map];exact h
theorem z64 {c:Kno} (hc:CanK c) (E z:Nat):zbi E c z=if z<E then .error (11,z) else .ok (c,z):=by
 unfold zbi;rw[if_neg (by rintro⟨f,hf,h⟩;exact(hc.items f hf).2 h)]
theorem z65 {T:yo} (hT:Fwd T) {E p z:Nat} {L:zt} {c:Kno} (hc:CanK c) (hl:LtK c) (hr:jr T p (zk c) z) (hz:z≤E):
 (okK L c→zat T E L p=if z<E then .error (11,z) else .ok (c,z))∧(¬okK L c→∃w,zat T E L p=.error (7,w)):=by
 have hr':=hr;unfold zk at hr';obtain⟨s,h1,h2⟩:=zae.1 hr';have h2':jr T s (ja (yd (zj c)) (yq (zj c)) (zj c).length) z:=h2;have h3:=zdo hT h2;rw[zeb] at h3;obtain⟨r0,a1,a2,a3⟩:=zoy (E:=E) (le:=L.2.2.1) (lh:=L.2.2.2.1) hT hc hl c.length (Nat.le_refl _) h1 (by omega);obtain⟨q0,b1,b2⟩:=zv4 hc hl (zj c).length (Nat.le_refl _) h2';have hb:=b2 0;rw[Nat.add_zero,vm,List.take_of_length_le (by rw[zan];exact Nat.le_refl _),List.take_of_length_le (by rw[zg9];exact Nat.le_refl _)] at hb
 have hq:q0+(zj c).length≤E:=by
  cases hS:(zj c).length with
  | zero=>rw[hS] at h2';obtain⟨r,e1,rfl⟩:=h2';rw[b1] at e1;injection e1 with e;injection e with _ e;omega
  | succ n=>
   obtain⟨R,e⟩:∃R,ja (yd (zj c)) (yq (zj c)) (zj c).length=[(yd (zj c)).length]++R:=by
    have:∀d,∃R,ja (yd (zj c)) (yq (zj c)) d=[(yd (zj c)).length]++R:=by
     intro d
     induction d with
     | zero=>exact⟨[],rfl⟩
     | succ d ih=>obtain⟨R,e⟩:=ih;exact⟨_,by rw[ja,e,List.append_assoc]⟩
    exact this _
   have hln:=zeb (yd (zj c)) (yq (zj c)) (zj c).length;rw[e] at h2' hln;obtain⟨t,⟨t',e1,rfl⟩,e2⟩:=zae.1 h2';have e3:=zdo hT e2;rw[b1] at e1;injection e1 with e1;injection e1 with _ e1;simp only[List.length_append,List.length_cons,List.length_nil] at hln;omega
 by_cases k1:okC c.length L.2.1
 · by_cases k2:∀i,i<c.length→okV L.2.2.1 L.2.2.2.1 (za c i).2
   · have hv:=a3 0 k2;rw[Nat.add_zero,vz,List.take_of_length_le (by rw[zfa];exact Nat.le_refl _)] at hv;by_cases k3:okC (zj c).length L.2.2.2.2
     · refine⟨fun _=>?_,fun h=>absurd ⟨k1,k2,k3⟩ h⟩;unfold zat zch;rw[zf2 a1 k1 (by omega),jq,hv,jq,zf2 b1 k3 hq,jq,zfa,hb,jq];simp only;rw[z63 hc,z64 hc]
     · refine⟨fun h=>absurd h.segs k3,fun _=>⟨s,?_⟩⟩;unfold zat zch;rw[zf2 a1 k1 (by omega),jq,hv,jq,zll b1 k3,zcf]
   · refine⟨fun h=>absurd h.vec k2,fun _=>?_⟩;have:DecidablePred fun i=>okV L.2.2.1 L.2.2.2.1 (za c i).2:=fun i=>Classical.propDecidable _
     obtain⟨i,hi,hbad,hlt⟩:=zvd (P:=fun i=>okV L.2.2.1 L.2.2.2.1 (za c i).2) k2;obtain⟨R,e⟩:=zv3 c (i+1) c.length hi;have h1':=h1;rw[e] at h1';obtain⟨t,g1,g2⟩:=zae.1 h1';have g3:=zdo hT g2;rw[y8] at g1;obtain⟨u,g4,g5⟩:=zae.1 g1;have g6:=zdo hT g5;obtain⟨r0',a1',-,a3'⟩:=zoy (E:=E) (le:=L.2.2.1) (lh:=L.2.2.2.1) hT hc hl i (by omega) g4 (by omega);obtain rfl:r0'=r0:=by rw[a1] at a1';injection a1' with h;injection h with _ h;exact h.symm
     have hm:=yb hi;obtain⟨w,hw⟩:=(zve (E:=E) hT (hc.vec _ hm).1 (hl _ hm).vec (hc.vec _ hm).2 g5 (by omega)).2 hbad;have:=a3' (c.length - i) hlt;rw[show i+(c.length - i)=c.length by omega,show c.length - i=(c.length - i - 1)+1 by omega,vz,hw,zcf] at this
     exact⟨w,by
      unfold zat;rw[zf2 a1 k1 (by omega),jq,this,zcf]⟩
 · refine⟨fun h=>absurd h.vecs k1,fun _=>⟨p,?_⟩⟩;unfold zat;rw[zll a1 k1,zcf]
structure VsInv (le lh:Int) (vs:List Vec):Prop where
 all:∀v∈vs,CanV v∧LtV v∧v≠[]∧okV le lh v
 asc:vs.Pairwise fun u v=>yk u v= -1
theorem z67 {vs:List Vec} {v:Vec} (ha:vs.Pairwise fun u v=>yk u v= -1) (h:¬zad vs v=true):∀u∈vs,yk u v= -1:=by
 intro u hu;unfold zad at h;rw[List.getLast?_eq_getElem?] at h;have h0:0<vs.length:=List.length_pos_iff.2 (List.ne_nil_of_mem hu);rw[List.getElem?_eq_getElem (by omega)] at h;simp only[decide_eq_true_eq] at h
 have hl:yk (vs[vs.length - 1]'(by omega)) v= -1:=by
  rcases zet (vs[vs.length - 1]'(by omega)) v with h1 | h1 | h1
  · exact h1
  · rw[h1] at h;exact absurd (Int.le_refl _) h
  · rw[h1] at h;exact absurd (by decide) h
 obtain⟨i,hi,rfl⟩:=List.getElem_of_mem hu;rcases Nat.lt_or_ge i (vs.length - 1) with h1 | h1
 · exact zgj (List.pairwise_iff_getElem.1 ha i (vs.length - 1) hi (by omega) h1) hl
 · have e:i=vs.length - 1:=by omega
   subst e;exact hl
theorem zv5 {T:yo} {E:Nat} {le lh:Int} (hT:T64 T):∀(n:Nat) (acc:List Vec) {p q:Nat} {vs:List Vec},vz T E le lh n acc p=.ok (vs,q)→VsInv le lh acc→
 ∀{P0:Nat},jr T P0 (acc.flatMap vw) p→jr T P0 (vs.flatMap vw) q∧VsInv le lh vs∧vs.length=acc.length+n
 | 0,acc,p,q,vs,h,hI,P0,hr=>by cases h;exact⟨hr,hI,rfl⟩
 | n+1,acc,p,q,vs,h,hI,P0,hr=>by
   rw[vz] at h;obtain⟨v,r,h1,h2⟩:=kh h;obtain⟨a1,a2,a3,a4,a5⟩:=z58 hT h1;split at h2
   · cases h2
   · rename_i ho
     obtain⟨b1,b2,b3⟩:=zv5 hT n (acc++[v]) h2 ⟨fun x hx=>by
      rcases List.mem_append.1 hx with hx | hx
      · exact hI.all x hx
      · simp at hx;subst hx;exact⟨a2,a3,a4,a5⟩,List.pairwise_append.2 ⟨hI.asc,List.pairwise_singleton _ _,fun x hx y hy=>by
      simp at hy;subst hy;exact z67 hI.asc ho x hx⟩⟩ (P0:=P0) (by
      rw[List.flatMap_append];exact zae.2 ⟨p,hr,by simpa using a1⟩)
     refine⟨b1,b2,?_⟩;rw[b3,List.length_append,List.length_cons,List.length_nil];omega
def zds (l:List Iv) (x:List Nat):Nat→List Nat
 | 0=>[]
 | d+1=>zds l x d++[jd l 0 d,(zb l d).2 - (zb l d).1,nth x d]
theorem zv6 (l:List Iv) (x:List Nat):∀d,ja l x d=l.length :: zds l x d
 | 0=>rfl
 | d+1=>by rw[ja,zds,zv6 l x d];rfl
theorem ziz {l t:List Nat} {i:Nat} (h:i<l.length):nth (l++t) i=nth l i:=by simp[nth,List.getElem?_append_left h]
theorem zoz (l:List Nat) (x:Nat):nth (l++[x]) l.length=x:=by simp[nth]
theorem zv7 (l t:List Iv) (x y:List Nat) (hl:l.length=x.length):∀d,d≤l.length→zds (l++t) (x++y) d=zds l x d
 | 0,_=>rfl
 | d+1,h=>by
   rw[zds,zds,zv7 l t x y hl d (by omega),zbv h,ziz (by omega)]
   have:jd (l++t) 0 d=jd l 0 d:=by
    unfold jd;rw[zbv (by omega),zbv (i:=d) h,zbv (by omega)]
   rw[this]
structure SInv (N:Nat) (l:List Iv) (ix:List Nat):Prop where
 diff:zb4 l 0
 lt:zq l
 len:l.length=ix.length
 idx:∀i,i<l.length→nth ix i<N
 apart:∀i,0<i→i<l.length→(zb l i).1=(zb l (i - 1)).2+1→nth ix i≠nth ix (i - 1)
theorem zv8 {T:yo} {N:Nat} (hT:T64 T):∀(m:Nat) (l:List Iv) (ix:List Nat) {p q:Nat} {l':List Iv} {ix':List Nat},vm T N m l ix p=.ok ((l',ix'),q)→SInv N l ix→
 ∀{P0:Nat},jr T P0 (zds l ix l.length) p→jr T P0 (zds l' ix' l'.length) q∧SInv N l' ix'∧l'.length=l.length+m
 | 0,l,ix,p,q,l',ix',h,hI,P0,hr=>by cases h;exact⟨hr,hI,rfl⟩
 | m+1,l,ix,p,q,l',ix',h,hI,P0,hr=>by
   rw[vm] at h;obtain⟨⟨s,w⟩,r,h1,h2⟩:=kh h;obtain⟨d1,d2,d3⟩:=zvh hT hI.diff hI.lt h1;unfold zdd at h2;obtain⟨x,r2,h3,h4⟩:=kh h2;have t3:=ze9 h3;split at h4
   · cases h4
   · rename_i hN;split at h4
     · cases h4
     · rename_i ht;simp only at ht h4
       obtain⟨b1,b2,b3⟩:=zv8 hT m (l++[s]) (ix++[x]) h4 ⟨d1,d2,by simp[hI.len],fun i hi=>by
        rw[List.length_append,List.length_cons,List.length_nil] at hi;rcases Nat.lt_or_ge i l.length with h5 | h5
        · rw[ziz (by rw[←hI.len];exact h5)];exact hI.idx i h5
        · rw[show i=ix.length by have:=hI.len;omega,zoz];omega,fun i h0 hi he=>by
        rw[List.length_append,List.length_cons,List.length_nil] at hi;rcases Nat.lt_or_ge i l.length with h5 | h5
        · rw[zbv h5,zbv (by omega)] at he;rw[ziz (by rw[←hI.len];exact h5),ziz (by rw[←hI.len];omega)];exact hI.apart i h0 h5 he
        · have e:i=l.length:=by omega
          subst e;rw[zix,zbv (by omega)] at he;rw[hI.len,zoz,ziz (by rw[←hI.len];omega)];intro e2;refine ht ⟨?_,?_⟩
          · unfold zdc;rw[zvg,if_neg (by omega)];simp only[decide_eq_true_eq];exact he
          · rw[List.getLast?_eq_getElem?,List.getElem?_eq_getElem (by rw[←hI.len];omega),e2];simp[nth,List.getElem?_eq_getElem (show ix.length - 1<ix.length by rw[←hI.len];omega)]⟩ (P0:=P0) (by
        rw[List.length_append,List.length_cons,List.length_nil,Nat.zero_add,zds,zv7 l [s] ix [x] hI.len l.length (Nat.le_refl _),zix];rw[show nth (ix++[x]) l.length=x by rw[hI.len,zoz]];exact zae.2 ⟨p,hr,zae (a:=[jd (l++[s]) 0 l.length,s.2 - s.1]) (b:=[x]).2 ⟨r,d3,r2,t3,rfl⟩⟩)
       refine⟨b1,b2,?_⟩;rw[b3,List.length_append,List.length_cons,List.length_nil];omega
theorem zv9 (L:List Seg) (i:Nat):∀d,d≤L.length→itB (yd L) ((yq L).map fun (n:Nat)=>(n:Int)) i d=((L.take d).filter fun p=>decide (p.2=i)).map (·.1)
 | 0,_=>by simp[itB]
 | d+1,h=>by
   have e1:zb (yd L) d=L[d].1:=by rw[qf (by rw[zan];exact h)];simp[yd]
   have e2:zda ((yq L).map fun (n:Nat)=>(n:Int)) d=(L[d].2:Int):=by rw[zk2 (by simp[yq];exact h)];simp[yq]
   rw[itB,zv9 L i d (by omega),e1,e2,List.take_succ_eq_append_getElem h,List.filter_append,List.map_append];congr 1;by_cases e:L[d].2=i
   · rw[if_pos (by omega),List.filter_cons_of_pos (by simpa using e)];rfl
   · rw[if_neg (by omega),List.filter_cons_of_neg (by simpa using e)];rfl
abbrev zo0 (p q:Seg):Prop:=p.1.2<q.1.1∧(p.2=q.2→p.1.2+1<q.1.1)
theorem zwa {N:Nat} {L:List Seg} (h:SInv N (yd L) (yq L)):L.Pairwise zo0∧∀p∈L,p.1.1≤p.1.2∧p.2<N:=by
 have at1:∀i (hi:i<L.length),zb (yd L) i=L[i].1:=fun i hi=>by rw[qf (by rw[zan];exact hi)];simp[yd]
 have at2:∀i (hi:i<L.length),nth (yq L) i=L[i].2:=fun i hi=>by simp[nth,yq,hi]
 have one:∀i (hi:i<L.length),L[i].1.1≤L[i].1.2:=fun i hi=>by
  have:=(h.diff i (by rw[zan];exact hi)).1;rwa [at1 i hi] at this
 have stp:∀i (hi:i+1<L.length),zo0 L[i] L[i+1]:=fun i hi=>by
  have h1:=(h.diff (i+1) (by rw[zan];exact hi)).2 (by omega);rw[show i+1 - 1=i by omega,at1 (i+1) hi,at1 i (by omega)] at h1;refine⟨by omega,fun e=>?_⟩;rcases Nat.lt_or_ge (L[i].1.2+1) L[i+1].1.1 with h2 | h2
  · exact h2
  · have h3:=h.apart (i+1) (by omega) (by rw[zan];exact hi) (by rw[show i+1 - 1=i by omega,at1 (i+1) hi,at1 i (by omega)];omega);rw[show i+1 - 1=i by omega,at2 (i+1) hi,at2 i (by omega)] at h3;exact absurd e.symm h3
 refine⟨List.pairwise_iff_getElem.2 fun i j hi hj hij=>?_,fun p hp=>?_⟩
 · obtain⟨d,rfl⟩:∃d,j=i+1+d:=⟨j - i - 1,by omega⟩;clear hij
   induction d with
   | zero=>exact stp i hj
   | succ d ih=>
    have h1:=ih (by omega);have h2:=stp (i+1+d) hj;have h3:=one (i+1+d) (by omega);have e:L[i+1+d+1]'hj=L[i+1+(d+1)]'hj:=rfl;rw[e] at h2;exact⟨by have:=h1.1;have:=h2.1;omega,fun _=>by have:=h1.1;have:=h2.1;omega⟩
 · obtain⟨i,hi,rfl⟩:=List.getElem_of_mem hp;refine⟨one i hi,?_⟩;have:=h.idx i (by rw[zan];exact hi);rwa [at2 i hi] at this
theorem zwb:∀{l:List Iv},(l.Pairwise fun s t=>s.2+1<t.1)→(∀s∈l,s.1≤s.2)→Good l
 | [],_,_=>zj0 fun i hi=>(by simp at hi)
 | s :: l,h,h2=>by
   obtain⟨a,b⟩:=List.pairwise_cons.1 h;exact zmg (h2 s List.mem_cons_self) a (zwb b fun t ht=>h2 t (List.mem_cons_of_mem _ ht))
end
section
open Go.RowKit
attribute [local go_sem] vq
theorem wk0 {w:World} {base R U C:Nat} {L:zt} (hR:Row w R 123 (wkC L (.iface 116 (.agg #[])) (.slice none 0 0) U C .nilIface)) (hU:UsedM w U []) (hC:Row w C 183 (jw C 0 0 none false)) (b1:base≤R) (b2:base≤U) (b3:base≤C):WkR w base R L ws0:=
 ⟨b1,_,_,U,C,b2,b3,hR,hU,rfl,z5h _ _,hC⟩
set_option maxRecDepth 20000 in
theorem z68 (L:zt) (w:World):Calls Tryz.prog 28 #[lmV L] w fun e w'=>∃R,e=.returned (.pointer (some ⟨R,0,none⟩))∧WkR w' w.heap.size R L ws0∧Below w.heap.size w w':=by
 unfold lmV;have HS:=hid (fun W=>ztz 0 W);have hmm:=@run_makeMap Tryz.prog;have hX:=zcd w 42 [.int .i64 L.1,.int .i64 L.2.1,.int .i64 L.2.2.1,.int .i64 L.2.2.2.1,.int .i64 L.2.2.2.2];have HX:=hid hX
 have HLim:=hid (fun W W' (h1:Below (w.heap.size+1) (w.alloc (.cells #[.int .i64 L.1,.int .i64 L.2.1,.int .i64 L.2.2.1,.int .i64 L.2.2.2.1,.int .i64 L.2.2.2.2] 42)) W) (h2:Below W.heap.size W W')=>
  have h:=(hX.below h1 (by omega)).later h2
  And.intro (h.cell 0 rfl) (And.intro (h.cell 1 rfl) (And.intro (h.cell 2 rfl) (And.intro (h.cell 3 rfl) (h.cell 4 rfl)))))
 clear hX;go_enter Tryz.func28,Tryz.ntmps28;go_wp2;go_region_law (go_simp;go_at_call 63;refine(HS.out _).mono ?_;rintro e w1 ⟨rfl,hr1,hb1⟩;obtain⟨l0,l1,l2,l3,l4⟩:=HLim.out _ w1 (by repeat (first | exact Below.refl _ _ | refine Below.alloc ?_ (by simp) _ | refine Below.drew ?_ | refine ye ?_ _)) hb1;have ho:=fun o=>HLim.out _ (w1.alloc o) (by repeat (first | exact Below.refl _ _ | refine Below.alloc ?_ (by simp) _ | refine Below.drew ?_ | refine ye ?_ _)) (hb1.alloc hb1.size o);have o0:=fun o=>(ho o).1;have o1:=fun o=>(ho o).2.1;have o2:=fun o=>(ho o).2.2.1;have o3:=fun o=>(ho o).2.2.2.1;have o4:=fun o=>(ho o).2.2.2.2;clear ho;have Hr1:=hid hr1;have Hb1:=hid hb1;clear hr1 hb1)
 all_goals go_wp2
 all_goals go_ret
 all_goals clear HLim HX HS hmm l0 l1 l2 l3 l4 o0 o1 o2 o3 o4
 all_goals first
  | (have hb:=Hb1.out
     have hr:=Hr1.out
     have hU:UsedM w1 (w.heap.size+1) []:=by
      have h0:=zux (w.alloc (.cells #[.int .i64 L.1,.int .i64 L.2.1,.int .i64 L.2.2.1,.int .i64 L.2.2.2.1,.int .i64 L.2.2.2.2] 42));rw[World.size_alloc] at h0;exact h0.same (hb.block _ (by simp))
     have hz:=hb.size;simp at hz;simp at hr;have hal:=(Below.refl w1.heap.size w1).alloc (Nat.le_refl _) (.cells #[.int .i64 L.1,.int .i64 L.2.1,.int .i64 L.2.2.1,.int .i64 L.2.2.2.1,.int .i64 L.2.2.2.2,.iface 116 (.agg #[]),.slice none 0 0,.map (some (w.heap.size+1)),.pointer (some ⟨w.heap.size+1+1,0,none⟩),.nilIface] 123)
     exact⟨_,rfl,wk0 (zcd w1 _ _) (hU.same (hal.block _ hU.lt)) (hr.later hal) (by omega) (by omega) (by omega),(Below.trans (by repeat (first | exact Below.refl _ _ | refine Below.alloc ?_ (by simp) _ | refine Below.drew ?_ | refine ye ?_ _)) (hb.mono (by simp;omega))).trans (hal.mono (by omega))⟩)
  | (have hb:=Hb1.out
     have hr:=Hr1.out;have hz:=hb.size;simp at hr;simp at hz;have hU:UsedM (w1.alloc (.map #[] 0)) w1.heap.size []:=zux w1;have hm:=(Below.refl w1.heap.size w1).alloc (Nat.le_refl _) (.map #[] 0);have hal:=(Below.refl (w1.alloc (.map #[] 0)).heap.size (w1.alloc (.map #[] 0))).alloc (Nat.le_refl _) (.cells #[.int .i64 L.1,.int .i64 L.2.1,.int .i64 L.2.2.1,.int .i64 L.2.2.2.1,.int .i64 L.2.2.2.2,.iface 116 (.agg #[]),.slice none 0 0,.map (some w1.heap.size),.pointer (some ⟨w.heap.size+1,0,none⟩),.nilIface] 123);have hrow:=zcd (w1.alloc (.map #[] 0)) 123 [.int .i64 L.1,.int .i64 L.2.1,.int .i64 L.2.2.1,.int .i64 L.2.2.2.1,.int .i64 L.2.2.2.2,.iface 116 (.agg #[]),.slice none 0 0,.map (some w1.heap.size),.pointer (some ⟨w.heap.size+1,0,none⟩),.nilIface];rw[World.size_alloc] at hrow;exact⟨_,rfl,wk0 hrow (hU.same (hal.block _ hU.lt)) ((hr.later hm).later hal) (by omega) (by omega) (by omega),(Below.trans (by repeat (first | exact Below.refl _ _ | refine Below.alloc ?_ (by simp) _ | refine Below.drew ?_ | refine ye ?_ _)) (hb.mono (by simp))).trans ((hm.mono (by omega)).trans (hal.mono (by simp;omega)))⟩)
end
section
def itL (L:List Seg) (i:Nat):List Iv:=(L.filter fun p=>decide (p.2=i)).map (·.1)
def zao (vs:List Vec) (L:List Seg):Kno:=vo vs (yd L) (yq L)
theorem zdt (vs:List Vec) (L:List Seg):(zao vs L).length=vs.length:=zs9 _ _ _ _
theorem zf3 {vs:List Vec} {L:List Seg} {i:Nat} (h:i<vs.length):za (zao vs L) i=(itL L i,vg vs i):=by
 have:=z2p (vs:=vs) (l:=yd L) (ix:=(yq L).map fun (n:Nat)=>(n:Int)) (d:=(yd L).length) h;rw[zv9 L i _ (by rw[zan];exact Nat.le_refl _),zan,List.take_length] at this;unfold zao vo zk3;rw[zan];exact this
theorem zls {L:List Seg} {i:Nat} {s:Iv} (h:s∈itL L i):(s,i)∈L:=by
 obtain⟨p,hp,rfl⟩:=List.mem_map.1 h;obtain⟨h1,h2⟩:=List.mem_filter.1 hp;have e:p.2=i:=of_decide_eq_true h2;subst e;exact h1
theorem z69 {L:List Seg} (h:L.Pairwise zo0):∀p∈L,∀q∈L,p=q∨p.1.2<q.1.1∨q.1.2<p.1.1:=by
 intro p hp q hq;obtain⟨i,hi,rfl⟩:=List.getElem_of_mem hp;obtain⟨j,hj,rfl⟩:=List.getElem_of_mem hq;rcases Nat.lt_trichotomy i j with h1 | h1 | h1
 · exact .inr (.inl (List.pairwise_iff_getElem.1 h i j hi hj h1).1)
 · subst h1;exact .inl rfl
 · exact .inr (.inr (List.pairwise_iff_getElem.1 h j i hj hi h1).1)
theorem zwc {le lh:Int} {vs:List Vec} {L:List Seg} (hv:VsInv le lh vs) (hs:SInv vs.length (yd L) (yq L)) (hne:∀f∈zao vs L,f.1≠[]):CanK (zao vs L)∧LtK (zao vs L):=by
 obtain⟨h1,h2⟩:=zwa hs
 have hmem:∀f∈zao vs L,∃i,i<vs.length∧f=(itL L i,vg vs i):=fun f hf=>by
  obtain⟨i,hi,rfl⟩:=List.getElem_of_mem hf;have hi':=hi;rw[zdt] at hi';exact⟨i,hi',by rw[←ym hi,zf3 hi']⟩
 have hgood:∀i,Good (itL L i):=fun i=>zwb (List.pairwise_map.2 ((h1.filter _).imp_of_mem fun {p q} hp hq hpq=>by
  have e1:p.2=i:=of_decide_eq_true (List.mem_filter.1 hp).2;have e2:q.2=i:=of_decide_eq_true (List.mem_filter.1 hq).2;exact hpq.2 (by rw[e1,e2]))) fun s hs=>(h2 _ (zls hs)).1
 refine⟨⟨fun f hf=>?_,fun f hf=>?_,fun f hf g hg x hx hy=>?_,?_⟩,fun f hf=>?_⟩
 · obtain⟨i,hi,rfl⟩:=hmem f hf;exact⟨hgood i,hne _ hf⟩
 · obtain⟨i,hi,rfl⟩:=hmem f hf;have:=hv.all _ (zn7 hi);exact⟨this.1,this.2.2.1⟩
 · obtain⟨i,hi,rfl⟩:=hmem f hf;obtain⟨j,hj,rfl⟩:=hmem g hg;obtain⟨s,hs1,hs2,hs3⟩:=mem_iff.1 hx;obtain⟨t,ht1,ht2,ht3⟩:=mem_iff.1 hy;rcases z69 h1 _ (zls hs1) _ (zls ht1) with e | e | e
   · have e':i=j:=congrArg Prod.snd e;subst e'
     rfl
   · simp only at e;omega
   · simp only at e;omega
 · refine List.pairwise_iff_getElem.2 fun i j hi hj hij=>?_
   have hi':=hi;have hj':=hj;rw[zdt] at hi' hj';have h3:=List.pairwise_iff_getElem.1 hv.asc i j hi' hj' hij;unfold jy;rw[←ym hi,←ym hj,zf3 hi',zf3 hj',zea hi',zea hj'];exact h3
 · obtain⟨i,hi,rfl⟩:=hmem f hf;have:=hv.all _ (zn7 hi);exact⟨fun s hs'=>hs.lt s (List.mem_map.2 ⟨_,zls hs',rfl⟩),this.2.1,this.1.asc⟩
theorem z7a {n:Nat}:∀{L:List Seg},(∀p∈L,p.2<n)→L.Perm ((List.range n).flatMap fun i=>L.filter fun p=>decide (p.2=i)):=by
 induction n with
 | zero=>
  intro L h
  cases L with
  | nil=>simp
  | cons p L=>exact absurd (h p List.mem_cons_self) (by omega)
 | succ n ih=>
  intro L h;rw[List.range_succ,List.flatMap_append];have e:((L.filter fun p=>decide (p.2=n))++(L.filter fun p=> !decide (p.2=n))).Perm L:=List.filter_append_perm _ _;refine e.symm.trans (List.perm_append_comm.trans ?_)
  have h1:=ih (L:=L.filter fun p=> !decide (p.2=n)) (fun p hp=>by
   obtain⟨a,b⟩:=List.mem_filter.1 hp;have:=h p a;have b':p.2≠n:=by simpa using b
   omega)
  have e2:((List.range n).flatMap fun i=>(L.filter fun p=> !decide (p.2=n)).filter fun p=>decide (p.2=i))=(List.range n).flatMap fun i=>L.filter fun p=>decide (p.2=i):=by
   rw[List.flatMap_def,List.flatMap_def];refine congrArg List.flatten (List.map_congr_left fun i hi=>?_);rw[List.filter_filter];refine List.filter_congr fun p _=>?_
   have:=List.mem_range.1 hi;by_cases hp:p.2=i
   · have:p.2≠n:=by omega
     simp[hp];omega
   · simp[hp]
  rw[e2] at h1;refine h1.append ?_;simp
theorem zwd (c:Kno):∀d,d≤c.length→y8 c d=c.length :: ((vsK c).take d).flatMap vw
 | 0,_=>by simp[y8]
 | d+1,h=>by
   rw[y8,zwd c d (by omega),List.take_succ_eq_append_getElem (by rw[zfa];exact h),zlr h,List.flatMap_append];simp
theorem z7b (vs:List Vec) (L:List Seg):vsK (zao vs L)=vs:=by
 refine List.ext_getElem (by rw[zfa,zdt]) fun i h1 h2=>?_
 rw[zlr (by rw[zdt];exact h2),zf3 h2,zea h2]
theorem z7c {le lh:Int} {vs:List Vec} {L:List Seg} (hv:VsInv le lh vs) (hs:SInv vs.length (yd L) (yq L)) (hne:∀f∈zao vs L,f.1≠[]):(zj (zao vs L)).map (·.1)=yd L∧(zj (zao vs L)).map (·.2)=yq L:=by
 obtain⟨hc,hl⟩:=zwc hv hs hne;obtain⟨h1,h2⟩:=zwa hs
 have hp:(yd L).Perm (vt (zao vs L)):=by
  have e:=(z7a (n:=vs.length) (L:=L) fun p hp=>(h2 p hp).2).map (·.1);refine e.trans ?_;rw[List.map_flatMap]
  have:vt (zao vs L)=(List.range vs.length).flatMap fun i=>(L.filter fun p=>decide (p.2=i)).map (·.1):=by
   unfold vt
   have:zao vs L=(List.range vs.length).map fun i=>(itL L i,vg vs i):=List.ext_getElem (by rw[zdt];simp) fun i a b=>by
    rw[zdt] at a;rw[←ym,zf3 a,List.getElem_map,List.getElem_range]
   rw[this,List.flatMap_map]
   rfl
  rw[this]
 have ha:zfp (yd L):=fun i j hij hj=>by
  rw[zan] at hj;have h3:=(List.pairwise_iff_getElem.1 h1 i j (by omega) hj hij).1;have h4:=(h2 _ (List.getElem_mem (show i<L.length by omega))).1;rw[qf (by rw[zan];omega),qf (by rw[zan];exact hj)];simp only[yd,List.getElem_map];omega
 obtain⟨e1,e2⟩:=zn5 hc hp ha;refine⟨e1.symm,?_⟩;rw[←e2];unfold yd yq;rw[List.map_map];refine List.map_congr_left fun p hp=>?_
 have hi:=(h2 p hp).2
 have:=zs1 hc (i:=p.2) (s:=p.1) (by rw[zdt];exact hi) (by
  rw[zf3 hi];exact List.mem_map.2 ⟨p,List.mem_filter.2 ⟨hp,decide_eq_true rfl⟩,rfl⟩)
 exact this
theorem z7d {T:yo} (hT:T64 T) {E p q:Nat} {L:zt} {c:Kno} (h:zat T E L p=.ok (c,q)):CanK c∧LtK c∧okK L c∧jr T p (zk c) q∧E≤q:=by
 unfold zat at h;obtain⟨n,r,h1,h2⟩:=kh h;obtain⟨t1,c1⟩:=ziw h1;obtain⟨vs,r2,h3,h4⟩:=kh h2;obtain⟨a1,a2,a3⟩:=zv5 hT n [] h3 ⟨fun v hv=>(by cases hv),List.Pairwise.nil⟩ (P0:=r) rfl;have hn:vs.length=n:=by simpa using a3
 unfold zch at h4;obtain⟨m,r3,h5,h6⟩:=kh h4;obtain⟨t2,c2⟩:=ziw h5;obtain⟨⟨l,ix⟩,r4,h7,h8⟩:=kh h6;obtain⟨b1,b2,b3⟩:=zv8 hT m [] [] h7 ⟨fun i hi=>(by simp at hi),fun t ht=>(by cases ht),rfl,fun i hi=>(by simp at hi),fun i _ hi=>(by simp at hi)⟩ (P0:=r3) rfl;have hm:l.length=m:=by simpa using b3
 simp only at h8;obtain⟨S,e1,e2⟩:∃S:List Seg,yd S=l∧yq S=ix:=⟨l.zip ix,List.map_fst_zip (by rw[b2.len];exact Nat.le_refl _),List.map_snd_zip (by rw[b2.len];exact Nat.le_refl _)⟩;subst e1 e2;unfold zbi at h8;split at h8
 · cases h8
 · rename_i h9;split at h8
   · cases h8
   · rename_i h10;cases h8;have hne:∀f∈zao vs S,f.1≠[]:=fun f hf e=>h9 ⟨f,hf,e⟩
     obtain⟨g1,g2⟩:=zwc a2 b2 hne;obtain⟨g3,g4⟩:=z7c a2 b2 hne;have hsl:(zj (zao vs S)).length=(yd S).length:=by rw[←g3,List.length_map]
     refine⟨g1,g2,⟨?_,fun i hi=>?_,?_⟩,?_,by omega⟩
     · show okC (zao vs S).length _;rw[zdt,hn];exact c1
     · have hi':i<vs.length:=by rw[←zdt vs S];exact hi
       show okV _ _ (za (zao vs S) i).2;rw[zf3 hi'];exact(a2.all _ (zn7 hi')).2.2.2
     · show okC (zj (zao vs S)).length _;rw[hsl,hm];exact c2
     · show jr T p (zk (zao vs S)) _;unfold zk;rw[g3,g4,hsl,zwd _ _ (Nat.le_refl _),List.take_of_length_le (by rw[zfa];exact Nat.le_refl _),z7b,zdt,zv6];refine zae.2 ⟨r2,⟨r,by rw[hn];exact t1,a1⟩,⟨r3,by rw[hm];exact t2,b1⟩⟩
end
section
open Go.RowKit
attribute [local go_sem] vq
def zbj (B:Nat):Value:=.iface 192 (.pointer (some ⟨B,0,none⟩))
structure SRows (w:World) (base R:Nat) (L:zt) (part K:Value) (U C B:Nat) (S Cu:List Value) (ix:List Nat) (vs:List Vec) (l:List Iv):Prop where
 row:Row w R 123 (wkC L part K U C .nilIface)
 srow:Row w B 194 S
 cur:Row w C 183 Cu
 used:UsedM w U ix
 seg:SegM w base K vs l ix
section
variable {w w':World} {base R:Nat} {L:zt} {part K:Value} {U C B:Nat} {S Cu:List Value} {ix:List Nat} {vs:List Vec} {l:List Iv}
theorem SRows.later (h:SRows w base R L part K U C B S Cu ix vs l) (hb:Below w.heap.size w w'):SRows w' base R L part K U C B S Cu ix vs l:=
 ⟨h.row.later hb,h.srow.later hb,h.cur.later hb,h.used.same (hb.block U h.used.lt),h.seg.later hb⟩
theorem SRows.setB (h:SRows w base R L part K U C B S Cu ix vs l) (i:Nat) (v:Value):SRows (w.setCell ⟨B,i,none⟩ v) base R L part K U C B (S.set i v) Cu ix vs l:=by
 have g:=za7 w B i v;exact⟨h.row.grown g (fun e=>by injection e with e;exact h.row.ne h.srow (by decide) e),h.srow.set i v,h.cur.grown g (fun e=>by injection e with e;exact h.srow.ne h.cur (by decide) e.symm),h.used.grownT h.srow g,h.seg.grown (h.srow.notT (by rintro(h | h | h) <;> cases h)) g⟩
theorem SRows.curs (h:SRows w base R L part K U C B S Cu ix vs l) {Cu':List Value} (hc:Row w' C 183 Cu') (g:w.grownBy w' (some C)):SRows w' base R L part K U C B S Cu' ix vs l:=
 ⟨h.row.grown g (fun e=>by injection e with e;exact h.row.ne h.cur (by decide) e),h.srow.grown g (fun e=>by injection e with e;exact h.srow.ne h.cur (by decide) e),hc,h.used.grownT h.cur g,h.seg.grown (h.cur.notT (by rintro(h | h | h) <;> cases h)) g⟩
end
theorem SRows.wkr {w:World} {base R:Nat} {L:zt} {K:Value} {U C B:Nat} {last:Int} {touch:Bool} {lo0:Nat} {s:WS} {Cu:List Value} (h:SRows w base R L (zbj B) K U C B (sgC s.left s.turn last touch) Cu s.ix s.vs s.l) (ht:s.tag=3) (hR:base≤R) (hU:base≤U) (hC:base≤C) (hB:base≤B)
 (h1:∀x,s.ix.getLast?=some x→last=(x:Int)) (h2:1≤s.turn→touch=s.tch) (h3:Cu=cuC C lo0 s):WkR w base R L s:=by
 refine⟨hR,_,K,U,C,hU,hC,h.row,h.used,?_⟩;unfold WkB;simp only[ht];exact⟨B,rfl,hB,h.seg,last,touch,lo0,h.srow,h1,h2,by rw[←h3];exact h.cur⟩
def zwe (s:WS) (p:Nat) (r:Option Nat):Except (Nat×Nat) WS:=match r with | none=>.error (8,p) | some lo=>.ok { s with turn:=1,lo:=lo,tch:=zdc s.l lo }
theorem z7e {l:List Iv} {x z:Nat} (h:loP (jv l) 0 x=some z):zdc l z=(l.getLast?.isSome && decide (x=0)):=by
 unfold zdc jv at*
 cases hg:l.getLast? with
 | none=>rfl
 | some t=>
  rw[hg] at h;simp only[Option.map,loP] at h;split at h
  · injection h with h;subst h;simp only[Option.map,Option.isSome,Bool.true_and];rw[Bool.eq_iff_iff];simp only[decide_eq_true_eq];omega
  · cases h
set_option maxRecDepth 100000 in
theorem z7f (base R:Nat) (L:zt) (s:WS) (K:Value) (U C B rest x p lo0:Nat) (last:Int) (touch:Bool) (w0 w:World) (ht:s.tag=3) (hR0:base≤R) (hU:base≤U) (hC:base≤C) (hB0:base≤B) (hb0:Below base w0 w) (htu:s.turn=0)
 (hS:SRows w base R L (zbj B) K U C B (sgC s.left 0 last touch) (jw C 0 lo0 s.l.getLast? false) s.ix s.vs s.l) (hla:∀x,s.ix.getLast?=some x→last=(x:Int)) (hl:zq s.l) (hx:x<18446744073709551616) (r:Option Nat) (hr:loP (jv s.l) 0 x=r):
 Calls Tryz.prog 115 #[.pointer (some ⟨R,0,none⟩),.pointer (some ⟨B,0,none⟩),.int .u64 (x:Int),.int .i64 (p:Int),.int .i64 (rest:Int)] w (WkS w0 base R L (zwe s p r)):=by
 have Ht:=hid ht;have Htu:=hid htu;have Hla:=hid hla;have Hx:=hid hx;have Hl:=hid hl;have Htc:=hid (fun z (h:r=some z)=>z7e (hr.trans h));have Hr:=hid hr;have HS:=hid hS;have Hb0:=hid hb0;have HLa:=hid (zt2 C 0 lo0 s.l.getLast? false w hS.cur);have hbw:base≤w.heap.size:=by have:=hS.row.lt;omega
 have Hbw:=hid hbw;have q8:=hS.row.cell 8 rfl;have v1:w.cell? ⟨B,1,none⟩=some (.int .i64 0):=hS.srow.cell 1 rfl;clear ht htu hla hx hl hr hS hb0 hbw;generalize hg:s.l.getLast?.isSome=b at*;have Hg:=hid hg;clear hg;generalize hz:s.l.getLast?.getD (0,0)=z0 at*;clear hz;obtain⟨z1,z2⟩:=z0;unfold ivV at HLa;simp only at HLa
 cases r with
 | none=>
  have HN:=hid (fun W=>zb7 (c:=8) (o:=p) (by decide) W);cases b
  all_goals
   by_cases hx0:x=0
  all_goals
   have hx1:((x:Int) == 0)=decide (x=0):=by
    rw[Bool.eq_iff_iff,beq_iff_eq,decide_eq_true_iff];omega
   first
    | rw[decide_eq_true hx0] at hx1
    | rw[decide_eq_false hx0] at hx1
   have Hx0:=hid (show decide (x=0)=decide (x=0) from rfl)
   first
    | rw[show decide (x=0)=true from decide_eq_true hx0] at Htc
    | rw[show decide (x=0)=false from decide_eq_false hx0] at Htc
   clear hx0 Hx0;go_enter Tryz.func115,Tryz.ntmps115;go_wp2_with fail;refine HLa.out.mono ?_;rintro e w1 ⟨rfl,hb1⟩;have hS1:=(HS.out.later hb1).later ((Below.refl w1.heap.size w1).alloc (Nat.le_refl _) (.cells #[.int .u64 (z1:Int),.int .u64 (z2:Int)] 99));have s3:=hS1.srow.cell 3 rfl;have y3:=hS1.srow.fz 3;have HS2:=hid (fun tv=>show SRows ((w1.alloc (.cells #[.int .u64 (z1:Int),.int .u64 (z2:Int)] 99)).setCell ⟨B,3,none⟩ (.bool tv)) base R L (zbj B) K U C B (sgC s.left 0 last tv) (jw C 0 lo0 s.l.getLast? false) s.ix s.vs s.l from hS1.setB 3 (.bool tv));have HLo:=hid (fun tv=>zof C 0 lo0 x s.l.getLast? _ (HS2.out tv).cur (fun t ht=>(Hl.out t (List.mem_of_getLast? ht)).2) (by omega) Hx.out);have Hb2:=hid (fun tv=>Hb0.out.trans (((hb1.mono Hbw.out).trans ((Below.refl base w1).alloc (Nat.le_trans Hbw.out hb1.size) (.cells #[.int .u64 (z1:Int),.int .u64 (z2:Int)] 99))).setCell (p:=⟨B,3,none⟩) hB0 (.bool tv)));have p8:=hS1.row.cell 8 rfl;have hneB:=hS1.row.ne hS1.srow (by decide);clear hb1 hS1 q8 v1;unfold jv at Hr;rw[Hr.out] at HLo;go_wp2_with fail;refine(HLo.out _).mono ?_;rintro e w3 ⟨rfl,hc3,hg3⟩;have HS3:=hid ((HS2.out _).curs hc3 hg3);have Hb3:=hid ((Hb2.out _).grown hg3 (Nat.le_trans hR0 (Nat.le_of_lt (HS2.out _).row.lt)) (fun k hk=>by injection hk with hk;omega));clear hc3 hg3 s3 y3;go_wp2_with fail;refine(HN.out _).mono ?_;rintro e w' ⟨rfl,rfl⟩;go_wp2_with fail;go_ret
   exact⟨Hb3.out,rfl,_,HS3.out.row,rfl⟩
 | some z=>
  have Htz:=hid (Htc.out z rfl);cases b
  all_goals
   by_cases hx0:x=0
  all_goals
   have hx1:((x:Int) == 0)=decide (x=0):=by
    rw[Bool.eq_iff_iff,beq_iff_eq,decide_eq_true_iff];omega
   first
    | rw[decide_eq_true hx0] at hx1
    | rw[decide_eq_false hx0] at hx1
   have Hx0:=hid (show decide (x=0)=decide (x=0) from rfl)
   first
    | rw[show decide (x=0)=true from decide_eq_true hx0] at Htz
    | rw[show decide (x=0)=false from decide_eq_false hx0] at Htz
   clear hx0 Hx0;go_enter Tryz.func115,Tryz.ntmps115;go_wp2_with fail;refine HLa.out.mono ?_;rintro e w1 ⟨rfl,hb1⟩;have hS1:=(HS.out.later hb1).later ((Below.refl w1.heap.size w1).alloc (Nat.le_refl _) (.cells #[.int .u64 (z1:Int),.int .u64 (z2:Int)] 99));have s3:=hS1.srow.cell 3 rfl;have y3:=hS1.srow.fz 3;have HS2:=hid (fun tv=>show SRows ((w1.alloc (.cells #[.int .u64 (z1:Int),.int .u64 (z2:Int)] 99)).setCell ⟨B,3,none⟩ (.bool tv)) base R L (zbj B) K U C B (sgC s.left 0 last tv) (jw C 0 lo0 s.l.getLast? false) s.ix s.vs s.l from hS1.setB 3 (.bool tv));have HLo:=hid (fun tv=>zof C 0 lo0 x s.l.getLast? _ (HS2.out tv).cur (fun t ht=>(Hl.out t (List.mem_of_getLast? ht)).2) (by omega) Hx.out);have Hb2:=hid (fun tv=>Hb0.out.trans (((hb1.mono Hbw.out).trans ((Below.refl base w1).alloc (Nat.le_trans Hbw.out hb1.size) (.cells #[.int .u64 (z1:Int),.int .u64 (z2:Int)] 99))).setCell (p:=⟨B,3,none⟩) hB0 (.bool tv)));have p8:=hS1.row.cell 8 rfl;have hneB:=hS1.row.ne hS1.srow (by decide);clear hb1 hS1 q8 v1;unfold jv at Hr;rw[Hr.out] at HLo;go_wp2_with fail;refine(HLo.out _).mono ?_;rintro e w3 ⟨rfl,hc3,hg3⟩;have hS3:=(HS2.out _).curs hc3 hg3;have t1:w3.cell? ⟨B,1,none⟩=some (.int .i64 0):=hS3.srow.cell 1 rfl;have y1:=hS3.srow.fz 1;have HS4:=hid (hS3.setB 1 (.int .i64 1));have Hb3:=hid (((Hb2.out _).grown hg3 (Nat.le_trans hR0 (Nat.le_of_lt (HS2.out _).row.lt)) (fun k hk=>by injection hk with hk;omega)).setCell (p:=⟨B,1,none⟩) hB0 (.int .i64 1));clear hc3 hg3 s3 y3 hS3;go_wp2_with fail;go_ret;exact⟨Hb3.out,rfl,SRows.wkr (lo0:=0) (s:={ s with turn:=1,lo:=z,tch:=zdc s.l z }) HS4.out Ht.out hR0 hU hC hB0 Hla.out (fun _=>by rw[Htz.out];rfl) rfl⟩
def zlt (s:WS) (p x:Nat):Except (Nat×Nat) WS:=if s.lo+x<18446744073709551616 then .ok { s with turn:=2,hi:=s.lo+x } else .error (8,p)
set_option maxRecDepth 100000 in
theorem z7g (base R:Nat) (L:zt) (s:WS) (K:Value) (U C B rest x p:Nat) (last:Int) (touch:Bool) (w0 w:World) (ht:s.tag=3) (hR0:base≤R) (hU:base≤U) (hC:base≤C) (hB0:base≤B) (hb0:Below base w0 w)
 (hS:SRows w base R L (zbj B) K U C B (sgC s.left 1 last touch) (jw C 0 s.lo s.l.getLast? true) s.ix s.vs s.l) (hla:∀x,s.ix.getLast?=some x→last=(x:Int)) (hto:touch=s.tch) (hlo:s.lo<18446744073709551616) (hx:x<18446744073709551616):
 Calls Tryz.prog 115 #[.pointer (some ⟨R,0,none⟩),.pointer (some ⟨B,0,none⟩),.int .u64 (x:Int),.int .i64 (p:Int),.int .i64 (rest:Int)] w (WkS w0 base R L (zlt s p x)):=by
 have Ht:=hid ht;have Hla:=hid hla;have Hto:=hid hto;have HS:=hid hS;have Hb0:=hid hb0;have HHi:=hid (zt1 C 0 s.lo x s.l.getLast? w hS.cur hlo hx);have Hbw:=hid (show base≤w.heap.size by have:=hS.row.lt;omega);have q8:=hS.row.cell 8 rfl;have v1:w.cell? ⟨B,1,none⟩=some (.int .i64 1):=hS.srow.cell 1 rfl;clear ht hla hto hS hb0 hlo hx;unfold ziq at HHi;by_cases hc:s.lo+x<18446744073709551616
 · have HHi2:=hid (HHi.out.mono fun e w' h=>by rw[if_pos hc] at h;exact h);have Hv:=hid (show zlt s p x=.ok { s with turn:=2,hi:=s.lo+x } from if_pos hc);clear HHi hc;generalize hz:s.lo+x=z at*;clear hz;unfold ivV at HHi2;go_enter Tryz.func115,Tryz.ntmps115;go_wp2_with fail;refine HHi2.out.mono ?_;rintro e w1 ⟨rfl,hc1,hg1⟩;have hS1:=((HS.out).curs hc1 hg1).later ((Below.refl w1.heap.size w1).alloc (Nat.le_refl _) (.cells #[.int .u64 (s.lo:Int),.int .u64 (z:Int)] 99));have Hb1:=hid (((Hb0.out.grown hg1 (Nat.le_trans (by have:=Hb0.out.size;have:=Hbw.out;exact this) (Nat.le_refl _)) (fun k hk=>by injection hk with hk;omega)).alloc (by have:=Hbw.out;have:=hg1.size;omega) (.cells #[.int .u64 (s.lo:Int),.int .u64 (z:Int)] 99)).setCell (p:=⟨B,1,none⟩) hB0 (.int .i64 2));have t1:∀o,(w1.alloc o).cell? ⟨B,1,none⟩=some (.int .i64 1):=fun o=>(((HS.out).curs hc1 hg1).later ((Below.refl w1.heap.size w1).alloc (Nat.le_refl _) o)).srow.cell 1 rfl
   have y1:∀o,(w1.alloc o).frozen? ⟨B,1,none⟩=false:=fun o=>(((HS.out).curs hc1 hg1).later ((Below.refl w1.heap.size w1).alloc (Nat.le_refl _) o)).srow.fz 1
   have HS4:=hid (hS1.setB 1 (.int .i64 2));clear hc1 hg1 hS1 q8 v1;go_wp2_with fail;go_ret;exact⟨Hb1.out,by rw[Hv.out];exact⟨rfl,SRows.wkr (lo0:=s.lo) (s:={ s with turn:=2,hi:=z }) HS4.out Ht.out hR0 hU hC hB0 Hla.out (fun _=>Hto.out) rfl⟩⟩
 · have HHi2:=hid (HHi.out.mono fun e w' h=>by rw[if_neg hc] at h;exact h);have Hv:=hid (show zlt s p x=.error (8,p) from if_neg hc);have HN:=hid (fun W=>zb7 (c:=8) (o:=p) (by decide) W);clear HHi hc;unfold ivV at HHi2;go_enter Tryz.func115,Tryz.ntmps115;go_wp2_with fail;refine HHi2.out.mono ?_;rintro e w1 ⟨rfl,hc1,hg1⟩;have HS1:=hid (fun o=>((HS.out).curs hc1 hg1).later ((Below.refl w1.heap.size w1).alloc (Nat.le_refl _) o));have Hb1:=hid (fun o=>(Hb0.out.grown hg1 (by have:=Hbw.out;exact this) (fun k hk=>by injection hk with hk;omega)).alloc (by have:=Hbw.out;have:=hg1.size;omega) o);clear hc1 hg1 q8 v1;go_wp2_with fail;refine(HN.out _).mono ?_;rintro e w' ⟨rfl,rfl⟩;go_wp2_with fail;go_ret;exact⟨Hb1.out _,by rw[Hv.out];exact⟨rfl,_,(HS1.out _).row,rfl⟩⟩
end
end Go.Proofs.YtdnjfnofjaoajaaGreatDoor
