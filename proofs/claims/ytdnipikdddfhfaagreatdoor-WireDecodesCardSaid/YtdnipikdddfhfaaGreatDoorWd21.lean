/- Part 21. -/
import Derived.Test.YtdnipikdddfhfaaGreatDoorWd20
set_option linter.unusedVariables false
set_option maxHeartbeats 16000000
namespace Go.Proofs.YtdnipikdddfhfaaGreatDoor
open Lib (hid)
section
open Go.RowKit
theorem z0i (base:Nat) (v:Value) (l:List Iv) (w:World) (ho:w.ownsRow base 89 2 v l.length (ivC l)) (hl:∀s∈l,s.1<18446744073709551616∧s.2<18446744073709551616) (hn:l.length≤100000) (hb:base≤w.heap.size):
 Calls Tryz.prog 129 #[v,.func (.func 130) #[] #[]] w fun e w'=>e=.returned (.tuple #[])∧(∃l' a c,v=.slice a l.length c∧l'.Perm l∧zds l'∧Ivs w' a l.length c l'∧∀p,a=some p→p.off=0∧p.block<w'.heap.size)∧Below base w w':=by
 rcases ho.2 with ⟨rfl,h0⟩ | ⟨g,cap,cur,rfl,hg,hr,hnc,hcm,hcs,htake⟩
 · have:l=[]:=List.length_eq_zero_iff.1 h0;subst this;refine(zy4 w).mono ?_;rintro e w' ⟨rfl,rfl⟩;exact⟨rfl,⟨[],none,0,rfl,List.Perm.refl _,(fun i j h1 h2=>by simp at h2),zgu _,fun p h=>by cases h⟩,Below.refl _ _⟩
 · have hgl:g<w.heap.size:=(Array.getElem?_eq_some_iff.1 hr).1;refine(zv7 g l.length cap l w rfl (zm1 ho) hgl hn).mono ?_;rintro e w3 ⟨rfl,l',mm,os,hpm,hal,hw3⟩;have hs':l'.toArray.size=l.toArray.size:=by simpa using hpm.length_eq
   have hl':∀s∈l',s.1<18446744073709551616∧s.2<18446744073709551616:=fun s hs=>hl s (hpm.mem_iff.1 hs)
   have hI3:=zvk (m:=mm) os (zm1 ho) hs' hgl (by simpa using hl') (show l.toArray.size=l.length by simp) (by omega);have hb3:=zvj (n:=mm) l'.toArray os (base:=base) (g:=g) (w:=w) hg hb;rw[←hw3] at hI3 hb3;refine⟨rfl,⟨l',_,_,rfl,hpm,hal,zy7 (by simpa using hI3) hnc hcm,fun p h=>?_⟩,hb3⟩;cases h;exact⟨rfl,Nat.lt_of_lt_of_le hgl hb3.size⟩
def zb7 (k:Kno) (l:List Iv) (j:Nat):List Nat:=(l.take j).map (fun s=>zbp k s.1)++List.replicate (l.length - j) 0
theorem z0j (k:Kno) (l:List Iv):zb7 k l 0=List.replicate l.length 0:=by simp[zb7]
theorem z0k (k:Kno) (l:List Iv):zb7 k l l.length=l.map (fun s=>zbp k s.1):=by simp[zb7]
theorem z0l (k:Kno) (l:List Iv) {j:Nat} (h:j≤l.length):(zb7 k l j).length=l.length:=by simp[zb7];omega
theorem z0m (k:Kno) {l:List Iv} {j:Nat} (h:j<l.length):(qo (zb7 k l j)).set j (.int .i64 ((zbp k (za l j).1:Nat):Int))=qo (zb7 k l (j+1)):=by
 unfold zb7;have hl:(((l.take j).map fun s=>zbp k s.1)).length=j:=by simp;omega
 obtain⟨m,hm⟩:∃m,l.length - j=m+1:=⟨l.length - j - 1,by omega⟩;have hm':l.length - (j+1)=m:=by omega
 rw[hm,hm',List.replicate_succ,zgw,zgw,List.set_append_right _ _ (by rw[zm2,hl];exact Nat.le_refl _),zm2,hl,Nat.sub_self,List.take_succ_eq_append_getElem h,List.map_append,zgw,yw h,List.append_assoc]
 rfl
def z0n (k:Kno) (base:Nat) (x:Ending) (w':World):Prop:=∃l' a c gi,x=.returned (.tuple #[.slice a l'.length c,.slice (some ⟨gi,0,none⟩) l'.length l'.length])∧l'.Perm (jv k)∧zds l'∧Ivs w' a l'.length c l'∧
 w'.ownsRow base 3 1 (.slice (some ⟨gi,0,none⟩) l'.length l'.length) l'.length (qo (l'.map fun s=>zbp k s.1))
set_option maxRecDepth 20000 in
theorem z0o (a:Option Addr) (n cap:Nat) (k:Kno) (w:World) (hE:Frags w a n cap k) (hG:∀f∈k,Good f.1) (hS:zu k≤10000):
 Calls Tryz.prog 89 #[.slice a n cap] w fun x w'=>z0n k w.heap.size x w'∧Below w.heap.size w w':=by
 have HE:=hid hE;have Hl:=hid hE.len;have hm:n≤9223372036854775807:=Nat.le_trans hE.room hE.most;have HS:=hid (fun d=>Nat.le_trans (zy0 k d) hS)
 have Hlt:=hid (show ∀s∈jv k,s.1<18446744073709551616∧s.2<18446744073709551616 from fun s hs=>by
  obtain⟨f,hf,h⟩:=zhx.1 hs;exact(hE.all f hf).1 s h)
 have Hin:=hid (show ∀s∈jv k,∃f∈k,mem f.1 s.1=true from fun s hs=>by
  obtain⟨f,hf,h⟩:=zhx.1 hs;exact⟨f,hf,(zfs (hG f hf) h).1⟩)
 have HGL:=hid (show ∀f∈k,Good f.1∧f.1.length≤1000000 from fun f hf=>⟨hG f hf,by have:=zez hf;omega⟩);have Hall:=hid (show jv (k.take n)=jv k from by rw[←hE.len,List.take_length]);have Hone:=hid (fun f (hf:f∈k)=>Nat.le_trans (zez hf) hS);clear hE hG hS;go_enter Tryz.func89,Tryz.ntmps89;go_wp2;go_loopw [4,6,12] (fun v _ i wr=>∃d:Nat,d≤n∧i=.int .i64 d∧Below w.heap.size w wr∧Hid (wr.ownsRow w.heap.size 89 2 v (jv (k.take d)).length (ivC (jv (k.take d))))) (fun _ _ i _=>n - (intOf i).toNat)
 case atStart=>exact⟨0,by omega,rfl,Below.refl _ _,World.ownsRow_nil _ _ _ _⟩
 case round=>
  obtain⟨d,hd,rfl,hb,ho⟩:=hrel;have Hb:=hid hb;clear hb;by_cases hdn:d<n
  · have hdk:d<k.length:=by rw[Hl.out];exact hdn
    obtain⟨bb,oo,rfl⟩:=HE.out.some (by omega);obtain⟨x,m,c,y,m',c',hq⟩:=HE.out.fix hdn;obtain⟨q1,q2,q3,q4⟩:=hq wr Hb.out;have Hst:=hid (zkr hdk);have HSd:=hid (HS.out d);have Hfl:=hid (Hone.out _ (yx hdk));have Hlen:=hid (show (jv (k.take (d+1))).length=(jv (k.take d)).length+m from by rw[zkr hdk,List.length_append,q2.len]);have hal:Below wr.heap.size wr (wr.alloc (.cells #[.slice x m c,.slice y m' c'] 97)):=(Below.refl _ _).alloc (Nat.le_refl _) _;have HIa:=hid (q2.below hal).rd;have Hml:=hid q2.len;have HoA:=hid (qc ho.out hal);have Hal:=hid hal;have h0:(0:Int)≤d:=by omega
    have h04:(d:Int)<(n:Int):=by omega
    clear hq q2 q4 hal;generalize jv (k.take d)=F at*;generalize (zb k d).1=fi at*;go_wp2_with (at_builtin;refine zf1 rfl (.tmp 16) (.tmp 18) rfl rfl w.heap.size _ F.length F rfl HoA.out x m c fi rfl HIa.out (by have:=HSd.out;have:=Hfl.out;have:=Hml.out;omega) (by have:=Hb.out.size;have:=Hal.out.size;omega) ?_;intro v' w7 ho7 hg7);have Hb7:=hid (Below.grown (Hb.out.trans (Hal.out.mono Hb.out.size)) hg7 (by have:=Hb.out.size;have:=Hal.out.size;omega) (fun j hj=>(HoA.out.lt j hj).1));go_roundw
    case rel=>exact⟨d+1,by omega,by go_num,Hb7.out,by rw[Hlen.out,Hst.out];exact ho7⟩
    case measure=>simp[intOf];omega
  · obtain rfl:d=n:=by omega
    have hoF:=ho.out;clear ho;rw[Hall.out] at hoF;have HC:=hid (z0i w.heap.size _ (jv k) wr hoF Hlt.out (by have:=HS.out d;rw[Hall.out] at this;omega) Hb.out.size);have HN:=hid (show (jv k).length≤10000 from by have:=HS.out d;rwa [Hall.out] at this);clear hoF;go_wp2_with fail;refine HC.out.mono ?_;rintro e w3 ⟨rfl,⟨l',a',c',rfl,hpm,hasc,hI3,ha3⟩,hb3⟩;have Hb3:=hid (Hb.out.trans hb3);have Hpm:=hid hpm;have Hasc:=hid hasc;obtain⟨N,hN⟩:∃N,N=(jv k).length:=⟨_,rfl⟩;have hlN:l'.length=N:=by rw[hN];exact hpm.length_eq
    rw[←hN] at hI3 HN ⊢;have hN2:N≤10000:=HN.out;obtain⟨w4,hr4,ho4,hb4⟩:=zy6 w3 w.heap.size N (by omega) Hb3.out.size;obtain⟨gi,hgi⟩:∃gi,gi=w3.heap.size:=⟨_,rfl⟩;rw[←hgi] at hr4 ho4;have Hb4:=hid (Hb3.out.trans (hb4.mono Hb3.out.size));have HI4:=hid (hI3.below hb4);have Ho4:=hid (show w4.ownsRow w.heap.size 3 1 (.slice (some ⟨gi,0,none⟩) N N) N (qo (zb7 k l' 0)) from by rw[z0j,hlN];exact ho4);have HNl:=hid hlN;have hgi0:w.heap.size≤gi:=by rw[hgi];exact Hb3.out.size
    have Ha3:=hid (show ∀p,a'=some p→p.off=0∧p.block<gi from by rw[hgi];exact ha3);clear hpm hasc hI3 hN hlN ho4 hb4 hgi hb3 HC ha3;go_wp2;clear hr4;go_loopw [8,9,28] (fun _ _ i wq=>∃j:Nat,j≤N∧i=.int .i64 j∧Kept (fun b=>b≠gi) w4 wq∧Hid (wq.ownsRow w.heap.size 3 1 (.slice (some ⟨gi,0,none⟩) N N) N (qo (zb7 k l' j)))) (fun _ _ i _=>N - (intOf i).toNat)
    case atStart=>exact⟨0,by omega,rfl,Kept.refl _ _,Ho4⟩
    case round=>
     obtain⟨j,hj,rfl,hk,ho⟩:=hrel;have Hk:=hid hk;clear hk;by_cases hjN:j<N
     · obtain⟨bS,oS,rfl,hcS⟩:=HI4.out.cells (by omega);obtain⟨rfl,hbg⟩:=Ha3.out _ rfl;have HIr:=zpu HI4.out Hk.out (by simp only at hbg ⊢;omega);obtain⟨_,_,e,hcS⟩:=HIr.cells (by omega);cases e;obtain⟨q1,q2⟩:=hcS j hjN;have hjl:j<l'.length:=by rw[HNl.out];exact hjN
       have hmem:=Hpm.out.mem_iff.1 (zas hjl);have hpos:=zy1 (Hin.out _ hmem);have Hset:=hid (z0m k hjl);have Hlj:=hid (z0l k l' (Nat.le_of_lt hjl));have hbw:Below w.heap.size w wr:=Hb4.out.trans (Hk.out.toBelow (fun b hb=>by omega) Hb4.out.size);have Hbw:=hid hbw;have hal:Below wr.heap.size wr (wr.alloc (.cells #[.int .u64 ((za l' j).1:Nat),.int .u64 ((za l' j).2:Nat)] 89)):=(Below.refl _ _).alloc (Nat.le_refl _) _;have hF:=zz9 a d cap (za l' j).1 k _ (HE.out.below (hbw.trans (hal.mono hbw.size))) HGL.out;rw[hpos] at hF;have HF:=hid hF;have Hal:=hid hal;have h0:(0:Int)≤j:=by omega
       have h04:(j:Int)<(N:Int):=by omega
       generalize zbp k (za l' j).1=P at*;generalize za l' j=s at*;obtain⟨sx,sy⟩:=s;simp only at q1 q2 HF Hal;rw[Nat.zero_add] at q1 q2;clear hcS HIr hmem hpos hbw hal hF;go_wp2_with fail;refine HF.out.mono ?_;rintro e w6 ⟨rfl,hb6⟩;have Hb6:=hid (Hal.out.trans (hb6.mono Hal.out.size));have Ho6:=hid (qc ho.out Hb6.out);have z1:=zkk Ho6.out j;have z2:=Ho6.out.cells (g:=gi) rfl j _ (zgx _ j (by rw[Hlj.out];exact hjl));rw[yk,Nat.zero_add] at z2;clear hb6 q1 q2 hjl;go_wp2;go_roundw
       case rel=>exact⟨j+1,by omega,by go_num,(Hk.out.below Hb6.out).setCell (fun _ h=>h rfl) _,by rw[←Hset.out];exact(Ho6.out.stored j _).1⟩
       case measure=>simp[intOf];omega
     · obtain rfl:j=N:=by omega
       have HoE:=hid (show wr.ownsRow w.heap.size 3 1 (.slice (some ⟨gi,0,none⟩) l'.length l'.length) l'.length (qo (l'.map fun s=>zbp k s.1)) from by rw[←z0k,HNl.out];exact ho.out);have HbE:=hid (Hb4.out.trans (Hk.out.toBelow (fun b hb=>by omega) Hb4.out.size))
       have HIE:=hid (show Ivs wr a' l'.length c' l' from by
        rw[HNl.out];rcases Nat.eq_zero_or_pos j with h | h
        · exact⟨HI4.out.len,HI4.out.lt,HI4.out.room,HI4.out.most,HI4.out.nilc,fun h'=>by omega⟩
        · obtain⟨bS,oS,rfl,-⟩:=HI4.out.cells h;obtain⟨rfl,hbg⟩:=Ha3.out _ rfl;exact zpu HI4.out Hk.out (by simp only at hbg ⊢;omega))
       have HNE:=hid HNl.out.symm;go_wp2;go_ret2;exact⟨⟨l',a',c',gi,by rw[HNl.out];rfl,Hpm.out,Hasc.out,HIE.out,HoE.out⟩,HbE.out⟩
theorem zh5 {w:World} (base:Nat) (v:Value) (n:Nat) (xs:List Iv) (hown:w.ownsRow base 89 2 v n (ivC xs)) (A:Option Addr) (c:Nat) (s:Iv) (hr:Rd w 2 A 1 (ivC [s])) (hb:n+1≤1000000000000) (hbase:base≤w.heap.size):
 ∃v' w',(Builtin.append_ #[91,91] 91 #[v,.slice A 1 c]).run Tryz.prog w=.ok v' w'∧w'.ownsRow base 89 2 v' (n+1) (ivC (xs++[s]))∧w.grownBy w' v.ownBlock∧∀g',v'.ownBlock=some g'→v.ownBlock=some g'∨w.heap.size≤g':=by
 rcases hown.2 with ⟨rfl,h0⟩ | ⟨g,cap,cur,rfl,hg,hrow,hnc,hcm,hcs,htake⟩
 · have hx:xs=[]:=by
    have:=hown.1;rw[zfj,h0] at this;exact List.length_eq_zero_iff.1 (by omega)
   subst h0 hx;obtain⟨v',w',h1,h2,h3⟩:=zcp (w:=w) w.heap.size (.slice none 0 0) 0 [] (World.ownsRow_nil _ _ _ _) A 1 c [s] hr (by omega) (Nat.le_refl _);exact⟨v',w',h1,vz h2 hbase,h3,fun g' e=>.inr (h2.lt _ e).1⟩
 · obtain⟨i,hi,hz,hs,hby⟩:=info_parts Tryz.info_iv;obtain⟨b,o,rfl,hc⟩:=hr.2 (by omega);by_cases hf:n+1≤cap
   · obtain⟨w',r1,r2,r3⟩:=run_append_fits (P:=Tryz.prog) w base 91 91 89 i 2 Tryz.underlying91 hi hs g n cap _ hown ⟨b,o,none⟩ 1 c (ivC [s]) rfl (hr.news (by omega)) (zmn [s]) hf;exact⟨_,w',r1,by rw[zja];exact r2,r3,fun g' e=>.inl e⟩
   · obtain⟨v',w',r1,r2,r3⟩:=run_append_arg_grows (P:=Tryz.prog) w 91 91 89 i _ 2 16 Tryz.underlying91 hi hz hs hby rfl (by omega) ⟨g,0,none⟩ n cap (ivC xs) hown.1 (fun j u hu=>hown.cells (g:=g) rfl j u hu) ⟨b,o,none⟩ 1 c (ivC [s]) rfl (hr.news (by omega)) (by omega) (by unfold maxLen;omega) (by omega);exact⟨v',w',r1,by rw[zja];exact vz r2 hbase,⟨r3.os,r3.tape,r3.output,r3.size,fun k hk _=>r3.block k hk (by simp)⟩,fun g' e=>.inr (r2.lt _ e).1⟩
theorem qs {w w':World} {base sz n:Nat} {e:TypeId} {v:Value} {xs:List Value} (h:w.ownsRow base e sz v n xs) (hk:∀k,v.ownBlock=some k→w'.heap[k]?=w.heap[k]?):w'.ownsRow base e sz v n xs:=by
 refine⟨h.1,?_⟩;rcases h.2 with h2 | ⟨g,cap,cur,hv,hg,hh,r⟩
 · exact .inl h2
 · subst hv;exact .inr ⟨g,cap,cur,rfl,hg,(hk g rfl).trans hh,r⟩
theorem z0p {β:Type} (f:Nat→β) (n k:Nat) (a:β):((List.range n).map f).set k a=(List.range n).map fun i=>if i=k then a else f i:=by
 refine List.ext_getElem (by simp) fun i h1 h2=>?_
 rw[List.getElem_set];simp only[List.getElem_map,List.getElem_range];by_cases h:k=i
 · rw[if_pos h,if_pos h.symm]
 · rw[if_neg h,if_neg (fun e=>h e.symm)]
theorem zqn:∀(ss:List (Value×Value)) (k:Nat) (x:Value),(yi ss).set (k*2) x=yi (ss.set k (x,(ss.getD k (x,x)).2))
 | [],k,x=>by simp[yi]
 | s :: ss,0,x=>rfl
 | s :: ss,k+1,x=>by
   have e1:yi (s :: ss)=s.1 :: s.2 :: yi ss:=rfl;rw[e1,show (k+1)*2=k*2+1+1 by omega,List.set_cons_succ,List.set_cons_succ,zqn ss k x]
   rfl
def k7 (n:Nat) (X Y:Nat→Value):List Value:=yi ((List.range n).map fun i=>(X i,Y i))
def upd {β:Type} (X:Nat→β) (k:Nat) (x:β):Nat→β:=fun i=>if i=k then x else X i
theorem zbt {β:Type} (X:Nat→β) (k:Nat) (x:β):upd X k x k=x:=if_pos rfl
theorem zax {β:Type} (X:Nat→β) {k i:Nat} (x:β) (h:i≠k):upd X k x i=X i:=if_neg h
theorem zk3 {n k:Nat} (hk:k<n) (X Y:Nat→Value) (x:Value):(k7 n X Y).set (k*2) x=k7 n (upd X k x) Y:=by
 unfold k7;rw[zqn,z0p];congr 1;refine List.map_congr_left fun i hi=>?_
 by_cases h:i=k
 · subst h;simp[upd,hk]
 · simp[upd,h]
theorem zcy {n k:Nat} (hk:k<n) (X Y:Nat→Value):(k7 n X Y)[k*2]?=some (X k)∧(k7 n X Y)[k*2+1]?=some (Y k):=
 zf0 (p:=(X k,Y k)) (by simp[hk])
theorem z0q (n:Nat) (X Y:Nat→Value):k7 (n+1) X Y=k7 n X Y++[X n,Y n]:=by
 unfold k7;rw[List.range_succ,List.map_append,zhq]
 rfl
structure BldM (w2 w:World) (base g n c:Nat) (Y:Nat→Value) (L:Nat→List Iv) (X:Nat→Value):Prop where
 kept:Kept (fun b=>b<w2.heap.size∧b≠g) w2 w
 row:w.ownsRow base 97 2 (.slice (some ⟨g,0,none⟩) n c) n (k7 n X Y)
 its:∀i,i<n→w.ownsRow w2.heap.size 89 2 (X i) (L i).length (ivC (L i))
 apart:∀i,i<n→∀j,j<n→i≠j→∀b,(X i).ownBlock=some b→(X j).ownBlock≠some b
theorem BldM.cells {w2 w:World} {base g n c:Nat} {Y:Nat→Value} {L:Nat→List Iv} {X:Nat→Value} (h:BldM w2 w base g n c Y L X) {i:Nat} (hi:i<n):w.cell? ⟨g,i*2,none⟩=some (X i)∧w.cell? ⟨g,i*2+1,none⟩=some (Y i):=by
 obtain⟨e1,e2⟩:=zcy hi X Y;have c1:=h.row.cells (g:=g) rfl _ _ e1;have c2:=h.row.cells (g:=g) rfl _ _ e2;rw[yk,Nat.zero_add] at c1 c2;exact⟨c1,c2⟩
theorem BldM.below {w2 w w':World} {base g n c:Nat} {Y:Nat→Value} {L:Nat→List Iv} {X:Nat→Value} (h:BldM w2 w base g n c Y L X) (hb:Below w.heap.size w w'):BldM w2 w' base g n c Y L X:=
 ⟨h.kept.below hb,qc h.row hb,fun i hi=>qc (h.its i hi) hb,h.apart⟩
theorem BldM.step {w2 w w':World} {base g n c j:Nat} {Y:Nat→Value} {L L':Nat→List Iv} {X:Nat→Value} (h:BldM w2 w base g n c Y L X) (hj:j<n) (hg:g<w2.heap.size) {v':Value} {l:List Iv}
 (ho:w'.ownsRow w2.heap.size 89 2 v' l.length (ivC l)) (hgr:w.grownBy w' (X j).ownBlock) (hv:∀g',v'.ownBlock=some g'→(X j).ownBlock=some g'∨w.heap.size≤g') (hL:L' j=l) (hO:∀i,i≠j→L' i=L i):
 BldM w2 (w'.setCell ⟨g,j*2,none⟩ v') base g n c Y L' (upd X j v'):=by
 have hne:∀k,(X j).ownBlock=some k→w2.heap.size≤k:=fun k hk=>((h.its j hj).lt k hk).1
 have hgw:g<w.heap.size:=Nat.lt_of_lt_of_le hg h.kept.size
 have hrow':w'.ownsRow base 97 2 (.slice (some ⟨g,0,none⟩) n c) n (k7 n X Y):=qs h.row fun k hk=>by
  have e:k=g:=by simpa [Value.ownBlock] using hk.symm
  subst e;exact hgr.block k hgw fun e=>by have:=hne k e.symm;omega
 have hset:∀k,w2.heap.size≤k→(w'.setCell ⟨g,j*2,none⟩ v').heap[k]?=w'.heap[k]?:=fun k hk=>Below.heap_setCell _ _ _ _ (by simp only;omega)
 refine⟨(h.kept.grown hgr fun k hk hl=>?_).setCell (fun _ h=>h.2 rfl) _,?_,fun i hi=>?_,fun i hi i' hi' hii b=>?_⟩
 · have:=hne k hk;omega
 · rw[←zk3 hj];exact(hrow'.stored (j*2) v').1
 · by_cases e:i=j
   · subst e;rw[zbt,hL];exact qs ho fun k hk=>hset k (ho.lt k hk).1
   · rw[zax _ _ e,hO i e];refine qs (h.its i hi) fun k hk=>?_
     have hkl:=(h.its i hi).lt k hk;rw[hset k hkl.1];exact hgr.block k hkl.2 (fun e'=>h.apart i hi j hj e k hk e'.symm)
 · by_cases e:i=j
   · subst e;rw[zbt,zax _ _ (fun e=>hii e.symm)];intro hb hb';have hkl:=(h.its i' hi').lt b hb';rcases hv b hb with h' | h'
     · exact h.apart i hi i' hi' hii b h' hb'
     · omega
   · rw[zax _ _ e];intro hb;by_cases e':i'=j
     · subst e';rw[zbt];intro hb';have hkl:=(h.its i hi).lt b hb;rcases hv b hb' with h' | h'
       · exact h.apart i hi i' hi' hii b hb h'
       · omega
     · rw[zax _ _ e'];exact h.apart i hi i' hi' hii b hb
theorem z0r {w2 w:World} {base g:Nat} {y:Value} {v:Vec} (h:EnSl w2 base y v) (hk:Kept (fun b=>b<w2.heap.size∧b≠g) w2 w) {C:Array Value} {fr:Nat×Nat} (hg:w2.heap[g]?=some (.cells C 97 fr)) (hb:base≤g):EnSl w base y v:=by
 refine h.steady (P:=zag) ⟨hk.size,fun k hk2 hp=>hk.row k hk2 ⟨hk2,fun e=>?_⟩⟩ (.inl rfl) (.inr rfl);subst e;rcases hp with h' | ⟨C',T,fr',hT,h'⟩
 · omega
 · rw[hg] at h';cases h';rcases hT with h | h <;> cases h
theorem BldM.frags {w2 w:World} {base g n c ib:Nat} {Y:Nat→Value} {L:Nat→List Iv} {X:Nat→Value} (h:BldM w2 w base g n c Y L X) (hg:base≤g) (hib:ib≤g) {k:Kno} (hk:k.length=n) (hL:∀i,i<n→(zb k i).1=L i) (h64:∀i,i<n→zk (L i)) (hY:∀i,i<n→EnSl w2 ib (Y i) (zb k i).2)
 {C:Array Value} {fr:Nat×Nat} (hr:w2.heap[g]?=some (.cells C 97 fr)):Frags w (some ⟨g,0,none⟩) n c k:=by
 have hcc:n≤c∧c≤9223372036854775807:=by
  rcases h.row.2 with ⟨h',_⟩ | ⟨g',cap,cur,h',_,_,hnc,hcm,_⟩
  · cases h'
  · cases h';unfold maxLen at hcm;omega
 refine⟨hk,hcc.1,hcc.2,(by intro e;cases e),fun hn=>⟨g,0,rfl,fun i hi=>?_⟩⟩
 · obtain⟨c1,c2⟩:=h.cells hi;rw[Nat.zero_add];constructor
   · obtain⟨a,c,e,hI⟩:=zbd (h.its i hi) (h64 i hi);rw[e] at c1;exact⟨a,_,c,c1,by rw[hL i hi];exact hI⟩
   · obtain⟨a,m,c,e,hE⟩:=z0r (hY i hi) h.kept hr hib;rw[e] at c2;exact⟨a,m,c,c2,hE.ents⟩
structure Vecs (w:World) (a:Option Addr) (n cap:Nat) (vs:List Vec):Prop where
 len:vs.length=n
 room:n≤cap
 most:cap≤9223372036854775807
 nilc:a=none→cap=0
 cells:0<n→∃b o,a=some ⟨b,o,none⟩∧∀i,i<n→EnCell w ⟨b,o+i,none⟩ (qq vs i)
theorem Vecs.below {w w':World} {a:Option Addr} {n cap:Nat} {vs:List Vec} (h:Vecs w a n cap vs) (hb:Below w.heap.size w w'):Vecs w' a n cap vs:=by
 refine⟨h.len,h.room,h.most,h.nilc,fun hn=>?_⟩;obtain⟨b,o,ha,hc⟩:=h.cells hn;exact⟨b,o,ha,fun i hi=>(hc i hi).below hb⟩
theorem Vecs.fix {w:World} {b o n cap:Nat} {vs:List Vec} (h:Vecs w (some ⟨b,o,none⟩) n cap vs) {i:Nat} (hi:i<n):∃y m c,∀w',Below w.heap.size w w'→w'.cell? ⟨b,o+i,none⟩=some (.slice y m c)∧Ents w' y m c (qq vs i):=by
 obtain⟨b',o',hs,hc⟩:=h.cells (by omega);cases hs;obtain⟨y,m,c,h1,h2⟩:=hc i hi;exact⟨y,m,c,fun w' hb=>⟨(hb.cell (zh h1)).trans h1,h2.below hb⟩⟩
theorem Vecs.some {w:World} {a:Option Addr} {n cap:Nat} {vs:List Vec} (h:Vecs w a n cap vs) (hn:0<n):∃b o,a=some ⟨b,o,none⟩:=by
 obtain⟨b,o,ha,-⟩:=h.cells hn;exact⟨b,o,ha⟩
structure Zs (w:World) (a:Option Addr) (n cap:Nat) (l:List Int):Prop where
 len:l.length=n
 room:n≤cap
 most:cap≤9223372036854775807
 nilc:a=none→cap=0
 lt:∀x∈l,-9223372036854775808≤x∧x≤9223372036854775807
 cells:0<n→∃b o,a=some ⟨b,o,none⟩∧∀i,i<n→w.cell? ⟨b,o+i,none⟩=some (.int .i64 (zb4 l i))
theorem Zs.below {w w':World} {a:Option Addr} {n cap:Nat} {l:List Int} (h:Zs w a n cap l) (hb:Below w.heap.size w w'):Zs w' a n cap l:=by
 refine⟨h.len,h.room,h.most,h.nilc,h.lt,fun hn=>?_⟩;obtain⟨b,o,ha,hc⟩:=h.cells hn;exact⟨b,o,ha,fun i hi=>(hb.cell (p:=⟨b,o+i,none⟩) (zh (hc i hi))).trans (hc i hi)⟩
theorem I64s.zs {w:World} {a:Option Addr} {n cap:Nat} {l:List Nat} (h:I64s w a n cap l) (hl:∀x∈l,x≤9223372036854775807):Zs w a n cap (l.map fun x:Nat=>(x:Int)):=by
 refine⟨by rw[List.length_map];exact h.len,h.room,h.most,h.nilc,fun x hx=>?_,fun hn=>?_⟩
 · obtain⟨y,hy,rfl⟩:=List.mem_map.1 hx;have:=hl y hy;omega
 · obtain⟨b,o,ha,hc⟩:=h.cells hn;refine⟨b,o,ha,fun i hi=>?_⟩
   have e:zb4 (l.map fun x:Nat=>(x:Int)) i=((nth l i:Nat):Int):=by
    have hi':i<l.length:=by rw[h.len];exact hi
    rw[zh1 (by simpa using hi')];simp[nth,hi']
   rw[e];exact hc i hi
theorem Ivs.at {w:World} {b o n c:Nat} {l:List Iv} (h:Ivs w (some ⟨b,o,none⟩) n c l) {j:Nat} (hj:j<n) (w':World) (hb:Below w.heap.size w w'):w'.cell? ⟨b,o+j*2,none⟩=some (.int .u64 (((za l j).1:Nat):Int))∧w'.cell? ⟨b,o+j*2+1,none⟩=some (.int .u64 (((za l j).2:Nat):Int)):=by
 obtain⟨b',o',e,hc⟩:=(h.below hb).cells (by omega);cases e;exact hc j hj
theorem Zs.at {w:World} {b o n c:Nat} {l:List Int} (h:Zs w (some ⟨b,o,none⟩) n c l) {j:Nat} (hj:j<n) (w':World) (hb:Below w.heap.size w w'):w'.cell? ⟨b,o+j,none⟩=some (.int .i64 (zb4 l j)):=by
 obtain⟨b',o',e,hc⟩:=(h.below hb).cells (by omega);cases e;exact hc j hj
theorem Zs.some {w:World} {a:Option Addr} {n c:Nat} {l:List Int} (h:Zs w a n c l) (hn:0<n):∃b o,a=some ⟨b,o,none⟩:=by
 obtain⟨b,o,ha,-⟩:=h.cells hn;exact⟨b,o,ha⟩
theorem Ivs.some {w:World} {a:Option Addr} {n c:Nat} {l:List Iv} (h:Ivs w a n c l) (hn:0<n):∃b o,a=some ⟨b,o,none⟩:=by
 obtain⟨b,o,ha,-⟩:=h.cells hn;exact⟨b,o,ha⟩
end
section
open Go.RowKit Go.Shelf
attribute [local go_sem] Oper.semAt_some zdy
theorem z0s (a b:Option Addr) (n c m d:Nat) (va vb:Vec) (w:World) (hA:Ents w a n c va) (hB:Ents w b m d vb) (fa:VecFits va) (fb:VecFits vb) (ca:ckV va=none) (cb:ckV vb=none):
 Calls Tryz.prog 215 #[.slice a n c,.slice b m d] w fun e w'=>(∃y,e=.returned y∧OwnV2 w' w.heap.size y (doV gOr va vb))∧Below w.heap.size w w':=by
 have hC:=hid (z0c a b n c m d va vb w hA hB fa fb ca cb);clear hA hB fa fb ca cb;go_enter Tryz.func215,Tryz.ntmps215;go_wp2_with fail;refine hC.out.mono ?_;rintro e w1 ⟨⟨y,rfl,ho⟩,hb⟩;have Ho:=hid ho;have Hb:=hid hb;clear ho hb;go_wp2;go_ret;exact⟨⟨y,rfl,Ho.out⟩,Hb.out⟩
def za6 (k:Kno) (P:List Nat):Vec:=P.foldl (fun V i=>doV gOr V (zb k i).2) []
theorem zqo (k:Kno) (P:List Nat) (i:Nat):za6 k (P++[i])=doV gOr (za6 k P) (zb k i).2:=by simp[za6]
theorem zk4 (k:Kno) (t:Nat):∀(n:Nat) (P rest:List Nat),kx k t n=P++rest→∃d,d≤n∧P=kx k t d
 | 0,P,rest,h=>by
   have h0:kx k t 0=[]:=rfl;rw[h0] at h;obtain⟨h1,-⟩:=List.append_eq_nil_iff.1 h.symm
   exact⟨0,Nat.le_refl _,by rw[h1];rfl⟩
 | n+1,P,rest,h=>by
   rcases zca rest with rfl | ⟨l,x,rfl⟩
   · exact⟨n+1,Nat.le_refl _,by rw[h];simp⟩
   · rw[zht] at h;by_cases hm:mem (zb k n).1 t=true
     · rw[if_pos hm,←List.append_assoc] at h;have h2:=(List.append_inj' h rfl).1;obtain⟨d,hd,e⟩:=zk4 k t n P l h2;exact⟨d,by omega,e⟩
     · rw[if_neg hm,List.append_nil] at h;obtain⟨d,hd,e⟩:=zk4 k t n P _ h;exact⟨d,by omega,e⟩
theorem zh6 (k:Kno) (t:Nat):∀d,d≤k.length→za6 k (kx k t d)=ki k t d
 | 0,_=>rfl
 | d+1,h=>by
   rw[zht,zkg (by omega)];by_cases hm:mem (zb k d).1 t=true
   · rw[if_pos hm,if_pos hm,zqo,zh6 k t d (by omega)]
   · rw[if_neg hm,if_neg hm,List.append_nil,zh6 k t d (by omega)]
theorem z0t {k:Kno} {t:Nat} {P rest:List Nat} (h:zq k t=P++rest):∃d,d≤k.length∧za6 k P=ki k t d:=by
 obtain⟨d,hd,rfl⟩:=zk4 k t k.length P rest h;exact⟨d,hd,zh6 k t d hd⟩
theorem zqp {v:Vec} (h:CanV v):ckV v=none:=by
 have:=zw6.2 h;simp only[zj2,Bool.and_eq_true,decide_eq_true_eq] at this;exact this.1
theorem zk5 {k:Kno} (h:LtK k) (x d:Nat):CanV (ki k x d):=(zcv (fun f hf=>h f (List.mem_of_mem_take hf)) x).1
structure Joins (k:Kno):Prop where
 fits:KnoFits k
 lt:LtK k
 ck:∀f∈k,ckV f.2=none
 good:∀f∈k,Good f.1
theorem z0u (y:Value) (V:Vec) (U:Vec) (i:Nat) (s1:Value) (b:Option Addr) (m c B:Nat) (w:World) (ho:OwnV2 w B y V) (lV:LtV V) (hU:Ents w b m c U) (fV:VecFits V) (fU:VecFits U) (cV:ckV V=none) (cU:ckV U=none):
 Calls Tryz.prog 214 #[y,.int .i64 ((i:Nat):Int),.agg #[s1,.slice b m c]] w fun e w'=>(∃v,e=.returned v∧OwnV2 w' w.heap.size v (doV gOr V U))∧Below w.heap.size w w':=by
 obtain⟨a,ca,rfl,hV⟩:=ho.toOwnV.ents lV;have hal:Below w.heap.size w (w.alloc (.cells #[s1,.slice b m c] 97)):=(Below.refl _ _).alloc (Nat.le_refl _) _;have hC:=hid (z0s a b V.length ca m c V U _ (hV.below hal) (hU.below hal) fV fU cV cU);have Hal:=hid hal;clear ho hV hU fV fU cV cU hal;go_enter Tryz.func214,Tryz.ntmps214;go_wp2_with fail;refine hC.out.mono ?_;rintro e w1 ⟨⟨v,rfl,ho⟩,hb⟩;have Ho:=hid ho;have Hb:=hid hb;clear ho hb;go_wp2;go_ret;exact⟨⟨v,rfl,Ho.out.lower Hal.out.size⟩,Hal.out.trans (Hb.out.mono Hal.out.size)⟩
set_option maxRecDepth 20000 in
theorem z0v (w0 w:World) (bk bt:Nat) (a:Option Addr) (m c t:Nat) (k:Kno) (hE:Frags w0 a m c k) (hJ:Joins k) (hb0:Below w0.heap.size w0 w)
 (hbk:w.heap[bk]?=some (.cells #[.slice a m c] 27)) (hbt:w.heap[bt]?=some (.cells #[.int .u64 t] 43)):
 Calls Tryz.prog 212 #[.func (.func 251) #[] #[.pointer (some ⟨bk,0,none⟩),.pointer (some ⟨bt,0,none⟩)],.slice none 0 0,.func (.func 214) #[] #[]] w fun e w'=>
  (∃y,e=.returned y∧OwnV2 w' w.heap.size y (atK k t))∧Below w.heap.size w w':=by
 have hm:m≤500:=by have:=hE.len;have:=hJ.fits.len;omega
 have hG:∀f∈k,Good f.1∧f.1.length≤1000000:=fun f hf=>⟨hJ.good f hf,by have:=hJ.fits.items f hf;omega⟩
 have hbkl:=(Array.getElem?_eq_some_iff.1 hbk).1;have hbtl:=(Array.getElem?_eq_some_iff.1 hbt).1;have hs0:=hb0.size;have HJ:=hid hJ;have HE0:=hid hE;have Hb00:=hid hb0;refine(callsIn_wide (n:=3)).1 ?_;refine callsIn_of_wp_marks Tryz.func212 rfl trivial ?_ rfl;simp only[Tryz.ntmps212,List.size_toArray,List.length_cons,List.length_nil,Nat.reduceAdd,Nat.reduceSub,Array.replicate_succ,Array.replicate_zero,List.push_toArray,List.append_toArray,List.nil_append,List.cons_append];refine wpIn_wide.2 ?_;go_wp2;refine(wpIn_wide (n:=3)).1 ?_;obtain⟨C0,hC0⟩:∃C0:Obj,C0=.cells #[.slice none 0 0] 95:=⟨_,rfl⟩;obtain⟨C1,hC1⟩:∃C1:Obj,C1=.cells #[.func (.func 214) #[] #[]] 306:=⟨_,rfl⟩;rw[←hC0,←hC1];obtain⟨wl,hwl⟩:∃wl:World,wl=(w.alloc C0).alloc C1:=⟨_,rfl⟩;rw[←hwl];have hsz:wl.heap.size=w.heap.size+2:=by rw[hwl];simp
 have hbw:Below w.heap.size w wl:=by
  rw[hwl];exact((Below.refl _ w).alloc (Nat.le_refl _) C0).alloc (by simp) C1
 have e0:wl.heap[w.heap.size]?=some C0:=by rw[hwl];exact qg (yh rfl)
 have e1:wl.heap[w.heap.size+1]?=some C1:=by rw[hwl];exact yh (by simp)
 clear hwl
 refine zgy (n:=3) (gf:=251) (lb:= #[.pointer (some ⟨bk,0,none⟩),.pointer (some ⟨bt,0,none⟩)]) rfl (enters_of Tryz.func251 (by kernel_rfl) rfl)
  (zpp (3 - 1) w0 wl bk bt a m c t k hE hG (hb0.trans (hbw.mono hs0)) hm ((hbw.block _ hbkl).trans hbk) ((hbw.block _ hbtl).trans hbt))
  (fun x=>rfl) (fun k hk=>hk.elim) (fun k hk=>by omega)
  (fun pre W=>Below w.heap.size w W∧W.heap[w.heap.size+1]?=some C1∧∃v,W.heap[w.heap.size]?=some (.cells #[v] 95)∧OwnV2 W (w.heap.size+4) v (za6 k (pre.map (·.1))))
  (fun _ _ _=>False) ?hI (fun _ _ _ _ h _=>h) ⟨hbw,e1,.slice none 0 0,by rw[e0,hC0],zpv ..⟩ ?round ?done ?stop
 case hI=>
  rintro s A B ⟨h4,h1,v,h2,h3⟩ hk;have hs:=h4.size;exact⟨h4.trans (hk.toBelow (fun k hk'=>⟨id,by omega,by omega⟩) (by omega)),(hk.row _ (Array.getElem?_eq_some_iff.1 h1).1 ⟨id,by omega,by omega⟩).trans h1,v,(hk.row _ (Array.getElem?_eq_some_iff.1 h2).1 ⟨id,by omega,by omega⟩).trans h2,h3.same (fun k hk1 hk2=>hk.row k hk2 ⟨id,by omega,by omega⟩)⟩
 case round=>
  rintro pre ⟨i,s1,s2⟩ W ⟨⟨rest,hV⟩,hsl⟩ ⟨h4,h1,y,h2,h3⟩ hsW;obtain⟨⟨a1,n1,z1,e1',-⟩,a2,n2,z2,e2',hE2⟩:=hsl (i,s1,s2) (by simp);simp only at e1' e2' hE2;subst e1' e2';clear hsl;rw[hsz] at hsW ⊢
  have hik:i<k.length:=by
   have:i∈zq k t:=by rw[hV];simp
   exact(zfw.1 this).1
  have hpre:∃d,d≤k.length∧za6 k (pre.map (·.1))=ki k t d:=by
   rw[List.map_append,List.append_assoc] at hV;exact z0t hV
  obtain⟨d,hd,hfd⟩:=hpre
  have Hst:=hid (show za6 k ((pre++[((i,.slice a1 n1 z1,.slice a2 n2 z2):WEl)]).map (·.1))=doV gOr (za6 k (pre.map (·.1))) (zb k i).2 from by
   rw[List.map_append];exact zqo _ _ _)
  have hlV:LtV (za6 k (pre.map (·.1))):=by rw[hfd];exact zki HJ.out.lt t d
  have hfV:VecFits (za6 k (pre.map (·.1))):=by rw[hfd];exact HJ.out.fits.at_ t d
  have hcV:ckV (za6 k (pre.map (·.1)))=none:=by rw[hfd];exact zqp (zk5 HJ.out.lt t d)
  have hfU:VecFits (zb k i).2:=HJ.out.fits.vec _ (yx hik);have hcU:ckV (zb k i).2=none:=HJ.out.ck _ (yx hik);generalize za6 k (pre.map (·.1))=V at*;generalize (zb k i).2=U at*;clear hsz hbw e0 e1 hC0 hV hE hG hbk hbt hb0 hfd hJ;simp only[zhw];obtain⟨q,hq⟩:∃q:Nat,q=W.heap.size:=⟨_,rfl⟩
  gi_wp2
  refine⟨(Kept.refl _ W).alloc _,fun W2 hk2 hs2=>?_⟩
  try rw[World.size_alloc] at hs2
  have k1:Kept (fun k=>k≠w.heap.size+2+1) W W2:=((Kept.refl _ W).alloc _).trans hk2;have b1:W2.heap[w.heap.size+1]?=some C1:=(k1.row _ (Array.getElem?_eq_some_iff.1 h1).1 (by omega)).trans h1;have b2:W2.heap[w.heap.size]?=some (.cells #[y] 95):=(k1.row _ (Array.getElem?_eq_some_iff.1 h2).1 (by omega)).trans h2;have b4:W2.heap[q]?=some (.cells #[.slice a1 n1 z1,.slice a2 n2 z2] 97):=by rw[hq];exact(hk2.row _ (by simp) (by omega)).trans (yh rfl)
  have hB3:OwnV2 W2 (w.heap.size+4) y V:=h3.same (fun k hk1 hk2=>k1.row k hk2 (by omega));have B4:=hid (h4.trans (k1.toBelow (n:=w.heap.size) (fun k hk'=>by omega) h4.size));rw[←hq];have hB4:w.heap.size+4≤W2.heap.size:=by omega
  have Hb1:=hid b1;have Hb2:=hid b2;rw[hC1] at b1;have c0:=yz b1;have c1:=yz b2;have c2:W2.cell? ⟨q,0,none⟩=some (.slice a1 n1 z1):=zx (i:=0) b4 rfl;have c3:W2.cell? ⟨q,1,none⟩=some (.slice a2 n2 z2):=zx (i:=1) b4 rfl;have HC1:=hid hC1;have hF:=hid (z0u y V U i (.slice a1 n1 z1) a2 n2 z2 _ W2 hB3 hlV (hE2.below (Hb00.out.trans (B4.out.mono hs0))) hfV hfU hcV hcU);clear k1 hk2 hs2 h1 h2 h3 h4 b1 b2 b4 hq hsW hC1 hB3 hE2 hlV hfV hcV hfU hcU
  gi_wp2_with fail
  refine(CallsIn.inRound _ (callsIn_wide.2 hF.out)).mono ?_;rintro e w3 ⟨⟨v,rfl,ho3⟩,hb3⟩;have d2:=(hb3.block _ (by omega)).trans Hb2.out;have d1:=(hb3.block _ (by omega)).trans Hb1.out;have q5:=yz d2;have q6:=k9 d2;have Hd2:=hid d2;have Hd1:=hid d1;have Ho3:=hid ho3;have Hb3:=hid hb3
  obtain⟨av,nv,cv,rfl⟩:∃a n c,v=.slice a n c:=by
   obtain⟨ss,h,-⟩:=ho3;obtain⟨a,c,e⟩:=jz h;exact⟨a,_,c,e⟩
  clear c0 c1 c2 c3 d1 d2 ho3 hb3
  gi_wp2
  refine⟨?_,?_,?_,_,zb0 Hd2.out,?_⟩
  · exact((zmy Hb3.out).mono (fun k _ hk=>by omega)).setCell (fun _=>by simp only;omega) _
  · exact(B4.out.trans (Hb3.out.mono (by omega))).setCell (Nat.le_refl _) _
  · exact(Below.heap_setCell _ _ _ _ (by simp)).trans Hd1.out
  · rw[Hst.out];exact(Ho3.out.lower hB4).same (fun k hk1 hk2=>Below.heap_setCell _ _ _ _ (by simp only;omega))
 case done=>
  rintro ps W ⟨hS,-⟩ ⟨h4,h1,y,h2,h3⟩ hK;have q1:=yz h2
  have hfin:za6 k (ps.map (·.1))=atK k t:=by
   rw[←hS,←zkh];exact zh6 k t k.length (Nat.le_refl _)
  rw[hfin] at h3;have H3:=hid h3;have H4:=hid h4;clear h1 h2 h3 h4 e0 e1 hS
  gi_wp2
  go_wp2;refine⟨by simp,.inl ⟨_,_,rfl,run_takeDeferred hK,?_⟩⟩;refine⟨_,results_tmp rfl _ _ _,⟨y,rfl,?_⟩,?_⟩
  · exact(H3.out.same (fun k hk1 hk2=>World.putObj_heap_other (by omega))).lower (by omega)
  · exact(Kept.refl (fun k=>k<w.heap.size) W).putObj (fun _ h=>by have h':wl.heap.size<w.heap.size:=h;omega) _ |>.toBelow (fun _ h=>h) H4.out.size |> H4.out.trans
 case stop=>
  rintro c pre W hV h;exact h.elim
theorem z0w (a:Option Addr) (m c t:Nat) (k:Kno) (w:World) (hE:Frags w a m c k) (hJ:Joins k):
 Calls Tryz.prog 175 #[.slice a m c,.int .u64 t] w fun e w'=>(∃y,e=.returned y∧OwnV2 w' w.heap.size y (atK k t))∧Below w.heap.size w w':=by
 have hal:Below w.heap.size w ((w.alloc (.cells #[.slice a m c] 27)).alloc (.cells #[.int .u64 t] 43)):=((Below.refl _ _).alloc (Nat.le_refl _) _).alloc (by simp) _;have hC:=hid (z0v w ((w.alloc (.cells #[.slice a m c] 27)).alloc (.cells #[.int .u64 t] 43)) w.heap.size (w.heap.size+1) a m c t k hE hJ hal (qg (yh rfl)) (yh (by simp)));have Hal:=hid hal;clear hE hJ hal;go_enter Tryz.func175,Tryz.ntmps175;go_wp2_with fail;refine(zpo a m c t _).mono ?_;rintro e w1 ⟨rfl,rfl⟩;go_wp2_with fail;refine hC.out.mono ?_;rintro e w2 ⟨⟨y,rfl,ho⟩,hb⟩;have Ho:=hid ho;have Hb:=hid hb;clear ho hb;go_wp2;go_ret;exact⟨⟨y,rfl,Ho.out.lower Hal.out.size⟩,Hal.out.trans (Hb.out.mono Hal.out.size)⟩
end
section
open Go.RowKit
theorem z0x (l:List Nat):∀k,(l.take k).sum≤l.sum:=fun k=>by
 have:=List.take_append_drop k l;have h:l.sum=(l.take k).sum+(l.drop k).sum:=by rw[←List.sum_append,this]
 omega
set_option maxRecDepth 20000 in
theorem z0y (A:Option Addr) (n cp:Nat) (l:List Nat) (w:World) (hR:Rd w 1 A n (zo l)) (hl:l.length=n) (h64:∀x∈l,x<18446744073709551616) (hn:n≤10):
 Calls Tryz.prog 137 #[.slice A n cp] w fun e w'=>e=.returned (jl l.sum)∧Below w.heap.size w w':=by
 have HR:=hid (fun W (h:Below w.heap.size w W)=>hR.below h);have Hl:=hid hl;have H64:=hid h64;have HMx:=hid (fun W=>show Calls Tryz.prog 182 #[] W fun e w'=>e=.returned (.int .u64 18446744073709551615)∧Below W.heap.size W w' from(zt1 W).mono fun e w' ⟨h1,h2⟩=>⟨h1,by subst h2;exact Below.refl _ _⟩);clear hR hl h64;go_enter Tryz.func137,Tryz.ntmps137;go_wp2_with fail;go_loopw [4,5] (fun y i wr=>∃k s:Nat,k≤n∧i=.int .i64 k∧y=.int .u64 s∧Below w.heap.size w wr∧Hid (s<18446744073709551616∧s=(l.take k).sum)) (fun _ i _=>n - (intOf i).toNat)
 case atStart=>exact⟨0,0,by omega,rfl,rfl,Below.refl _ _,by decide,rfl⟩
 case round=>
  obtain⟨k,s,hk,rfl,rfl,hb,hs⟩:=hrel;have Hb:=hid hb;clear hb;by_cases hkn:k<n
  · obtain⟨bb,oo,rfl,hc⟩:=(HR.out _ Hb.out).2 (by omega);have qx:=hc k _ (zdt l k (by rw[Hl.out];exact hkn));have hxl:=H64.out _ (zbb (show k<l.length by rw[Hl.out];exact hkn));have Hst:=hid (zp5 l k (by rw[Hl.out];exact hkn));have Hle:=hid (z0x l (k+1));have Hqx:=hid (fun w' (h:Below wr.heap.size wr w')=>(h.cell (p:=⟨bb,oo+k,none⟩) (zh (by simpa using qx))).trans (by simpa using qx:wr.cell? ⟨bb,oo+k,none⟩=_));clear hc qx;generalize nth l k=x at*;obtain⟨md,hmd⟩:∃md,md=18446744073709551615 - s:=⟨_,rfl⟩;have hs1:=hs.out.1;have hw2:IntKind.u64.wrap (18446744073709551615 - (s:Int))=(md:Int):=by have:=hs.out.1;rw[IntKind.wrap_u64];omega
    have h0:(0:Int)≤k:=by omega
    have h04:(k:Int)<(n:Int):=by omega
    by_cases hlo:s+x<18446744073709551616
    · have hd:decide ((md:Int)<(x:Int))=false:=by rw[decide_eq_false_iff_not];omega
      have hd':decide (md<x)=false:=by rw[decide_eq_false_iff_not];omega
      have hw3:IntKind.u64.wrap ((s:Int)+(x:Int))=((s+x:Nat):Int):=by rw[IntKind.wrap_u64];omega
      have Hn:=hid (show s+x<18446744073709551616∧s+x=(l.take (k+1)).sum from⟨hlo,by rw[Hst.out,hs.out.2]⟩);clear hlo hmd hxl hs1;go_wp2_with fail;refine za1 (by kernel_rfl) (by kernel_rfl) ?_
      repeat (go_big_quiet_step ((intro hw;first
       | rfl
       | (go_at_call 182;exact zcn hw (HMx.out _))
       | (have q1:=Hqx.out _ hw
          go_simp;first | rfl | exact⟨rfl,hw⟩ | (trace_state;fail)))))
      refine wpQuiet_nil ?_;intro w3 hb3;have q3:=Hqx.out _ hb3;have Hb3:=hid (Hb.out.trans (hb3.mono Hb.out.size));clear hb3;go_wp2_with fail;go_roundw
      case rel=>exact⟨k+1,s+x,by omega,by go_num,rfl,Hb3.out,Hn.out⟩
      case measure=>simp[intOf];omega
    · have hd:decide ((md:Int)<(x:Int))=true:=by rw[decide_eq_true_iff];omega
      have hd':decide (md<x)=true:=by rw[decide_eq_true_iff];omega
      have Hs:=hid (show jl l.sum=.tuple #[.int .u64 0,.bool false] from by
       unfold jl;have:=Hle.out;have:=Hst.out;have:=hs.out.2;rw[if_neg (by omega)])
      clear hlo hmd hxl hs1;go_wp2_with fail;refine za1 (by kernel_rfl) (by kernel_rfl) ?_
      repeat (go_big_quiet_step ((intro hw;first
       | rfl
       | (go_at_call 182;exact zcn hw (HMx.out _))
       | (have q1:=Hqx.out _ hw
          go_simp;first | rfl | exact⟨rfl,hw⟩ | (trace_state;fail)))))
      refine wpQuiet_nil ?_;intro w3 hb3;have Hb3:=hid (Hb.out.trans (hb3.mono Hb.out.size));clear hb3;go_wp2_with fail;go_ret2;exact⟨by rw[Hs.out];rfl,Hb3.out⟩
  · obtain rfl:k=n:=by omega
    have Hs:=hid (show jl l.sum=.tuple #[.int .u64 ((s:Nat):Int),.bool true] from by
     have h1:=hs.out;rw[List.take_of_length_le (by rw[Hl.out];exact Nat.le_refl _)] at h1;unfold jl;rw[←h1.2,if_pos h1.1])
    go_wp2_with fail;go_ret2;exact⟨by rw[Hs.out];rfl,Hb.out⟩
theorem zk6 (l:List Nat) (W:World) (g n:Nat) (h:W.heap[g]?=some (.cells (zo l).toArray 43)) (hn:l.length=n) (h64:∀x∈l,x<18446744073709551616) (hl:n≤10) {v:Value} (hv:jl l.sum=v):
 Calls Tryz.prog 137 #[.slice (some ⟨g,0,none⟩) n n] W fun e w'=>e=.returned v∧Below W.heap.size W w':=
 (z0y _ n n l W (vy h rfl (by rw[zep,hn];omega)) hn h64 hl).mono fun e w' ⟨h1,h2⟩=>⟨by rw[h1,hv],h2⟩
def loV:Option Nat→Value
 | some lo=>.tuple #[.int .u64 (lo:Int),.bool true]
 | none=>.tuple #[.int .u64 0,.bool false]
theorem z0z (prev:Option Nat) (h ap x:Nat) (w:World) (hp:∀y,prev=some y→y=h) (h1:h<18446744073709551616) (h2:ap≤1) (h3:x<18446744073709551616):
 Calls Tryz.prog 136 #[.bool prev.isNone,.int .u64 h,.int .u64 ap,.int .u64 x] w fun e w'=>e=.returned (loV (loP prev ap x))∧Below w.heap.size w w':=by
 cases prev with
 | none=>
  clear hp h1 h2 h3;show Calls Tryz.prog 136 #[.bool true,.int .u64 h,.int .u64 ap,.int .u64 x] w fun e w'=>e=.returned (.tuple #[.int .u64 (x:Int),.bool true])∧Below w.heap.size w w'
  go_enter Tryz.func136,Tryz.ntmps136;go_wp2_with fail;go_ret2
  exact⟨rfl,Below.refl _ _⟩
 | some y=>
  obtain rfl:=hp y rfl
  have h64:∀z∈[y,1,ap,x],z<18446744073709551616:=fun z hz=>by
   simp only[List.mem_cons,List.not_mem_nil,or_false] at hz;rcases hz with rfl | rfl | rfl | rfl <;> omega
  have e:jl [y,1,ap,x].sum=loV (loP (some y) ap x):=by
   have e0:loP (some y) ap x=if y+1+ap+x<18446744073709551616 then some (y+1+ap+x) else none:=rfl;rw[e0];unfold jl;rw[show [y,1,ap,x].sum=y+1+ap+x by simp;omega];by_cases hh:y+1+ap+x<18446744073709551616
   · rw[if_pos hh,if_pos hh];rfl
   · rw[if_neg hh,if_neg hh];rfl
  have HS:=hid (fun W hW=>zk6 [y,1,ap,x] W w.heap.size 4 hW rfl h64 (by omega) e);generalize loP (some y) ap x=r at*;clear e hp h1 h2 h3 h64
  cases r with
  | none=>
   unfold loV at HS ⊢;go_enter Tryz.func136,Tryz.ntmps136;go_wp2_with fail;refine(HS.out _ (by exact yp w _ _ rfl)).mono ?_;rintro e w1 ⟨rfl,hb1⟩;have hal:Below w.heap.size w (w.alloc (.cells #[.int .u64 y,.int .u64 1,.int .u64 ap,.int .u64 x] 43)):=(Below.refl _ _).alloc (Nat.le_refl _) _;have Hb1:=hid (hal.trans (hb1.mono hal.size));clear hb1 hal;go_wp2_with fail;go_ret2
   exact⟨rfl,Hb1.out⟩
  | some lo=>
   unfold loV at HS ⊢;go_enter Tryz.func136,Tryz.ntmps136;go_wp2_with fail;refine(HS.out _ (by exact yp w _ _ rfl)).mono ?_;rintro e w1 ⟨rfl,hb1⟩;have hal:Below w.heap.size w (w.alloc (.cells #[.int .u64 y,.int .u64 1,.int .u64 ap,.int .u64 x] 43)):=(Below.refl _ _).alloc (Nat.le_refl _) _;have Hb1:=hid (hal.trans (hb1.mono hal.size));clear hb1 hal;go_wp2_with fail;go_ret2;exact⟨rfl,Hb1.out⟩
