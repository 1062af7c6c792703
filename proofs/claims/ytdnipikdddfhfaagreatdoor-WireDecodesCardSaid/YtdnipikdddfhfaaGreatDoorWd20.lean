/- Part 20. -/
import Derived.Test.YtdnipikdddfhfaaGreatDoorWd19
set_option linter.unusedVariables false
set_option maxHeartbeats 16000000
namespace Go.Proofs.YtdnipikdddfhfaaGreatDoor
open Lib (hid)
section
open Go.RowKit Go.Maps
structure Met (D:DataW Value) (left:Lit→Bool) (L:List Nat):Prop where
 asc:Asc L
 mem:∀x:Nat,x∈L↔(Maps.has D (.int .u64 (x:Int))=true∧left (.int .u64 (x:Int))=false)
theorem Met.start (D:DataW Value):Met D (Maps.has D) []:=⟨trivial,fun x=>by cases Maps.has D (.int .u64 (x:Int)) <;> simp⟩
theorem z0a (x y:Nat):Lit.sameKey (.int .u64 (x:Int)) (.int .u64 (y:Int))=decide (x=y):=by
 by_cases e:x=y
 · subst e;simp[WideAt.sameKey_self (show WideAt.IsKeyLit (.int .u64 (x:Int)) from trivial)]
 · rw[sameKey_ne (zd5 e),decide_eq_false e]
theorem Met.new {D:DataW Value} {left:Lit→Bool} {L:List Nat} (h:Met D left L) {x:Nat} (hl:left (.int .u64 (x:Int))=true):x∉L:=fun hx=>by
 have:=((h.mem x).1 hx).2;rw[hl] at this;cases this
theorem Met.step {D:DataW Value} {left:Lit→Bool} {L:List Nat} (h:Met D left L) {x:Nat} (hh:Maps.has D (.int .u64 (x:Int))=true):Met D (fun z=>left z && !z.sameKey (.int .u64 (x:Int))) (kh L x):=by
 refine⟨zji h.asc,fun y=>?_⟩;rw[zg1,h.mem y,z0a];by_cases e:y=x
 · subst e;simp[hh]
 · simp[e]
theorem Met.all {D:DataW Value} {left:Lit→Bool} {L S:List Nat} (h:Met D left L) (hl:∀kl,left kl=false) (hS:Asc S) (hk:∀r:Nat,Maps.has D (.int .u64 (r:Int))=decide (r∈S)):L=S:=
 zi4 h.asc hS fun x=>by rw[h.mem x,hk x,hl];simp
theorem Met.sub {D:DataW Value} {left:Lit→Bool} {L S:List Nat} (h:Met D left L) (hk:∀r:Nat,Maps.has D (.int .u64 (r:Int))=decide (r∈S)):∀x∈L,x∈S:=fun x hx=>by
 have h2:=((h.mem x).1 hx).1;rw[hk x] at h2;simpa using h2
theorem Met.len {D:DataW Value} {left:Lit→Bool} {L S:List Nat} (h:Met D left L) (hk:∀r:Nat,Maps.has D (.int .u64 (r:Int))=decide (r∈S)):L.length≤S.length:=
 zdp h.asc (fun x hx=>h.sub hk x hx)
theorem zqi:∀(l:List Nat) (x:Nat),(kh l x).length≤l.length+1
 | [],x=>by simp[kh]
 | a :: l,x=>by
   rw[kh];split
   · simp
   · split
     · simp
     · have:=zqi l x;simp;omega
theorem zqj:∀(l acc:List Nat),(l.foldl kh acc).length≤acc.length+l.length
 | [],acc=>by simp
 | x :: l,acc=>by
   have h1:=zqj l (kh acc x);have h2:=zqi acc x;rw[List.foldl_cons,List.length_cons];omega
theorem z0b (va vb:Vec):(za3 va vb).length≤va.length+vb.length:=by
 have:=zqj (va.map (·.1)++vb.map (·.1)) [];unfold za3 zc5;simp at this ⊢;exact this
theorem zqk {va vb:Vec} (ha:LtV va) (hb:LtV vb):∀r∈za3 va vb,r<18446744073709551616:=fun r hr=>by
 unfold za3 at hr;rw[zc6,List.mem_append,List.mem_map,List.mem_map] at hr;rcases hr with ⟨e,he,rfl⟩ | ⟨e,he,rfl⟩
 · exact(ha e he).rep
 · exact(hb e he).rep
def doU (va vb:Vec) (r:Nat):Option Ent:=ofE r (opL gOr (yb va r) (yb vb r))
set_option maxRecDepth 100000 in
theorem z0c (a b:Option Addr) (n c m d:Nat) (va vb:Vec) (w:World) (hA:Ents w a n c va) (hB:Ents w b m d vb) (fa:VecFits va) (fb:VecFits vb) (ca:ckV va=none) (cb:ckV vb=none):
 Calls Tryz.prog 252 #[.slice a n c,.slice b m d,.func (.func 206) #[] #[]] w fun e w'=>(∃y,e=.returned y∧OwnV2 w' w.heap.size y (doV gOr va vb))∧Below w.heap.size w w':=by
 have hC:=hid (zzv a b n c m d va vb w hA hB fa fb ca cb)
 have Hla:=hid (show (za3 va vb).length≤600 from by
  have h1:=z0b va vb;have h2:=fa.len;have h3:=fb.len;omega)
 have HltA:=hid hA.lt;have HltB:=hid hB.lt;have HFa:=hid fa;have HFb:=hid fb;clear hA hB fa fb ca cb;go_enter Tryz.func252,Tryz.ntmps252;go_wp2_with fail;refine hC.out.mono ?_;rintro e w1 ⟨⟨B,D,rfl,hBw,hP⟩,hb1⟩;have hal2:Below w1.heap.size w1 (w1.alloc (.cells #[.slice none 0 0] 367)):=(Below.refl _ _).alloc (Nat.le_refl _) _;have hs2:(w1.alloc (.cells #[.slice none 0 0] 367)).heap.size=w1.heap.size+1:=by simp
 have hr2:(w1.alloc (.cells #[.slice none 0 0] 367)).heap[w1.heap.size]?=some (.cells #[.slice none 0 0] 367):=yh rfl;have hP2:=hP.steady (Steady.of_below hal2) (hP.own.kept (zau hal2) (by simp));have hBlt:=hP.own.lt;have hbw2:=hb1.trans (hal2.mono hb1.size);have hws:=hb1.size;obtain⟨N,hN⟩:∃N,N=w1.heap.size:=⟨_,rfl⟩;rw[←hN] at hs2 hr2 hBlt hws;obtain⟨W2,hW2⟩:∃W2,W2=w1.alloc (.cells #[.slice none 0 0] 367):=⟨_,rfl⟩;rw[←hW2] at hs2 hr2 hP2 hbw2;have HW2:=hid hW2;have HN:=hid hN;have HP2:=hid hP2;have Hr2:=hid hr2;have Hs2:=hid hs2;have Hbw2:=hid hbw2;clear hP hb1 hal2 hs2 hr2 hP2 hbw2 hW2 hN hC;go_wp2_with (at_range;rw[←HN.out,←HW2.out];refine wpList_range_own _ rfl _ _ rfl 43 369 zb1 Tryz.underlying364 rP B 1000 D rfl HP2.out.own ?_;intro w3 hrg3 hg3 hs3);go_frame
 rw[Hs2.out] at hrg3 hs3 ⊢;clear HW2 HN;have Hst:=hid hrg3;have Hk3:=hid (show w3.heap[N]?=some (.cells #[.slice none 0 0] 367) from(hg3.block N (by rw[Hs2.out];omega) (by simp)).trans Hr2.out);have Hs3:=hid hs3;have Hb3:=hid (show Below w.heap.size w w3 from Hbw2.out.grown hg3 (Hbw2.out.size) (fun k hk=>by cases hk));have HP3:=hid (HP2.out.steady (Steady.of_below (w:=W2) ⟨hg3.os,hg3.tape,hg3.output,hg3.size,fun k hk=>hg3.block k hk (by simp)⟩) hrg3.owns);clear hrg3 hs3 hg3 Hr2 HP2
 go_loopw [9] (fun _ wr=>∃(left:Lit→Bool) (cnt:Nat) (L:List Nat) (v:Value),Hid (wr.ranges Tryz.prog 43 rP B (N+1) 1000 D left cnt)∧Hid (wr.heap[N]?=some (.cells #[v] 367))∧
  Hid (wr.ownsRow (N+2) 43 1 v L.length (zo L))∧Hid (Met D left L)∧Hid (Kept (fun k=>k<N+2∧k≠N∧k≠N+1) w3 wr)) (fun _ wr=>wr.rangeLeft B (N+1))
 case atStart=>exact⟨_,_,[],_,Hst.out,Hk3.out,World.ownsRow_nil _ _ _ _,Met.start D,Kept.refl _ _⟩
 case round=>
  obtain⟨left,cnt,L,v,hrg,hv,ho,hM,hK⟩:=hrel;have Hrg:=hid hrg.out;clear hrg;go_wp2_with (at_next;refine zj4 rfl _ rfl rP B (N+1) 1000 D left cnt rfl Hrg.out ?_ ?_)
  · intro hl0;have hL:L=za3 va vb:=hM.out.all hl0 (zes _) HP3.out.keys;subst hL;obtain⟨a',c',rfl,hU⟩:=zco ho.out (zqk HltA.out HltB.out)
    have hst:Steady w.heap.size zat w3 wr:=zxb hK.out (fun k hk h=>by
     have hs3:=Hs3.out;rcases h with h | ⟨C,T,fr,hT,h⟩
     · exact⟨by omega,by omega,by omega⟩
     · refine⟨by omega,fun e=>?_,fun e=>?_⟩
       · subst e;rw[Hk3.out] at h;cases h;cases hT
       · subst e;obtain⟨_,_,_,_,_,_,_,_,_,h5,_⟩:=Hst.out;rw[h5] at h;cases h)
    have HP6:=hid (HP3.out.steady hst Hrg.out.owns);have Hb6:=hid (show Below w.heap.size w wr from Hb3.out.trans (hK.out.toBelow (fun k hk=>⟨by omega,by omega,by omega⟩) (Hb3.out.size)));have HU:=hid hU;have hv0:=yz hv.out;have hwr:=Hb6.out.size;clear hl0 Hrg hv ho hM hK hU hst Hst Hk3 Hs3 Hb3 HP3 Hs2 Hbw2;generalize hR:za3 va vb=R at*;have HR:=hid hR;clear hR;have Hlt:=hid HU.out.lt;have hRl:=Hla.out;generalize wr=w6 at*;go_wp2;go_loopw [10,12,13,14,29] (fun y _ _ _ i wr2=>∃k:Nat,k≤R.length∧i=.int .i64 k∧Hid (Below w6.heap.size w6 wr2)∧Hid (OwnV2 wr2 w6.heap.size y ((R.take k).filterMap (doU va vb)))) (fun _ _ _ _ i _=>R.length - (intOf i).toNat)
    case atStart=>exact⟨0,by omega,rfl,Below.refl _ _,zpv _ _⟩
    case round=>
     obtain⟨k,hk,rfl,Hb,Ho⟩:=hrel;by_cases hkn:k<R.length
     · obtain⟨bb,oo,rfl,hcell⟩:=(HU.out.below Hb.out).cells (by omega);have hc0:=hcell k hkn;have hx64:=Hlt.out _ (show nth R k∈R by simp[nth,hkn])
       have Hst:=hid (show (R.take (k+1)).filterMap (doU va vb)=(R.take k).filterMap (doU va vb)++(match doU va vb (nth R k) with | none=>[] | some e=>[e]) from by
        rw[List.take_succ_eq_append_getElem hkn,List.filterMap_append];congr 1;have:R[k]=nth R k:=by simp[nth,hkn]
        rw[this];cases h:doU va vb (nth R k) <;> simp[h])
       have HoL:=hid (show ((R.take k).filterMap (doU va vb)).length≤600 from by
        have h1:=List.length_filterMap_le (doU va vb) (R.take k);rw[List.length_take] at h1;omega)
       obtain⟨a1,n1,c1,a2,n2,c2,hat,hi1,hi2⟩:=HP6.out.vals (nth R k);have hroom:=HU.out.room;have Hm:=hid (HP6.out.own.kept (zau Hb.out) (by simp));generalize (R.take k).filterMap (doU va vb)=V at*;generalize nth R k=x at*;have ha1:=zoq HltA.out HFa.out x;have ha2:=zoq HltB.out HFb.out x;have hC:=hid (zpl a1 a2 n1 c1 n2 c2 (yb va x) (yb vb x) wr (hi1.ivs.below Hb.out) (hi2.ivs.below Hb.out) (zj5 HltA.out x) (zj5 HltB.out x) (by omega));obtain⟨hg3,-,hl3⟩:=zbk (g:=gOr) (zce HltA.out x) (zce HltB.out x) rfl;have hn3:=zjq (zce HltA.out x) (zce HltB.out x);have HE:=hid (show doU va vb x=ofE x (opL gOr (yb va x) (yb vb x)) from rfl);generalize opL gOr (yb va x) (yb vb x)=O at*;have Hg3:=hid hg3;have Hl3:=hid hl3;have hO:O.length≤1002:=by omega
       clear hcell hi1 hi2 hg3 hl3 hn3 ha1 ha2;have h0:(0:Int)≤k:=by omega
       have h04:(k:Int)<(R.length:Int):=by omega
       go_wp2_with (first
        | (at_lookup;refine zj3 rfl _ _ _ rfl Tryz.underlying364 B 1000 D rfl Hm.out x hx64 rfl _ hat ?_)
        | (refine zhp _ _ _ rfl rfl _ 0 2 91 89 _ rfl rfl Tryz.underlying369 (by omega) Tryz.underlying91 zo2 rfl ?_)
        | (refine zhp _ _ _ rfl rfl _ 1 2 91 89 _ rfl rfl Tryz.underlying369 (by omega) Tryz.underlying91 zo2 rfl ?_))
       refine hC.out.mono ?_;rintro e w7 ⟨⟨v3,rfl,ho3⟩,hb7⟩;obtain⟨a3,c3,rfl,hI3⟩:=zbd ho3 Hl3.out;have hD:=hid (zze x a3 O.length c3 O w7 hI3 Hg3.out (by omega));have Hb7:=hid (Hb.out.trans (hb7.mono Hb.out.size));have Ho7:=hid (Ho.out.below hb7);clear ho3 hI3 hb7 hat hc0;go_wp2_with fail;refine hD.out.mono ?_;rintro e w8 ⟨hof,hb8⟩;have Hb8:=hid (Hb7.out.trans (hb8.mono Hb7.out.size));have Ho8:=hid (Ho7.out.below hb8);clear hb8;have heE:=HE.out
       cases hoE:ofE x O with
       | none=>
        rw[hoE] at hof heE;rw[heE] at Hst;simp only[List.append_nil] at Hst;obtain rfl:e=.returned (.tuple #[zbm (0,0,[]) (.slice none 0 0),.bool false]):=hof;clear hoE heE HE;go_wp2;go_roundw
        case rel=>exact⟨k+1,by omega,by go_num,Hb8.out.alloc (by have:=Hb8.out.size;omega) _,by rw[Hst.out];exact Ho8.out.below ((Below.refl _ _).alloc (Nat.le_refl _) _)⟩
        case measure=>simp[intOf];omega
       | some f=>
        rw[hoE] at hof heE;rw[heE] at Hst
        have hlf:zk f.2.2:=by
         by_cases hne:O=[]
         · rw[(zfu Hg3.out Hl3.out (r:=x)).none hne] at hoE;cases hoE
         · obtain⟨f',hf',-,-,h3,-⟩:=(zfu Hg3.out Hl3.out (r:=x)).some hne;rw[hf'] at hoE;cases hoE;exact h3
        obtain⟨sa,sc,rfl,hs,hbk⟩:=zzb hof hlf;have Hbk:=hid (show 0<f.2.2.length→∀p,sa=some p→w6.heap.size≤p.block from fun _ p hp=>Nat.le_trans Hb7.out.size (hbk p hp));clear hbk;obtain⟨er,em,eh⟩:=f;simp only at hs Hbk;have Hs:=hid (hs 0)
        have hal2:Below w8.heap.size w8 ((w8.alloc (.cells #[.int .u64 er,.int .u64 em,.slice sa eh.length sc] 93)).alloc (.cells #[.int .u64 er,.int .u64 em,.slice sa eh.length sc] 93)):=
         ((Below.refl w8.heap.size w8).alloc (Nat.le_refl _) _).alloc (by simp) _
        have Hal2:=hid hal2;clear hoE heE HE hof hs hal2 hlf;go_wp2_with (at_builtin;refine zza rfl _ _ rfl rfl w6.heap.size _ V rfl (Ho8.out.below Hal2.out) _ 1 (er,em,eh) sa eh.length sc (Hs.out.steady (P:=fun _=>True) (.of_below Hal2.out) trivial) Hbk.out rfl (vy (yp _ _ _ (by simp)) rfl rfl) (by have:=HoL.out;omega) (by have:=Hb8.out.size;simp;omega) ?_;intro v' w9 ho9 hg9);have Hb9:=hid (Below.grown (Hb8.out.trans (Hal2.out.mono Hb8.out.size)) hg9 (by have:=Hb8.out.size;have:=Hal2.out.size;omega) (fun k hk=>(Ho8.out.lt k hk).1));go_roundw
        case rel=>exact⟨k+1,by omega,by go_num,Hb9.out,by rw[Hst.out];exact ho9⟩
        case measure=>simp[intOf];omega
     · obtain rfl:k=R.length:=by omega
       have HF:=hid (show doV gOr va vb=(R.take R.length).filterMap (doU va vb) from by rw[List.take_length];unfold doV;rw[HR.out];rfl);go_wp2;go_ret;exact⟨⟨_,rfl,by rw[HF.out];exact Ho.out.lower hwr⟩,Hb6.out.trans (Hb.out.mono Hb6.out.size)⟩
  · intro x u w4 cnt4 hx hlx hhx hrg4 hlt4 hg4 hs4 hen;have hsz:=hK.out.size;have hv4:w4.heap[N]?=some (.cells #[v] 367):=(hg4.block N (by have:=Hs3.out;omega) (by simp)).trans hv.out;have ho4:w4.ownsRow (N+2) 43 1 v L.length (zo L):=qk ho.out (fun k hk1 hk2=>hg4.block k hk2 (by simp;omega));have hC:=hid (zx3 N (N+2) v L x w4 hv4 ho4 (by omega) (by have:=Hs3.out;omega) (fun y hy=>zqk HltA.out HltB.out y (hM.out.sub HP3.out.keys y hy)) hM.out.asc (hM.out.new hlx) (by have:=hM.out.len HP3.out.keys;have:=Hla.out;omega));have Hx:=hid hx;have Hhx:=hid hhx;have Hrg4:=hid hrg4;have Hlt4:=hid hlt4;have Hg4:=hid hg4;have Hs4:=hid hs4;clear hx hlx hhx hrg4 hlt4 hg4 hs4 hv4 ho4 hsz;go_wp2_with fail;refine hC.out.mono ?_;rintro e w5 ⟨rfl,v5,hv5,ho5,hk5⟩;have hk45:w4.heap.size≤w5.heap.size:=hk5.size;have hrg5:w5.ranges Tryz.prog 43 rP B (N+1) 1000 D (fun z=>left z && !z.sameKey (.int .u64 (x:Int))) cnt4:=zxc Hrg4.out (hk5.row B (by have:=Hs3.out;have:=hK.out.size;have:=Hs4.out;omega) ⟨by omega,by omega⟩) (hk5.row (N+1) (by have:=Hs3.out;have:=hK.out.size;have:=Hs4.out;omega) ⟨by omega,by omega⟩);have HK5:=hid ((hK.out.grown Hg4.out (fun k hk hkw hkp=>by cases hk;exact hkp.2.2 rfl)).trans (hk5.mono (fun k hk hp=>⟨hp.1,hp.2.1⟩)));have Hrg5:=hid hrg5;have Hv5:=hid hv5;have Ho5:=hid ho5;have HM5:=hid (hM.out.step Hhx.out);clear hv5 ho5 hk5 hrg5 hen;go_wp2;go_roundw
    case rel=>exact⟨_,cnt4,_,v5,Hrg5.out,Hv5.out,Ho5.out,HM5.out,HK5.out⟩
    case measure=>rw[Hrg5.out.left_eq,Hrg.out.left_eq];exact Hlt4.out
end
section
abbrev RR (α:Type):=Except (Nat×Nat) (α×Nat)
def thn {α β:Type} (a:RR α) (f:α→Nat→RR β):RR β:=match a with | .error e=>.error e | .ok y=>f y.1 y.2
theorem ye {α β:Type} (x:α) (q:Nat) (f:α→Nat→RR β):thn (.ok (x,q)) f=f x q:=rfl
theorem zbh {α β:Type} (e:Nat×Nat) (f:α→Nat→RR β):thn (.error e:RR α) f=.error e:=rfl
theorem vu {α β γ:Type} (a:RR α) (f:α→Nat→RR β) (g:β→Nat→RR γ):thn (thn a f) g=thn a fun x q=>thn (f x q) g:=by cases a <;> rfl
theorem kz {α β:Type} {a:RR α} {f g:α→Nat→RR β} (h:∀x q,f x q=g x q):thn a f=thn a g:=by rw[show f=g from funext fun x=>funext fun q=>h x q]
abbrev zt:=Nat→Except Nat (Nat×Nat)
def nmP (T:zt) (p:Nat):RR Nat:=match T p with | .error c=>.error (c,p) | .ok y=>.ok y
def zv (x:Nat) (lim:Int) (rest:Nat):Nat:=if lim<(x:Int)∧x≠0 then 7 else if rest<x then 5 else 0
def yj (T:zt) (E:Nat) (lim:Int) (p:Nat):RR Nat:=thn (nmP T p) fun x q=>if zv x lim (E - q)=0 then .ok (x,q) else .error (zv x lim (E - q),p)
def loP (prev:Option Nat) (ap d:Nat):Option Nat:=match prev with | none=>some d | some h=>if h+1+ap+d<18446744073709551616 then some (h+1+ap+d) else none
def hiP (T:zt) (lo q:Nat):RR (Iv×Nat):=thn (nmP T q) fun y r=>if lo+y<18446744073709551616 then .ok (((lo,lo+y),q),r) else .error (8,q)
def ivP (T:zt) (prev:Option Nat) (ap p:Nat):RR (Iv×Nat):=thn (nmP T p) fun x q=>match loP prev ap x with | none=>.error (8,p) | some lo=>hiP T lo q
def z7 (l:List Iv):Option Nat:=l.getLast?.map (·.2)
def zaw {α:Type} (mx:Nat) (s:Iv×Nat) (q:Nat) (f:Iv→Nat→RR α):RR α:=if mx≤s.1.2 then .error (8,s.2) else f s.1 q
def jb (T:zt) (mx:Nat):Nat→List Iv→Nat→RR (List Iv)
 | 0,acc,p=>.ok (acc,p)
 | n+1,acc,p=>thn (ivP T (z7 acc) 1 p) fun s q=>zaw mx s q fun s q=>jb T mx n (acc++[s]) q
def ko (v:Vec) (x:Nat):Option Nat:=match v.getLast? with | none=>some x | some e=>if e.1+1+x<18446744073709551616 then some (e.1+1+x) else none
def zb6 (T:zt) (E:Nat) (lim:Int) (r mx p:Nat):RR Ent:=thn (yj T E lim p) fun n q=>thn (jb T mx n [] q) fun h q=>.ok ((r,mx,h),q)
def zbs (T:zt) (E:Nat) (lim:Int) (r p:Nat):RR Ent:=thn (nmP T p) fun mx q=>zb6 T E lim r mx q
def jr (T:zt) (E:Nat) (lim:Int) (v:Vec) (p:Nat):RR Ent:=thn (nmP T p) fun x q=>match ko v x with | none=>.error (8,p) | some r=>zbs T E lim r q
def qu (T:zt) (E:Nat) (lim:Int):Nat→Vec→Nat→RR Vec
 | 0,v,p=>.ok (v,p)
 | n+1,v,p=>thn (jr T E lim v p) fun e q=>qu T E lim n (v++[e]) q
def vk (T:zt) (E:Nat) (le lh:Int) (p:Nat):RR Vec:=thn (yj T E le p) fun n q=>if n=0 then .error (9,p) else qu T E lh n [] q
def vm (vs:List Vec) (v:Vec):Bool:=match vs.getLast? with | none=>false | some u=>decide (0≤zw u v)
def jc (T:zt) (E:Nat) (le lh:Int):Nat→List Vec→Nat→RR (List Vec)
 | 0,vs,p=>.ok (vs,p)
 | n+1,vs,p=>thn (vk T E le lh p) fun v q=>if vm vs v=true then .error (3,p) else jc T E le lh n (vs++[v]) q
def zan (l:List Iv) (lo:Nat):Bool:=match z7 l with | none=>false | some h=>decide (lo=h+1)
def za5 {α:Type} (T:zt) (N:Nat) (tch:Bool) (ix:List Nat) (q:Nat) (f:Nat→Nat→RR α):RR α:=
 thn (nmP T q) fun x r=>if N≤x then .error (8,q) else if tch=true∧ix.getLast?=some x then .error (10,q) else f x r
def qv (T:zt) (N:Nat):Nat→List Iv→List Nat→Nat→RR (List Iv×List Nat)
 | 0,l,ix,p=>.ok ((l,ix),p)
 | m+1,l,ix,p=>thn (ivP T (z7 l) 0 p) fun s q=>za5 T N (zan l s.1.1) ix q fun x r=>qv T N m (l++[s.1]) (ix++[x]) r
def qi (vs:List Vec) (l:List Iv) (ix:List Nat):Kno:=zh2 vs l (ix.map fun (n:Nat)=>(n:Int))
def kg (E:Nat) (c:Kno) (p:Nat):RR Kno:=if (∃f∈c,f.1=[]) then .error (10,p) else if p<E then .error (11,p) else .ok (c,p)
def zao (T:zt) (E:Nat) (lim:Int) (vs:List Vec) (p:Nat):RR Kno:=thn (yj T E lim p) fun m q=>thn (qv T vs.length m [] [] q) fun s q=>kg E (qi vs s.1 s.2) q
def qm (T:zt) (E:Nat) (L:Int×Int×Int×Int×Int) (p:Nat):RR Kno:=thn (yj T E L.2.1 p) fun n q=>thn (jc T E L.2.2.1 L.2.2.2.1 n [] q) fun vs q=>zao T E L.2.2.2.2 vs q
structure PS where
 tag:Nat
 v:Vec
 rep:Nat
 mx:Nat
 h:List Iv
 ents:Nat
 hls:Nat
 lo:Nat
def ps0:PS:=⟨0,[],0,0,[],0,0,0⟩
def jn (s:PS) (hls:Nat) (h:List Iv):PS:=
 if 0<hls then { s with tag:=4,h:=h,hls:=hls - 1 }
 else if 1<s.ents then { s with tag:=1,v:=s.v++[(s.rep,s.mx,h)],h:=[],ents:=s.ents - 1,hls:=0 }
 else { s with tag:=6,v:=s.v++[(s.rep,s.mx,h)],h:=[],ents:=s.ents - 1,hls:=0 }
def qa (le lh:Int) (s:PS) (x rest:Nat):Except Nat PS:=
 match s.tag with
 | 0=>if zv x le rest≠0 then .error (zv x le rest) else if x=0 then .error 9 else .ok { s with tag:=1,v:=[],ents:=x }
 | 1=>match ko s.v x with | none=>.error 8 | some r=>.ok { s with tag:=2,rep:=r }
 | 2=>.ok { s with tag:=3,mx:=x }
 | 3=>if zv x lh rest≠0 then .error (zv x lh rest) else .ok (jn s x [])
 | 4=>match loP (z7 s.h) 1 x with | none=>.error 8 | some lo=>.ok { s with tag:=5,lo:=lo }
 | _=>if s.lo+x<18446744073709551616∧s.lo+x<s.mx then .ok (jn s s.hls (s.h++[(s.lo,s.lo+x)])) else .error 8
def zdd (T:zt) (E:Nat) (le lh:Int) (s:PS) (p:Nat):RR Vec:=
 match s.tag with
 | 0=>vk T E le lh p
 | 1=>qu T E lh s.ents s.v p
 | 2=>thn (zbs T E lh s.rep p) fun e q=>qu T E lh (s.ents - 1) (s.v++[e]) q
 | 3=>thn (zb6 T E lh s.rep s.mx p) fun e q=>qu T E lh (s.ents - 1) (s.v++[e]) q
 | 4=>thn (ivP T (z7 s.h) 1 p) fun i q=>zaw s.mx i q fun i q=>thn (jb T s.mx s.hls (s.h++[i]) q) fun h q=>qu T E lh (s.ents - 1) (s.v++[(s.rep,s.mx,h)]) q
 | 5=>thn (hiP T s.lo p) fun i q=>zaw s.mx i q fun i q=>thn (jb T s.mx s.hls (s.h++[i]) q) fun h q=>qu T E lh (s.ents - 1) (s.v++[(s.rep,s.mx,h)]) q
 | _=>.ok (s.v,p)
theorem zql (T:zt) (E:Nat) (le lh:Int) (s:PS) (hls:Nat) (h:List Iv) (q:Nat):
 zdd T E le lh (jn s hls h) q=thn (jb T s.mx hls h q) fun h q=>qu T E lh (s.ents - 1) (s.v++[(s.rep,s.mx,h)]) q:=by
 unfold jn
 cases hls with
 | succ n=>
  rw[if_pos (Nat.succ_pos _)];simp only[zdd];rw[jb,vu];refine kz fun s' q'=>?_
  simp only[zaw,Nat.add_sub_cancel];split
  · rw[zbh]
  · rfl
 | zero=>
  rw[if_neg (by omega),jb,ye];by_cases h1:1<s.ents
  · rw[if_pos h1];rfl
  · rw[if_neg h1];show (.ok (s.v++[(s.rep,s.mx,h)],q):RR Vec)=_;rw[show s.ents - 1=0 by omega]
    rfl
theorem z0d (T:zt) (E:Nat) (le lh:Int) (s:PS) (p:Nat) (hs:s.tag<6) (he:1≤s.tag→0<s.ents):
 zdd T E le lh s p=thn (nmP T p) fun x q=>match qa le lh s x (E - q) with | .error c=>.error (c,p) | .ok s'=>zdd T E le lh s' q:=by
 obtain⟨tag,v,rep,mx,h,ents,hls,lo⟩:=s;simp only at hs he;rcases(by omega:tag=0∨tag=1∨tag=2∨tag=3∨tag=4∨tag=5) with rfl | rfl | rfl | rfl | rfl | rfl
 · show vk T E le lh p=_;unfold vk yj;rw[vu];refine kz fun x q=>?_
   simp only[qa];by_cases hc:zv x le (E - q)=0
   · rw[if_pos hc,if_neg (fun h=>h hc),ye];by_cases hx:x=0
     · rw[if_pos hx,if_pos hx]
     · rw[if_neg hx,if_neg hx];rfl
   · rw[if_neg hc,if_pos hc,zbh]
 · show qu T E lh ents v p=_;obtain⟨n,rfl⟩:∃n,ents=n+1:=⟨ents - 1,by have:=he (Nat.le_refl _);omega⟩;rw[qu,jr,vu];refine kz fun x q=>?_
   simp only[qa]
   cases ko v x with
   | none=>rfl
   | some r=>rfl
 · show thn (zbs T E lh rep p) (fun e q=>qu T E lh (ents - 1) (v++[e]) q)=_;unfold zbs;rw[vu]
   rfl
 · show thn (zb6 T E lh rep mx p) (fun e q=>qu T E lh (ents - 1) (v++[e]) q)=_;unfold zb6 yj;rw[vu,vu];refine kz fun x q=>?_
   simp only[qa];by_cases hc:zv x lh (E - q)=0
   · rw[if_pos hc,if_neg (fun h=>h hc),ye];simp only;rw[zql,vu]
     rfl
   · rw[if_neg hc,if_pos hc,zbh]
 · show thn (ivP T (z7 h) 1 p) (fun i q=>zaw mx i q fun i q=>thn (jb T mx hls (h++[i]) q) fun h q=>qu T E lh (ents - 1) (v++[(rep,mx,h)]) q)=_;unfold ivP;rw[vu];refine kz fun x q=>?_
   simp only[qa]
   cases loP (z7 h) 1 x with
   | none=>rfl
   | some lo=>rfl
 · show thn (hiP T lo p) (fun i q=>zaw mx i q fun i q=>thn (jb T mx hls (h++[i]) q) fun h q=>qu T E lh (ents - 1) (v++[(rep,mx,h)]) q)=_;unfold hiP;rw[vu];refine kz fun x q=>?_
   simp only[qa];by_cases h1:lo+x<18446744073709551616
   · rw[if_pos h1,ye];simp only[zaw];by_cases h2:mx≤lo+x
     · rw[if_pos h2,if_neg (by omega)]
     · rw[if_neg h2,if_pos ⟨h1,by omega⟩];simp only;rw[zql]
   · rw[if_neg h1,if_neg (by omega),zbh]
theorem zf7 {le lh:Int} {s s':PS} {x rest:Nat} (hs:s.tag<6) (he:1≤s.tag→0<s.ents) (h:qa le lh s x rest=.ok s'):s'.tag≤6∧(1≤s'.tag→s'.tag<6→0<s'.ents)∧1≤s'.tag:=by
 obtain⟨tag,v,rep,mx,hh,ents,hls,lo⟩:=s;simp only at hs he
 have nx:∀(t:PS) (k:Nat) (l:List Iv),0<t.ents→(jn t k l).tag≤6∧(1≤(jn t k l).tag→(jn t k l).tag<6→0<(jn t k l).ents)∧1≤(jn t k l).tag:=by
  intro t k l ht;unfold jn;split
  · exact⟨by simp,fun _ _=>ht,by simp⟩
  · split
    · exact⟨by simp,fun _ _=>by simp only;omega,by simp⟩
    · exact⟨by simp,fun _ h=>absurd h (by simp),by simp⟩
 rcases(by omega:tag=0∨tag=1∨tag=2∨tag=3∨tag=4∨tag=5) with rfl | rfl | rfl | rfl | rfl | rfl <;> simp only[qa] at h
 · split at h
   · cases h
   · split at h
     · cases h
     · cases h;exact⟨by simp,fun _ _=>by simp only;omega,by simp⟩
 · cases hr:ko v x with
   | none=>rw[hr] at h;cases h
   | some r=>rw[hr] at h;cases h;exact⟨by simp,fun _ _=>he (by simp),by simp⟩
 · cases h;exact⟨by simp,fun _ _=>he (by simp),by simp⟩
 · split at h
   · cases h
   · cases h;exact nx _ _ _ (he (by simp))
 · cases hr:loP (z7 hh) 1 x with
   | none=>rw[hr] at h;cases h
   | some r=>rw[hr] at h;cases h;exact⟨by simp,fun _ _=>he (by simp),by simp⟩
 · split at h
   · cases h;exact nx _ _ _ (he (by simp))
   · cases h
end
section
open Go.RowKit
set_option maxRecDepth 20000 in
theorem z0e (a:Option Addr) (n cap:Nat) (k:Kno) (w:World) (hE:Frags w a n cap k) (hL:LtK k) (hF:KnoFits k) (hG:∀f∈k,Good f.1) (hS:(zm k).length≤10000):
 Calls Tryz.prog 174 #[.slice a n cap] w fun x w'=>zew w.heap.size (vq k) x w'∧Below w.heap.size w w':=by
 have HE:=hid hE;have hC:=hid (zz4 a n cap k w hE hL hF hG hS);have Hall:=hid (zhr k);have Hsa:=hid (zdb k);have Hlt:=hid (zog hL);have HLn:=hid hS;have hmem:∀f∈k,Good f.1∧f.1.length≤1000000:=fun f hf=>⟨hG f hf,by have:=hF.items f hf;omega⟩
 have hn5:n≤500:=by rw[←hE.len];exact hF.len
 have HM:=hid (fun (t:Nat) (w':World) (h:Below w.heap.size w w')=>zpy a n cap t k w' (hE.below h) hmem hn5);clear hE hL hF hG hS hmem;go_enter Tryz.func174,Tryz.ntmps174;go_wp2_with fail;refine hC.out.mono ?_;rintro e w1 ⟨⟨v,rfl,ho⟩,hb1⟩;have Hb1:=hid hb1;obtain⟨aU,cU,rfl,hU⟩:=zco ho Hlt.out;have HU:=hid hU;clear hb1 ho hU hC;obtain⟨N,hN⟩:∃N,N=(zm k).length:=⟨_,rfl⟩;have HN:=hid hN;rw[←hN] at HU HLn Hall ⊢;clear hN;have hN2:N≤10000:=HLn.out;go_wp2;go_loopw [3,5,6,7,12] (fun y _ _ _ i wr=>∃d:Nat,d≤N∧i=.int .i64 d∧Below w1.heap.size w1 wr∧Hid (wr.ownsRow w1.heap.size 89 2 y (zbo k d).length (ivC (zbo k d)))) (fun _ _ _ _ i _=>N - (intOf i).toNat)
 case atStart=>exact⟨0,by omega,rfl,Below.refl _ _,World.ownsRow_nil _ _ _ _⟩
 case round=>
  obtain⟨d,hd,rfl,hb,ho⟩:=hrel;have Hb:=hid hb;clear hb;have Hbw:=hid (Hb1.out.trans (Hb.out.mono Hb1.out.size));by_cases hdN:d<N
  · have HUr:=hid (HU.out.below Hb.out);have hcl:=HUr.out.room;obtain⟨bS,oS,rfl,hcS⟩:=HUr.out.cells (by omega);have q1:=hcS d hdN;have Hst:=hid (zxz (k:=k) (d:=d) (by rw[←HN.out];exact hdN));have Hpl:=hid (zhs k d);rw[←HN.out] at Hpl;have hD:=hid (HM.out (nth (zm k) d) wr Hbw.out);have Hin:=hid (show inK k (nth (zm k) d)=decide (zq k (nth (zm k) d)≠[]) from rfl);have Hx64:=hid (Hlt.out (nth (zm k) d) (zbb (by rw[←HN.out];exact hdN)));have h0:(0:Int)≤d:=by omega
    have h04:(d:Int)<(N:Int):=by omega
    have hMl:(zq k (nth (zm k) d)).length≤9223372036854775807:=by
     have:=zkj k (nth (zm k) d) k.length;have h2:zq k (nth (zm k) d)=kx k (nth (zm k) d) k.length:=rfl;rw[h2];have:=HE.out.len;omega
    by_cases hM:zq k (nth (zm k) d)=[]
    · have hd1:(((zq k (nth (zm k) d)).length:Int) == 0)=true:=by rw[hM];rfl
      rw[Hin.out,if_neg (by simpa using hM),List.append_nil] at Hst;generalize zbo k d=P0 at*;generalize nth (zm k) d=x at*;generalize zq k x=M at*;clear hM Hin hcS;go_wp2_with fail;refine hD.out.mono ?_;rintro e w2 ⟨⟨y,rfl,ho2⟩,hb2⟩;have Hb2w:=hid (Hb.out.trans (hb2.mono Hb.out.size));have Ho2:=hid (qc ho.out hb2);obtain⟨am,cm,rfl⟩:=jz ho2;clear ho2 hb2;go_wp2;go_roundw
      case rel=>exact⟨d+1,by omega,by go_num,Hb2w.out,by rw[Hst.out];exact Ho2.out⟩
      case measure=>simp[intOf];omega
    · have hMp:0<(zq k (nth (zm k) d)).length:=List.length_pos_iff.2 hM;have hd1:(((zq k (nth (zm k) d)).length:Int) == 0)=false:=by rw[beq_eq_false_iff_ne];omega
      rw[Hin.out,if_pos (by simpa using hM)] at Hst;by_cases hl:d+1<N
      · have q2:=hcS (d+1) hl;have hlt2:=zc2 Hsa.out (i:=d) (j:=d+1) (by omega) (by rw[←HN.out];exact hl)
        have hp:zdn (zm k) d=(nth (zm k) d,nth (zm k) (d+1) - 1):=by
         unfold zdn;rw[if_pos (by rw[←HN.out];exact hl)]
        rw[hp] at Hst;have hy64:=Hlt.out (nth (zm k) (d+1)) (zbb (by rw[←HN.out];exact hl));generalize zbo k d=P0 at*;generalize nth (zm k) (d+1)=y2 at*;generalize nth (zm k) d=x at*;generalize zq k x=M at*;have hwr:IntKind.u64.wrap ((y2:Int) - 1)=((y2 - 1:Nat):Int):=by rw[IntKind.wrap_u64];omega
        have hl1:((d:Int)+1)<(N:Int):=by omega
        have q3:wr.cell? ⟨bS,oS+(d+1),none⟩=some (.int .u64 (y2:Int)):=q2;clear hM Hin hcS hp;go_wp2_with fail;refine hD.out.mono ?_;rintro e w2 ⟨⟨y,rfl,ho2⟩,hb2⟩;have Hb2w:=hid (Hb.out.trans (hb2.mono Hb.out.size));have Ho2:=hid (qc ho.out hb2);have q4:w2.cell? ⟨bS,oS+(d+1),none⟩=some (.int .u64 (y2:Int)):=(hb2.cell (p:=⟨bS,oS+(d+1),none⟩) (zh q2)).trans q2;obtain⟨am,cm,rfl⟩:=jz ho2;clear ho2 hb2 q2 q3 q1;have hal:Below w2.heap.size w2 (w2.alloc (.cells #[.int .u64 x,.int .u64 ((y2 - 1:Nat):Int)] 89)):=(Below.refl _ _).alloc (Nat.le_refl _) _;go_wp2_with (at_builtin;refine zf1 rfl _ _ rfl rfl w1.heap.size _ _ P0 rfl (Ho2.out.alloc _) _ 1 _ [(x,y2 - 1)] rfl (vy (yp _ _ _ (by simp)) rfl rfl) (by have:=Hpl.out;omega) (by have:=Hb2w.out.size;simp;omega) ?_;intro v' w8 ho8 hg8);have Hb8:=hid (Below.grown (B:=w1.heap.size) (Hb2w.out.alloc Hb2w.out.size _) hg8 (by have:=Hb2w.out.size;simp;omega) (fun k hk=>(Ho2.out.lt k hk).1));go_roundw
        case rel=>exact⟨d+1,by omega,by go_num,Hb8.out,by rw[Hst.out,List.length_append];exact ho8⟩
        case measure=>simp[intOf];omega
      · have hp:zdn (zm k) d=(nth (zm k) d,18446744073709551615):=by
         unfold zdn;rw[if_neg (by rw[←HN.out];exact hl)]
        rw[hp] at Hst;generalize zbo k d=P0 at*;generalize nth (zm k) d=x at*;generalize zq k x=M at*;have hl1:¬((d:Int)+1)<(N:Int):=by omega
        clear hM Hin hcS hp;go_wp2_with fail;refine hD.out.mono ?_;rintro e w2 ⟨⟨y,rfl,ho2⟩,hb2⟩;have Hb2w:=hid (Hb.out.trans (hb2.mono Hb.out.size));have Ho2:=hid (qc ho.out hb2);obtain⟨am,cm,rfl⟩:=jz ho2;clear ho2 hb2 q1;go_wp2_with (at_builtin;refine zf1 rfl _ _ rfl rfl w1.heap.size _ _ P0 rfl (Ho2.out.alloc _) _ 1 _ [(x,18446744073709551615)] rfl (vy (yp _ _ _ (by simp)) rfl rfl) (by have:=Hpl.out;omega) (by have:=Hb2w.out.size;simp;omega) ?_;intro v' w8 ho8 hg8);have Hb8:=hid (Below.grown (B:=w1.heap.size) (Hb2w.out.alloc Hb2w.out.size _) hg8 (by have:=Hb2w.out.size;simp;omega) (fun k hk=>(Ho2.out.lt k hk).1));go_roundw
        case rel=>exact⟨d+1,by omega,by go_num,Hb8.out,by rw[Hst.out,List.length_append];exact ho8⟩
        case measure=>simp[intOf];omega
  · obtain rfl:d=N:=by omega
    have Ho:=hid ho.out;rw[Hall.out] at Ho;go_wp2;go_ret;exact⟨⟨_,rfl,vz Ho.out Hb1.out.size⟩,Hbw.out⟩
theorem zk1 (x:Nat) (w:World):Calls Tryz.prog 261 #[.int .i64 x] w fun e w'=>e=.returned (.bool false)∧w'=w:=by
 go_enter Tryz.func261,Tryz.ntmps261;go_wp2;go_ret;exact⟨by simp,rfl⟩
theorem z0f (x y:Nat) (w:World):Calls Tryz.prog 232 #[.int .i64 x,.int .i64 y] w fun e w'=>e=.returned (.int .i64 (if x<y then -1 else if y<x then 1 else 0))∧w'=w:=by
 by_cases h1:x<y
 · rw[if_pos h1];go_enter Tryz.func232,Tryz.ntmps232;go_wp2_with (go_at_call 261;refine(zk1 _ _).mono ?_;rintro e w1 ⟨rfl,rfl⟩);go_ret;exact⟨rfl,rfl⟩
 · rw[if_neg h1];by_cases h2:y<x
   · rw[if_pos h2];go_enter Tryz.func232,Tryz.ntmps232;go_wp2_with (go_at_call 261;refine(zk1 _ _).mono ?_;rintro e w1 ⟨rfl,rfl⟩);go_ret;exact⟨rfl,rfl⟩
   · rw[if_neg h2];go_enter Tryz.func232,Tryz.ntmps232;go_wp2_with (go_at_call 261;refine(zk1 _ _).mono ?_;rintro e w1 ⟨rfl,rfl⟩);go_ret;exact⟨rfl,rfl⟩
set_option maxRecDepth 20000 in
theorem z0g (a d:Option Addr) (N c M c':Nat) (P R:List Nat) (w:World) (hP:U64s w a N c P) (hR:U64s w d M c' R):
 Calls Tryz.prog 190 #[.slice a N c,.slice d M c'] w fun e w'=>e=.returned (.int .i64 (qh P R))∧Below w.heap.size w w':=by
 have HP:=hid hP;have HR:=hid hR;have HN:=hid hP.len;have HM:=hid hR.len;have hNm:N≤9223372036854775807:=Nat.le_trans hP.room hP.most;have hMm:M≤9223372036854775807:=Nat.le_trans hR.room hR.most;clear hP hR;obtain⟨K,hK⟩:∃K:Nat,K=min N M:=⟨_,rfl⟩;have hK1:K≤N:=by omega
 have hK2:K≤M:=by omega
 have hK3:K=N∨K=M:=by omega
 have hmin:min (N:Int) (M:Int)=(K:Int):=by omega
 have HKc:=hid hK3;clear hK hK3;go_enter Tryz.func190,Tryz.ntmps190;go_wp2;go_loopw [5,11] (fun _ i wr=>∃k:Nat,k≤K∧i=.int .i64 k∧Below w.heap.size w wr∧Hid (qh P R=qh (P.drop k) (R.drop k))) (fun _ i _=>K - (intOf i).toNat)
 case atStart=>exact⟨0,by omega,rfl,Below.refl _ _,rfl⟩
 case round=>
  obtain⟨k,hk,rfl,hb,ht⟩:=hrel;have Hb:=hid hb;clear hb;have h0:(0:Int)≤k:=by omega
  by_cases hkK:k<K
  · have h1:k<N:=by omega
    have h2:k<M:=by omega
    have hst:=zp2 (p:=P) (q:=R) (k:=k) (by rw[HN.out];exact h1) (by rw[HM.out];exact h2);have Hst:=hid (ht.out.trans hst);obtain⟨b1,o1,rfl,hc1⟩:=(HP.out.below Hb.out).cells (by omega);obtain⟨b2,o2,rfl,hc2⟩:=(HR.out.below Hb.out).cells (by omega);have q1:=hc1 k h1;have q2:=hc2 k h2;clear hst hc1 hc2;generalize nth P k=x at*;generalize nth R k=y at*;have h01:(k:Int)<(N:Int):=by omega
    have h02:(k:Int)<(M:Int):=by omega
    have h03:(k:Int)<(K:Int):=by omega
    have hcP:=HP.out.room;have hcR:=HR.out.room;by_cases hxy:x=y
    · subst hxy;rw[if_neg (Nat.lt_irrefl _),if_neg (Nat.lt_irrefl _)] at Hst;go_wp2;go_quiet (fail);go_wp2;go_roundw
      case rel=>exact⟨k+1,by omega,by go_num,by first | exact Hb.out | exact zy Hb.out _,Hst.out⟩
      case measure=>simp[intOf];omega
    · have hne:((x:Int) != (y:Int))=true:=by rw[bne_iff_ne];omega
      have Hci:=hid (show Lib.compareInt (x:Int) (y:Int)=qh P R from by
       rw[Hst.out];unfold Lib.compareInt;by_cases hlt:x<y
       · rw[if_pos (by omega),if_pos hlt]
       · rw[if_neg (by omega),if_neg hlt,if_pos (by omega),if_pos (by omega)])
      have hC:=hid (fun w'=>ziu x y w');rw[Hci.out] at hC;generalize hzz:qh P R=z at*;have Hzz:=hid hzz;clear hzz;have hq1:=hid (fun w' (h:Below wr.heap.size wr w')=>(h.cell (p:=⟨b1,o1+k,none⟩) (zh q1)).trans q1);have hq2:=hid (fun w' (h:Below wr.heap.size wr w')=>(h.cell (p:=⟨b2,o2+k,none⟩) (zh q2)).trans q2);clear hxy;go_wp2;go_quiet (fail);go_wp2_with fail;refine za1 (by kernel_rfl) (by kernel_rfl) ?_
      repeat (go_big_quiet_step ((intro hw;first
       | rfl
       | (have q3:=hq1.out _ (by first | exact hw | exact Below.trans (zy (Below.refl _ _) _) hw)
          have q4:=hq2.out _ (by first | exact hw | exact Below.trans (zy (Below.refl _ _) _) hw)
          first
          | (go_at_call 131;refine(hC.out _).mono ?_;rintro e w4 ⟨rfl,rfl⟩;exact⟨rfl,hw⟩)
          | (go_simp
             first | rfl | exact⟨rfl,hw⟩ | (trace_state;fail))))))
      refine wpQuiet_nil ?_;intro w3 hb3;go_wp2;go_ret;exact⟨by rw[Hzz.out];rfl,Hb.out.trans ((by first | exact hb3 | exact Below.trans (zy (Below.refl _ _) _) hb3:Below wr.heap.size wr w3).mono Hb.out.size)⟩
  · obtain rfl:k=K:=by omega
    have Hz:=hid (ht.out.trans (zkw (by rw[HN.out];omega) (by rw[HM.out];omega) (by rw[HN.out,HM.out];exact HKc.out)));rw[HN.out,HM.out] at Hz;have hK:=hid (fun w'=>z0f N M w');obtain⟨zz,hzz⟩:∃zz:Int,zz=if N<M then -1 else if M<N then 1 else 0:=⟨_,rfl⟩;rw[←hzz] at hK Hz;clear hzz;go_wp2_with fail;refine(hK.out _).mono ?_;rintro e w1 ⟨rfl,rfl⟩;go_wp2;go_ret;exact⟨by rw[Hz.out];rfl,Hb.out⟩
theorem zqm (v:Vec):v.length≤(zl v).length:=by
 unfold zl;rw[List.length_cons]
 induction v with
 | nil=>exact Nat.zero_le _
 | cons e v ih=>rw[List.flatMap_cons,List.length_append,List.length_cons,zf5];omega
theorem zk2 (a d:Option Addr) (n c n' c':Nat) (v u:Vec) (w:World) (hE:Ents w a n c v) (hF:Ents w d n' c' u) (fv:(zl v).length≤1000000000000) (fu:(zl u).length≤1000000000000):
 Calls Tryz.prog 148 #[.slice a n c,.slice d n' c'] w fun x w'=>x=.returned (.int .i64 (zw v u))∧Below w.heap.size w w':=by
 have hC:=hid (zqh a n c v w hE (by rw[←hE.len];exact Nat.le_trans (zqm v) fv) fv);have hD:=hid (fun w' (h:Below w.heap.size w w')=>zqh d n' c' u w' (hF.below h) (by rw[←hF.len];exact Nat.le_trans (zqm u) fu) fu);have Hpl:=hid (zhz hE.lt fv);have Hql:=hid (zhz hF.lt fu);have Hcv:=hid (show zw v u=qh (zl v) (zl u) from rfl);clear hE hF fv fu;generalize zl v=P at*;generalize zl u=R at*;go_enter Tryz.func148,Tryz.ntmps148;go_wp2_with fail;refine hC.out.mono ?_;rintro e w1 ⟨⟨y,rfl,ho1⟩,hb1⟩;have Hb1:=hid hb1;obtain⟨aP,cP,rfl,hU1⟩:=zco ho1 Hpl.out;have HU1:=hid hU1;clear hb1 ho1 hU1;go_wp2_with fail;refine(hD.out _ Hb1.out).mono ?_;rintro e w2 ⟨⟨y,rfl,ho2⟩,hb2⟩;have Hb2:=hid (Hb1.out.trans (hb2.mono Hb1.out.size));obtain⟨aR,cR,rfl,hU2⟩:=zco ho2 Hql.out;have HUp:=hid (HU1.out.below hb2);have HUr:=hid hU2;clear hb2 ho2 hU2;go_wp2_with fail;refine(z0g _ _ _ _ _ _ P R _ HUp.out HUr.out).mono ?_;rintro e w3 ⟨rfl,hb3⟩;have Hb3:=hid (Hb2.out.trans (hb3.mono Hb2.out.size));clear hb3;go_wp2;go_ret;exact⟨by rw[Hcv.out];rfl,Hb3.out⟩
theorem z0h (a d:Option Addr) (n c n' c':Nat) (v u:Vec) (w:World) (hE:Ents w a n c v) (hF:Ents w d n' c' u) (fv:VecFits v) (fu:VecFits u):
 Calls Tryz.prog 148 #[.slice a n c,.slice d n' c'] w fun x w'=>x=.returned (.int .i64 (zw v u))∧Below w.heap.size w w':=zk2 a d n c n' c' v u w hE hF (zp3 fv) (zp3 fu)
