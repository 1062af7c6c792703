/- Part 29. -/
import Derived.Test.YtdnipikdddfhfaaGreatDoorWd28
set_option linter.unusedVariables false
set_option maxHeartbeats 16000000
namespace Go.Proofs.YtdnipikdddfhfaaGreatDoor
open Lib (hid)
section
open Go.RowKit
set_option maxRecDepth 100000 in
theorem z3o (a:Option Addr) (n cap:Nat) (k:Kno) (w:World) (hE:Frags w a n cap k) (hD:Door w) (hck:ckF k=none) (hJ:Joins k) (hS:(zm k).length≤10000) (hk:LtK (qt k)) (hcan:CanK (qt k)) (hI:zu (qt k)≤10000) (hF:∀f∈qt k,VecFits f.2) (hB:∀d,d≤(qt k).length→(jm (qt k) d).length≤600000000000) (hN:(qt k).length≤10000):
 Calls Tryz.prog 54 #[.slice a n cap] w fun x w'=>(∃v,x=.returned (.tuple #[v,.nilIface])∧OwnB w' w.heap.size v (qr (qt k)))∧Below w.heap.size w w':=by
 have hC:=zzs a n cap k w hE hD;rw[hck] at hC;simp only[zae,yt] at hC;have HC:=hid hC;have HE:=hid (fun W (h:Below w.heap.size w W)=>hE.below h);have HCn:=hid (fun W (h:Below w.heap.size w W)=>z3a a n cap k W (hE.below h) hJ hS);have Hdf:=hid (zr6 hcan);have Hcan:=hid hcan;have Hk:=hid hk;have HF:=hid hF;have HB:=hid hB;have HI:=hid hI;have HN:=hid hN;have Hgood:=hid (show ∀f∈qt k,Good f.1 from fun f hf=>(hcan.items f hf).1)
 have Hsl:=hid (show (zi (qt k)).length≤10000 from by
  have:=zh0 (qt k) (qt k).length (Nat.le_refl _);rw[List.take_length] at this;unfold zi;omega)
 clear hC hE hD hck hJ hS hk hcan hI hF hB;generalize qt k=c at*;go_enter Tryz.func54,Tryz.ntmps54;go_wp2_with fail;refine HC.out.mono ?_;rintro e w0 ⟨rfl,hb0⟩;have Hb0:=hid hb0;clear hb0;go_wp2_with fail;refine(HCn.out _ Hb0.out).mono ?_;rintro e w1 ⟨⟨y,rfl,ho⟩,hb1⟩;obtain⟨a1,c1,rfl,hK⟩:=ho.frags;have HK:=hid hK;have Hb1:=hid (Hb0.out.trans (hb1.mono Hb0.out.size));clear hb1 ho hK;obtain⟨N,hNe⟩:∃N,N=c.length:=⟨_,rfl⟩;have HNe:=hid hNe;rw[←hNe] at HK HN hN HB ⊢;clear hNe;have hcv:IntKind.u64.wrap (N:Int)=(N:Int):=by rw[IntKind.wrap_u64];omega
 go_wp2_with fail;refine(zde w1.heap.size _ [] N w1 (by omega) (z1d _ _) (Nat.le_refl _) (by simp)).mono ?_;rintro e w2 ⟨b2,rfl,ho2,hg2⟩;have Hb2:=hid (hg2.toBelow (Nat.le_refl _) (fun k h=>by simp[Value.ownBlock] at h));have Ho2:=hid (show OwnB w2 w1.heap.size b2 (jm c 0) from by rw[HNe.out] at ho2;exact ho2);clear ho2 hg2;go_wp2;go_loopw [6,8,29] (fun b _ i wr=>∃d:Nat,d≤N∧i=.int .i64 d∧Below w1.heap.size w1 wr∧Hid (OwnB wr w1.heap.size b (jm c d))) (fun _ _ i _=>N - (intOf i).toNat)
 case atStart=>exact⟨0,by omega,rfl,Hb2.out,Ho2⟩
 case round=>
  obtain⟨d,hd,rfl,hb,hor⟩:=hrel;have Hb:=hid hb;clear hb;by_cases hdn:d<N
  · have hdc:d<c.length:=by rw[←HNe.out];exact hdn
    obtain⟨bb,oo,rfl⟩:=HK.out.some (by omega);obtain⟨x,m,cx,y,m',c',hq⟩:=HK.out.fix hdn;obtain⟨q1,-,q3,-⟩:=hq _ Hb.out;have hE1:=(hq _ (Below.refl _ _)).2.2.2;have hmem:=yx hdc;have hfit:=HF.out _ hmem;have hcv2:=(Hcan.out.vec _ hmem).1;have hal:Below wr.heap.size wr (wr.alloc (.cells #[.slice x m cx,.slice y m' c'] 97)):=(Below.refl _ _).alloc (Nat.le_refl _) _;have hbw:=Hb.out.trans (hal.mono Hb.out.size);have HP:=hid (z2n w1 _ _ y m' c' (zb c d).2 _ hE1 hbw hcv2.asc (fun e he=>(hcv2.ent e he).good) (by have:=hfit.len;have:=hE1.len;omega) hfit.holes (hor.out.below hal) (HB.out d (by omega)));have Hst:=hid (show jm c (d+1)=jm c d++zam (zb c d).2 from rfl);have Hbw:=hid hbw;have Hlt:=hid (hor.out.below hal).lt;have h0:(0:Int)≤d:=by omega
    have h04:(d:Int)<(N:Int):=by omega
    clear hq hE1 hmem hfit hcv2 hal hbw;generalize zam (zb c d).2=pk at*;generalize jm c d=P0 at*;go_wp2_with fail;refine HP.out.mono ?_;rintro e w3 ⟨b3,rfl,ho3,hg3⟩;have Ho3:=hid ho3;have Hb3:=hid (Hbw.out.trans (hg3.toBelow Hbw.out.size (fun k h=>(Hlt.out k h).1)));clear ho3 hg3;go_wp2;go_roundw
    case rel=>exact⟨d+1,by omega,by go_num,Hb3.out,by rw[Hst.out];exact Ho3.out⟩
    case measure=>simp[intOf];omega
  · obtain rfl:d=N:=by omega
    have HSg:=hid (z0o a1 d c1 c wr (HK.out.below Hb.out) Hgood.out HI.out);have HoV:=hid hor.out;obtain⟨wV,hwV⟩:∃wV:World,wV=wr:=⟨_,rfl⟩;rw[←hwV] at Hb HoV HSg ⊢;clear hwV hor;generalize u6=bV at*;go_wp2_with fail;refine HSg.out.mono ?_;rintro e w4 ⟨⟨l,al,cl,gi,rfl,hp,hasc,hIv,hix⟩,hb4⟩;obtain⟨e1,e2⟩:=zp1 Hcan.out hp hasc;obtain rfl:l=j7 c:=e1;rw[e2] at hix;have Hb4:=hid (Hb.out.trans (hb4.mono Hb.out.size));have HoV4:=hid (HoV.out.below hb4);have HlV:=hid (show ∀k,bV.ownBlock=some k→w1.heap.size≤k∧k<wV.heap.size from HoV.out.lt);have HsV:=hid hb4.size;have Hix:=hid hix;obtain⟨S,hS⟩:∃S,S=(j7 c).length:=⟨_,rfl⟩;have HSe:=hid hS;rw[←hS] at hIv Hix ⊢;have hS4:S≤10000:=by have:=Hsl.out;rw[hS,zd8];exact this
    have HDi:=hid (zlb al S cl 0 (j7 c) w4 hIv Hdf.out (by omega) (by omega));have Hdl:=hid (show ∀y∈ky (j7 c) 0,y<18446744073709551616 from zh4 hIv.lt _ (Nat.le_refl _));clear hp hasc hIv hix e2 hb4 HSg HoV hS;rw[show ((0:Nat):Int)=0 from rfl] at HDi;go_wp2_with fail;refine HDi.out.mono ?_;rintro e w5 ⟨⟨vd,rfl,hod⟩,hb5⟩;have Hb5:=hid (Hb4.out.trans (hb5.mono Hb4.out.size));have HoV5:=hid (HoV4.out.below hb5);have Hix5:=hid (qc Hix.out hb5);have Hod:=hid hod;have hcvS:IntKind.u64.wrap (S:Int)=(S:Int):=by rw[IntKind.wrap_u64];omega
    have hl5:(jm c d).length≤1000000000000:=by have:=HB.out d (Nat.le_refl _);omega
    have Hs4:=hid hb5.size;clear hb5 hod;go_wp2_with fail;refine(zde w1.heap.size _ _ S w5 (by omega) HoV5.out Hb5.out.size hl5).mono ?_;rintro e w6 ⟨b6,rfl,ho6,hg6⟩;have Ho6:=hid (show OwnB w6 w1.heap.size b6 (jm c d++kf (j7 c) ((zi c).map (·.2)) 0) from by rw[HSe.out] at ho6;exact ho6);have Hg6:=hid hg6;clear ho6 hg6
    have hrowX:=hid (fun W b (h:Grw w5 W bV b)=>h.row Hix5.out (fun k hk e=>by
     have h1:gi=k:=by simpa [Value.ownBlock] using hk
     have h2:=(HlV.out k e).2;have h3:=(Hix.out.lt gi rfl).1;omega))
    have hrowD:=hid (fun W b (h:Grw w5 W bV b)=>h.row Hod.out (fun k hk e=>by
     have h2:=(HlV.out k e).2;have h3:=(Hod.out.lt k hk).1;have:=HsV.out;omega))
    have Hxl:=hid (show ∀t,t<S→nth ((zi c).map (·.2)) t<10001 from fun t ht=>by
     have:=zlk (k:=c) (i:=t) (by rw[←zd8,←HSe.out];exact ht);have:=HNe.out;omega)
    have Hxlen:=hid (show ((zi c).map (·.2)).length=S from by rw[List.length_map,←zd8];exact HSe.out.symm);have Hdat:=hid (show ∀t,t<S→nth (ky (j7 c) 0) (2*t)=jq (j7 c) 0 t∧nth (ky (j7 c) 0) (2*t+1)=(za (j7 c) t).2 - (za (j7 c) t).1 from fun t ht=>zqf _ _ _ t (by rw[←HSe.out];exact ht));have Hdlen:=hid (show (ky (j7 c) 0).length=2*S from by unfold ky;rw[ze2,←HSe.out])
    have Hend:=hid (show qr c=jm c d++kf (j7 c) ((zi c).map (·.2)) S from by
     unfold qr;rw[←HNe.out,HSe.out,zd8]
     rfl)
    have Hstep:=hid (fun t=>show kf (j7 c) ((zi c).map (·.2)) (t+1)=kf (j7 c) ((zi c).map (·.2)) t++[jq (j7 c) 0 t,(za (j7 c) t).2 - (za (j7 c) t).1,nth ((zi c).map (·.2)) t] from rfl)
    have Hbnd:=hid (fun t (ht:t≤S)=>show (jm c d++kf (j7 c) ((zi c).map (·.2)) t).length≤900000000000 from by
     rw[List.length_append,zie];have:=HB.out d (Nat.le_refl _);omega)
    have hb15:=Hb5.out.size;have hs15:w1.heap.size≤w5.heap.size:=hb15;have Hfin:=hid (fun W b (h:Grw w5 W bV b)=>show Below w.heap.size w W from Hb1.out.trans ((Hb5.out.trans (h.toBelow hs15 (fun k hk=>(HlV.out k hk).1))).mono Hb1.out.size));have Hb1s:=hid Hb1.out.size;clear hb15 HE HCn Hdf Hk HF HI Hgood Hsl HB Hcan HK HoV4 HoV5 Hix Hix5 Hod Hs4 HsV HlV Hb Hb4 Hb5 Hb0 HDi Hb2 Ho2 HC;generalize (zi c).map (·.2)=XS at*;generalize j7 c=LS at*;generalize jm c d=P0 at*;rcases Nat.eq_zero_or_pos S with hS0 | hS0
    · subst hS0;have HeF:=hid (show OwnB w6 w.heap.size b6 (qr c) from by rw[Hend.out];exact vz Ho6.out Hb1s.out);have HbF:=hid (Hfin.out _ _ Hg6.out);clear hrowX hrowD Hxl Hdat Hstep Hbnd Hend Hfin Ho6 Hg6;go_wp2;go_loopw [6,13,14,55] (fun b _ _ i wi=>i=.int .i64 0∧b=b6∧wi=w6) (fun _ _ _ _ _=>0)
      case atStart=>exact⟨rfl,rfl,rfl⟩
      case round=>
       obtain⟨rfl,rfl,rfl⟩:=hrel;go_wp2;go_ret2;exact⟨⟨_,rfl,HeF.out⟩,HbF.out⟩
    · obtain⟨gd,cd,rfl,hgd,hgdl,-,-⟩:=zbq (hrowD.out _ _ Hg6.out) (by omega);go_wp2;go_loopw [6,13,14,55] (fun b _ _ i wi=>∃t:Nat,t≤S∧i=.int .i64 t∧Hid (Grw w5 wi bV b)∧Hid (OwnB wi w1.heap.size b (P0++kf LS XS t))) (fun _ _ _ i _=>S - (intOf i).toNat)
      case atStart=>exact⟨0,by omega,rfl,Hg6,Ho6⟩
      case round=>
       obtain⟨t,ht,rfl,hgi,hoi⟩:=hrel;by_cases htS:t<S
       · have qx:=(hrowX.out _ _ hgi.out).cells (g:=gi) rfl t _ (zgx XS t (by rw[Hxlen.out];exact htS));rw[yk,Nat.zero_add] at qx;have cellsD:=fun W b (h:Grw w5 W bV b) (j:Nat) (hj:j<2*S)=>(hrowD.out W b h).cells (g:=gd) rfl j _ (zdt (ky LS 0) j (by rw[Hdlen.out];exact hj))
         obtain⟨d1,d2⟩:=Hdat.out t htS;have hxl:=Hxl.out t htS
         have HD1:=hid (fun W b (h:Grw w5 W bV b)=>show W.cell? ⟨gd,2*t,none⟩=some (.int .u64 ((jq LS 0 t:Nat):Int)) from by
          have:=cellsD W b h (2*t) (by omega);rwa [yk,Nat.zero_add,d1] at this)
         have HD2:=hid (fun W b (h:Grw w5 W bV b)=>show W.cell? ⟨gd,2*t+1,none⟩=some (.int .u64 (((za LS t).2 - (za LS t).1:Nat):Int)) from by
          have:=cellsD W b h (2*t+1) (by omega);rwa [yk,Nat.zero_add,d2] at this)
         have l1:=Hdl.out _ (zbb (show 2*t<(ky LS 0).length by rw[Hdlen.out];omega));have l2:=Hdl.out _ (zbb (show 2*t+1<(ky LS 0).length by rw[Hdlen.out];omega));rw[d1] at l1;rw[d2] at l2;have Hst:=hid (Hstep.out t);have Hbt:=hid (Hbnd.out t ht);have hm1:IntKind.i64.wrap (2*(t:Int))=((2*t:Nat):Int):=by rw[IntKind.wrap_i64];omega
         have hm2:IntKind.i64.wrap (((2*t:Nat):Int)+1)=((2*t+1:Nat):Int):=by rw[IntKind.wrap_i64];omega
         have h0:(0:Int)≤t:=by omega
         have h04:(t:Int)<(S:Int):=by omega
         have h1:(0:Int)≤((2*t:Nat):Int):=by omega
         have h14:((2*t:Nat):Int)<((2*S:Nat):Int):=by omega
         have h2:(0:Int)≤((2*t+1:Nat):Int):=by omega
         have h24:((2*t+1:Nat):Int)<((2*S:Nat):Int):=by omega
         have hs0:w1.heap.size≤wr.heap.size:=Nat.le_trans hs15 hgi.out.g.size;have HC1:=hid (zde w1.heap.size _ _ (jq LS 0 t) wr l1 hoi.out hs0 (by have:=Hbt.out;omega));have q1:=HD1.out _ _ hgi.out;have hcx:IntKind.u64.wrap ((nth XS t:Nat):Int)=((nth XS t:Nat):Int):=by rw[IntKind.wrap_u64];omega
         clear cellsD d1 d2;generalize jq LS 0 t=n1 at*;generalize (za LS t).2 - (za LS t).1=n2 at*;generalize nth XS t=n3 at*;generalize kf LS XS t=P1 at*;generalize h2t:2*t=tt at*;go_wp2_with fail;refine HC1.out.mono ?_;rintro e w7 ⟨b7,rfl,ho7,hg7⟩;have hG7:=hgi.out.trans hg7;have q2:=HD2.out _ _ hG7;have HC2:=hid (zde w1.heap.size _ _ n2 w7 l2 ho7 (Nat.le_trans hs15 hG7.g.size) (by have:=Hbt.out;simp only[List.length_append,List.length_cons,List.length_nil] at this ⊢;omega));have HG7:=hid hG7;clear ho7 hg7 hG7 q1;go_wp2_with fail;refine HC2.out.mono ?_;rintro e w8 ⟨b8,rfl,ho8,hg8⟩;have hG8:=HG7.out.trans hg8;have HC3:=hid (zde w1.heap.size _ _ n3 w8 (by omega) ho8 (Nat.le_trans hs15 hG8.g.size) (by have:=Hbt.out;simp only[List.length_append,List.length_cons,List.length_nil] at this ⊢;omega));have HG8:=hid hG8;clear ho8 hg8 hG8 q2;go_wp2_with fail;refine HC3.out.mono ?_;rintro e w9 ⟨b9,rfl,ho9,hg9⟩;have HG9:=hid (HG8.out.trans hg9);have Ho9:=hid ho9;clear ho9 hg9;go_wp2;go_roundw
         case rel=>exact⟨t+1,by omega,by go_num,HG9.out,by rw[Hst.out];exact(by simpa using Ho9.out:OwnB _ _ _ (P0++(P1++[n1,n2,n3])))⟩
         case measure=>simp[intOf];omega
       · obtain rfl:t=S:=by omega
         have HeF:=hid (show OwnB wr w.heap.size _ (qr c) from by rw[Hend.out];exact vz hoi.out Hb1s.out);have HbF:=hid (Hfin.out _ _ hgi.out);go_wp2;go_ret2;exact⟨⟨_,rfl,HeF.out⟩,HbF.out⟩
end
section
def vsK (c:Kno):List Vec:=c.map (·.2)
theorem zdi (c:Kno):(vsK c).length=c.length:=by simp[vsK]
theorem zig {c:Kno} {d:Nat} (hd:d<c.length):(vsK c)[d]'(by rw[zdi];exact hd)=(zb c d).2:=by simp[vsK,ym hd]
theorem z3p {c:Kno} (hc:CanK c) {d:Nat} (hd:d<c.length):vm ((vsK c).take d) (zb c d).2=false:=by
 unfold vm
 cases d with
 | zero=>simp
 | succ n=>
  rw[zgd (by rw[zdi];omega),zig (show n<c.length by omega)];have h1:=List.pairwise_iff_getElem.1 hc.asc n (n+1) (by omega) hd (by omega);unfold kk at h1;rw[←ym (by omega),←ym hd] at h1;simp only[h1]
  rfl
theorem zln {T:zt} {E:Nat} {le lh:Int} (hT:Fwd T) {c:Kno} (hc:CanK c) (hl:LtK c):∀d,d≤c.length→∀{p r:Nat},jg T p (jm c d) r→r≤E→
 ∃r0,T p=.ok (c.length,r0)∧r0+d≤r∧∀k,(∀i,i<d→okV le lh (zb c i).2)→jc T E le lh (d+k) [] r0=jc T E le lh k ((vsK c).take d) r
 | 0,_,p,r,hr,hE=>by
   obtain⟨r0,h1,rfl⟩:=hr
   exact⟨r0,h1,by omega,fun k _=>by rw[List.take_zero,Nat.zero_add]⟩
 | d+1,hd,p,r,hr,hE=>by
   rw[jm] at hr;obtain⟨s,h1,h2⟩:=kj.1 hr;have h3:=zch hT h2;have hm:=yx (show d<c.length from hd);obtain⟨hv,hne⟩:=hc.vec _ hm
   have h4:1≤(zam (zb c d).2).length:=by
    obtain⟨R,e⟩:=zlj (zb c d).2 0 (zb c d).2.length (Nat.zero_le _);unfold zam;rw[e];simp[jw]
   obtain⟨r0,h5,h6,h7⟩:=zln hT hc hl d (by omega) h1 (show s≤E by omega);refine⟨r0,h5,by omega,fun k hk=>?_⟩;rw[show d+1+k=d+(k+1) by omega,h7 (k+1) (fun i hi=>hk i (by omega)),jc,(zr0 hT hv (hl _ hm).vec hne h2 hE).1 (hk d (by omega)),ye,z3p hc hd,if_neg (by simp),List.take_succ_eq_append_getElem (by rw[zdi];exact hd),zig hd]
theorem zsh (c:Kno) (i:Nat):∀d,i≤d→∃R,jm c d=jm c i++R
 | 0,h=>⟨[],by rw[show i=0 by omega,List.append_nil]⟩
 | d+1,h=>by
   rcases Nat.lt_or_ge d i with h1 | h1
   · exact⟨[],by rw[show i=d+1 by omega,List.append_nil]⟩
   · obtain⟨R,e⟩:=zsh c i d h1;exact⟨R++zam (zb c d).2,by rw[jm,e,List.append_assoc]⟩
theorem kq (L:List Seg):(y9 L).length=L.length:=by simp[y9]
theorem ze8 (L:List Seg):(ql L).length=L.length:=by simp[ql]
theorem z3q {c:Kno} (hc:CanK c) {d:Nat} (hd:d<(zi c).length):¬(zan ((y9 (zi c)).take d) (za (y9 (zi c)) d).1=true∧((ql (zi c)).take d).getLast?=some (nth (ql (zi c)) d)):=by
 rintro⟨h1,h2⟩
 cases d with
 | zero=>simp at h2
 | succ n=>
  have hp:=List.pairwise_iff_getElem.1 (zp8 hc) n (n+1) (by omega) hd (by omega);unfold zan z7 at h1;rw[zgd (by rw[kq];omega)] at h1;rw[zgd (by rw[ze8];omega)] at h2;have e1:(y9 (zi c))[n]'(by rw[kq];omega)=(zi c)[n].1:=by simp[y9]
  have e2:za (y9 (zi c)) (n+1)=(zi c)[n+1].1:=by rw[yw (by rw[kq];exact hd)];simp[y9]
  have e3:(ql (zi c))[n]'(by rw[ze8];omega)=(zi c)[n].2:=by simp[ql]
  have e4:nth (ql (zi c)) (n+1)=(zi c)[n+1].2:=by simp[nth,ql,hd]
  rw[e1,e2] at h1;rw[e3,e4] at h2;simp only[Option.map_some,decide_eq_true_eq] at h1;have:=hp.2 (Option.some.inj h2);omega
theorem zsi {T:zt} {c:Kno} (hc:CanK c) (hl:LtK c):∀d,d≤(zi c).length→∀{p r:Nat},jg T p (kf (y9 (zi c)) (ql (zi c)) d) r→
 ∃r0,T p=.ok ((zi c).length,r0)∧∀k,qv T c.length (d+k) [] [] r0=qv T c.length k ((y9 (zi c)).take d) ((ql (zi c)).take d) r
 | 0,_,p,r,hr=>by
   obtain⟨r0,h1,rfl⟩:=hr;rw[kq] at h1
   exact⟨r0,h1,fun k=>by rw[List.take_zero,List.take_zero,Nat.zero_add]⟩
 | d+1,hd,p,r,hr=>by
   rw[kf] at hr;obtain⟨s,h1,h2⟩:=kj.1 hr;obtain⟨t,h3,h4⟩:=kj (a:=[jq (y9 (zi c)) 0 d,(za (y9 (zi c)) d).2 - (za (y9 (zi c)) d).1]) (b:=[nth (ql (zi c)) d]).1 h2;obtain⟨r',h5,rfl⟩:=h4;obtain⟨r0,h6,h7⟩:=zsi hc hl d (by omega) h1
   have hlt:zk (y9 (zi c)):=fun s hs=>by
    obtain⟨p,hp,rfl⟩:=List.mem_map.1 hs;obtain⟨-,-,h3⟩:=zcg c c.length (Nat.le_refl _);exact(hl _ (yx (h3 p hp).1)).items _ (h3 p hp).2
   obtain⟨w,h8⟩:=zrv (l:=y9 (zi c)) (a:=0) (zr6 hc) hlt (by rw[kq];exact hd) h3;refine⟨r0,h6,fun k=>?_⟩;rw[show d+1+k=d+(k+1) by omega,h7 (k+1),qv,h8,ye];unfold za5;have hx:nth (ql (zi c)) d<c.length:=zlk (k:=c) hd;rw[zed h5,ye,if_neg (by omega),if_neg (z3q hc hd),List.take_succ_eq_append_getElem (by rw[kq];exact hd),List.take_succ_eq_append_getElem (by rw[ze8];exact hd)]
   have e:nth (ql (zi c)) d=(ql (zi c))[d]'(by rw[ze8];exact hd):=by
    unfold nth;rw[List.getD_eq_getElem?_getD,List.getElem?_eq_getElem (by rw[ze8];exact hd)]
    rfl
   rw[yw (by rw[kq];exact hd),e]
structure okK (L:zg) (c:Kno):Prop where
 vecs:okC c.length L.2.1
 vec:∀i,i<c.length→okV L.2.2.1 L.2.2.2.1 (zb c i).2
 segs:okC (zi c).length L.2.2.2.2
theorem z3r {c:Kno} (hc:CanK c):qi (vsK c) (y9 (zi c)) (ql (zi c))=c:=by
 have h:=zz1 hc;unfold qi ql;rw[List.map_map];exact h
theorem z3s {c:Kno} (hc:CanK c) (E z:Nat):kg E c z=if z<E then .error (11,z) else .ok (c,z):=by
 unfold kg;rw[if_neg (by rintro⟨f,hf,h⟩;exact(hc.items f hf).2 h)]
theorem z3t {T:zt} (hT:Fwd T) {E p z:Nat} {L:zg} {c:Kno} (hc:CanK c) (hl:LtK c) (hr:jg T p (qr c) z) (hz:z≤E):
 (okK L c→qm T E L p=if z<E then .error (11,z) else .ok (c,z))∧(¬okK L c→∃w,qm T E L p=.error (7,w)):=by
 have hr':=hr;unfold qr at hr';obtain⟨s,h1,h2⟩:=kj.1 hr';have h2':jg T s (kf (y9 (zi c)) (ql (zi c)) (zi c).length) z:=h2;have h3:=zch hT h2;rw[zie] at h3;obtain⟨r0,a1,a2,a3⟩:=zln (E:=E) (le:=L.2.2.1) (lh:=L.2.2.2.1) hT hc hl c.length (Nat.le_refl _) h1 (by omega);obtain⟨q0,b1,b2⟩:=zsi hc hl (zi c).length (Nat.le_refl _) h2';have hb:=b2 0;rw[Nat.add_zero,qv,List.take_of_length_le (by rw[kq];exact Nat.le_refl _),List.take_of_length_le (by rw[ze8];exact Nat.le_refl _)] at hb
 have hq:q0+(zi c).length≤E:=by
  cases hS:(zi c).length with
  | zero=>rw[hS] at h2';obtain⟨r,e1,rfl⟩:=h2';rw[b1] at e1;injection e1 with e;injection e with _ e;omega
  | succ n=>
   obtain⟨R,e⟩:∃R,kf (y9 (zi c)) (ql (zi c)) (zi c).length=[(y9 (zi c)).length]++R:=by
    have:∀d,∃R,kf (y9 (zi c)) (ql (zi c)) d=[(y9 (zi c)).length]++R:=by
     intro d
     induction d with
     | zero=>exact⟨[],rfl⟩
     | succ d ih=>obtain⟨R,e⟩:=ih;exact⟨_,by rw[kf,e,List.append_assoc]⟩
    exact this _
   have hln:=zie (y9 (zi c)) (ql (zi c)) (zi c).length;rw[e] at h2' hln;obtain⟨t,⟨t',e1,rfl⟩,e2⟩:=kj.1 h2';have e3:=zch hT e2;rw[b1] at e1;injection e1 with e1;injection e1 with _ e1;simp only[List.length_append,List.length_cons,List.length_nil] at hln;omega
 by_cases k1:okC c.length L.2.1
 · by_cases k2:∀i,i<c.length→okV L.2.2.1 L.2.2.2.1 (zb c i).2
   · have hv:=a3 0 k2;rw[Nat.add_zero,jc,List.take_of_length_le (by rw[zdi];exact Nat.le_refl _)] at hv;by_cases k3:okC (zi c).length L.2.2.2.2
     · refine⟨fun _=>?_,fun h=>absurd ⟨k1,k2,k3⟩ h⟩;unfold qm zao;rw[zee a1 k1 (by omega),ye,hv,ye,zee b1 k3 hq,ye,zdi,hb,ye];simp only;rw[z3r hc,z3s hc]
     · refine⟨fun h=>absurd h.segs k3,fun _=>⟨s,?_⟩⟩;unfold qm zao;rw[zee a1 k1 (by omega),ye,hv,ye,zib b1 k3,zbh]
   · refine⟨fun h=>absurd h.vec k2,fun _=>?_⟩;have:DecidablePred fun i=>okV L.2.2.1 L.2.2.2.1 (zb c i).2:=fun i=>Classical.propDecidable _
     obtain⟨i,hi,hbad,hlt⟩:=zrz (P:=fun i=>okV L.2.2.1 L.2.2.2.1 (zb c i).2) k2;obtain⟨R,e⟩:=zsh c (i+1) c.length hi;have h1':=h1;rw[e] at h1';obtain⟨t,g1,g2⟩:=kj.1 h1';have g3:=zch hT g2;rw[jm] at g1;obtain⟨u,g4,g5⟩:=kj.1 g1;have g6:=zch hT g5;obtain⟨r0',a1',-,a3'⟩:=zln (E:=E) (le:=L.2.2.1) (lh:=L.2.2.2.1) hT hc hl i (by omega) g4 (by omega);obtain rfl:r0'=r0:=by rw[a1] at a1';injection a1' with h;injection h with _ h;exact h.symm
     have hm:=yx hi;obtain⟨w,hw⟩:=(zr0 (E:=E) hT (hc.vec _ hm).1 (hl _ hm).vec (hc.vec _ hm).2 g5 (by omega)).2 hbad;have:=a3' (c.length - i) hlt;rw[show i+(c.length - i)=c.length by omega,show c.length - i=(c.length - i - 1)+1 by omega,jc,hw,zbh] at this
     exact⟨w,by
      unfold qm;rw[zee a1 k1 (by omega),ye,this,zbh]⟩
 · refine⟨fun h=>absurd h.vecs k1,fun _=>⟨p,?_⟩⟩;unfold qm;rw[zib a1 k1,zbh]
end
section
structure Cut (m:Nat) (T T':zt) (E E':Nat):Prop where
 tok:∀p,T' p=T p∨T' p=.error m
 le:E'=E∨(m=5∧E'≤E)
def zba {α:Type} (m:Nat) (a b:RR α):Prop:=b=a∨∃w,b=.error (m,w)
theorem zaa {m:Nat} {α β:Type} {a b:RR α} {f g:α→Nat→RR β} (h:zba m a b) (hf:∀x q,zba m (f x q) (g x q)):zba m (thn a f) (thn b g):=by
 rcases h with rfl | ⟨w,rfl⟩
 · cases b with
   | error e=>exact .inl rfl
   | ok y=>exact hf y.1 y.2
 · exact .inr ⟨w,rfl⟩
theorem zab {m:Nat} {α:Type} (a:RR α):zba m a a:=.inl rfl
variable {m:Nat} {T T':zt} {E E':Nat}
theorem ze9 (h:Cut m T T' E E') (p:Nat):zba m (nmP T p) (nmP T' p):=by
 unfold nmP;rcases h.tok p with e | e
 · rw[e];exact .inl rfl
 · rw[e];exact .inr ⟨p,rfl⟩
theorem zih (h:Cut m T T' E E') (lim:Int) (p:Nat):zba m (yj T E lim p) (yj T' E' lim p):=by
 unfold yj;refine zaa (ze9 h p) fun x q=>?_
 unfold zv;rcases h.le with rfl | ⟨rfl,hle⟩
 · exact zab _
 · by_cases h1:lim<(x:Int)∧x≠0
   · rw[if_pos h1,if_pos h1];exact zab _
   · rw[if_neg h1,if_neg h1];by_cases h2:E' - q<x
     · rw[if_pos h2];exact .inr ⟨p,rfl⟩
     · rw[if_neg h2,if_neg (show ¬E - q<x by omega)];exact zab _
theorem z3u (h:Cut m T T' E E') (lo q:Nat):zba m (hiP T lo q) (hiP T' lo q):=zaa (ze9 h q) fun x q=>zab _
theorem zsj (h:Cut m T T' E E') (prev:Option Nat) (a p:Nat):zba m (ivP T prev a p) (ivP T' prev a p):=by
 unfold ivP;refine zaa (ze9 h p) fun x q=>?_
 cases loP prev a x with
 | none=>exact zab _
 | some lo=>exact z3u h lo q
theorem zsk (h:Cut m T T' E E') (mx:Nat):∀n acc p,zba m (jb T mx n acc p) (jb T' mx n acc p)
 | 0,acc,p=>zab _
 | n+1,acc,p=>by
   rw[jb,jb];refine zaa (zsj h _ _ p) fun s q=>?_
   unfold zaw;split
   · exact zab _
   · exact zsk h mx n _ q
theorem zsl (h:Cut m T T' E E') (lim:Int):∀n acc p,zba m (qu T E lim n acc p) (qu T' E' lim n acc p)
 | 0,acc,p=>zab _
 | n+1,acc,p=>by
   rw[qu,qu];refine zaa ?_ fun e q=>zsl h lim n _ q
   unfold jr;refine zaa (ze9 h p) fun x q=>?_
   cases ko acc x with
   | none=>exact zab _
   | some r=>exact zaa (ze9 h q) fun mx q=>zaa (zih h lim q) fun n q=>zaa (zsk h mx n [] q) fun _ _=>zab _
theorem zsm (h:Cut m T T' E E') (le lh:Int):∀n acc p,zba m (jc T E le lh n acc p) (jc T' E' le lh n acc p)
 | 0,acc,p=>zab _
 | n+1,acc,p=>by
   rw[jc,jc];refine zaa (zaa (zih h le p) fun n q=>?_) fun v q=>?_
   · split
     · exact zab _
     · exact zsl h lh n [] q
   · split
     · exact zab _
     · exact zsm h le lh n _ q
theorem zsn (h:Cut m T T' E E') (N:Nat):∀k l ix p,zba m (qv T N k l ix p) (qv T' N k l ix p)
 | 0,l,ix,p=>zab _
 | k+1,l,ix,p=>by
   rw[qv,qv];refine zaa (zsj h _ _ p) fun s q=>zaa (ze9 h q) fun x r=>?_
   split
   · exact zab _
   · split
     · exact zab _
     · exact zsn h N k _ _ r
theorem zso (h:Cut m T T' E E') (L:zg) (p:Nat):zba m (thn (yj T E L.2.1 p) fun n q=>thn (jc T E L.2.2.1 L.2.2.2.1 n [] q) fun vs q=>thn (yj T E L.2.2.2.2 q) fun m q=>thn (qv T vs.length m [] [] q) fun s q=>(.ok (qi vs s.1 s.2,q):RR Kno))
 (thn (yj T' E' L.2.1 p) fun n q=>thn (jc T' E' L.2.2.1 L.2.2.2.1 n [] q) fun vs q=>thn (yj T' E' L.2.2.2.2 q) fun m q=>thn (qv T' vs.length m [] [] q) fun s q=>.ok (qi vs s.1 s.2,q)):=
 zaa (zih h _ p) fun n q=>zaa (zsm h _ _ n [] q) fun vs q=>zaa (zih h _ q) fun m q=>zaa (zsn h _ m [] [] q) fun _ _=>zab _
theorem zlo (T:zt) (E:Nat) (L:zg) (p:Nat):qm T E L p=thn (thn (yj T E L.2.1 p) fun n q=>thn (jc T E L.2.2.1 L.2.2.2.1 n [] q) fun vs q=>thn (yj T E L.2.2.2.2 q) fun m q=>thn (qv T vs.length m [] [] q) fun s q=>(.ok (qi vs s.1 s.2,q):RR Kno)) fun c q=>kg E c q:=by
 unfold qm zao;rw[vu];refine kz fun n q=>?_
 rw[vu];refine kz fun vs q=>?_
 rw[vu];refine kz fun m q=>?_
 rw[vu]
 rfl
theorem z5x (h:Cut m T T' E E) (L:zg) (p:Nat):zba m (qm T E L p) (qm T' E L p):=by
 rw[zlo,zlo];exact zaa (zso h L p) fun c q=>zab _
theorem z3v (h:Cut 5 T T' E E') (hT':∀p x q,T' p=.ok (x,q)→q≤E') (L:zg) {p z:Nat} {c:Kno} (hp:p≤E') (hd:qm T E L p=.ok (c,z)) (hz:E'<z):∃w,qm T' E' L p=.error (5,w):=by
 have key:=zso h L p;rw[zlo] at hd ⊢;obtain⟨c',z',h1,h2⟩:=j8 hd;rw[h1] at key
 have hz':z'=z:=by
  unfold kg at h2;split at h2
  · cases h2
  · split at h2
    · cases h2
    · cases h2;rfl
 subst hz';rcases key with k | ⟨w,k⟩
 · exfalso;obtain⟨n,q1,a1,a2⟩:=j8 k;obtain⟨vs,q2,a3,a4⟩:=j8 a2;obtain⟨m,q3,a5,a6⟩:=j8 a4;obtain⟨s,q4,a7,a8⟩:=j8 a6;cases a8;have hq3:=hT' _ _ _ (zge a5).1
   have seg_le:∀m l ix p l' q,qv T' vs.length m l ix p=.ok (l',q)→p≤E'→q≤E':=by
    intro m
    induction m with
    | zero=>intro l ix p l' q h hp;cases h;exact hp
    | succ m ih=>
     intro l ix p l' q h hp;rw[qv] at h;obtain⟨s,r,b1,b2⟩:=j8 h;unfold za5 at b2;obtain⟨x,r',b3,b4⟩:=j8 b2;split at b4
     · cases b4
     · split at b4
       · cases b4
       · exact ih _ _ _ _ _ b4 (hT' _ _ _ (zdg b3))
   have:=seg_le _ _ _ _ _ _ a7 hq3;omega
 · rw[k];exact⟨w,rfl⟩
end
section
open Go.RowKit
attribute [local go_sem] zad
theorem z3w (f:Fn) (a b:Array Value) (w:World):(binOp .neq 280 (.func f a b) .nilFunc).run Tryz.prog w=.ok (.bool true) w:=by kernel_rfl
theorem z3x (f:Fn) (a b:Array Value) (w:World):(binOp .eql 280 (.func f a b) .nilFunc).run Tryz.prog w=.ok (.bool false) w:=by kernel_rfl
theorem z3y (w:World):(binOp .neq 280 .nilFunc .nilFunc).run Tryz.prog w=.ok (.bool false) w:=by kernel_rfl
theorem z3z (w:World):(binOp .eql 280 .nilFunc .nilFunc).run Tryz.prog w=.ok (.bool true) w:=by kernel_rfl
theorem z30 (P:Program) (w:World) (a:Addr) (m:Mode):(store a .nilFunc m).run P w=stored P w a .nilFunc m:=run_store P w a _ m rfl
attribute [local go_sem] z30 z3w z3x z3y z3z
def PkP (w:World) (base g:Nat) (L:zg) (r:Except Nat PS) (e:Ending) (w':World):Prop:=
 Below base w w'∧match r with
 | .error c=>e=.returned (.tuple #[.bool true,.iface 35 (.int .i64 (c:Int))])
 | .ok s'=>e=.returned (.tuple #[.bool (decide (s'.tag=6)),.nilIface])∧PkR w' base g L (pkF g s'.tag) s'
theorem z31 (g t:Nat) (h:t<6):∃f,pkF g t=.func (.func f) #[.pointer (some ⟨g,0,none⟩)] #[]:=by
 rcases(by omega:t=0∨t=1∨t=2∨t=3∨t=4∨t=5) with rfl | rfl | rfl | rfl | rfl | rfl <;> exact⟨_,rfl⟩
set_option maxRecDepth 20000 in
theorem zfa (base g:Nat) (L:zg) (V cu:Value) (ents hls t:Nat) (ht6:t<6) (r:Except Nat PS) (x rest:Nat) (w:World) (hg:base≤g) (hR:Row w g 282 (pkC L (pkF g t) V ents hls cu))
 (hS:∀f,pkF g t=.func (.func f) #[.pointer (some ⟨g,0,none⟩)] #[]→Calls Tryz.prog f #[.pointer (some ⟨g,0,none⟩),.int .u64 (x:Int),.int .i64 (rest:Int)] w (PkS w base g L r)) (h6:∀s',r=.ok s'→s'.tag≤6):
 Calls Tryz.prog 146 #[.pointer (some ⟨g,0,none⟩),.int .u64 (x:Int),.int .i64 (rest:Int)] w (PkP w base g L r):=by
 have q5:=hR.cell 5 rfl;have q6:=hR.cell 6 rfl;have Hg:=hid hg
 cases r with
 | error c=>
  rcases(by omega:t=0∨t=1∨t=2∨t=3∨t=4∨t=5) with rfl | rfl | rfl | rfl | rfl | rfl
  all_goals
   have HS:=hid (hS _ rfl);simp only[pkF] at q5;clear hS;clear hR h6;go_enter Tryz.func146,Tryz.ntmps146;go_wp2_with fail;refine HS.out.mono ?_;rintro e w1 ⟨hb,rfl,C,hR1,hC⟩;obtain⟨y5,p5⟩:∃y,w1.cell? ⟨g,5,none⟩=some y:=⟨_,hR1.cell 5 (List.getElem?_eq_getElem (by omega))⟩;obtain⟨y6,p6⟩:∃y,w1.cell? ⟨g,6,none⟩=some y:=⟨_,hR1.cell 6 (List.getElem?_eq_getElem (by omega))⟩;have z5:=hR1.fz 5;have z6:=hR1.fz 6;have Hb:=hid ((hb.setCell (p:=⟨g,5,none⟩) hg .nilFunc).setCell (p:=⟨g,6,none⟩) hg (.iface 35 (.int .i64 (c:Int))));clear hb hR1 hC q5 q6;go_wp2_with fail;go_quiet (fail);all_goals go_wp2_with fail
   all_goals go_ret2
   all_goals exact⟨zy Hb.out _,rfl⟩
 | ok s'=>
  rcases(by omega:t=0∨t=1∨t=2∨t=3∨t=4∨t=5) with rfl | rfl | rfl | rfl | rfl | rfl
  all_goals
   have HS:=hid (hS _ rfl);simp only[pkF] at q5;clear hS;have H6:=hid (h6 s' rfl);clear hR h6;go_enter Tryz.func146,Tryz.ntmps146;go_wp2_with fail;refine HS.out.mono ?_;rintro e w1 ⟨hb,nx,rfl,hg',V',cu',hR1,hB⟩;have p5:=hR1.cell 5 rfl;have p6:=hR1.cell 6 rfl;have z5:=hR1.fz 5;have z6:=hR1.fz 6;have Hb:=hid ((hb.setCell (p:=⟨g,5,none⟩) hg (pkF g s'.tag)).setCell (p:=⟨g,6,none⟩) hg .nilIface);have HR:=hid (show Row ((w1.setCell ⟨g,5,none⟩ (pkF g s'.tag)).setCell ⟨g,6,none⟩ .nilIface) g 282 (pkC L (pkF g s'.tag) V' s'.ents s'.hls cu') from(hR1.set 5 _).set 6 _);have HB:=hid (hB.grown hR1 (zn (a:=⟨g,6,none⟩) (zn (a:=⟨g,5,none⟩) (jk w1 _) (pkF g s'.tag) (.inr rfl)) .nilIface (.inr rfl)));clear hb hR1 hB q5 q6;by_cases ht:s'.tag=6
   · have Hd:=hid (show decide (s'.tag=6)=true from decide_eq_true ht);have Hf:=hid (show pkF g s'.tag=.nilFunc from by rw[ht];rfl);rw[Hf.out] at HR HB Hb ⊢;clear ht;go_wp2_with fail;go_quiet (fail);all_goals go_wp2_with fail
     all_goals go_ret2
     all_goals exact⟨zy Hb.out _,by rw[Hd.out];rfl,hg,V',cu',by rw[Hf.out];exact HR.out,HB.out.later (zy (Below.refl _ _) _)⟩
   · have Hd:=hid (show decide (s'.tag=6)=false from decide_eq_false ht);obtain⟨f',hf'⟩:=z31 g s'.tag (by have:=H6.out;omega);have Hf:=hid hf';rw[hf'] at HR HB Hb ⊢;clear ht hf';go_wp2_with fail;go_quiet (fail);all_goals go_wp2_with fail
     all_goals go_ret2
     all_goals exact⟨zy Hb.out _,by rw[Hd.out];rfl,hg,V',cu',by rw[Hf.out];exact HR.out,HB.out.later (zy (Below.refl _ _) _)⟩
theorem zsp (base g:Nat) (L:zg) (s:PS) (x rest:Nat) (w:World) (h:PkR w base g L (pkF g s.tag) s) (ht:s.tag<6) (hL:LimsI L) (hx:x<18446744073709551616) (hr:rest<9223372036854775808) (hF:PFit s 900000000000) (he:1≤s.tag→0<s.ents):
 Calls Tryz.prog 146 #[.pointer (some ⟨g,0,none⟩),.int .u64 (x:Int),.int .i64 (rest:Int)] w (PkP w base g L (qa L.2.2.1 L.2.2.2.1 s x rest)):=by
 have h6:∀s',qa L.2.2.1 L.2.2.2.1 s x rest=.ok s'→s'.tag≤6:=fun s' hs=>(zf7 ht he hs).1
 have hvl:=hF.vl;obtain⟨hg,V,cu,hR,hB⟩:=h;have hP:PkR w base g L (pkF g s.tag) s:=⟨hg,V,cu,hR,hB⟩;rcases(by omega:s.tag=0∨s.tag=1∨s.tag=2∨s.tag=3∨s.tag=4∨s.tag=5) with e | e | e | e | e | e
 · exact zfa base g L V cu _ _ s.tag ht _ x rest w hg hR (fun f hf=>by rw[e] at hf;cases hf;exact(z24 base g L _ s x rest w hP e hL hx hr)) h6
 · exact zfa base g L V cu _ _ s.tag ht _ x rest w hg hR (fun f hf=>by rw[e] at hf;cases hf;exact(z21 base g L _ s x rest w hP e hx hF.v (by omega))) h6
 · exact zfa base g L V cu _ _ s.tag ht _ x rest w hg hR (fun f hf=>by rw[e] at hf;cases hf;exact(z26 base g L _ s x rest w hP e (by omega))) h6
 · exact zfa base g L V cu _ _ s.tag ht _ x rest w hg hR (fun f hf=>by rw[e] at hf;cases hf;exact(z2x base g L _ s x rest w hP e hL hx hr (he (by omega)) hF.ents)) h6
 · exact zfa base g L V cu _ _ s.tag ht _ x rest w hg hR (fun f hf=>by rw[e] at hf;cases hf;exact(z2y base g L _ s x rest w hP e hx hF.h)) h6
 · exact zfa base g L V cu _ _ s.tag ht _ x rest w hg hR (fun f hf=>by rw[e] at hf;cases hf;exact(z3i base g L _ s x rest w hP e hx hF (he (by omega)))) h6
set_option maxRecDepth 20000 in
theorem zsq (base g:Nat) (L:zg) (s:PS) (w:World) (h:PkR w base g L (pkF g s.tag) s) (ht:s.tag=6):
 Calls Tryz.prog 147 #[.pointer (some ⟨g,0,none⟩)] w fun e w'=>(∃V,e=.returned V∧OwnV w base V s.v)∧w=w':=by
 obtain⟨hg,V,cu,hR,hB⟩:=h;have hV:OwnV w base V s.v:=by unfold PkB at hB;rw[ht] at hB;exact hB
 rw[ht] at hR;have q5:=hR.cell 5 rfl;have q6:=hR.cell 6 rfl;have q7:=hR.cell 7 rfl;have HV:=hid hV;simp only[pkF] at q5;clear hR hB hV ht;go_enter Tryz.func147,Tryz.ntmps147;go_wp2_with fail;go_ret;exact⟨⟨_,rfl,HV.out⟩,rfl⟩
end
