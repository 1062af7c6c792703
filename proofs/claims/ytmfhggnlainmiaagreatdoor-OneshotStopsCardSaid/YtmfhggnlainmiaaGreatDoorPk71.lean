/- Part 71. -/
import Derived.Test.YtmfhggnlainmiaaGreatDoorPk34
import Derived.Test.YtmfhggnlainmiaaGreatDoorPk68
set_option linter.unusedVariables false
set_option maxHeartbeats 16000000
namespace Go.Proofs.YtmfhggnlainmiaaGreatDoor
open Lib (hid)
section
open Go.RowKit
set_option maxRecDepth 20000 in
theorem yjs (a:Option Addr) (n cap:Nat) (l:List Nat) (w:World) (hB:Byts w a n cap l) (hn:n≤1000000000000):
 Calls Tryz.prog 79 #[.slice a n cap] w fun e w'=>
  (∃v,e=.returned v∧w'.ownsRow w.heap.size 5 1 v (zaa l).length (u8s (zaa l)))∧Below w.heap.size w w':=by
 have ho1:=World.ownsRow_lit (e:=5) (size:=1) (base:=w.heap.size) w (u8s qw).toArray 5 (Nat.le_refl _) (by unfold maxLen;omega) rfl;have HB:=hid hB;have Ho1:=hid ho1;have hvl:=zdc 9 n;have Hn:=hid hn;have He:=hid (show zaa l=qw++vbF 9 n++l++jo (sum l) from by rw[←hB.len];rfl);have Hlen:=hid (show (zaa l).length=5+(vbF 9 n).length+n+4 from by rw[zgy,hB.len];rfl);have Hv:=hid (fun w=>zs2 9 n w (Nat.lt_of_le_of_lt hn (by decide)) (Nat.lt_of_le_of_lt hn (by decide)) (Nat.le_refl _));have Hvl:=hid (zk3 9 n);generalize vbF 9 n=L2 at*;have hb1:Below w.heap.size w (w.alloc (.cells (u8s qw).toArray 5)):=(Below.refl _ _).alloc (Nat.le_refl _) _;have hcv:(n:Int) % 18446744073709551616=(n:Int):=by omega
 clear hB ho1 hn;go_enter Tryz.func79,Tryz.ntmps79;go_wp2_with fail;refine(z07 _).mono ?_;rintro e w' ⟨rfl,rfl⟩;go_wp2_with fail;refine(Hv.out _).mono ?_;rintro e w2 ⟨v2,rfl,ho2,hb2⟩;obtain⟨a2,c2,rfl,hB2⟩:=zbk ho2 Hvl.out;have Ho2:=hid (zm Ho1.out hb2);have hbb:=hb1.trans (hb2.mono hb1.size);obtain⟨v3,w3,hr3,ho3,hg3⟩:=zdd w.heap.size _ 5 _ Ho2.out a2 _ c2 _ hB2 (by omega) hbb.size;have Ho3:=hid ho3;have hb3:=hbb.grown hg3 hbb.size (fun k hk=>(Ho2.out.lt k hk).1);clear hg3 hb2 ho2 hB2 ho3 hbb Ho2 Ho1 hb1;obtain⟨v4,w4,hr4,ho4,hg4⟩:=zdd w.heap.size v3 _ _ Ho3.out a n cap l (HB.out.below hb3) (by have:=Hn.out;omega) hb3.size;have Ho4:=hid ho4;have hb4:=hb3.grown hg4 hb3.size (fun k hk=>(Ho3.out.lt k hk).1);clear hg4 ho4 hb3 Ho3
 go_wp2_with (at_builtin;first
  | refine qf _ _ 22 rfl rfl (.slice (some ⟨w.heap.size,0,none⟩) 5 5) (.slice a2 L2.length c2) rfl rfl _ _ hr3 ?_
  | refine qf _ _ 22 rfl rfl v3 (.slice a n cap) rfl rfl _ _ hr4 ?_)
 clear hr3 hr4;refine(z05 a n cap l _ (HB.out.below hb4)).mono ?_;rintro e w5 ⟨rfl,rfl⟩;go_wp2_with fail;refine(z06 (sum l) _ (zgx HB.out.lt)).mono ?_;rintro e w5 ⟨rfl,rfl⟩;obtain⟨v6,w6,hr6,ho6,hg6⟩:=zdd w.heap.size v4 _ _ (Ho4.out.alloc (.cells (u8s (jo (sum l))).toArray 5)) (some ⟨w4.heap.size,0,none⟩) 4 4 (jo (sum l)) (zcn _ _ _ _ _ _ _ rfl rfl rfl (zht (zgx HB.out.lt)) (by omega)) (by have:=Hn.out;omega) (by have:=hb4.size;simp only[World.size_alloc];omega);have Ho6:=hid ho6;clear ho6;have hw6:Below w.heap.size w w6:=(hb4.alloc hb4.size _).grown hg6 (by have:=hb4.size;simp only[World.size_alloc];omega) (fun k hk=>(Ho4.out.lt k hk).1);clear hg6 hb4 Ho4;go_wp2_with (at_builtin;refine qf _ _ 22 rfl rfl _ _ rfl rfl _ _ hr6 ?_);go_ret;refine⟨⟨v6,rfl,?_⟩,hw6⟩;rw[Hlen.out,He.out];have:=Ho6.out;simp only[zds] at this ⊢;exact this
set_option maxRecDepth 20000 in
theorem zm9 (a:Option Addr) (n cap:Nat) (ks:List Kno) (w:World) (hE:KnS w a n cap ks) (hR:RightL ks):
 Calls Tryz.prog 34 #[.slice a n cap] w fun e w'=>(∃v,e=.returned v∧w'.ownsRow w.heap.size 5 1 v (yo (ks.map zv)).length (u8s (yo (ks.map zv))))∧Below w.heap.size w w':=by
 have HE:=hid (fun W (h:Below w.heap.size w W)=>hE.below h);have Hl:=hid hE.len;have hn6:n≤6:=by have:=hR.len;have:=hE.len;omega
 have HR:=hid hR;have hr:=hE.room;clear hE hR;go_enter Tryz.func34,Tryz.ntmps34;go_wp2;go_loopw [3,4] (fun y i wr=>∃d:Nat,d≤n∧i=.int .i64 d∧Hid (Below w.heap.size w wr)∧Hid (wr.ownsRow w.heap.size 5 1 y (yo ((ks.map zv).take d)).length (u8s (yo ((ks.map zv).take d))))∧Hid ((yo ((ks.map zv).take d)).length≤9000000019*d)) (fun _ i _=>n - (intOf i).toNat)
 case atStart=>exact⟨0,by omega,rfl,hid (Below.refl _ _),hid (World.ownsRow_nil _ _ _ _),hid (by simp[yo])⟩
 case round=>
  obtain⟨d,hd,rfl,hb,ho,hln⟩:=hrel;by_cases hdn:d<n
  · obtain⟨b,o,rfl,hc⟩:=(HE.out _ hb.out).cells (by omega);obtain⟨x,m,c,e1,hf⟩:=hc d hdn;have hdl:d<ks.length:=by have:=Hl.out;omega
    have h0:(0:Int)≤(d:Int):=by omega
    have h04:(d:Int)<(n:Int):=by omega
    obtain⟨hfw,hck⟩:=HR.out.one _ (zif hdl);obtain⟨k1,k2,k3,k4,k5,k6⟩:=zg8 hf.all hfw hck;have hCa:=z43 x m c (zt ks d) wr hf k1 k4 k5;have hBy:=fun W b c (h:Frags W b (zv (zt ks d)).length c (zv (zt ks d)))=>z44 b _ c (zv (zt ks d)) W h k6
    have hJ:∀y W base,OwnB W base y (zn (zv (zt ks d)))→∃b c,y=.slice b (zq (zn (zv (zt ks d)))).length c∧Byts W b (zq (zn (zv (zt ks d)))).length c (zq (zn (zv (zt ks d)))):=fun y W base h=>by
     obtain⟨b,c,rfl,hB⟩:=zbk h (zf0 _);exact⟨b,c,rfl,hB⟩
    have hst:=z48 (cs:=ks.map zv) (i:=d) (by rw[List.length_map];exact hdl);rw[zqs hdl] at hst;have hfl:=z47 (zv (zt ks d));have hw9:=zm8 k6;have Hln1:=hid (show (yo ((ks.map zv).take (d+1))).length≤9000000019*(d+1) from by rw[hst,List.length_append];have:=hln.out;omega);have Hlt:=hid (zm2 (zv (zt ks d)));have Hw9:=hid hw9;have Hfl:=hid hfl;have Hst:=hid hst;have Hfo:=hid (show kw (zv (zt ks d))=zaa (zq (zn (zv (zt ks d)))) from rfl);unfold z42 at hCa;have HCa:=hid hCa;have HBy:=hid hBy;have HJ:=hid hJ;clear hCa hBy hJ hst hfl hw9 k1 k2 k3 k4 k5 k6 hfw hck hf hc;generalize kw (zv (zt ks d))=Q at*;generalize zq (zn (zv (zt ks d)))=P at*;generalize zn (zv (zt ks d))=N at*;generalize zv (zt ks d)=C at*;go_wp2_with fail;refine HCa.out.mono ?_;rintro e w1 ⟨⟨a1,c1,rfl,hK1⟩,hb1⟩;have HBy1:=hid (HBy.out w1 _ _ hK1);have Ho1:=hid (zm ho.out hb1);have Hb1:=hid (hb.out.trans (hb1.mono hb.out.size));clear hb1 hK1;go_wp2_with fail;refine HBy1.out.mono ?_;rintro e w2 ⟨⟨y2,rfl,hy2⟩,hb2⟩;obtain⟨a2,c2,rfl,hB2⟩:=HJ.out _ _ _ hy2;have HFr:=hid (yjs a2 _ c2 P w2 hB2 (by have:=Hw9.out;omega));have Ho2:=hid (zm Ho1.out hb2);have Hb2:=hid (Hb1.out.trans (hb2.mono Hb1.out.size));clear hb2 hy2 hB2;go_wp2_with fail;refine HFr.out.mono ?_;rintro e w3 ⟨⟨v3,rfl,ho3⟩,hb3⟩;rw[←Hfo.out] at ho3;obtain⟨a3,c3,rfl,hB3⟩:=zbk ho3 Hlt.out;have Ho3:=hid (zm Ho2.out hb3);have hb3w:=Hb2.out.trans (hb3.mono Hb2.out.size);obtain⟨v4,w4,hr4,ho4,hg4⟩:=zdd w.heap.size _ _ _ Ho3.out a3 _ c3 _ hB3 (by have:=Hln1.out;rw[Hst.out,List.length_append] at this;omega) hb3w.size;have Ho4:=hid ho4;have Hb4:=hid (hb3w.grown hg4 hb3w.size (fun k hk=>(Ho3.out.lt k hk).1));have Hr4:=hid hr4;clear hr4 ho4 hg4 hb3 ho3 hB3 hb3w;go_wp2_with (at_builtin;refine qf _ _ 22 rfl rfl _ _ rfl rfl _ _ Hr4.out ?_);go_roundw
    case rel=>exact⟨d+1,by omega,by go_num,Hb4,by
     rw[Hst.out,List.length_append,zds];exact Ho4,Hln1⟩
    case measure=>simp[intOf];omega
  · obtain rfl:d=n:=by omega
    have Ho:=hid ho.out;rw[show (ks.map zv).take d=ks.map zv from List.take_of_length_le (by rw[List.length_map];have:=Hl.out;omega)] at Ho;go_wp2;go_ret;exact⟨⟨_,rfl,Ho.out⟩,hb.out⟩
