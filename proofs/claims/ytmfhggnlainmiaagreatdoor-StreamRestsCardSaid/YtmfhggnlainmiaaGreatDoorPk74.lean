/- Part 74. -/
import Derived.Test.YtmfhggnlainmiaaGreatDoorPk73
import Derived.Test.YtmfhggnlainmiaaGreatDoorPk39
import Derived.Test.YtmfhggnlainmiaaGreatDoorPk72
import Derived.Test.YtmfhggnlainmiaaGreatDoorPk71
set_option linter.unusedVariables false
set_option maxHeartbeats 16000000
namespace Go.Proofs.YtmfhggnlainmiaaGreatDoor
open Lib (hid)
section
open Go.ChangeShapes Go.WideShapes Go.RowKit Go.ChangeAt
theorem yj2 {z:Int} (h:(Lit.int .u16 z).wf=true):∃n:Nat,z=n∧n<65536:=by
 have h':=bounds_u16 h;exact⟨z.toNat,by omega,by omega⟩
end
section
open Go.RowKit
theorem yj3 (w:World) (hD:Door w):Calls Tryz.prog 31 #[.iface 27 (.int .i64 1)] w fun e w'=>e=.returned (.int .i64 1)∧Below w.heap.size w w':=zcy (some (1,none)) w hD
end
section
open Go.RowKit
attribute [local go_sem] y9 Tryz.eqGuard_if
theorem yj4 {L:zc} {t u l:List Nat} {s:Dc} {ks:List Kno} {es:List Nat} (h:SI L t s ks es) (e:t++u=l) (hu:s.st<4→u=[]):
 (s.vc=0∧s.vo=l.length∧zee s=.nilIface)∨(s.vc=0∧s.vo≠l.length∧zee s=zcs zh0 5 (l.length:Nat))∨(s.vc≠0∧zee s=zcs zh0 (s.vc:Nat) (s.vo:Nat)):=by
 by_cases h4:s.st=4
 · have hv:=(h.bad h4).2.1;refine .inr (.inr ⟨hv,?_⟩);unfold zee zkf;rw[if_pos h4,if_neg (by omega)]
 · have hs:=h.st;have h5:s.st<4:=by omega
   rw[hu h5,List.append_nil] at e;obtain⟨v1,v2⟩:=h.ver h5;have hk:=h.tk;have hf:=h.fin;subst e;unfold zee zkf;by_cases ho:s.fin=t.length
   · refine .inl ⟨v1,by rw[v2,ho],?_⟩;rw[if_neg h4,if_neg (by omega)]
   · refine .inr (.inl ⟨v1,by rw[v2];exact ho,?_⟩);rw[if_neg h4,if_pos (by omega),if_neg (by decide),hk]
end
section
open Go.RowKit
attribute [local go_sem] y9 Tryz.eqGuard_if
theorem KeepR.of_lo {w w':World} {d:Nat} {T:TypeId} {C:List Value} (hl:Lo w.heap.size d w w') (hr:Row w d T C) (hT:¬zav T):KeepR w w':=
 ⟨⟨hl.size,fun k hk hp=>hl.block k hk fun e=>by
   subst e;rcases hp with h' | ⟨C',T',fr,hT',h'⟩
   · omega
   · rw[show w.heap[k]?=_ from hr] at h';injection h' with h';injection h' with _ h' _;subst h';exact hT hT'⟩,fun k es c hk=>hl.block k (Array.getElem?_eq_some_iff.1 hk).1 fun e=>by
   subst e;rw[show w.heap[k]?=_ from hr] at hk;injection hk with hk;cases hk⟩
theorem DecM.beside {w w':World} {B d d2:Nat} {L L2:zc} {t:List Nat} {s s2:Dc} {ks:List Kno} {es:List Nat} {vp2:Option Addr} {y2:Value} (h:DecM w B d L t s ks es) (hl:Lo w.heap.size d2 w w') (hr:DcR w d2 L2 s2 vp2 y2) (hne:d≠d2):DecM w' B d L t s ks es:=by
 obtain⟨vp,y,h1,h2,h3,hv,h4⟩:=h
 exact⟨vp,y,Row.lo h1 hl (Row.lt h1) hne,h2,h3,hv,fun e=>by
  obtain⟨b,R,k1,k2,k3,k4⟩:=h4 e;exact⟨b,R,k1,Nat.le_trans k2 hl.size,k3,k4.keepR (KeepR.of_lo hl hr (by unfold zav jw;decide))⟩⟩
theorem DcR.fresh {w:World} {d:Nat} {L:zc} (B:Nat) (h:DcR w d L dc0 none (.slice none 0 0)):DecM w B d L [] dc0 [] []:=
 ⟨_,_,h,zi4 _,fun c h=>(by cases h),Nat.zero_le _,fun h=>by rcases h with h | h <;> cases h⟩
theorem yj5 (a:Option Addr) (n cap:Nat) (w:World):Calls Tryz.prog 17 #[.pointer none,.slice a n cap] w fun e w'=>e=.returned (.tuple #[.slice none 0 0,.int .i64 0])∧w=w':=by
 go_enter Tryz.func17,Tryz.ntmps17;go_wp2_with fail;go_ret2;exact⟨rfl,rfl⟩
theorem yj6 (w:World):Calls Tryz.prog 22 #[.pointer none] w fun e w'=>e=.returned (.agg #[.int .i64 0,.int .i64 0])∧Below w.heap.size w w':=by
 go_enter Tryz.func22,Tryz.ntmps22;go_wp2_with fail;exact bodyPost_ret (v:=.agg #[.int .i64 0,.int .i64 0]) (by simp[results,Tryz.results22,go_sem]) rfl ⟨rfl,by first | exact Below.refl _ _ | exact(Below.refl _ _).alloc (Nat.le_refl _) _ | exact((Below.refl _ _).alloc (Nat.le_refl _) _).alloc (by simp) _⟩
theorem yj7 (w:World):Calls Tryz.prog 49 #[.pointer none] w fun e w'=>e=.returned (.int .i64 0)∧w=w':=by
 go_enter Tryz.func49,Tryz.ntmps49;go_wp2_with fail;go_ret;exact⟨rfl,rfl⟩
theorem yj8 (w:World):Calls Tryz.prog 18 #[.pointer none] w fun e w'=>e=.returned (.int .i64 0)∧w=w':=by
 go_enter Tryz.func18,Tryz.ntmps18;go_wp2_with fail;go_ret;exact⟨rfl,rfl⟩
theorem yj9 (w:World):Calls Tryz.prog 19 #[.pointer none] w fun e w'=>e=.returned (.iface 27 (.int .i64 1))∧w=w':=by
 go_enter Tryz.func19,Tryz.ntmps19;go_wp2_with fail;go_ret;exact⟨rfl,rfl⟩
end
section
open Go.RowKit
attribute [local go_sem] y9 Tryz.eqGuard_if
theorem yka {c:Kno} (hK:EncK c):zc7 unl c:=⟨by
 have h:=zm8 hK;have e:max (unl.1) 0=(9223372036854775807:Int):=by decide
 rw[e];omega,zlz hK⟩
theorem ykb {cs:List Kno} (hK:∀c∈cs,EncK c) {l1 l2 t8 u8 t9 u9:List Nat} {s1 s2:Dc} {ks8 ks9:List Kno} {es8 es9:List Nat} (hl:l1++l2=yo cs)
 (hs:yk unl { s1 with out:=[],sn:=0 } l2=s2) (e8:t8++u8=l1) (hu8:s1.st<4→u8=[]) (hS8:SI unl t8 s1 ks8 es8) (e9:t9++u9=t8++l2) (hu9:s2.st<4→u9=[]) (hS9:SI unl t9 s2 ks9 es9):
 ks9=cs∧zee s2=.nilIface:=by
 subst hs;obtain⟨v,ev,hv⟩:=zpc (pre:=l1) e8 hu8 hS8 e9 hu9 hS9;have hp:=zl8 ev hS9 hv;have hh:=yj4 hS9 ev hv;rw[hl] at hp hh;obtain⟨es,hq⟩:=zvh (L:=unl) (cs:=cs) fun c hc=>⟨hK c hc,yka (hK c hc)⟩
 obtain⟨h1,-,h3⟩:=zdl hq hp;injection h3 with h3 h4;refine⟨h1,?_⟩;rcases hh with ⟨-,-,h⟩ | ⟨-,h,-⟩ | ⟨h,-⟩
 · exact h
 · exact absurd h4 h
 · exact absurd h3 h
theorem ykc (q v:Nat) (hq:q<256) (hv:v<256):bits .xor .u8 (q:Int) (v:Int)=((q ^^^ v:Nat):Int):=u8_xor_nat q v hq hv
theorem ykd (l:List Nat) (j x:Nat):(u8s l).set j (.int .u8 ((x:Nat):Int))=u8s (l.set j x):=by unfold u8s;rw[List.map_set]
theorem yke {q v:Nat} (hq:q<256) (hv:v<256):q ^^^ v<256:=Nat.xor_lt_two_pow (n:=8) hq hv
set_option maxRecDepth 20000 in
theorem ykf (a:Option Addr) (n cap:Nat) (ks:List Kno) (x y:Nat) (w:World) (hE:KnS w a n cap ks) (hx:x<65536) (hy:y<256) (hD:Door w):
 Calls Tryz.prog 9 #[.slice a n cap,.int .u16 x,.int .u8 y] w fun e w'=>e=.returned (.bool true)∧Below w.heap.size w w':=by
 have HD:=hid (fun W (h:Below w.heap.size w W)=>hD.below (Nat.le_refl _) h);have HA:=hid (fun W (h:Below w.heap.size w W)=>zph W (hD.below (Nat.le_refl _) h));have HE:=hid (fun W (h:Below w.heap.size w W)=>hE.below h);have HRt:=hid (zvi a n cap ks w hE);have HU:=hid (fun W=>zo2 W);have HNw:=hid (fun V=>zma unl V);have hnm:n≤9223372036854775807:=Nat.le_trans hE.room hE.most;have Hlen:=hid hE.len;have Hx:=hid hx;have Hy:=hid hy;have Hgl:=hid (show 0<w.heap.size from zf (p:=⟨0,0,none⟩) hD);clear hE hD hx hy;unfold lmV at HU HNw;go_enter Tryz.func9,Tryz.ntmps9;go_wp2_with fail;refine HRt.out.mono ?_;rintro e w1 ⟨⟨r,rfl,hr⟩,hb1⟩;have Hb1:=hid hb1;clear hb1;rcases hr with ⟨rfl,hR⟩ | ⟨rfl,hR⟩
 case' inr=>
  clear hR;go_wp2_with fail;refine(HA.out _ Hb1.out).mono ?_;rintro e w2 ⟨rfl,hb2⟩;have Hb2:=hid (Hb1.out.trans (hb2.mono Hb1.out.size));clear hb2;go_wp2_with fail;go_ret;exact⟨rfl,Hb2.out⟩
 by_cases hn0:n=0
 · have hz:((n:Int) == 0)=true:=by rw[beq_iff_eq];omega
   clear hR hn0;go_wp2_with fail;refine(HA.out _ Hb1.out).mono ?_;rintro e w2 ⟨rfl,hb2⟩;have Hb2:=hid (Hb1.out.trans (hb2.mono Hb1.out.size));clear hb2;go_wp2_with fail;go_ret;exact⟨rfl,Hb2.out⟩
 have hz:((n:Int) == 0)=false:=by rw[beq_eq_false_iff_ne];omega
 have HR:=hid hR;have Hn0:=hid (show 0<n by omega);clear hR hn0;have HEn:=hid (fun W (h:Below w.heap.size w W)=>zm9 a n cap ks W (HE.out W h) HR.out);obtain⟨cs,hcs⟩:∃cs,ks.map zv=cs:=⟨_,rfl⟩;have Hcl:=hid (show cs.length=n from by rw[←hcs,List.length_map,Hlen.out])
 have HKa:=hid (show ∀c∈cs,EncK c from fun c hc=>by
  rw[←hcs] at hc;obtain⟨k,hk,rfl⟩:=List.mem_map.1 hc;obtain⟨i,hi,rfl⟩:=List.getElem_of_mem hk;rw[←zb2 hi];obtain⟨hfw,hck⟩:=HR.out.one _ (zif hi);obtain⟨b,o,-,hc⟩:=(HE.out _ (Below.refl _ _)).cells Hn0.out;obtain⟨x,m,c,-,hf⟩:=hc i (by have:=Hlen.out;omega);exact(zg8 hf.all hfw hck).2.2.2.2.2)
 have hbl:(yo cs).length≤100000000000:=by
  have h1:=zqv HKa.out;have:=Hcl.out;have:=HR.out.len;have:=Hlen.out;have:9000000019*cs.length≤9000000019*6:=Nat.mul_le_mul_left _ (by omega);omega
 have hb9:9≤(yo cs).length:=by
  have hc:0<cs.length:=by rw[Hcl.out];exact Hn0.out
  cases cs with
  | nil=>simp at hc
  | cons c cs=>
   rw[zjk,List.length_append];unfold kw;rw[zgy];omega
 rw[hcs] at HEn;clear hcs;have Hlt:=hid (zf6 cs);obtain⟨l,hl⟩:∃l,yo cs=l:=⟨_,rfl⟩;rw[hl] at HEn hbl hb9 Hlt;have Hl:=hid hl;clear hl;obtain⟨m,hm⟩:∃m,l.length=m:=⟨_,rfl⟩;rw[hm] at HEn hbl hb9;have Hm:=hid hm;have Hbl:=hid hbl;have Hb9:=hid hb9;clear hm hbl hb9;go_wp2_with fail;refine(HEn.out _ Hb1.out).mono ?_;rintro e w3 ⟨⟨v3,rfl,ho3⟩,hb3⟩;obtain⟨a3,c3,rfl,hB3⟩:=zbk ho3 Hlt.out;obtain⟨b3,o3,rfl,hc3⟩:=hB3.cells (by have:=Hb9.out;omega);have Hb3b:=hid (show b3<w3.heap.size from zf (hc3 0 (by have:=Hb9.out;omega)));have HB3:=hid (fun V (h:Below w3.heap.size w3 V)=>hB3.below h);have Hb3:=hid (Hb1.out.trans (hb3.mono Hb1.out.size));have Hroom:=hid hB3.room;have hmost:=hB3.most;clear hb3 ho3 hB3 hc3;go_wp2_with fail;refine(HU.out _).mono ?_;rintro e w4 ⟨rfl,hb4⟩;have H34:=hid hb4;have Hb4:=hid (Hb3.out.trans (hb4.mono Hb3.out.size));clear hb4;go_wp2_with fail;refine(HNw.out _).mono ?_;rintro e w5 ⟨d1,hd1,hd1',rfl,hr1,hb5⟩;have H35:=hid (H34.out.trans (hb5.mono H34.out.size));have Hb5:=hid (Hb4.out.trans (hb5.mono Hb4.out.size));have Hd1:=hid (show w3.heap.size≤d1∧d1<w5.heap.size from⟨Nat.le_trans H34.out.size hd1,hd1'⟩);have HR15:=hid hr1;clear hb5 hd1 hd1' hr1;go_wp2_with fail;refine(HU.out _).mono ?_;rintro e w6 ⟨rfl,hb6⟩;have H36:=hid (H35.out.trans (hb6.mono H35.out.size));have Hb6:=hid (Hb5.out.trans (hb6.mono Hb5.out.size));have H56:=hid hb6;clear hb6;go_wp2_with fail;refine(HNw.out _).mono ?_;rintro e w7 ⟨d2,hd2,hd2',rfl,hr2,hb7⟩;have H37:=hid (H36.out.trans (hb7.mono H36.out.size));have Hb7:=hid (Hb6.out.trans (hb7.mono Hb6.out.size));have Hd2:=hid (show d1<d2∧d2<w7.heap.size from⟨Nat.lt_of_lt_of_le Hd1.out.2 (Nat.le_trans H56.out.size hd2),hd2'⟩);have HR1:=hid (show DcR w7 d1 unl dc0 none (.slice none 0 0) from Row.later HR15.out (H56.out.trans (hb7.mono H56.out.size)));have HR2:=hid hr2;have HB7:=hid (HB3.out _ H37.out);have Hsz:=hid (show w.heap.size≤w3.heap.size∧w3.heap.size≤w7.heap.size from⟨Hb3.out.size,H37.out.size⟩);clear hb7 hd2 hd2' hr2 H34 H35 H36 H56 HR15;obtain⟨h2,hh2⟩:∃h2,m / 2=h2:=⟨_,rfl⟩;have Hh2:=hid (show h2≤m∧h2<m from by have:=Hb9.out;omega);have htd:Int.tdiv (m:Int) 2=(h2:Int):=by rw[←hh2];exact(Int.ofNat_tdiv m 2).symm
 have hh0:(0:Int)≤(h2:Int):=by omega
 have hhc:h2≤c3:=by have:=Hh2.out;have:=Hroom.out;omega
 have hhm:h2≤m:=Hh2.out.1;clear hh2;obtain⟨B,hB⟩:∃B,w7.heap.size=B:=⟨_,rfl⟩
 have HF1:=hid (zg3 (B:=w7.heap.size) (HR1.out.fresh w7.heap.size) (Nat.le_refl _) (by have:=Hd2.out;omega) (by have:=Hgl.out;have:=Hsz.out;omega) (by have:=Hgl.out;have:=Hsz.out;have:=Hd1.out;omega) (HD.out _ Hb7.out) zg0
  (some ⟨b3,o3,none⟩) h2 c3 (l.take h2) (zke HB7.out Hh2.out.1) (fun _ b o k e=>by injection e with e;injection e with e;have:=Hb3b.out;have:=Hd1.out;omega) (.inr fun b o k e=>by injection e with e;injection e with e;have:=Hb3b.out;have:=Hsz.out;omega) (by simp only[List.length_nil];have:=Hbl.out;have:=Hh2.out;omega))
 rw[show ({ dc0 with out:=[],sn:=0 }:Dc)=dc0 from rfl,hB] at HF1;have HBq:=hid hB;clear hB;go_wp2_with fail;refine HF1.out.mono ?_;rintro e w8 ⟨V8,t8,u8,f8,rfl,hk8,e8,hu8,hM8,hlo8,-,-⟩;obtain⟨s1,hs1⟩:∃s1,yk unl dc0 (l.take h2)=s1:=⟨_,rfl⟩;rw[hs1] at hk8 hu8 hM8 ⊢;rw[List.nil_append] at e8;obtain⟨va8,vc8,rfl⟩:=hk8.slice;have Hlo78:=hid hlo8;have HR28:=hid (show DcR w8 d2 unl dc0 none (.slice none 0 0) from Row.lo HR2.out hlo8 (by rw[←HBq.out];exact Hd2.out.2) (by have:=Hd2.out;omega));have HM8:=hid hM8;have He8:=hid e8;have Hu8:=hid hu8;have HB8:=hid (show Byts w8 (some ⟨b3,o3,none⟩) m c3 l from HB7.out.lo hlo8 fun b o k e _=>by injection e with e;injection e with e;have:=Hb3b.out;have:=Hsz.out;have:=Hd1.out;have:=HBq.out;omega);have Hb8:=hid (show Below w.heap.size w w8 from Hb7.out.trans (hlo8.toBelow (by have:=HBq.out;have:=Hsz.out;omega) (by have:=Hd1.out;have:=Hsz.out;omega)));have Hsz8:=hid (show B≤w8.heap.size from by have:=hlo8.size;have:=HBq.out;omega);clear hk8 e8 hu8 hM8 hlo8 hs1 HF1;obtain⟨v9,w9,hr9,ho9,hb9'⟩:=z5g (some ⟨b3,o3,none⟩) m c3 l HB8.out (by have:=Hbl.out;omega);have Hr9:=hid hr9;obtain⟨i,hi,hin⟩:∃i:Nat,(x:Int) % (m:Int)=(i:Int)∧i<m:=⟨x % m,by omega,Nat.mod_lt _ (by have:=Hb9.out;omega)⟩;obtain⟨g9,c9,rfl,hg9⟩:=ho9.form (by have:=Hb9.out;omega);have hc9:=ho9.cellAt i (by omega);have hf9:=ho9.frozenAt i;rw[zk2 _ _ (by have:=Hm.out;omega)] at hc9;have hx9:nth l i<256:=zfo Hlt.out (by omega) _;have Ho9:=hid ho9;have Hb89:=hid hb9';generalize hy9:nth l i=z at*;have Hy9:=hid hy9;have hrx:=ykc z y hx9 Hy.out;have hcv:wrap64 (x:Int)=(x:Int):=by unfold wrap64;have:=Hx.out;omega
 have htm:Int.tmod (x:Int) (m:Int)=(i:Int):=by rw[←hi];exact Int.tmod_eq_emod_of_nonneg (by omega)
 have hi0:(0:Int)≤(i:Int):=by omega
 have him:(i:Int)<(m:Int):=by omega
 have hmb:((m:Int) == 0)=false:=by rw[beq_eq_false_iff_ne];have:=Hb9.out;omega
 have Hi:=hid hin;have hg9':=hg9.1;have Hg9:=hid hg9';clear hr9 hb9' ho9 hg9 hg9' hy9 hx9;go_wp2_with (at_builtin;refine qf _ _ 22 rfl rfl _ _ rfl rfl _ _ Hr9.out ?_);have hs9:=(Ho9.out.stored i (.int .u8 ((z ^^^ y:Nat):Int))).1;rw[ykd] at hs9
 have hl9:∀x∈l.set i (z ^^^ y),x<256:=by
  intro x hx;rcases List.mem_or_eq_of_mem_set hx with h | h
  · exact Hlt.out x h
  · rw[h];exact yke (by rw[←Hy9.out];exact zfo Hlt.out (by omega) _) Hy.out
 obtain⟨a10,c10,e10,hB10⟩:=zbk hs9 hl9;cases e10;have Hb810:=hid (show Below w8.heap.size w8 (w9.setCell ⟨g9,i,none⟩ (.int .u8 ((z ^^^ y:Nat):Int))) from Hb89.out.setCell (p:=⟨g9,i,none⟩) Hg9.out _);have HB10:=hid hB10;obtain⟨l9,hl9e⟩:∃l9,l.set i (z ^^^ y)=l9:=⟨_,rfl⟩;rw[hl9e] at HB10;clear hs9 hl9 hB10 hl9e hc9 hf9 hrx
 have Hg9s:=hid (show g9<(w9.setCell ⟨g9,i,none⟩ (.int .u8 ((z ^^^ y:Nat):Int))).heap.size from zf (p:=⟨g9,0,none⟩) (by
  obtain⟨b',o',e',h'⟩:=HB10.out.cells (by have:=Hb9.out;omega);cases e';exact h' 0 (by have:=Hb9.out;omega)))
 generalize w9.setCell ⟨g9,i,none⟩ (.int .u8 ((z ^^^ y:Nat):Int))=w10 at*;have Hb10:=hid (show Below w.heap.size w w10 from Hb8.out.trans (Hb810.out.mono Hb8.out.size));have HR210:=hid (show DcR w10 d2 unl dc0 none (.slice none 0 0) from Row.later HR28.out Hb810.out);have HM10:=hid (HM8.out.later Hb810.out);have HB310:=hid (HB8.out.below Hb810.out);have Hsz10:=hid (show B≤w10.heap.size from Nat.le_trans Hsz8.out Hb810.out.size);have Hdd:=hid (show w3.heap.size≤d1∧d1<d2∧d2<B∧w.heap.size≤w3.heap.size∧b3<w3.heap.size∧0<w.heap.size from⟨Hd1.out.1,Hd2.out.1,by rw[←HBq.out];exact Hd2.out.2,Hsz.out.1,Hb3b.out,Hgl.out⟩)
 have HF2:=hid (zg3 (B:=w10.heap.size) (HR210.out.fresh w10.heap.size) (Nat.le_refl _) (by have:=Hdd.out;have:=Hsz10.out;omega) (by have:=Hdd.out;have:=Hsz10.out;omega) (by have:=Hdd.out;omega) (HD.out _ Hb10.out) zg0
  (some ⟨g9,0,none⟩) m c9 l9 HB10.out (fun _ b o k e=>by injection e with e;injection e with e;have:=Hg9.out;have:=Hdd.out;have:=Hsz8.out;omega) (.inr fun b o k e=>by injection e with e;injection e with e;have:=Hg9s.out;omega) (by simp only[List.length_nil];have:=Hbl.out;omega))
 rw[show ({ dc0 with out:=[],sn:=0 }:Dc)=dc0 from rfl] at HF2;have Hl9l:=hid HB10.out.len;clear HR28 HM8 HB8;refine HF2.out.mono ?_;rintro e w11 ⟨V11,t11,u11,f11,rfl,hk11,e11,hu11,hM11,hlo11,-,-⟩;obtain⟨s3,hs3⟩:∃s3,yk unl dc0 l9=s3:=⟨_,rfl⟩;rw[hs3] at hk11 hu11 hM11 ⊢;obtain⟨va11,vc11,rfl⟩:=hk11.slice;obtain⟨vp3,y3,hr311,hsi3,hlt3,hvc3,-⟩:=hM11;have HR311:=hid hr311;have Ht11:=hid (show t11.length≤m from by have:=congrArg List.length e11;rw[List.nil_append,List.length_append,Hl9l.out] at this;omega);have HS3:=hid (And.intro hsi3 (And.intro hlt3 hvc3));have HM11:=hid (HM10.out.beside hlo11 HR210.out (by have:=Hdd.out;omega));have HB11:=hid (show Byts w11 (some ⟨b3,o3,none⟩) m c3 l from HB310.out.lo hlo11 fun b o k e hb=>by injection e with e;injection e with e;have:=Hdd.out;omega);have Hb11:=hid (show Below w.heap.size w w11 from Hb10.out.trans (hlo11.toBelow (by have:=Hb10.out.size;omega) (by have:=Hdd.out;omega)));have Hsz11:=hid (show B≤w11.heap.size from Nat.le_trans Hsz10.out hlo11.size);clear hk11 e11 hu11 hlo11 hr311 hsi3 hlt3 hvc3 hs3 HF2 HB10 HM10 HR210 HB310;have hch2:¬c3=h2:=by have:=Hh2.out;have:=Hroom.out;omega
 have hchl:h2≤m:=Hh2.out.1
 have HBd:=hid (show Byts w11 (some ⟨b3,o3+h2,none⟩) (m - h2) (c3 - h2) (l.drop h2) from by
  have:=HB11.out.sub h2 m Hh2.out.1 (Nat.le_refl _) (by have:=Hh2.out;have:=Hroom.out;omega);rwa [List.take_of_length_le (by rw[List.length_drop,Hm.out];exact Nat.le_refl _)] at this)
 have HF3:=hid (zg3 HM11.out Hsz11.out (by have:=Hdd.out;omega) (by have:=Hdd.out;omega) (by have:=Hdd.out;omega) (HD.out _ Hb11.out) zg0
  (some ⟨b3,o3+h2,none⟩) (m - h2) (c3 - h2) (l.drop h2) HBd.out (fun _ b o k e=>by injection e with e;injection e with e;have:=Hdd.out;omega) (.inr fun b o k e=>by injection e with e;injection e with e;have:=Hdd.out;omega) (by
    have:=congrArg List.length He8.out;rw[List.length_append,List.length_take,Hm.out] at this;have:=Hbl.out;omega))
 go_wp2_with fail;refine HF3.out.mono ?_;rintro e w12 ⟨V12,t12,u12,f12,rfl,hk12,e12,hu12,hM12,hlo12,-,-⟩;have hrg:=ykb (l1:=l.take h2) (l2:=l.drop h2) HKa.out (by rw[List.take_append_drop,Hl.out]) rfl He8.out Hu8.out (show SI unl t8 s1 _ _ from HM11.out.choose_spec.choose_spec.2.1) e12 hu12 (show SI unl t12 _ _ _ from hM12.choose_spec.choose_spec.2.1);obtain⟨s2,hs2⟩:∃s2,yk unl { s1 with out:=[],sn:=0 } (l.drop h2)=s2:=⟨_,rfl⟩;rw[hs2] at hk12 hM12 hrg ⊢;obtain⟨va12,vc12,rfl⟩:=hk12.slice;obtain⟨hks,hfin⟩:=hrg
 have hsum:s1.out.length+s2.out.length=n:=by
  have:=congrArg List.length hks;rw[Hcl.out,List.length_append,List.nil_append] at this;exact this
 have HM12:=hid hM12;have HR312:=hid (show DcR w12 d2 unl s3 vp3 y3 from Row.lo HR311.out hlo12 (by have:=Hdd.out;omega) (by have:=Hdd.out;omega));have HB12:=hid (show Byts w12 (some ⟨b3,o3,none⟩) m c3 l from HB11.out.lo hlo12 fun b o k e hb=>by injection e with e;injection e with e;have:=Hdd.out;omega);have Hb12:=hid (show Below w.heap.size w w12 from Hb11.out.trans (hlo12.toBelow (by have:=Hdd.out;omega) (by have:=Hdd.out;omega)));have Hsz12:=hid (show B≤w12.heap.size from Nat.le_trans Hsz11.out hlo12.size);have HFi:=hid (zth s2 .nilIface hfin hM12);obtain⟨p1,hp1⟩:∃p,s1.out.length=p:=⟨_,rfl⟩;obtain⟨p2,hp2⟩:∃p,s2.out.length=p:=⟨_,rfl⟩;rw[hp1,hp2] at hsum ⊢;have hp1m:p1≤9223372036854775807:=by omega
 have hp2m:p2≤9223372036854775807:=by omega
 have hadd:IntKind.i64.wrap ((p1:Int)+(p2:Int))=(n:Int):=by rw[IntKind.wrap_i64];omega
 have hnn:((n:Int) != (n:Int))=false:=by simp
 clear hk12 e12 hu12 hM12 hlo12 hs2 hks hfin hsum hp1 hp2 HF3 HBd HM11 HB11 HR311;go_wp2_with fail;refine HFi.out.mono ?_;rintro e w13 ⟨rfl,hb13⟩;have H13:=hid hb13;have Hb13:=hid (Hb12.out.trans (hb13.mono Hb12.out.size));clear hb13;go_wp2_with fail;refine(yj5 _ _ _ _).mono ?_;rintro e w14 ⟨rfl,rfl⟩;go_wp2_with fail;refine(yj6 _).mono ?_;rintro e w15 ⟨rfl,hb15⟩;have H15:=hid (H13.out.trans (hb15.mono H13.out.size));have Hb15:=hid (Hb13.out.trans (hb15.mono Hb13.out.size));clear hb15;go_wp2_with fail;refine(yj7 _).mono ?_;rintro e w16 ⟨rfl,rfl⟩;go_wp2_with fail;refine(yj8 _).mono ?_;rintro e w17 ⟨rfl,rfl⟩;go_wp2_with fail;refine(yj9 _).mono ?_;rintro e w18 ⟨rfl,rfl⟩;go_wp2_with fail;refine(yj3 _ (HD.out _ Hb15.out)).mono ?_;rintro e w19 ⟨rfl,hb19⟩;have H19:=hid (H15.out.trans (hb19.mono H15.out.size));have Hb19:=hid (Hb15.out.trans (hb19.mono Hb15.out.size));clear hb19;have HR319:=hid (show DcR w19 d2 unl s3 vp3 y3 from Row.later HR312.out H19.out);go_wp2_with fail;refine(z1g HR319.out).mono ?_;rintro e w20 ⟨rfl,hb20⟩;have H20:=hid (H19.out.trans (hb20.mono H19.out.size));have Hb20:=hid (Hb19.out.trans (hb20.mono Hb19.out.size));have HR320:=hid (show DcR w20 d2 unl s3 vp3 y3 from Row.later HR319.out hb20);clear hb20;go_wp2_with fail;refine(z1h HR320.out).mono ?_;rintro e w21 ⟨rfl,rfl⟩;obtain⟨wC,hwC⟩:∃wC,wC=w20.alloc (.cells #[.int .i64 (s3.vc:Nat),.int .i64 (s3.vo:Nat)] 29):=⟨_,rfl⟩;have hbC:=(Below.refl w20.heap.size w20).alloc (Nat.le_refl _) (.cells #[.int .i64 (s3.vc:Nat),.int .i64 (s3.vo:Nat)] 29);rw[←hwC] at hbC;have HX:=hid (show Row wC w20.heap.size 29 [.int .i64 (s3.vc:Nat),.int .i64 (s3.vo:Nat)] from by rw[hwC];exact y7 w20 29 _);have HwC:=hid hwC;have HRC:=hid (show DcR wC d2 unl s3 vp3 y3 from Row.later HR320.out hbC);have HC:=hid (H20.out.trans (hbC.mono H20.out.size));have HbC:=hid (Hb20.out.trans (hbC.mono Hb20.out.size));have Hg20:=hid (show d2<w20.heap.size∧w20.heap.size<wC.heap.size from⟨Row.lt HR320.out,Row.lt HX.out⟩);clear hwC hbC;go_upto_region 19 with fail
 rw[←HwC.out];generalize w20.heap.size=g20 at*;have x0:=HX.out.cell 0 rfl;have x1:=HX.out.cell 1 rfl;by_cases hv0:s3.vc=0
 · have hz0:((s3.vc:Int) == 0)=true:=by rw[beq_iff_eq];omega
   clear hv0;go_wp2_with fail;refine(HA.out _ HbC.out).mono ?_;rintro e w22 ⟨rfl,hb22⟩;have Hb22:=hid (HbC.out.trans (hb22.mono HbC.out.size));clear hb22;go_wp2_with fail;go_ret;exact⟨rfl,Hb22.out⟩
 · have hz0:((s3.vc:Int) == 0)=false:=by rw[beq_eq_false_iff_ne];omega
   have h4:s3.st=4:=by
    have h5:=HS3.out.1.st;by_cases h6:s3.st<4
    · exact absurd (HS3.out.1.ver h6).1 hv0
    · omega
   have HMC:=hid (show DecM wC wC.heap.size d2 unl t11 s3 _ _ from⟨vp3,y3,HRC.out,HS3.out.1,HS3.out.2.1,HS3.out.2.2,fun e=>by omega⟩);have HBC:=hid (HB12.out.below HC.out)
   have HF4:=hid (zg3 HMC.out (Nat.le_refl _) (by have:=Hg20.out;omega) (by have:=Hdd.out;have:=HbC.out.size;omega) (by have:=Hdd.out;omega) (HD.out _ HbC.out) zg0
    (some ⟨b3,o3,none⟩) m c3 l HBC.out (fun _ b o k e=>by injection e with e;injection e with e;have:=Hdd.out;omega) (.inr fun b o k e=>by injection e with e;injection e with e;have:=Hdd.out;have:=Hg20.out;omega) (by have:=Ht11.out;have:=Hbl.out;omega))
   rw[zl6 unl { s3 with out:=[],sn:=0 } h4 l] at HF4;clear hv0;go_wp2_with fail;refine HF4.out.mono ?_;rintro e w22 ⟨V22,t22,u22,f22,rfl,hk22,-,-,hM22,hlo22,-,-⟩;obtain⟨va22,vc22,rfl⟩:=hk22.slice;have HV22:=hid (fun W (h:Below w22.heap.size w22 W)=>zpf { s3 with out:=[],sn:=0 } s3.vc s3.vo rfl rfl (hM22.later h));have HT22:=hid (fun W (h:Below w22.heap.size w22 W)=>zpg { s3 with out:=[],sn:=0 } s3.tk rfl (hM22.later h));have HX22:=hid (Row.lo HX.out hlo22 (by have:=Hg20.out;omega) (by have:=Hg20.out;omega));have Hxf:=hid (fun W (h:Below w22.heap.size w22 W)=>And.intro ((HX22.out.later h).cell 0 rfl) ((HX22.out.later h).cell 1 rfl));have Hb22:=hid (show Below w.heap.size w w22 from HbC.out.trans (hlo22.toBelow (by have:=HbC.out.size;omega) (by have:=Hdd.out;omega)));have hz00:([]:List Kno).length=0:=rfl;clear hk22 hM22 hlo22 HF4;generalize s3.vc=vc3 at*;generalize s3.vo=vo3 at*;generalize s3.tk=tk3 at*;go_upto_region 22 with fail
   have HAf:=hid (fun W (h:Below w22.heap.size w22 W)=>HA.out W (Hb22.out.trans (h.mono Hb22.out.size)));refine jl (by kernel_rfl) (by kernel_rfl) ?_
   repeat (go_big_quiet_step ((intro hw;first
    | rfl
    | (go_at_call 46;exact jt hw (HAf.out _ hw))
    | (go_at_call 22;exact jt hw (HV22.out _ hw))
    | (go_at_call 49;exact jt hw (HT22.out _ hw))
    | (obtain⟨y0,y1⟩:=Hxf.out _ hw
       go_simp;first | rfl | exact⟨rfl,hw⟩ | (trace_state;fail)))))
   refine wpQuiet_nil ?_;intro w23 hb23;have Hb23:=hid (Hb22.out.trans (hb23.mono Hb22.out.size));clear hb23;go_wp2_with fail;go_ret;exact⟨rfl,Hb23.out⟩
end
