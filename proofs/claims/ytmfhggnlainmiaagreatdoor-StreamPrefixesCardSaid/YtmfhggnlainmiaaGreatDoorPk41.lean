/- Part 41. -/
import Derived.Test.YtmfhggnlainmiaaGreatDoorPk28
import Derived.Test.YtmfhggnlainmiaaGreatDoorPk37
set_option linter.unusedVariables false
set_option maxHeartbeats 16000000
namespace Go.Proofs.YtmfhggnlainmiaaGreatDoor
open Lib (hid)
section
open Go.RowKit
attribute [local go_sem] y9 Tryz.eqGuard_if
theorem zti {cs:List (List Nat)} {q:Nat} (h:q<cs.length):(cs.take (q+1)).flatten=(cs.take q).flatten++cs.getD q []:=by
 rw[List.take_add_one,List.flatten_append,List.getD_eq_getElem?_getD,List.getElem?_eq_getElem h];simp
theorem zmb (cs:List (List Nat)) (q:Nat):(cs.take q).flatten.length≤cs.flatten.length:=by
 conv=>rhs;rw[←List.take_append_drop q cs]
 rw[List.flatten_append,List.length_append];omega
end
section
open Go.RowKit
attribute [local go_sem] y9 Tryz.eqGuard_if
theorem ye2 (w:World) (base B:Nat):ChkM w base B (.slice none 0 0) []:=⟨[],World.ownsRow_nil _ _ _ _,trivial⟩
theorem Tryz.info_byts:(Tryz.prog.info? 22).map (fun i=>(i.zero,i.size,i.bytes))=some (some (.slice none 0 0),1,24):=by kernel_rfl
theorem z1s {w:World} {base B:Nat} {V K:Value} {cs:List (List Nat)} {c:List Nat} (h:ChkM w base B V cs) (hK:ChkV w B K c) (hb:cs.length≤900000000000) (hBb:B≤base) (hbase:base≤w.heap.size):
 ∃V' w',(Builtin.append_ #[77,77] 77 #[V,.slice (some ⟨w.heap.size,0,none⟩) 1 1]).run Tryz.prog (w.alloc (.cells #[K] 22))=.ok V' w'∧ChkM w' base B V' (cs++[c])∧Below base w w':=by
 have hal:=(Below.refl w.heap.size w).alloc (Nat.le_refl _) (.cells #[K] 22);have hBw:=Nat.le_trans hBb hbase;have hlo:=Lo.of_below (d:=B) hal (Nat.le_refl _);obtain⟨Ks,h1,h2⟩:=h;have h1':=zm h1 hal;have h2':=h2.lo hlo hBw (Nat.le_refl _);have hK':=hK.lo hlo hBw (Nat.le_refl _)
 obtain⟨V',w',e1,e2,e3⟩:=zcf base 77 77 22 _ 1 24 Tryz.underlying77 Tryz.info_byts rfl (by omega) V cs.length Ks h1' (some ⟨w.heap.size,0,none⟩) 1 1 [K] (zf1 _ _ _ 1 _ rfl rfl) (by
  intro u hu;obtain rfl:=List.mem_singleton.1 hu;obtain⟨a,n,c,rfl,-⟩:=hK
  rfl) (by unfold maxLen;omega) (by omega) (by simp only[World.size_alloc];omega)
 have hl2:=Lo.of_own (d:=B) h1' e3 (Nat.le_refl _) (by simp only[World.size_alloc];omega);exact⟨V',w',e1,⟨Ks++[K],by rw[List.length_append];exact e2,(h2'.lo hl2 hBb (Nat.le_refl _)).snoc (hK'.lo hl2 hBb (Nat.le_refl _))⟩,(hal.mono hbase).grown e3 (by simp only[World.size_alloc];omega) (fun k hk=>(h1'.lt k hk).1)⟩
theorem ye3 {a:Option Addr} {s cap b o:Nat} {k} (h:zed a s cap=some ⟨b,o,k⟩):∃o' k',a=some ⟨b,o',k'⟩:=by
 unfold zed at h;split at h
 · exact⟨o,k,h⟩
 · rcases a with _ | ⟨b',o',k'⟩
   · cases h
   · rw[Option.map_some] at h;injection h with h;unfold Addr.add at h;split at h
     · injection h with h1 h2 h3;subst h1 h3;exact⟨_,_,rfl⟩
     · injection h with h1 h2 h3;subst h1 h3;exact⟨_,_,rfl⟩
set_option maxRecDepth 20000 in
theorem ztj (a e:Option Addr) (n cap m cm:Nat) (l ss:List Nat) (w:World) (hB:Byts w a n cap l) (hS:Byts w e m cm ss) (B:Nat) (hb:0<n→∀b o k,a=some ⟨b,o,k⟩→b<B) (hBw:B≤w.heap.size) (hm:m≤1000):
 Calls Tryz.prog 47 #[.slice a n cap,.slice e m cm] w fun x w'=>(∃g c cs,x=.returned (.slice (some ⟨g,0,none⟩) cs.length c)∧cs.length=m+1∧cs.flatten=l∧w.heap.size≤g∧g<w'.heap.size∧ChkS w' B g cs.length cs)∧Below w.heap.size w w':=by
 have HB:=hid (show Byts w a n cap l∧(0<n→∀b o k,a=some ⟨b,o,k⟩→b<B) from⟨hB,hb⟩);have HS:=hid (fun W (h:Below w.heap.size w W)=>hS.below h);have Hlt:=hid hS.lt;have HBw:=hid hBw;have hmm:m≤9223372036854775807:=by omega
 have Hm:=hid hm;clear hB hS hb hBw hm;go_enter Tryz.func47,Tryz.ntmps47;go_wp2_with fail;go_loopw [0,5,7,8,11] (fun bs out _ _ i wr=>∃(q:Nat) (a':Option Addr) (n' c':Nat) (V:Value) (cs:List (List Nat)) (r:List Nat),q≤m∧i=.int .i64 q∧bs=.slice a' n' c'∧out=V∧Hid (Byts wr a' n' c' r∧(0<n'→∀b o k,a'=some ⟨b,o,k⟩→b<B))∧Hid (ChkM wr w.heap.size B V cs)∧Hid (cs.length=q∧cs.flatten++r=l)∧Hid (Below w.heap.size w wr)) (fun _ _ _ _ i _=>m - (intOf i).toNat)
 case atStart=>exact⟨0,a,n,cap,.slice none 0 0,[],l,Nat.zero_le _,rfl,rfl,rfl,HB,hid (ye2 _ _ _),hid ⟨rfl,rfl⟩,hid (Below.refl _ _)⟩
 case round=>
  obtain⟨q,a',n',c',V,cs,r,hq,rfl,rfl,rfl,hR,hC,hL,hW⟩:=hrel;obtain⟨va,vc,rfl⟩:=hC.out.slice;have hz:w.heap.size≤wr.heap.size:=hW.out.size;by_cases hqm:q<m
  · obtain⟨sb,so,rfl,hcell⟩:=(HS.out _ hW.out).cells (by omega);have hc:=hcell q hqm;have hc256:nth ss q<256:=zfo Hlt.out (by decide) q;obtain⟨s,hs⟩:∃s,nth ss q=s:=⟨_,rfl⟩;rw[hs] at hc hc256;obtain⟨k,hk⟩:∃k,k=min s n':=⟨_,rfl⟩;have hr:=hR.out.1.room;have hmo:=hR.out.1.most;have hkn:k≤n':=by omega
    have hmin:min (s:Int) (n':Int)=(k:Int):=by omega
    have hmin2:(if (n':Int)<(s:Int) then (n':Int) else (s:Int))=(k:Int):=by split <;> omega
    have hmin3:(if (s:Int)<(n':Int) then (s:Int) else (n':Int))=(k:Int):=by split <;> omega
    obtain⟨V',w',hrun,hM',hb'⟩:=z1s (K:=.slice a' k c') (c:=r.take k) hC.out ⟨a',k,c',rfl,zke hR.out.1 hkn,fun h=>hR.out.2 (by omega)⟩ (by have:=hL.out.1;have:=Hm.out;omega) HBw.out hz;have hcut:=zo9 hR.out.1 hkn (Nat.le_refl n');rw[List.take_of_length_le (by rw[List.length_drop,hR.out.1.len];omega)] at hcut
    have HR':=hid (show Byts w' (zed a' k c') (n' - k) (c' - k) (r.drop k)∧(0<n' - k→∀b o x,zed a' k c'=some ⟨b,o,x⟩→b<B) from by
     obtain⟨x1,x2,x3,e1,e2,e3⟩:=ChkV.lo (w':=w') (B:=B) (V:=.slice (zed a' k c') (n' - k) (c' - k)) (c:=r.drop k) ⟨_,_,_,rfl,hcut,fun h b o x e=>by
      obtain⟨o',x',e'⟩:=ye3 e;exact hR.out.2 (by omega) b o' x' e'⟩ (Lo.of_below (d:=B) hb' (Nat.le_refl _)) HBw.out (Nat.le_refl _)
     cases e1;exact⟨e2,e3⟩)
    have HM':=hid hM'
    have HL':=hid (show (cs++[r.take k]).length=q+1∧(cs++[r.take k]).flatten++r.drop k=l from⟨by rw[List.length_append,hL.out.1];rfl,by
     rw[List.flatten_append,List.append_assoc,List.flatten_singleton,List.take_append_drop];exact hL.out.2⟩)
    have HW':=hid (hW.out.trans hb');clear hM' hb' hk hcell hs hcut;unfold zed at HR';go_wp2_with (at_builtin;refine qf _ _ 77 rfl rfl _ _ rfl rfl _ _ hrun ?_);go_roundw
    case rel=>exact⟨q+1,_,_,_,V',_,_,by omega,by go_num,rfl,rfl,HR',HM',HL',HW'⟩
    case measure=>simp[intOf];omega
  · obtain rfl:q=m:=by omega
    obtain⟨V',w',hrun,hM',hb'⟩:=z1s (K:=.slice a' n' c') (c:=r) hC.out ⟨a',n',c',rfl,hR.out.1,hR.out.2⟩ (by have:=hL.out.1;have:=Hm.out;omega) HBw.out hz;obtain⟨g,cc,rfl,hg1,hg2,hg3⟩:=hM'.read (by rw[List.length_append];exact Nat.succ_pos _)
    have Hfin:=hid (show (∃g' c cs',(Ending.returned (.slice (some ⟨g,0,none⟩) (cs.length+1) cc))=.returned (.slice (some ⟨g',0,none⟩) cs'.length c)∧cs'.length=q+1∧cs'.flatten=l∧w.heap.size≤g'∧g'<w'.heap.size∧ChkS w' B g' cs'.length cs')∧Below w.heap.size w w' from
     ⟨⟨g,cc,cs++[r],by rw[List.length_append];rfl,by rw[List.length_append,hL.out.1];rfl,by rw[List.flatten_append,List.flatten_singleton];exact hL.out.2,hg1,hg2,hg3⟩,hW.out.trans hb'⟩)
    clear hM' hb' hg1 hg2 hg3;go_wp2_with (at_builtin;refine qf _ _ 77 rfl rfl _ _ rfl rfl _ _ hrun ?_);go_ret;exact Hfin.out
end
section
open Go.RowKit
attribute [local go_sem] y9 Tryz.eqGuard_if
theorem ztk (a e:Option Addr) (n cap m c:Nat) (L:zc) (w:World) (hn:n≤9223372036854775807) (hm:m≤9223372036854775807) (b:Bool) (hb:b=decide (n≤1000∧L.1≤1099511627776∧m≤100)):
 Calls Tryz.prog 45 #[.slice a n cap,lmV L,.slice e m c] w fun x w'=>x=.returned (.bool b)∧Below w.heap.size w w':=by
 have hal:=(Below.refl w.heap.size w).alloc (Nat.le_refl _) (.cells #[.int .i64 L.1,.int .i64 L.2.1,.int .i64 L.2.2.1,.int .i64 L.2.2.2.1,.int .i64 L.2.2.2.2] 24);have l0:=(y7 w 24 [.int .i64 L.1,.int .i64 L.2.1,.int .i64 L.2.2.1,.int .i64 L.2.2.2.1,.int .i64 L.2.2.2.2]).cell 0 rfl;have Hal:=hid hal;unfold lmV;clear hal;by_cases h1:n≤1000
 · have d1:decide ((n:Int)≤1000)=true:=by rw[decide_eq_true_iff];omega
   by_cases h2:L.1≤1099511627776
   · have d2:decide (L.1≤1099511627776)=true:=decide_eq_true h2;by_cases h3:m≤100
     · have d3:decide ((m:Int)≤100)=true:=by rw[decide_eq_true_iff];omega
       have Hb:=hid (show b=true from by rw[hb];exact decide_eq_true ⟨h1,h2,h3⟩);clear hb h1 h2 h3;go_enter Tryz.func45,Tryz.ntmps45;go_wp2;go_ret;exact⟨by rw[Hb.out];rfl,Hal.out⟩
     · have d3:decide ((m:Int)≤100)=false:=by rw[decide_eq_false_iff_not];omega
       have Hb:=hid (show b=false from by rw[hb];exact decide_eq_false fun h=>h3 h.2.2);clear hb h1 h2 h3;go_enter Tryz.func45,Tryz.ntmps45;go_wp2;go_ret;exact⟨by rw[Hb.out];rfl,Hal.out⟩
   · have d2:decide (L.1≤1099511627776)=false:=decide_eq_false h2;have Hb:=hid (show b=false from by rw[hb];exact decide_eq_false fun h=>h2 h.2.1);clear hb h1 h2;go_enter Tryz.func45,Tryz.ntmps45;go_wp2;go_ret;exact⟨by rw[Hb.out];rfl,Hal.out⟩
 · have d1:decide ((n:Int)≤1000)=false:=by rw[decide_eq_false_iff_not];omega
   have Hb:=hid (show b=false from by rw[hb];exact decide_eq_false fun h=>h1 h.1);clear hb h1;go_enter Tryz.func45,Tryz.ntmps45;go_wp2;go_ret;exact⟨by rw[Hb.out];rfl,Hal.out⟩
end
