/- Texts of the proof of linearCut_holds, put together by a small program of ours (names shortened, spaces taken out). No condition beyond the given statement. -/
import Derived.Test.YtjgmnoaalbbonaaGreatLCT16
import Derived.Test.YtjgmnoaalbbonaaGreatLCT39
import Derived.Test.YtjgmnoaalbbonaaGreatLCT14
import Derived.Test.YtjgmnoaalbbonaaGreatLCT22
import Derived.Test.YtjgmnoaalbbonaaGreatRows
import Derived.WalkKit
import Derived.ProofKit
import Derived.OpenShut
import Derived.ShutString
import Derived.ChangeOld
import Derived.Below
import Derived.SizedLaws
set_option linter.unusedVariables false
set_option linter.unusedSimpArgs false
set_option linter.unnecessarySimpa false
noncomputable section
section
namespace Go.Proofs.YtjgmnoaalbbonaaGreat.Fun
open Go Go.RowKit Go.Proofs.YtjgmnoaalbbonaaGreatA.Am
set_option maxRecDepth 10000
section
variable {H H':aa} {o o':aj} {q q2:Int} {x:Value} {L:List hP} {G:ae}
theorem zQ: ∀(L:List hP) (S:AM) (i:Nat),check L S i= -1∨((i:Int)≤check L S i∧check L S i<i+L.length)
 | [],S,i=>.inl rfl
 |e::L,S,i=>by
  unfold check;cases step S e with
  |none=>right;simp only[List.length_cons];omega
  |some S'=>
   rcases zQ L S' (i+1) with h|h
   ·exact .inl h
   ·right;simp only[List.length_cons];omega
theorem zR: ∀(L:List hP) (S:AM) (i k:Nat),check (L.take k) S i=if check L S i<0∨(i:Int)+k≤check L S i then -1 else check L S i
 | [],S,i,k=>by simp[check]
 |e::L,S,i,0=>by
  rcases zQ (e::L) S i with h|h
  ·rw[if_pos (.inl (by omega))];rfl
  ·rw[if_pos (.inr (by omega))];rfl
 |e::L,S,i,k+1=>by
  rw[List.take_succ_cons];unfold check;cases step S e with
  |none=>
   simp only;rw[if_neg (by omega)]
  |some S'=>
   simp only;rw[zR L S' (i+1) k];have:((i+1:Nat):Int)+k=(i:Int)+((k+1:Nat):Int):=by omega
   rw[this]
structure TL (H:aa) (o:aj) (x:Value) (L:List hP) (N:Nat):Prop where
 log:iW H o (-30) (-41) x L
 len:L.length≤N
 lists: ∀e∈L,e.res.list.length≤1048577
theorem TL.fr {N:Nat}{ps:List Int}(h:TL H o x L N)(f:Fr H o H' o' ps)(h1:(-30:Int) ∉ ps)(h2:(-41:Int) ∉ ps):TL H' o' x L N:=⟨h.log.fr f h1 h2,h.len,h.lists⟩
theorem abQ (H:aa):aO H 47 1 [cv 0,cv 0,cv 0,cv 0,cv 0,cv 0,cv 0,.bool false,cv 0,cv 0,cv 0,ax,cv 0]=(pv H.length,H.new ⟨[cv 0,cv 0,cv 0,cv 0,cv 0,cv 0,cv 0,.bool false,cv 0,cv 0,cv 0,ax,cv 0],47,1,false⟩):=rfl
theorem adG {e:hP}{s:Value}{a:Option Addr}{m c:Nat}(es:s= .slice a m c)(H:aa):bS 13 (pv H.length) (Bz e s) (H.new ⟨[cv 0,cv 0,cv 0,cv 0,cv 0,cv 0,cv 0,.bool false,cv 0,cv 0,cv 0,ax,cv 0],47,1,false⟩)=some (undef,H.new ⟨aM e s,47,1,false⟩):=by
 subst es;simp[bS,bl,Value.cells,known,av,bB,aa.put,aa.new,aa.get,List.set_append]
theorem abR (t:TypeId)(a:Int):ai Tryz.prog .quo t (cv a) (cv 50)=some (cv (IntKind.i64.wrap (a.tdiv 50))):=kd _ a 50 (by decide)
theorem I5 (t:TypeId)(a:Int):ai Tryz.prog .quo t (cv a) (cv 2000)=some (cv (IntKind.i64.wrap (a.tdiv 2000))):=kd _ a 2000 (by decide)
theorem adH (t:TypeId)(a:Int):ai Tryz.prog .quo t (cv a) (cv 7)=some (cv (IntKind.i64.wrap (a.tdiv 7))):=kd _ a 7 (by decide)
theorem iW.empty (H:aa)(o:aj)(q q2:Int)(t:TypeId):iW (H.new ⟨[],t,13,false⟩) (o.up H.length q) q q2 (.slice (some ⟨H.length,0,none⟩) 0 0) []:=
 .inr ⟨H.length,0,[],t,[],rfl,by rw[ay];rfl,rfl,rfl,aH,λz hz=>by cases hz⟩
def TI (a0 a1 a2 px:Value)(zs:List Int)(kk:Nat)(vs:List Value)(Hx:aa):Prop:=∃(j:Nat) (ox:aj) (x:Value) (L:List hP) (x6 bN aG aN gF ij my aK qF aJ vS lE ja oI qG oJ:Value),vs=[a0,a1,a2,x6,px,cv j,x,bN,aG,aN,gF,ij,my,aK,qF,aJ,vS,lE,ja,oI,qG,oJ]∧j+kk=3∧fp Hx ox (-1) a2 zs∧TL Hx ox x L (211+j)
def TR (a0 a1 a2 px:Value)(r:bJ×List Value×aa):Prop:=r.1= .exit 0∧∃(ox:aj) (x:Value) (L:List hP) (x9 x6 bN aG aN gF ij my aK qF aJ vS lE ja oI qG oJ:Value),r.2.1=[a0,a1,a2,x6,px,x9,x,bN,aG,aN,gF,ij,my,aK,qF,aJ,vS,lE,ja,oI,qG,oJ]∧TL r.2.2 ox x L 214
abbrev TQ (a0 a1 a2 px:Value)(zs:List Int)(kk:Nat):bJ×List Value×aa→Prop:=λr=>(r.1= .normal∧∃k',k'<kk∧TI a0 a1 a2 px zs k' r.2.1 r.2.2)∨(r.1≠ .normal∧TR a0 a1 a2 px r)
theorem DM {a0 a1 a2 px:Value}{zs:List Int}{kk j:Nat}(hj:j+kk=3)(hk:0<kk)(hz:fp H o (-1) a2 zs)(ht:TL H o x L (211+j+1))(x6 bN aG aN gF ij my aK qF aJ vS lE ja oI qG oJ:Value):
  Ev (λn=>EI (run G n) n [a0,a1,a2,x6,px,cv j,x,bN,aG,aN,gF,ij,my,aK,qF,aJ,vS,lE,ja,oI,qG,oJ] H) (TQ a0 a1 a2 px zs kk):=by
 have hw:IntKind.i64.wrap ((j:Int)+1)=((j+1:Nat):Int):=by rw[kr (by omega)];omega
 simp -implicitDefEqProofs only[Q4,GI,hw,sS,Nat.reduceAdd];exact Ev.ret (.inl ⟨rfl,kk-1,by omega,j+1,o,x,L,_,_,_,_,_,_,_,_,_,_,_,_,_,_,_,_,rfl,by omega,hz,⟨ht.log,ht.len,ht.lists⟩⟩)
theorem kV {a0 a1 a2 px:Value}{zs:List Int}{kk j b:Nat}{e:hP}{s:Value}{k z:Int}(hj:j+kk=3)(hk:0<kk)(hz:fp H o (-1) a2 zs)(ht:TL H o x L (211+j+1))(hb:Cl b (aM e s) 47 H o)(hs:gE H o (-41) s e.res.list)(hl:e.res.list.length≤1048577)(hk0:0≤k)(x6 bN gF ij my aK qF vS lE ja oI qG oJ:Value):
  Ev (λn=>od (run G n) n [a0,a1,a2,x6,px,cv j,x,bN,cv z,cv k,gF,ij,my,aK,qF,pv b,vS,lE,ja,oI,qG,oJ] H) (TQ a0 a1 a2 px zs kk):=by
 simp -implicitDefEqProofs only[Q5,GJ,ht.log.len,sS,Nat.reduceAdd];refine Ev.lss (λhq=>?_) (λhq=>?_)<;>try simp -implicitDefEqProofs only[I5,sS,Nat.reduceAdd]
 rotate_left
 ·exact DM hj hk hz ht ..
 refine Ev.call (ka _ 9 (by omega)) ?_
 rintro v H' ⟨c,rfl,_,_,rfl⟩
 try simp -implicitDefEqProofs only[sS,Nat.reduceAdd]
 refine Ev.gtr (λpT=>?_) (λpT=>?_)<;>try simp -implicitDefEqProofs only[sS,Nat.reduceAdd]
 rotate_left
 ·exact DM hj hk hz ht ..
 obtain⟨kn,rfl⟩: ∃kn:Nat,k=kn:=⟨k.toNat,by omega⟩
 obtain⟨ptr,e',s',p1,p2,p3,p4,p5⟩:=ht.log.FA (j:=kn) (by omega) (by omega)
 obtain⟨H2,p6,p7,p8⟩:=p5 e s hs;have TX:=IM hb.1;simp -implicitDefEqProofs only[TX,p1,p6,sS,Nat.reduceAdd];exact DM hj hk (hz.fr p8 (by simp)) ⟨p7,by simpa using ht.len,λy hy=>by
  rcases List.mem_or_eq_of_mem_set hy with hy|rfl
  ·exact ht.lists y hy
  ·exact hl⟩ ..
theorem abS {b:Nat}{e:hP}{s:Value}(hb:Cl b (aM e s) 47 H o):aq (.pointer (some ⟨b,7,none⟩)) H=some (.bool e.res.found)∧∀v:Bool,∃H2,bS 1 (.pointer (some ⟨b,7,none⟩)) (.bool v) H=some (undef,H2)∧Cl b (aM {e with res:={e.res with found:=v}} s) 47 H2 o∧Fr H o H2 o [-9]:=
 ⟨ak b 7 H hb.1,λv=>⟨_,kE b 7 (.bool v) H hb.1 rfl (by simp) rfl rfl rfl,hb.self,(Fr.refl _ _ _).put λ_=>by simp[hb.2]⟩⟩
theorem abT {b:Nat}{e:hP}{s:Value}(hb:Cl b (aM e s) 47 H o):aq (.pointer (some ⟨b,9,none⟩)) H=some (cv e.res.value)∧∀v:Int,∃H2,bS 1 (.pointer (some ⟨b,9,none⟩)) (cv v) H=some (undef,H2)∧Cl b (aM {e with res:={e.res with value:=v}} s) 47 H2 o∧Fr H o H2 o [-9]:=
 ⟨ak b 9 H hb.1,λv=>⟨_,kE b 9 (cv v) H hb.1 rfl (by simp) rfl rfl rfl,hb.self,(Fr.refl _ _ _).put λ_=>by simp[hb.2]⟩⟩
theorem abU {b:Nat}{e:hP}{s:Value}(hb:Cl b (aM e s) 47 H o):aq (.pointer (some ⟨b,2,none⟩)) H=some (cv e.no)∧∀v:Int,∃H2,bS 1 (.pointer (some ⟨b,2,none⟩)) (cv v) H=some (undef,H2)∧Cl b (aM {e with no:=v} s) 47 H2 o∧Fr H o H2 o [-9]:=
 ⟨ak b 2 H hb.1,λv=>⟨_,kE b 2 (cv v) H hb.1 rfl (by simp) rfl rfl rfl,hb.self,(Fr.refl _ _ _).put λ_=>by simp[hb.2]⟩⟩
theorem abV {b:Nat}{e:hP}{s:Value}(hb:Cl b (aM e s) 47 H o):aq (.pointer (some ⟨b,1,none⟩)) H=some (cv e.bO)∧∀v:Int,∃H2,bS 1 (.pointer (some ⟨b,1,none⟩)) (cv v) H=some (undef,H2)∧Cl b (aM {e with bO:=v} s) 47 H2 o∧Fr H o H2 o [-9]:=
 ⟨ak b 1 H hb.1,λv=>⟨_,kE b 1 (cv v) H hb.1 rfl (by simp) rfl rfl rfl,hb.self,(Fr.refl _ _ _).put λ_=>by simp[hb.2]⟩⟩
theorem abW {b:Nat}{e:hP}{s:Value}(hb:Cl b (aM e s) 47 H o):aq (.pointer (some ⟨b,4,none⟩)) H=some (cv e.op.key)∧∀v:Int,∃H2,bS 1 (.pointer (some ⟨b,4,none⟩)) (cv v) H=some (undef,H2)∧Cl b (aM {e with op:={e.op with key:=v}} s) 47 H2 o∧Fr H o H2 o [-9]:=
 ⟨ak b 4 H hb.1,λv=>⟨_,kE b 4 (cv v) H hb.1 rfl (by simp) rfl rfl rfl,hb.self,(Fr.refl _ _ _).put λ_=>by simp[hb.2]⟩⟩
theorem abX {b:Nat}{e:hP}{s:Value}(hb:Cl b (aM e s) 47 H o):aq (.pointer (some ⟨b,6,none⟩)) H=some (cv e.res.qY)∧∀v:Int,∃H2,bS 1 (.pointer (some ⟨b,6,none⟩)) (cv v) H=some (undef,H2)∧Cl b (aM {e with res:={e.res with qY:=v}} s) 47 H2 o∧Fr H o H2 o [-9]:=
 ⟨ak b 6 H hb.1,λv=>⟨_,kE b 6 (cv v) H hb.1 rfl (by simp) rfl rfl rfl,hb.self,(Fr.refl _ _ _).put λ_=>by simp[hb.2]⟩⟩
theorem wA {lo hi:Option Value}(h: ∀i n c,x= .slice (some ⟨i,0,none⟩) n c→H'.get i=H.get i)(hx:x= .slice none 0 0∨∃i n c,x= .slice (some ⟨i,0,none⟩) n c):eo 13 H' x lo hi=eo 13 H x lo hi:=by
 rcases hx with rfl|⟨i,n,c,rfl⟩
 ·rfl
 ·simp only[eo,h i n c rfl]
theorem iW.is (h:iW H o q q2 x L):x= .slice none 0 0∨∃i n c,x= .slice (some ⟨i,0,none⟩) n c:=by
 rcases h with⟨e,_⟩|⟨i,cap,rest,ty,es,e,_⟩
 ·exact .inl e
 ·exact .inr ⟨_,_,_,e⟩
theorem iW.at_ (h:iW H o q q2 x L){i n c:Nat}(e:x= .slice (some ⟨i,0,none⟩) n c):i<H.length∧o i=q:=by
 rcases h with⟨e',_⟩|⟨i',cap,rest,ty,es,e',g,_,_,ho,_⟩
 ·rw[e'] at e;cases e
 ·rw[e'] at e;cases e;exact⟨an g,ho⟩
theorem iW.relabel {q':Int}(h:iW H o q q2 x L)(k: ∀i,i<H.length→o i=q→o' i=q')(k2: ∀i,i<H.length→o i=q2→o' i=q2):iW H o' q' q2 x L:=by
 rcases h with h|⟨i,cap,rest,ty,es,e1,e2,e3,e4,e5,e6⟩
 ·exact .inl h
 ·exact .inr ⟨i,cap,rest,ty,es,e1,e2,e3,e4,k i (an e2) e5,λz hz=>(e6 z hz).relabel k2⟩
theorem PW (hx:iW H o (-30) (-41) x L){kn:Nat}(hk:kn<L.length)(hL:L.length≤1000): ∃y1 y2 H3 H4 H5 x4 x5 o5,H3=H.new ⟨[],47,13,false⟩∧
  eo 13 H x none (some (cv kn))=some y1∧eo 13 H3 x none (some (cv kn))=some y1∧
  cg 47 13 120 (.slice (some ⟨H.length,0,none⟩) 0 0) y1 H3=some (x4,H4)∧
  eo 13 H x (some (cv (kn+1:Nat))) none=some y2∧eo 13 H3 x (some (cv (kn+1:Nat))) none=some y2∧eo 13 H4 x (some (cv (kn+1:Nat))) none=some y2∧
  cg 47 13 120 x4 y2 H4=some (x5,H5)∧jE y1 y1=true∧jE y2 y2=true∧
  iW H5 o5 (-30) (-41) x5 (L.take kn++L.drop (kn+1))∧Fr H o H5 o5 []:=by
 obtain⟨t,T5,Yv⟩:=jq o H.length;obtain⟨H3,ou⟩: ∃t,t=H.new ⟨[],47,13,false⟩:=⟨_,rfl⟩;have f3:Fr H o H3 (o.up H.length t) []:=by rw[ou];exact(Fr.refl _ _ _).new _ _
 have emp:iW H3 (o.up H.length t) t (-41) (.slice (some ⟨H.length,0,none⟩) 0 0) []:=by rw[ou];exact iW.empty ..
 have Ti:=hx.fr f3 (by simp) (by simp)
 obtain⟨y1,c1,ev1⟩:=Ti.iP.cut (m:=0) (n:=kn) (lo:=none) (hi:=some (cv kn)) (by omega) (by omega) rfl rfl
 obtain⟨a1,cc1,zs1,Zt,Ur,el1,MJ⟩:=ev1.src;have n1:((L.take kn).drop 0).length=zs1.length:=by rw[el1,List.length_map]
 rw[n1] at Zt Ur;have ad6:zs1.length≤1000:=by rw[←n1];simp;omega
 obtain⟨x4,H4,o4,ap1,lg4,f4⟩:=emp.DL (tE:=47) Zt Ur MJ (by omega) (by simp;omega)
 have adI:=Ti.fr f4 (by simp;omega) (by simp;omega)
 obtain⟨y2,c2,ev2⟩:=adI.iP.cut (m:=kn+1) (n:=L.length) (lo:=some (cv (kn+1:Nat))) (hi:=none) (by omega) (by omega) rfl rfl
 obtain⟨a2,cc2,zs2,ey2,wK,el2,Mj⟩:=ev2.src;have n2:((L.take L.length).drop (kn+1)).length=zs2.length:=by rw[el2,List.length_map]
 rw[n2] at ey2 wK;have ad7:zs2.length≤1000:=by rw[←n2];simp;omega
 obtain⟨x5,H5,o5,ap2,lg5,f5⟩:=lg4.DL (tE:=47) ey2 wK Mj (by omega) (by simp;omega)
 have M5: ∀i n c,x= .slice (some ⟨i,0,none⟩) n c→H3.get i=H.get i:=λi n c e=>f3.same i (hx.at_ e).1 (by simp)
 have T7: ∀i n c,x= .slice (some ⟨i,0,none⟩) n c→H4.get i=H3.get i:=λi n c e=>f4.same i (Ti.at_ e).1 (by rw[(Ti.at_ e).2];simp;omega)
 have fA:=f4.tr f5
 let o6:aj:=λi=>if o5 i=t then -30 else o5 i
 refine⟨y1,y2,H3,H4,H5,x4,x5,o6,ou,by rw[←wA M5 hx.is];exact c1,c1,ap1,?_,?_,c2,ap2,by rw[Zt];exact jm ..,by rw[ey2];exact jm ..,?_,λi hi _=>?_,λi hi=>?_,?_⟩
 ·rw[←wA M5 hx.is, ←wA T7 hx.is];exact c2
 ·rw[←wA T7 hx.is];exact c2
 ·have e1:L.take kn=zs1.map (λz=>z.1):=by rw[←el1];rfl
  have e2:L.drop (kn+1)=zs2.map (λz=>z.1):=by rw[←el2,List.take_length]
  rw[e1,e2];have:=lg5.relabel (o':=o6) (q':= -30) (λi _ h=>by show(if o5 i=t then(-30:Int) else o5 i)= -30;rw[if_pos h]) (λi _ h=>by show(if o5 i=t then(-30:Int) else o5 i)= -41;rw[if_neg (by omega)];exact h)
  simpa using this
 ·have:=f3.size
  have h8:=Yv i hi;rw[fA.slot i (by omega) (by rw[f3.own i hi];simp;omega)]
  exact f3.slot i hi (by simp)
 ·have h8:=Yv i hi;have h9:o5 i=o i:=by rw[fA.own i (by have:=f3.size;omega)];exact f3.own i hi
  show(if o5 i=t then(-30:Int) else o5 i)=o i
  rw[h9,if_neg (by omega)]
 ·have:=f3.size;have:=fA.size;omega
theorem Y2 {a0 a1 a2 px:Value}{zs:List Int}{kk j:Nat}(hj:j+kk=3)(hz:fp H o (-1) a2 zs)(ht:TL H o x L (211+j))(x6 bN aG aN gF ij my aK qF aJ vS lE ja oI qG oJ:Value):
  Ev (λn=>Ia (run G n) n [a0,a1,a2,x6,px,cv j,x,bN,aG,aN,gF,ij,my,aK,qF,aJ,vS,lE,ja,oI,qG,oJ] H) (TQ a0 a1 a2 px zs kk):=by
 have hlen:=ht.len;have Tj:Ev (λn=>fin (.exit 0) [a0,a1,a2,x6,px,cv j,x,.bool false,aG,aN,gF,ij,my,aK,qF,aJ,vS,lE,ja,oI,qG,oJ] H) (TQ a0 a1 a2 px zs kk):=Ev.ret (.inr ⟨by simp,rfl,o,x,L,_,_,_,_,_,_,_,_,_,_,_,_,_,_,_,_,_,rfl,ht.log,by omega,ht.lists⟩)
 simp -implicitDefEqProofs only[fin] at Tj;simp -implicitDefEqProofs only[Q6,GK,hz.1.len,sS,Nat.reduceAdd];refine Ev.lss (λHB=>?_) (λHB=>?_)<;>try simp -implicitDefEqProofs only[sS,Nat.reduceAdd]
 rotate_left
 ·exact Tj
 refine Ev.lss (λpT=>?_) (λpT=>?_)<;>try simp -implicitDefEqProofs only[ht.log.len,sS,Nat.reduceAdd]
 rotate_left
 ·exact Tj
 refine Ev.gtr (λhq3=>?_) (λhq3=>?_)<;>try simp -implicitDefEqProofs only[sS,Nat.reduceAdd]
 rotate_left
 ·exact Tj
 have hk:0<kk:=by omega
 obtain⟨qi,off,b,e1,e2,e3⟩:=hz.1.idx (j:=j) (by omega)
 have e4:aq (.pointer (some ⟨qi,off,none⟩)) H=some (cv (zs.getD j 0)):=(ak qi off H e2).trans e3;generalize zs.getD j 0=z at e4
 simp -implicitDefEqProofs only[e1,e4,ht.log.len,sS,Nat.reduceAdd];refine Ev.call (ka z L.length (by omega)) ?_
 rintro v H' ⟨k,rfl,hk0,Hv,rfl⟩;simp -implicitDefEqProofs only[abR,ht.log.len,sS,Nat.reduceAdd];refine Ev.call (ka _ L.length (by omega)) ?_
 rintro v H' ⟨y,rfl,hy0,Hg,rfl⟩;obtain⟨kn,rfl⟩: ∃kn:Nat,k=kn:=⟨k.toNat,by omega⟩
 obtain⟨yn,rfl⟩: ∃yn:Nat,y=yn:=⟨y.toNat,by omega⟩
 obtain⟨ptr,e,s,p1,p2,p3,p4,p5⟩:=ht.log.FA (j:=kn) (by omega) (by omega)
 obtain⟨sa,sc,es⟩:=p4.isSlice;have hl:e.res.list.length≤1048577:=ht.lists e (List.mem_of_getElem? p3);obtain⟨H2,iL⟩: ∃t,t=H'.new ⟨aM e s,47,1,false⟩:=⟨_,rfl⟩;have st:=adG (e:=e) es H';rw[←iL] at st;have f2:Fr H' o H2 (o.up H'.length (-9)) []:=by rw[iL];exact(Fr.refl _ _ _).new _ _
 have vz:Cl H'.length (aM e s) 47 H2 (o.up H'.length (-9)):=by rw[iL];exact Cl.made
 have Mj:=hz.fr f2 (by simp)
 have wK:=p4.fr f2 (by simp)
 have Ps:=ht.fr f2 (by simp) (by simp)
 have uJ:TL H2 (o.up H'.length (-9)) x L (211+j+1):=⟨Ps.log,by omega,Ps.lists⟩
 simp -implicitDefEqProofs only[p1,p2,abQ,st,I5,sS,Nat.reduceAdd];refine Ev.call (ka _ 9 (by omega)) ?_
 rintro v Hq ⟨c,rfl,hc0,P3,hHq⟩;rw[hHq]
 try simp -implicitDefEqProofs only[sS,Nat.reduceAdd]
 refine Ev.eql (λhq=>?_) (λhq=>?_)<;>try simp -implicitDefEqProofs only[sS,Nat.reduceAdd]
 ·have hwk:IntKind.i64.wrap ((kn:Int)+1)=((kn+1:Nat):Int):=by rw[kr (by omega)];omega
  obtain⟨y1,y2,H4,H5,H6,x4,x5,o6,oV,d1,d2,d3,d4,d5,d6,d7,d8,d9,lg,fz⟩:=PW uJ.log (kn:=kn) (by omega) (by omega)
  have Tn:=Uj H2;rw[←oV] at Tn;simp -implicitDefEqProofs only[Tn,d1,d2,d3,hwk,d4,d5,d6,d7,d8,d9,sS,Nat.reduceAdd];refine kV hj hk (Mj.fr fz (by simp)) ⟨lg,by simp;omega,λz hz=>?_⟩ (vz.fr fz (by simp)) (wK.fr fz (by simp)) hl (by omega) ..
  rcases List.mem_append.1 hz with hz|hz
  ·exact uJ.lists z (List.mem_of_mem_take hz)
  ·exact uJ.lists z (List.mem_of_mem_drop hz)
 refine Ev.eql (λhq=>?_) (λhq=>?_)<;>try simp -implicitDefEqProofs only[sS,Nat.reduceAdd]
 ·obtain⟨pk,ek,sk,k1,k2,k3,k4,k5⟩:=uJ.log.FA (j:=kn) (by omega) (by omega)
  obtain⟨py,ey,sy,y1,y2,y3,y4,y5⟩:=uJ.log.FA (j:=yn) (by omega) (by omega)
  obtain⟨H4,k6,k7,k8⟩:=k5 ey sy y4;obtain⟨py',ey',sy',w1,w2,w3,w4,w5⟩:=k7.FA (j:=yn) (by simp;omega) (by omega)
  obtain⟨H5,w6,w7,w8⟩:=w5 ek sk (k4.fr k8 (by simp))
  have epy:py'=py:=by
   have a:=y1 [];have b:=w1 [];rw[a] at b;simpa using b.symm
  subst epy;have epk:pk=ptr:=by
   have a:=p1 [];have b:=k1 [];rw[a] at b;simpa using b.symm
  subst epk;have f5:=k8.tr w8;simp -implicitDefEqProofs only[y1,y2,k1,k2,k6,w6,sS,Nat.reduceAdd];refine kV hj hk (Mj.fr f5 (by simp)) ⟨w7,by simpa using uJ.len,λz hz=>?_⟩ (vz.fr f5 (by simp)) (wK.fr f5 (by simp)) hl (by omega) ..
  rcases List.mem_or_eq_of_mem_set hz with hz|rfl
  ·rcases List.mem_or_eq_of_mem_set hz with hz|rfl
   ·exact uJ.lists z hz
   ·exact uJ.lists _ (List.mem_of_getElem? y3)
  ·exact uJ.lists _ (List.mem_of_getElem? k3)
 refine Ev.eql (λhq=>?_) (λhq=>?_)<;>try simp -implicitDefEqProofs only[sS,Nat.reduceAdd]
 ·have TX:=IM vz.1;obtain⟨H4,oV⟩: ∃t,t=H2.new ⟨aM e s,47,13,false⟩:=⟨_,rfl⟩;have bs:=PH e es H2;rw[←oV] at bs;have f4:Fr H2 (o.up H'.length (-9)) H4 ((o.up H'.length (-9)).up H2.length (-9)) []:=by rw[oV];exact(Fr.refl _ _ _).new _ _
  have g4:H4.get H2.length=some ⟨aM e s,47,13,false⟩:=by rw[oV];exact ay
  obtain⟨x',H5,o5,ap,lg,f5⟩:=(uJ.log.fr f4 (by simp) (by simp)).app (tE:=47) g4 (wK.fr f4 (by simp)) (by omega) (by omega)
  have f45:=f4.trans f5 (rs:=[-30]) (by simp) (λ_ h=>h)
  simp -implicitDefEqProofs only[TX,bs,ap,sS,Nat.reduceAdd];refine kV hj hk (Mj.fr f45 (by simp)) ⟨lg,by simp;omega,λz hz=>?_⟩ (vz.fr f45 (by simp)) (wK.fr f45 (by simp)) hl (by omega) ..
  rcases List.mem_append.1 hz with hz|hz
  ·exact uJ.lists z hz
  ·have:z=e:=by simpa using hz
   subst this;exact hl
 refine Ev.eql (λhq=>?_) (λhq=>?_)<;>try simp -implicitDefEqProofs only[sS,Nat.reduceAdd]
 ·obtain⟨b1,b2⟩:=abS vz;obtain⟨H4,b3,PX,f4⟩:=b2 (!e.res.found);simp -implicitDefEqProofs only[b1,b3,sS,Nat.reduceAdd];exact kV hj hk (Mj.fr f4 (by simp)) (uJ.fr f4 (by simp) (by simp)) PX (wK.fr f4 (by simp)) hl (by omega) ..
 refine Ev.eql (λhq=>?_) (λhq=>?_)<;>try simp -implicitDefEqProofs only[sS,Nat.reduceAdd]
 ·obtain⟨b1,b2⟩:=abT vz;obtain⟨H4,b3,PX,f4⟩:=b2 (IntKind.i64.wrap (e.res.value+1));simp -implicitDefEqProofs only[b1,b3,sS,Nat.reduceAdd];exact kV hj hk (Mj.fr f4 (by simp)) (uJ.fr f4 (by simp) (by simp)) PX (wK.fr f4 (by simp)) hl (by omega) ..
 refine Ev.eql (λhq=>?_) (λhq=>?_)<;>try simp -implicitDefEqProofs only[sS,Nat.reduceAdd]
 ·obtain⟨b1,b2⟩:=abU vz;obtain⟨H4,b3,PX,f4⟩:=b2 (IntKind.i64.wrap (e.no+1));simp -implicitDefEqProofs only[b1,b3,sS,Nat.reduceAdd];exact kV hj hk (Mj.fr f4 (by simp)) (uJ.fr f4 (by simp) (by simp)) PX (wK.fr f4 (by simp)) hl (by omega) ..
 refine Ev.eql (λhq=>?_) (λhq=>?_)<;>try simp -implicitDefEqProofs only[sS,Nat.reduceAdd]
 ·obtain⟨b1,b2⟩:=abV vz;obtain⟨H4,b3,PX,f4⟩:=b2 (IntKind.i64.wrap (e.bO+1));simp -implicitDefEqProofs only[b1,b3,sS,Nat.reduceAdd];exact kV hj hk (Mj.fr f4 (by simp)) (uJ.fr f4 (by simp) (by simp)) PX (wK.fr f4 (by simp)) hl (by omega) ..
 refine Ev.eql (λhq=>?_) (λhq=>?_)<;>try simp -implicitDefEqProofs only[sS,Nat.reduceAdd]
 ·obtain⟨b1,b2⟩:=abW vz;obtain⟨H4,b3,PX,f4⟩:=b2 (IntKind.i64.wrap (e.op.key+1));simp -implicitDefEqProofs only[b1,b3,sS,Nat.reduceAdd];exact kV hj hk (Mj.fr f4 (by simp)) (uJ.fr f4 (by simp) (by simp)) PX (wK.fr f4 (by simp)) hl (by omega) ..
 simp -implicitDefEqProofs only[adH,sS,Nat.reduceAdd];refine Ev.call (ka _ 11 (by omega)) ?_
 rintro v H3' ⟨u,rfl,_,_,rfl⟩;obtain⟨b1,b2⟩:=abX vz;obtain⟨H4,b3,PX,f4⟩:=b2 u;simp -implicitDefEqProofs only[b3,sS,Nat.reduceAdd];exact kV hj hk (Mj.fr f4 (by simp)) (uJ.fr f4 (by simp) (by simp)) PX (wK.fr f4 (by simp)) hl (by omega) ..
theorem PY (c:Int){xl xt:Value}{zl zt:List Int}(hl:fp H o (-1) xl zl)(hll:zl.length≤maxLen)(ht:fp H o (-1) xt zt):bA (run G) 5 [cv c,xl,xt] H λv H'=>∃o' L,TL H' o' v L 214:=by
 refine Ev.up (t:=λn=>F5 (run G n) n (cv c) xl xt H) ?_ λn=>aav ..
 simp -implicitDefEqProofs only[F5,sS,Nat.reduceAdd];refine Ev.call (Tg c hl hll) ?_;rintro v H1 ⟨xp,mp,o1,th,L1,rfl,f1,h1,hI⟩;have uJ:=ht.fr f1 (by simp)
 obtain⟨c0,c1,c2,inv,eO,mx,tb,cap,cs,Lx,rest,ty,mo,g,hox,_,_,_,_,hL⟩:=id h1;obtain⟨H2,iL⟩: ∃t,t=H1.new ⟨[],47,13,false⟩:=⟨_,rfl⟩;have b0:=Uj H1;rw[←iL] at b0;have f2:Fr H1 o1 H2 (o1.up H1.length (-30)) []:=by rw[iL];exact(Fr.refl _ _ _).new _ _
 have emp:iW H2 (o1.up H1.length (-30)) (-30) (-41) (.slice (some ⟨H1.length,0,none⟩) 0 0) []:=by rw[iL];exact iW.empty ..
 have g2:H2.get xp=some ⟨[cv c0,cv c1,cv c2,pv mp,.slice (some ⟨tb,0,none⟩) 3 cap,Lx,cv inv,cv eO],ty,1,false⟩:=by rw[f2.same xp (an g) (by simp)];exact g
 have L5:aq (.pointer (some ⟨xp,5,none⟩)) H2=some Lx:=ak xp 5 H2 g2;obtain⟨a1,cc1,zs1,Zt,Ur,el1,MJ⟩:=(hL.fr f2 (by simp) (by simp)).iP.src
 have n1:L1.length=zs1.length:=by rw[el1,List.length_map]
 have hlen:=hI.len;rw[n1] at Zt Ur;obtain⟨x4,H4,o4,ap1,lg4,f4⟩:=emp.DL (tE:=47) Zt Ur MJ (by omega) (by simp;omega)
 have hzt:fp H4 o4 (-1) xt zt:=(uJ.fr f2 (by simp)).fr f4 (by simp)
 have hTL:TL H4 o4 x4 L1 (211+0):=⟨by rw[el1];simpa using lg4,by omega,hI.lists⟩
 simp -implicitDefEqProofs only[b0,L5,ap1,sS,Nat.reduceAdd];refine Ev.loop (k:=3) (λkk vs Hx=>TI (cv c) xl xt (pv xp) zt kk vs Hx) (λr=>TR (cv c) xl xt (pv xp) r) ⟨0,o4,x4,L1,_,_,_,_,_,_,_,_,_,_,_,_,_,_,_,_,rfl,rfl,hzt,hTL⟩ ?_ ?_
 ·rintro kk vs Hx ⟨j,ox,x,L,x6,bN,aG,aN,gF,ij,my,aK,qF,aJ,vS,lE,ja,oI,qG,oJ,rfl,hj,hz,hT⟩;exact Y2 hj hz hT ..
 ·rintro e vs Hx ⟨he,ox,x,L,x9,x6,bN,aG,aN,gF,ij,my,aK,qF,aJ,vS,lE,ja,oI,qG,oJ,rfl,hT⟩;simp only at he;subst he;simp -implicitDefEqProofs only[Q3,GH,sS,Nat.reduceAdd];exact Ev.ret ⟨ox,L,hT⟩
end
end Go.Proofs.YtjgmnoaalbbonaaGreat.Fun
end
section
namespace Go.Proofs.YtjgmnoaalbbonaaGreat.Fun
open Go Go.RowKit Go.Proofs.YtjgmnoaalbbonaaGreatA.Am
set_option maxRecDepth 10000
theorem Hr:(ks++uN Tryz.prog).contains 6=true:=by rw[NA];rfl
theorem Hs (n:Nat)(H:aa):run KG (n+1) 6 [] H=some (.bool true,H):=by
 unfold run;simp only[fh,Hr,if_true];simp[Cp]
end Go.Proofs.YtjgmnoaalbbonaaGreat.Fun
namespace Go.Proofs.YtjgmnoaalbbonaaGreat.Pure
open Go.RowKit Go.Proofs.YtjgmnoaalbbonaaGreatA.Am Fun
set_option maxRecDepth 10000
end Go.Proofs.YtjgmnoaalbbonaaGreat.Pure
end
section
namespace Go.Proofs.YtjgmnoaalbbonaaGreat.Fun
open Go Go.RowKit Go.Proofs.YtjgmnoaalbbonaaGreatA.Am
set_option maxRecDepth 10000
theorem AQ {H:aa}{o:aj}(c at_:Int)(ha:Gv at_){xl xt:Value}{zl zt:List Int}(hl:fp H o (-1) xl zl)(hll:zl.length≤maxLen)(ht:fp H o (-1) xt zt): ∃n H',run KG n 4 [cv c,xl,xt,cv at_] H=some (.bool true,H'):=by
 obtain⟨N,⟨v,H1⟩,h1,o1,L,hT⟩:=PY (G:=KG) c hl hll ht;simp only at h1 hT;have t1:=h1 (N+5000000) (by omega)
 have hlen:=hT.len;have hw:IntKind.i64.wrap ((L.length:Int)+1)=(L.length:Int)+1:=kr (by omega)
 obtain⟨H2,q2,y2⟩:=zF (n:=N+4999978) (B:=1048577) hT.log.iP (by omega) hT.lists (by omega) (by omega)
 have hT2:=hT.fr (y2.fr o1 (-9)) (by simp) (by simp)
 have Ff:=O4 (G:=KG) (N+4999999) at_ ((L.length:Int)+1) ha (by omega) H2
 have Mp:0≤at_%((L.length:Int)+1):=Int.emod_nonneg _ (by omega)
 have MJ:at_%((L.length:Int)+1)<(L.length:Int)+1:=Int.emod_lt_of_pos _ (by omega)
 obtain⟨k,hk⟩: ∃k:Nat,at_%((L.length:Int)+1)=k:=⟨(at_%((L.length:Int)+1)).toNat,by omega⟩
 rw[hk] at Ff Mp MJ;obtain⟨y,s1,ev⟩:=hT2.log.iP.cut (m:=0) (n:=k) (lo:=none) (hi:=some (cv k)) (by omega) (by omega) rfl rfl
 obtain⟨H3,q3,y3⟩:=zF (n:=N+4999978) (B:=1048577) ev (by simp;omega) (λe he=>hT2.lists e (List.mem_of_mem_take (List.mem_of_mem_drop he))) (by omega) (by omega)
 have kn:=Hs (N+4999999) H3;have PZ:=hT.log.len;have Zu:=zR L Fb 0 k;have tP:=zQ L Fb 0;have ed:(L.take k).drop 0=L.take k:=rfl;rw[ed] at q3;refine⟨N+5000000+1,H3,?_⟩;rw[aaE];by_cases c1:check L Fb 0<0
 ·have e1:check L Fb 0= -1:=by
   rcases tP with h|h
   ·exact h
   ·omega
  rw[if_pos (.inl c1)] at Zu;rw[Zu] at q3;have c2:check L Fb 0<(L.length:Int):=by omega
  simp -implicitDefEqProofs [F4,t1,q2,PZ,gS,hw,Ff,s1,q3,bT,c1,c2,kn,cW,aL]
 ·by_cases c2:(k:Int)≤check L Fb 0
  ·rw[if_pos (.inr (by omega))] at Zu
   rw[Zu] at q3;have c3:check L Fb 0<(L.length:Int):=by omega
   simp -implicitDefEqProofs [-ge_iff_le,F4,t1,q2,PZ,gS,hw,Ff,s1,q3,bT,qa,c1,c2,c3,kn,cW,aL]
  ·rw[if_neg (by omega)] at Zu
   rw[Zu] at q3;simp -implicitDefEqProofs [-ge_iff_le,F4,t1,q2,PZ,gS,hw,Ff,s1,q3,bT,qa,c1,c2,kn,cW,aL]
end Go.Proofs.YtjgmnoaalbbonaaGreat.Fun
namespace Go.Proofs.YtjgmnoaalbbonaaGreat.Pure
open Go.RowKit Go.Proofs.YtjgmnoaalbbonaaGreatA.Am Fun
set_option maxRecDepth 10000
theorem AR:TC Tryz.prog 4 [3,22,22,3]:=XN λH args hr hi=>by
 obtain⟨v0,_,rfl,h0,v1,_,rfl,h1,v2,_,rfl,h2,v3,_,rfl,h3,rfl⟩:=hi;obtain⟨c,rfl,_⟩:=h0.int uI;obtain⟨zl,MJ,_,Qy⟩:=h1.ints (show Tryz.prog.underlying 22=some (.slice 3) from by kernel_rfl) uI (by kernel_rfl)
 obtain⟨zt,Mj,_,DO⟩:=h2.ints (show Tryz.prog.underlying 22=some (.slice 3) from by kernel_rfl) uI (by kernel_rfl)
 obtain⟨a,rfl,ha⟩:=h3.int uI;exact AQ c a ha MJ Qy Mj
end Go.Proofs.YtjgmnoaalbbonaaGreat.Pure
end
section
namespace Go.Proofs.YtjgmnoaalbbonaaGreat.BG
open Go.ChangeShapes Go.WideShapes Go.ChangeAt Go.RowKit Go.Proofs.YtjgmnoaalbbonaaGreatA.Am
theorem own:ownKnob Tryz.prog.godebug=none:=by kernel_rfl
set_option maxRecDepth 100000 in
theorem lifted (os:Os)(started:os.Started)(H:Type)(enc:TypeId×Value→H):
  ReturnsInHanded {} Tryz.checked os 4 .any (Rows.linearCutSpec.pre6 enc Tryz.prog Tryz.f4 Rows.linearCutRow.domain false) (Rows.linearCutSpec.post enc Tryz.prog Tryz.f4 false true false false):=by
 refine returnsInHanded_of_change_sized (C:=Tryz.checked) own started (by kernel_rfl) Tryz.func4
  (ChangeSpec.witness6 (enc:=enc) (C:=Tryz.checked) false ⟨#[],#[.int .i64 0,.slice none 0 0,.slice none 0 0,.int .i64 0],[]⟩ 8 (by kernel_rfl) (by kernel_rfl) (by kernel_rfl) (by kernel_rfl)) ?_
 intro W base args ds gs before Uk hW ad8 FU _;have pz: ∀(j:Nat) t v,Tryz.f4.params[j]? =some t→args[j]? =some v→Value.okWide Tryz.prog W .any base t v:=Uk;have hW':=hW;obtain⟨p,q,hA0,hV,rfl,hfz,Tr⟩:=hW;have hA:DataW.TrodAll enc Tryz.prog W 0 (λ_=>true) true Tryz.f4.params.toList args.toList ds p:=hA0
 rw[Tryz.params4] at hA pz;obtain⟨rfl,rfl⟩:=trodVars_none hV;have eR: ∀x∈p,x.block<W.heap.size:=λx hx=>by simpa using hW'.lt x (by simpa using hx)
 have hw:=TC.walk Pure.AR (by kernel_rfl) (vs:=args.toList) (λj t v e1 e2=>pz j t v (by simpa using e1) (by simpa using e2)) hA
 have hA2:=hA;obtain⟨_,vs0,d0,ds0,p0,q0,_,rfl,_,_,r0⟩:=trodAll_cons hA2;obtain⟨_,Ed,d1,ds1,p1,q1,rfl,rfl,rfl,_,r1⟩:=trodAll_cons r0;obtain⟨_,Uz,d2,ds2,p2,q2,rfl,rfl,rfl,_,r2⟩:=trodAll_cons r1;obtain⟨_,vs3,d3,ds3,p3,q3,rfl,rfl,rfl,_,r3⟩:=trodAll_cons r2;obtain⟨_,rfl,_⟩:=trodAll_nil r3;clear hA0 Uk FU;rw[Array.toArray_toList] at hw;refine hw.mono λe W' ⟨he,bel⟩=>?_
 subst he;exact⟨_,rfl,_,_,_,[],_,[],hW',trodAll_mk1 (shut_bool Tryz.underlying4 _),Jz (by kernel_rfl) _ _ _ _ (by kernel_rfl) hA bel eR,rfl,bel.frame _,λh=>by cases h⟩
theorem QH:Rows.linearCutRow.holds Tryz.pinned (OpenSpec.ofChange Rows.linearCutSpec):=
 OpenClaim.holds_of_wide 4 Tryz.f4 rfl rfl rfl rfl rfl rfl rfl ⟨rfl,rfl,rfl,rfl,rfl⟩ rfl rfl rfl rfl rfl (by kernel_rfl) Tryz.func4 (by kernel_rfl)
  (of_decide_eq_true (by kernel_rfl)) (by unfold Func.isWrapper;first| (rw[if_pos (by decide +kernel)];kernel_rfl)| (rw[if_neg (by decide +kernel)];exact⟨rfl,rfl⟩))
  (λos started H enc _=>lifted os started H enc)
theorem proved:Rows.LinearCutSaid:=QH
end Go.Proofs.YtjgmnoaalbbonaaGreat.BG
namespace Go.Proofs.YtjgmnoaalbbonaaGreat
theorem linearCut_holds:Rows.LinearCutSaid:=BG.proved
end Go.Proofs.YtjgmnoaalbbonaaGreat
end
