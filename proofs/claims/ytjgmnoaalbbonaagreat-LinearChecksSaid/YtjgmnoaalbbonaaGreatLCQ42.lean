/- Texts of the proof of linearChecks_holds, put together by a small program of ours (names shortened, spaces taken out). No condition beyond the given statement. -/
import Derived.Test.YtjgmnoaalbbonaaGreatLCQ16
import Derived.Test.YtjgmnoaalbbonaaGreatLCQ41
import Derived.Test.YtjgmnoaalbbonaaGreatLCQ23
import Derived.Test.YtjgmnoaalbbonaaGreatLCQ14
import Derived.Test.YtjgmnoaalbbonaaGreatRows
import Derived.WalkKit
import Derived.ProofKit
import Derived.OpenShut
import Derived.ShutString
import Derived.ChangeOld
import Derived.Below
import Derived.SizedLaws
set_option linter.unusedVariables false
set_option linter.unusedSimpArgs false
set_option linter.unnecessarySimpa false
noncomputable section
section
namespace Go.Proofs.YtjgmnoaalbbonaaGreat.Fun
open Go Go.RowKit Go.Proofs.YtjgmnoaalbbonaaGreatA.Am
set_option maxRecDepth 10000
section
variable {H H':ae} {o o':an} {q q2:Int} {x:Value} {L:List iH} {G:ag}
structure TL (H:ae) (o:an) (x:Value) (L:List iH) (N:Nat):Prop where
 log:jD H o (-30) (-41) x L
 len:L.length≤N
 lists: ∀e∈L,e.res.list.length≤1048577
theorem TL.fr {N:Nat}{ps:List Int}(h:TL H o x L N)(f:Fr H o H' o' ps)(h1:(-30:Int) ∉ ps)(h2:(-41:Int) ∉ ps):TL H' o' x L N:=⟨h.log.fr f h1 h2,h.len,h.lists⟩
theorem afZ (H:ae):aO H 47 1 [cv 0,cv 0,cv 0,cv 0,cv 0,cv 0,cv 0,.bool false,cv 0,cv 0,cv 0,aB,cv 0]=(pv H.length,H.new ⟨[cv 0,cv 0,cv 0,cv 0,cv 0,cv 0,cv 0,.bool false,cv 0,cv 0,cv 0,aB,cv 0],47,1,false⟩):=rfl
theorem ah0 {e:iH}{s:Value}{a:Option Addr}{m c:Nat}(es:s= .slice a m c)(H:ae):bS 13 (pv H.length) (yT e s) (H.new ⟨[cv 0,cv 0,cv 0,cv 0,cv 0,cv 0,cv 0,.bool false,cv 0,cv 0,cv 0,aB,cv 0],47,1,false⟩)=some (undef,H.new ⟨aT e s,47,1,false⟩):=by
 subst es;simp[bS,bG,Value.cells,known,aD,bO,ae.put,ae.new,ae.get,List.set_append]
theorem af0 (t:TypeId)(a:Int):aj Tryz.prog .quo t (cv a) (cv 50)=some (cv (IntKind.i64.wrap (a.tdiv 50))):=kZ _ a 50 (by decide)
theorem Ng (t:TypeId)(a:Int):aj Tryz.prog .quo t (cv a) (cv 2000)=some (cv (IntKind.i64.wrap (a.tdiv 2000))):=kZ _ a 2000 (by decide)
theorem ah1 (t:TypeId)(a:Int):aj Tryz.prog .quo t (cv a) (cv 7)=some (cv (IntKind.i64.wrap (a.tdiv 7))):=kZ _ a 7 (by decide)
theorem jD.empty (H:ae)(o:an)(q q2:Int)(t:TypeId):jD (H.new ⟨[],t,13,false⟩) (o.up H.length q) q q2 (.slice (some ⟨H.length,0,none⟩) 0 0) []:=
 .inr ⟨H.length,0,[],t,[],rfl,by rw[az];rfl,rfl,rfl,aQ,λz hz=>by cases hz⟩
def TI (a0 a1 a2 px:Value)(zs:List Int)(kk:Nat)(vs:List Value)(Hx:ae):Prop:=∃(j:Nat) (ox:an) (x:Value) (L:List iH) (x6 bW aK aU gH ic lR aP pq aR vN lL jc mT oF mU:Value),vs=[a0,a1,a2,x6,px,cv j,x,bW,aK,aU,gH,ic,lR,aP,pq,aR,vN,lL,jc,mT,oF,mU]∧j+kk=3∧gj Hx ox (-1) a2 zs∧TL Hx ox x L (211+j)
def TR (a0 a1 a2 px:Value)(r:cg×List Value×ae):Prop:=r.1= .exit 0∧∃(ox:an) (x:Value) (L:List iH) (x9 x6 bW aK aU gH ic lR aP pq aR vN lL jc mT oF mU:Value),r.2.1=[a0,a1,a2,x6,px,x9,x,bW,aK,aU,gH,ic,lR,aP,pq,aR,vN,lL,jc,mT,oF,mU]∧TL r.2.2 ox x L 214
abbrev TQ (a0 a1 a2 px:Value)(zs:List Int)(kk:Nat):cg×List Value×ae→Prop:=λr=>(r.1= .normal∧∃k',k'<kk∧TI a0 a1 a2 px zs k' r.2.1 r.2.2)∨(r.1≠ .normal∧TR a0 a1 a2 px r)
theorem GC {a0 a1 a2 px:Value}{zs:List Int}{kk j:Nat}(hj:j+kk=3)(hk:0<kk)(hz:gj H o (-1) a2 zs)(ht:TL H o x L (211+j+1))(x6 bW aK aU gH ic lR aP pq aR vN lL jc mT oF mU:Value):
  Ev (λn=>HK (run G n) n [a0,a1,a2,x6,px,cv j,x,bW,aK,aU,gH,ic,lR,aP,pq,aR,vN,lL,jc,mT,oF,mU] H) (TQ a0 a1 a2 px zs kk):=by
 have hw:IntKind.i64.wrap ((j:Int)+1)=((j+1:Nat):Int):=by rw[jE (by omega)];omega
 simp -implicitDefEqProofs only[Vv,Kb,hw,sS,Nat.reduceAdd];exact Ev.ret (.inl ⟨rfl,kk-1,by omega,j+1,o,x,L,_,_,_,_,_,_,_,_,_,_,_,_,_,_,_,_,rfl,by omega,hz,⟨ht.log,ht.len,ht.lists⟩⟩)
theorem mw {a0 a1 a2 px:Value}{zs:List Int}{kk j b:Nat}{e:iH}{s:Value}{k z:Int}(hj:j+kk=3)(hk:0<kk)(hz:gj H o (-1) a2 zs)(ht:TL H o x L (211+j+1))(hb:Cl b (aT e s) 47 H o)(hs:ee H o (-41) s e.res.list)(hl:e.res.list.length≤1048577)(hk0:0≤k)(x6 bW gH ic lR aP pq vN lL jc mT oF mU:Value):
  Ev (λn=>pR (run G n) n [a0,a1,a2,x6,px,cv j,x,bW,cv z,cv k,gH,ic,lR,aP,pq,pv b,vN,lL,jc,mT,oF,mU] H) (TQ a0 a1 a2 px zs kk):=by
 simp -implicitDefEqProofs only[Vw,Kc,ht.log.len,sS,Nat.reduceAdd];refine Ev.lss (λhq=>?_) (λhq=>?_)<;>try simp -implicitDefEqProofs only[Ng,sS,Nat.reduceAdd]
 rotate_left
 ·exact GC hj hk hz ht ..
 refine Ev.call (kX _ 9 (by omega)) ?_
 rintro v H' ⟨c,rfl,_,_,rfl⟩
 try simp -implicitDefEqProofs only[sS,Nat.reduceAdd]
 refine Ev.gtr (λrB=>?_) (λrB=>?_)<;>try simp -implicitDefEqProofs only[sS,Nat.reduceAdd]
 rotate_left
 ·exact GC hj hk hz ht ..
 obtain⟨kn,rfl⟩: ∃kn:Nat,k=kn:=⟨k.toNat,by omega⟩
 obtain⟨ptr,e',s',p1,p2,p3,p4,p5⟩:=ht.log.IS (j:=kn) (by omega) (by omega)
 obtain⟨H2,p6,p7,p8⟩:=p5 e s hs;have UC:=It hb.1;simp -implicitDefEqProofs only[UC,p1,p6,sS,Nat.reduceAdd];exact GC hj hk (hz.fr p8 (by simp)) ⟨p7,by simpa using ht.len,λy hy=>by
  rcases List.mem_or_eq_of_mem_set hy with hy|rfl
  ·exact ht.lists y hy
  ·exact hl⟩ ..
theorem af1 {b:Nat}{e:iH}{s:Value}(hb:Cl b (aT e s) 47 H o):au (.pointer (some ⟨b,7,none⟩)) H=some (.bool e.res.found)∧∀v:Bool,∃H2,bS 1 (.pointer (some ⟨b,7,none⟩)) (.bool v) H=some (undef,H2)∧Cl b (aT {e with res:={e.res with found:=v}} s) 47 H2 o∧Fr H o H2 o [-9]:=
 ⟨ak b 7 H hb.1,λv=>⟨_,jA b 7 (.bool v) H hb.1 rfl (by simp) rfl rfl rfl,hb.self,(Fr.refl _ _ _).put λ_=>by simp[hb.2]⟩⟩
theorem af2 {b:Nat}{e:iH}{s:Value}(hb:Cl b (aT e s) 47 H o):au (.pointer (some ⟨b,9,none⟩)) H=some (cv e.res.value)∧∀v:Int,∃H2,bS 1 (.pointer (some ⟨b,9,none⟩)) (cv v) H=some (undef,H2)∧Cl b (aT {e with res:={e.res with value:=v}} s) 47 H2 o∧Fr H o H2 o [-9]:=
 ⟨ak b 9 H hb.1,λv=>⟨_,jA b 9 (cv v) H hb.1 rfl (by simp) rfl rfl rfl,hb.self,(Fr.refl _ _ _).put λ_=>by simp[hb.2]⟩⟩
theorem af3 {b:Nat}{e:iH}{s:Value}(hb:Cl b (aT e s) 47 H o):au (.pointer (some ⟨b,2,none⟩)) H=some (cv e.no)∧∀v:Int,∃H2,bS 1 (.pointer (some ⟨b,2,none⟩)) (cv v) H=some (undef,H2)∧Cl b (aT {e with no:=v} s) 47 H2 o∧Fr H o H2 o [-9]:=
 ⟨ak b 2 H hb.1,λv=>⟨_,jA b 2 (cv v) H hb.1 rfl (by simp) rfl rfl rfl,hb.self,(Fr.refl _ _ _).put λ_=>by simp[hb.2]⟩⟩
theorem af4 {b:Nat}{e:iH}{s:Value}(hb:Cl b (aT e s) 47 H o):au (.pointer (some ⟨b,1,none⟩)) H=some (cv e.aV)∧∀v:Int,∃H2,bS 1 (.pointer (some ⟨b,1,none⟩)) (cv v) H=some (undef,H2)∧Cl b (aT {e with aV:=v} s) 47 H2 o∧Fr H o H2 o [-9]:=
 ⟨ak b 1 H hb.1,λv=>⟨_,jA b 1 (cv v) H hb.1 rfl (by simp) rfl rfl rfl,hb.self,(Fr.refl _ _ _).put λ_=>by simp[hb.2]⟩⟩
theorem af5 {b:Nat}{e:iH}{s:Value}(hb:Cl b (aT e s) 47 H o):au (.pointer (some ⟨b,4,none⟩)) H=some (cv e.op.key)∧∀v:Int,∃H2,bS 1 (.pointer (some ⟨b,4,none⟩)) (cv v) H=some (undef,H2)∧Cl b (aT {e with op:={e.op with key:=v}} s) 47 H2 o∧Fr H o H2 o [-9]:=
 ⟨ak b 4 H hb.1,λv=>⟨_,jA b 4 (cv v) H hb.1 rfl (by simp) rfl rfl rfl,hb.self,(Fr.refl _ _ _).put λ_=>by simp[hb.2]⟩⟩
theorem af6 {b:Nat}{e:iH}{s:Value}(hb:Cl b (aT e s) 47 H o):au (.pointer (some ⟨b,6,none⟩)) H=some (cv e.res.pH)∧∀v:Int,∃H2,bS 1 (.pointer (some ⟨b,6,none⟩)) (cv v) H=some (undef,H2)∧Cl b (aT {e with res:={e.res with pH:=v}} s) 47 H2 o∧Fr H o H2 o [-9]:=
 ⟨ak b 6 H hb.1,λv=>⟨_,jA b 6 (cv v) H hb.1 rfl (by simp) rfl rfl rfl,hb.self,(Fr.refl _ _ _).put λ_=>by simp[hb.2]⟩⟩
theorem yZ {lo hi:Option Value}(h: ∀i n c,x= .slice (some ⟨i,0,none⟩) n c→H'.get i=H.get i)(hx:x= .slice none 0 0∨∃i n c,x= .slice (some ⟨i,0,none⟩) n c):dD 13 H' x lo hi=dD 13 H x lo hi:=by
 rcases hx with rfl|⟨i,n,c,rfl⟩
 ·rfl
 ·simp only[dD,h i n c rfl]
theorem jD.is (h:jD H o q q2 x L):x= .slice none 0 0∨∃i n c,x= .slice (some ⟨i,0,none⟩) n c:=by
 rcases h with⟨e,_⟩|⟨i,cap,rest,ty,es,e,_⟩
 ·exact .inl e
 ·exact .inr ⟨_,_,_,e⟩
theorem jD.at_ (h:jD H o q q2 x L){i n c:Nat}(e:x= .slice (some ⟨i,0,none⟩) n c):i<H.length∧o i=q:=by
 rcases h with⟨e',_⟩|⟨i',cap,rest,ty,es,e',g,_,_,ho,_⟩
 ·rw[e'] at e;cases e
 ·rw[e'] at e;cases e;exact⟨aq g,ho⟩
theorem jD.relabel {q':Int}(h:jD H o q q2 x L)(k: ∀i,i<H.length→o i=q→o' i=q')(k2: ∀i,i<H.length→o i=q2→o' i=q2):jD H o' q' q2 x L:=by
 rcases h with h|⟨i,cap,rest,ty,es,e1,e2,e3,e4,e5,e6⟩
 ·exact .inl h
 ·exact .inr ⟨i,cap,rest,ty,es,e1,e2,e3,e4,k i (aq e2) e5,λz hz=>(e6 z hz).relabel k2⟩
theorem Ug (hx:jD H o (-30) (-41) x L){kn:Nat}(hk:kn<L.length)(hL:L.length≤1000): ∃y1 y2 H3 H4 H5 x4 x5 o5,H3=H.new ⟨[],47,13,false⟩∧
  dD 13 H x none (some (cv kn))=some y1∧dD 13 H3 x none (some (cv kn))=some y1∧
  cd 47 13 120 (.slice (some ⟨H.length,0,none⟩) 0 0) y1 H3=some (x4,H4)∧
  dD 13 H x (some (cv (kn+1:Nat))) none=some y2∧dD 13 H3 x (some (cv (kn+1:Nat))) none=some y2∧dD 13 H4 x (some (cv (kn+1:Nat))) none=some y2∧
  cd 47 13 120 x4 y2 H4=some (x5,H5)∧jd y1 y1=true∧jd y2 y2=true∧
  jD H5 o5 (-30) (-41) x5 (L.take kn++L.drop (kn+1))∧Fr H o H5 o5 []:=by
 obtain⟨t,YH,htf⟩:=j5 o H.length;obtain⟨H3,pX⟩: ∃t,t=H.new ⟨[],47,13,false⟩:=⟨_,rfl⟩;have f3:Fr H o H3 (o.up H.length t) []:=by rw[pX];exact(Fr.refl _ _ _).new _ _
 have emp:jD H3 (o.up H.length t) t (-41) (.slice (some ⟨H.length,0,none⟩) 0 0) []:=by rw[pX];exact jD.empty ..
 have XW:=hx.fr f3 (by simp) (by simp)
 obtain⟨y1,c1,ev1⟩:=XW.jg.cut (m:=0) (n:=kn) (lo:=none) (hi:=some (cv kn)) (by omega) (by omega) rfl rfl
 obtain⟨a1,cc1,zs1,ey1,P9,el1,UP⟩:=ev1.src;have n1:((L.take kn).drop 0).length=zs1.length:=by rw[el1,List.length_map]
 rw[n1] at ey1 P9;have aiy:zs1.length≤1000:=by rw[←n1];simp;omega
 obtain⟨x4,H4,o4,ap1,lg4,f4⟩:=emp.GB (tE:=47) ey1 P9 UP (by omega) (by simp;omega)
 have ah2:=XW.fr f4 (by simp;omega) (by simp;omega)
 obtain⟨y2,c2,ev2⟩:=ah2.jg.cut (m:=kn+1) (n:=L.length) (lo:=some (cv (kn+1:Nat))) (hi:=none) (by omega) (by omega) rfl rfl
 obtain⟨a2,cc2,zs2,ey2,vV,Xp,I0⟩:=ev2.src;have n2:((L.take L.length).drop (kn+1)).length=zs2.length:=by rw[Xp,List.length_map]
 rw[n2] at ey2 vV;have aiz:zs2.length≤1000:=by rw[←n2];simp;omega
 obtain⟨x5,H5,o5,ap2,lg5,f5⟩:=lg4.GB (tE:=47) ey2 vV I0 (by omega) (by simp;omega)
 have QK: ∀i n c,x= .slice (some ⟨i,0,none⟩) n c→H3.get i=H.get i:=λi n c e=>f3.same i (hx.at_ e).1 (by simp)
 have YJ: ∀i n c,x= .slice (some ⟨i,0,none⟩) n c→H4.get i=H3.get i:=λi n c e=>f4.same i (XW.at_ e).1 (by rw[(XW.at_ e).2];simp;omega)
 have fA:=f4.tr f5
 let o6:an:=λi=>if o5 i=t then -30 else o5 i
 refine⟨y1,y2,H3,H4,H5,x4,x5,o6,pX,by rw[←yZ QK hx.is];exact c1,c1,ap1,?_,?_,c2,ap2,by rw[ey1];exact jX ..,by rw[ey2];exact jX ..,?_,λi hi _=>?_,λi hi=>?_,?_⟩
 ·rw[←yZ QK hx.is, ←yZ YJ hx.is];exact c2
 ·rw[←yZ YJ hx.is];exact c2
 ·have e1:L.take kn=zs1.map (λz=>z.1):=by rw[←el1];rfl
  have e2:L.drop (kn+1)=zs2.map (λz=>z.1):=by rw[←Xp,List.take_length]
  rw[e1,e2];have:=lg5.relabel (o':=o6) (q':= -30) (λi _ h=>by show(if o5 i=t then(-30:Int) else o5 i)= -30;rw[if_pos h]) (λi _ h=>by show(if o5 i=t then(-30:Int) else o5 i)= -41;rw[if_neg (by omega)];exact h)
  simpa using this
 ·have:=f3.size
  have h8:=htf i hi;rw[fA.slot i (by omega) (by rw[f3.own i hi];simp;omega)]
  exact f3.slot i hi (by simp)
 ·have h8:=htf i hi;have h9:o5 i=o i:=by rw[fA.own i (by have:=f3.size;omega)];exact f3.own i hi
  show(if o5 i=t then(-30:Int) else o5 i)=o i
  rw[h9,if_neg (by omega)]
 ·have:=f3.size;have:=fA.size;omega
theorem ady {a0 a1 a2 px:Value}{zs:List Int}{kk j:Nat}(hj:j+kk=3)(hz:gj H o (-1) a2 zs)(ht:TL H o x L (211+j))(x6 bW aK aU gH ic lR aP pq aR vN lL jc mT oF mU:Value):
  Ev (λn=>Md (run G n) n [a0,a1,a2,x6,px,cv j,x,bW,aK,aU,gH,ic,lR,aP,pq,aR,vN,lL,jc,mT,oF,mU] H) (TQ a0 a1 a2 px zs kk):=by
 have hlen:=ht.len;have XX:Ev (λn=>fin (.exit 0) [a0,a1,a2,x6,px,cv j,x,.bool false,aK,aU,gH,ic,lR,aP,pq,aR,vN,lL,jc,mT,oF,mU] H) (TQ a0 a1 a2 px zs kk):=Ev.ret (.inr ⟨by simp,rfl,o,x,L,_,_,_,_,_,_,_,_,_,_,_,_,_,_,_,_,_,rfl,ht.log,by omega,ht.lists⟩)
 simp -implicitDefEqProofs only[fin] at XX;simp -implicitDefEqProofs only[Vx,Kd,hz.1.len,sS,Nat.reduceAdd];refine Ev.lss (λLw=>?_) (λLw=>?_)<;>try simp -implicitDefEqProofs only[sS,Nat.reduceAdd]
 rotate_left
 ·exact XX
 refine Ev.lss (λrB=>?_) (λrB=>?_)<;>try simp -implicitDefEqProofs only[ht.log.len,sS,Nat.reduceAdd]
 rotate_left
 ·exact XX
 refine Ev.gtr (λhq3=>?_) (λhq3=>?_)<;>try simp -implicitDefEqProofs only[sS,Nat.reduceAdd]
 rotate_left
 ·exact XX
 have hk:0<kk:=by omega
 obtain⟨qi,off,b,e1,e2,e3⟩:=hz.1.idx (j:=j) (by omega)
 have e4:au (.pointer (some ⟨qi,off,none⟩)) H=some (cv (zs.getD j 0)):=(ak qi off H e2).trans e3;generalize zs.getD j 0=z at e4
 simp -implicitDefEqProofs only[e1,e4,ht.log.len,sS,Nat.reduceAdd];refine Ev.call (kX z L.length (by omega)) ?_
 rintro v H' ⟨k,rfl,hk0,Ls,rfl⟩;simp -implicitDefEqProofs only[af0,ht.log.len,sS,Nat.reduceAdd];refine Ev.call (kX _ L.length (by omega)) ?_
 rintro v H' ⟨y,rfl,rW,K8,rfl⟩;obtain⟨kn,rfl⟩: ∃kn:Nat,k=kn:=⟨k.toNat,by omega⟩
 obtain⟨yn,rfl⟩: ∃yn:Nat,y=yn:=⟨y.toNat,by omega⟩
 obtain⟨ptr,e,s,p1,p2,p3,p4,p5⟩:=ht.log.IS (j:=kn) (by omega) (by omega)
 obtain⟨sa,sc,es⟩:=p4.isSlice;have hl:e.res.list.length≤1048577:=ht.lists e (List.mem_of_getElem? p3);obtain⟨H2,jt⟩: ∃t,t=H'.new ⟨aT e s,47,1,false⟩:=⟨_,rfl⟩;have st:=ah0 (e:=e) es H';rw[←jt] at st;have f2:Fr H' o H2 (o.up H'.length (-9)) []:=by rw[jt];exact(Fr.refl _ _ _).new _ _
 have yb:Cl H'.length (aT e s) 47 H2 (o.up H'.length (-9)):=by rw[jt];exact Cl.made
 have I0:=hz.fr f2 (by simp)
 have vV:=p4.fr f2 (by simp)
 have TE:=ht.fr f2 (by simp) (by simp)
 have wP:TL H2 (o.up H'.length (-9)) x L (211+j+1):=⟨TE.log,by omega,TE.lists⟩
 simp -implicitDefEqProofs only[p1,p2,afZ,st,Ng,sS,Nat.reduceAdd];refine Ev.call (kX _ 9 (by omega)) ?_
 rintro v Hq ⟨c,rfl,YZ,Uj,hHq⟩;rw[hHq]
 try simp -implicitDefEqProofs only[sS,Nat.reduceAdd]
 refine Ev.eql (λhq=>?_) (λhq=>?_)<;>try simp -implicitDefEqProofs only[sS,Nat.reduceAdd]
 ·have hwk:IntKind.i64.wrap ((kn:Int)+1)=((kn+1:Nat):Int):=by rw[jE (by omega)];omega
  obtain⟨y1,y2,H4,H5,H6,x4,x5,o6,qt,d1,d2,d3,d4,d5,d6,d7,d8,d9,lg,fz⟩:=Ug wP.log (kn:=kn) (by omega) (by omega)
  have X1:=YV H2;rw[←qt] at X1;simp -implicitDefEqProofs only[X1,d1,d2,d3,hwk,d4,d5,d6,d7,d8,d9,sS,Nat.reduceAdd];refine mw hj hk (I0.fr fz (by simp)) ⟨lg,by simp;omega,λz hz=>?_⟩ (yb.fr fz (by simp)) (vV.fr fz (by simp)) hl (by omega) ..
  rcases List.mem_append.1 hz with hz|hz
  ·exact wP.lists z (List.mem_of_mem_take hz)
  ·exact wP.lists z (List.mem_of_mem_drop hz)
 refine Ev.eql (λhq=>?_) (λhq=>?_)<;>try simp -implicitDefEqProofs only[sS,Nat.reduceAdd]
 ·obtain⟨pk,ek,sk,k1,k2,k3,k4,k5⟩:=wP.log.IS (j:=kn) (by omega) (by omega)
  obtain⟨py,ey,sy,y1,y2,y3,y4,y5⟩:=wP.log.IS (j:=yn) (by omega) (by omega)
  obtain⟨H4,k6,k7,k8⟩:=k5 ey sy y4;obtain⟨py',ey',sy',w1,w2,w3,w4,w5⟩:=k7.IS (j:=yn) (by simp;omega) (by omega)
  obtain⟨H5,w6,w7,w8⟩:=w5 ek sk (k4.fr k8 (by simp))
  have epy:py'=py:=by
   have a:=y1 [];have b:=w1 [];rw[a] at b;simpa using b.symm
  subst epy;have epk:pk=ptr:=by
   have a:=p1 [];have b:=k1 [];rw[a] at b;simpa using b.symm
  subst epk;have f5:=k8.tr w8;simp -implicitDefEqProofs only[y1,y2,k1,k2,k6,w6,sS,Nat.reduceAdd];refine mw hj hk (I0.fr f5 (by simp)) ⟨w7,by simpa using wP.len,λz hz=>?_⟩ (yb.fr f5 (by simp)) (vV.fr f5 (by simp)) hl (by omega) ..
  rcases List.mem_or_eq_of_mem_set hz with hz|rfl
  ·rcases List.mem_or_eq_of_mem_set hz with hz|rfl
   ·exact wP.lists z hz
   ·exact wP.lists _ (List.mem_of_getElem? y3)
  ·exact wP.lists _ (List.mem_of_getElem? k3)
 refine Ev.eql (λhq=>?_) (λhq=>?_)<;>try simp -implicitDefEqProofs only[sS,Nat.reduceAdd]
 ·have UC:=It yb.1;obtain⟨H4,qt⟩: ∃t,t=H2.new ⟨aT e s,47,13,false⟩:=⟨_,rfl⟩;have bs:=TZ e es H2;rw[←qt] at bs;have f4:Fr H2 (o.up H'.length (-9)) H4 ((o.up H'.length (-9)).up H2.length (-9)) []:=by rw[qt];exact(Fr.refl _ _ _).new _ _
  have g4:H4.get H2.length=some ⟨aT e s,47,13,false⟩:=by rw[qt];exact az
  obtain⟨x',H5,o5,ap,lg,f5⟩:=(wP.log.fr f4 (by simp) (by simp)).app (tE:=47) g4 (vV.fr f4 (by simp)) (by omega) (by omega)
  have f45:=f4.trans f5 (rs:=[-30]) (by simp) (λ_ h=>h)
  simp -implicitDefEqProofs only[UC,bs,ap,sS,Nat.reduceAdd];refine mw hj hk (I0.fr f45 (by simp)) ⟨lg,by simp;omega,λz hz=>?_⟩ (yb.fr f45 (by simp)) (vV.fr f45 (by simp)) hl (by omega) ..
  rcases List.mem_append.1 hz with hz|hz
  ·exact wP.lists z hz
  ·have:z=e:=by simpa using hz
   subst this;exact hl
 refine Ev.eql (λhq=>?_) (λhq=>?_)<;>try simp -implicitDefEqProofs only[sS,Nat.reduceAdd]
 ·obtain⟨b1,b2⟩:=af1 yb;obtain⟨H4,b3,Uh,f4⟩:=b2 (!e.res.found);simp -implicitDefEqProofs only[b1,b3,sS,Nat.reduceAdd];exact mw hj hk (I0.fr f4 (by simp)) (wP.fr f4 (by simp) (by simp)) Uh (vV.fr f4 (by simp)) hl (by omega) ..
 refine Ev.eql (λhq=>?_) (λhq=>?_)<;>try simp -implicitDefEqProofs only[sS,Nat.reduceAdd]
 ·obtain⟨b1,b2⟩:=af2 yb;obtain⟨H4,b3,Uh,f4⟩:=b2 (IntKind.i64.wrap (e.res.value+1));simp -implicitDefEqProofs only[b1,b3,sS,Nat.reduceAdd];exact mw hj hk (I0.fr f4 (by simp)) (wP.fr f4 (by simp) (by simp)) Uh (vV.fr f4 (by simp)) hl (by omega) ..
 refine Ev.eql (λhq=>?_) (λhq=>?_)<;>try simp -implicitDefEqProofs only[sS,Nat.reduceAdd]
 ·obtain⟨b1,b2⟩:=af3 yb;obtain⟨H4,b3,Uh,f4⟩:=b2 (IntKind.i64.wrap (e.no+1));simp -implicitDefEqProofs only[b1,b3,sS,Nat.reduceAdd];exact mw hj hk (I0.fr f4 (by simp)) (wP.fr f4 (by simp) (by simp)) Uh (vV.fr f4 (by simp)) hl (by omega) ..
 refine Ev.eql (λhq=>?_) (λhq=>?_)<;>try simp -implicitDefEqProofs only[sS,Nat.reduceAdd]
 ·obtain⟨b1,b2⟩:=af4 yb;obtain⟨H4,b3,Uh,f4⟩:=b2 (IntKind.i64.wrap (e.aV+1));simp -implicitDefEqProofs only[b1,b3,sS,Nat.reduceAdd];exact mw hj hk (I0.fr f4 (by simp)) (wP.fr f4 (by simp) (by simp)) Uh (vV.fr f4 (by simp)) hl (by omega) ..
 refine Ev.eql (λhq=>?_) (λhq=>?_)<;>try simp -implicitDefEqProofs only[sS,Nat.reduceAdd]
 ·obtain⟨b1,b2⟩:=af5 yb;obtain⟨H4,b3,Uh,f4⟩:=b2 (IntKind.i64.wrap (e.op.key+1));simp -implicitDefEqProofs only[b1,b3,sS,Nat.reduceAdd];exact mw hj hk (I0.fr f4 (by simp)) (wP.fr f4 (by simp) (by simp)) Uh (vV.fr f4 (by simp)) hl (by omega) ..
 simp -implicitDefEqProofs only[ah1,sS,Nat.reduceAdd];refine Ev.call (kX _ 11 (by omega)) ?_
 rintro v H3' ⟨u,rfl,_,_,rfl⟩;obtain⟨b1,b2⟩:=af6 yb;obtain⟨H4,b3,Uh,f4⟩:=b2 u;simp -implicitDefEqProofs only[b3,sS,Nat.reduceAdd];exact mw hj hk (I0.fr f4 (by simp)) (wP.fr f4 (by simp) (by simp)) Uh (vV.fr f4 (by simp)) hl (by omega) ..
theorem Ui (c:Int){xl xt:Value}{zl zt:List Int}(hl:gj H o (-1) xl zl)(hll:zl.length≤maxLen)(ht:gj H o (-1) xt zt):bN (run G) 5 [cv c,xl,xt] H λv H'=>∃o' L,TL H' o' v L 214:=by
 refine Ev.up (t:=λn=>F5 (run G n) n (cv c) xl xt H) ?_ λn=>aee ..
 simp -implicitDefEqProofs only[F5,sS,Nat.reduceAdd];refine Ev.call (XU c hl hll) ?_;rintro v H1 ⟨xp,mp,o1,th,L1,rfl,f1,h1,hI⟩;have wP:=ht.fr f1 (by simp)
 obtain⟨c0,c1,c2,inv,fy,mx,tb,cap,cs,Lx,rest,ty,nL,g,hox,_,_,_,_,hL⟩:=id h1;obtain⟨H2,jt⟩: ∃t,t=H1.new ⟨[],47,13,false⟩:=⟨_,rfl⟩;have b0:=YV H1;rw[←jt] at b0;have f2:Fr H1 o1 H2 (o1.up H1.length (-30)) []:=by rw[jt];exact(Fr.refl _ _ _).new _ _
 have emp:jD H2 (o1.up H1.length (-30)) (-30) (-41) (.slice (some ⟨H1.length,0,none⟩) 0 0) []:=by rw[jt];exact jD.empty ..
 have g2:H2.get xp=some ⟨[cv c0,cv c1,cv c2,pv mp,.slice (some ⟨tb,0,none⟩) 3 cap,Lx,cv inv,cv fy],ty,1,false⟩:=by rw[f2.same xp (aq g) (by simp)];exact g
 have L5:au (.pointer (some ⟨xp,5,none⟩)) H2=some Lx:=ak xp 5 H2 g2;obtain⟨a1,cc1,zs1,ey1,P9,el1,UP⟩:=(hL.fr f2 (by simp) (by simp)).jg.src
 have n1:L1.length=zs1.length:=by rw[el1,List.length_map]
 have hlen:=hI.len;rw[n1] at ey1 P9;obtain⟨x4,H4,o4,ap1,lg4,f4⟩:=emp.GB (tE:=47) ey1 P9 UP (by omega) (by simp;omega)
 have hzt:gj H4 o4 (-1) xt zt:=(wP.fr f2 (by simp)).fr f4 (by simp)
 have hTL:TL H4 o4 x4 L1 (211+0):=⟨by rw[el1];simpa using lg4,by omega,hI.lists⟩
 simp -implicitDefEqProofs only[b0,L5,ap1,sS,Nat.reduceAdd];refine Ev.loop (k:=3) (λkk vs Hx=>TI (cv c) xl xt (pv xp) zt kk vs Hx) (λr=>TR (cv c) xl xt (pv xp) r) ⟨0,o4,x4,L1,_,_,_,_,_,_,_,_,_,_,_,_,_,_,_,_,rfl,rfl,hzt,hTL⟩ ?_ ?_
 ·rintro kk vs Hx ⟨j,ox,x,L,x6,bW,aK,aU,gH,ic,lR,aP,pq,aR,vN,lL,jc,mT,oF,mU,rfl,hj,hz,hT⟩;exact ady hj hz hT ..
 ·rintro e vs Hx ⟨he,ox,x,L,x9,x6,bW,aK,aU,gH,ic,lR,aP,pq,aR,vN,lL,jc,mT,oF,mU,rfl,hT⟩;simp only at he;subst he;simp -implicitDefEqProofs only[Vu,Ka,sS,Nat.reduceAdd];exact Ev.ret ⟨ox,L,hT⟩
end
end Go.Proofs.YtjgmnoaalbbonaaGreat.Fun
end
section
namespace Go.Proofs.YtjgmnoaalbbonaaGreat.Fun
open Go Go.RowKit Go.Proofs.YtjgmnoaalbbonaaGreatA.Am
set_option maxRecDepth 10000
theorem Lm:(ks++wV Tryz.prog).contains 6=true:=by rw[Rk];rfl
theorem Ln (n:Nat)(H:ae):run KG (n+1) 6 [] H=some (.bool true,H):=by
 unfold run;simp only[fW,Lm,if_true];simp[EW]
theorem wT {H:ae}{o:an}(c:Int){xl xt:Value}{zl zt:List Int}(hl:gj H o (-1) xl zl)(hll:zl.length≤maxLen)(ht:gj H o (-1) xt zt): ∃n H',run KG n 3 [cv c,xl,xt] H=some (.bool true,H'):=by
 obtain⟨N,⟨v,H1⟩,h1,o1,L,hT⟩:=Ui (G:=KG) c hl hll ht;simp only at h1 hT;have t1:=h1 (N+5000000) (by omega)
 have hlen:=hT.len;obtain⟨H2,q2,y2⟩:=Lb (n:=N+4999978) (B:=1048577) hT.log.jg (by omega) hT.lists (by omega) (by omega)
 have hT2:=hT.fr (y2.fr o1 (-9)) (by simp) (by simp)
 obtain⟨H3,q3,y3⟩:=IB (G:=KG) (n:=N+4999990) (B:=1048577) hT2.log.jg (by omega) hT2.lists (by omega) (by omega)
 have kn:=Ln (N+4999999) H1;refine⟨N+5000000+1,H3,?_⟩;rw[aeI];simp -implicitDefEqProofs [F3,t1,kn,q2,q3,aF,ar]
end Go.Proofs.YtjgmnoaalbbonaaGreat.Fun
namespace Go.Proofs.YtjgmnoaalbbonaaGreat.Pure
open Go.RowKit Go.Proofs.YtjgmnoaalbbonaaGreatA.Am Fun
set_option maxRecDepth 10000
theorem wU:Ye Tryz.prog 3 [3,22,22]:=acr λH args hr hi=>by
 obtain⟨v0,_,rfl,h0,v1,_,rfl,h1,v2,_,rfl,h2,rfl⟩:=hi;obtain⟨c,rfl,_⟩:=h0.int uI;obtain⟨zl,UP,_,U1⟩:=h1.ints (show Tryz.prog.underlying 22=some (.slice 3) from by kernel_rfl) uI (by kernel_rfl)
 obtain⟨zt,I0,_,GG⟩:=h2.ints (show Tryz.prog.underlying 22=some (.slice 3) from by kernel_rfl) uI (by kernel_rfl)
 exact wT c UP U1 I0
end Go.Proofs.YtjgmnoaalbbonaaGreat.Pure
end
section
namespace Go.Proofs.YtjgmnoaalbbonaaGreat.vK
open Go.ChangeShapes Go.WideShapes Go.ChangeAt Go.RowKit Go.Proofs.YtjgmnoaalbbonaaGreatA.Am
theorem own:ownKnob Tryz.prog.godebug=none:=by kernel_rfl
set_option maxRecDepth 100000 in
theorem lifted (os:Os)(started:os.Started)(H:Type)(enc:TypeId×Value→H):
  ReturnsInHanded {} Tryz.checked os 3 .any (Rows.linearChecksSpec.pre6 enc Tryz.prog Tryz.f3 Rows.linearChecksRow.domain false) (Rows.linearChecksSpec.post enc Tryz.prog Tryz.f3 false true false false):=by
 refine returnsInHanded_of_change_sized (C:=Tryz.checked) own started (by kernel_rfl) Tryz.func3
  (ChangeSpec.witness6 (enc:=enc) (C:=Tryz.checked) false ⟨#[],#[.int .i64 0,.slice none 0 0,.slice none 0 0],[]⟩ 8 (by kernel_rfl) (by kernel_rfl) (by kernel_rfl) (by kernel_rfl)) ?_
 intro W base args ds gs before YW hW aiA Jc _;have qL: ∀(j:Nat) t v,Tryz.f3.params[j]? =some t→args[j]? =some v→Value.okWide Tryz.prog W .any base t v:=YW;have hW':=hW;obtain⟨p,q,hA0,hV,rfl,hfz,Qb⟩:=hW;have hA:DataW.TrodAll enc Tryz.prog W 0 (λ_=>true) true Tryz.f3.params.toList args.toList ds p:=hA0
 rw[Tryz.params3] at hA qL;obtain⟨rfl,rfl⟩:=trodVars_none hV;have dH: ∀x∈p,x.block<W.heap.size:=λx hx=>by simpa using hW'.lt x (by simpa using hx)
 have hw:=Ye.walk Pure.wU (by kernel_rfl) (vs:=args.toList) (λj t v e1 e2=>qL j t v (by simpa using e1) (by simpa using e2)) hA
 have hA2:=hA;obtain⟨_,vs0,d0,ds0,p0,q0,_,rfl,_,_,r0⟩:=trodAll_cons hA2;obtain⟨_,Hc,d1,ds1,p1,q1,rfl,rfl,rfl,_,r1⟩:=trodAll_cons r0;obtain⟨_,Y8,d2,ds2,p2,q2,rfl,rfl,rfl,_,r2⟩:=trodAll_cons r1;obtain⟨_,rfl,_⟩:=trodAll_nil r2;clear hA0 YW Jc;rw[Array.toArray_toList] at hw;refine hw.mono λe W' ⟨he,bel⟩=>?_
 subst he;exact⟨_,rfl,_,_,_,[],_,[],hW',trodAll_mk1 (shut_bool Tryz.underlying4 _),NO (by kernel_rfl) _ _ _ _ (by kernel_rfl) hA bel dH,rfl,bel.frame _,λh=>by cases h⟩
theorem U9:Rows.linearChecksRow.holds Tryz.pinned (OpenSpec.ofChange Rows.linearChecksSpec):=
 OpenClaim.holds_of_wide 3 Tryz.f3 rfl rfl rfl rfl rfl rfl rfl ⟨rfl,rfl,rfl,rfl,rfl⟩ rfl rfl rfl rfl rfl (by kernel_rfl) Tryz.func3 (by kernel_rfl)
  (of_decide_eq_true (by kernel_rfl)) (by unfold Func.isWrapper;first| (rw[if_pos (by decide +kernel)];kernel_rfl)| (rw[if_neg (by decide +kernel)];exact⟨rfl,rfl⟩))
  (λos started H enc _=>lifted os started H enc)
theorem proved:Rows.LinearChecksSaid:=U9
end Go.Proofs.YtjgmnoaalbbonaaGreat.vK
namespace Go.Proofs.YtjgmnoaalbbonaaGreat
theorem linearChecks_holds:Rows.LinearChecksSaid:=vK.proved
end Go.Proofs.YtjgmnoaalbbonaaGreat
end
