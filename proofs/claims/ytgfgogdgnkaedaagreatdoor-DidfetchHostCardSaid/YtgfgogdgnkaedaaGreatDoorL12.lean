import Derived.Test.YtgfgogdgnkaedaaGreatDoorL8
import Derived.Test.YtgfgogdgnkaedaaGreatDoorL9
import Derived.Test.YtgfgogdgnkaedaaGreatDoorL10
import Derived.Test.YtgfgogdgnkaedaaGreatDoorL11
set_option linter.unusedVariables false
set_option linter.unusedSimpArgs false
set_option maxRecDepth 100000
namespace Go.VM
section
theorem AuX:(ASd.all fun t=>match Ke 1099511627776 t with|some y=>if(y.1.kind==4)=true then Ai4.contains t else true|none=>false)=true:=by kernel_rfl
theorem idC (p:Nat) (hp:p<3) (t:List UInt8) (h:t∈Ai4):AkV p t=true:=by
 obtain⟨i,hi,e⟩:=List.mem_iff_getElem.1 h;have hl:Ai4.length=16:=fh;have hc: ∀k,k<16→F9 p k=true:=by
  have h0: ∀k,k<16→F9 0 k=true:=by intro k hk;match k,hk with |0,_=>exact Aqn|1,_=>exact Api|2,_=>exact Ars|3,_=>exact Aqe|4,_=>exact ArN|5,_=>exact ArW|6,_=>exact AqJ|7,_=>exact Ao0|8,_=>exact ApN|9,_=>exact Ar6|10,_=>exact Alu|11,_=>exact AnH|12,_=>exact Akr|13,_=>exact Alf|14,_=>exact Akg|15,_=>exact Anf|q+16,hq=>exact absurd hq ff
  have h1: ∀k,k<16→F9 1 k=true:=by intro k hk;match k,hk with |0,_=>exact ApJ|1,_=>exact Aq0|2,_=>exact Ap9|3,_=>exact Ap2|4,_=>exact ApR|5,_=>exact Arq|6,_=>exact ArI|7,_=>exact ArE|8,_=>exact AqR|9,_=>exact Ao7|10,_=>exact AkS|11,_=>exact Ak3|12,_=>exact AnJ|13,_=>exact Amm|14,_=>exact Amk|15,_=>exact AkN|q+16,hq=>exact absurd hq ff
  have h2: ∀k,k<16→F9 2 k=true:=by intro k hk;match k,hk with |0,_=>exact ArM|1,_=>exact Ar2|2,_=>exact AqI|3,_=>exact ApI|4,_=>exact Arm|5,_=>exact AqX|6,_=>exact Arn|7,_=>exact Aq6|8,_=>exact ArK|9,_=>exact Ari|10,_=>exact AnE|11,_=>exact Ala|12,_=>exact Anp|13,_=>exact Al9|14,_=>exact Ant|15,_=>exact Am9|q+16,hq=>exact absurd hq ff
  rcases (by omega:p=0∨p=1∨p=2)with rfl|rfl|rfl;·exact h0
  ·exact h1
  ·exact h2
 have:=hc i ff;unfold F9 at this;rw[aK hi]at this;rw[←e];exact this
theorem Aoh{t:List UInt8} (h:t∈Ai4){y:ApiID×Int} (hy:Ke 1099511627776 t=some y): ∃x,DK 1099511627776 y.1.text=some x∧IdOk 1099511627776 y.1 x.1:=by
 have h0:=idC 0 ff t h;unfold AkV at h0;rw[hy]at h0;simp only at h0;split at h0;·rename_i x hx;refine⟨x,hx,Amq fun p hp=>?_⟩;have h1:=idC p hp t h;unfold AkV at h1;rw[hy]at h1;simp only at h1;rw[hx]at h1;exact h1
 ·cases h0
theorem ACt (k5:MadeDice→Option (ApiID×ApiDID)) (hk: ∀d,Ok (k5 d) fun y=>IdOk 1099511627776 y.1 y.2): ∀(k:Nat) (d:MadeDice),FU d→Ok (Cn 1099511627776 k5 k d) fun y=>IdOk 1099511627776 y.1 y.2
 |0,d,_=>by rw[Cn];exact hk d
 | k+1,d,h1=>by
  rw[Cn];refine .bind (Aqt h1) fun t ⟨ht,hd⟩=>?_;have hc:=aR.1 AuX t.1 ht;split at hc;·rename_i y hy;rw[hy,aa];refine .ite (fun h4=>?_) fun _=>ACt k5 hk k _ hd;rw[ap h4,eT]at hc;obtain⟨x,hx,hI⟩:=Aoh hc hy;rw[hx,aa];exact .ret hI
  ·cases hc
theorem Aum{l:List Int} (h: ∀a,a∈l→0≤a∧a≤255):Ok (Iz 1099511627776 l) fun y=>IdOk 1099511627776 y.1 y.2:=by
 unfold Iz;refine .bind (Asb l h) fun d hd=>?_;rw[AB,AR fh];refine ACt _ (fun _=>.ret ?_) _ d hd;have hp:Ke 1099511627776 [100,105,100,58,119,101,98,58,97,46,101,120,97,109,112,108,101]=some (ApiID.mk 4 ([100,105,100,58,119,101,98,58,97,46,101,120,97,109,112,108,101]:List UInt8) ([97,46,101,120,97,109,112,108,101]:List UInt8) 0,0):=by kernel_rfl
 obtain⟨x,hx,hI⟩:=Aoh fh hp;have hq:DK 1099511627776 [100,105,100,58,119,101,98,58,97,46,101,120,97,109,112,108,101]=some (ApiDID.mk ([119,101,98]:List UInt8) ([97,46,101,120,97,109,112,108,101]:List UInt8),0):=by kernel_rfl
 simp only at hx;rw[hq]at hx;cases hx;exact hI
theorem ApM:Qt 1099511627776=some true:=by kernel_rfl
theorem Apa:Jg 1099511627776 [ASA] [(ApiID.mk 1 ([97,99,99,116,58,98,111,98,64,98,46,101,120,97,109,112,108,101]:List UInt8) ([98,46,101,120,97,109,112,108,101]:List UInt8) 0)]=some true:=by kernel_rfl
theorem Vu (a0:List Int) (o0:a0.length≤reachBytes∧∀a,a∈a0→(Lit.int .u8 a).wf=true) (a1:List Int) (o1:a1.length≤reachBytes∧∀a,a∈a1→(Lit.int .u8 a).wf=true) (a2:Int) (o2:(Lit.int .u64 a2).wf=true):Hf 1099511627776 a0 a1 a2=some true:=by
 obtain⟨y,e3,hI⟩:=Aum fun a ha=>wf_u8 (o0.2 a ha);obtain⟨d,e5,hd⟩:=Asb (N:=1099511627776) a1 fun a ha=>wf_u8 (o1.2 a ha);have hI':=hI;obtain⟨hk,hlen,hval,x,x',u,ud,q1,q2,q3,q4,q5,q6,q7,q8,q9,q10,qH,qA,qB⟩:=hI';obtain⟨w,e9,⟨l1,l2⟩,_⟩:=Ar4 AnK ff hk (names:=nmD y.1) qH qA qB (fun b=>ACa) hlen q1 q3 q7 hd;obtain⟨f,e,u',f1,f2,f3,f4,f5,f6,f7⟩:=AZM hI l1 (fun z hz=>by rw[q2]at hz;cases hz;exact l2) a2;obtain⟨ex,tr,htr⟩: ∃ex tr,f.trace=ex::tr:=by cases ht:f.trace with |nil=>exact absurd ht f3|cons a b=>exact⟨a,b,rfl⟩
 have hx:ex.uRL=u'.1:=f5 ex (by rw[htr];rfl);unfold Hf;have e9':NW 1099511627776 d y.1 [([97,99,99,116,58,98,111,98,64,98,46,101,120,97,109,112,108,101]:List UInt8),y.1.text]=some w:=e9;simp only[ApM,e3,e5,e9',f1,f2,aa,aB,letL,AB];have t0:((f.trace.length:Int)==0)=false:=by rw[htr];simp only[ag,bc];omega
 have t1:idx f.trace 0=some ex:=by rw[htr];rfl
 have t2:decide ((f.trace.length:Int)>6)=false:=aN ff;simp only[t0,t1,aa,al,aC,hx,cK,cd,aB];unfold Kn Li;simp only[aa,f6.1,f6.2,cK,cd,aB,t2,al,aC];rcases f7 with⟨g1,g2⟩|⟨g1,g2,g3⟩
 ·have:(e !=0)=true:=by simpa using g1
  simp only[this,aB,g2,an];rfl
 ·subst g1;simp only[(by decide:((0:Int) !=0)=false),al,aC,(by decide:((0:Int)==0)=true),aB,g2,cK,cd,g3,Apa,aa]
end
end Go.VM
