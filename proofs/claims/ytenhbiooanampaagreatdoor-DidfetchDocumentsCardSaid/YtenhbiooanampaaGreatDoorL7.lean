import Derived.Test.YtenhbiooanampaaGreatDoorL6
set_option linter.defProp false
set_option linter.unusedVariables false
set_option linter.unusedSimpArgs false
namespace Go.VM
section
variable{N:Nat}
def TQ:B8:=[104,116,116,112,115]
def AQo:SA TQ:=by unfold SA;decide
def AD3 (u:ApiURL):B8:=[47,47]++(hpF u.host u.port++(Lm u++if u.hasFrag=true then [35]++u.fragment else []))
def AHy (u:ApiURL):Im u=TQ++58::AD3 u:=by unfold Im AD3 TQ;split<;>simp
def eqU (u v:ApiURL):Bool:=u.host==v.host&&(u.port==v.port&&(u.path==v.path&&(u.query==v.query&&(u.fragment==v.fragment&&(u.hasQuery==v.hasQuery&&u.hasFrag==v.hasFrag)))))
def Av7{u v:ApiURL} (h:eqU u v=true):u=v:=by unfold eqU at h;simp only[aw,bf]at h;cases u;simp_all
def Lb (N:Nat) (u:ApiURL):Bool:=if((AUM N TQ (AD3 u)).2==0)=true then eqU u (AUM N TQ (AD3 u)).1 else false
def M5 (u:ApiURL) (h:Vl u) (hb:(Im u).length<=1000000) (hN:20000<=N):I5 N u=some (Lb N u):=by rw[AHy]at hb;unfold I5 Lb;rw[Xl u h fH,aa,AHy,AqE AQo hb hN,aa];split<;>rfl
def PX (u:ApiURL) (h:Vl u) (hb:(Im u).length<=1000000) (hN:20000<=N):Jy N u=some (Lb N u):=by rw[AHy]at hb;unfold Jy Lb;rw[SI u h fH,aa,AHy,Aqe AQo hb hN,aa];split<;>rfl
def Rt (c:UInt8):Bool:=c==37||FY c
def Vi (N:Nat) (x:B8):Bool:=!(x.all Rt)||(Ao N x).1==[]
def Ns (N:Nat) (x:B8):B8:=58::(Ao N x).1.flatMap IX
def ZG (k:Int->Option (B8×DidwebMapper)): ∀(l:B8) (e:Int),Cu N k l e=k (if l.all Rt=true then e else 110)
 |[],e=>by rw[Cu];rfl
 |c::l,e=>by
  rw[Cu];dsimp only[AB];rw[AA0,aa,ZG k l,ZG k l,aQ];have h37:(AJ c !=37)=!(c==37):=by unfold bne;rw[TR];rfl
  rw[h37];unfold Rt;cases (c==37)<;>cases FY c<;>cases l.all (λc=>c==37||FY c)<;>rfl
def Ac3 (l:B8):(l.flatMap (P8 [])).flatMap (AAf [37,55,69] 126)=l.flatMap IX:=by rw[List.flatMap_assoc];congr 1;funext b;exact Anm b
def As8 (e:Int) (x:B8) (hb:x.length<=100000) (hN:20000<=N):IY N ⟨e⟩ x=some (Ns N x,⟨if Vi N x=true then 110 else e⟩):=by
 have hd:=NA (N:=N) x;have he:=YF [] (Ao N x).1;have hf:=Si (f:=IX) (n:=3) (λb=>(Og b).1) (Ao N x).1;have hg: ∀v:Option (B8×DidwebMapper),grd (AL (([58]:B8).length+((Ao N x).1.flatMap IX).length)) v=v:=λv=>A9 (by simp only[ae,ap];omega);unfold IY Vi Ns;dsimp only[AB];rw[A9 fH,ZG,Ta _ hN,aa,ACl _ _ fH];simp only[aa];rw[Re _ _ _ rfl fH,Ac3];simp only[aa,hg];by_cases h:((Ao N x).2 !=0)=true;·rw[an h,APv hN h];cases x.all Rt<;>rfl
 ·rw[aj h];cases ((Ao N x).1==[])<;>cases x.all Rt<;>rfl
def Yn (x:B8):(Ns N x).length<=3 * x.length+1:=by have hd:=NA (N:=N) x;have hf:=Si (f:=IX) (n:=3) (λb=>(Og b).1) (Ao N x).1;grind[Ns]
def Yr: ∀xs:List B8,(xs.flatMap (Ns N)).length<=3 * wS xs|[]=>by simp|x::xs=>by have:=Yn (N:=N) x;have:=Yr xs;rw[aR,ah,Ra];omega
def Uv (hN:20000<=N) (k:Bool×B8×DidwebMapper->Option (B8×DidwebMapper)): ∀(xs:List B8) (d:Bool) (b:B8) (e:Int),b.length+3 * wS xs<=300000->Ar N k xs d b ⟨e⟩=k (d||!xs.isEmpty,b++xs.flatMap (Ns N),⟨if xs.any (Vi N)=true then 110 else e⟩)|[],d,b,e,_=>by rw[Ar];simp|x::xs,d,b,e,h=>by have hu:=Yn (N:=N) x;rw[Ra]at h;rw[Ar,As8 _ _ fH hN,aa];dsimp only;rw[QC _ _ _ fH,aa];dsimp only;rw[Uv hN k xs _ _ _ (by rw[ah];omega),aR,bT,aH];cases Vi N x<;>cases xs.any (Vi N)<;>simp
def AOQ (xs:List B8) (e:Int) (h:wS xs<=100000) (hN:20000<=N):CK N xs ⟨e⟩=some (xs.flatMap (Ns N),⟨if xs.any (Vi N)=true then 110 else e⟩):=by
 unfold CK;dsimp only[AB];have:xs.length<=wS xs:=by unfold wS;omega
 rw[A9 fH,Uv hN _ _ _ _ _ fK];rfl
def ACr:B8:=[100,105,100,46,106,115,111,110]
def idA (h:B8) (p:Int):B8:=if p=0 then h else h++([37,51,65]++fmtS p.toNat)
def AZS (h:B8) (p:Int):(idA h p).length<=h.length+23:=by grind[SV,idA,List.length_append,List.length_cons,List.length_nil]
def Um (N:Nat) (h:B8) (p:Int) (path:B8) (L:List B8):ApiDID×Int:=if(L.getLast?==some ACr)=false then(O8,6)else if L.length=1 then(O8,110)else if path=QH then(if(HV ⟨Kq,idA h p⟩).length>4096 then(O8,5)else(⟨Kq,idA h p⟩,0))else if L.dropLast.any (Vi N)=true then(O8,110)else if(HV ⟨Kq,idA h p++L.dropLast.flatMap (Ns N)⟩).length>4096 then(O8,5)else(⟨Kq,idA h p++L.dropLast.flatMap (Ns N)⟩,0)
def Yb (N:Nat) (u:ApiURL):ApiDID×Int:=if Lb N u=true then Um N u.host u.port u.path ((AV 47 u.path).drop 1)else(O8,8)
def AzW{β:Type} (h:B8) (p:Int) (hp:RI p) (hb:h.length<=1000000) (hN:20<=N) (k:B8->Option β):(if(p !=0)=true then(FT N (wr .u64 p)).bind λy15=>grd (AL (([37,51,65]:B8).length+y15.length)) (grd (AL (h.length+(([37,51,65]:B8)++y15).length)) (k (h++(([37,51,65]:B8)++y15))))else k h)=k (idA h p):=by
 have hl:=SV p.toNat;obtain⟨h1,h2⟩:=hp;unfold idA;by_cases h0:p=0;·grind
 ·rw[an (by grind),aj h0];have e:wr .u64 p=((p.toNat:Nat):Int):=by rw[FV fH];omega
  simp only[e];rw[ABQ p.toNat fH hN,aa,A9 (by simp only[ah,ae,ap];omega),A9 (by simp only[ah,ae,ap];omega)]
def Az3{β:Type} (h:B8) (p:Int) (hp:RI p) (hb:h.length<=1000000) (hN:20<=N) (k:B8->Option β):(if(p !=0)=true then(Bi N p).bind λy15=>grd (AL (([37,51,65]:B8).length+y15.length)) (grd (AL (h.length+(([37,51,65]:B8)++y15).length)) (k (h++(([37,51,65]:B8)++y15))))else k h)=k (idA h p):=by
 have hl:=SV p.toNat;obtain⟨h1,h2⟩:=hp;unfold idA Bi;by_cases h0:p=0;·grind
 ·rw[an (by grind),aj h0,aj (by grind)];have e:wr .u64 p=((p.toNat:Nat):Int):=by rw[FV fH];omega
  simp only[e];rw[ABv p.toNat fH hN,aa,aa,A9 (by simp only[ah,ae,ap];omega),A9 (by simp only[ah,ae,ap];omega)]
def AFJ{l:List B8} (hne:l≠ []) (hb:l.length<=1000000): ∃y,l.getLast?=some y/\idx l (wr .i64 ((l.length:Int)-1))=some y:=⟨l.getLast hne,cc hne,AEs hne hb⟩
def ASe{l:List B8} (hne:l≠ []) (hb:l.length<=1000000):sub l 0 (wr .i64 ((l.length:Int)-1))=some l.dropLast:=by have:0<l.length:=bR.2 hne;rw[show wr .i64 ((l.length:Int)-1)=((l.length-1:Nat):Int) by grind[Ai],show(0:Int)=((0:Nat):Int)from rfl,A8 l 0 (l.length-1) fH fH,aO,bB,List.dropLast_eq_take]
def Ug: ∀xs:List B8,wS xs.dropLast<=wS xs|[]=>av _|[x]=>by simp[wS]|x::y::xs=>by have:=Ug (y::xs);grind[List.dropLast_cons_cons,Ra]
theorem Ak7 (h:B8) (p:Int) (path:B8) (hu:Vl (GM h p path)) (hh:h.length<=1000) (hp:path.length<=5000) (hL:(AV 47 path).drop 1≠ []) (hN:20000<=N):Ls N (GM h p path)=some (Yb N (GM h p path)):=by
 have hpt:=hu.1;have hF:(Im (GM h p path)).length<=1000000:=by have:=YT h p;have ht:Lm (GM h p path)=path:=rfl;have he:Im (GM h p path)=([104,116,116,112,115,58,47,47]++hpF h p)++path:=rfl;rw[he];simp only[ah,ae,ap];omega
 have hw:=U3 47 path;have hw1:=YJ (AV 47 path);have hsl:=IZ 47 path;have hne:=Fg 47 path;unfold Ls Yb;rw[M5 _ hu hF hN,aa];by_cases hv:Lb N (GM h p path)=true;rotate_left;·rw[aj hv,aj hv];rfl
 rw[an hv,an hv];change Option.bind (strings_Split N path [47]) _=some (Um N h p path ((AV 47 path).drop 1));rw[U7 _ 47 fH,aa,AZU hne fH];rw[aa];generalize (AV 47 path).drop 1=L at *;have hLl:L.length<=wS L:=by unfold wS;omega
 obtain⟨y,hy1,hy2⟩:=AFJ hL fH;dsimp only[AB];change Option.bind (idx L (wr .i64 ((L.length:Int)-1))) (λx10=>if(!(x10==ACr))=true then some (O8,(6:Int))else _)=_;rw[hy2,aa];unfold Um;rw[hy1];by_cases hd:y=ACr;rotate_left;·rw[an (by simpa using hd),an (by simpa using hd)]
 rw[aj (show¬(!(y==ACr))=true by simp[hd]),aj (show¬(some y==some ACr)=false by simp[hd])];by_cases h1:L.length=1;·rw[an (show((L.length:Int)==1)=true by simp[h1]),an h1];rfl
 rw[aj (show¬((L.length:Int)==1)=true by simp;omega),aj h1];have hid:=AZS h p;have hdl:=Yr (N:=N) L.dropLast;have hwl:=Ug L;have fin: ∀I:B8,I.length<=100000->((Cn N (ApiDID.mk ([119,101,98]:B8) I)).bind λy24=>if(decide ((y24.length:Int)>4096))=true then(some ((ApiDID.mk [] []),5):Option (ApiDID×Int))else some ((ApiDID.mk ([119,101,98]:B8) I),0))=some (if(HV ⟨Kq,I⟩).length>4096 then(O8,5)else(⟨Kq,I⟩,0)):=by
  intro I hI;rw[YO _ ⟨fI,by dsimp only;omega⟩,aa];change (if decide (((HV ⟨Kq,I⟩).length:Int)>4096)=true then _ else _)=_;split;·rename_i AX;rw[an (by simp only[au]at AX;omega)];rfl
  ·rename_i AX;rw[aj (by simp only[au]at AX;omega)];rfl
 refine(AzW (N:=N) h p hpt fH fH (λJ=>if(path==QH)=true then((Cn N (ApiDID.mk ([119,101,98]:B8) J)).bind λy24=>if(decide ((y24.length:Int)>4096))=true then some ((ApiDID.mk [] []),5)else some ((ApiDID.mk ([119,101,98]:B8) J),0))else(sub L 0 (wr .i64 ((L.length:Int)-1))).bind λx21=>(CK N x21 (DidwebMapper.mk 0)).bind λy22=>grd (AL (J.length+y22.1.length)) (if(y22.2.e !=0)=true then some ((ApiDID.mk [] []),y22.2.e)else((Cn N (ApiDID.mk ([119,101,98]:B8) (J++y22.1))).bind λy24=>if(decide ((y24.length:Int)>4096))=true then some ((ApiDID.mk [] []),5)else some ((ApiDID.mk ([119,101,98]:B8) (J++y22.1)),0))))).trans ?_;change (if(path==QH)=true then _ else _)=_;by_cases hr:path=QH;·rw[an (by simpa using hr),an hr];exact fin (idA h p) fH
 rw[aj (by simpa using hr),aj hr,ASe hL fH,aa,AOQ _ _ fH hN,aa,A9 (by dsimp only;omega)];by_cases hb:L.dropLast.any (Vi N)=true;·rw[an hb,an hb];rfl
 ·rw[aj hb,aj hb];dsimp only;rw[aj fJ];exact fin _ (by rw[ah];omega)
def ATu (b r:B8):B8:=match QJ b b.length with|some i=>b.take (i+1)++r|none=>r
def Xf (a b:ApiURI):B8:=if(a.hasAuthority&&(a.path==[]))=true then 47::b.path else ATu a.path b.path
theorem Anp (b r:B8):(ATu b r).length<=b.length+r.length:=by grind[ATu]
def ACd (a b:ApiURI):(Xf a b).length<=a.path.length+b.path.length+1:=by grind[Xf,Anp]
def Ac7 (a b:ApiURI) (ha:a.path.length<=100000) (hb:b.path.length<=100000) (hN:1000000<=N):Sb N a b=some (if preB [47] b.path=true then b.path else Xf a b):=by
 unfold Sb Xf;rw[VU,aa];by_cases h:preB [47] b.path=true;·grind
 rw[aj h,aj h];refine(Je (a:=a.hasAuthority&&(a.path==[])) λk=>by cases a.hasAuthority<;>rfl).trans ?_;by_cases h2:(a.hasAuthority&&(a.path==[]))=true;·rw[an h2,an h2,A9 (by grind)];rfl
 rw[aj h2,aj h2,AEz _ fH fH,aa];unfold ATu;cases h3:QJ a.path a.path.length with|none=>dsimp only;rw[show sub a.path 0 (wr .i64 ((-1:Int)+1))=some []from by rw[show wr .i64 ((-1:Int)+1)=((0:Nat):Int)from rfl,show(0:Int)=((0:Nat):Int)from rfl,A8 _ 0 0 (av _) (aK _)];simp,aa,A9 (by grind)];rfl|some i=>have:=Xz h3;dsimp only;rw[show wr .i64 ((i:Int)+1)=((i+1:Nat):Int) by grind[Ai],show(0:Int)=((0:Nat):Int)from rfl,A8 _ 0 _ (aK _) fH,aa,aO,bB,A9 (by grind)]
def Zg{a b:ApiURI} (ha:a.path.length<=100000) (hb:b.path.length<=100000): ∀(n k:Nat),n<=a.path.length->n<k->F8 N a b (λ_=>some b.path) k ((n:Int)-1)=some (match QJ a.path n with|some i=>a.path.take (i+1)++b.path|none=>b.path)
 |n,0,_,h=>by omega
 |0,k+1,_,_=>by rw[F8,aj fJ];rfl
 |n+1,k+1,hn,hk=>by
  rw[F8,an fI,show((n+1:Nat):Int)-1=(n:Int) by omega,Ea,aS fH,aa,b47,QJ,aS fH];by_cases h:a.path[n]=47;·rw[aE h,an rfl,an (by rw[h]),show wr .i64 ((n:Int)+1)=((n+1:Nat):Int) by grind[Ai],show(0:Int)=((0:Nat):Int)from rfl,A8 _ 0 _ (aK _) fH,aa,aO,bB,A9 (by grind)]
  ·rw[aJ h,aj fJ,aj (by grind),Ai fH];exact Zg ha hb n k fH fH
def AXv (a b:ApiURI) (ha:a.path.length<=100000) (hb:b.path.length<=100000) (hN:1000000<=N):OJ N a b=some (Xf a b):=by
 unfold OJ Xf ATu;refine(Je (a:=a.hasAuthority&&(a.path==[])) λk=>by cases a.hasAuthority<;>rfl).trans ?_;by_cases h2:(a.hasAuthority&&(a.path==[]))=true;·rw[an h2,an h2,A9 (by grind)];rfl
 rw[aj h2,aj h2,AB,Ai fH,Zg ha hb a.path.length N (av _) fH]
def ADQ (N:Nat) (a b:ApiURI):ApiURI:=if b.hasScheme=true then⟨b.scheme,b.authority,Kn N b.path [],b.query,b.fragment,b.hasScheme,b.hasAuthority,b.hasQuery,b.hasFrag⟩else if b.hasAuthority=true then⟨a.scheme,b.authority,Kn N b.path [],b.query,b.fragment,a.hasScheme,b.hasAuthority,b.hasQuery,b.hasFrag⟩else if(b.path==[])=true then if b.hasQuery=true then⟨a.scheme,a.authority,a.path,b.query,b.fragment,a.hasScheme,a.hasAuthority,b.hasQuery,b.hasFrag⟩else⟨a.scheme,a.authority,a.path,a.query,b.fragment,a.hasScheme,a.hasAuthority,a.hasQuery,b.hasFrag⟩else⟨a.scheme,a.authority,Kn N (if preB [47] b.path=true then b.path else Xf a b) [],b.query,b.fragment,a.hasScheme,a.hasAuthority,b.hasQuery,b.hasFrag⟩
def AtL (a b:ApiURI) (h:a.path.length+b.path.length<=36000) (hN:1000000<=N):Pf N a b=some (ADQ N a b):=by
 unfold Pf ADQ;have ml:=ACd a b;dsimp only[AB];cases h1:b.hasScheme;rotate_left;·rw[an rfl,an rfl,AA8 _ fH fH,aa]
 simp only[aq,az];cases h2:b.hasAuthority;rotate_left;·simp only[aB];rw[AA8 _ fH fH,aa]
 simp only[aq,az];by_cases h3:(b.path==[])=true;·simp only[h3,aB];cases b.hasQuery<;>rfl
 simp only[aj h3];rw[Ac7 a b fH fH hN,aa,AA8 _ fH (by split<;>omega),aa]
def AxM{c:UInt8}{t:B8}:preB [47] (c::t)=(c==47):=by grind[preB]
def Aqo (a b:ApiURI) (h:a.path.length+b.path.length<=36000) (hN:1000000<=N):Mj N a b=some (ADQ N a b):=by
 unfold Mj ADQ;have ml:=ACd a b;dsimp only[AB];cases h1:b.hasScheme;rotate_left;·rw[an rfl,an rfl,YE _ fH fH,aa]
 simp only[aq,az];cases h2:b.hasAuthority;rotate_left;·simp only[aB];rw[YE _ fH fH,aa]
 simp only[aq,az];by_cases h3:(b.path==[])=true;·simp only[h3,aB];cases b.hasQuery<;>rfl
 simp only[aj h3];rw[AXv a b fH fH hN,aa,YE _ fH fH,aa];cases hp:b.path with
 |nil=>simp_all
 |cons c t=>
  rw[show idx (c::t) 0=some c from rfl,aa,b47,AxM];by_cases h4:c=47;·rw[aE h4,an rfl,an (by grind),YE _ fH (by grind),aa]
  simp_all
def AV9 (u:ApiURI):B8:=(((((if u.hasScheme=true then u.scheme++[58]else [])++(if u.hasAuthority=true then [47,47]++u.authority else []))++u.path)++(if u.hasQuery=true then [63]++u.query else []))++(if u.hasFrag=true then [35]++u.fragment else []))
def uB (u:ApiURI) (n:Nat):Prop:=u.scheme.length<=n/\u.authority.length<=n/\u.path.length<=n/\u.query.length<=n/\u.fragment.length<=n
def YZ (f:Bool) (x y:B8) (d:Bool) (b:B8) (h:b.length+x.length+y.length<=1000000000): ∃d',Ic N f [x,y] ⟨d,b⟩=some ⟨d',b++(if f=true then x++y else [])⟩:=by
 unfold Ic;rw[A9 fI];cases f;·refine⟨d,?_⟩;simp only[Hw,AB,aq,az,bo]
 ·refine⟨true,?_⟩;simp only[Hw,AB,aB];rw[QC _ _ _ fH,aa,QC _ _ _ (by rw[ah];omega),aa,aH]
def Aci (x:B8) (d:Bool) (b:B8) (h:b.length+x.length<=1000000000):Ic N true [x] ⟨d,b⟩=some ⟨true,b++x⟩:=by unfold Ic;rw[A9 fI];simp only[Hw,AB,aB];rw[QC _ _ _ fH,aa]
def AKt (u:ApiURI) (h:uB u 1000000):Uo N u=some (AV9 u):=by
 obtain⟨h1,h2,h3,h4,h5⟩:=h;unfold Uo letL AV9;dsimp only;obtain⟨d1,e1⟩:=YZ (N:=N) u.hasScheme u.scheme [58] false [] (by grind);rw[e1,aa,bm];generalize hA:(if u.hasScheme=true then u.scheme++[58]else [])=A;have lA:A.length<=1000001:=by grind
 obtain⟨d2,e2⟩:=YZ (N:=N) u.hasAuthority [47,47] u.authority d1 A (by grind);rw[e2,aa];generalize hB:(if u.hasAuthority=true then [47,47]++u.authority else [])=B;have lB:B.length<=1000002:=by grind
 rw[Aci _ _ _ (by grind),aa];obtain⟨d3,e3⟩:=YZ (N:=N) u.hasQuery [63] u.query true ((A++B)++u.path) (by grind);rw[e3,aa];generalize hC:(if u.hasQuery=true then [63]++u.query else [])=C;have lC:C.length<=1000001:=by grind
 obtain⟨d4,e4⟩:=YZ (N:=N) u.hasFrag [35] u.fragment d3 (((A++B)++u.path)++C) (by grind);rw[e4,aa];rfl
def Ahz (u:ApiURI) (h:uB u 1000000):Qk N u=some (AV9 u):=by
 obtain⟨h1,h2,h3,h4,h5⟩:=h;unfold Qk AV9;generalize hA:(if u.hasScheme=true then u.scheme++[58]else [])=A;have lA:A.length<=1000001:=by grind
 refine(Je (a:=A) λk=>?_).trans ?_;·grind[A9]
 generalize hB:(if u.hasAuthority=true then [47,47]++u.authority else [])=B;have lB:B.length<=1000002:=by grind
 refine(Je (a:=A++B) λk=>?_).trans ?_
 ·rw[<-hB];split;·rw[A9 fK,A9 fK]
  ·rw[bo]
 rw[A9 (by grind)];generalize hC:(if u.hasQuery=true then [63]++u.query else [])=C;have lC:C.length<=1000001:=by grind
 refine(Je (a:=((A++B)++u.path)++C) λk=>?_).trans ?_
 ·rw[<-hC];split;·rw[A9 fK,A9 (by simp only[ah,ae,ap];omega)]
  ·rw[bo]
 refine(Je (a:=(((A++B)++u.path)++C)++(if u.hasFrag=true then [35]++u.fragment else [])) λk=>?_).trans rfl;split;·rw[A9 fK,A9 (by simp only[ah,ae,ap];omega)]
 ·rw[bo]
def AaV{u:ApiURI}{n:Nat} (h:uB u n):(AV9 u).length<=5 * n+6:=by obtain⟨h1,h2,h3,h4,h5⟩:=h;unfold AV9;simp only[ah];grind
def Aaf{a b:ApiURI}{n:Nat} (ha:uB a n) (hb:uB b n):uB (ADQ N a b) (2 * n+1):=by
 obtain⟨a1,a2,a3,a4,a5⟩:=ha;obtain⟨b1,b2,b3,b4,b5⟩:=hb;have ml:=ACd a b;have d1:=OA N b.path [];have d2:=OA N (if preB [47] b.path=true then b.path else Xf a b) [];have d3:(if preB [47] b.path=true then b.path else Xf a b).length<=2 * n+1:=by split<;>omega
 grind[ADQ,uB]
def AMN (N:Nat) (a:ApiURL) (r:B8):ApiURL×Int:=if Lb N a=true then if((NR r).2 !=0)=true then(Mf,(NR r).2)else if((ADQ N (NR (Im a)).1 (NR r).1).scheme.map FP==List.map FP [104,116,116,112,115])=true then ADG N (AV9 (ADQ N (NR (Im a)).1 (NR r).1))else(Mf,253)else(Mf,8)
def AJx{s:B8}{n:Nat} (h:s.length<=n):uB (NR s).1 n:=by obtain⟨l1,l2,l3,l4,l5⟩:=Rf s;exact⟨fH,fH,fH,fH,fH⟩
def ArS (a:ApiURL) (r:B8) (h:Vl a) (hw:(Im a).length<=5000) (hr:r.length<=20000) (hN:1000000<=N):KT N a r=some (AMN N a r):=by
 unfold KT AMN;rw[M5 a h fH fH,aa];cases Lb N a;·rfl
 simp only[aB];rw[Xl a h fH,aa,Tc _ fH fH,aa,Tc _ fH fH,aa];by_cases h2:((NR r).2 !=0)=true;·rw[an h2,an h2];rfl
 rw[aj h2,aj h2];have u1:=AJx (s:=Im a) (n:=20000) fH;have u2:=AJx (s:=r) (n:=20000) hr;have p1:=(Rf (Im a)).2.1;have p2:=(Rf r).2.1;rw[AtL _ _ fH hN,aa];have u3:=Aaf (N:=N) u1 u2;generalize ADQ N (NR (Im a)).1 (NR r).1=U at *;rw[ZU _ _ (by have:=u3.1;omega) fJ,aa];cases (U.scheme.map FP==List.map FP [104,116,116,112,115]);·rfl
 simp only[aB];have j:=AaV u3;rw[AKt U ⟨by have:=u3.1;omega,by have:=u3.2.1;omega,by have:=u3.2.2.1;omega,by have:=u3.2.2.2.1;omega,by have:=u3.2.2.2.2;omega⟩,aa,ARA _ fH fH,aa]
def Aqt (a:ApiURL) (r:B8) (h:Vl a) (hw:(Im a).length<=5000) (hr:r.length<=20000) (hN:1000000<=N):K9 N a r=some (AMN N a r):=by
 unfold K9 AMN;rw[PX a h fH fH,aa];cases Lb N a;·rfl
 simp only[aB];rw[SI a h fH,aa,WV _ fH,aa,WV _ fH,aa];by_cases h2:((NR r).2 !=0)=true;·rw[an h2,an h2];rfl
 rw[aj h2,aj h2];have u1:=AJx (s:=Im a) (n:=20000) fH;have u2:=AJx (s:=r) (n:=20000) hr;have p1:=(Rf (Im a)).2.1;have p2:=(Rf r).2.1;rw[Aqo _ _ fH hN,aa];have u3:=Aaf (N:=N) u1 u2;generalize ADQ N (NR (Im a)).1 (NR r).1=U at *;rw[ZE _ _ (by have:=u3.1;omega) fJ,aa];cases (U.scheme.map FP==List.map FP [104,116,116,112,115]);·rfl
 simp only[aB];have j:=AaV u3;rw[Ahz U ⟨by have:=u3.1;omega,by have:=u3.2.1;omega,by have:=u3.2.2.1;omega,by have:=u3.2.2.2.1;omega,by have:=u3.2.2.2.2;omega⟩,aa,ATZ _ fH fH,aa]
theorem Awi (U:ApiURI) (h:U.path.length<=100000/\U.query.length<=100000/\U.fragment.length<=100000):Vl (AAT N U).1/\(Im (AAT N U).1).length<=4096:=by
 have z:Vl Mf/\(Im Mf).length<=4096:=⟨⟨⟨bD _,fJ⟩,fJ,fJ,fJ,fJ⟩,fJ⟩;have q1:=AO3 U.authority;have q2:=AAz U.authority;have n1:=NF (N:=N) U.path inP;have n2:=NF (N:=N) U.query inQ;have n3:=NF (N:=N) U.fragment inQ;have pl:=ACC (N:=N) (EP N U.path inP).1;unfold AAT;split;·exact z
 split;·exact z
 split;·exact z
 split;·exact z
 split;·exact z
 split;·exact z
 split;·exact z
 ·rename_i hl;exact⟨⟨q1,by grind,by grind,by grind,by grind⟩,by grind⟩
theorem AxA (s:B8):Vl (ADG N s).1/\(Im (ADG N s).1).length<=4096:=by have z:Vl Mf/\(Im Mf).length<=4096:=⟨⟨⟨bD _,fJ⟩,fJ,fJ,fJ,fJ⟩,fJ⟩;grind[ADG,Rf,Awi]
def Aw9 (a:ApiURL) (r:B8):Vl (AMN N a r).1/\(Im (AMN N a r).1).length<=4096:=by have z:Vl Mf/\(Im Mf).length<=4096:=⟨⟨⟨bD _,fJ⟩,fJ,fJ,fJ,fJ⟩,fJ⟩;grind[AMN,AxA]
def KU (u:ApiURL):Prop:=Vl u/\(Im u).length<=4096
def Ze:KU Mf:=⟨⟨⟨bD _,fJ⟩,fJ,fJ,fJ,fJ⟩,fJ⟩
def Rv (u:ApiURL):ApiURL:=⟨u.host,u.port,u.path,u.query,[],u.hasQuery,false⟩
theorem AEr{u:ApiURL} (h:KU u):KU (Rv u):=by
 obtain⟨⟨h1,h2,h3,h4,h5⟩,h6⟩:=h;refine⟨⟨h1,h2,h3,h4,aK _⟩,?_⟩;have e1:Im (Rv u)=([104,116,116,112,115,58,47,47]++hpF u.host u.port)++Lm u:=rfl;have e2:(([104,116,116,112,115,58,47,47]++hpF u.host u.port)++Lm u).length<=(Im u).length:=by
  unfold Im;split;·rw[ah (as:=([104,116,116,112,115,58,47,47]++hpF u.host u.port)++Lm u)];omega
  ·exact av _
 rw[e1];omega
def Qr (a b:ApiURL):Bool:=a.host==b.host&&(a.port==b.port&&(a.path==b.path&&(a.query==b.query&&(a.fragment==b.fragment&&(a.hasQuery==b.hasQuery&&a.hasFrag==b.hasFrag)))))
def TF{α:Type} [BEq α] [LawfulBEq α] (a b:α):(a==b)=(b==a):=by
 by_cases h:a=b;·subst h;rfl
 ·rw[bv.2 h,bv.2 (dI h)]
def AbV (a b:ApiURL):Qr a b=Qr b a:=by unfold Qr;rw[TF a.host,TF a.port,TF a.path,TF a.query,TF a.fragment,TF a.hasQuery,TF a.hasFrag]
def AmI (s:Int):Fq N s=Gd N s/\∃b,Gd N s=some b:=by
 unfold Fq Gd;simp only[AB];by_cases h1:s=301;·subst h1;exact⟨rfl,_,rfl⟩
 by_cases h2:s=302;·subst h2;exact⟨rfl,_,rfl⟩
 by_cases h3:s=303;·subst h3;exact⟨rfl,_,rfl⟩
 by_cases h4:s=307;·subst h4;exact⟨rfl,_,rfl⟩
 by_cases h5:s=308;·subst h5;exact⟨rfl,_,rfl⟩
 have e1:(s==301)=false:=bv.2 h1;have e2:(s==302)=false:=bv.2 h2;have e3:(s==303)=false:=bv.2 h3;have e4:(s==307)=false:=bv.2 h4;have e5:(s==308)=false:=bv.2 h5;simp only[e1,e2,e3,e4,e5,aq,az];by_cases g:s>=301;·rw[an (aE g),aj (by simp only[au];omega)];exact⟨rfl,_,rfl⟩
 ·rw[aj (by simp only[au];exact g)];exact⟨rfl,_,rfl⟩
def AER (u:ApiURL) (k2:Unit->Option Int) (hk:k2 ()=some (-1)): ∀(l:List ApiURL) (i:Int),0<=i->∃r,Ba N u k2 l i=some r/\decide (r>=0)=l.any (Qr u)
 |[],i,_=>⟨-1,hk,rfl⟩
 |x::l,i,hi=>by
  rw[Ba,bT];show∃r,(if Qr u x=true then some i else _)=some r/\_;cases h:Qr u x;·obtain⟨r,h1,h2⟩:=AER u k2 hk l (i+1) fH;exact⟨r,h1,by simpa using h2⟩
  ·exact⟨i,rfl,by simpa using hi⟩
def Ahf (u:ApiURL) (l:List ApiURL) (hl:l.length<=1000000):Cs N l u=some (l.any (Qr u)):=by unfold Cs Eo;rw[AB,A9 fH];obtain⟨r,h1,h2⟩:=AER (N:=N) u (λ_=>some (-1)) rfl l 0 (bD _);rw[h1,aa,h2]
def ABY (u:ApiURL) (k14:Unit->Option (ApiURL×Int)): ∀l:List ApiURL,JW N u k14 l=if l.any (Qr u)=true then some (Mf,251)else k14 ()|[]=>rfl|x::l=>by rw[JW,bT,ABY u k14 l];show(if Qr x u=true then _ else _)=_;rw[AbV x u];cases Qr u x<;>rfl
def Ald{name v:B8}{fs:List ApiField} (h:v∈GR name fs):v.length<=ED fs:=by unfold GR at h;obtain⟨f,hf,rfl⟩:=bk.1 h;have:=AQP (List.mem_filter.1 hf).1;omega
theorem AVx{u:ApiURL} (hu:KU u){h:ApiHead} (hh:Fok 16384 h.fields){l:List ApiURL} (hl:l.length<=1000000) (c:Int) (hN:1000010<=N):Ml N u h l c=NM N u h l c/\∃r,NM N u h l c=some r/\KU r.1:=by
 unfold Ml NM;by_cases h5:c>=5;·rw[an (aE h5),an (aE h5)];exact⟨rfl,_,rfl,Ze⟩
 ·have hd:=Aap hh;have e5:decide (c>=5)=false:=aJ h5;simp only[e5,aq,az];rw[ATB hd _ fJ,AUx hd _ fJ,aa,aa];have hv: ∀v,v∈GR [108,111,99,97,116,105,111,110] h.fields->v.length<=16384:=λv hv=>by have:=Ald hv;have:=hh.2;omega
  generalize GR [108,111,99,97,116,105,111,110] h.fields=V at *;match V,hv with
  |[],_=>exact⟨rfl,_,rfl,Ze⟩
  |x::y::t,_=>
   have e:((((x::y::t:List B8).length:Nat):Int) !=1)=true:=by simp;omega
   rw[an e,an e];exact⟨rfl,_,rfl,Ze⟩
  | [v],hv=>
   have hvl:=hv v (.head _);have e:(((([v]:List B8).length:Nat):Int) !=1)=false:=rfl;have hi:idx [v] 0=some v:=rfl;have hg:KU (AMN N u v).1:=Aw9 u v;simp only[e,aq,az,AB,hi,aa];rw[ArS u v hu.1 (by have:=hu.2;omega) fH fH,Aqt u v hu.1 (by have:=hu.2;omega) fH fH,aa,aa];generalize AMN N u v=R at *;unfold O5;have hb:=AEr hg;simp only[aa];rw[A9 fH,Ahf _ _ hl,ABY,aa];cases h1:R.2==253
   ·cases h2:R.2 !=0
    ·simp only[aq,az];show((if l.any (Qr (Rv R.1))=true then _ else _)=(if l.any (Qr (Rv R.1))=true then _ else _))/\_;cases h3:l.any (Qr (Rv R.1));·exact⟨rfl,(Rv R.1,0),by show(if l.any (Qr (Rv R.1))=true then _ else _)=_;rw[h3];rfl,hb⟩
     ·exact⟨rfl,(Mf,251),by show(if l.any (Qr (Rv R.1))=true then _ else _)=_;rw[h3];rfl,Ze⟩
    ·exact⟨rfl,_,rfl,Ze⟩
   ·exact⟨rfl,_,rfl,Ze⟩
def AL9 (a:ApiAnswer) (u:ApiURL) (t:Int):Bool:=if a.host==u.host then if a.port==u.port then if a.target==Lm u then if decide (a.from_<=t)then if a.until_==0 then true else decide (a.until_>t)else false else false else false else false
def AYP (a:ApiAnswer):B8×Int:=if(a.fail==1)=true then([],240)else if(a.fail==2)=true then([],241)else if(a.fail==3)=true then([],242)else if(a.fail==4)=true then([],243)else(a.raw,0)
def Arj (a:ApiAnswer) (u:ApiURL) (t:Int):Il N ⟨⟨u.host,u.port⟩,Lm u,t⟩ a=some (AL9 a u t):=by unfold Il QT AL9;simp only[aa];cases a.host==u.host<;>cases a.port==u.port<;>cases a.target==Lm u<;>cases decide (a.from_<=t)<;>cases a.until_==0<;>rfl
def AtF (a:ApiAnswer){u:ApiURL} (hu:KU u) (t:Int):RO N a u t=some (AL9 a u t):=by unfold RO AL9;rw[YH u ⟨hu.1.2.2.1,hu.1.2.2.2.1⟩];simp only[aa];cases a.host==u.host<;>cases a.port==u.port<;>cases a.target==Lm u<;>cases decide (a.from_<=t)<;>cases a.until_==0<;>rfl
def AFV (u:ApiURL) (t:Int) (k2:Unit->Option Int) (hk:k2 ()=some (-1)): ∀(l pre:List ApiAnswer),∃r,Aa N ⟨⟨u.host,u.port⟩,Lm u,t⟩ k2 l (pre.length:Int)=some r/\(match l.find? λa=>AL9 a u t with|none=>r= -1|some a=>0<=r/\idx (pre++l) r=some a)
 |[],pre=>⟨-1,hk,rfl⟩
 | x::l,pre=>by
  rw[Aa,Arj,aa,List.find?_cons];cases h:AL9 x u t
  ·obtain⟨r,h1,h2⟩:=AFV u t k2 hk l (pre++[x]);rw[ah,bh]at h1;refine⟨r,?_,?_⟩;·rw[aj fJ,show(pre.length:Int)+1=((pre.length+1:Nat):Int) by omega];exact h1
   ·rw[aH]at h2;exact h2
  ·exact⟨_,rfl,fH,TI pre l x⟩
def AFH{u:ApiURL} (hu:KU u) (t:Int) (k4:Unit->Option (B8×Int)): ∀l:List ApiAnswer,J9 N u t k4 l=match l.find? λa=>AL9 a u t with|none=>k4 ()|some a=>some (AYP a)
 |[]=>rfl
 |x::l=>by
  rw[J9,AtF x hu,aa,List.find?_cons,AFH hu t k4 l];cases h:AL9 x u t;·rfl
  ·simp only[aB];unfold AYP;cases x.fail==1<;>cases x.fail==2<;>cases x.fail==3<;>cases x.fail==4<;>rfl
theorem Abm{u:ApiURL} (hu:KU u){l:List ApiAnswer} (hl:l.length<=1000000) (t:Int){B:Nat} (hB: ∀a,a∈l->a.raw.length<=B) (hN:1000010<=N):Sd N l u t=Qe N l u t/\∃r,Qe N l u t=some r/\r.1.length<=B/\(r.2=0->∃a,a∈l/\r.1=a.raw):=by
 unfold Sd Qe;rw[M5 u hu.1 (by have:=hu.2;omega) fH,PX u hu.1 (by have:=hu.2;omega) fH,aa,aa];cases Lb N u;·exact⟨rfl,_,rfl,aK _,λh=>by cases h⟩
 ·have ho:KX N u=some ⟨u.host,u.port⟩:=rfl;simp only[aB,AB,ho,AR2 u ⟨hu.1.2.2.1,hu.1.2.2.2.1⟩,aa];unfold BA;obtain⟨r,h1,h2⟩:=AFV (N:=N) u t (λ_=>some (-1)) rfl l [];rw[AB,A9 fH,A9 fH,AFH hu];rw[ap,show((0:Nat):Int)=0 from rfl]at h1;rw[h1,aa];cases hf:l.find? λa=>AL9 a u t with
  |none=>rw[hf]at h2;simp only at h2;subst h2;exact⟨rfl,_,rfl,aK _,λh=>by cases h⟩
  | some a=>
   rw[hf]at h2;obtain⟨h3,h4⟩:=h2;have ha:=hB a (eO hf);rw[aj (by simp only[au];omega)];rw[bm]at h4;rw[h4,aa];refine⟨?_,_,rfl,?_,?_⟩;·show _=some (AYP a);unfold AYP;cases a.fail==1<;>cases a.fail==2<;>cases a.fail==3<;>cases a.fail==4<;>rfl
   ·show(AYP a).1.length<=B;unfold AYP;split;·exact aK _
    split;·exact aK _
    split;·exact aK _
    split;·exact aK _
    ·exact ha
   ·intro h;refine⟨a,eO hf,?_⟩;revert h;unfold AYP;cases a.fail==1<;>cases a.fail==2<;>cases a.fail==3<;>cases a.fail==4<;>simp
def AEW (tr:List ApiExchange):ApiResponse:=⟨Mf,Sl,[],tr⟩
def ArW (N:Nat) (l:List ApiAnswer) (h:ApiHead) (b:B8):Prop:=∃(a:ApiAnswer) (n:Nat),a∈l/\D6 N a.raw=some (h,(n:Int),0)/\Gd N h.status=some false/\HY N h (a.raw.drop n) 1048576=some (b,0)
def trU (u0:ApiURL) (tr:List ApiExchange):Prop:= ∀e,tr.head?=some e->e.uRL=u0
def Zb (N B:Nat) (l:List ApiAnswer) (u0:ApiURL) (f:ApiFetch):Prop:=((f.done=true->f.err=0->ArW N l f.final.head f.final.body)/\(f.final.trace=[]->f.next=u0/\f.done=false)/\trU u0 f.final.trace)/\KU f.next/\0<=f.hops/\f.hops<=5/\(f.seen.length:Int)<=10+f.hops/\f.final.trace.length<=6/\(f.done=false->f.final=AEW f.final.trace/\f.err=0/\(f.final.trace.length:Int)<=f.hops)/\Fok 16384 f.final.head.fields/\f.final.body.length<=B
def Aj0:Fok 16384 Sl.fields:=⟨aK _,aK _⟩
def Aay{B:Nat}{l:List ApiAnswer}{u0:ApiURL}{f:ApiFetch} (h:Zb N B l u0 f):Om N f=some f:=by obtain⟨h0,h1,h2,h3,h4,h5,h6,h7,h8⟩:=h;unfold Om DY Bo Cm;have e1:Ae (([]:List ApiURL).length+f.seen.length) 80:=Hq fK fH;have e2:Ae (([]:List ApiExchange).length+f.final.trace.length) 96:=Hq fK fH;have e3:Ae (([]:List ApiField).length+f.final.head.fields.length) 32:=Hq (by simp;have:=h7.1;omega) fH;rw[AO e1,AO e2,AO e3];rfl
def exF (f:ApiFetch) (s e:Int):List ApiExchange:=f.final.trace++[⟨f.next,s,e⟩]
def Yo{u0:ApiURL}{f:ApiFetch} (h:(f.final.trace=[]->f.next=u0/\f.done=false)/\trU u0 f.final.trace) (s e:Int):exF f s e≠ []/\trU u0 (exF f s e):=by refine⟨by simp[exF],λx hx=>?_⟩;unfold exF at hx;cases ht:f.final.trace with|nil=>rw[ht]at hx;cases hx;exact(h.1 ht).1|cons y r=>rw[ht]at hx;cases hx;exact h.2 _ (by rw[ht];rfl)
def Xj{B:Nat}{l:List ApiAnswer}{u0:ApiURL}{f:ApiFetch} (h:Zb N B l u0 f) (s e d:Int):Jz N f s e d=some (if(d !=0)=true then⟨f.next,f.hops,true,d,AEW (exF f s e),f.seen⟩else⟨f.next,f.hops,f.done,f.err,AEW (exF f s e),f.seen⟩):=by obtain⟨h0,h1,h2,h3,h4,h5,h6,h7,h8⟩:=h;unfold Jz;have e1:Ae (f.final.trace.length+1) 96:=Hq fH fH;rw[AZj,aa,AO e1];simp only[AB];cases (d !=0)<;>rfl
def AVh{B:Nat} (hB:B<=900000){l:List ApiAnswer} (hl:l.length<=1000000) (t:Int) (hr: ∀a,a∈l->a.raw.length<=B) (hN:1000020<=N){u0:ApiURL}{f:ApiFetch} (hf:Zb N B l u0 f) (hd:f.done=false): ∃r,RQ N l t f=some r/\RN N l t f=some r/\Zb N B l u0 r/\(r.done=true\/r.hops=f.hops+1):=by
 have hf0:=hf;obtain⟨⟨ga,gb,gc⟩,g1,g2,g3,g4,g5,g6,g7,g8⟩:=hf;obtain⟨g6a,g6b,g6c⟩:=g6 hd;have e1:Ae (f.final.trace.length+1) 96:=Hq fH fH;have g4n:f.seen.length<=15:=fH;have e2:Ae (f.seen.length+1) 80:=Hq fH fH;have htr:(f.final.trace.length:Int)<=5:=fH;have bad: ∀s e d:Int,(d !=0)=true->Zb N B l u0 ⟨f.next,f.hops,true,d,AEW (exF f s e),f.seen⟩:=λs e d hd0=>⟨⟨λ_ h=>absurd h (by simpa using hd0),λh=>absurd h (Yo ⟨gb,gc⟩ s e).1,(Yo ⟨gb,gc⟩ s e).2⟩,g1,g2,g3,g4,by simp only[AEW,exF,ah,bh];omega,nofun,Aj0,aK _⟩;unfold RQ RN X6;rw[Aay hf0,aa,hd];simp only[aq,az,AB];obtain⟨ha,A,ha1,ha2,ha3⟩:=Abm (N:=N) g1 hl t hr fH;rw[ha,ha1,aa,aa];cases hA:A.2 !=0
 ·simp only[aq,az,aB];obtain⟨hh,H,hh1,hh2⟩:=ABn (N:=N) (l:=A.1) fH fH;rw[hh,hh1,aa,aa];obtain⟨k1,k2,k3,k4,k5,k6,k7,k8⟩:=hh2;cases hH:H.2.2 !=0
  ·have hH0:H.2.2=0:=by simpa using hH
   simp only[aq,az,aB];obtain⟨hi,b,hi1⟩:=AmI (N:=N) H.1.status;rw[hi,hi1,aa,aa];cases b
   ·obtain⟨n,hn⟩: ∃n:Nat,H.2.1=(n:Int):=⟨H.2.1.toNat,fH⟩;have hsub:sub A.1 H.2.1 (A.1.length:Int)=some (A.1.drop n):=by rw[hn];exact Be fH
    obtain⟨hb,R,hb1,hb2,hb3⟩:=AZE (N:=N) k1 (a:=A.1.drop n) (by rw[aP];omega) fH (lim:=1048576) fH;rw[aP]at hb2;simp only[aq,az,hsub,aa,hb,hb1,Xj hf0];rw[AO e1];cases hR:R.2 !=0
    ·have hR0:(R.2==0)=true:=by simpa using hR
     simp only[hR0,hR,hi,hi1,aa,aq,az,aB];have hA0:A.2=0:=by simpa using hA
     obtain⟨a,hal,hae⟩:=ha3 hA0;have hsrc:ArW N l H.1 R.1:=by
      refine⟨a,n,hal,?_,hi1,?_⟩;·rw[<-hae,hh1,<-hn,<-hH0]
      ·rw[<-hae,hb1,<-(show R.2=0 from by simpa using hR0)]
     refine⟨_,rfl,rfl,⟨⟨λ_ _=>hsrc,λh=>absurd h (Yo ⟨gb,gc⟩ _ _).1,(Yo ⟨gb,gc⟩ _ _).2⟩,g1,g2,g3,g4,?_,nofun,k1,?_⟩,.inl rfl⟩;·simp only[ah,bh];omega
     ·simp only;omega
    ·have hR0:(R.2==0)=false:=by simpa using hR
     simp only[hR0,hR,aa,aq,az,aB];exact⟨_,rfl,rfl,bad H.1.status R.2 R.2 hR,.inl rfl⟩
   ·obtain⟨hx,X,hx1,hx2⟩:=AVx (N:=N) g1 k1 (l:=f.seen) fH f.hops fH;have hH1:(H.2.2==0)=true:=by rw[hH0];rfl
    simp only[aB,aa,hx,hx1,Xj hf0,hH1,hi,hi1];rw[AO e1];cases hX:X.2 !=0
    ·have hX0:(X.2==0)=true:=by simpa using hX
     have w:wr .i64 (f.hops+1)=f.hops+1:=Ai fH;simp only[hX0,aB,aq,az,AZj,aa,w,hH0];rw[AO e2,AO e2];have h5:f.hops<5:=by refine Int.not_le.1 λh=>?_;unfold NM at hx1;rw[an (aE h)]at hx1;cases hx1;cases hX
     refine⟨_,rfl,?_,⟨⟨nofun,λh=>absurd h (Yo ⟨gb,gc⟩ H.1.status 0).1,(Yo ⟨gb,gc⟩ H.1.status 0).2⟩,hx2,by simp only;omega,by simp only;omega,by simp only[ah,bh];omega,by simp only[ah,bh];omega,λ_=>⟨rfl,g6b,by simp only[ah,bh];omega⟩,Aj0,aK _⟩,.inr rfl⟩;rw[hd];rfl
    ·have hX0:(X.2==0)=false:=by simpa using hX
     simp only[hX0,hX,aB,aq,az,aa,hH0];exact⟨_,rfl,rfl,bad H.1.status 0 X.2 hX,.inl rfl⟩
  ·have hH1:(H.2.2==0)=false:=by simpa using hH
   simp only[aB,Xj hf0,aa,hH1,hH,aq,az];rw[AO e1];exact⟨_,rfl,rfl,bad 0 H.2.2 H.2.2 hH,.inl rfl⟩
 ·have hA1:(A.2==0)=false:=by simpa using hA
  simp only[aB,Xj hf0,aa,hA1,hA,aq,az];rw[AO e1];exact⟨_,rfl,rfl,bad 0 A.2 A.2 hA,.inl rfl⟩
def AEq{B:Nat} (hB:B<=900000){l:List ApiAnswer} (hl:l.length<=1000000) (t:Int) (hr: ∀a,a∈l->a.raw.length<=B) (hN:1000020<=N){u0:ApiURL} (k:ApiFetch->Option (ApiResponse×Int)): ∀(n:Nat) (f:ApiFetch),Zb N B l u0 f->(if f.done=true then 0 else(7-f.hops).toNat)<n->∃r,Zb N B l u0 r/\r.done=true/\Hr N l t k n f=k r/\JN N l t k n f=k r
 |0,f,_,h=>absurd h (cq _)
 | n+1,f,hf,h=>by
  rw[Hr,JN];cases hd:f.done
  ·obtain⟨r,s1,s2,s3,s4⟩:=AVh hB hl t hr hN hf hd;rw[aj fJ,aj fJ,s1,s2,aa,aa];refine AEq hB hl t hr hN k n r s3 ?_;rw[aj (by rw[hd];decide)]at h;obtain⟨g0,g1,g2,g3,_⟩:=s3;obtain⟨q0,q1,q2,q3,_⟩:=hf;rcases s4 with s4|s4;·rw[an s4];omega
   ·split<;>omega
  ·exact⟨f,hf,hd,rfl,rfl⟩
def AaR (B:Nat) (r:ApiResponse):Prop:=Fok 16384 r.head.fields/\r.body.length<=B/\r.trace.length<=10
def Atk (N:Nat) (l:List ApiAnswer) (u:ApiURL) (r:ApiResponse×Int):Prop:=Lb N u=true->(r.2=0->ArW N l r.1.head r.1.body)/\r.1.trace≠ []/\r.1.trace.length<=6/\trU (Rv u) r.1.trace
def AWx{B:Nat} (hB:B<=900000){l:List ApiAnswer} (hl:l.length<=1000000) (t:Int) (hr: ∀a,a∈l->a.raw.length<=B) (hN:1000020<=N){u:ApiURL} (hu:KU u): ∃r,PO N l t u=some r/\SG N l t u=some r/\AaR B r.1/\Atk N l u r:=by
 unfold PO SG Pi RY O5 Atk;rw[M5 u hu.1 (by have:=hu.2;omega) fH,PX u hu.1 (by have:=hu.2;omega) fH,aa,aa];simp only[AB];cases Lb N u;·obtain⟨m,rfl⟩: ∃m,N=m+1:=⟨N-1,fH⟩;simp only[aq,az,aa,Hr,JN,aB];exact⟨_,rfl,rfl,⟨Aj0,aK _,aK _⟩,λh=>absurd h fJ⟩
 ·have hg:Zb N B l (Rv u) ⟨Rv u,0,false,0,AEW [],[Rv u]⟩:=⟨⟨nofun,λ_=>⟨rfl,rfl⟩,λe he=>by cases he⟩,AEr hu,bD 0,(by show(0:Int)<=5;decide),(by show((1:Nat):Int)<=10+0;decide),aK _,λ_=>⟨rfl,rfl,bD 0⟩,Aj0,aK _⟩;obtain⟨r,h1,h2,h3,h4⟩:=AEq hB hl t hr hN (λj3=>some (j3.final,j3.err)) N _ hg (by show(if false=true then 0 else(7-0:Int).toNat)<N;rw[aj fJ];omega);simp only[aB,aa];obtain⟨⟨z1,z2,z3⟩,y1,y2,y3,y4,y5,y6,y7,y8⟩:=h1;have hne:r.final.trace≠ []:=λh=>by have:=(z2 h).2;rw[h2]at this;exact absurd this fJ
  exact⟨_,h3,h4,⟨y7,y8,by show r.final.trace.length<=10;omega⟩,λ_=>⟨λhe=>z1 h2 he,hne,y5,z3⟩⟩
end
section
variable{N:Nat}{l:B8}
end
section
variable{N:Nat}
def AAE: ∀(d k n:Nat) (acc:B8),n<10^(d+1)->d<k->n<18446744073709551616->acc.length+d<=1000->Ok (EC N k (n:Int) acc) (λr=>r.length<=acc.length+d+1)
 |d,0,n,acc,h,hk,hn,ha=>by omega
 | d,k+1,n,acc,h,hk,hn,ha=>by
  have hd:wr .u64 ((n:Int).tdiv 10)=((n / 10:Nat):Int):=by grind[wr,IntKind.wrap,IntKind.bits,IntKind.signed]
  rw[EC,hd];refine Ok.grd (by grind[AL]) (Ok.ite (λ_=>Ok.ret (by simp<;>omega)) (λhc=>?_));have hc':n / 10≠0:=by grind
  cases d with
  |zero=>omega
  |succ d=>
   refine(AAE d k (n / 10) _ ?_ fH fH (by grind)).mono λr hr=>by grind
   omega
def Aee (n:Nat) (h1:n<1000000000000) (hN:20<=N):Ok (Gn N n) (λr=>r.length<=13):=by unfold Gn;exact(AAE 11 N n [] fH fH fH fI).mono λr hr=>by grind
end
section
variable{N B:Nat}
end
section
variable{N:Nat}{l:B8}
end
section
variable{N:Nat}
end
end Go.VM
