import Derived.Test.YtibjocmpkoepoaaGreatProg
import Derived.Test.YtibjocmpkoepoaaGreatB4
import Derived.KernelRfl
set_option linter.all false
set_option maxRecDepth 100000
open Bool renaming true→W
namespace Go.Proofs.YtibjocmpkoepoaaGreat
open Go.z6 Go.z6.d5
def a206 : p6 := (un "~B34~G~N~r~c+X$|_~L11|i136431H16|F20584^H02~z~J:~t|i~h~;`|f31H100K|i136421255916U97~g~o~n|D2050210003z|eL8|:31L102<1Y02_338L_31|a|`|`X_3316_317_32<8~83l~Y:_;32I_;1<_;4^G=Y|ts<z_;|X>7;l?z@~;Y|6~;X~=|D").1
def af8 : p6 := (un "|Y236$]3|N+X$~s0G|]~11364L025z4^H01~P+7~=|D").1
def a208 : p6 := (un "~B34~G~N~r~c+X|:~L10612;2X03~U32I_~_~U4^G6Y|?:<=K<~0~U|X7~ul8z9~;Y|U|25|y7<1~t~L~h|k610;|_~L|CK|B2314|i16|F|VO05|o2=9Xz:~;`|6|260Xz6287<3&L0K2=|E2472063;~L10|T511213~L150K|B|F182;4~z:~;]~vL,6|E10K,~V$]40X~=|D").1
def af9 : p6 := (un "|94~pz060|j|lK~x|X~Kz3|r[z530F@0381120GK|C003405z6|r]|f0F@0381120GJ134l~p|p").1
def a210 : p6 := (un "|Y26$]30k|g0G|O0102^30F^|i^32>45736k%7~<").1
def ag0 : p6 := (un "|Y24|F|e$]3~c+X$~L10|]~6|JU73]5~o~n4$|[|S7K4|:30K10|lK1z|X~^~U32K_~_~U2<6m_407^832K^|I9^8|lK:z^8<2;_478<k~ul=z>~;[|U3~L10|]A7*2DaMzKz|lL34zz5~;]|f0F33K114^U|M~[3z0333K102<1m02^30L|R2=4~8|`~O6~;`|U;31K10|lN1z|X~^_40L~U|O5X_406~j31K~j18~j0F~j@:~j3:;~j1<~j|T~j52=>~j31?~j1@~j|BAX~j1B~j2<9C_477Dk~ulEziF~;^|U332K102<1m02^333K~`4^32<5m736~F7_8U4I_834K_|I:_8|lO9;z_8<2<78l=0>_?U4I_?U7K_?|lP@Az_?|XB7?lCzD~;Y|f34K1061~S2X~A03&H2;0X01^20M723~F4^532I^|B6^52<7Y758kz9~;Y|U30L|O0X01^20F^|O3^2304^2305^216^20L^25478^2319^21:^2~6;X^234<^21=^26>^2~S?~8|O~FA^B34K^B1C^B|]^B|lQDEz^B|XiF7BiG~OiH~;Y|6~;X~=|D").1
def a212 : p6 := (un "|Y25$]3:Hz020F@03~w20G0F@53:61768J134~z2`7z0F0F@13:213|KI92*01|m5|b2+46@03:8|I97zz0").1
def a213 : p6 := (un "~k7|e:|W~:$]30~:|G50F~g6K~A|y8:7|sMLz0~H~6KMU70~3~o~n4$|[|S7J1z10I0GU7JE|Jz911|=$3|b1@004%5|>20MY]700$|^~Z|p").1
def ag1 : p6 := (un "*2$]1|N|Pm$|j10]|9|p").1
def ag2 : p6 := (un "~k7|e:|W~:$]30~:|G50F~g6K~A|y8:7|sMLz0~H~6KMU70~3~o~n4$|[|S7J1z10I0GU7JE|Jz911|C$3|b18004%5|>20MY]700$|^~Z|p").1
def ag3 : p6 := (un "*2$]1|N|PX$~y10]|9|p").1
def ag4 : p6 := (un "*2$]1|N|Pk|:~y~eZz|933G102<1m02|R34G~`4^365|R2;6~8|n~F8~T|`G~T1:~T6;~T2;<~89=~F>~a36G~a1@~a6A~a2;B~8?C~FD^E38G^E~qF^E6iG^E2;iH~8EiI~FiJ^K|nG^K~qL^K|XiM7iKiNk|PiO|U334G1061~S2X03|v33G^~_|v2;6m747~F8_934G_91:_96;_9~S<a79l=z>|rk|U3~y~eX02^336G~`4^365|R2;6X^307_838G_|I9_86:_8~S;X|R78l<73=~O>|rk|U3~y~eY02^338G~`4^365|R2;6X^307_8|nG_|I9|R78l:73;~O<|rk|f36G106138G1364202~f>6a|P7|p").1
def a218 : p6 := (un "~k<=|Wk&F600G622<1|q|rk|U010F~360]5|y6C1|sKJz0~H0K~Dz;0F|^5*~WG|^|B45162<|n|S|rk|6~WKY]500|Wl|p").1
def ag5 : p6 := (un "~K$]10~:&FM~7*]10~:|f910zz00F=1@0|2~K~mz0").1
def ag6 : p6 := (un "~K$]10~:&FM~7*]10~:|f910zz00F=1|u|2~K~mz0").1
def ag7 : p6 := (un "|L2|`8:;<=>@ACDFGH]Q]R]S^4^5^6$]4~c~JX|z34J]?10]@6U]A|yHM0070|sWVz0~H~fUWU20~g;|[|S2L1|:C21LX10|]62213Y|VR1X4z|X~@6~CC21LY~C18~C|^~C6:~C21;Y~C|VR9X<z~C<2=77l>z?|2~@[|6;|]C21LX1151021~1C21LY16|B~6182<4~z:|2~@^|6~WWY]A00$|]|^91|901$0111z0|lR2|h7;|E|IM3z0335J1061~S2Xz|Y|`J*M|lS|J|:?40?41]|u5]~Y6&O2<~i0O]500|630N2<0Yz*~J^|64|2:;01|E|z36J]B10]C6jB]D|7628HA41H1|sjDjCz047206|Y~fjBjDU20];;1|D5|S2Q1$30Q10DaUzQMz|lTP|J|h<03z30R2<~i0R]500|6~WjDY]D00|z38J]E10]F6jE]G|7648HA410>|sjGjFz047406~V53jEjGU30]=~o|C05|S3S1$30S10DaVzSMz|lTP|J|h>03z30T2<~i0T]500|6~WjGY]G00|g30J11|KP|VT023z$]~@X~=5z0").1
def a222 : p6 := (un "|Y2|F|e$]30X+X|g0G4^U|E]502~t2=~i%X+`|f0F@03:1120K~f3431|B6~[7&H|T61212Y|VR0X3z|X4z5~9X+[|f|T|]5*|J%3+X~=30|D").1
def ag8 : p6 := (un "|94|Wkz020F0G4^U|E`2z0F`2z@3`2z30|V2z305`2|>6`2z|F`2z218Y|VR2X~z|P:|p").1
def ag9 : p6 := (un "|94|Wk|g0G|lX|E|O2X|P3|p").1
def SQ : p6 := (un "~K|`9:;$]10~:$Gn6aY~0&F|lZ~x<21z2|210~:|6|r~:|G40F]56J~[Xz|@7D3|sLKz0~H55JLU~@~r;|A*4z|C|S5I1z3~1~eZz210H34I11~w|C$2|b18003|P4z4120LY]600z0:|9|]|l[~x$|]|a20|h*~mz0").1
def a228 : p6 := (un "*24$]1|N|Pk|z|j~r10z60~>IX~7*~y~eX02|R32G~`4^~>5m736k|P7z5~>IY~7*~y10|O1|?;J1WVU|D2|R~y~`4^32>5|?:J1WVU4z736~F7^832G^|I9^82;:m78;k|P<z5~>IZ~7*~y~eX02|R32G~`4^3H5^32>6|tP7|nk|P8|6|rk|p").1
def a229 : p6 := (un "|Y2|F8$]30X&G0F61|O0~^_40H~U2;5~84l607_80F_80G_8559:_830;_|I<_8|a9=z_82=>~88l?0@_A0F_A0G_A55BC_AU5D_A4b8Ez_A|XiF7AliGziH~9|?21|f0F0G5~V302134_94z+5$0G,*|G5|y6G1~t0J2=|E2~H0F0G|]212Y|l9013z]104z|j2=~i%|?21~vK,~V$0G~D~<").1
def ah0 : p6 := (un "~K345$]10~:|W~:|G30Yz|@5=&I0F61~l0~40F|^|l901|t@z+2$|]0F|^0JA5112139|C5$|D=1H005|P~P10J~D$|]]100~mz0").1
def ah1 : p6 := (un "~k|F8?]B~p$]30k+Y|G50Fz600012;K[~g~XL412;Kf~g~XL10G510X112;2Y%3|z2;K]~A~XM|L2;K^~A~XM|L2;K_~A~XM|L2;K`~A~XM|L2;Kg~A~XM412;Kh~A~XM10G510X112;2Y03~]G^4515Y^416|v2;7Y~u8k%~z~>Ka00|>10G510X112;2Z03~]G^4515Y^416|v2;7Z~u8k%9+Zz~>Kb00|>10G510X112;2Z%3z~>Kc00|>10G510X112;2Z03~]G^4515Y^416|v2;7Y~u8k%9+Z|z2;Kd]8~XN412;Ke]8~XN20G510X|CG|B3Y142;25%~P~>K|t@~711%lz~>K|tA00|>20G510X|CG|B3Y142;25`:z0G`:z517X`:|>8%6+~z~>K|tB00|>20G510X112;2Y03~]G^4515Y^416~]G^4518Z^419|v2;7:~u;k`4@z0G`4@z51=Y`4@|>>%<+?z40~1<20z*|PX|f0J~Z|p").1
def a232 : p6 := (un "|94$]2;|A4zzz06030F|c0_z~EX|M|Y>|A4zz|S3H0z5|j2;0Z|E|90F|a|u|S3H1|f0F|a70|S3H1z51213z0").1
def a233 : p6 := (un "~B45|F~N%k|:|_4X~x|X~K_|j_36|a3|i_316_367_32<5873l~z:~9k|U~;Xz|@7F0&J0G61~l00610|j0J5*|J632?4|t]Dz5~9k|6|25|76287F1~t0G0J51121364|Q5z64720630;|i100J5412U4|j0J|B56170K53|e~b:4b94;z<2<0=_>0K_>~S?X_>0@^A0G^A0J^A|BBC^A1D^A0K^A21iFY^A53EiG^A30iH^A~qI^A53iJX^A~biK^A0G^A0J^A|BiMiN^A~qO^A0K^A53iPiQ^A30iR^A~qS^A53iTX^A~biU^A|V8iLiVz^A|OiWX_>7AiXk7>liYziZ~9k|6|260Xz6487F3&L0K2=|E2474065;0G0J5*~WL533431|B6|B7X180G0J|B:;1<0K53=>31?1@|BAX1B2;9CzD~9k~vL,6|E10K,5|E10J,|L$]30l~<").1
def a234 : p6 := (un "~K34~G$]10X~p|G30Xz|@6=0&I0F61~l00~4+Xz6286M0&J0F|^51121364|Q5z6472063|25|76486M1~t0F|^5112130J53453161768|Q~z:47406510H0F|^5112130J5345316170K|B|e1:L10;z|P<z10K,5|E10J,4|E10I,|Y$|]]100~mz0").1
def ah2 : p6 := (un "|Y2|`|F|e$]3|N~3:H~JX|m`6z0G`~P33J`~P11`6z5~K`6|>3U<J|V|`z|V~u6|h607z060330J~eY02^30L^32@4~8|`~F~P7|2~@]z5330J102<1Y02^30L|R2=4~8|`~F~P7|2~@c|f~11033J|J541331~_~A06|G8|761|eJ<&N34J~h471062;~s0G~50N~623U~u34J160N5|n8~b94b:015:z<2;z<|2~@`~vN,801z0;30J~eZ02|R~s^|j^30M^338J~`7|R~668|RU79^339J|R~b;^34b:45:<z|R<2=73>~O?|2~@`|U330J~eY02^|j^333J~`5|R|B46~`7^368^32@9|t]D73:~O;|2~@a|6|2~@X~=5z0").1
def a236 : p6 := (un "|Y26$]30k|g0G|O0102^30F^|i^32>45736k%7~<").1
def ah3 : p6 := (un "~K3$]10k&F602?1|t@z2|210k|U|rXz|@|`&H0F61~l006130F|]5|YU32|l83z|X4z5|210k~vH,|9$]10l~mz0").1
def ah4 : p6 := (un "~B45|F8~N%~:|:|_0G4^B|E|X2z3~9~:|f~w|C$Xz0~300|G5|y8F1~t|i|CG54233141~G6|Q7|S~H|i100G5412313140K~6~G~Q18~[9$]7|76288F7&M|T61~l206310J|T~55112134_304z+5z10M,7|E10K,~V$0J~D~<").1
def ah5 : p6 := (un "~K$]10k|g|O0|?32]|L^20F^22>3|?32]=724k]105~mz0").1
def ah6 : p6 := (un "~B45~N%k|G40Xz|@5F&J0G61~l0061;0G0J5*|J31H1465216Y4^G3~8z|X|u9|d0J|d~S;X|d0<^=0G^=0J^=|B>?^=1@^=0G^=0J^=21CY^=|BBD^=1E^=2>AiF|d7=iGk7:liH0iI_J31H_J~qK_J0G_J0J_J|BiMiN_J~qO_J~6iLiP_J32iQ_J~qR_J2;iSm_J0iT^U31H^U~qV^U0G^U0J^U|BiXiY^U~qZ^U~6iWi[^U33i]0^U~q]1^U2;i]2m_J7iUi~rk7iJli]4zi]5~9k~vJ,|L$]30l~<").1
def ah7 : p6 := (un "~k|Wk|G30Xz|@4;&I0F61~l006130F|^5*~WG2;34z5|rl~vI,|Y|Wk|p").1
def ah8 : p6 := (un "~K$]10k|g2<0m01^20F^2H3^22>4|t@725~F6~j0F~j4b<|o~j0F~jH:~j2;9;77<k]10=~mz0").1
def ah9 : p6 := (un "|94|Wk|g0G4b=|E|O2X|P3|p").1
def ai0 : p6 := (un "~B3~N%k$|i10|j|J~E3%4~<").1
def ai1 : p6 := (un "~K$]10k|g2;0Y01_20F_22;3Z72l|H105~mz0").1
def ai2 : p6 := (un "~B457|e:;~N%k$]40|?21|G70G]86M]9|y:DL|sONz0~H|BMO10]501~t0J2>0102_30K_331H_315_366_32@4773l8z9~9k|U0131H100K~6|JU73~g~o~n4$|[|S7L4z332L~em02^333L~`4^~>5m736~O7~9k~vK~300|>20OY]900$]30l~<").1
def ai3 : p6 := (un "~B345~N~r~c+k$34I1061~S2X]5~260335I102<1X02^335I~`4^32<5Y^306~C0K~C|X8|R77l973:~F;z<~;kz5336I10|VR1X|?:<=K<~0|X20|q~;kz5336I102<1X02^30K|R|X47|`~F~P7~;k|f33H~eX02_336I_31|a333H_316_32>~673l8+9~=|D").1
def ai4 : p6 := (un "|94|Wk|g0G4b>|E|O2X|P3|p").1
def ai5 : p6 := (un "~K|`6|e:;IJK$]10~:~p|G60F~A6L]8|y<5>0|sNMz0~H|BLN10]|Y$|]|^612002|P3z|i2=|711ZZz4120NY]800$|]4b?n30|h|L|G90F]:6O];|7628<@@3|sQPz047206|Y|BOQ10]5|E10J0K=1|u~;2|>20QY];00$0J]100~mz0").1
def ai6 : p6 := (un "~k78:>?@~p%X$Gn6b@~0&F|lZ~x<21z2|rX%Y|U|270G]86M]9|y:3L|sONz0~H|BMO10~3|E30J2<0Y01^20J^22<3Z724kz5|rX%Y|6~WOY]900|g0G4bA0X1|m?30?31?32~J405~[6$0K|T~Z]|Y~=~^z0").1
def ai7 : p6 := (un "|Y2|F8$]30X&G|lK~x<21z2~9[|U30F@0301~WG|l434zz5~9]|f|]E0$?20?21+3~J4~t2<~i0K~D|U2`8?z0F`8?Bz0F0F@2303140G~w|=$6|b1@0~6`8z0F`|o@9`|o31:`8|>;`8z0J`8z911|C$=|b1|u<>@030@|IA8@131C|ID?$]30X~<").1
def ai8 : p6 := (un "~B3~p%X$31F*G|lS|Jz?30?31|P4%5~=~^z0").1
def ai9 : p6 := (un "~B3~p%X$~bF1G|lW|E?20?21|P3%4~=~^z0").1
def aj0 : p6 := (un "~B45|F9@~N%X+X|z31H~A10z60~>MX~710332H1061~S2Xz3~9X+Y|6~9Y]40X~=012;MY]8~XN|L2;MZ]8~XN|L2;M[]8~XN412;M]]8~XN0132H100G|lS|J|:?40?41~J5~[6&L2<~i|T%X~300|U331H~eY02^30K^32<4Y7|`~O6~9X+^|f0K~D+X|6~9X+Y~=30|D").1
def aj1 : p6 := (un "~k78~p|z0F~360]5|y6C1|sKJz0~H0K~Dz|j0F|^51121~>04~m|^~Z|6~WKY]500|W|?21|p").1
theorem i261:cL Tryz.prog Tryz.f261=W:=by kernel_rfl
def aj2 : p6 := (un "~K34$]10k$Gn6bB~0&F602?1|t]Dz2|210k|f0F4bC0X$?20?21|P3%4$|]~S0X01^20H^22>3|t@724~F5^60I^60F^668^62;7976:k]10;~mz0").1
def aj3 : p6 := (un "*24$]1|N|Pk|z|j~r10z60~>IY~7*~yU30|l|I|m|R~y|R304^315^32<6~8|n~F8~T34G~T1:~T2;;~89<k|P=z5~>IZ~7*~yU30>|A4z~0B0001|>~^|v34G^~_|v|O6~847k|P8|f~yU30>|A4z~0B0001|>~^|v34G^~_|v2;6~847k|P8|p").1
def aj4 : p6 := (un "~B345~N~r~c+k|:~1106131H13642<2~@6~C~L~C18~C69~C31H~C1;~C6<~C2<:=77l>0?_@32I_@1A_@|l@BX|?:<=K<~0_@|XC7@lDzE~;k|U|25|y6<1~t~1~h|k61;~1100K5312~b34a84z|X~@6~C~1~C18~C0K~C539:~C~b;~C31H~C1=~C0K~C~6>?~C31@~C1A~C|V4<Bz~C|XC77lD0E_F~L_F~qG_F0K_F|BiHiI_F~qJ_F|l@iKY|?:6FDZO<~0_F|XiL7iFliM0iN_O~L_O~qP_O0K_O|BiQiR_O~qS_O~L_O~qU_O|BiVX_O~qW_O2=iTi~8iOliYziZ~;k~vK,~V$~110531X302132<4X+5~=|D").1
def aj5 : p6 := (un "|L234|F8$]4|N]5:H~g:I~A0k|m33K~em02_330L_31|a~>5~83l607_8`=z0G_8U8J_833K_|I;_8|HZ:<z_8|B9=_|I>_8`=z~bL_8|V7?@z_8|OA~88lB~A0C~=7z0").1
def aj6 : p6 := (un "~K3$]10X~pz0|@|`&H0FH1|Q~^~]F~]H|vI~G|v4bH7z~]8_9|]_9~S:X_~Y;^<0F^<|]^<I=>^<4bI?z^<0@_A0F_A|]_AIBC_A2;D|?32~j^<7AlE_97<iFk^479liG~uiH~OiI4706110H,|9$|]]100~mz0").1
def aj7 : p6 := (un "~k78~p|z0F~360]5|y6C1|sKJz0~H0K~Dz|j0F|^~6|JU73E04z~m|^~Z|6~WKY]500|W|?21|p").1
def aj8 : p6 := (un "~k78~p|z0F~360]5|y6C1|sKJz0~H0K~Dz|j0F|^51121~>04~m|^~Z|6~WKY]500|W|?21|p").1
theorem i280:cL Tryz.prog Tryz.f280=W:=by kernel_rfl
def aj9 : p6 := (un "|Y2|F|e:;<=>?@AJK$]30X+X~JX|g0G5~VU~f~g;|A*4z|C|S5L3$0G,701$]8;|A10z|z30L10]?4bJ1|h@|yA5>03|sVUz0~H0V]900|g~5|]4bA012|:?40?41?42]:05];06]<07&R2<~i0R%X+X]500~vO0P0QC31N0|I31~A02|>20VY]@00|:30L~eZ02|R34L~`4^|i^366^32@~6738kz9~9X+X~J[|fU5L~bN|]4bK012|:?40?41]=05]>06&T<20z*%X+X~J^|f0S~5~D~3|2~@X~=30405z0").1
theorem i282:cL Tryz.prog Tryz.f282=W:=by kernel_rfl
def ak0 : p6 := (un "~k|F|eNO~p%X&G0F61|O0~^_40F_40G_455~G~UU~6~U4bL|o~U|X9~ul:z;010G|PX~D|f0G,40X]501|z0F0G5~V30213]84bJ4z]9|y:CI|sONz0~H0F0K4bC01|m?30?31~[|H705&L2;~i0G|PX~D~vJ|TL*z0M+2~J3z~WOY]900$0J|8Y0K]2~92~=~^z0").1
def ak1 : p6 := (un "~K$]10k|g|O0|?32~T01^20F^22>3|?32^R724k]105~mz0").1
def ak2 : p6 := (un "~K$]10k|g|O0|?32]|L^20F^22>3|?32]=724k]105~mz0").1
def ak3 : p6 := (un "~K~Q<$]10X|G20Fz600012;HY~Dz9I412;HZ~Dz9I|210X~=012;H[~3~XJ|L2;Hb~3~XJ|L2;Hf~3~XJ412;H|t@~3~XJ|210Y~=012;H]]5~XK|L2;H^]5~XK|L2;H_]5~XK|L2;H`]5~XK|L2;Ha]5~XK|L2;Hc]5~XK|L2;Hd]5~XK|L2;He]5~XK|L2;Hg]5~XK|L2;Hh]5~XK412;H|tA]5~XK|210Zz5~>H|tB~7*]10[|6|210|?21~mz0").1
def ak4 : p6 := (un "|Y234|F|e:BO]<$]3|N~3~c~JX~[k|mC31JX10`~PC31JY`6|>2`|FzC31JZ`|F|>|H7|2803]~Y5|z~1]:10z60~>PY~7*~L30011]502~[lz5~>PZ~7*|]34I11510213~J|H60l~=012;P[];~XQ412;Pf];~XQ01~52;0Y]~@Y]601z5~>Pa~7*~52;0Z01^20N^22;3Z724k~JZ~[5z5~>Pb~7*~52;0Z~JY]601z5~>Pc~7*~52;0Z01^20N^22;3Y724k~JZ~[5~=012;Pd]<~XR412;Pe]<~XR01~50N2;|2~@Y]602z5~>P|t@~7*~JY]60lz5~>P|tA~7*~5~50N2;|J]500~[3z5~>P|tB~7*0N~5~EY02^30N^30O|R2;45736k]500~[7|f~52;0Y01^20N^22;3Y724k~JY]605~=~@6z0").1
def ak5 : p6 := (un "*2$]1|N|Pkz0603|j104bJ1z2=2X0|q|rkz53|j~eY|M|Y34G~eX02|R~y|R304^315^32<6~8|n~F8~T~y~T~b:~T4bW;z79<k|P=z53|j~eZ|M|Y34G10|O1X02|R~y|RU34|R>|A4z~0|RB0001z5|F|nk|P8|f34G~eX02|R~y|RU34|R>|A4z~0|RB0001z5|F|nk|P8|p").1
def ak6 : p6 := (un "*24$]1|N|Pk|z|j~r10z60~>IX~7*~y~eX02|R32G~`4^~>5m736k|P7z5~>IY~7*~y10|O1|?;J1WVU|D2|R~y~`4^32>5|?:J1WVU4z736~F7^832G^|I9^82;:m78;k|P<z5~>IZ~7*~y~eX02|R32G~`4^3H5^32>6|tP7|nk|P8|6|rk|p").1
end Go.Proofs.YtibjocmpkoepoaaGreat

