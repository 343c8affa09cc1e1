import Derived.Test.YtibjocmpkoepoaaGreatProg
import Derived.Test.YtibjocmpkoepoaaGreatUB4
import Derived.KernelRfl
set_option linter.all false
set_option maxRecDepth 100000
open Bool renaming true→W
namespace Go.Proofs.YtibjocmpkoepoaaGreat
open Go.y9 Go.y9.d5
def ZK : p6 := (un "|84|Vkz020F0G4^U|?`2z0F`~s@3`~s30|L~s305`2|E6`~s~R`~s218Y|LR2X~c|F:|q").1
def ZL : p6 := (un "|84|Vk|a0G|eX|?|m2X|F3|q").1
def Rq : p6 := (un "~=|K|o;$]10n01$Gn6aY|n&F|eZ~O<21z2+10n01|5|hn|[|_F]56J~UXz|@7D3|cLK~e55JLU~E~p;|3%%4z,|M5I1z3|k~TZz210H34I11~b,$2|l|w003|F4z4120LY]600z0:|8|H|e[~O$|H|`20z]%z5|[").1
def a228 : p6 := (un "%24$]1|J|Fk~1|p~p10z60|fIX|:%31G~TX~@332~>314^|f5m736k|F7z5|fIY|:%31G10|m1n1;J1WVU|>2^|W~>314^32>5n1:J1WVU4z736|v7^832~>|A9^82;:m|G;k|F<z5|fIZ|:%31G~TX~@332~>314^3H5^32>6|iP7|gk|F8|5|hk|q").1
def a229 : p6 := (un "|P2~t$]30X&G0F~7@0203_40H~H2;5~34l607~g0F~g0G~g55|o~g30;_|A<~g|`9=z~g2=>X|Gl?0@_A0F_A0G_A55BC_AU5D_A4b8Ez_A|NiF7AliGziH~4n121|Z0F0G5501302134_94z|=5$0G|C%z0+5~26G1&K0J2=|?247|z0F0G|H212Y|e9013z]104z|p2=~a*n121~yK|C501$0G~n~Q").1
def ZM : p6 := (un "~=345$]10n01|Vn|[~4Yz|@5=&I0F~q|T~r06%0F|Y|e901|i@z|=2$|H0F|Y0JA5112139,5$|>=1H005|F~<10J~n$|H]100z5|[").1
def ZN : p6 := (un "~o~t?]B~d$]30k|=Yz0+50Fz600012;K[~W~LL412;Kf~W~LL10G510X112;2Y*3~12;K]|j~LM|I2;K^|j~LM|I2;K_|j~LM|I2;K`|j~LM|I2;Kg|j~LM412;Kh|j~LM10G510X112;2Y03^40~>4515Y^41~m42;7Y748k*~c|fKa|:,G510X112;2Z03^40~>4515Y^41~m42;7Z748k*9|=Zz|fKb|:,G510X112;2Z*3z|fKc|:,G510X112;2Z03^40~>4515Y^41~m42;7Y748k*9|=Z~12;Kd~S~LN412;Ke~S~LN20G510X,G|D3Y142;25*~<|fK|i@|:11*lz|fK|iA|:~5G510X,G|D3Y142;25`:z0G`:z517X`:|E8*6|=~c|fK|iB|:~5G510X112;2Y03^40~>4515Y^41~m40~>45|wZ^419^42;7:74;k`4@z0G`4@z51=Y`4@|E>*<|=?z40|k<20z%|FX|Z0J~I|q").1
def a232 : p6 := (un "|84$]2;~lzz06030F|U0_z|sX|T|P>~lz|M3H0z5|p2;0Z|?|80F|`80|M3H1|Z0F|`70|M3H1z51213z0").1
def a233 : p6 := (un "~P45~R~]*kz03|r4X~O|N~=_|p_36|`3|t_316_367_32<5873l~c:~4k|R|_Xz|@7F0&J0G~q|T~r|B10|p0J5%12632?4|i]Dz5~4k|5+5|76287F1&K0G0J51121364~9~v64720630;|t100J5412U4|p0J|D5~K70K5~09~k:4b94;z<2<0=_>0K_>2??X_>0@^A0G^A0J^A|DBC^A1D^A0K^A21iFY^A53Ei~>A30iH^A~_I^A53iJX^A~kiK^A0G^A0J^A|DiMiN^A~_O^A0K^A53iPiQ^A30iR^A~_S^A53iTX^A~kiU^A|L8iLiVz^A|miWX_>7AiXk7>liYziZ~4k|5+60Xz6487F3&L0K2=|?2474065;0G0J5%~5L533431|D6|D7X|w0G0J|D:;1<0K53=>31?1@|DAX1B2;9CzD~4k~yL|C6|?10K|C5|?10J|C|I$]30l~Q").1
def a234 : p6 := (un "~=3456$]10X~dz0~4Xz|@6=0&I0F~q|T~r|z|=Xz6286M0&J0F|Y51121364~9~v6472063+5|76486M1&K0F|Y5112130J534531~K768~9~c:47406510H0F|Y5112130J534531~K70K|D891:L10;z|F<z10K|C5|?10J|C4|?10I|C|P$|H]100z5|[").1
def ZO : p6 := (un "|P2|K~t9$]3|J|x:H|yX~M`6z0G`~<33J`~<11`6z5~=`6|E3U<J|L|Kz|L74~<~U7z060330J~TY~@30L^32@4~3|K|v~<7+~E]z5330J102<1Y~@30L^|S4~3|K|v~<7+~Ec|Z|k1033J12541|W~8|j06z0+8|76|w9J<&N34J~w~N471062;~x0G|u~V~?23U7434J160N53|G~k94b:015~h<2;z<+~E`~yN|C8|[;30J~TZ~@3~x^|p^30M^338J^317^|K768^3U79^339J^3~k;^34b:45:<z^3<2=73>~f?+~E`|R330J~TY~@|p^333J^315^3|D4~m317^368^32@9|i]D73:~f;+~Ea|5+~EX~65z0").1
def a236 : p6 := (un "|P26$]30k|a0G|m01~@30F^|t^32>45736k*7~Q").1
def ZP : p6 := (un "~=3$]10k&F602?1|i@z2+10k|R|hXz|@|K&H0F~q|T~r|B130F|H5|PU32|e83z|N4z5+10k~yH|C|8$]10lz5|[").1
def ZQ : p6 := (un "~P45~t~]*n|[3|r0G4^B|?|N~s3~4n01|Z~b,$Xz0|x00z0+5~28F1&K|t,G542|W~866~97|M47|z|t100G5412313140K~?56~r|w~U9$]7|76288F7&M|^~q|T~r206310J|^|u5112134_304z|=~v10M|C7|?10K|C501$0J~n~Q").1
def ZR : p6 := (un "~=$]10k|a|m0n132]|I^20F^22>3n132]=724k]105z5|[").1
def ZS : p6 := (un "~P45~]*kz0|_Xz|@5F&J0G~q|T~r|B1;0G0J5%1231H1465216Y4^G3~3z|N809|Q0J|Q2?;X|Q0<^=0G^=0J^=|D>?^=1@^=0G^=0J^=21CY^=|DBD^=1E^=2>AiF|Q7=iGk7:liH0i~`J31H_J~_K_J0G_J0J_J|DiMiN_J~_O_J~?iLiP_J32iQ_J~_R_J2;iSm_J0iT^U31H^U~_V^U0G^U0J^U|DiXiY^U~_Z^U~?iWi[^U33i]0^U~_]1^U2;i]2m_J7iUi~pk7iJli]4zi]5~4k~yJ|C|I$]30l~Q").1
def ZT : p6 := (un "~o|Vkz0~4Xz|@4;&I0F~q|T~r|B130F|Y5%~5G2;34z5|hl~yI|C|P|Vk|q").1
def ZU : p6 := (un "~=$]10k|a2<0m01^20F^2H3^22>4|i@725|v~m70F^74b<~F^70F^7H:^72;9;77<k]10=z5|[").1
def ZV : p6 := (un "|84|Vk|a0G4b=|?|m2X|F3|q").1
def ZW : p6 := (un "~P3~]*k$|t10|p12|s3*4~Q").1
def ZX : p6 := (un "~=$]10k|a2;0Y01_20F_22;3Z72l|b105z5|[").1
def ZY : p6 := (un "~P45|G|o;~]*k$]40n121z0+70G~S6M]9~2:DL|cON~e|DMO10]501&K0J2>0102_30K_|WH_315_366_32@4773l8|]~4k|R0131H100K~?12U73~W~j~i~z|X|M7L4z332L~Tm~@333L^314^|f5m736~f7~4k~yK|x|:~5OY]900$]30l~Q").1
def ZZ : p6 := (un "~P345~]~p:G|=k$34I10~7?2X]5~B60335I102<1X~@335I^314^32<5Y^306~;0K~;|N8^|g7l973:|v;z<|_kz5336I10|LR1Xn1:<=K<|n|N20~N|_kz5336I102<1X~@30K^3|N47|K|v~<7|_k|Z33H~TX02_336~`31|`333H_316_32>~?73l8|=9~6|>").1
def aa0 : p6 := (un "|84|Vk|a0G4b>|?|m2X|F3|q").1
def aa1 : p6 := (un "~=|K68|o;IJK$]10n01~dz0+60F|j6L~S~2<5>0|cNM~e|DLN10]|P$|H|Y6~502|F3z|t2=|711ZZz4120NY]800$|H4b?n30z]|Iz0+90F]:6O];|7628<@@3|cQP|d206|P|DOQ10]5|?10J0K=|w0|_2|E20QY];00$0J]100z5|[").1
def aa2 : p6 := (un "~o|G:>?@~d*X$Gn6b@|n&F|eZ~O<21z2|hX*Y|R+70G~S6M]9~2:3L|cON~e|DMO10|x|?30J2<0Y01^20J^22<3Z724kz5|hX*Y|5~5OY]900|a0G4bA0X1~M?30?31?32|y405~U6$0K|^~I]|P~6203z0").1
def aa3 : p6 := (un "|P2~t$]30X&G|eK~O<21z2~4[|R30F@0301~5G|e434zz5~4]|Z|HE0$?20?21|=3|y4&K2<~a0K~n|R2`8?z0F`8?Bz0F0F@2303140G~b|;$6|l1@0~?`8z0F`~F@9`~F31:`8|E;`8z0J`8|]11,$=|l|w0<>@030@|AA8@131C|AD?$]30X~Q").1
def aa4 : p6 := (un "~P3~d*X$31F%G|eS12z?30?31|F4*5~6203z0").1
def aa5 : p6 := (un "~P3~d*X$~kF1G|eW|??20?21|F3*4~6203z0").1
def aa6 : p6 := (un "~P45~R9@~]*X|=X~131H|j10z60|fMX|:10332H10~7?2Xz3~4X|=Y|5~4Y]40X~6012;MY]8~LN|I2;MZ~S~LN|I2;M[~S~LN412;M]~S~LN0132H100G|eS12z03?40?41|y5~U6&L2<~a|^*X|x00|R|WH~TY~@30K^32<4Y7|K~f6~4X|=^|Z0K~n|=X|5~4X|=Y~630|>").1
def aa7 : p6 := (un "~o|G~d~10F|x60]5~26C1|cKJ~e0K*~O|p0F|Y51121|f04z501|Y~I|5~5KY]500|Vn121|q").1
theorem i261:bp Tryz.prog Tryz.f261=W:=by kernel_rfl
def aa8 : p6 := (un "~=34$]10k$Gn6bB|n&F602?1|i]Dz2+10k|Z0F4bC0X$?20?21|F3*~z|H2?0X01^20H^22>3|i@724|v5^60I^60F^668^62;7976:k]10;z5|[").1
def aa9 : p6 := (un "%24$]1|J|Fk~1|p~p10z60|fIY|:%31GU30|e|A~M^|W~>3304^315^32<6~3|g|v8~Z34~>91:~Z2;;~39<k|F=z5|fIZ|:%31GU30>~l|nB00|?~53^434~>~8^4|m6~347k|F8|Z31GU30>~l|nB00|?~53^434~>~8^42;6~347k|F8|q").1
def ab0 : p6 := (un "~P345~]~p:G|=kz03|k10~K31H13642<2~E6~;31I~;|w~;69~;31H~;1;~;6<~;2<:=77l>0?_@32~`@1A_@|e@BXn1:<=K<|n_@|NC7@lDzE|_k|R+5~26<1&K|k~w~N47|B1;|k100K5312~k34a84z|N~E6~;|k~;|w~;0K~;53|o~;~k;~;31H~;1=~;0K~;~?>?~;31@~;1A~;|L4<Bz~;|NC77lD0E_F31~`F~_G_F0K_F|DiHi~`F~_J_F|e@iKYn1:6FDZO<|n_F|NiL7iFliM0iN_O31~`O~_P_O0K_O|DiQiR_O~_S_O31~`O~_U_O|DiVX_O~_W_O2=iTi~3iOliYziZ|_k~yK|C501$|k10531X302132<4X|=5~6|>").1
def ab1 : p6 := (un "|I234~t$]4|J]5:H~W:I|j0k~M33K~Tm02_330L_31|`|f5~33l607~g`=z0G~gU8J~g33K_|A;~g|bZ:<z~g|D9=_|A>~g`=z~kL~g|L7?@z~g|mAX|GlB|j0C~67z0").1
def ab2 : p6 := (un "~=3$]10X~dz0|@|K&H0FH12=0203^40F^40H^4I5~m44bH7z^408_9|H_92?:X_~D;^<0F^<|H^<I=>^<4bI?z^<0@_A0F_A|H_AIBC_A2;Dn132^7^<7AlE_97<iFk^479liG74iH~fiI4706,H|C|8$|H]100z5|[").1
def ab3 : p6 := (un "~o|G~d~10F|x60]5~26C1|cKJ~e0K*~O|p0F|Y~?12U73E04zz501|Y~I|5~5KY]500|Vn121|q").1
def ab4 : p6 := (un "~o|G~d~10F|x60]5~26C1|cKJ~e0K*~O|p0F|Y51121|f04z501|Y~I|5~5KY]500|Vn121|q").1
theorem i280:bp Tryz.prog Tryz.f280=W:=by kernel_rfl
def ab5 : p6 := (un "|P2~t|o;<=>?@AJK$]30X|=X|yX|a0G5501U~[~W;|3%%4z,|M5L3$0G|C701$]8;|3%10z~130L10]?4bJ1z]@~2A5>03|cVU~e0V]900|a|u|H4bA012z03?40?41?42]:05];06]<07&R2<~a0R*X|=X]500~yO0P0QC31N0|A31|j02|E20VY]@00z0330L~TZ~@334L^314^|t^36~m32@~?7~0k|]~4X|=X|y[|ZU5L~kN|H4bK012z03?40?41]=05]>06&T<20z%*X|=X|y^|Z0S|u~n|x+~EX~630405z0").1
theorem i282:bp Tryz.prog Tryz.f282=W:=by kernel_rfl
def ab6 : p6 := (un "~o~t9NO~d*X&G0F~7@0203_40F_40G_45556~HU~?~H4bL~F~H|N974l~h;010G|FX~n|Z0G|C40X]5|[010F0G550130213~S4bJ4z]9~2:CI|cON~e0F0K4bC|[2?30?31~U|b705&L2;~a0G|FX~n~yJ|^L%z0M|=2|y3z~5OY]900$0J|9Y0K]2~42~6203z0").1
def ab7 : p6 := (un "~=$]10k|a|m0n132~Z01^20F^22>3n132^R724k]105z5|[").1
def ab8 : p6 := (un "~=$]10k|a|m0n132]|I^20F^22>3n132]=724k]105z5|[").1
def ab9 : p6 := (un "~=~r<$]10Xz0|hFz600012;HY~n|]I412;HZ~n|]I+10X~6012;H[|x~LJ|I2;Hb|x~LJ|I2;Hf|x~LJ412;H|i@|x~LJ+10Y~6012;H]]5~LK|I2;H^]5~LK|I2;H_]5~LK|I2;H`]5~LK|I2;Ha]5~LK|I2;Hc]5~LK|I2;Hd]5~LK|I2;He]5~LK|I2;Hg]5~LK|I2;Hh]5~LK412;H|iA]5~LK+10Zz5|fH|iB|:%]10[|5+10n121z5|[").1
def ac0 : p6 := (un "|P234~t|oBO]<$]3|J|x:G|yX~Uk~MC31JX10`~<C31JY`~<12`~RzC31JZ`~R|E|b7+803]~D5~1|k]:10z60|fPY|:%31I30011]502~Ulz5|fPZ|:%|H34I11510213|y|b60l~6012;P[];~LQ412;Pf];~LQ01|u2;0Y]~EY]601z5|fPa|:%|u2;0Z01^20N^22;3Z724k|yZ~U5z5|fPb|:%|u2;0Z|yY]601z5|fPc|:%|u2;0Z01^20N^22;3Y724k|yZ~U5~6012;Pd]<~LR412;Pe]<~LR01|u~V2;+~EY]602z5|fP|i@|:%|yY]60lz5|fP|iA|:%|u|u~V2;12]500~U3z5|fP|iB|:%~V|u|sY~@30N^30O^|f45736k]500~U7|Z|u2;0Y01^20N^22;3Y724k|yY]605~6~E6z0").1
def ac3 : p6 := (un "%2$]1|J|Fkz0603|p104bJ1z2=2X0~N|hkz53|p~TY|T|P34G~TX~@|W~>3304^315^32<6~3|g|v8~Z31~>9~k:~Z4bW;z79<k|F=z53|p~TZ|T|P34G10|m1X~@|W~>3U34^3>~l|n^3B0001z5~R|gk|F8|Z34G~TX~@|W~>3U34^3>~l|n^3B0001z5~R|gk|F8|q").1
def ac4 : p6 := (un "%24$]1|J|Fk~1|p~p10z60|fIX|:%31G~TX~@332~>314^|f5m736k|F7z5|fIY|:%31G10|m1n1;J1WVU|>2^|W~>314^32>5n1:J1WVU4z736|v7^832~>|A9^82;:m|G;k|F<z5|fIZ|:%31G~TX~@332~>314^3H5^32>6|iP7|gk|F8|5|hk|q").1
end Go.Proofs.YtibjocmpkoepoaaGreat

